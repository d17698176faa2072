/- Parts of the proof. -/
import Derived.Test.YtacihodamichhaaGreatDoorC13
set_option maxHeartbeats 8000000
namespace Go.Proofs.YtacihodamichhaaGreatDoor
open Go.RowKit
def numR(l:List UInt8):Int:=if errL l=0 then numL l else 0
def denR(l:List UInt8):Int:=if errL l=0 then(denL l:Int)else 0
def qfw(l:List UInt8)(v:Value)(w':World):Prop:=∃x a n c y a' m e,v=.tuple #[.agg #[.bool x,.slice a n c,.bool y,.slice a' m e],.int .i64 (errL l)]∧RatV w' (.agg #[.bool x,.slice a n c,.bool y,.slice a' m e]) (numR l) (denR l)∧AU w' a∧AU w' a'
theorem qsp(s:ByteArray)(w:World)(hs:s.size≤5000):Calls Tryz.prog 115 #[.string s,.int .i64 65536] w (RetP (fun v w'=>qfw s.data.toList v w') w):=by
 obtain⟨l,hl⟩:∃l,s.data.toList=l:=⟨_,rfl⟩
 have hll:l.length≤5000:=by rw[←hl,←Lib.size_eq];exact hs
 rw[hl];have ht60:(topL l).length≤5000:=Nat.le_trans (qey l) hll;have hb60:(botL l).length≤5000:=Nat.le_trans (qga l) hll;have hp60:(absL (topL l)).length≤5000:=Nat.le_trans (qfg _) ht60
 -- an error
 have herr:∀c:Int,c≠0→errL l=c→Calls Tryz.prog 115 #[.string s,.int .i64 65536] w (Ret (.tuple #[.agg #[.bool false,.slice none 0 0,.bool false,.slice none 0 0],.int .i64 c]) w)→Calls Tryz.prog 115 #[.string s,.int .i64 65536] w (RetP (fun v w'=>qfw l v w') w):=by
  intro c hc he h;refine h.mono ?_
  rintro e w' ⟨rfl,hb⟩;refine⟨_,rfl,⟨false,none,0,0,false,none,0,0,by rw[he],?_,AU.none _,AU.none _⟩,hb⟩
  unfold numR denR;rw[he,if_neg hc,if_neg hc];exact RatV.zero w'
 by_cases h1:digB (absL (topL l))=true
 ·by_cases h2:divB l=true
  ·by_cases h3:digB (botL l)=true
   ·by_cases h4:zerB (botL l)=true
    ·exact herr 19 (by decide) (by unfold errL;simp[h1,h2,h3,h4]) (qsx s l _ _ _ true _ w hs hl rfl rfl h2 rfl rfl ht60 hb60 hp60 h1 rfl h3 h4)
    ·simp only[Bool.not_eq_true]at h4
     by_cases h6:badI (absL (topL l)) (negB (topL l))=true
     ·exact herr 3 (by decide) (by unfold errL;simp[h1,h2,h3,h4,h6]) (qsv s l _ _ _ true _ w hs hl rfl rfl h2 rfl rfl ht60 hb60 hp60 h1 rfl h3 h4 h6)
     ·simp only[Bool.not_eq_true]at h6
      by_cases h7:badI (botL l) false=true
      ·exact herr 3 (by decide) (by unfold errL;simp[h1,h2,h3,h4,h6,h7]) (qsu s l _ _ _ true _ w hs hl rfl rfl h2 rfl rfl ht60 hb60 hp60 h1 rfl h3 h4 h6 h7)
      ·simp only[Bool.not_eq_true]at h7
       by_cases h8:valD (botL l)=1
       ·exact herr 3 (by decide) (by unfold errL;simp[h1,h2,h3,h4,h6,h7,h8]) (qst s l _ _ _ true _ w hs hl rfl rfl h2 rfl rfl ht60 hb60 hp60 h1 rfl h3 h4 h6 h7 h8)
       ·by_cases h9:Nat.gcd (valD (absL (topL l))) (valD (botL l))=1
        ·refine(qsq s l _ _ _ true _ w hs hl rfl rfl h2 rfl rfl ht60 hb60 hp60 h1 rfl h3 h4 h6 h7 h8 h9).mono ?_
         have e0:errL l=0:=by unfold errL;simp[h1,h2,h3,h4,h6,h7,h8,h9]
         rintro e w' ⟨v,rfl,⟨x,a,n,c,y,a',m,k,rfl,hv,hu,hu'⟩,hb⟩;refine⟨_,rfl,⟨x,a,n,c,y,a',m,k,by rw[e0],?_,hu,hu'⟩,hb⟩
         unfold numR denR denL;rw[if_pos e0,if_pos e0,if_pos h2];exact hv
        ·exact herr 3 (by decide) (by unfold errL;simp[h1,h2,h3,h4,h6,h7,h8,h9]) (qss s l _ _ _ true _ w hs hl rfl rfl h2 rfl rfl ht60 hb60 hp60 h1 rfl h3 h4 h6 h7 h8 h9)
   ·simp only[Bool.not_eq_true]at h3
    exact herr 14 (by decide) (by unfold errL;simp[h1,h2,h3]) (qsy s l _ _ _ true _ w hs hl rfl rfl h2 rfl rfl ht60 hb60 hp60 h1 rfl h3)
  ·simp only[Bool.not_eq_true]at h2
   by_cases h6:badI (absL (topL l)) (negB (topL l))=true
   ·exact herr 3 (by decide) (by unfold errL;simp[h1,h2,h6]) (qsw s l _ _ _ false _ w hs hl rfl rfl h2 rfl rfl ht60 hb60 hp60 h1 rfl h6)
   ·simp only[Bool.not_eq_true]at h6
    refine(qsr s l _ _ _ false _ w hs hl rfl rfl h2 rfl rfl ht60 hb60 hp60 h1 rfl h6).mono ?_
    have e0:errL l=0:=by unfold errL;simp[h1,h2,h6]
    rintro e w' ⟨v,rfl,⟨x,a,n,c,rfl,hv,hu⟩,hb⟩;refine⟨_,rfl,⟨x,a,n,c,false,none,0,0,by rw[e0],?_,hu,AU.none _⟩,hb⟩
    unfold numR denR denL;rw[if_pos e0,if_pos e0,h2];exact hv
 ·simp only[Bool.not_eq_true]at h1
  exact herr 14 (by decide) (by unfold errL;simp[h1]) (qsz s l _ _ _ (divB l) _ w hs hl rfl rfl rfl rfl rfl ht60 hb60 hp60 h1)
theorem qlb(s:ByteArray)(w:World)(hs:s.size≤5000):Calls Tryz.prog 63 #[.string s] w (RetP (fun v w'=>qfw s.data.toList v w') w):=by
 have H:=hI (fun w'=>qsp s w' hs);generalize s.data.toList=l at*;have HR:=hI (Blk.new w #[.bool false,.slice none 0 0,.bool false,.slice none 0 0] 77);clear hs;unfold qfw at*;generalize errL l=code at*
 go_enter Tryz.func63,Tryz.ntmps63
 go_wp2_with (go_at_call 115;refine(H.out _).mono ?_;rintro e w3 ⟨v,rfl,⟨x5,a5,n5,c5,y5,b5,m5,k5,rfl,hv,hau,hau'⟩,hb3⟩;have hr:=HR.out.below hb3;obtain⟨⟨r0,r1,r2,r3⟩,f0,f1,f2,f3⟩:=qat hr;obtain⟨hv6,hb6⟩:=RatV.put4 hv hr;have Hv6:=hI hv6;have HA6:=hI (((((hau).set w.heap.size 0 (.bool x5)).set w.heap.size 1 (.slice a5 n5 c5)).set w.heap.size 2 (.bool y5)).set w.heap.size 3 (.slice b5 m5 k5));have HA7:=hI (((((hau').set w.heap.size 0 (.bool x5)).set w.heap.size 1 (.slice a5 n5 c5)).set w.heap.size 2 (.bool y5)).set w.heap.size 3 (.slice b5 m5 k5));have Hb6:=hI hb6;have Hbel:=hI (qaw (b:=w.heap.size) (.bool x5) (.slice a5 n5 c5) (.bool y5) (.slice b5 m5 k5) ((qac w (.cells #[.bool false,.slice none 0 0,.bool false,.slice none 0 0] 77)).via hb3 (qac w _).size) (Nat.le_refl _));clear hb3 hv hr hv6 hb6)
 obtain⟨⟨q0,q1,q2,q3⟩,-⟩:=qat Hb6.out;exact bodyPost_ret (v:=.tuple #[.agg #[.bool x5,.slice a5 n5 c5,.bool y5,.slice b5 m5 k5],.int .i64 code]) (by simp[results,Tryz.results63,go_sem,q0,q1,q2,q3]) rfl ⟨_,rfl,⟨_,_,_,_,_,_,_,_,rfl,Hv6.out,HA6.out,HA7.out⟩,Hbel.out⟩
end Go.Proofs.YtacihodamichhaaGreatDoor
namespace Go.Proofs.YtacihodamichhaaGreatDoor
open Go.RowKit
def dn(q:Int):Int:=if q=0 then 1 else q
namespace Dr
theorem qhy(v:Value)(p q:Int)(w:World)(h:RatV w v p q):Calls Tryz.prog 109 #[v] w (Ret (.bool (decide (dn q=1))) w):=by
 by_cases h0:q=0
 ·subst h0
  rw[show decide (dn 0=1)=true from rfl];exact(qd5 v p w h).mono fun _ _ h=>rdR h
 ·rw[show dn q=q by unfold dn;rw[if_neg h0]]
  exact qhx v p q w h h0
end Dr
theorem qhy(v:Value)(p q:Int)(w:World)(h:RatV w v p q):Calls Tryz.prog 109 #[v] w (Ret (.bool (decide (dn q=1))) w):=(Dr.qhy v p q w h).mono fun _ _ h=>h.n
namespace Dr
theorem qii(v:Value)(p q:Int)(w:World)(h:RatV w v p q)(h0:q≠0):Calls Tryz.prog 113 #[v] w (RetP (fun r w'=>IntV w' r q) w):=by
 obtain⟨x,a,n,c,x',a',n',c',rfl,h⟩:=h.open
 have hR:Blk ((w.alloc (.cells #[.bool x,.slice a n c,.bool x',.slice a' n' c'] 77)).alloc (.cells #[.bool false,.slice none 0 0] 75)) (w.heap.size+1) #[.bool false,.slice none 0 0] 75:=by
  have h:=Blk.new (w.alloc (.cells #[.bool x,.slice a n c,.bool x',.slice a' n' c'] 77)) #[.bool false,.slice none 0 0] 75
  simpa using h
 have hA:Blk ((w.alloc (.cells #[.bool x,.slice a n c,.bool x',.slice a' n' c'] 77)).alloc (.cells #[.bool false,.slice none 0 0] 75)) w.heap.size #[.bool x,.slice a n c,.bool x',.slice a' n' c'] 77:=(Blk.new w _ _).old _;have HR:=hI hR;have HA:=hI hA;have HK:=hI (qa2 w (.cells #[.bool x,.slice a n c,.bool x',.slice a' n' c'] 77) (.cells #[.bool false,.slice none 0 0] 75));have H1:=hI (qeh _ q ((w.alloc (.cells #[.bool x,.slice a n c,.bool x',.slice a' n' c'] 77)).alloc (.cells #[.bool false,.slice none 0 0] 75)) (h.parts.2.mono HK.out.b));have HV:=hI (fun w' (hb:Below ((w.alloc (.cells #[.bool x,.slice a n c,.bool x',.slice a' n' c'] 77)).alloc (.cells #[.bool false,.slice none 0 0] 75)).heap.size ((w.alloc (.cells #[.bool x,.slice a n c,.bool x',.slice a' n' c'] 77)).alloc (.cells #[.bool false,.slice none 0 0] 75)) w')=>(h.parts.2.mono HK.out.b).mono hb.b);have hsg:((q.sign:Int)==0)=false:=by simpa using h0
 generalize q.sign=sg at*;clear h hR hA h0
 go_enter Tryz.func113,Tryz.ntmps113
 go_wp2_with (go_at_call 131;refine(H1.out).mono ?_;rintro e1 w1 ⟨rfl,hb1⟩;have hr:=HR.out.below hb1.b;obtain⟨⟨r0,r1⟩,f0,f1⟩:=qak hr;obtain⟨⟨s0,s1,s2,s3⟩,-⟩:=qat (HA.out.below hb1.b);obtain⟨hv6,hb6⟩:=IntV.put2 (HV.out _ hb1) hr;have Hv6:=hI hv6;have Hb6:=hI hb6;have Hbel:=hI (qcz (b:=w.heap.size+1) x' a' n' c' (HK.out.via hb1 HK.out.size) (by omega));clear hr hv6 hb6 hb1)
 obtain⟨⟨q0,q1⟩,-⟩:=qak Hb6.out;exact bodyPost_ret (v:=.agg #[.bool x',.slice a' n' c']) (by simp[results,Tryz.results113,go_sem,q0,q1]) rfl ⟨_,rfl,Hv6.out,Hbel.out⟩
end Dr
theorem qii(v:Value)(p q:Int)(w:World)(h:RatV w v p q)(h0:q≠0):Calls Tryz.prog 113 #[v] w (RetP (fun r w'=>IntV w' r q) w):=(Dr.qii v p q w h h0).mono fun _ _ h=>h.n
namespace Dr
theorem qm0(v:Value)(p q:Int)(w:World)(h:RatV w v p q):Calls Tryz.prog 113 #[v] w (RetP (fun r w'=>IntV w' r (dn q)) w):=by
 by_cases h0:q=0
 ·subst h0
  exact qfd v p w h
 ·rw[show dn q=q by unfold dn;rw[if_neg h0]]
  exact qii v p q w h h0
end Dr
theorem qm0(v:Value)(p q:Int)(w:World)(h:RatV w v p q):Calls Tryz.prog 113 #[v] w (RetP (fun r w'=>IntV w' r (dn q)) w):=(Dr.qm0 v p q w h).mono fun _ _ h=>h.n
def cmpQ(p q p' q':Int):Int:=cmpZ (p*dn q') (p'*dn q)
def FewR(p q:Int):Prop:=Few p.natAbs∧Few (dn q).natAbs
namespace Dr
set_option maxRecDepth 100000 in
theorem qnu(u v:Value)(p q p' q':Int)(w:World)(h:RatV w u p q)(h':RatV w v p' q')(hf:FewR p q)(hf':FewR p' q'):Calls Tryz.prog 64 #[u,v] w (Ret (.int .i64 (cmpQ p q p' q')) w):=by
 obtain⟨x,a,n,c,x',a',n',c',rfl,h⟩:=h.open;obtain⟨y,e,m,k,y',e',m',k',rfl,h'⟩:=h'.open;have hA:Blk ((w.alloc (.cells #[.bool x,.slice a n c,.bool x',.slice a' n' c'] 77)).alloc (.cells #[.bool y,.slice e m k,.bool y',.slice e' m' k'] 77)) w.heap.size #[.bool x,.slice a n c,.bool x',.slice a' n' c'] 77:=(Blk.new w _ _).old _
 have hB:Blk ((w.alloc (.cells #[.bool x,.slice a n c,.bool x',.slice a' n' c'] 77)).alloc (.cells #[.bool y,.slice e m k,.bool y',.slice e' m' k'] 77)) (w.heap.size+1) #[.bool y,.slice e m k,.bool y',.slice e' m' k'] 77:=by
  have h:=Blk.new (w.alloc (.cells #[.bool x,.slice a n c,.bool x',.slice a' n' c'] 77)) #[.bool y,.slice e m k,.bool y',.slice e' m' k'] 77
  simpa using h
 have HK:=hI (qa2 w (.cells #[.bool x,.slice a n c,.bool x',.slice a' n' c'] 77) (.cells #[.bool y,.slice e m k,.bool y',.slice e' m' k'] 77));have HS:=hI (fun w' (hb:Below ((w.alloc (.cells #[.bool x,.slice a n c,.bool x',.slice a' n' c'] 77)).alloc (.cells #[.bool y,.slice e m k,.bool y',.slice e' m' k'] 77)).heap.size ((w.alloc (.cells #[.bool x,.slice a n c,.bool x',.slice a' n' c'] 77)).alloc (.cells #[.bool y,.slice e m k,.bool y',.slice e' m' k'] 77)) w')=>And.intro (qat (hA.below hb.b)).1 (qat (hB.below hb.b)).1);have HP:=hI (fun w' (hb:Below ((w.alloc (.cells #[.bool x,.slice a n c,.bool x',.slice a' n' c'] 77)).alloc (.cells #[.bool y,.slice e m k,.bool y',.slice e' m' k'] 77)).heap.size ((w.alloc (.cells #[.bool x,.slice a n c,.bool x',.slice a' n' c'] 77)).alloc (.cells #[.bool y,.slice e m k,.bool y',.slice e' m' k'] 77)) w')=>And.intro ((h.mono HK.out.b).mono hb.b) ((h'.mono HK.out.b).mono hb.b));have H1:=hI (fun w' (hb:Below ((w.alloc (.cells #[.bool x,.slice a n c,.bool x',.slice a' n' c'] 77)).alloc (.cells #[.bool y,.slice e m k,.bool y',.slice e' m' k'] 77)).heap.size ((w.alloc (.cells #[.bool x,.slice a n c,.bool x',.slice a' n' c'] 77)).alloc (.cells #[.bool y,.slice e m k,.bool y',.slice e' m' k'] 77)) w')=>qhy _ p q w' ((h.mono HK.out.b).mono hb.b));have H2:=hI (fun w' (hb:Below ((w.alloc (.cells #[.bool x,.slice a n c,.bool x',.slice a' n' c'] 77)).alloc (.cells #[.bool y,.slice e m k,.bool y',.slice e' m' k'] 77)).heap.size ((w.alloc (.cells #[.bool x,.slice a n c,.bool x',.slice a' n' c'] 77)).alloc (.cells #[.bool y,.slice e m k,.bool y',.slice e' m' k'] 77)) w')=>qhy _ p' q' w' ((h'.mono HK.out.b).mono hb.b));have HF:=hI (And.intro hf hf');clear hA hB h h' hf hf'
 by_cases hq:dn q=1
 ·by_cases hq':dn q'=1
  ·have H3:=hI (fun w' (hb:Below ((w.alloc (.cells #[.bool x,.slice a n c,.bool x',.slice a' n' c'] 77)).alloc (.cells #[.bool y,.slice e m k,.bool y',.slice e' m' k'] 77)).heap.size ((w.alloc (.cells #[.bool x,.slice a n c,.bool x',.slice a' n' c'] 77)).alloc (.cells #[.bool y,.slice e m k,.bool y',.slice e' m' k'] 77)) w')=>qbf _ _ p p' w' (HP.out w' hb).1.parts.1 (HP.out w' hb).2.parts.1)
   unfold cmpQ;rw[hq,hq',Int.mul_one,Int.mul_one];rw[decide_eq_true hq]at H1;rw[decide_eq_true hq']at H2;generalize cmpZ p p'=R at*;clear hq hq'
   go_enter Tryz.func64,Tryz.ntmps64
   obtain⟨⟨s0,s1,s2,s3⟩,t0,t1,t2,t3⟩:=HS.out _ (Below.refl _ _)
   go_wp2_with (first
    |(have _t:=Hb1;clear _t;go_at_call 109;refine(H2.out _ Hb1.out).mono ?_;rintro e w2 ⟨rfl,hb2⟩;have Hb2:=hI (qab Hb1.out hb2);obtain⟨⟨s0,s1,s2,s3⟩,t0,t1,t2,t3⟩:=HS.out _ Hb2.out;clear hb2)
    |(go_at_call 109;refine(H1.out _ (Below.refl _ _)).mono ?_;rintro e w1 ⟨rfl,hb1⟩;have Hb1:=hI hb1;obtain⟨⟨s0,s1,s2,s3⟩,t0,t1,t2,t3⟩:=HS.out _ hb1;clear hb1)
    |(go_at_call 116;refine(H3.out _ Hb2.out).mono ?_;rintro e w3 ⟨rfl,hb3⟩))
   go_ret
   exact⟨rfl,HK.out.via (qab Hb2.out hb3) HK.out.size⟩
  ·rw[decide_eq_true hq]at H1
   rw[decide_eq_false hq']at H2;have H3:=hI (fun w' (hb:Below ((w.alloc (.cells #[.bool x,.slice a n c,.bool x',.slice a' n' c'] 77)).alloc (.cells #[.bool y,.slice e m k,.bool y',.slice e' m' k'] 77)).heap.size ((w.alloc (.cells #[.bool x,.slice a n c,.bool x',.slice a' n' c'] 77)).alloc (.cells #[.bool y,.slice e m k,.bool y',.slice e' m' k'] 77)) w')=>qm0 _ p' q' w' (HP.out w' hb).2);have H4:=hI (fun w' (hb:Below ((w.alloc (.cells #[.bool x,.slice a n c,.bool x',.slice a' n' c'] 77)).alloc (.cells #[.bool y,.slice e m k,.bool y',.slice e' m' k'] 77)).heap.size ((w.alloc (.cells #[.bool x,.slice a n c,.bool x',.slice a' n' c'] 77)).alloc (.cells #[.bool y,.slice e m k,.bool y',.slice e' m' k'] 77)) w') r (hr:IntV w' r (dn q'))=>qd1 _ r p (dn q') w' (HP.out w' hb).1.parts.1 hr HF.out.1.1 HF.out.2.2);have H8:=hI (fun w' (hb:Below ((w.alloc (.cells #[.bool x,.slice a n c,.bool x',.slice a' n' c'] 77)).alloc (.cells #[.bool y,.slice e m k,.bool y',.slice e' m' k'] 77)).heap.size ((w.alloc (.cells #[.bool x,.slice a n c,.bool x',.slice a' n' c'] 77)).alloc (.cells #[.bool y,.slice e m k,.bool y',.slice e' m' k'] 77)) w')=>qm0 _ p q w' (HP.out w' hb).1);have H9:=hI (fun w' (hb:Below ((w.alloc (.cells #[.bool x,.slice a n c,.bool x',.slice a' n' c'] 77)).alloc (.cells #[.bool y,.slice e m k,.bool y',.slice e' m' k'] 77)).heap.size ((w.alloc (.cells #[.bool x,.slice a n c,.bool x',.slice a' n' c'] 77)).alloc (.cells #[.bool y,.slice e m k,.bool y',.slice e' m' k'] 77)) w') r (hr:IntV w' r (dn q))=>qd1 _ r p' (dn q) w' (HP.out w' hb).2.parts.1 hr HF.out.2.1 HF.out.1.2);have H10:=hI (fun w' r r' (hr:IntV w' r (p*dn q')) (hr':IntV w' r' (p'*dn q))=>qbf r r' _ _ w' hr hr');unfold cmpQ;generalize cmpZ (p*dn q') (p'*dn q)=R at*
   go_enter Tryz.func64,Tryz.ntmps64
   obtain⟨⟨s0,s1,s2,s3⟩,t0,t1,t2,t3⟩:=HS.out _ (Below.refl _ _)
   go_wp2_with (first
    |(have _t:=Hb1;clear _t;go_at_call 109;refine(H2.out _ Hb1.out).mono ?_;rintro e w2 ⟨rfl,hb2⟩;have Hb2:=hI (qab Hb1.out hb2);obtain⟨⟨s0,s1,s2,s3⟩,t0,t1,t2,t3⟩:=HS.out _ Hb2.out;clear hb2)
    |(go_at_call 109;refine(H1.out _ (Below.refl _ _)).mono ?_;rintro e w1 ⟨rfl,hb1⟩;have Hb1:=hI hb1;obtain⟨⟨s0,s1,s2,s3⟩,t0,t1,t2,t3⟩:=HS.out _ hb1;clear hb1))
   refine wp_region_held_drew (S:=(fun w'=>w'.cell? ⟨w.heap.size,0,none⟩=some (.bool x)∧w'.cell? ⟨w.heap.size,1,none⟩=some (.slice a n c)∧w'.cell? ⟨w.heap.size,2,none⟩=some (.bool x')∧w'.cell? ⟨w.heap.size,3,none⟩=some (.slice a' n' c')∧w'.cell? ⟨w.heap.size+1,0,none⟩=some (.bool y)∧w'.cell? ⟨w.heap.size+1,1,none⟩=some (.slice e m k)∧w'.cell? ⟨w.heap.size+1,2,none⟩=some (.bool y')∧w'.cell? ⟨w.heap.size+1,3,none⟩=some (.slice e' m' k'))) (by kernel_rfl) (by exact(fun h=>⟨h.1.1,h.1.2.1,h.1.2.2.1,h.1.2.2.2,h.2⟩) (HS.out _ (Hb2.out.dn 1))) (fun hHeld=>?_)
   refine wpAnyH_take (i:=0) (v:=?v1) rfl (by kernel_rfl) (by kernel_rfl) (by kernel_rfl) (fun _ _ _ h=>h) (Or.inl ⟨by rfl,?hy1⟩) (by assumption) ?rest1
   case hy1=>(intro w hSw;(try dsimp only at hSw);go_simp;try(with_reducible rfl))
   try simp only[Act.put,List.getElem_toArray,List.getElem_cons_zero,List.setIfInBounds_toArray,List.set_cons_zero,List.set_cons_succ]
   refine' tk 1 ?_;(try simp only[tkS]);refine' tk 2 ?_;(try simp only[tkS]);refine' tk 5 ?_;(try simp only[tkS]);refine' tk 6 ?_;(try simp only[tkS]);refine' tk 7 ?_;(try simp only[tkS]);refine tk1 3 (fun K hK=>?_)
   go_simp;go_at_call 113;refine(H3.out _ (Hb2.out.dn 1)).mono ?_
   rintro e5 w3 ⟨v3,rfl,hv3,hb3⟩;have Hb3:=hI (qab (Hb2.out.dn 1) hb3);obtain⟨x31,a31,k31,c31,rfl,hv3⟩:=hv3.open;have HO3:=hI hv3;clear hv3;clear hb3;refine hK.out _ _ (by exact(fun h=>⟨h.1.1,h.1.2.1,h.1.2.2.1,h.1.2.2.2,h.2⟩) (HS.out _ (Hb3.out))) (fun hHeld=>?_)
   clear hK K;(try simp only[tkS]);refine tk1 4 (fun K hK=>?_)
   go_simp;go_at_call 112;refine(H4.out _ (Hb3.out) _ HO3.out).mono ?_
   rintro e5 w4 ⟨v4,rfl,hv4,hb4⟩;have HO3:=hI (HO3.out.mono hb4.b);have Hb4:=hI (qab (Hb3.out) hb4);obtain⟨x41,a41,k41,c41,rfl,hv4⟩:=hv4.open;have HO4:=hI hv4;clear hv4;clear hb4;refine hK.out _ _ (by exact(fun h=>⟨h.1.1,h.1.2.1,h.1.2.2.1,h.1.2.2.2,h.2⟩) (HS.out _ (Hb4.out))) (fun hHeld=>?_)
   clear hK K;(try simp only[tkS]);refine tk1 8 (fun K hK=>?_)
   go_simp;go_at_call 113;refine(H8.out _ (Hb4.out)).mono ?_
   rintro e5 w8 ⟨v8,rfl,hv8,hb8⟩;have HO3:=hI (HO3.out.mono hb8.b);have HO4:=hI (HO4.out.mono hb8.b);have Hb8:=hI (qab (Hb4.out) hb8);obtain⟨x81,a81,k81,c81,rfl,hv8⟩:=hv8.open;have HO8:=hI hv8;clear hv8;clear hb8;refine hK.out _ _ (by exact(fun h=>⟨h.1.1,h.1.2.1,h.1.2.2.1,h.1.2.2.2,h.2⟩) (HS.out _ (Hb8.out))) (fun hHeld=>?_)
   clear hK K;(try simp only[tkS]);refine tk1 9 (fun K hK=>?_)
   go_simp;go_at_call 112;refine(H9.out _ (Hb8.out) _ HO8.out).mono ?_
   rintro e5 w9 ⟨v9,rfl,hv9,hb9⟩;have HO3:=hI (HO3.out.mono hb9.b);have HO4:=hI (HO4.out.mono hb9.b);have HO8:=hI (HO8.out.mono hb9.b);have Hb9:=hI (qab (Hb8.out) hb9);obtain⟨x91,a91,k91,c91,rfl,hv9⟩:=hv9.open;have HO9:=hI hv9;clear hv9;clear hb9;refine hK.out _ _ (by exact(fun h=>⟨h.1.1,h.1.2.1,h.1.2.2.1,h.1.2.2.2,h.2⟩) (HS.out _ (Hb9.out))) (fun hHeld=>?_)
   clear hK K;(try simp only[tkS]);refine tk1 10 (fun K hK=>?_)
   go_simp;go_at_call 116;refine(H10.out _ _ _ HO4.out HO9.out).mono ?_
   rintro e5 w10 ⟨rfl,hb10⟩;have HO3:=hI (HO3.out.mono hb10.b);have HO4:=hI (HO4.out.mono hb10.b);have HO8:=hI (HO8.out.mono hb10.b);have HO9:=hI (HO9.out.mono hb10.b);have Hb10:=hI (qab (Hb9.out) hb10);clear hb10;refine hK.out _ _ (by exact(fun h=>⟨h.1.1,h.1.2.1,h.1.2.2.1,h.1.2.2.2,h.2⟩) (HS.out _ (Hb10.out))) (fun hHeld=>?_)
   clear hK K;(try simp only[tkS]);refine' tk 11 ?_;(try simp only[tkS]);refine tkD ?_ _
   go_wp2_with fail
   go_ret
   exact⟨rfl,HK.out.via (Hb10.out) HK.out.size⟩
 ·rw[decide_eq_false hq]at H1
  have H3:=hI (fun w' (hb:Below ((w.alloc (.cells #[.bool x,.slice a n c,.bool x',.slice a' n' c'] 77)).alloc (.cells #[.bool y,.slice e m k,.bool y',.slice e' m' k'] 77)).heap.size ((w.alloc (.cells #[.bool x,.slice a n c,.bool x',.slice a' n' c'] 77)).alloc (.cells #[.bool y,.slice e m k,.bool y',.slice e' m' k'] 77)) w')=>qm0 _ p' q' w' (HP.out w' hb).2);have H4:=hI (fun w' (hb:Below ((w.alloc (.cells #[.bool x,.slice a n c,.bool x',.slice a' n' c'] 77)).alloc (.cells #[.bool y,.slice e m k,.bool y',.slice e' m' k'] 77)).heap.size ((w.alloc (.cells #[.bool x,.slice a n c,.bool x',.slice a' n' c'] 77)).alloc (.cells #[.bool y,.slice e m k,.bool y',.slice e' m' k'] 77)) w') r (hr:IntV w' r (dn q'))=>qd1 _ r p (dn q') w' (HP.out w' hb).1.parts.1 hr HF.out.1.1 HF.out.2.2);have H8:=hI (fun w' (hb:Below ((w.alloc (.cells #[.bool x,.slice a n c,.bool x',.slice a' n' c'] 77)).alloc (.cells #[.bool y,.slice e m k,.bool y',.slice e' m' k'] 77)).heap.size ((w.alloc (.cells #[.bool x,.slice a n c,.bool x',.slice a' n' c'] 77)).alloc (.cells #[.bool y,.slice e m k,.bool y',.slice e' m' k'] 77)) w')=>qm0 _ p q w' (HP.out w' hb).1);have H9:=hI (fun w' (hb:Below ((w.alloc (.cells #[.bool x,.slice a n c,.bool x',.slice a' n' c'] 77)).alloc (.cells #[.bool y,.slice e m k,.bool y',.slice e' m' k'] 77)).heap.size ((w.alloc (.cells #[.bool x,.slice a n c,.bool x',.slice a' n' c'] 77)).alloc (.cells #[.bool y,.slice e m k,.bool y',.slice e' m' k'] 77)) w') r (hr:IntV w' r (dn q))=>qd1 _ r p' (dn q) w' (HP.out w' hb).2.parts.1 hr HF.out.2.1 HF.out.1.2);have H10:=hI (fun w' r r' (hr:IntV w' r (p*dn q')) (hr':IntV w' r' (p'*dn q))=>qbf r r' _ _ w' hr hr');unfold cmpQ;generalize cmpZ (p*dn q') (p'*dn q)=R at*
  go_enter Tryz.func64,Tryz.ntmps64
  obtain⟨⟨s0,s1,s2,s3⟩,t0,t1,t2,t3⟩:=HS.out _ (Below.refl _ _)
  go_wp2_with (go_at_call 109;refine(H1.out _ (Below.refl _ _)).mono ?_;rintro e w1 ⟨rfl,hb1⟩;have Hb1:=hI hb1;obtain⟨⟨s0,s1,s2,s3⟩,t0,t1,t2,t3⟩:=HS.out _ hb1;clear hb1)
  refine wp_region_held_drew (S:=(fun w'=>w'.cell? ⟨w.heap.size,0,none⟩=some (.bool x)∧w'.cell? ⟨w.heap.size,1,none⟩=some (.slice a n c)∧w'.cell? ⟨w.heap.size,2,none⟩=some (.bool x')∧w'.cell? ⟨w.heap.size,3,none⟩=some (.slice a' n' c')∧w'.cell? ⟨w.heap.size+1,0,none⟩=some (.bool y)∧w'.cell? ⟨w.heap.size+1,1,none⟩=some (.slice e m k)∧w'.cell? ⟨w.heap.size+1,2,none⟩=some (.bool y')∧w'.cell? ⟨w.heap.size+1,3,none⟩=some (.slice e' m' k'))) (by kernel_rfl) (by exact(fun h=>⟨h.1.1,h.1.2.1,h.1.2.2.1,h.1.2.2.2,h.2⟩) (HS.out _ (Hb1.out.dn 1))) (fun hHeld=>?_)
  refine wpAnyH_take (i:=0) (v:=?v8) rfl (by kernel_rfl) (by kernel_rfl) (by kernel_rfl) (fun _ _ _ h=>h) (Or.inl ⟨by rfl,?hy8⟩) (by assumption) ?rest8
  case hy8=>(intro w hSw;(try dsimp only at hSw);go_simp;try(with_reducible rfl))
  try simp only[Act.put,List.getElem_toArray,List.getElem_cons_zero,List.setIfInBounds_toArray,List.set_cons_zero,List.set_cons_succ]
  refine' tk 1 ?_;(try simp only[tkS]);refine' tk 2 ?_;(try simp only[tkS]);refine' tk 5 ?_;(try simp only[tkS]);refine' tk 6 ?_;(try simp only[tkS]);refine' tk 7 ?_;(try simp only[tkS]);refine tk1 3 (fun K hK=>?_)
  go_simp;go_at_call 113;refine(H3.out _ (Hb1.out.dn 1)).mono ?_
  rintro e5 w3 ⟨v3,rfl,hv3,hb3⟩;have Hb3:=hI (qab (Hb1.out.dn 1) hb3);obtain⟨x31,a31,k31,c31,rfl,hv3⟩:=hv3.open;have HO3:=hI hv3;clear hv3;clear hb3;refine hK.out _ _ (by exact(fun h=>⟨h.1.1,h.1.2.1,h.1.2.2.1,h.1.2.2.2,h.2⟩) (HS.out _ (Hb3.out))) (fun hHeld=>?_)
  clear hK K;(try simp only[tkS]);refine tk1 4 (fun K hK=>?_)
  go_simp;go_at_call 112;refine(H4.out _ (Hb3.out) _ HO3.out).mono ?_
  rintro e5 w4 ⟨v4,rfl,hv4,hb4⟩;have HO3:=hI (HO3.out.mono hb4.b);have Hb4:=hI (qab (Hb3.out) hb4);obtain⟨x41,a41,k41,c41,rfl,hv4⟩:=hv4.open;have HO4:=hI hv4;clear hv4;clear hb4;refine hK.out _ _ (by exact(fun h=>⟨h.1.1,h.1.2.1,h.1.2.2.1,h.1.2.2.2,h.2⟩) (HS.out _ (Hb4.out))) (fun hHeld=>?_)
  clear hK K;(try simp only[tkS]);refine tk1 8 (fun K hK=>?_)
  go_simp;go_at_call 113;refine(H8.out _ (Hb4.out)).mono ?_
  rintro e5 w8 ⟨v8,rfl,hv8,hb8⟩;have HO3:=hI (HO3.out.mono hb8.b);have HO4:=hI (HO4.out.mono hb8.b);have Hb8:=hI (qab (Hb4.out) hb8);obtain⟨x81,a81,k81,c81,rfl,hv8⟩:=hv8.open;have HO8:=hI hv8;clear hv8;clear hb8;refine hK.out _ _ (by exact(fun h=>⟨h.1.1,h.1.2.1,h.1.2.2.1,h.1.2.2.2,h.2⟩) (HS.out _ (Hb8.out))) (fun hHeld=>?_)
  clear hK K;(try simp only[tkS]);refine tk1 9 (fun K hK=>?_)
  go_simp;go_at_call 112;refine(H9.out _ (Hb8.out) _ HO8.out).mono ?_
  rintro e5 w9 ⟨v9,rfl,hv9,hb9⟩;have HO3:=hI (HO3.out.mono hb9.b);have HO4:=hI (HO4.out.mono hb9.b);have HO8:=hI (HO8.out.mono hb9.b);have Hb9:=hI (qab (Hb8.out) hb9);obtain⟨x91,a91,k91,c91,rfl,hv9⟩:=hv9.open;have HO9:=hI hv9;clear hv9;clear hb9;refine hK.out _ _ (by exact(fun h=>⟨h.1.1,h.1.2.1,h.1.2.2.1,h.1.2.2.2,h.2⟩) (HS.out _ (Hb9.out))) (fun hHeld=>?_)
  clear hK K;(try simp only[tkS]);refine tk1 10 (fun K hK=>?_)
  go_simp;go_at_call 116;refine(H10.out _ _ _ HO4.out HO9.out).mono ?_
  rintro e5 w10 ⟨rfl,hb10⟩;have HO3:=hI (HO3.out.mono hb10.b);have HO4:=hI (HO4.out.mono hb10.b);have HO8:=hI (HO8.out.mono hb10.b);have HO9:=hI (HO9.out.mono hb10.b);have Hb10:=hI (qab (Hb9.out) hb10);clear hb10;refine hK.out _ _ (by exact(fun h=>⟨h.1.1,h.1.2.1,h.1.2.2.1,h.1.2.2.2,h.2⟩) (HS.out _ (Hb10.out))) (fun hHeld=>?_)
  clear hK K;(try simp only[tkS]);refine' tk 11 ?_;(try simp only[tkS]);refine tkD ?_ _
  go_wp2_with fail
  go_ret
  exact⟨rfl,HK.out.via (Hb10.out) HK.out.size⟩
end Dr
theorem qnu(u v:Value)(p q p' q':Int)(w:World)(h:RatV w u p q)(h':RatV w v p' q')(hf:FewR p q)(hf':FewR p' q'):Calls Tryz.prog 64 #[u,v] w (Ret (.int .i64 (cmpQ p q p' q')) w):=(Dr.qnu u v p q p' q' w h h' hf hf').mono fun _ _ h=>h.n
end Go.Proofs.YtacihodamichhaaGreatDoor
namespace Go.Proofs.YtacihodamichhaaGreatDoor
open Go.RowKit
theorem ES:ElemTy 164 9 1 16:=⟨Tryz.underlying164,by kernel_rfl⟩
theorem qla(a:Option Addr)(c:Nat)(w:World):Calls Tryz.prog 150 #[.slice a 1 c] w (fun e w'=>e=.returned (.tuple #[])∧Below w.heap.size w w'):=by
 go_enter Tryz.func150,Tryz.ntmps150
 go_wp2_with fail
 go_loopw [2,3] (fun i j wr=>i=.int .i64 0∧j=.int .i64 0∧wr=w) (fun _ _ _=>0)
 case atStart=>exact⟨rfl,rfl,rfl⟩
 case round=>
  obtain⟨rfl,rfl,rfl⟩:=hrel
  go_wp2_with fail
  go_end0
  exact⟨rfl,Below.refl _ _⟩
def qc4(z:Int):List UInt8:=if z<0 then 45::Lib.decDigits z.natAbs else Lib.decDigits z.natAbs
theorem qps(c:UInt8)(l:List UInt8):(⟨#[c]⟩:ByteArray)++⟨l.toArray⟩=⟨(c::l).toArray⟩:=by
 apply qfe
 simp[ByteArray.toList_eq]
theorem qm9(v:Value)(z:Int)(w:World)(h:IntV w v z)(hz:z.natAbs<100)(h0:z≠0):Calls Tryz.prog 114 #[v] w (Ret (.string ⟨(qc4 z).toArray⟩) w):=by
 obtain⟨a,c,rfl,h⟩:=h;have hl1:(limbs z.natAbs).length=1:=qan (by omega) (by omega);obtain⟨M,hM⟩:∃M,z.natAbs=M:=⟨_,rfl⟩
 have hB:=Blk.new w #[.bool (decide (z<0)),.slice a (limbs z.natAbs).length c] 75;rw[hM]at h hl1 hB⊢;have HS:=hI (fun w' (hb:Below (w.alloc (.cells #[.bool (decide (z<0)),.slice a (limbs M).length c] 75)).heap.size (w.alloc (.cells #[.bool (decide (z<0)),.slice a (limbs M).length c] 75)) w')=>(qak (hB.below hb)).1);have H1:=hI (fun w' (hb:Below w.heap.size w w')=>qiy a _ c (limbs M) 1000000000 w' (h.mono hb) (qal M) (by rw[hl1];decide) (by decide) (by decide));have e1:natL (limbs M)%1000000000=M:=by rw[qah];omega
 have e2:natL (limbs M)/1000000000=0:=by rw[qah];omega
 rw[e1,e2]at H1;have H2:=hI (fun w'=>Tryz.strconv_Itoa_small M (by omega) w');have ht:qc4 z=if decide (z<0)=true then 45::Lib.decDigits M else Lib.decDigits M:=by unfold qc4;rw[hM];simp
 rw[ht];rw[hl1]at HS H1 hB h⊢;have HK:=hI (qac w (.cells #[.bool (decide (z<0)),.slice a 1 c] 75));generalize decide (z<0)=sg at*;generalize hD:(⟨(Lib.decDigits M).toArray⟩:ByteArray)=D at*;have HD:=hI hD
 have hL:D.data.toList.length≤20:=by
  rw[←hD]
  have:∀M<100,(Lib.decDigits M).length≤20:=by
   intro M hM;rw[Lib.decDigits]
   split
   ·simp
   ·rw[Lib.decDigits,dif_pos (by omega)];simp
  exact this M (by omega)
 have HL:=hI hL;have hcat:¬9223372036854775807<1+D.size:=by rw[Lib.size_eq];omega
 clear hL;have hm0:IntKind.i64.wrap (M:Int)=M:=IntWalk.i64_in _ (by omega);clear h hB hl1 hM e1 e2 ht hz h0 hD;cases sg
 ·have HN:=hI (fun W:World=>World.ownsRow_nil W (w.alloc (.cells #[.bool false,.slice a 1 c] 75)).heap.size 9 1)
  go_enter Tryz.func114,Tryz.ntmps114
  go_wp2_with fail
  go_loopw [4,3] (fun m g wr=>Below (w.alloc (.cells #[.bool false,.slice a 1 c] 75)).heap.size (w.alloc (.cells #[.bool false,.slice a 1 c] 75)) wr∧((m=.slice a 1 c∧g=.slice none 0 0)∨(∃b cc,m=.slice b 0 cc∧wr.ownsRow (w.alloc (.cells #[.bool false,.slice a 1 c] 75)).heap.size 9 1 g 1 [.string D]))) (fun m _ _=>match m with|.slice _ k _=>k|_=>0)
  case atStart=>exact⟨Below.refl _ _,.inl ⟨rfl,rfl⟩⟩
  case round=>
   obtain⟨hbw,⟨rfl,rfl⟩|⟨b,cc,rfl,hown⟩⟩:=hrel
   ·have Hbw:=hI hbw
    clear hbw
    go_wp2_with (first
     |(go_at_call 147;refine(H1.out _ (HK.out.via Hbw.out HK.out.size)).mono ?_;rintro e w1 ⟨v1,rfl,⟨a1,c1',rfl,-⟩,hb1⟩;have Hb1:=hI (qab Hbw.out hb1);clear hb1;rw[show(limbs 0).length=0 by rw[qag];rfl])
     |(go_at_call 148;refine(H2.out _).mono ?_;rintro e w2 ⟨rfl,rfl⟩)
     |(at_builtin;refine qct ES (by decide) [.string D] rfl _ _ rfl (w.alloc (.cells #[.bool false,.slice a 1 c] 75)).heap.size _ _ _ rfl rfl (HN.out _) rfl (one1 _ rfl) (by omega) (by decide) Hb1.out.size ?_;intro v' w1 hown' hg';have hbw3:=qap Hb1.out (HN.out _) hg' Hb1.out.size))
    go_roundw
    case rel=>exact⟨hbw3,.inr ⟨_,_,rfl,hown'⟩⟩
    case measure=>simp
   ·obtain⟨ga,gc,rfl,hc1,-⟩:=qam hown
    obtain⟨gb,rfl⟩:=qbg hown (by decide)
    have HJ:=hI (fun w' (hb:Below wr.heap.size wr w')=>Tryz.strings_Join gb 0 gc [D] ⟨#[]⟩ w' (fun j x hx=>by
     obtain⟨b',off,y,ha,hy,c0⟩:=Sl.at1 (Sl.own1 hown) hb (show 0<1 by decide);cases ha
     cases hy
     rcases j with _|j
     ·cases hx;exact c0
     ·simp at hx) (Nat.lt_of_lt_of_le (hown.lt gb rfl).2 hb.size) (by simp) (by simpa using hc1) (by simp[Lib.join_one];have:D.data.toList.length≤20:=HL.out;simpa using Nat.le_trans this (by decide)))
    have hj:(⟨(Lib.join ([D].map (·.data.toList)) (⟨#[]⟩:ByteArray).data.toList).toArray⟩:ByteArray)=D:=by simp[Lib.join_one]
    rw[hj]at HJ;have Hbw:=hI hbw;have HC:=hI (HS.out _ hbw);clear hown hbw hc1 hj
    go_wp2_with (first
     |(go_at_call 150;refine(qla _ _ _).mono ?_;rintro e w3 ⟨rfl,hb3⟩;have Hb3:=hI hb3;clear hb3)
     |(go_at_call 151;refine(HJ.out _ Hb3.out).mono ?_;rintro e w4 ⟨rfl,hb4⟩;have Hb34:=hI (qab Hb3.out hb4);obtain⟨s0,s1⟩:=HS.out _ (qab Hbw.out Hb34.out);clear hb4))
    go_ret
    exact⟨by rw[←HD.out];simp,HK.out.via (qab Hbw.out Hb34.out) HK.out.size⟩
 ·have HN:=hI (fun W:World=>World.ownsRow_nil W (w.alloc (.cells #[.bool true,.slice a 1 c] 75)).heap.size 9 1)
  go_enter Tryz.func114,Tryz.ntmps114
  go_wp2_with fail
  go_loopw [4,3] (fun m g wr=>Below (w.alloc (.cells #[.bool true,.slice a 1 c] 75)).heap.size (w.alloc (.cells #[.bool true,.slice a 1 c] 75)) wr∧((m=.slice a 1 c∧g=.slice none 0 0)∨(∃b cc,m=.slice b 0 cc∧wr.ownsRow (w.alloc (.cells #[.bool true,.slice a 1 c] 75)).heap.size 9 1 g 1 [.string D]))) (fun m _ _=>match m with|.slice _ k _=>k|_=>0)
  case atStart=>exact⟨Below.refl _ _,.inl ⟨rfl,rfl⟩⟩
  case round=>
   obtain⟨hbw,⟨rfl,rfl⟩|⟨b,cc,rfl,hown⟩⟩:=hrel
   ·have Hbw:=hI hbw
    clear hbw
    go_wp2_with (first
     |(go_at_call 147;refine(H1.out _ (HK.out.via Hbw.out HK.out.size)).mono ?_;rintro e w1 ⟨v1,rfl,⟨a1,c1',rfl,-⟩,hb1⟩;have Hb1:=hI (qab Hbw.out hb1);clear hb1;rw[show(limbs 0).length=0 by rw[qag];rfl])
     |(go_at_call 148;refine(H2.out _).mono ?_;rintro e w2 ⟨rfl,rfl⟩)
     |(at_builtin;refine qct ES (by decide) [.string D] rfl _ _ rfl (w.alloc (.cells #[.bool true,.slice a 1 c] 75)).heap.size _ _ _ rfl rfl (HN.out _) rfl (one1 _ rfl) (by omega) (by decide) Hb1.out.size ?_;intro v' w1 hown' hg';have hbw3:=qap Hb1.out (HN.out _) hg' Hb1.out.size))
    go_roundw
    case rel=>exact⟨hbw3,.inr ⟨_,_,rfl,hown'⟩⟩
    case measure=>simp
   ·obtain⟨ga,gc,rfl,hc1,-⟩:=qam hown
    obtain⟨gb,rfl⟩:=qbg hown (by decide)
    have HJ:=hI (fun w' (hb:Below wr.heap.size wr w')=>Tryz.strings_Join gb 0 gc [D] ⟨#[]⟩ w' (fun j x hx=>by
     obtain⟨b',off,y,ha,hy,c0⟩:=Sl.at1 (Sl.own1 hown) hb (show 0<1 by decide);cases ha
     cases hy
     rcases j with _|j
     ·cases hx;exact c0
     ·simp at hx) (Nat.lt_of_lt_of_le (hown.lt gb rfl).2 hb.size) (by simp) (by simpa using hc1) (by simp[Lib.join_one];have:D.data.toList.length≤20:=HL.out;simpa using Nat.le_trans this (by decide)))
    have hj:(⟨(Lib.join ([D].map (·.data.toList)) (⟨#[]⟩:ByteArray).data.toList).toArray⟩:ByteArray)=D:=by simp[Lib.join_one]
    rw[hj]at HJ;have Hbw:=hI hbw;have HC:=hI (HS.out _ hbw);clear hown hbw hc1 hj
    go_wp2_with (first
     |(go_at_call 150;refine(qla _ _ _).mono ?_;rintro e w3 ⟨rfl,hb3⟩;have Hb3:=hI hb3;clear hb3)
     |(go_at_call 151;refine(HJ.out _ Hb3.out).mono ?_;rintro e w4 ⟨rfl,hb4⟩;have Hb34:=hI (qab Hb3.out hb4);obtain⟨s0,s1⟩:=HS.out _ (qab Hbw.out Hb34.out);clear hb4))
    go_ret
    exact⟨by rw[←HD.out];simp[qps],HK.out.via (qab Hbw.out Hb34.out) HK.out.size⟩
end Go.Proofs.YtacihodamichhaaGreatDoor
