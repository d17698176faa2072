/- Parts of the proof. -/
import Derived.Test.YtacihodamichhaaGreatDoorU12
set_option maxHeartbeats 8000000
namespace Go.Proofs.YtacihodamichhaaGreatDoor
open Go.RowKit
def numR(l:List UInt8):Int:=if errL l=0 then numL l else 0
def denR(l:List UInt8):Int:=if errL l=0 then(denL l:Int)else 0
def qet(l:List UInt8)(v:Value)(w':World):Prop:=∃x a n c y a' m e,v=.tuple #[.agg #[.bool x,.slice a n c,.bool y,.slice a' m e],.int .i64 (errL l)]∧RatV w' (.agg #[.bool x,.slice a n c,.bool y,.slice a' m e]) (numR l) (denR l)∧AU w' a∧AU w' a'
theorem qva(s:ByteArray)(w:World)(hs:s.size≤5000):Calls Tryz.prog 115 #[.string s,.int .i64 65536] w (RetP (fun v w'=>qet s.data.toList v w') w):=by
 obtain⟨l,hl⟩:∃l,s.data.toList=l:=⟨_,rfl⟩
 have hll:l.length≤5000:=by rw[←hl,←Lib.size_eq];exact hs
 rw[hl];have ht60:(topL l).length≤5000:=Nat.le_trans (qew l) hll;have hb60:(botL l).length≤5000:=Nat.le_trans (qg6 l) hll;have hp60:(absL (topL l)).length≤5000:=Nat.le_trans (qdr _) ht60
 -- an error
 have herr:∀c:Int,c≠0→errL l=c→Calls Tryz.prog 115 #[.string s,.int .i64 65536] w (Ret (.tuple #[.agg #[.bool false,.slice none 0 0,.bool false,.slice none 0 0],.int .i64 c]) w)→Calls Tryz.prog 115 #[.string s,.int .i64 65536] w (RetP (fun v w'=>qet l v w') w):=by
  intro c hc he h;refine h.mono ?_
  rintro e w' ⟨rfl,hb⟩;refine⟨_,rfl,⟨false,none,0,0,false,none,0,0,by rw[he],?_,AU.none _,AU.none _⟩,hb⟩
  unfold numR denR;rw[he,if_neg hc,if_neg hc];exact RatV.zero w'
 by_cases h1:digB (absL (topL l))=true
 ·by_cases h2:divB l=true
  ·by_cases h3:digB (botL l)=true
   ·by_cases h4:zerB (botL l)=true
    ·exact herr 19 (by decide) (by unfold errL;simp[h1,h2,h3,h4]) (qvm s l _ _ _ true _ w hs hl rfl rfl h2 rfl rfl ht60 hb60 hp60 h1 rfl h3 h4)
    ·simp only[Bool.not_eq_true]at h4
     by_cases h6:badI (absL (topL l)) (negB (topL l))=true
     ·exact herr 3 (by decide) (by unfold errL;simp[h1,h2,h3,h4,h6]) (qvk s l _ _ _ true _ w hs hl rfl rfl h2 rfl rfl ht60 hb60 hp60 h1 rfl h3 h4 h6)
     ·simp only[Bool.not_eq_true]at h6
      by_cases h7:badI (botL l) false=true
      ·exact herr 3 (by decide) (by unfold errL;simp[h1,h2,h3,h4,h6,h7]) (qvj s l _ _ _ true _ w hs hl rfl rfl h2 rfl rfl ht60 hb60 hp60 h1 rfl h3 h4 h6 h7)
      ·simp only[Bool.not_eq_true]at h7
       by_cases h8:valD (botL l)=1
       ·exact herr 3 (by decide) (by unfold errL;simp[h1,h2,h3,h4,h6,h7,h8]) (qvi s l _ _ _ true _ w hs hl rfl rfl h2 rfl rfl ht60 hb60 hp60 h1 rfl h3 h4 h6 h7 h8)
       ·by_cases h9:Nat.gcd (valD (absL (topL l))) (valD (botL l))=1
        ·refine(qvf s l _ _ _ true _ w hs hl rfl rfl h2 rfl rfl ht60 hb60 hp60 h1 rfl h3 h4 h6 h7 h8 h9).mono ?_
         have e0:errL l=0:=by unfold errL;simp[h1,h2,h3,h4,h6,h7,h8,h9]
         rintro e w' ⟨v,rfl,⟨x,a,n,c,y,a',m,k,rfl,hv,hu,hu'⟩,hb⟩;refine⟨_,rfl,⟨x,a,n,c,y,a',m,k,by rw[e0],?_,hu,hu'⟩,hb⟩
         unfold numR denR denL;rw[if_pos e0,if_pos e0,if_pos h2];exact hv
        ·exact herr 3 (by decide) (by unfold errL;simp[h1,h2,h3,h4,h6,h7,h8,h9]) (qvh s l _ _ _ true _ w hs hl rfl rfl h2 rfl rfl ht60 hb60 hp60 h1 rfl h3 h4 h6 h7 h8 h9)
   ·simp only[Bool.not_eq_true]at h3
    exact herr 14 (by decide) (by unfold errL;simp[h1,h2,h3]) (qvn s l _ _ _ true _ w hs hl rfl rfl h2 rfl rfl ht60 hb60 hp60 h1 rfl h3)
  ·simp only[Bool.not_eq_true]at h2
   by_cases h6:badI (absL (topL l)) (negB (topL l))=true
   ·exact herr 3 (by decide) (by unfold errL;simp[h1,h2,h6]) (qvl s l _ _ _ false _ w hs hl rfl rfl h2 rfl rfl ht60 hb60 hp60 h1 rfl h6)
   ·simp only[Bool.not_eq_true]at h6
    refine(qvg s l _ _ _ false _ w hs hl rfl rfl h2 rfl rfl ht60 hb60 hp60 h1 rfl h6).mono ?_
    have e0:errL l=0:=by unfold errL;simp[h1,h2,h6]
    rintro e w' ⟨v,rfl,⟨x,a,n,c,rfl,hv,hu⟩,hb⟩;refine⟨_,rfl,⟨x,a,n,c,false,none,0,0,by rw[e0],?_,hu,AU.none _⟩,hb⟩
    unfold numR denR denL;rw[if_pos e0,if_pos e0,h2];exact hv
 ·simp only[Bool.not_eq_true]at h1
  exact herr 14 (by decide) (by unfold errL;simp[h1]) (qvo s l _ _ _ (divB l) _ w hs hl rfl rfl rfl rfl rfl ht60 hb60 hp60 h1)
theorem qgm(s:ByteArray)(w:World)(hs:s.size≤5000):Calls Tryz.prog 63 #[.string s] w (RetP (fun v w'=>qet s.data.toList v w') w):=by
 have H:=hI (fun w'=>qva s w' hs);generalize s.data.toList=l at*;have HR:=hI (Blk.new w #[.bool false,.slice none 0 0,.bool false,.slice none 0 0] 77);clear hs;unfold qet at*;generalize errL l=code at*
 go_enter Tryz.func63,Tryz.ntmps63
 go_wp2_with (go_at_call 115;refine(H.out _).mono ?_;rintro e w3 ⟨v,rfl,⟨x5,a5,n5,c5,y5,b5,m5,k5,rfl,hv,hau,hau'⟩,hb3⟩;have hr:=HR.out.below hb3;obtain⟨⟨r0,r1,r2,r3⟩,f0,f1,f2,f3⟩:=qam hr;obtain⟨hv6,hb6⟩:=RatV.put4 hv hr;have Hv6:=hI hv6;have HA6:=hI (((((hau).set w.heap.size 0 (.bool x5)).set w.heap.size 1 (.slice a5 n5 c5)).set w.heap.size 2 (.bool y5)).set w.heap.size 3 (.slice b5 m5 k5));have HA7:=hI (((((hau').set w.heap.size 0 (.bool x5)).set w.heap.size 1 (.slice a5 n5 c5)).set w.heap.size 2 (.bool y5)).set w.heap.size 3 (.slice b5 m5 k5));have Hb6:=hI hb6;have Hbel:=hI (qap (b:=w.heap.size) (.bool x5) (.slice a5 n5 c5) (.bool y5) (.slice b5 m5 k5) ((qac w (.cells #[.bool false,.slice none 0 0,.bool false,.slice none 0 0] 77)).via hb3 (qac w _).size) (Nat.le_refl _));clear hb3 hv hr hv6 hb6)
 obtain⟨⟨q0,q1,q2,q3⟩,-⟩:=qam Hb6.out;exact bodyPost_ret (v:=.tuple #[.agg #[.bool x5,.slice a5 n5 c5,.bool y5,.slice b5 m5 k5],.int .i64 code]) (by simp[results,Tryz.results63,go_sem,q0,q1,q2,q3]) rfl ⟨_,rfl,⟨_,_,_,_,_,_,_,_,rfl,Hv6.out,HA6.out,HA7.out⟩,Hbel.out⟩
end Go.Proofs.YtacihodamichhaaGreatDoor
namespace Go.Proofs.YtacihodamichhaaGreatDoor
open Go.RowKit
def dn(q:Int):Int:=if q=0 then 1 else q
namespace Dr
theorem qd6(v:Value)(p q:Int)(w:World)(h:RatV w v p q):Calls Tryz.prog 109 #[v] w (Ret (.bool (decide (dn q=1))) w):=by
 by_cases h0:q=0
 ·subst h0
  rw[show decide (dn 0=1)=true from rfl];exact(qk7 v p w h).mono fun _ _ h=>rdR h
 ·rw[show dn q=q by unfold dn;rw[if_neg h0]]
  exact qk6 v p q w h h0
end Dr
theorem qd6(v:Value)(p q:Int)(w:World)(h:RatV w v p q):Calls Tryz.prog 109 #[v] w (Ret (.bool (decide (dn q=1))) w):=(Dr.qd6 v p q w h).mono fun _ _ h=>h.n
namespace Dr
theorem qjs(v:Value)(p q:Int)(w:World)(h:RatV w v p q)(h0:q≠0):Calls Tryz.prog 113 #[v] w (RetP (fun r w'=>IntV w' r q) w):=by
 obtain⟨x,a,n,c,x',a',n',c',rfl,h⟩:=h.open
 have hR:Blk ((w.alloc (.cells #[.bool x,.slice a n c,.bool x',.slice a' n' c'] 77)).alloc (.cells #[.bool false,.slice none 0 0] 75)) (w.heap.size+1) #[.bool false,.slice none 0 0] 75:=by
  have h:=Blk.new (w.alloc (.cells #[.bool x,.slice a n c,.bool x',.slice a' n' c'] 77)) #[.bool false,.slice none 0 0] 75
  simpa using h
 have hA:Blk ((w.alloc (.cells #[.bool x,.slice a n c,.bool x',.slice a' n' c'] 77)).alloc (.cells #[.bool false,.slice none 0 0] 75)) w.heap.size #[.bool x,.slice a n c,.bool x',.slice a' n' c'] 77:=(Blk.new w _ _).old _;have HR:=hI hR;have HA:=hI hA;have HK:=hI (qaz w (.cells #[.bool x,.slice a n c,.bool x',.slice a' n' c'] 77) (.cells #[.bool false,.slice none 0 0] 75));have H1:=hI (qdo _ q ((w.alloc (.cells #[.bool x,.slice a n c,.bool x',.slice a' n' c'] 77)).alloc (.cells #[.bool false,.slice none 0 0] 75)) (h.parts.2.mono HK.out.b));have HV:=hI (fun w' (hb:Below ((w.alloc (.cells #[.bool x,.slice a n c,.bool x',.slice a' n' c'] 77)).alloc (.cells #[.bool false,.slice none 0 0] 75)).heap.size ((w.alloc (.cells #[.bool x,.slice a n c,.bool x',.slice a' n' c'] 77)).alloc (.cells #[.bool false,.slice none 0 0] 75)) w')=>(h.parts.2.mono HK.out.b).mono hb.b);have hsg:((q.sign:Int)==0)=false:=by simpa using h0
 generalize q.sign=sg at*;clear h hR hA h0
 go_enter Tryz.func113,Tryz.ntmps113
 go_wp2_with (go_at_call 131;refine(H1.out).mono ?_;rintro e1 w1 ⟨rfl,hb1⟩;have hr:=HR.out.below hb1.b;obtain⟨⟨r0,r1⟩,f0,f1⟩:=qag hr;obtain⟨⟨s0,s1,s2,s3⟩,-⟩:=qam (HA.out.below hb1.b);obtain⟨hv6,hb6⟩:=IntV.put2 (HV.out _ hb1) hr;have Hv6:=hI hv6;have Hb6:=hI hb6;have Hbel:=hI (qdf (b:=w.heap.size+1) x' a' n' c' (HK.out.via hb1 HK.out.size) (by omega));clear hr hv6 hb6 hb1)
 obtain⟨⟨q0,q1⟩,-⟩:=qag Hb6.out;exact bodyPost_ret (v:=.agg #[.bool x',.slice a' n' c']) (by simp[results,Tryz.results113,go_sem,q0,q1]) rfl ⟨_,rfl,Hv6.out,Hbel.out⟩
end Dr
theorem qjs(v:Value)(p q:Int)(w:World)(h:RatV w v p q)(h0:q≠0):Calls Tryz.prog 113 #[v] w (RetP (fun r w'=>IntV w' r q) w):=(Dr.qjs v p q w h h0).mono fun _ _ h=>h.n
namespace Dr
theorem qgv(v:Value)(p q:Int)(w:World)(h:RatV w v p q):Calls Tryz.prog 113 #[v] w (RetP (fun r w'=>IntV w' r (dn q)) w):=by
 by_cases h0:q=0
 ·subst h0
  exact qjt v p w h
 ·rw[show dn q=q by unfold dn;rw[if_neg h0]]
  exact qjs v p q w h h0
end Dr
theorem qgv(v:Value)(p q:Int)(w:World)(h:RatV w v p q):Calls Tryz.prog 113 #[v] w (RetP (fun r w'=>IntV w' r (dn q)) w):=(Dr.qgv v p q w h).mono fun _ _ h=>h.n
def cmpQ(p q p' q':Int):Int:=cmpZ (p*dn q') (p'*dn q)
def FewR(p q:Int):Prop:=Few p.natAbs∧Few (dn q).natAbs
namespace Dr
set_option maxRecDepth 100000 in
theorem qmn(u v:Value)(p q p' q':Int)(w:World)(h:RatV w u p q)(h':RatV w v p' q')(hf:FewR p q)(hf':FewR p' q'):Calls Tryz.prog 64 #[u,v] w (Ret (.int .i64 (cmpQ p q p' q')) w):=by
 obtain⟨x,a,n,c,x',a',n',c',rfl,h⟩:=h.open;obtain⟨y,e,m,k,y',e',m',k',rfl,h'⟩:=h'.open;have hA:Blk ((w.alloc (.cells #[.bool x,.slice a n c,.bool x',.slice a' n' c'] 77)).alloc (.cells #[.bool y,.slice e m k,.bool y',.slice e' m' k'] 77)) w.heap.size #[.bool x,.slice a n c,.bool x',.slice a' n' c'] 77:=(Blk.new w _ _).old _
 have hB:Blk ((w.alloc (.cells #[.bool x,.slice a n c,.bool x',.slice a' n' c'] 77)).alloc (.cells #[.bool y,.slice e m k,.bool y',.slice e' m' k'] 77)) (w.heap.size+1) #[.bool y,.slice e m k,.bool y',.slice e' m' k'] 77:=by
  have h:=Blk.new (w.alloc (.cells #[.bool x,.slice a n c,.bool x',.slice a' n' c'] 77)) #[.bool y,.slice e m k,.bool y',.slice e' m' k'] 77
  simpa using h
 have HK:=hI (qaz w (.cells #[.bool x,.slice a n c,.bool x',.slice a' n' c'] 77) (.cells #[.bool y,.slice e m k,.bool y',.slice e' m' k'] 77));have HS:=hI (fun w' (hb:Below ((w.alloc (.cells #[.bool x,.slice a n c,.bool x',.slice a' n' c'] 77)).alloc (.cells #[.bool y,.slice e m k,.bool y',.slice e' m' k'] 77)).heap.size ((w.alloc (.cells #[.bool x,.slice a n c,.bool x',.slice a' n' c'] 77)).alloc (.cells #[.bool y,.slice e m k,.bool y',.slice e' m' k'] 77)) w')=>And.intro (qam (hA.below hb.b)).1 (qam (hB.below hb.b)).1);have HP:=hI (fun w' (hb:Below ((w.alloc (.cells #[.bool x,.slice a n c,.bool x',.slice a' n' c'] 77)).alloc (.cells #[.bool y,.slice e m k,.bool y',.slice e' m' k'] 77)).heap.size ((w.alloc (.cells #[.bool x,.slice a n c,.bool x',.slice a' n' c'] 77)).alloc (.cells #[.bool y,.slice e m k,.bool y',.slice e' m' k'] 77)) w')=>And.intro ((h.mono HK.out.b).mono hb.b) ((h'.mono HK.out.b).mono hb.b));have H1:=hI (fun w' (hb:Below ((w.alloc (.cells #[.bool x,.slice a n c,.bool x',.slice a' n' c'] 77)).alloc (.cells #[.bool y,.slice e m k,.bool y',.slice e' m' k'] 77)).heap.size ((w.alloc (.cells #[.bool x,.slice a n c,.bool x',.slice a' n' c'] 77)).alloc (.cells #[.bool y,.slice e m k,.bool y',.slice e' m' k'] 77)) w')=>qd6 _ p q w' ((h.mono HK.out.b).mono hb.b));have H2:=hI (fun w' (hb:Below ((w.alloc (.cells #[.bool x,.slice a n c,.bool x',.slice a' n' c'] 77)).alloc (.cells #[.bool y,.slice e m k,.bool y',.slice e' m' k'] 77)).heap.size ((w.alloc (.cells #[.bool x,.slice a n c,.bool x',.slice a' n' c'] 77)).alloc (.cells #[.bool y,.slice e m k,.bool y',.slice e' m' k'] 77)) w')=>qd6 _ p' q' w' ((h'.mono HK.out.b).mono hb.b));have HF:=hI (And.intro hf hf');clear hA hB h h' hf hf'
 by_cases hq:dn q=1
 ·by_cases hq':dn q'=1
  ·have H3:=hI (fun w' (hb:Below ((w.alloc (.cells #[.bool x,.slice a n c,.bool x',.slice a' n' c'] 77)).alloc (.cells #[.bool y,.slice e m k,.bool y',.slice e' m' k'] 77)).heap.size ((w.alloc (.cells #[.bool x,.slice a n c,.bool x',.slice a' n' c'] 77)).alloc (.cells #[.bool y,.slice e m k,.bool y',.slice e' m' k'] 77)) w')=>qbh _ _ p p' w' (HP.out w' hb).1.parts.1 (HP.out w' hb).2.parts.1)
   unfold cmpQ;rw[hq,hq',Int.mul_one,Int.mul_one];rw[decide_eq_true hq]at H1;rw[decide_eq_true hq']at H2;generalize cmpZ p p'=R at*;clear hq hq'
   go_enter Tryz.func64,Tryz.ntmps64
   obtain⟨⟨s0,s1,s2,s3⟩,t0,t1,t2,t3⟩:=HS.out _ (Below.refl _ _)
   go_wp2_with (first
    |(have _t:=Hb1;clear _t;go_at_call 109;refine(H2.out _ Hb1.out).mono ?_;rintro e w2 ⟨rfl,hb2⟩;have Hb2:=hI (qaa Hb1.out hb2);obtain⟨⟨s0,s1,s2,s3⟩,t0,t1,t2,t3⟩:=HS.out _ Hb2.out;clear hb2)
    |(go_at_call 109;refine(H1.out _ (Below.refl _ _)).mono ?_;rintro e w1 ⟨rfl,hb1⟩;have Hb1:=hI hb1;obtain⟨⟨s0,s1,s2,s3⟩,t0,t1,t2,t3⟩:=HS.out _ hb1;clear hb1)
    |(go_at_call 116;refine(H3.out _ Hb2.out).mono ?_;rintro e w3 ⟨rfl,hb3⟩))
   go_ret
   exact⟨rfl,HK.out.via (qaa Hb2.out hb3) HK.out.size⟩
  ·rw[decide_eq_true hq]at H1
   rw[decide_eq_false hq']at H2;have H3:=hI (fun w' (hb:Below ((w.alloc (.cells #[.bool x,.slice a n c,.bool x',.slice a' n' c'] 77)).alloc (.cells #[.bool y,.slice e m k,.bool y',.slice e' m' k'] 77)).heap.size ((w.alloc (.cells #[.bool x,.slice a n c,.bool x',.slice a' n' c'] 77)).alloc (.cells #[.bool y,.slice e m k,.bool y',.slice e' m' k'] 77)) w')=>qgv _ p' q' w' (HP.out w' hb).2);have H4:=hI (fun w' (hb:Below ((w.alloc (.cells #[.bool x,.slice a n c,.bool x',.slice a' n' c'] 77)).alloc (.cells #[.bool y,.slice e m k,.bool y',.slice e' m' k'] 77)).heap.size ((w.alloc (.cells #[.bool x,.slice a n c,.bool x',.slice a' n' c'] 77)).alloc (.cells #[.bool y,.slice e m k,.bool y',.slice e' m' k'] 77)) w') r (hr:IntV w' r (dn q'))=>qbz _ r p (dn q') w' (HP.out w' hb).1.parts.1 hr HF.out.1.1 HF.out.2.2);have H8:=hI (fun w' (hb:Below ((w.alloc (.cells #[.bool x,.slice a n c,.bool x',.slice a' n' c'] 77)).alloc (.cells #[.bool y,.slice e m k,.bool y',.slice e' m' k'] 77)).heap.size ((w.alloc (.cells #[.bool x,.slice a n c,.bool x',.slice a' n' c'] 77)).alloc (.cells #[.bool y,.slice e m k,.bool y',.slice e' m' k'] 77)) w')=>qgv _ p q w' (HP.out w' hb).1);have H9:=hI (fun w' (hb:Below ((w.alloc (.cells #[.bool x,.slice a n c,.bool x',.slice a' n' c'] 77)).alloc (.cells #[.bool y,.slice e m k,.bool y',.slice e' m' k'] 77)).heap.size ((w.alloc (.cells #[.bool x,.slice a n c,.bool x',.slice a' n' c'] 77)).alloc (.cells #[.bool y,.slice e m k,.bool y',.slice e' m' k'] 77)) w') r (hr:IntV w' r (dn q))=>qbz _ r p' (dn q) w' (HP.out w' hb).2.parts.1 hr HF.out.2.1 HF.out.1.2);have H10:=hI (fun w' r r' (hr:IntV w' r (p*dn q')) (hr':IntV w' r' (p'*dn q))=>qbh r r' _ _ w' hr hr');unfold cmpQ;generalize cmpZ (p*dn q') (p'*dn q)=R at*
   go_enter Tryz.func64,Tryz.ntmps64
   obtain⟨⟨s0,s1,s2,s3⟩,t0,t1,t2,t3⟩:=HS.out _ (Below.refl _ _)
   go_wp2_with (first
    |(have _t:=Hb1;clear _t;go_at_call 109;refine(H2.out _ Hb1.out).mono ?_;rintro e w2 ⟨rfl,hb2⟩;have Hb2:=hI (qaa Hb1.out hb2);obtain⟨⟨s0,s1,s2,s3⟩,t0,t1,t2,t3⟩:=HS.out _ Hb2.out;clear hb2)
    |(go_at_call 109;refine(H1.out _ (Below.refl _ _)).mono ?_;rintro e w1 ⟨rfl,hb1⟩;have Hb1:=hI hb1;obtain⟨⟨s0,s1,s2,s3⟩,t0,t1,t2,t3⟩:=HS.out _ hb1;clear hb1))
   refine wp_region_held_drew (S:=(fun w'=>w'.cell? ⟨w.heap.size,0,none⟩=some (.bool x)∧w'.cell? ⟨w.heap.size,1,none⟩=some (.slice a n c)∧w'.cell? ⟨w.heap.size,2,none⟩=some (.bool x')∧w'.cell? ⟨w.heap.size,3,none⟩=some (.slice a' n' c')∧w'.cell? ⟨w.heap.size+1,0,none⟩=some (.bool y)∧w'.cell? ⟨w.heap.size+1,1,none⟩=some (.slice e m k)∧w'.cell? ⟨w.heap.size+1,2,none⟩=some (.bool y')∧w'.cell? ⟨w.heap.size+1,3,none⟩=some (.slice e' m' k'))) (by kernel_rfl) (by exact(fun h=>⟨h.1.1,h.1.2.1,h.1.2.2.1,h.1.2.2.2,h.2⟩) (HS.out _ (Hb2.out.dn 1))) (fun hHeld=>?_)
   refine wpAnyH_take (i:=0) (v:=?v1) rfl (by kernel_rfl) (by kernel_rfl) (by kernel_rfl) (fun _ _ _ h=>h) (Or.inl ⟨by rfl,?hy1⟩) (by assumption) ?rest1
   case hy1=>(intro w hSw;(try dsimp only at hSw);go_simp;try(with_reducible rfl))
   try simp only[Act.put,List.getElem_toArray,List.getElem_cons_zero,List.setIfInBounds_toArray,List.set_cons_zero,List.set_cons_succ]
   refine' tk 1 ?_;(try simp only[tkS]);refine' tk 2 ?_;(try simp only[tkS]);refine' tk 5 ?_;(try simp only[tkS]);refine' tk 6 ?_;(try simp only[tkS]);refine' tk 7 ?_;(try simp only[tkS]);refine tk1 3 (fun K hK=>?_)
   go_simp;go_at_call 113;refine(H3.out _ (Hb2.out.dn 1)).mono ?_
   rintro e5 w3 ⟨v3,rfl,hv3,hb3⟩;have Hb3:=hI (qaa (Hb2.out.dn 1) hb3);obtain⟨x31,a31,k31,c31,rfl,hv3⟩:=hv3.open;have HO3:=hI hv3;clear hv3;clear hb3;refine hK.out _ _ (by exact(fun h=>⟨h.1.1,h.1.2.1,h.1.2.2.1,h.1.2.2.2,h.2⟩) (HS.out _ (Hb3.out))) (fun hHeld=>?_)
   clear hK K;(try simp only[tkS]);refine tk1 4 (fun K hK=>?_)
   go_simp;go_at_call 112;refine(H4.out _ (Hb3.out) _ HO3.out).mono ?_
   rintro e5 w4 ⟨v4,rfl,hv4,hb4⟩;have HO3:=hI (HO3.out.mono hb4.b);have Hb4:=hI (qaa (Hb3.out) hb4);obtain⟨x41,a41,k41,c41,rfl,hv4⟩:=hv4.open;have HO4:=hI hv4;clear hv4;clear hb4;refine hK.out _ _ (by exact(fun h=>⟨h.1.1,h.1.2.1,h.1.2.2.1,h.1.2.2.2,h.2⟩) (HS.out _ (Hb4.out))) (fun hHeld=>?_)
   clear hK K;(try simp only[tkS]);refine tk1 8 (fun K hK=>?_)
   go_simp;go_at_call 113;refine(H8.out _ (Hb4.out)).mono ?_
   rintro e5 w8 ⟨v8,rfl,hv8,hb8⟩;have HO3:=hI (HO3.out.mono hb8.b);have HO4:=hI (HO4.out.mono hb8.b);have Hb8:=hI (qaa (Hb4.out) hb8);obtain⟨x81,a81,k81,c81,rfl,hv8⟩:=hv8.open;have HO8:=hI hv8;clear hv8;clear hb8;refine hK.out _ _ (by exact(fun h=>⟨h.1.1,h.1.2.1,h.1.2.2.1,h.1.2.2.2,h.2⟩) (HS.out _ (Hb8.out))) (fun hHeld=>?_)
   clear hK K;(try simp only[tkS]);refine tk1 9 (fun K hK=>?_)
   go_simp;go_at_call 112;refine(H9.out _ (Hb8.out) _ HO8.out).mono ?_
   rintro e5 w9 ⟨v9,rfl,hv9,hb9⟩;have HO3:=hI (HO3.out.mono hb9.b);have HO4:=hI (HO4.out.mono hb9.b);have HO8:=hI (HO8.out.mono hb9.b);have Hb9:=hI (qaa (Hb8.out) hb9);obtain⟨x91,a91,k91,c91,rfl,hv9⟩:=hv9.open;have HO9:=hI hv9;clear hv9;clear hb9;refine hK.out _ _ (by exact(fun h=>⟨h.1.1,h.1.2.1,h.1.2.2.1,h.1.2.2.2,h.2⟩) (HS.out _ (Hb9.out))) (fun hHeld=>?_)
   clear hK K;(try simp only[tkS]);refine tk1 10 (fun K hK=>?_)
   go_simp;go_at_call 116;refine(H10.out _ _ _ HO4.out HO9.out).mono ?_
   rintro e5 w10 ⟨rfl,hb10⟩;have HO3:=hI (HO3.out.mono hb10.b);have HO4:=hI (HO4.out.mono hb10.b);have HO8:=hI (HO8.out.mono hb10.b);have HO9:=hI (HO9.out.mono hb10.b);have Hb10:=hI (qaa (Hb9.out) hb10);clear hb10;refine hK.out _ _ (by exact(fun h=>⟨h.1.1,h.1.2.1,h.1.2.2.1,h.1.2.2.2,h.2⟩) (HS.out _ (Hb10.out))) (fun hHeld=>?_)
   clear hK K;(try simp only[tkS]);refine' tk 11 ?_;(try simp only[tkS]);refine tkD ?_ _
   go_wp2_with fail
   go_ret
   exact⟨rfl,HK.out.via (Hb10.out) HK.out.size⟩
 ·rw[decide_eq_false hq]at H1
  have H3:=hI (fun w' (hb:Below ((w.alloc (.cells #[.bool x,.slice a n c,.bool x',.slice a' n' c'] 77)).alloc (.cells #[.bool y,.slice e m k,.bool y',.slice e' m' k'] 77)).heap.size ((w.alloc (.cells #[.bool x,.slice a n c,.bool x',.slice a' n' c'] 77)).alloc (.cells #[.bool y,.slice e m k,.bool y',.slice e' m' k'] 77)) w')=>qgv _ p' q' w' (HP.out w' hb).2);have H4:=hI (fun w' (hb:Below ((w.alloc (.cells #[.bool x,.slice a n c,.bool x',.slice a' n' c'] 77)).alloc (.cells #[.bool y,.slice e m k,.bool y',.slice e' m' k'] 77)).heap.size ((w.alloc (.cells #[.bool x,.slice a n c,.bool x',.slice a' n' c'] 77)).alloc (.cells #[.bool y,.slice e m k,.bool y',.slice e' m' k'] 77)) w') r (hr:IntV w' r (dn q'))=>qbz _ r p (dn q') w' (HP.out w' hb).1.parts.1 hr HF.out.1.1 HF.out.2.2);have H8:=hI (fun w' (hb:Below ((w.alloc (.cells #[.bool x,.slice a n c,.bool x',.slice a' n' c'] 77)).alloc (.cells #[.bool y,.slice e m k,.bool y',.slice e' m' k'] 77)).heap.size ((w.alloc (.cells #[.bool x,.slice a n c,.bool x',.slice a' n' c'] 77)).alloc (.cells #[.bool y,.slice e m k,.bool y',.slice e' m' k'] 77)) w')=>qgv _ p q w' (HP.out w' hb).1);have H9:=hI (fun w' (hb:Below ((w.alloc (.cells #[.bool x,.slice a n c,.bool x',.slice a' n' c'] 77)).alloc (.cells #[.bool y,.slice e m k,.bool y',.slice e' m' k'] 77)).heap.size ((w.alloc (.cells #[.bool x,.slice a n c,.bool x',.slice a' n' c'] 77)).alloc (.cells #[.bool y,.slice e m k,.bool y',.slice e' m' k'] 77)) w') r (hr:IntV w' r (dn q))=>qbz _ r p' (dn q) w' (HP.out w' hb).2.parts.1 hr HF.out.2.1 HF.out.1.2);have H10:=hI (fun w' r r' (hr:IntV w' r (p*dn q')) (hr':IntV w' r' (p'*dn q))=>qbh r r' _ _ w' hr hr');unfold cmpQ;generalize cmpZ (p*dn q') (p'*dn q)=R at*
  go_enter Tryz.func64,Tryz.ntmps64
  obtain⟨⟨s0,s1,s2,s3⟩,t0,t1,t2,t3⟩:=HS.out _ (Below.refl _ _)
  go_wp2_with (go_at_call 109;refine(H1.out _ (Below.refl _ _)).mono ?_;rintro e w1 ⟨rfl,hb1⟩;have Hb1:=hI hb1;obtain⟨⟨s0,s1,s2,s3⟩,t0,t1,t2,t3⟩:=HS.out _ hb1;clear hb1)
  refine wp_region_held_drew (S:=(fun w'=>w'.cell? ⟨w.heap.size,0,none⟩=some (.bool x)∧w'.cell? ⟨w.heap.size,1,none⟩=some (.slice a n c)∧w'.cell? ⟨w.heap.size,2,none⟩=some (.bool x')∧w'.cell? ⟨w.heap.size,3,none⟩=some (.slice a' n' c')∧w'.cell? ⟨w.heap.size+1,0,none⟩=some (.bool y)∧w'.cell? ⟨w.heap.size+1,1,none⟩=some (.slice e m k)∧w'.cell? ⟨w.heap.size+1,2,none⟩=some (.bool y')∧w'.cell? ⟨w.heap.size+1,3,none⟩=some (.slice e' m' k'))) (by kernel_rfl) (by exact(fun h=>⟨h.1.1,h.1.2.1,h.1.2.2.1,h.1.2.2.2,h.2⟩) (HS.out _ (Hb1.out.dn 1))) (fun hHeld=>?_)
  refine wpAnyH_take (i:=0) (v:=?v8) rfl (by kernel_rfl) (by kernel_rfl) (by kernel_rfl) (fun _ _ _ h=>h) (Or.inl ⟨by rfl,?hy8⟩) (by assumption) ?rest8
  case hy8=>(intro w hSw;(try dsimp only at hSw);go_simp;try(with_reducible rfl))
  try simp only[Act.put,List.getElem_toArray,List.getElem_cons_zero,List.setIfInBounds_toArray,List.set_cons_zero,List.set_cons_succ]
  refine' tk 1 ?_;(try simp only[tkS]);refine' tk 2 ?_;(try simp only[tkS]);refine' tk 5 ?_;(try simp only[tkS]);refine' tk 6 ?_;(try simp only[tkS]);refine' tk 7 ?_;(try simp only[tkS]);refine tk1 3 (fun K hK=>?_)
  go_simp;go_at_call 113;refine(H3.out _ (Hb1.out.dn 1)).mono ?_
  rintro e5 w3 ⟨v3,rfl,hv3,hb3⟩;have Hb3:=hI (qaa (Hb1.out.dn 1) hb3);obtain⟨x31,a31,k31,c31,rfl,hv3⟩:=hv3.open;have HO3:=hI hv3;clear hv3;clear hb3;refine hK.out _ _ (by exact(fun h=>⟨h.1.1,h.1.2.1,h.1.2.2.1,h.1.2.2.2,h.2⟩) (HS.out _ (Hb3.out))) (fun hHeld=>?_)
  clear hK K;(try simp only[tkS]);refine tk1 4 (fun K hK=>?_)
  go_simp;go_at_call 112;refine(H4.out _ (Hb3.out) _ HO3.out).mono ?_
  rintro e5 w4 ⟨v4,rfl,hv4,hb4⟩;have HO3:=hI (HO3.out.mono hb4.b);have Hb4:=hI (qaa (Hb3.out) hb4);obtain⟨x41,a41,k41,c41,rfl,hv4⟩:=hv4.open;have HO4:=hI hv4;clear hv4;clear hb4;refine hK.out _ _ (by exact(fun h=>⟨h.1.1,h.1.2.1,h.1.2.2.1,h.1.2.2.2,h.2⟩) (HS.out _ (Hb4.out))) (fun hHeld=>?_)
  clear hK K;(try simp only[tkS]);refine tk1 8 (fun K hK=>?_)
  go_simp;go_at_call 113;refine(H8.out _ (Hb4.out)).mono ?_
  rintro e5 w8 ⟨v8,rfl,hv8,hb8⟩;have HO3:=hI (HO3.out.mono hb8.b);have HO4:=hI (HO4.out.mono hb8.b);have Hb8:=hI (qaa (Hb4.out) hb8);obtain⟨x81,a81,k81,c81,rfl,hv8⟩:=hv8.open;have HO8:=hI hv8;clear hv8;clear hb8;refine hK.out _ _ (by exact(fun h=>⟨h.1.1,h.1.2.1,h.1.2.2.1,h.1.2.2.2,h.2⟩) (HS.out _ (Hb8.out))) (fun hHeld=>?_)
  clear hK K;(try simp only[tkS]);refine tk1 9 (fun K hK=>?_)
  go_simp;go_at_call 112;refine(H9.out _ (Hb8.out) _ HO8.out).mono ?_
  rintro e5 w9 ⟨v9,rfl,hv9,hb9⟩;have HO3:=hI (HO3.out.mono hb9.b);have HO4:=hI (HO4.out.mono hb9.b);have HO8:=hI (HO8.out.mono hb9.b);have Hb9:=hI (qaa (Hb8.out) hb9);obtain⟨x91,a91,k91,c91,rfl,hv9⟩:=hv9.open;have HO9:=hI hv9;clear hv9;clear hb9;refine hK.out _ _ (by exact(fun h=>⟨h.1.1,h.1.2.1,h.1.2.2.1,h.1.2.2.2,h.2⟩) (HS.out _ (Hb9.out))) (fun hHeld=>?_)
  clear hK K;(try simp only[tkS]);refine tk1 10 (fun K hK=>?_)
  go_simp;go_at_call 116;refine(H10.out _ _ _ HO4.out HO9.out).mono ?_
  rintro e5 w10 ⟨rfl,hb10⟩;have HO3:=hI (HO3.out.mono hb10.b);have HO4:=hI (HO4.out.mono hb10.b);have HO8:=hI (HO8.out.mono hb10.b);have HO9:=hI (HO9.out.mono hb10.b);have Hb10:=hI (qaa (Hb9.out) hb10);clear hb10;refine hK.out _ _ (by exact(fun h=>⟨h.1.1,h.1.2.1,h.1.2.2.1,h.1.2.2.2,h.2⟩) (HS.out _ (Hb10.out))) (fun hHeld=>?_)
  clear hK K;(try simp only[tkS]);refine' tk 11 ?_;(try simp only[tkS]);refine tkD ?_ _
  go_wp2_with fail
  go_ret
  exact⟨rfl,HK.out.via (Hb10.out) HK.out.size⟩
end Dr
theorem qmn(u v:Value)(p q p' q':Int)(w:World)(h:RatV w u p q)(h':RatV w v p' q')(hf:FewR p q)(hf':FewR p' q'):Calls Tryz.prog 64 #[u,v] w (Ret (.int .i64 (cmpQ p q p' q')) w):=(Dr.qmn u v p q p' q' w h h' hf hf').mono fun _ _ h=>h.n
end Go.Proofs.YtacihodamichhaaGreatDoor
namespace Go.Proofs.YtacihodamichhaaGreatDoor
open Go.RowKit
theorem ES:ElemTy 164 9 1 16:=⟨Tryz.underlying164,by kernel_rfl⟩
theorem qsc(c:UInt8)(l:List UInt8):(⟨#[c]⟩:ByteArray)++⟨l.toArray⟩=⟨(c::l).toArray⟩:=by
 apply qdm
 simp[ByteArray.toList_eq]
end Go.Proofs.YtacihodamichhaaGreatDoor
namespace Go.Proofs.YtacihodamichhaaGreatDoor
open Go.RowKit
structure CC where
 c:Cut
 x:Bool
 a:Option Addr
 n:Nat
 cap:Nat
theorem qb7{w w':World}{b:Nat}{x0 x1 x2 x3 x4 x5 x6:Value}{T:TypeId}(h:Blk w b #[x0,x1,x2,x3,x4,x5,x6] T)(hb:Below w.heap.size w w'):
  w'.cell? ⟨b,0,none⟩=some x0∧w'.cell? ⟨b,1,none⟩=some x1∧w'.cell? ⟨b,2,none⟩=some x2∧w'.cell? ⟨b,3,none⟩=some x3∧w'.cell? ⟨b,4,none⟩=some x4∧w'.cell? ⟨b,5,none⟩=some x5∧w'.cell? ⟨b,6,none⟩=some x6:=by
 have h':=h.below hb;exact⟨by rw[h'.cell];rfl,by rw[h'.cell];rfl,by rw[h'.cell];rfl,by rw[h'.cell];rfl,by rw[h'.cell];rfl,by rw[h'.cell];rfl,by rw[h'.cell];rfl⟩
theorem IntV.grown{w w':World}{B e sz n k c:Nat}{v:Value}{xs:List Value}{x:Bool}{a:Option Addr}{z:Int}(h:IntV w (.agg #[.bool x,.slice a k c]) z)(ha:AU w a)(hown:w.ownsRow B e sz v n xs)(he:e≠62)(hg:w.grownBy w' v.ownBlock):IntV w' (.agg #[.bool x,.slice a k c]) z:=by
 obtain⟨a',c',hv,h⟩:=h;cases hv
 exact⟨a,c,rfl,h.grown ha hown he hg⟩
theorem qf9(x y:Int):Lib.compareInt x y=cmpZ x y:=by unfold Lib.compareInt cmpZ;rfl
theorem or_d(b:Nat)(c:Nat)(x y z:Int)(w:World)(hB:Blk w b #[.int .i64 x,.int .i64 y,.int .i64 z] 3):
  Calls Tryz.prog 123 #[.slice (some ⟨b,0,none⟩) 3 c] w (RetD (.int .i64 (or3 x y z)) w):=by
 have c0:w.cell? ⟨b,0,none⟩=some (.int .i64 x):=by rw[hB.cell];rfl
 have c1:w.cell? ⟨b,1,none⟩=some (.int .i64 y):=by rw[hB.cell];rfl
 have c2:w.cell? ⟨b,2,none⟩=some (.int .i64 z):=by rw[hB.cell];rfl
 clear hB;obtain⟨R,hR⟩:∃R,or3 x y z=R:=⟨_,rfl⟩
 rw[hR];have HR:=hI hR;clear hR
 go_enter Tryz.func123,Tryz.ntmps123
 go_wp2_with fail
 go_loopw [8,5] (fun i _ wr=>BD w wr∧(i=.int .i64 0∨(i=.int .i64 1∧x=0)∨(i=.int .i64 2∧x=0∧y=0)∨(i=.int .i64 3∧x=0∧y=0∧z=0))) (fun i _ _=>3-(intOf i).toNat)
 case atStart=>exact⟨BD.refl _,.inl rfl⟩
 case round=>
  obtain⟨hbw,rfl|⟨rfl,rfl⟩|⟨rfl,rfl,rfl⟩|⟨rfl,rfl,rfl,rfl⟩⟩:=hrel
  ·have d0:=qab hbw.1 c0
   by_cases h:x=0
   ·subst h
    go_wp2_with fail
    go_roundw
    case rel=>exact⟨hbw,.inr (.inl ⟨by go_num,trivial⟩)⟩
    case measure=>simp[intOf]
   ·have h2:(x !=0)=true:=by simpa using h
    go_wp2_with fail
    go_ret
    exact⟨by rw[←HR.out];simp[or3,h],hbw⟩
  ·have d1:=qab hbw.1 c1
   by_cases h:y=0
   ·subst h
    go_wp2_with fail
    go_roundw
    case rel=>exact⟨hbw,.inr (.inr (.inl ⟨by go_num,trivial,trivial⟩))⟩
    case measure=>simp[intOf]
   ·have h2:(y !=0)=true:=by simpa using h
    go_wp2_with fail
    go_ret
    exact⟨by rw[←HR.out];simp[or3,h],hbw⟩
  ·have d2:=qab hbw.1 c2
   by_cases h:z=0
   ·subst h
    go_wp2_with fail
    go_roundw
    case rel=>exact⟨hbw,.inr (.inr (.inr ⟨by go_num,trivial,trivial,trivial⟩))⟩
    case measure=>simp[intOf]
   ·have h2:(z !=0)=true:=by simpa using h
    go_wp2_with fail
    go_ret
    exact⟨by rw[←HR.out];simp[or3],hbw⟩
  ·go_wp2_with fail
   go_ret
   exact⟨by rw[←HR.out];simp[or3],hbw⟩
end Go.Proofs.YtacihodamichhaaGreatDoor
namespace Go.Proofs.YtacihodamichhaaGreatDoor
open Go.RowKit
def setN(w:World)(b:Nat):Nat→List Value→World
 |_,[]=>w
 |i,v::r=>setN (w.setCell ⟨b,i,none⟩ v) b (i+1) r
theorem qca{B b:Nat}{w:World}(hB:B≤b):∀(vs:List Value) (i:Nat) (w1:World),Below B w w1→Below B w (setN w1 b i vs)
 |[],_,_,h=>h
 |v::r,i,_w1,h=>qca hB r (i+1) _ (h.setCell (p:=⟨b,i,none⟩) hB v)
theorem qmj{b:Nat}{T:TypeId}:∀(vs:List Value) (i:Nat) (w:World) (pre suf:List Value),pre.length=i→suf.length=vs.length→Blk w b (pre++suf).toArray T→Blk (setN w b i vs) b (pre++vs).toArray T
 |[],i,w,pre,suf,_,hs,h=>by
  cases suf with
  |nil=>exact h
  |cons a l=>simp at hs
 |v::r,i,w,pre,suf,hp,hs,h=>by
  cases suf with
  |nil=>simp at hs
  |cons a l=>
   have h1:=h.set i v
   have e:(pre++a::l).toArray.setIfInBounds i v=((pre++[v])++l).toArray:=by
    rw[List.setIfInBounds_toArray,List.set_append_right _ _ (by omega)];subst hp;simp
   rw[e]at h1;have h2:=qmj r (i+1) _ (pre++[v]) l (by simp[hp]) (by simpa using hs) h1;have e2:pre++[v]++r=pre++v::r:=by simp
   rw[e2]at h2;exact h2
theorem qex{w:World}{b:Nat}{T:TypeId}{cs:Array Value}(h:Blk w b cs T)(vs:List Value)(hl:cs.size=vs.length):Blk (setN w b 0 vs) b vs.toArray T:=by
 have:=qmj vs 0 w [] cs.toList rfl (by simpa using hl) (by simpa using h)
 simpa using this
theorem NoU.set{cs:Array Value}(h:NoU cs)(i:Nat){v:Value}(hv:∀d:Int,v≠.int .u32 d):NoU (cs.setIfInBounds i v):=by
 intro x hx d;rw[Array.toList_setIfInBounds]at hx;rcases List.mem_or_eq_of_mem_set hx with h'|rfl
 ·exact h x h' d
 ·exact hv d
theorem IntV.setN{v:Value}{z:Int}{R:Nat}{T:TypeId}:∀(vs:List Value) (i:Nat) (w:World) (cs:Array Value),(∀x∈vs,∀d:Int,x≠.int .u32 d)→IntV w v z→Blk w R cs T→NoU cs→IntV (setN w R i vs) v z
 |[],_,_,_,_,h,_,_=>h
 |x::r,i,_,_,hv,h,hB,hn=>IntV.setN r (i+1) _ _ (fun y hy=>hv y (List.mem_cons_of_mem _ hy)) (h.put hB hn x) (hB.set i x) (hn.set i (hv x (List.mem_cons_self ..)))
theorem AU.setN{a:Option Addr}{R:Nat}:∀(vs:List Value) (i:Nat) (w:World),AU w a→AU (setN w R i vs) a
 |[],_,_,h=>h
 |v::r,i,_,h=>AU.setN r (i+1) _ (h.set R i v)
theorem noU7{b d:Int}{s:ByteArray}{x x':Bool}{a a':Option Addr}{n c n' c':Nat}:NoU #[.int .i64 b,.string s,.int .i64 d,.bool x,.slice a n c,.bool x',.slice a' n' c']:=by
 intro v hv d';simp at hv;rcases hv with rfl|rfl|rfl|rfl|rfl|rfl|rfl<;>simp
theorem qtu{w:World}{b:Nat}{cs:Array Value}{T:TypeId}(h:Blk w b cs T):
  w.frozen? ⟨b,0,none⟩=false∧w.frozen? ⟨b,1,none⟩=false∧w.frozen? ⟨b,2,none⟩=false∧w.frozen? ⟨b,3,none⟩=false∧w.frozen? ⟨b,4,none⟩=false∧w.frozen? ⟨b,5,none⟩=false∧w.frozen? ⟨b,6,none⟩=false:=
 ⟨h.free 0,h.free 1,h.free 2,h.free 3,h.free 4,h.free 5,h.free 6⟩
def qd5(n:ByteArray)(kind side:Int):Cut:=if kind=2 then⟨-side,⟨#[]⟩,0⟩else⟨0,n,if kind=1 then -side else side⟩
end Go.Proofs.YtacihodamichhaaGreatDoor
