/- Parts of the proof. -/
import Derived.Test.YtacihodamichhaaGreatDoorP45
set_option maxHeartbeats 8000000
namespace Go.Proofs.YtacihodamichhaaGreatDoor
open Go.RowKit
theorem Sl.takeC{w:World}{sz n cap k:Nat}{a:Option Addr}{rows:List (List Value)}(h:Sl w sz (.slice a n cap) rows)(hk:k≤n):Sl w sz (.slice a k cap) (rows.take k):=by
 obtain⟨a',cap',hv,hc,hm,h⟩:=h;simp only[Value.slice.injEq]at hv;obtain⟨rfl,rfl,rfl⟩:=hv;refine⟨a,cap,by rw[List.length_take,Nat.min_eq_left hk],by rw[List.length_take];omega,hm,?_⟩
 rcases h with h|⟨b,off,rfl,hb,h⟩
 ·exact .inl h
 ·refine .inr ⟨b,off,rfl,hb,fun i j hi hj=>?_⟩
  rw[List.length_take]at hi;rw[h i j (by omega) hj];simp only[List.getD_eq_getElem?_getD];rw[List.getElem?_take_of_lt (by omega)]
theorem qo2(v:Value)(xs:List Iv)(w:World)(h:Ivs w v xs)(hs:∀x∈xs,x.short):Calls Tryz.prog 15 #[v] w (RetP (fun r w'=>∃a c,r=.slice a (setL xs).length c∧Ivs w' (.slice a (setL xs).length c) (setL xs)) w):=by
 obtain⟨a,c,rfl,hc1,hc2⟩:=h.open;unfold maxLen at hc2;obtain⟨m,hm⟩:∃m,min xs.length 8=m:=⟨_,rfl⟩
 have hmin:min ((xs.length:Nat):Int) 8=(m:Int):=by omega
 have hm8:m≤8:=by omega
 have hml:m≤xs.length:=by omega
 have htk:xs.take 8=xs.take m:=by
  rcases Nat.lt_or_ge xs.length 8 with h8|h8
  ·rw[List.take_of_length_le (by omega),List.take_of_length_le (by omega)]
  ·rw[show m=8 by omega]
 have hIv:Ivs w (.slice a m c) (xs.take m):=by
  have:=Sl.takeC h hml;rw[←List.map_take]at this;exact this
 have hlen:(xs.take m).length=m:=by rw[List.length_take];omega
 have HN:=hI (qkf (.slice a m c) (xs.take m) w hIv (fun x hx=>hs x (List.mem_of_mem_take hx)) (by omega));have Hse:=hI (show setL xs=qed (xs.take m)by unfold setL;rw[htk]);have hmc:(m:Int)≤(c:Int):=by omega
 have hm0:(0:Int)≤(m:Int):=Int.natCast_nonneg _;have hmt:((m:Int)).toNat=m:=by omega
 clear h hs hm hIv hlen htk hm8;generalize xs.length=n at*;unfold qv2 at HN
 go_enter Tryz.func15,Tryz.ntmps15
 go_wp2_with (go_at_call 24;refine(HN.out).mono ?_;rintro e w1 ⟨v1,rfl,⟨a1,c1,rfl,hiv⟩,hb1⟩;have Hiv:=hI hiv;have Hb1:=hI hb1;clear hiv hb1)
 go_ret
 exact⟨_,rfl,⟨a1,c1,by rw[Hse.out];rfl,by rw[Hse.out];exact Hiv.out⟩,Hb1.out⟩
theorem qs9(v:Value)(xs:List Iv)(w:World)(h:Ivs w v xs)(hn:260<xs.length):Calls Tryz.prog 14 #[v] w (Ret (.bool false) w):=by
 obtain⟨a,c,rfl,hc1,hc2⟩:=h.open;clear h;generalize xs.length=n at*;have g1:(260:Int)<(n:Int):=by omega
 go_enter Tryz.func14,Tryz.ntmps14
 go_wp2_with fail
 go_ret
 exact⟨rfl,Below.refl _ _⟩
theorem qqt(v:Value)(xs:List Iv)(w:World)(h:Ivs w v xs):Calls Tryz.prog 14 #[v] w (Ret (.bool (fewB xs)) w):=by
 rcases Nat.lt_or_ge 260 xs.length with hn|hn
 ·rw[show fewB xs=false by unfold fewB;rw[decide_eq_true hn];rfl]
  exact qs9 v xs w h hn
 ·exact qvu v xs w h (by omega)
theorem qui{x y:Cut}(hx:RokC x)(hy:RokC y)(h:toP x=toP y):x=y:=by
 obtain⟨b,s,d⟩:=x;obtain⟨b',s',d'⟩:=y;unfold toP at h;dsimp only at h
 injection h with h1 h2 h3
 subst h1 h2;rcases hx with⟨hb,-,-,-,-⟩|⟨hb,-,hd⟩
 ·dsimp only at hb
  subst hb;simp only[if_true]at h3;rw[show d=d' by omega]
 ·rcases hy with⟨hb',-,-,-,-⟩|⟨-,-,hd'⟩
  ·dsimp only at hb hb'
   omega
  ·dsimp only at hd hd'
   rw[hd,hd']
theorem qr1(x y:Cut)(hx:RokC x)(hy:RokC y)(h1:¬ltR x y)(h2:¬ltR y x):x=y:=
 qui hx hy (qe7 _ _ ⟨x,hx,rfl⟩ ⟨y,hy,rfl⟩ h1 h2)
theorem qrv{X Y:List RP}(hX:IsSet ltR X)(hY:IsSet ltR Y)(oX:∀r∈X,OkR r)(oY:∀r∈Y,OkR r)(h:∀c,RokC c→(Mem ltR X c↔Mem ltR Y c)):X=Y:=
 IsSet.uniq qco RokC qr1 hX hY oX oY h
theorem qe5{rs:List RP}{c:Cut}:Mem ltR (qa3 rs) c↔Mem ltR rs c:=(qcd rs).2 c
theorem qe1(s:ByteArray):numR s.data.toList=(ratS s).num∧dn (denR s.data.toList)=((ratS s).den:Int):=by
 rcases Classical.em (errL s.data.toList=0)with h|h
 ·obtain⟨r,hr⟩:=qlq h
  rw[qfn hr,hr,(qe8 (qda r)).1,(qe8 (qda r)).2,qit,qk4];exact⟨rfl,rfl⟩
 ·obtain⟨h1,h2,h3⟩:=qi0 h
  rw[h1,h2,h3];exact⟨rfl,rfl⟩
theorem qtz(x y:Cut):QL x y↔ratS x.s≤ratS y.s:=by
 unfold QL;rw[(qe1 x.s).1,(qe1 x.s).2,(qe1 y.s).1,(qe1 y.s).2];exact(Rat.le_iff _ _).symm
theorem qdk{x y:Cut}:ltR x y↔x.b<y.b∨(x.b=y.b∧(ratS x.s<ratS y.s∨(ratS x.s=ratS y.s∧x.b=0∧x.d<y.d))):=by
 unfold ltR;rw[qes,qtz,qtz,Rat.not_le]
 show x.b<y.b∨(x.b=y.b∧(ratS x.s<ratS y.s∨(ratS x.s≤ratS y.s∧ratS y.s≤ratS x.s∧(if x.b=0 then 2*x.d-1 else 0)<(if y.b=0 then 2*y.d-1 else 0))))↔_
 refine or_congr Iff.rfl (and_congr_right fun hb=>or_congr Iff.rfl ?_)
 rw[←and_assoc,←Rat.le_antisymm_iff,hb];refine and_congr_right fun _=>?_
 split
 ·exact⟨fun h=>⟨‹_›,by omega⟩,fun h=>by omega⟩
 ·exact⟨fun h=>absurd h (by decide),fun h=>absurd h.1 ‹_›⟩
theorem qwh{p:Rat}(h:p≠0):p<0∨0<p:=by
 rcases Classical.em (p<0)with h1|h1
 ·exact .inl h1
 ·exact .inr (Rat.lt_of_le_of_ne (Rat.not_lt.1 h1) (Ne.symm h))
theorem qg8{a b:Rat}:a=b↔¬a<b∧¬b<a:=by
 rw[Rat.not_lt,Rat.not_lt,Rat.le_antisymm_iff];exact and_comm
theorem ql3{p q a b:Rat}(h:0<p):p*a+q<p*b+q↔a<b:=by
 rw[Rat.add_lt_add_right,Rat.mul_lt_mul_left h]
theorem qge{p q a b:Rat}(h:p<0):p*a+q<p*b+q↔b<a:=by
 rw[Rat.add_lt_add_right];have h':0< -p:=by rw[Rat.lt_neg_iff,Rat.neg_zero];exact h
 rw[←Rat.mul_lt_mul_left h' (a:=b) (b:=a),Rat.neg_mul,Rat.neg_mul,Rat.neg_lt_neg_iff]
theorem qfv(p q:Rat):movS p q ⟨#[]⟩=⟨#[]⟩:=by unfold movS;rw[if_pos (by rw[ByteArray.toList_eq];rfl)]
theorem qww{s:ByteArray}(h:errL s.data.toList=0):s.toList.isEmpty=false:=by
 cases he:s.toList.isEmpty with
 |false=>rfl
 |true=>
  rw[ByteArray.toList_eq,List.isEmpty_iff]at he;rw[he]at h;exact absurd h (by decide)
theorem qpy{p q:Rat}{s:ByteArray}(h:errL s.data.toList=0):movS p q s=⟨(txtR (p*ratS s+q)).toArray⟩:=by
 unfold movS;rw[if_neg (by rw[qww h];decide)]
theorem qe2{p q:Rat}{s:ByteArray}(h:errL s.data.toList=0):ratS (movS p q s)=p*ratS s+q:=by
 rw[qpy h];exact qfn (by simp)
def inP(q:Cut × Cut)(a b:Cut):Bool:=decide (cmpG q.1 a≤0)&&decide (cmpG b q.2≤0)
theorem qn9(k l p q:GC)(B:Nat)(w:World)(hB:Blk w B #[.int .i64 p.c.b,.string p.c.s,.int .i64 p.c.d,.bool p.x,.slice p.a p.n p.cap,.bool p.y,.slice p.e p.m p.cap2,.int .i64 q.c.b,.string q.c.s,.int .i64 q.c.d,.bool q.x,.slice q.a q.n q.cap,.bool q.y,.slice q.e q.m q.cap2] 84)(hk:k.ok w)(hl:l.ok w)(hp:p.ok w)(hq:q.ok w):
  Calls Tryz.prog 98 #[gpagg k l,.pointer (some ⟨B,0,none⟩)] w (Ret (.bool (inP (k.c,l.c) p.c q.c)) w):=by
 have H1:=hI (fun w' (hb:Below w.heap.size w w')=>qcb k p w' (hk.mono hb) (hp.mono hb));have H2:=hI (fun w' (hb:Below w.heap.size w w')=>qcb q l w' (hq.mono hb) (hl.mono hb));have hT:inP (k.c,l.c) p.c q.c=(decide (cmpG k.c p.c≤0)&&decide (cmpG q.c l.c≤0)):=rfl;unfold GC.agg at H1 H2;generalize cmpG k.c p.c=R1 at*;generalize cmpG q.c l.c=R2 at*;have HB1:=hI (fun w' (hb:Below (w.alloc (.cells #[.int .i64 k.c.b,.string k.c.s,.int .i64 k.c.d,.bool k.x,.slice k.a k.n k.cap,.bool k.y,.slice k.e k.m k.cap2,.int .i64 l.c.b,.string l.c.s,.int .i64 l.c.d,.bool l.x,.slice l.a l.n l.cap,.bool l.y,.slice l.e l.m l.cap2] 84)).heap.size (w.alloc (.cells #[.int .i64 k.c.b,.string k.c.s,.int .i64 k.c.d,.bool k.x,.slice k.a k.n k.cap,.bool k.y,.slice k.e k.m k.cap2,.int .i64 l.c.b,.string l.c.s,.int .i64 l.c.d,.bool l.x,.slice l.a l.n l.cap,.bool l.y,.slice l.e l.m l.cap2] 84)) w')=>qa7 (hB.old (.cells #[.int .i64 k.c.b,.string k.c.s,.int .i64 k.c.d,.bool k.x,.slice k.a k.n k.cap,.bool k.y,.slice k.e k.m k.cap2,.int .i64 l.c.b,.string l.c.s,.int .i64 l.c.d,.bool l.x,.slice l.a l.n l.cap,.bool l.y,.slice l.e l.m l.cap2] 84)) hb);have HB2:=hI (fun w' (hb:Below (w.alloc (.cells #[.int .i64 k.c.b,.string k.c.s,.int .i64 k.c.d,.bool k.x,.slice k.a k.n k.cap,.bool k.y,.slice k.e k.m k.cap2,.int .i64 l.c.b,.string l.c.s,.int .i64 l.c.d,.bool l.x,.slice l.a l.n l.cap,.bool l.y,.slice l.e l.m l.cap2] 84)).heap.size (w.alloc (.cells #[.int .i64 k.c.b,.string k.c.s,.int .i64 k.c.d,.bool k.x,.slice k.a k.n k.cap,.bool k.y,.slice k.e k.m k.cap2,.int .i64 l.c.b,.string l.c.s,.int .i64 l.c.d,.bool l.x,.slice l.a l.n l.cap,.bool l.y,.slice l.e l.m l.cap2] 84)) w')=>qa7 (Blk.new w #[.int .i64 k.c.b,.string k.c.s,.int .i64 k.c.d,.bool k.x,.slice k.a k.n k.cap,.bool k.y,.slice k.e k.m k.cap2,.int .i64 l.c.b,.string l.c.s,.int .i64 l.c.d,.bool l.x,.slice l.a l.n l.cap,.bool l.y,.slice l.e l.m l.cap2] 84) hb)
 obtain⟨r0,r1,r2,r3,r4,r5,r6,r7,r8,r9,r10,r11,r12,r13⟩:=HB1.out _ (Below.refl _ _);obtain⟨b0,b1,b2,b3,b4,b5,b6,b7,b8,b9,b10,b11,b12,b13⟩:=HB2.out _ (Below.refl _ _);have HR:=hI (qac w (.cells #[.int .i64 k.c.b,.string k.c.s,.int .i64 k.c.d,.bool k.x,.slice k.a k.n k.cap,.bool k.y,.slice k.e k.m k.cap2,.int .i64 l.c.b,.string l.c.s,.int .i64 l.c.d,.bool l.x,.slice l.a l.n l.cap,.bool l.y,.slice l.e l.m l.cap2] 84));rw[hT];clear hB hk hl hp hq hT;unfold gpagg
 by_cases h1:R1≤0
 ·have hd1:decide (R1≤0)=true:=decide_eq_true h1
  rw[hd1,Bool.true_and]
  go_enter Tryz.func98,Tryz.ntmps98
  go_wp2_with (first
   |(have _t:=Hw1;clear _t;go_at_call 73;refine(H2.out _ Hw1.out).mono ?_;rintro e w2 ⟨rfl,hb2⟩;have Hw2:=hI (qaa Hw1.out hb2);clear hb2)
   |(go_at_call 73;refine(H1.out _ HR.out).mono ?_;rintro e w1 ⟨rfl,hb1⟩;have Hw1:=hI (qaa HR.out hb1);obtain⟨r0,r1,r2,r3,r4,r5,r6,r7,r8,r9,r10,r11,r12,r13⟩:=HB1.out _ hb1;obtain⟨b0,b1,b2,b3,b4,b5,b6,b7,b8,b9,b10,b11,b12,b13⟩:=HB2.out _ hb1;clear hb1))
  go_ret
  exact⟨rfl,Hw2.out⟩
 ·have hd1:decide (R1≤0)=false:=decide_eq_false h1
  rw[hd1,Bool.false_and]
  go_enter Tryz.func98,Tryz.ntmps98
  go_wp2_with (go_at_call 73;refine(H1.out _ HR.out).mono ?_;rintro e w1 ⟨rfl,hb1⟩;have Hw1:=hI (qaa HR.out hb1);clear hb1)
  go_ret
  exact⟨rfl,Hw1.out⟩
theorem qn8(v:Value)(ps:List GP)(p q:GC)(B:Nat)(w:World)(h:qay w v ps)(hn:ps.length<1000000)(hB:Blk w B #[.int .i64 p.c.b,.string p.c.s,.int .i64 p.c.d,.bool p.x,.slice p.a p.n p.cap,.bool p.y,.slice p.e p.m p.cap2,.int .i64 q.c.b,.string q.c.s,.int .i64 q.c.d,.bool q.x,.slice q.a q.n q.cap,.bool q.y,.slice q.e q.m q.cap2] 84)(hp:p.ok w)(hq:q.ok w):
  Calls Tryz.prog 136 #[v,.func (.func 98) #[] #[.pointer (some ⟨B,0,none⟩)]] w (RetP (fun r _=>∃z:Int,r=.int .i64 z∧decide (0≤z)=ps.any fun g=>inP g.cuts p.c q.c) w):=by
 obtain⟨a,c,rfl,hc1,hc2⟩:=h.open;unfold maxLen at hc2;have HX:=hI h;have HP:=hI (And.intro hB (And.intro hp hq));obtain⟨E,hE⟩:∃E,(ps.any fun g=>inP g.cuts p.c q.c)=E:=⟨_,rfl⟩
 rw[hE];have HE:=hI hE;clear h hB hp hq hE;generalize hln:ps.length=n at*;have Hln:=hI hln;clear hln
 go_enter Tryz.func136,Tryz.ntmps136
 go_wp2_with fail
 go_loopw [8] (fun i wr=>∃k:Nat,k≤n∧i=.int .i64 (k:Int)∧Below w.heap.size w wr∧Hid (((ps.take k).any fun g=>inP g.cuts p.c q.c)=false)) (fun i _=>n-(intOf i).toNat)
 case atStart=>exact⟨0,by omega,rfl,Below.refl _ _,rfl⟩
 case round=>
  obtain⟨k,hk,rfl,hbw,hpre⟩:=hrel;have Hbw:=hI hbw;have Hpre:=hI hpre.out;rcases Nat.lt_or_ge k n with hlt|hge
  ·obtain⟨b,off,g,rfl,hx,hgok,e0,e1,e2,e3,e4,e5,e6,e7,e8,e9,e10,e11,e12,e13⟩:=HX.out.at hbw hlt
   have hkn:(k:Int)<(n:Int):=by omega
   have hk0:(0:Int)≤(k:Int):=Int.natCast_nonneg _;have hkw:IntKind.i64.wrap ((k:Int)+1)=(k:Int)+1:=IntWalk.i64_in _ (by omega);have H1:=hI (qn9 g.l g.h p q B wr (HP.out.1.below hbw) hgok.1 hgok.2 (HP.out.2.1.mono hbw) (HP.out.2.2.mono hbw));unfold gpagg at H1;have Hx:=hI hx;obtain⟨Y,hY⟩:∃Y,inP (g.l.c,g.h.c) p.c q.c=Y:=⟨_,rfl⟩
   rw[hY]at H1;have HY:=hI hY;clear hbw hx hgok hY hpre;cases Y with
   |true=>
    have Hfin:=hI (show E=true by
     rw[←HE.out,List.any_eq_true]
     exact⟨g,List.mem_of_getElem? Hx.out,HY.out⟩)
    go_wp2_with (go_at_call 98;refine(H1.out).mono ?_;rintro e w1 ⟨rfl,hb1⟩;have Hb1:=hI (Hbw.out.via hb1 Hbw.out.size);clear hb1)
    go_ret
    exact⟨_,rfl,⟨(k:Int),rfl,by rw[Hfin.out];exact decide_eq_true hk0⟩,Hb1.out⟩
   |false=>
    have Hnx:=hI (show((ps.take (k+1)).any fun g=>inP g.cuts p.c q.c)=false by
     obtain⟨hi,he⟩:=List.getElem?_eq_some_iff.1 Hx.out;rw[List.take_succ_eq_append_getElem hi,he,List.any_append,Hpre.out,List.any_cons,List.any_nil]
     show(false||(inP (g.l.c,g.h.c) p.c q.c||false))=false
     rw[HY.out];rfl)
    go_wp2_with (go_at_call 98;refine(H1.out).mono ?_;rintro e w1 ⟨rfl,hb1⟩;have Hb1:=hI (Hbw.out.via hb1 Hbw.out.size);clear hb1)
    go_roundw
    case rel=>exact⟨k+1,by omega,by go_num,Hb1.out,Hnx.out⟩
    case measure=>simp[intOf]<;>omega
  ·obtain rfl:k=n:=by omega
   have hkn:¬(k:Int)<(k:Int):=by omega
   have Hfin:=hI (show E=false by
    have:=Hpre.out;rw[List.take_of_length_le (by rw[Hln.out];exact Nat.le_refl _)]at this
    rw[←HE.out];exact this)
   go_wp2_with fail
   go_ret
   exact⟨_,rfl,⟨-1,rfl,by rw[Hfin.out];rfl⟩,Hbw.out⟩
theorem qh0(v:Value)(ps:List GP)(p q:GC)(B:Nat)(w:World)(h:qay w v ps)(hn:ps.length<1000000)(hB:Blk w B #[.int .i64 p.c.b,.string p.c.s,.int .i64 p.c.d,.bool p.x,.slice p.a p.n p.cap,.bool p.y,.slice p.e p.m p.cap2,.int .i64 q.c.b,.string q.c.s,.int .i64 q.c.d,.bool q.x,.slice q.a q.n q.cap,.bool q.y,.slice q.e q.m q.cap2] 84)(hp:p.ok w)(hq:q.ok w):
  Calls Tryz.prog 97 #[v,.func (.func 98) #[] #[.pointer (some ⟨B,0,none⟩)]] w (Ret (.bool (ps.any fun g=>inP g.cuts p.c q.c)) w):=by
 have H:=hI (qn8 v ps p q B w h hn hB hp hq);generalize(ps.any fun g=>inP g.cuts p.c q.c)=E at*;clear h hB hp hq
 go_enter Tryz.func97,Tryz.ntmps97
 go_wp2_with (go_at_call 136;refine(H.out).mono ?_;rintro e w1 ⟨v1,rfl,⟨z,rfl,hz⟩,hb1⟩;have Hz:=hI hz;have Hb1:=hI hb1;clear hz hb1)
 go_ret
 exact⟨by rw[←Hz.out];rfl,Hb1.out⟩
theorem qn6(n:ByteArray)(w:World)(hn:n.size≤5000)(h:errL n.data.toList=0):Calls Tryz.prog 25 #[.string n] w (RetP (fun v w'=>∃b,v=.tuple #[.slice (some ⟨b,0,none⟩) 1 1,.int .i64 0]∧Blk w' b #[.string n,.string n,.int .i64 1,.int .i64 1] 46) w):=by
 have H:=hI (qfm n w hn);unfold qeh at H;rw[h]at H;clear h
 go_enter Tryz.func25,Tryz.ntmps25
 go_wp2_with (go_at_call 63;refine(H.out).mono ?_;rintro e w1 ⟨v1,rfl,⟨x,a,k,c,y,a',m,e',rfl,-,-,-⟩,hb1⟩;have Hb1:=hI hb1;clear hb1)
 go_ret2
 exact⟨_,rfl,⟨_,rfl,by have hb:=Blk.new (w1.alloc (.cells #[.bool x,.slice a k c,.bool y,.slice a' m e'] 77)) #[.string n,.string n,.int .i64 1,.int .i64 1] 46;simpa using hb⟩,Hb1.out.alloc Hb1.out.size _ |>.alloc (by simp;exact Nat.le_succ_of_le Hb1.out.size) _⟩
def hasB(xs:List Iv)(n:ByteArray):Bool:=(xs.map Iv.cuts).any fun q=>inP q ⟨0,n,-1⟩ ⟨0,n,1⟩
def qn5(n:ByteArray):Iv:=⟨n,n,1,1⟩
theorem qqe{n:ByteArray}(h:errL n.data.toList=0):qbf (qn5 n)=0:=by
 unfold qbf qn5;dsimp only;rw[if_neg (by decide),if_neg]
 ·unfold qa2
  rw[if_neg (by decide)];exact h
 ·unfold qa2
  rw[if_neg (by decide)]
  simpa using h
theorem qqd(n:ByteArray):(qn5 n).low=⟨0,n,-1⟩:=rfl
theorem qn4(n:ByteArray):(qn5 n).high=⟨0,n,1⟩:=rfl
theorem qbx(v:Value)(xs:List Iv)(n:ByteArray)(w:World)(h:Ivs w v xs)(hs:∀x∈xs,x.short)(he:qa9 xs=0)(hlen:xs.length<100000)(hn:n.size≤5000)(hr:errL n.data.toList=0):
  Calls Tryz.prog 40 #[v,.string n] w (Ret (.tuple #[.bool (hasB xs n),.int .i64 0]) w):=by
 have H:=hI (qhc v xs w h hs);unfold qip at H;rw[he]at H;have HS:=hI (fun w'=>qn6 n w' hn hr);have HV:=hI (fun w'=>qhd (qn5 n) w' ⟨hn,hn⟩);unfold IvG at HV;rw[qqe hr,qqd,qn4]at HV;unfold qn5 Iv.agg at HV;dsimp only at HV;have Hlen:=hI hlen;obtain⟨E,hE⟩:∃E,hasB xs n=E:=⟨_,rfl⟩
 have HE:=hI hE;rw[hE];clear h hs he hr hn hlen hE
 go_enter Tryz.func40,Tryz.ntmps40
 go_wp2_with (first
  |(go_at_call 56;refine(H.out).mono ?_;rintro e w1 ⟨⟨v1,rfl,hv1,-⟩,hb1⟩;obtain⟨ap,cp,ps,rfl,hps,hcuts⟩:=hv1 rfl;have Hps:=hI hps;have Hcuts:=hI hcuts;have Hb1:=hI hb1;clear hv1 hps hcuts hb1)
  |(go_at_call 25;refine(HS.out _).mono ?_;rintro e w2 ⟨v2,rfl,⟨bs,rfl,hbs⟩,hb2⟩;obtain⟨⟨r0,r1,r2,r3⟩,-⟩:=qam hbs;have Hb2:=hI (Hb1.out.via hb2 Hb1.out.size);have Hps2:=hI (Hps.out.mono hb2);clear hbs hb2)
  |(go_at_call 72;refine(HV.out _).mono ?_;rintro e w3 ⟨v3,rfl,⟨k1,k2,rfl,hk1,hk2,hcc⟩,hb3⟩;obtain⟨⟨b1,s1,d1⟩,x1,a1,n1,c1,y1,e1,m1,l1⟩:=k1;obtain⟨⟨b2,s2,d2⟩,x2,a2,n2,c2,y2,e2,m2,l2⟩:=k2;have Hcc:=hI (hcc (by first|rfl|trivial));have Hb3:=hI (Hb2.out.via hb3 Hb2.out.size);have Hps3:=hI (Hps2.out.mono hb3);have Hkk:=hI (And.intro hk1 hk2);clear hk1 hk2 hcc hb3;unfold gpagg)
  |(go_at_call 97;refine(qh0 _ ps ⟨⟨b1,s1,d1⟩,x1,a1,n1,c1,y1,e1,m1,l1⟩ ⟨⟨b2,s2,d2⟩,x2,a2,n2,c2,y2,e2,m2,l2⟩ w3.heap.size _ (Hps3.out.mono (qac w3 (.cells #[.int .i64 b1,.string s1,.int .i64 d1,.bool x1,.slice a1 n1 c1,.bool y1,.slice e1 m1 l1,.int .i64 b2,.string s2,.int .i64 d2,.bool x2,.slice a2 n2 c2,.bool y2,.slice e2 m2 l2] 84))) (by have:=congrArg List.length Hcuts.out;rw[List.length_map,List.length_map]at this;have:=Hlen.out;omega) (Blk.new w3 _ _) (Hkk.out.1.mono (qac w3 (.cells #[.int .i64 b1,.string s1,.int .i64 d1,.bool x1,.slice a1 n1 c1,.bool y1,.slice e1 m1 l1,.int .i64 b2,.string s2,.int .i64 d2,.bool x2,.slice a2 n2 c2,.bool y2,.slice e2 m2 l2] 84))) (Hkk.out.2.mono (qac w3 (.cells #[.int .i64 b1,.string s1,.int .i64 d1,.bool x1,.slice a1 n1 c1,.bool y1,.slice e1 m1 l1,.int .i64 b2,.string s2,.int .i64 d2,.bool x2,.slice a2 n2 c2,.bool y2,.slice e2 m2 l2] 84)))).mono ?_;rintro e w4 ⟨rfl,hb4⟩;have Hb4:=hI (hb4);clear hb4))
 go_ret2
 exact⟨by
  rw[←HE.out]
  have hh:(ps.any fun g=>inP g.cuts (GC.c ⟨⟨b1,s1,d1⟩,x1,a1,n1,c1,y1,e1,m1,l1⟩) (GC.c ⟨⟨b2,s2,d2⟩,x2,a2,n2,c2,y2,e2,m2,l2⟩))=hasB xs n:=by
   unfold hasB;rw[←Hcuts.out,List.any_map,Hcc.out.1,Hcc.out.2]
   rfl
  rw[←hh];rfl,Hb3.out.via (qaa (qac w3 (.cells #[.int .i64 b1,.string s1,.int .i64 d1,.bool x1,.slice a1 n1 c1,.bool y1,.slice e1 m1 l1,.int .i64 b2,.string s2,.int .i64 d2,.bool x2,.slice a2 n2 c2,.bool y2,.slice e2 m2 l2] 84)) Hb4.out) Hb3.out.size⟩
theorem qu6(a b:Rat):a<b∨a=b∨b<a:=by
 rcases Classical.em (a<b)with h|h
 ·exact .inl h
 ·rcases Classical.em (b<a)with k|k
  ·exact .inr (.inr k)
  ·exact .inr (.inl (qg8.2 ⟨h,k⟩))
theorem qmg{a b:Rat}(h:a<b):¬b<a:=Rat.not_lt.2 (Rat.le_of_lt h)
def atC(n:ByteArray):Cut:=⟨0,n,0⟩
theorem qt9{n:ByteArray}(hn:n.size≤5000)(hr:errL n.data.toList=0):RokC (atC n):=.inl ⟨rfl,hn,hr,Int.le_refl 0,by show(0:Int)≤1;decide⟩
theorem qw5{n:ByteArray}{c:Cut}(hc:RokC c):¬ltR c ⟨0,n,1⟩↔ltR (atC n) c:=by
 rw[qdk,qdk];unfold atC;dsimp only;rcases hc with⟨hb,-,-,h0,h1⟩|⟨hb,-,-⟩
 ·rw[hb]
  rcases qu6 (ratS c.s) (ratS n)with h|h|h
  ·refine⟨fun k=>absurd (.inr ⟨rfl,.inl h⟩) k,fun k=>?_⟩
   rcases k with k|⟨-,k|⟨k,-⟩⟩
   ·exact absurd k (by decide)
   ·exact absurd k (qmg h)
   ·rw[k]at h;exact absurd h Rat.lt_irrefl
  ·rw[h]
   constructor
   ·intro k
    refine .inr ⟨rfl,.inr ⟨rfl,rfl,?_⟩⟩
    rcases(show c.d=0∨c.d=1 by omega)with d|d
    ·exact absurd (.inr ⟨rfl,.inr ⟨rfl,rfl,by omega⟩⟩) k
    ·omega
   ·rintro(k|⟨-,k|⟨-,-,k⟩⟩)
    ·exact absurd k (by decide)
    ·exact absurd k Rat.lt_irrefl
    ·rintro(j|⟨-,j|⟨-,-,j⟩⟩)
     ·exact absurd j (by decide)
     ·exact absurd j Rat.lt_irrefl
     ·omega
  ·refine⟨fun _=>.inr ⟨rfl,.inl h⟩,fun _=>?_⟩
   rintro(j|⟨-,j|⟨j,-,-⟩⟩)
   ·exact absurd j (by decide)
   ·exact absurd j (qmg h)
   ·rw[j]at h;exact absurd h Rat.lt_irrefl
 ·rcases hb with hb|hb<;>rw[hb]
  ·exact⟨fun _=>.inl (by decide),fun _=>by rintro(j|⟨j,-⟩)<;>exact absurd j (by decide)⟩
  ·refine⟨fun k=>absurd (.inl (by decide)) k,fun k=>?_⟩
   rcases k with j|⟨j,-⟩<;>exact absurd j (by decide)
theorem qc6{xs:List Iv}{J:List RP}(h:SetI xs J)(n:ByteArray):hasB xs n=true↔Mem ltR J (atC n):=by
 unfold hasB;rw[h.tp,List.any_eq_true]
 constructor
 ·rintro⟨q,hq,hin⟩
  obtain⟨r,hr,rfl⟩:=List.mem_map.1 hq;unfold inP at hin;rw[Bool.and_eq_true,decide_eq_true_eq,decide_eq_true_eq,←qgk,←qgk]at hin;exact⟨r,hr,hin.1,(qw5 (h.ok r hr).2).1 hin.2⟩
 ·rintro⟨r,hr,h1,h2⟩
  refine⟨tpR r,List.mem_map_of_mem hr,?_⟩
  unfold inP;rw[Bool.and_eq_true,decide_eq_true_eq,decide_eq_true_eq,←qgk,←qgk];exact⟨h1,(qw5 (h.ok r hr).2).2 h2⟩
section
variable {xs ys:List Iv} {Jx Jy:List RP} (hx:SetI xs Jx) (hy:SetI ys Jy) {n:ByteArray} (hn:n.size≤5000) (hr:errL n.data.toList=0)
include hx
theorem qqj(h:Jx.length+1≤256)(hn:n.size≤5000)(hr:errL n.data.toList=0):hasB ((qa3 (qc3 lowR qcs Jx)).map ivR) n=!hasB xs n:=by
 rw[Bool.eq_iff_iff,qc6 (qez hx h),qe5,qi8 hx.set hx.ok (qt9 hn hr),←qc6 hx,Bool.not_eq_true',Bool.not_eq_true];exact⟨fun k=>k.2,fun k=>⟨qdk.2 (.inl (by show(0:Int)<1;decide)),k⟩⟩
include hy
theorem qqg(h:Jx.length+Jy.length≤256):hasB ((qa3 (Jx++Jy)).map ivR) n=(hasB xs n||hasB ys n):=by
 rw[Bool.eq_iff_iff,qc6 (qf4 hx hy h),qe5,Mem.app,Bool.or_eq_true,qc6 hx,qc6 hy]
theorem qqi(h:Jx.length*Jy.length≤256):hasB ((qa3 (qee ltR Jx Jy)).map ivR) n=(hasB xs n&&hasB ys n):=by
 rw[Bool.eq_iff_iff,qc6 (qey hx hy h),qe5,qgw qco,Bool.and_eq_true,qc6 hx,qc6 hy]
theorem qqh(h:Jx.length*(Jy.length+1)≤256)(h2:Jy.length+1≤256)(hn:n.size≤5000)(hr:errL n.data.toList=0):hasB ((qa3 (qee ltR Jx (qa3 (qc3 lowR qcs Jy)))).map ivR) n=(hasB xs n&&!hasB ys n):=by
 rw[Bool.eq_iff_iff,qc6 (qf5 hx hy h h2),qe5,qgw qco,qe5,qi8 hy.set hy.ok (qt9 hn hr),Bool.and_eq_true,qc6 hx,←qc6 hy,Bool.not_eq_true',Bool.not_eq_true];exact⟨fun k=>⟨k.1,k.2.2⟩,fun k=>⟨k.1,qdk.2 (.inl (by show(0:Int)<1;decide)),k.2⟩⟩
end
theorem qs1{x:Iv}{xr:List Iv}{J:List RP}(h:SetI (x::xr) J):hasB (x::xr) ⟨(txtR (qc1 x)).toArray⟩=true:=by
 rw[qc6 h]
 obtain⟨r,J',rfl⟩:∃r J',J=r::J':=by
  cases J with
  |nil=>exact absurd h.eq (by simp)
  |cons r J'=>exact⟨r,J',rfl⟩
 have hxr:x=ivR r:=by
  have:=h.eq;rw[List.map_cons]at this
  injection this
 obtain⟨h1,h2⟩:=h.ok r List.mem_cons_self;have hlt:=h.set.ne r List.mem_cons_self;obtain⟨n1,n2⟩:=qvo h1 h2 hlt;refine⟨r,List.mem_cons_self,?_⟩
 have hN:ratS ⟨(txtR (qc1 x)).toArray⟩=qc1 x:=qfn (by simp);rw[qdk,qdk];unfold atC;dsimp only;rw[hN,hxr];rw[qdk]at hlt;obtain⟨⟨b1,s1,d1⟩,b2,s2,d2⟩:=r;unfold qc1 ivR;dsimp only at h1 h2 n1 n2 hlt⊢
 have k1:(b1=0∧(d1=0∨d1=1))∨b1=-1:=by
  rcases h1 with⟨hb,-,-,h0,h1'⟩|⟨hb|hb,-,-⟩
  ·dsimp only at hb h0 h1';exact .inl ⟨hb,by omega⟩
  ·exact absurd hb n1
  ·exact .inr hb
 have k2:(b2=0∧(d2=0∨d2=1))∨b2=1:=by
  rcases h2 with⟨hb,-,-,h0,h1'⟩|⟨hb|hb,-,-⟩
  ·dsimp only at hb h0 h1';exact .inl ⟨hb,by omega⟩
  ·exact .inr hb
  ·exact absurd hb n2
 clear h1 h2 n1 n2;rcases k1 with⟨rfl,rfl|rfl⟩|rfl<;>rcases k2 with⟨rfl,rfl|rfl⟩|rfl<;>simp at hlt⊢<;>grind
theorem qvc{x:Iv}(h:x.lo.size≤60∧x.hi.size≤60):Sz 123 (qc1 x):=by
 have z1:=qen h.1 (show 0<60 by decide);have z2:=qen h.2 (show 0<60 by decide);have z3:=z1.add z2;unfold qc1
 split
 ·exact qoq.mono (by decide)
 ·split
  ·exact z1.mono (by decide)
  ·split
   ·exact z2.mono (by decide)
   ·split
    ·exact(z1.add qig).mono (by decide)
    ·split
     ·rw[Rat.sub_eq_add_neg]
      exact(z2.add qig.neg).mono (by decide)
     ·exact(qor z3).mono (by decide)
theorem qsf{x:Iv}(h:x.lo.size≤60∧x.hi.size≤60):(⟨(txtR (qc1 x)).toArray⟩:ByteArray).size≤5000:=by
 have:=qd8 (qvc h)
 show(txtR (qc1 x)).toArray.size≤5000
 rw[List.size_toArray]
 omega
end Go.Proofs.YtacihodamichhaaGreatDoor
