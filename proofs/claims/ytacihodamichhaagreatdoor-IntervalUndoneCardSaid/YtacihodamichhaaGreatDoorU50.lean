/- Parts of the proof. -/
import Derived.WideKeyPair
import Derived.Test.YtacihodamichhaaGreatDoorU48
import Derived.Test.YtacihodamichhaaGreatDoorU49
set_option maxHeartbeats 32000000
namespace Go.Proofs.YtacihodamichhaaGreatDoor
open Go.RowKit
theorem qxk{q0:Int}{d:Nat}(h:q0≠0):((q0:Rat)/((1+(d:Int):Int):Rat))=mkRat q0 (1+d)∧((q0:Rat)/((1+(d:Int):Int):Rat))≠0:=by
 have e:((q0:Rat)/((1+(d:Int):Int):Rat))=mkRat q0 (1+d):=by
  rw[qdy (by rw[Rat.lt_iff];show(0:Int)*1<(1+(d:Int))*1;omega)]
  congr 1
  ·exact Int.mul_one _
  ·show 1*(1+(d:Int)).natAbs=1+d
   omega
 refine⟨e,?_⟩
 rw[e];exact(Rat.mkRat_ne_zero (by omega)).2 h
theorem qr8(r:Rat)(w:World)(h:Sz 2400 r):Calls Tryz.prog 21 #[.string ⟨(txtR r).toArray⟩,.int .i64 65536] w (Ret (.int .i64 0) w):=by
 have H:=qij (txtR r) w (Nat.le_trans (qb9 h) (by decide));rw[qbi]at H;exact H
theorem qt6{p q:Rat}(hp:p≠0):(1/p)*p=1∧(1/p)*q+-(q/p)=0:=by
 rw[Rat.div_def,Rat.div_def,Rat.one_mul];refine⟨Rat.inv_mul_cancel p hp,?_⟩
 rw[Rat.mul_comm p⁻¹ q,Rat.add_neg_cancel]
set_option maxRecDepth 10000 in
theorem qn2(v:Value)(xs:List Iv)(u:Value)(ys:List Iv)(q0 q1 q2:Int)(w:World)(h:Ivs w v xs)(h':Ivs w u ys)(hq:-128≤q0∧q0≤127)(hq2:-128≤q2∧q2≤127)(hT:Tab w):Calls Tryz.prog 11 #[v,u,.agg #[.int .i8 q0,.int .i8 q1,.int .i8 q2]] w (Ret (.bool true) w):=by
 have HK:=hI (fun w' (hT':Tab w')=>qos w' hT');have HF:=hI (fun w' (hb:Below (w.alloc (.cells #[.int .i8 q0,.int .i8 q1,.int .i8 q2] 65)).heap.size (w.alloc (.cells #[.int .i8 q0,.int .i8 q1,.int .i8 q2] 65)) w')=>qrj v xs w' (h.mono (qaa (qac w _) hb)));have HG:=hI (fun w' (hb:Below (w.alloc (.cells #[.int .i8 q0,.int .i8 q1,.int .i8 q2] 65)).heap.size (w.alloc (.cells #[.int .i8 q0,.int .i8 q1,.int .i8 q2] 65)) w')=>qrj u ys w' (h'.mono (qaa (qac w _) hb)));have HT:=hI (hT.mono (qac w (.cells #[.int .i8 q0,.int .i8 q1,.int .i8 q2] 65)))
 have HBW:=hI (fun w' (hb:Below (w.alloc (.cells #[.int .i8 q0,.int .i8 q1,.int .i8 q2] 65)).heap.size (w.alloc (.cells #[.int .i8 q0,.int .i8 q1,.int .i8 q2] 65)) w')=>show w'.cell? ⟨w.heap.size,0,none⟩=some (.int .i8 q0)∧w'.cell? ⟨w.heap.size,1,none⟩=some (.int .i8 q1)∧w'.cell? ⟨w.heap.size,2,none⟩=some (.int .i8 q2)from
  ⟨((Blk.new w #[.int .i8 q0,.int .i8 q1,.int .i8 q2] 65).below hb).cell 0,((Blk.new w #[.int .i8 q0,.int .i8 q1,.int .i8 q2] 65).below hb).cell 1,((Blk.new w #[.int .i8 q0,.int .i8 q1,.int .i8 q2] 65).below hb).cell 2⟩)
 have Hb1:=hI (Below.refl (w.alloc (.cells #[.int .i8 q0,.int .i8 q1,.int .i8 q2] 65)).heap.size (w.alloc (.cells #[.int .i8 q0,.int .i8 q1,.int .i8 q2] 65)));clear hT;obtain⟨a,c,rfl,hc1,hc2⟩:=h.open;obtain⟨a',c',rfl,hc1',hc2'⟩:=h'.open;cases hf:fewB xs with
 |false=>
  rw[hf]at HF;clear h h' hf HG hq hq2;generalize xs.length=m at*;generalize ys.length=m' at*
  go_enter Tryz.func11,Tryz.ntmps11
  go_wp2_with (first
   |(have _t:=Hb3;clear _t;go_at_call 13;refine(HK.out _ (HT.out.mono (Hb3.out))).mono ?_;rintro e w4 ⟨rfl,hb4⟩;have Hb4:=hI (qaa Hb3.out hb4);clear hb4)
   |(have _t:=Hb2;clear _t;go_at_call 14;refine(HF.out _ (Hb2.out)).mono ?_;rintro e w3 ⟨rfl,hb3⟩;have Hb3:=hI (qaa Hb2.out hb3);clear hb3)
   |(have _t:=Hb1;clear _t;go_at_call 13;refine(HK.out _ (HT.out.mono (Hb1.out))).mono ?_;rintro e w2 ⟨rfl,hb2⟩;have Hb2:=hI (qaa Hb1.out hb2);clear hb2))
  go_ret
  exact⟨rfl,qaa (qac w _) Hb4.out⟩
 |true=>
  have hs:=qkv hf;have hz:=qmi (qun hf);rw[hf]at HF;cases hg:fewB ys with
  |false=>
   rw[hg]at HG;clear h h' hf hs hg hz hq hq2;generalize xs.length=m at*;generalize ys.length=m' at*
   go_enter Tryz.func11,Tryz.ntmps11
   go_wp2_with (first
    |(have _t:=Hb4;clear _t;go_at_call 13;refine(HK.out _ (HT.out.mono (Hb4.out))).mono ?_;rintro e w5 ⟨rfl,hb5⟩;have Hb5:=hI (qaa Hb4.out hb5);clear hb5)
    |(have _t:=Hb3;clear _t;go_at_call 14;refine(HG.out _ (Hb3.out)).mono ?_;rintro e w4 ⟨rfl,hb4⟩;have Hb4:=hI (qaa Hb3.out hb4);clear hb4)
    |(have _t:=Hb2;clear _t;go_at_call 14;refine(HF.out _ (Hb2.out)).mono ?_;rintro e w3 ⟨rfl,hb3⟩;have Hb3:=hI (qaa Hb2.out hb3);clear hb3)
    |(have _t:=Hb1;clear _t;go_at_call 13;refine(HK.out _ (HT.out.mono (Hb1.out))).mono ?_;rintro e w2 ⟨rfl,hb2⟩;have Hb2:=hI (qaa Hb1.out hb2);clear hb2))
   go_ret
   exact⟨rfl,qaa (qac w _) Hb5.out⟩
  |true=>
   have hs':=qkv hg;have hz':=qmi (qun hg);rw[hg]at HG
   by_cases hq0:q0=0
   ·subst hq0
    clear h h' hf hs hg hz hs' hz' hq hq2;generalize xs.length=m at*;generalize ys.length=m' at*
    go_enter Tryz.func11,Tryz.ntmps11
    go_wp2_with (first
     |(have _t:=Hb4;clear _t;go_at_call 13;refine(HK.out _ (HT.out.mono (Hb4.out))).mono ?_;rintro e w5 ⟨rfl,hb5⟩;have Hb5:=hI (qaa Hb4.out hb5);clear hb5)
     |(have _t:=Hb3;clear _t;go_at_call 14;refine(HG.out _ (Hb3.out)).mono ?_;rintro e w4 ⟨rfl,hb4⟩;have Hb4:=hI (qaa Hb3.out hb4);clear hb4;have c0:=(HBW.out _ Hb4.out).1)
     |(have _t:=Hb2;clear _t;go_at_call 14;refine(HF.out _ (Hb2.out)).mono ?_;rintro e w3 ⟨rfl,hb3⟩;have Hb3:=hI (qaa Hb2.out hb3);clear hb3)
     |(have _t:=Hb1;clear _t;go_at_call 13;refine(HK.out _ (HT.out.mono (Hb1.out))).mono ?_;rintro e w2 ⟨rfl,hb2⟩;have Hb2:=hI (qaa Hb1.out hb2);clear hb2))
    go_ret
    exact⟨rfl,qaa (qac w _) Hb5.out⟩
   ·have hq0b:(q0==0)=false:=beq_eq_false_iff_ne.2 hq0
    have HS:=hI (fun w' (hb:Below (w.alloc (.cells #[.int .i8 q0,.int .i8 q1,.int .i8 q2] 65)).heap.size (w.alloc (.cells #[.int .i8 q0,.int .i8 q1,.int .i8 q2] 65)) w')=>qpo _ xs w' (h.mono (qaa (qac w _) hb)) hs);have HSB:=hI (fun w' (hb:Below (w.alloc (.cells #[.int .i8 q0,.int .i8 q1,.int .i8 q2] 65)).heap.size (w.alloc (.cells #[.int .i8 q0,.int .i8 q1,.int .i8 q2] 65)) w')=>qpo _ ys w' (h'.mono (qaa (qac w _) hb)) hs');obtain⟨JA,hA,lA⟩:=qpl hs;obtain⟨JB,hB,lB⟩:=qpl hs';have lAB0:JA.length*JB.length≤256:=Nat.le_trans (Nat.mul_le_mul lA lB) (by omega);have lU:JA.length+JB.length≤256:=by omega
    have HU:=hI (fun u v w' hu hv=>qnh hA hB lU u v w' hu hv);have HI:=hI (fun u v w' hu hv=>qkq hA hB lAB0 u v w' hu hv);have sU:=qig hA hB lU;have sI:=qih hA hB lAB0;obtain⟨Z,hZ,Zr⟩:∃Z,IntKind.u8.wrap q1=Z∧0≤Z:=⟨_,rfl,by rw[IntKind.wrap_u8];omega⟩
    obtain⟨d,hd,d15⟩:∃d:Nat,Z.tmod 16=(d:Int)∧d≤15:=by
     obtain⟨z,rfl⟩:=Int.eq_ofNat_of_zero_le Zr;exact⟨z%16,by rfl,by omega⟩
    have hw0:IntKind.i64.wrap q0=q0:=IntWalk.i64_in _ (by omega);have hw2:IntKind.i64.wrap q2=q2:=IntWalk.i64_in _ (by omega);have hwd:IntKind.u8.wrap (d:Int)=(d:Int):=IntWalk.u8_in _ (by omega);have hwe:IntKind.i64.wrap (d:Int)=(d:Int):=IntWalk.i64_in _ (by omega);have hwf:IntKind.i64.wrap (1+(d:Int))=1+(d:Int):=IntWalk.i64_in _ (by omega);have zq0:Sz 12 (q0:Rat):=⟨by show q0.natAbs<10^12;omega,by show 1<10^12;decide⟩
    have zQ:Sz 12 (q2:Rat):=⟨by show q2.natAbs<10^12;omega,by show 1<10^12;decide⟩
    have zd:Sz 12 ((1+(d:Int):Int):Rat):=⟨by show(1+(d:Int)).natAbs<10^12;omega,by show 1<10^12;decide⟩
    have HN1:=hI (fun w'=>qhg q0 w' (by omega));have HN2:=hI (fun w'=>qhg (1+(d:Int)) w' (by omega));have HN3:=hI (fun w'=>qhg q2 w' (by omega));have HDv:=hI (fun w'=>qms (q0:Rat) ((1+(d:Int):Int):Rat) 12 12 w' zq0 zd (by omega) (by rw[Rat.lt_iff];show(0:Int)*1<(1+(d:Int))*1;omega));obtain⟨hPe,hP0⟩:=qxk (d:=d) hq0
    have zP:Sz 12 ((q0:Rat)/((1+(d:Int):Int):Rat)):=by
     rw[hPe];exact Sz.mk (by omega) (by omega) (by omega)
    clear hPe zq0 zd;generalize((q0:Rat)/((1+(d:Int):Int):Rat))=P at*;generalize(q2:Rat)=Q at*;generalize(⟨(txtR (q0:Rat)).toArray⟩:ByteArray)=T1 at*;generalize(⟨(txtR ((1+(d:Int):Int):Rat)).toArray⟩:ByteArray)=T2 at*;have zI:=qwx zP hP0;obtain⟨hb1,hb2⟩:=qt6 (q:=Q) hP0;have zD1:Sz 12 (1/P):=by rw[Rat.div_def,Rat.one_mul];exact zI
    have zD2:Sz 24 (Q/P):=by rw[Rat.div_def];exact zQ.mul zI
    have HD1:=hI (fun w'=>qj9 1 P 12 12 w' (qww.mono (by decide)) zP (by omega) hP0);rw[qwt]at HD1;have HD2:=hI (fun w'=>qj9 Q P 12 12 w' zQ zP (by omega) hP0);have HNg:=hI (fun w'=>qmr (Q/P) 24 w' zD2 (by omega));have zA:∀x∈setL xs,x.lo.size≤200∧x.hi.size≤200:=fun x hx=>⟨Nat.le_trans (hz x hx).1 (by decide),Nat.le_trans (hz x hx).2 (by decide)⟩
    have zB:∀x∈setL ys,x.lo.size≤200∧x.hi.size≤200:=fun x hx=>⟨Nat.le_trans (hz' x hx).1 (by decide),Nat.le_trans (hz' x hx).2 (by decide)⟩
    have sA:=hA.sizes hz;have sB:=hB.sizes hz';have zU:=qne (qkn (k:=60) (X:=JA++JB) (fun r hr=>(List.mem_append.1 hr).elim (sA r) (sB r)));have zE:=qne (qqy sA sB);have zU2:∀x∈(qa1 (JA++JB)).map ivR,x.lo.size≤200∧x.hi.size≤200:=fun x hx=>⟨Nat.le_trans (zU x hx).1 (by decide),Nat.le_trans (zU x hx).2 (by decide)⟩
    have zX:=qq1 zP zQ hz;have eP:ratS ⟨(txtR P).toArray⟩=P:=qc8 (by simp);have eQ:ratS ⟨(txtR Q).toArray⟩=Q:=qc8 (by simp);have eP2:ratS ⟨(txtR (1/P)).toArray⟩=1/P:=qc8 (by simp);have eQ2:ratS ⟨(txtR (-(Q/P))).toArray⟩=-(Q/P):=qc8 (by simp);have tP:(⟨(txtR P).toArray⟩:ByteArray).size≤200:=Nat.le_trans (qfm zP) (by decide);have tQ:(⟨(txtR Q).toArray⟩:ByteArray).size≤200:=Nat.le_trans (qfm zQ) (by decide);have tP2:(⟨(txtR (1/P)).toArray⟩:ByteArray).size≤200:=Nat.le_trans (qfm zD1) (by decide);have tQ2:(⟨(txtR (-(Q/P))).toArray⟩:ByteArray).size≤200:=Nat.le_trans (qfm zD2.neg) (by decide);have hP2:(1/P)≠0:=fun k=>by rw[k,Rat.zero_mul]at hb1;exact absurd hb1 (by decide)
    have HMA:=hI (fun v' w' (h':Ivs w' v' (setL xs)) (hT':Tab w')=>qnj v' (setL xs) _ _ w' h' hA.short hA.err hA.n 200 (by decide) (by decide) zA tP tQ (qbi P) (qbi Q) (by rw[eP];exact hP0) hT');have HMB:=hI (fun v' w' (h':Ivs w' v' (setL ys)) (hT':Tab w')=>qnj v' (setL ys) _ _ w' h' hB.short hB.err hB.n 200 (by decide) (by decide) zB tP tQ (qbi P) (qbi Q) (by rw[eP];exact hP0) hT');have HMU:=hI (fun v' w' (h':Ivs w' v' ((qa1 (JA++JB)).map ivR)) (hT':Tab w')=>qnj v' _ _ _ w' h' sU.short sU.err sU.n 200 (by decide) (by decide) zU2 tP tQ (qbi P) (qbi Q) (by rw[eP];exact hP0) hT');rw[eP,eQ]at HMA HMB HMU;obtain⟨sX,-,-⟩:=qee hA (q:=Q) hP0 zP zQ (show 0<60 by decide) (by decide) hz;obtain⟨sY,-,-⟩:=qee hB (q:=Q) hP0 zP zQ (show 0<60 by decide) (by decide) hz';obtain⟨sZ,-,-⟩:=qee sU (q:=Q) hP0 zP zQ (show 0<60 by decide) (by decide) zU;have HV:=hI (fun u v w' hu hv=>qnh sX sY (by rw[←sX.length,←sY.length,qe1,qe1,hA.length,hB.length];exact lU) u v w' hu hv);rw[qq0 hP0 hA.ok hB.ok sX.ok sY.ok sZ.ok,←sZ.eq]at HV;have HMX:=hI (fun v' w' (h':Ivs w' v' (mapL P Q (setL xs))) (hT':Tab w')=>qnj v' _ _ _ w' h' sX.short sX.err sX.n 200 (by decide) (by decide) zX tP2 tQ2 (qbi (1/P)) (qbi (-(Q/P))) (by rw[eP2];exact hP2) hT');rw[eP2,eQ2,qtc hb1 hb2 hA,qe1]at HMX;have hUn:((qa1 (JA++JB)).map ivR).length≤256:=sU.n;have HEZ:=hI (fun u v w' hu hv=>(qnk u v (mapL P Q ((qa1 (JA++JB)).map ivR)) (mapL P Q ((qa1 (JA++JB)).map ivR)) w' hu hv (by rw[qe1];omega) (by rw[qe1];omega)).mono fun e w2 k=>EqP.one (b:=true) (by simp) k);have hAn:=hA.n;have hBn:=hB.n;have HEA:=hI (fun u v w' hu hv=>(qnk u v (setL xs) (setL xs) w' hu hv (by omega) (by omega)).mono fun e w2 k=>EqP.one (b:=true) (by simp) k);have l8A:(setL xs).length≤8:=by rw[hA.length];exact lA
    have l8B:(setL ys).length≤8:=by rw[hB.length];exact lB
    have HLA:=hI (fun v' w' (h':Ivs w' v' (setL xs)) (hT':Tab w')=>qkp v' _ 60 w' h' hA.short hA.err hA.iv hA.n hz (by decide) (by omega) hT');have HLB:=hI (fun v' w' (h':Ivs w' v' (setL ys)) (hT':Tab w')=>qkp v' _ 60 w' h' hB.short hB.err hB.iv hB.n hz' (by decide) (by omega) hT');have key:∀oa ob:Int,(oa=0∨oa=22)→(ob=0∨ob=22)→oa≠0∨ob≠0→(oa==0)=true∨(oa==22)=true:=fun oa ob h1 _ _=>h1.imp (fun k=>by rw[k];rfl) (fun k=>by rw[k];rfl)
    clear key
    obtain⟨ma,oa,hVa,ho⟩:∃ma oa,lenV (setL xs)=.tuple #[.string ma,.int .i64 oa]∧(unbB (setL xs)=true∧oa=22∨unbB (setL xs)=false∧oa=0∧ma=⟨(txtR (lenR (setL xs))).toArray⟩):=by
     cases hu:unbB (setL xs)with
     |true=>exact⟨_,_,qug hu,.inl ⟨rfl,rfl⟩⟩
     |false=>exact⟨_,_,qkl hu,.inr ⟨rfl,rfl,rfl⟩⟩
    obtain⟨mb,ob,hVb,ho'⟩:∃mb ob,lenV (setL ys)=.tuple #[.string mb,.int .i64 ob]∧(unbB (setL ys)=true∧ob=22∨unbB (setL ys)=false∧ob=0∧mb=⟨(txtR (lenR (setL ys))).toArray⟩):=by
     cases hu:unbB (setL ys)with
     |true=>exact⟨_,_,qug hu,.inl ⟨rfl,rfl⟩⟩
     |false=>exact⟨_,_,qkl hu,.inr ⟨rfl,rfl,rfl⟩⟩
    rw[hVa]at HLA;rw[hVb]at HLB;clear hVa hVb
    have HFull:=hI (show oa=0→ob=0→∃t1 t2 t3 t4 t5:ByteArray,(∀v' w',Ivs w' v' (mapL P Q (setL xs))→Tab w'→Calls Tryz.prog 31 #[v'] w' (Ret (.tuple #[.string t1,.int .i64 0]) w'))∧(∀v' w',Ivs w' v' ((qa1 (JA++JB)).map ivR)→Tab w'→Calls Tryz.prog 31 #[v'] w' (Ret (.tuple #[.string t3,.int .i64 0]) w'))∧(∀v' w',Ivs w' v' ((qa1 (qdn ltR JA JB)).map ivR)→Tab w'→Calls Tryz.prog 31 #[v'] w' (Ret (.tuple #[.string t4,.int .i64 0]) w'))∧(∀w',Calls Tryz.prog 21 #[.string t3,.int .i64 65536] w' (Ret (.int .i64 0) w'))∧(∀w',Calls Tryz.prog 21 #[.string t4,.int .i64 65536] w' (Ret (.int .i64 0) w'))∧(∀w',Calls Tryz.prog 52 #[.string ⟨(txtR P).toArray⟩] w' (Ret (.string t5) w'))∧(∀w',Calls Tryz.prog 51 #[.string ma,.string t5] w' (Ret (.string t1) w'))∧(∀w',Calls Tryz.prog 53 #[.string t3,.string t4] w' (Ret (.string t2) w'))∧(∀w',Calls Tryz.prog 53 #[.string ma,.string mb] w' (Ret (.string t2) w'))from by
     intro ea eb
     obtain⟨ua,hma⟩:unbB (setL xs)=false∧ma=⟨(txtR (lenR (setL xs))).toArray⟩:=by
      rcases ho with⟨-,k⟩|⟨k,-,k2⟩
      ·rw[ea]at k;exact absurd k (by decide)
      ·exact⟨k,k2⟩
     obtain⟨ub,hmb⟩:unbB (setL ys)=false∧mb=⟨(txtR (lenR (setL ys))).toArray⟩:=by
      rcases ho' with⟨-,k⟩|⟨k,-,k2⟩
      ·rw[eb]at k;exact absurd k (by decide)
      ·exact⟨k,k2⟩
     have fA:∀r∈JA,r.1.b=0∧r.2.b=0:=qiu.1 (by rw[←hA.eq];exact ua);have fB:∀r∈JB,r.1.b=0∧r.2.b=0:=qiu.1 (by rw[←hB.eq];exact ub);have uU:unbB ((qa1 (JA++JB)).map ivR)=false:=qiu.2 (qnd fun r hr=>(List.mem_append.1 hr).elim (fA r) (fB r));have uE:unbB ((qa1 (qdn ltR JA JB)).map ivR)=false:=qiu.2 (qtb fA fB);have uX:unbB (mapL P Q (setL xs))=false:=by rw[qux];exact ua
     have lU16:((qa1 (JA++JB)).map ivR).length≤16:=by
      have:=qd1 (JA++JB);rw[List.length_append]at this;rw[List.length_map]
      omega
     have lE16:((qa1 (qdn ltR JA JB)).map ivR).length≤16:=by
      have:=qlt (A:=JA) (B:=JB);rw[List.length_map]
      omega
     have HLX:=hI (fun v' w' (h':Ivs w' v' (mapL P Q (setL xs))) (hT':Tab w')=>qkp v' _ 200 w' h' sX.short sX.err sX.iv sX.n zX (by decide) (by rw[qe1];omega) hT');have HLU:=hI (fun v' w' (h':Ivs w' v' ((qa1 (JA++JB)).map ivR)) (hT':Tab w')=>qkp v' _ 60 w' h' sU.short sU.err sU.iv sU.n zU (by decide) (by omega) hT');have HLE:=hI (fun v' w' (h':Ivs w' v' ((qa1 (qdn ltR JA JB)).map ivR)) (hT':Tab w')=>qkp v' _ 60 w' h' sI.short sI.err sI.iv sI.n zE (by decide) (by omega) hT');have zlA:=qm9 l8A hz;have zlB:=qm9 l8B hz';have zlU:=qm9 lU16 zU;have zlE:=qm9 lE16 zE;have hadd:=qti hA.set hB.set hA.ok hB.ok sI.ok;rw[←hA.eq,←hB.eq]at hadd;rw[qkl uX,qv7 ua hA.iv]at HLX;rw[qkl uU]at HLU;rw[qkl uE]at HLE;have HCU:=hI (fun w'=>qr8 (lenR ((qa1 (JA++JB)).map ivR)) w' (zlU.mono (show 1+16*122≤2400 by decide)));have HCE:=hI (fun w'=>qr8 (lenR ((qa1 (qdn ltR JA JB)).map ivR)) w' (zlE.mono (show 1+16*122≤2400 by decide)));have HAb:=hI (fun w'=>qsy P 12 w' zP (by decide));have HMu:=hI (fun w'=>qsw (lenR (setL xs)) (absR P) _ 12 w' zlA (qwy zP) (by decide));have HA1:=hI (fun w'=>qmt (lenR ((qa1 (JA++JB)).map ivR)) (lenR ((qa1 (qdn ltR JA JB)).map ivR)) _ _ w' zlU zlE (by decide));have HA2:=hI (fun w'=>qmt (lenR (setL xs)) (lenR (setL ys)) _ _ w' zlA zlB (by decide));rw[hadd]at HA1;rw[←hma]at HMu HA2;rw[←hmb]at HA2
     exact⟨_,_,_,_,_,HLX.out,HLU.out,HLE.out,HCU.out,HCE.out,HAb.out,HMu.out,HA1.out,HA2.out⟩)
    have HO:=hI (show(oa=22∧ob=22)∨(oa=22∧ob=0)∨(oa=0∧ob=22)∨(oa=0∧ob=0)from by
     rcases ho with⟨-,k⟩|⟨-,k,-⟩<;>rcases ho' with⟨-,k'⟩|⟨-,k',-⟩<;>subst k<;>subst k'<;>simp)
    clear ho ho';clear zA zB sA sB zU2 zX eP eQ eP2 eQ2 tP tQ tP2 tQ2 hP2 sX sY sZ sU sI hA hB lAB0 lU lA lB hs hs' hz hz' hf hg hb1 hb2 zD1 zD2 zI zP zQ hP0 hUn hAn hBn l8A l8B zU zE hq0 hq hq2 Zr;generalize(qa1 (JA++JB)).map ivR=U at*;generalize(qa1 (qdn ltR JA JB)).map ivR=E at*;clear JA JB;generalize mapL P Q (setL xs)=X at*;generalize mapL P Q (setL ys)=Y at*;generalize mapL P Q U=ZZ at*;generalize setL xs=A at*;generalize setL ys=B at*;generalize xs.length=m at*;generalize ys.length=m' at*;generalize(⟨(txtR P).toArray⟩:ByteArray)=FA at*;generalize(⟨(txtR Q).toArray⟩:ByteArray)=SH at*;generalize(⟨(txtR (1/P)).toArray⟩:ByteArray)=FB at*;generalize(⟨(txtR (Q/P)).toArray⟩:ByteArray)=SG at*;generalize(⟨(txtR (-(Q/P))).toArray⟩:ByteArray)=SI at*;clear h h'
    go_enter Tryz.func11,Tryz.ntmps11
    go_upto_region 4 with(first
     |(have _t:=Hb5;clear _t;go_at_call 15;refine(HSB.out _ (Hb5.out)).mono ?_;rintro e w6 ⟨v6,rfl,⟨a6,c6,rfl,hi6⟩,hb6⟩;have Hb6:=hI (qaa Hb5.out hb6);have HiA6:=hI (HiA5.out.mono hb6);have HiY6:=hI hi6;clear hb6 hi6)
     |(have _t:=Hb4;clear _t;go_at_call 15;refine(HS.out _ (Hb4.out)).mono ?_;rintro e w5 ⟨v5,rfl,⟨a5,c5,rfl,hi5⟩,hb5⟩;have Hb5:=hI (qaa Hb4.out hb5);have HiA5:=hI hi5;clear hb5 hi5)
     |(have _t:=Hb3;clear _t;go_at_call 14;refine(HG.out _ (Hb3.out)).mono ?_;rintro e w4 ⟨rfl,hb4⟩;have Hb4:=hI (qaa Hb3.out hb4);clear hb4;have c0:=(HBW.out _ Hb4.out).1)
     |(have _t:=Hb2;clear _t;go_at_call 14;refine(HF.out _ (Hb2.out)).mono ?_;rintro e w3 ⟨rfl,hb3⟩;have Hb3:=hI (qaa Hb2.out hb3);clear hb3)
     |(have _t:=Hb1;clear _t;go_at_call 13;refine(HK.out _ (HT.out.mono (Hb1.out))).mono ?_;rintro e w2 ⟨rfl,hb2⟩;have Hb2:=hI (qaa Hb1.out hb2);clear hb2))
    refine wp_region_held_drew (S:=(fun w'=>w'.cell? ⟨w.heap.size,0,none⟩=some (.int .i8 q0)∧w'.cell? ⟨w.heap.size,1,none⟩=some (.int .i8 q1)∧w'.cell? ⟨w.heap.size,2,none⟩=some (.int .i8 q2))) (by kernel_rfl) (by exact HBW.out _ (qaa Hb6.out (bwD w6))) (fun hHeld=>?_)
    refine' tk 0 ?_;(try simp only[tkS]);refine' tk 1 ?_;(try simp only[tkS]);refine' tk 2 ?_;(try simp only[tkS]);refine' tk 4 ?_;(try simp only[tkS]);refine' tk 5 ?_;(try simp only[tkS]);refine' tk 6 ?_;(try simp only[tkS]);refine' tk 7 ?_;(try simp only[tkS]);refine' tk 8 ?_;(try simp only[tkS]);refine' tk 9 ?_;(try simp only[tkS]);refine tk1 3 (fun K hK=>?_)
    go_simp;go_at_call 49;refine(HN1.out _).mono ?_
    rintro z5 x0 ⟨rfl,hx0⟩;have Hx0:=hI (qaa (bwD w6) hx0);clear hx0;refine hK.out _ _ (by exact HBW.out _ (qaa Hb6.out (Hx0.out))) (fun hHeld=>?_)
    clear hK K;(try simp only[tkS]);refine tk1 10 (fun K hK=>?_)
    go_simp;go_at_call 49;refine(HN2.out _).mono ?_
    rintro z5 x1 ⟨rfl,hx1⟩;have Hx1:=hI (qaa (Hx0.out) hx1);clear hx1;refine hK.out _ _ (by exact HBW.out _ (qaa Hb6.out (Hx1.out))) (fun hHeld=>?_)
    clear hK K;(try simp only[tkS]);refine tk1 11 (fun K hK=>?_)
    go_simp;go_at_call 48;refine(HDv.out _).mono ?_
    rintro z5 x2 ⟨rfl,hx2⟩;have Hx2:=hI (qaa (Hx1.out) hx2);clear hx2;refine hK.out _ _ (by exact HBW.out _ (qaa Hb6.out (Hx2.out))) (fun hHeld=>?_)
    clear hK K;(try simp only[tkS]);refine' tk 12 ?_;(try simp only[tkS]);refine tkD ?_ _
    have Hb7:=hI (qaa Hb6.out (Hx2.out));have HiA7:=hI (HiA6.out.mono (Hx2.out));have HiY7:=hI (HiY6.out.mono (Hx2.out));have c2:=(HBW.out _ Hb7.out).2.2;clear Hx0 Hx1 Hx2
    go_upto_region 17 with(first
         |(have _t:=Hb21;clear _t;go_at_call 31;refine(HLB.out _ _ (HiY21.out) (HT.out.mono (Hb21.out))).mono ?_;rintro e w22 ⟨rfl,hb22⟩;have Hb22:=hI (qaa Hb21.out hb22);have HiU22:=hI (HiU21.out.mono hb22);have HiE22:=hI (HiE21.out.mono hb22);have HiX22:=hI (HiX21.out.mono hb22);clear hb22)
         |(have _t:=Hb20;clear _t;go_at_call 31;refine(HLA.out _ _ (HiA20.out) (HT.out.mono (Hb20.out))).mono ?_;rintro e w21 ⟨rfl,hb21⟩;have Hb21:=hI (qaa Hb20.out hb21);have HiY21:=hI (HiY20.out.mono hb21);have HiU21:=hI (HiU20.out.mono hb21);have HiE21:=hI (HiE20.out.mono hb21);have HiX21:=hI (HiX20.out.mono hb21);clear hb21)
         |(have _t:=Hb19;clear _t;go_at_call 39;refine(HEA.out _ _ _ (HiK19.out) (HiA19.out)).mono ?_;rintro e w20 ⟨rfl,hb20⟩;have Hb20:=hI (qaa Hb19.out hb20);have HiA20:=hI (HiA19.out.mono hb20);have HiY20:=hI (HiY19.out.mono hb20);have HiU20:=hI (HiU19.out.mono hb20);have HiE20:=hI (HiE19.out.mono hb20);have HiX20:=hI (HiX19.out.mono hb20);clear hb20)
         |(have _t:=Hb18;clear _t;go_at_call 39;refine(HEZ.out _ _ _ (HiZ18.out) (HiV18.out)).mono ?_;rintro e w19 ⟨rfl,hb19⟩;have Hb19:=hI (qaa Hb18.out hb19);have HiA19:=hI (HiA18.out.mono hb19);have HiY19:=hI (HiY18.out.mono hb19);have HiU19:=hI (HiU18.out.mono hb19);have HiE19:=hI (HiE18.out.mono hb19);have HiX19:=hI (HiX18.out.mono hb19);have HiK19:=hI (HiK18.out.mono hb19);clear hb19)
         |(have _t:=Hb17;clear _t;go_at_call 33;refine(HMX.out _ _ (HiX17.out) (HT.out.mono (Hb17.out))).mono ?_;rintro e w18 ⟨v18,rfl,⟨a18,c18,rfl,hi18⟩,hb18⟩;have Hb18:=hI (qaa Hb17.out hb18);have HiA18:=hI (HiA17.out.mono hb18);have HiY18:=hI (HiY17.out.mono hb18);have HiU18:=hI (HiU17.out.mono hb18);have HiE18:=hI (HiE17.out.mono hb18);have HiX18:=hI (HiX17.out.mono hb18);have HiZ18:=hI (HiZ17.out.mono hb18);have HiV18:=hI (HiV17.out.mono hb18);have HiK18:=hI hi18;clear hb18 hi18)
         |(have _t:=Hb16;clear _t;go_at_call 50;refine(HNg.out _).mono ?_;rintro e w17 ⟨rfl,hb17⟩;have Hb17:=hI (qaa Hb16.out hb17);have HiA17:=hI (HiA16.out.mono hb17);have HiY17:=hI (HiY16.out.mono hb17);have HiU17:=hI (HiU16.out.mono hb17);have HiE17:=hI (HiE16.out.mono hb17);have HiX17:=hI (HiX16.out.mono hb17);have HiZ17:=hI (HiZ16.out.mono hb17);have HiV17:=hI (HiV16.out.mono hb17);clear hb17)
         |(have _t:=Hb15;clear _t;go_at_call 48;refine(HD2.out _).mono ?_;rintro e w16 ⟨rfl,hb16⟩;have Hb16:=hI (qaa Hb15.out hb16);have HiA16:=hI (HiA15.out.mono hb16);have HiY16:=hI (HiY15.out.mono hb16);have HiU16:=hI (HiU15.out.mono hb16);have HiE16:=hI (HiE15.out.mono hb16);have HiX16:=hI (HiX15.out.mono hb16);have HiZ16:=hI (HiZ15.out.mono hb16);have HiV16:=hI (HiV15.out.mono hb16);clear hb16)
         |(have _t:=Hb14;clear _t;go_at_call 48;refine(HD1.out _).mono ?_;rintro e w15 ⟨rfl,hb15⟩;have Hb15:=hI (qaa Hb14.out hb15);have HiA15:=hI (HiA14.out.mono hb15);have HiY15:=hI (HiY14.out.mono hb15);have HiU15:=hI (HiU14.out.mono hb15);have HiE15:=hI (HiE14.out.mono hb15);have HiX15:=hI (HiX14.out.mono hb15);have HiZ15:=hI (HiZ14.out.mono hb15);have HiV15:=hI (HiV14.out.mono hb15);clear hb15)
         |(have _t:=Hb13;clear _t;go_at_call 36;refine(HV.out _ _ _ (HiX13.out) (HiM13.out)).mono ?_;rintro e w14 ⟨v14,rfl,⟨a14,c14,rfl,hi14⟩,hb14⟩;have Hb14:=hI (qaa Hb13.out hb14);have HiA14:=hI (HiA13.out.mono hb14);have HiY14:=hI (HiY13.out.mono hb14);have HiU14:=hI (HiU13.out.mono hb14);have HiE14:=hI (HiE13.out.mono hb14);have HiX14:=hI (HiX13.out.mono hb14);have HiZ14:=hI (HiZ13.out.mono hb14);have HiV14:=hI hi14;clear hb14 hi14)
         |(have _t:=Hb12;clear _t;go_at_call 33;refine(HMU.out _ _ (HiU12.out) (HT.out.mono (Hb12.out))).mono ?_;rintro e w13 ⟨v13,rfl,⟨a13,c13,rfl,hi13⟩,hb13⟩;have Hb13:=hI (qaa Hb12.out hb13);have HiA13:=hI (HiA12.out.mono hb13);have HiY13:=hI (HiY12.out.mono hb13);have HiU13:=hI (HiU12.out.mono hb13);have HiE13:=hI (HiE12.out.mono hb13);have HiX13:=hI (HiX12.out.mono hb13);have HiM13:=hI (HiM12.out.mono hb13);have HiZ13:=hI hi13;clear hb13 hi13)
         |(have _t:=Hb11;clear _t;go_at_call 33;refine(HMB.out _ _ (HiY11.out) (HT.out.mono (Hb11.out))).mono ?_;rintro e w12 ⟨v12,rfl,⟨a12,c12,rfl,hi12⟩,hb12⟩;have Hb12:=hI (qaa Hb11.out hb12);have HiA12:=hI (HiA11.out.mono hb12);have HiY12:=hI (HiY11.out.mono hb12);have HiU12:=hI (HiU11.out.mono hb12);have HiE12:=hI (HiE11.out.mono hb12);have HiX12:=hI (HiX11.out.mono hb12);have HiM12:=hI hi12;clear hb12 hi12)
         |(have _t:=Hb10;clear _t;go_at_call 33;refine(HMA.out _ _ (HiA10.out) (HT.out.mono (Hb10.out))).mono ?_;rintro e w11 ⟨v11,rfl,⟨a11,c11,rfl,hi11⟩,hb11⟩;have Hb11:=hI (qaa Hb10.out hb11);have HiA11:=hI (HiA10.out.mono hb11);have HiY11:=hI (HiY10.out.mono hb11);have HiU11:=hI (HiU10.out.mono hb11);have HiE11:=hI (HiE10.out.mono hb11);have HiX11:=hI hi11;clear hb11 hi11)
         |(have _t:=Hb9;clear _t;go_at_call 37;refine(HI.out _ _ _ (HiA9.out) (HiY9.out)).mono ?_;rintro e w10 ⟨v10,rfl,⟨a10,c10,rfl,hi10⟩,hb10⟩;have Hb10:=hI (qaa Hb9.out hb10);have HiA10:=hI (HiA9.out.mono hb10);have HiY10:=hI (HiY9.out.mono hb10);have HiU10:=hI (HiU9.out.mono hb10);have HiE10:=hI hi10;clear hb10 hi10)
         |(have _t:=Hb8;clear _t;go_at_call 36;refine(HU.out _ _ _ (HiA8.out) (HiY8.out)).mono ?_;rintro e w9 ⟨v9,rfl,⟨a9,c9,rfl,hi9⟩,hb9⟩;have Hb9:=hI (qaa Hb8.out hb9);have HiA9:=hI (HiA8.out.mono hb9);have HiY9:=hI (HiY8.out.mono hb9);have HiU9:=hI hi9;clear hb9 hi9)
         |(have _t:=Hb7;clear _t;go_at_call 49;refine(HN3.out _).mono ?_;rintro e w8 ⟨rfl,hb8⟩;have Hb8:=hI (qaa Hb7.out hb8);have HiA8:=hI (HiA7.out.mono hb8);have HiY8:=hI (HiY7.out.mono hb8);clear hb8))
    clear HU HI HMA HMB HMU HV HD1 HD2 HNg HMX HEZ HEA HLA HLB HN1 HN2 HN3 HDv HS HSB HF HG HK;rcases HO.out with⟨rfl,rfl⟩|⟨rfl,rfl⟩|⟨rfl,rfl⟩|⟨rfl,rfl⟩
    ·go_wp2_with fail
     go_ret
     exact⟨rfl,qaa (qac w _) Hb22.out⟩
    ·go_wp2_with fail
     go_ret
     exact⟨rfl,qaa (qac w _) Hb22.out⟩
    ·go_wp2_with fail
     go_ret
     exact⟨rfl,qaa (qac w _) Hb22.out⟩
    ·obtain⟨t1,t2,t3,t4,t5,h1,h2,h3,h4,h5,h6,h7,h8,h9⟩:=HFull.out rfl rfl
     have HLX:=hI h1;have HLU:=hI h2;have HLE:=hI h3;have HCU:=hI h4;have HCE:=hI h5;have HAb:=hI h6;have HMu:=hI h7;have HA1:=hI h8;have HA2:=hI h9;have hE1:(t1.toList==t1.toList)=true:=by simp
     have hE2:(t2.toList==t2.toList)=true:=by simp
     clear h1 h2 h3 h4 h5 h6 h7 h8 h9 HFull HO
     go_wp2_with (first
          |(have _t:=Hb30;clear _t;go_at_call 53;refine(HA2.out _).mono ?_;rintro e w31 ⟨rfl,hb31⟩;have Hb31:=hI (qaa Hb30.out hb31);clear hb31)
          |(have _t:=Hb29;clear _t;go_at_call 53;refine(HA1.out _).mono ?_;rintro e w30 ⟨rfl,hb30⟩;have Hb30:=hI (qaa Hb29.out hb30);clear hb30)
          |(have _t:=Hb28;clear _t;go_at_call 51;refine(HMu.out _).mono ?_;rintro e w29 ⟨rfl,hb29⟩;have Hb29:=hI (qaa Hb28.out hb29);clear hb29)
          |(have _t:=Hb27;clear _t;go_at_call 52;refine(HAb.out _).mono ?_;rintro e w28 ⟨rfl,hb28⟩;have Hb28:=hI (qaa Hb27.out hb28);clear hb28)
          |(have _t:=Hb26;clear _t;go_at_call 21;refine(HCE.out _).mono ?_;rintro e w27 ⟨rfl,hb27⟩;have Hb27:=hI (qaa Hb26.out hb27);clear hb27)
          |(have _t:=Hb25;clear _t;go_at_call 21;refine(HCU.out _).mono ?_;rintro e w26 ⟨rfl,hb26⟩;have Hb26:=hI (qaa Hb25.out hb26);clear hb26)
          |(have _t:=Hb24;clear _t;go_at_call 31;refine(HLE.out _ _ (HiE24.out) (HT.out.mono (Hb24.out))).mono ?_;rintro e w25 ⟨rfl,hb25⟩;have Hb25:=hI (qaa Hb24.out hb25);clear hb25)
          |(have _t:=Hb23;clear _t;go_at_call 31;refine(HLU.out _ _ (HiU23.out) (HT.out.mono (Hb23.out))).mono ?_;rintro e w24 ⟨rfl,hb24⟩;have Hb24:=hI (qaa Hb23.out hb24);have HiE24:=hI (HiE23.out.mono hb24);clear hb24)
          |(have _t:=Hb22;clear _t;go_at_call 31;refine(HLX.out _ _ (HiX22.out) (HT.out.mono (Hb22.out))).mono ?_;rintro e w23 ⟨rfl,hb23⟩;have Hb23:=hI (qaa Hb22.out hb23);have HiU23:=hI (HiU22.out.mono hb23);have HiE23:=hI (HiE22.out.mono hb23);clear hb23))
     go_ret
     exact⟨rfl,qaa (qac w _) Hb31.out⟩
end Go.Proofs.YtacihodamichhaaGreatDoor
namespace Go.Proofs.YtacihodamichhaaGreatDoor
open Go.ChangeShapes Go.WideShapes Go.WideMaps
theorem qlm{H:Type}{enc:TypeId × Value→H}{P:Program}{k e:TypeId}{q:IntKind}{W:World}{base:Nat}{sp:Nat→Bool}{held:Bool}(A:ArrKey P k e 3)(he:P.underlying e=some (.int q)){r:Reach}{b0:Nat}{v:Value}{d:DataW H}{ps:List MemPlace}(hval:Value.okWide P W r b0 k v)(hd:DataW.Trod enc P W base sp held k v d ps):
  ∃a b c:Int,v=.agg #[.int q a,.int q b,.int q c]∧(Lit.int q a).wf=true∧(Lit.int q b).wf=true∧(Lit.int q c).wf=true:=by
 obtain⟨x0,x1,x2,rfl⟩:∃x0 x1 x2,v=.agg #[x0,x1,x2]:=by
  simp only[Value.okWide,A.hu]at hval;obtain⟨cs,h1,h2,_⟩:=hval;rw[A.size]at h2;obtain⟨l⟩:=cs
  match l,h2 with
  |[x0,x1,x2],_=>exact⟨x0,x1,x2,h1⟩
 obtain⟨fuel,hf⟩:=hd;cases fuel with
 |zero=>simp[DataW.trod]at hf
 |succ n=>
  rw[DataW.trod_step]at hf;unfold DataW.trodStep at hf;simp only[A.hu,Value.cells]at hf;rw[if_pos (by rw[A.size];rfl)]at hf;simp only[Option.map_eq_some_iff]at hf;obtain⟨xs,hx,_⟩:=hf;rw[show List.range 3=[0,1,2]from rfl,List.mapM_cons,List.mapM_cons,List.mapM_cons,List.mapM_nil]at hx;simp only[bind,Option.bind_eq_some_iff,pure,Option.some.injEq,A.one]at hx;obtain⟨y0,h0,_,⟨y1,h1,_,⟨y2,h2,_,rfl,rfl⟩,rfl⟩,rfl⟩:=hx;obtain⟨a,ea,rfl,wa⟩:=DataW.trod_int he h0;obtain⟨b,eb,rfl,wb⟩:=DataW.trod_int he h1;obtain⟨c,ec,rfl,wc⟩:=DataW.trod_int he h2;simp at ea eb ec;subst ea;subst eb;subst ec;exact⟨a,b,c,rfl,wa,wb,wc⟩
end Go.Proofs.YtacihodamichhaaGreatDoor
