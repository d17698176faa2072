/- Parts of the proof. -/
import Derived.Test.YtacihodamichhaaGreatDoorP46
set_option maxHeartbeats 32000000
namespace Go.Proofs.YtacihodamichhaaGreatDoor
open Go.RowKit
set_option maxRecDepth 10000 in
theorem qoh(N:Nat)(w:World)(hN:N<10^12):Calls Tryz.prog 105 #[.int .i64 (N:Int)] w (Ret (.string ⟨(txtZ (N:Int)).toArray⟩) w):=by
 have HN:=hI (fun W:World=>World.ownsRow_nil W w.heap.size 3 1);have hnn:¬(N:Int)<0:=by omega
 have HT:=hI (fun w' v (h:DgV w' v N)=>show Calls Tryz.prog 117 #[.bool false,v] w' (Ret (.string ⟨(txtZ (N:Int)).toArray⟩) w')from by
  have h:=qf6 false N v w' h (qa1 hN (by decide))
  rwa [show txtN false N=txtZ (N:Int)from(qa6 N).symm]at h)
 have Hlb:=hI (qa4 hN);have hN':N<1000000000000:=by simpa using hN
 generalize(⟨(txtZ (N:Int)).toArray⟩:ByteArray)=D at*;clear hN
 go_enter Tryz.func105,Tryz.ntmps105
 go_wp2_with fail
 go_loopw [4,3,5] (fun m out _ wr=>∃(k M:Nat) (d:List Nat),m=.int .i64 (M:Int)∧Below w.heap.size w wr∧wr.ownsRow w.heap.size 3 1 out k ((qb1 d).map (Value.int .i64))∧M<1000000000000∧Hid (D10.limbs N=d++D10.limbs M∧d.length=k)) (fun m _ _ _=>(intOf m).natAbs)
 case atStart=>exact⟨0,N,[],rfl,Below.refl _ _,HN.out _,hN',rfl,rfl⟩
 case round=>
  obtain⟨k,M,d,rfl,hbw,hown,hM12,hinv⟩:=hrel
  have hk3:k≤12:=by
   have h1:=congrArg List.length hinv.out.1;rw[List.length_append,hinv.out.2]at h1;have:=Hlb.out
   omega
  have Hown:=hI hown;have Hbw:=hI hbw;have Hinv:=hI hinv.out;clear hown hbw hinv
  by_cases hM:M=0
  ·subst hM
   obtain⟨ao,co,rfl,-,-⟩:=qas Hown.out;have hIv:Ints wr (.slice ao k co) (qb1 d):=Sl.own1 Hown.out;have hd:D10.limbs N=d:=by rw[Hinv.out.1,D10.qah,List.append_nil]
   have HT':=hI (HT.out wr (.slice ao k co) ⟨ao,co,by rw[hd,Hinv.out.2],by rw[hd,Hinv.out.2];exact hIv⟩);clear hIv hd
   go_wp2_with (go_at_call 117;refine(HT'.out).mono ?_;rintro e w1 ⟨rfl,hb1⟩)
   go_ret
   exact⟨rfl,Hbw.out.via hb1 Hbw.out.size⟩
  ·have hM0:((M:Int)!=0)=true:=by rw[bne_iff_ne];omega
   obtain⟨r,hr⟩:∃r,M%10=r:=⟨_,rfl⟩
   obtain⟨q,hq⟩:∃q,M/10=q:=⟨_,rfl⟩
   have hr9:r<10:=by omega
   have hr1:(M:Int).tmod 10=(r:Int):=by rw[←hr];rfl
   have hq1:(M:Int).tdiv 10=(q:Int):=by rw[←hq];rfl
   have Hst:=hI (show D10.limbs N=(d++[r])++D10.limbs q∧(d++[r]).length=k+1 from by
    refine⟨?_,by rw[List.length_append,Hinv.out.2];rfl⟩
    rw[Hinv.out.1,D10.qbh hM,hr,hq,List.append_assoc]
    rfl)
   have Hds:=hI (show(qb1 d).map (Value.int .i64)++[.int .i64 (r:Int)]=(qb1 (d++[r])).map (Value.int .i64)from by simp[qb1]);have hqw:IntKind.i64.wrap (q:Int)=(q:Int):=IntWalk.i64_in _ (by omega);have hrw:IntKind.i64.wrap (r:Int)=(r:Int):=IntWalk.i64_in _ (by omega);have hqM:q<M:=by omega
   have hq12:q<1000000000000:=by omega
   clear hr hq hM Hinv;have hr0:¬(r:Int)<0:=by omega
   go_wp2_with (at_builtin;refine qct ED (by decide) [.int .i64 (r:Int)] rfl _ _ rfl w.heap.size _ _ _ rfl rfl Hown.out rfl (one1 _ rfl) (by omega) (by decide) Hbw.out.size ?_;intro v' w5 hown' hg';have Hbw3:=hI (qat Hbw.out Hown.out hg' Hbw.out.size);have Hown5:=hI hown';clear hown' hg')
   go_roundw
   case rel=>exact⟨k+1,q,d++[r],rfl,Hbw3.out,by have:=Hown5.out;rw[Hds.out]at this;exact this,hq12,Hst.out⟩
   case measure=>
    simp[intOf]
    omega
set_option maxRecDepth 10000 in
theorem qoi(N:Nat)(w:World)(hN:N<10^12)(h0:0<N):Calls Tryz.prog 105 #[.int .i64 (-(N:Int))] w (Ret (.string ⟨(txtZ (-(N:Int))).toArray⟩) w):=by
 have HN:=hI (fun W:World=>World.ownsRow_nil W w.heap.size 3 1);have hnn:(-(N:Int))<0:=by omega
 have HT:=hI (fun w' v (h:DgV w' v N)=>show Calls Tryz.prog 117 #[.bool true,v] w' (Ret (.string ⟨(txtZ (-(N:Int))).toArray⟩) w')from by
  have h:=qf6 true N v w' h (qa1 hN (by decide))
  rwa [show txtN true N=txtZ (-(N:Int))from by unfold txtZ;rw[decide_eq_true (by omega),Int.natAbs_neg,Int.natAbs_natCast]]at h)
 have Hlb:=hI (qa4 hN);have hN':N<1000000000000:=by simpa using hN
 generalize(⟨(txtZ (-(N:Int))).toArray⟩:ByteArray)=D at*;clear hN
 go_enter Tryz.func105,Tryz.ntmps105
 go_wp2_with fail
 go_loopw [4,3,5] (fun m out _ wr=>∃(k M:Nat) (d:List Nat),m=.int .i64 (-(M:Int))∧Below w.heap.size w wr∧wr.ownsRow w.heap.size 3 1 out k ((qb1 d).map (Value.int .i64))∧M<1000000000000∧Hid (D10.limbs N=d++D10.limbs M∧d.length=k)) (fun m _ _ _=>(intOf m).natAbs)
 case atStart=>exact⟨0,N,[],rfl,Below.refl _ _,HN.out _,hN',rfl,rfl⟩
 case round=>
  obtain⟨k,M,d,rfl,hbw,hown,hM12,hinv⟩:=hrel
  have hk3:k≤12:=by
   have h1:=congrArg List.length hinv.out.1;rw[List.length_append,hinv.out.2]at h1;have:=Hlb.out
   omega
  have Hown:=hI hown;have Hbw:=hI hbw;have Hinv:=hI hinv.out;clear hown hbw hinv
  by_cases hM:M=0
  ·subst hM
   obtain⟨ao,co,rfl,-,-⟩:=qas Hown.out;have hIv:Ints wr (.slice ao k co) (qb1 d):=Sl.own1 Hown.out;have hd:D10.limbs N=d:=by rw[Hinv.out.1,D10.qah,List.append_nil]
   have HT':=hI (HT.out wr (.slice ao k co) ⟨ao,co,by rw[hd,Hinv.out.2],by rw[hd,Hinv.out.2];exact hIv⟩);clear hIv hd
   go_wp2_with (go_at_call 117;refine(HT'.out).mono ?_;rintro e w1 ⟨rfl,hb1⟩)
   go_ret
   exact⟨rfl,Hbw.out.via hb1 Hbw.out.size⟩
  ·have hM0:((-(M:Int))!=0)=true:=by rw[bne_iff_ne];omega
   obtain⟨r,hr⟩:∃r,M%10=r:=⟨_,rfl⟩
   obtain⟨q,hq⟩:∃q,M/10=q:=⟨_,rfl⟩
   have hr9:r<10:=by omega
   have hr1:(-(M:Int)).tmod 10=(-(r:Int)):=by rw[Int.neg_tmod,←hr];rfl
   have hq1:(-(M:Int)).tdiv 10=(-(q:Int)):=by rw[Int.neg_tdiv,←hq];rfl
   have Hst:=hI (show D10.limbs N=(d++[r])++D10.limbs q∧(d++[r]).length=k+1 from by
    refine⟨?_,by rw[List.length_append,Hinv.out.2];rfl⟩
    rw[Hinv.out.1,D10.qbh hM,hr,hq,List.append_assoc]
    rfl)
   have Hds:=hI (show(qb1 d).map (Value.int .i64)++[.int .i64 (r:Int)]=(qb1 (d++[r])).map (Value.int .i64)from by simp[qb1]);have hqw:IntKind.i64.wrap (-(q:Int))=(-(q:Int)):=IntWalk.i64_in _ (by omega);have hrw:IntKind.i64.wrap (-(r:Int))=(-(r:Int)):=IntWalk.i64_in _ (by omega);have hqM:q<M:=by omega
   have hq12:q<1000000000000:=by omega
   clear hr hq hM Hinv;have hr3:(0:Int)- -(r:Int)=(r:Int):=by omega
   have hrw2:IntKind.i64.wrap (r:Int)=(r:Int):=IntWalk.i64_in _ (by omega);have hrw3:IntKind.i64.wrap (0- -(r:Int))=(r:Int):=by rw[hr3];exact hrw2
   by_cases hr0:r=0
   ·subst hr0
    have hr4:¬ -((0:Nat):Int)<0:=by omega
    have Hds:=hI (show(qb1 d).map (Value.int .i64)++[.int .i64 0]=(qb1 (d++[0])).map (Value.int .i64)from Hds.out)
    go_wp2_with (at_builtin;refine qct ED (by decide) [.int .i64 0] rfl _ _ rfl w.heap.size _ _ _ rfl rfl Hown.out rfl (one1 _ rfl) (by omega) (by decide) Hbw.out.size ?_;intro v' w5 hown' hg';have Hbw3:=hI (qat Hbw.out Hown.out hg' Hbw.out.size);have Hown5:=hI hown';clear hown' hg')
    go_roundw
    case rel=>exact⟨k+1,q,d++[0],rfl,Hbw3.out,by have:=Hown5.out;rw[Hds.out]at this;exact this,hq12,Hst.out⟩
    case measure=>
     simp[intOf]
     omega
   ·have hr4:-(r:Int)<0:=by omega
    clear hr0
    go_wp2_with (at_builtin;refine qct ED (by decide) [.int .i64 (r:Int)] rfl _ _ rfl w.heap.size _ _ _ rfl rfl Hown.out rfl (one1 _ rfl) (by omega) (by decide) Hbw.out.size ?_;intro v' w5 hown' hg';have Hbw3:=hI (qat Hbw.out Hown.out hg' Hbw.out.size);have Hown5:=hI hown';clear hown' hg')
    go_roundw
    case rel=>exact⟨k+1,q,d++[r],rfl,Hbw3.out,by have:=Hown5.out;rw[Hds.out]at this;exact this,hq12,Hst.out⟩
    case measure=>
     simp[intOf]
     omega
theorem qoj(z:Int)(w:World)(hz:z.natAbs<10^12):Calls Tryz.prog 105 #[.int .i64 z] w (Ret (.string ⟨(txtZ z).toArray⟩) w):=by
 rcases Int.lt_or_le z 0 with h|h
 ·obtain⟨N,rfl⟩:∃N:Nat,z=-(N:Int):=⟨z.natAbs,by omega⟩
  exact qoi N w (by simpa using hz) (by omega)
 ·obtain⟨N,rfl⟩:∃N:Nat,z=(N:Int):=⟨z.natAbs,by omega⟩
  exact qoh N w (by simpa using hz)
theorem qj9(z:Int)(w:World)(hz:z.natAbs<10^12):Calls Tryz.prog 49 #[.int .i64 z] w (Ret (.string ⟨(txtR (z:Rat)).toArray⟩) w):=by
 have H:=hI (fun w'=>qoj z w' hz);rw[show txtR (z:Rat)=txtZ z from by rw[qcx (by rfl)];rfl];generalize(⟨(txtZ z).toArray⟩:ByteArray)=D at*;clear hz
 go_enter Tryz.func49,Tryz.ntmps49
 go_wp2_with (go_at_call 105;refine(H.out _).mono ?_;rintro e w1 ⟨rfl,hb1⟩)
 go_ret
 exact⟨rfl,hb1⟩
set_option maxRecDepth 10000 in
theorem qnp(v:Value)(xs:List Iv)(u:Value)(ys:List Iv)(q0 q1:Int)(w:World)(h:Ivs w v xs)(h':Ivs w u ys)(hq:-2147483648≤q0∧q0≤2147483647)(hT:Tab w):Calls Tryz.prog 10 #[v,u,.agg #[.int .i32 q0,.int .i32 q1]] w (Ret (.bool true) w):=by
 have HK:=hI (fun w' (hT':Tab w')=>qnz w' hT');have HF:=hI (fun w' (hb:Below (w.alloc (.cells #[.int .i32 q0,.int .i32 q1] 59)).heap.size (w.alloc (.cells #[.int .i32 q0,.int .i32 q1] 59)) w')=>qqt v xs w' (h.mono (qaa (qac w _) hb)));have HG:=hI (fun w' (hb:Below (w.alloc (.cells #[.int .i32 q0,.int .i32 q1] 59)).heap.size (w.alloc (.cells #[.int .i32 q0,.int .i32 q1] 59)) w')=>qqt u ys w' (h'.mono (qaa (qac w _) hb)));have HT:=hI (hT.mono (qac w (.cells #[.int .i32 q0,.int .i32 q1] 59)));have Hb1:=hI (Below.refl (w.alloc (.cells #[.int .i32 q0,.int .i32 q1] 59)).heap.size (w.alloc (.cells #[.int .i32 q0,.int .i32 q1] 59)));clear hT;obtain⟨a,c,rfl,hc1,hc2⟩:=h.open;obtain⟨a',c',rfl,hc1',hc2'⟩:=h'.open;cases hf:fewB xs with
 |false=>
  rw[hf]at HF;clear h h' hf HG hq;generalize xs.length=m at*;generalize ys.length=m' at*
  go_enter Tryz.func10,Tryz.ntmps10
  go_wp2_with (first
   |(have _t:=Hb3;clear _t;go_at_call 13;refine(HK.out _ (HT.out.mono (Hb3.out))).mono ?_;rintro e w4 ⟨rfl,hb4⟩;have Hb4:=hI (qaa Hb3.out hb4);clear hb4)
   |(have _t:=Hb2;clear _t;go_at_call 14;refine(HF.out _ (Hb2.out)).mono ?_;rintro e w3 ⟨rfl,hb3⟩;have Hb3:=hI (qaa Hb2.out hb3);clear hb3)
   |(have _t:=Hb1;clear _t;go_at_call 13;refine(HK.out _ (HT.out.mono (Hb1.out))).mono ?_;rintro e w2 ⟨rfl,hb2⟩;have Hb2:=hI (qaa Hb1.out hb2);clear hb2))
  go_ret
  exact⟨rfl,qaa (qac w _) Hb4.out⟩
 |true=>
  have hs:=qko hf;have hz:=qrw (qwv hf);rw[hf]at HF;cases hg:fewB ys with
  |false=>
   rw[hg]at HG;clear h h' hf hs hg hz hq;generalize xs.length=m at*;generalize ys.length=m' at*
   go_enter Tryz.func10,Tryz.ntmps10
   go_wp2_with (first
    |(have _t:=Hb4;clear _t;go_at_call 13;refine(HK.out _ (HT.out.mono (Hb4.out))).mono ?_;rintro e w5 ⟨rfl,hb5⟩;have Hb5:=hI (qaa Hb4.out hb5);clear hb5)
    |(have _t:=Hb3;clear _t;go_at_call 14;refine(HG.out _ (Hb3.out)).mono ?_;rintro e w4 ⟨rfl,hb4⟩;have Hb4:=hI (qaa Hb3.out hb4);clear hb4)
    |(have _t:=Hb2;clear _t;go_at_call 14;refine(HF.out _ (Hb2.out)).mono ?_;rintro e w3 ⟨rfl,hb3⟩;have Hb3:=hI (qaa Hb2.out hb3);clear hb3)
    |(have _t:=Hb1;clear _t;go_at_call 13;refine(HK.out _ (HT.out.mono (Hb1.out))).mono ?_;rintro e w2 ⟨rfl,hb2⟩;have Hb2:=hI (qaa Hb1.out hb2);clear hb2))
   go_ret
   exact⟨rfl,qaa (qac w _) Hb5.out⟩
  |true=>
   have hs':=qko hg;rw[hg]at HG;have HS:=hI (fun w' (hb:Below (w.alloc (.cells #[.int .i32 q0,.int .i32 q1] 59)).heap.size (w.alloc (.cells #[.int .i32 q0,.int .i32 q1] 59)) w')=>qo2 _ xs w' (h.mono (qaa (qac w _) hb)) hs);have HSB:=hI (fun w' (hb:Below (w.alloc (.cells #[.int .i32 q0,.int .i32 q1] 59)).heap.size (w.alloc (.cells #[.int .i32 q0,.int .i32 q1] 59)) w')=>qo2 _ ys w' (h'.mono (qaa (qac w _) hb)) hs');obtain⟨JA,hA,lA⟩:=qo0 hs;obtain⟨JB,hB,lB⟩:=qo0 hs';have lAB:JA.length*(JB.length+1)≤256:=Nat.le_trans (Nat.mul_le_mul lA (show JB.length+1≤9 by omega)) (by omega);have lAB0:JA.length*JB.length≤256:=Nat.le_trans (Nat.mul_le_mul lA lB) (by omega);have lU:JA.length+JB.length≤256:=by omega
   have lC:JA.length+1≤256:=by omega
   have lC':JB.length+1≤256:=by omega
   have HU:=hI (fun u v w' hu hv=>qsw hA hB lU u v w' hu hv);have HI:=hI (fun u v w' hu hv=>qkl hA hB lAB0 u v w' hu hv);have HC:=hI (fun u w' hu=>qfy hA lC u w' hu);have HM:=hI (fun u v w' hu hv=>qsy hA hB lAB lC' u v w' hu hv);have sU:=qf4 hA hB lU;have sI:=qey hA hB lAB0;have sC:=qez hA lC;have sM:=qf5 hA hB lAB lC';obtain⟨Z,hZ,Zr⟩:∃Z,IntKind.u32.wrap q1=Z∧0≤Z:=⟨_,rfl,by rw[IntKind.wrap_u32];omega⟩
   obtain⟨d,hd,d0,d15⟩:∃d:Nat,Z.tmod 16=(d:Int)∧0≤d∧d≤15:=by
    obtain⟨z,rfl⟩:=Int.eq_ofNat_of_zero_le Zr;exact⟨z%16,by rfl,Nat.zero_le _,by omega⟩
   have hw0:IntKind.i64.wrap q0=q0:=IntWalk.i64_in _ (by omega);have hwd:IntKind.u32.wrap (d:Int)=(d:Int):=IntWalk.u32_in _ (by omega);have hwe:IntKind.i64.wrap (d:Int)=(d:Int):=IntWalk.i64_in _ (by omega);have hwf:IntKind.i64.wrap (1+(d:Int))=1+(d:Int):=IntWalk.i64_in _ (by omega);have zq:Sz 12 (q0:Rat):=⟨by show q0.natAbs<10^12;omega,by show 1<10^12;decide⟩
   have zd:Sz 12 ((1+(d:Int):Int):Rat):=⟨by show(1+(d:Int)).natAbs<10^12;omega,by show 1<10^12;decide⟩
   have HN1:=hI (fun w'=>qj9 q0 w' (by omega));have HN2:=hI (fun w'=>qj9 (1+(d:Int)) w' (by omega));have HDv:=hI (fun w'=>qr6 (q0:Rat) ((1+(d:Int):Int):Rat) 12 12 w' zq zd (by omega) (by rw[Rat.lt_iff];show(0:Int)*1<(1+(d:Int))*1;omega));obtain⟨n,hn⟩:∃n:ByteArray,(⟨(txtR ((q0:Rat)/((1+(d:Int):Int):Rat))).toArray⟩:ByteArray)=n:=⟨_,rfl⟩
   have hne:errL n.data.toList=0:=by rw[←hn];exact qda _
   have hnz:n.size≤5000:=by
    rw[←hn]
    have e:((q0:Rat)/((1+(d:Int):Int):Rat))=mkRat q0 (1+d):=by
     rw[qe0 (by rw[Rat.lt_iff];show(0:Int)*1<(1+(d:Int))*1;omega)]
     congr 1
     ·exact Int.mul_one _
     ·show 1*(1+(d:Int)).natAbs=1+d
      omega
    rw[e];have hz:=qd8 (Sz.mk (k:=12) (n:=q0) (d:=1+d) (by omega) (by omega) (by omega))
    show(txtR (mkRat q0 (1+d))).toArray.size≤5000
    rw[List.size_toArray]
    omega
   rw[hn]at HDv;clear hn zq zd;obtain⟨pA,hpA⟩:∃p,hasB (setL xs) n=p:=⟨_,rfl⟩
   obtain⟨pB,hpB⟩:∃p,hasB (setL ys) n=p:=⟨_,rfl⟩
   have cA:=hI (fun v' w' (h':Ivs w' v' (setL xs))=>qbx v' (setL xs) n w' h' hA.short hA.err (by have:=hA.n;omega) hnz hne);have cB:=hI (fun v' w' (h':Ivs w' v' (setL ys))=>qbx v' (setL ys) n w' h' hB.short hB.err (by have:=hB.n;omega) hnz hne);have cU:=hI (fun v' w' (h':Ivs w' v' ((qa3 (JA++JB)).map ivR))=>qbx v' _ n w' h' sU.short sU.err (by have:=sU.n;omega) hnz hne);have cI:=hI (fun v' w' (h':Ivs w' v' ((qa3 (qee ltR JA JB)).map ivR))=>qbx v' _ n w' h' sI.short sI.err (by have:=sI.n;omega) hnz hne);have cC:=hI (fun v' w' (h':Ivs w' v' ((qa3 (qc3 lowR qcs JA)).map ivR))=>qbx v' _ n w' h' sC.short sC.err (by have:=sC.n;omega) hnz hne);have cM:=hI (fun v' w' (h':Ivs w' v' ((qa3 (qee ltR JA (qa3 (qc3 lowR qcs JB)))).map ivR))=>qbx v' _ n w' h' sM.short sM.err (by have:=sM.n;omega) hnz hne);rw[qqg hA hB lU]at cU;rw[qqi hA hB lAB0]at cI;rw[qqj hA lC hnz hne]at cC;rw[qqh hA hB lAB lC' hnz hne]at cM;rw[hpA]at cA cU cI cC cM;rw[hpB]at cB cU cI cM;have hl8:(setL xs).length≤256:=by rw[hA.length];omega
   have HP:=hI (fun v' w' (h':Ivs w' v' (setL xs)) (hT':Tab w')=>qqf v' (setL xs) w' h' hA.short hA.err hl8 hT');obtain⟨m2,hm2⟩:∃m2,(setL xs).length=m2:=⟨_,rfl⟩
   obtain⟨pv,B,hpv,hB0,cP⟩:∃(pv:ByteArray) (B:Bool),qsg (setL xs)=.tuple #[.string pv,.bool B,.int .i64 0]∧B=decide ((0:Int)<(m2:Int))∧Hid (∀v' w',Ivs w' v' (setL xs)→Calls Tryz.prog 40 #[v',.string pv] w' (Ret (.tuple #[.bool B,.int .i64 0]) w')):=by
    cases hS:setL xs with
    |nil=>
     refine⟨⟨#[48]⟩,false,rfl,by rw[←hm2,hS];rfl,hI (fun v' w' h'=>?_)⟩
     exact qbx v' [] ⟨#[48]⟩ w' h' (fun x hx=>by cases hx) rfl (by show 0<100000;decide) (by decide) (by kernel_rfl)
    |cons x xr=>
     have hx:x∈setL xs:=by rw[hS];exact List.mem_cons_self
     have hA':=hA;rw[hS]at hA';refine⟨_,true,rfl,by rw[←hm2,hS];exact(decide_eq_true (by rw[List.length_cons];omega)).symm,hI (fun v' w' h'=>?_)⟩
     have:=qbx v' (x::xr) ⟨(txtR (qc1 x)).toArray⟩ w' h' hA'.short hA'.err (by have:=hA'.n;omega) (qsf (hz x hx)) (qda _)
     rwa [qs1 hA']at this
   rw[hpv]at HP;rw[hm2]at HS
   have HB0:=hI (show(m2=0∧B=false)∨(0<m2∧(0:Int)<(m2:Int)∧B=true)from by
    rcases Nat.eq_zero_or_pos m2 with k|k
    ·exact .inl ⟨k,by rw[hB0,k];rfl⟩
    ·exact .inr ⟨k,by omega,by rw[hB0];exact decide_eq_true (by omega)⟩)
   clear hB0 hpv hA hB sU sI sC sM lAB lAB0 lU lC lC' lA lB hs hs' hf hg hz hne hnz hpA hpB hl8 hm2 d0 Zr hq;generalize(qa3 (JA++JB)).map ivR=U at*;generalize(qa3 (qee ltR JA JB)).map ivR=E at*;generalize(qa3 (qc3 lowR qcs JA)).map ivR=C at*;generalize(qa3 (qee ltR JA (qa3 (qc3 lowR qcs JB)))).map ivR=M at*;clear JA JB;generalize setL xs=A at*;generalize hBl:setL ys=Y at*;generalize xs.length=m at*;generalize ys.length=m' at*;generalize(⟨(txtR (q0:Rat)).toArray⟩:ByteArray)=T1 at*;generalize(⟨(txtR ((1+(d:Int):Int):Rat)).toArray⟩:ByteArray)=T2 at*;clear h h' hBl
   go_enter Tryz.func10,Tryz.ntmps10
   go_upto_region 4 with(first
    |(have _t:=Hb5;clear _t;go_at_call 15;refine(HSB.out _ (Hb5.out)).mono ?_;rintro e w6 ⟨v6,rfl,⟨a6,c6,rfl,hi6⟩,hb6⟩;have Hb6:=hI (qaa Hb5.out hb6);have HiA6:=hI (HiA5.out.mono hb6);have HiY6:=hI hi6;clear hb6 hi6)
    |(have _t:=Hb4;clear _t;go_at_call 15;refine(HS.out _ (Hb4.out)).mono ?_;rintro e w5 ⟨v5,rfl,⟨a5,c5,rfl,hi5⟩,hb5⟩;have Hb5:=hI (qaa Hb4.out hb5);have HiA5:=hI hi5;clear hb5 hi5)
    |(have _t:=Hb3;clear _t;go_at_call 14;refine(HG.out _ (Hb3.out)).mono ?_;rintro e w4 ⟨rfl,hb4⟩;have Hb4:=hI (qaa Hb3.out hb4);clear hb4)
    |(have _t:=Hb2;clear _t;go_at_call 14;refine(HF.out _ (Hb2.out)).mono ?_;rintro e w3 ⟨rfl,hb3⟩;have Hb3:=hI (qaa Hb2.out hb3);clear hb3)
    |(have _t:=Hb1;clear _t;go_at_call 13;refine(HK.out _ (HT.out.mono (Hb1.out))).mono ?_;rintro e w2 ⟨rfl,hb2⟩;have Hb2:=hI (qaa Hb1.out hb2);clear hb2))
   have HBX:=hI ((Blk.new w #[.int .i32 q0,.int .i32 q1] 59).below Hb6.out);have HSx:=hI (fun w' (hb:Below w6.heap.size w6 w')=>show w'.cell? ⟨w.heap.size,0,none⟩=some (.int .i32 q0)∧w'.cell? ⟨w.heap.size,1,none⟩=some (.int .i32 q1)from⟨((HBX.out.below hb).cell 0),((HBX.out.below hb).cell 1)⟩);refine wpRg HSx.out (bwD w6) (by kernel_rfl) (fun hHeld=>?_)
   refine' tk 0 ?_;(try simp only[tkS]);refine' tk 1 ?_;(try simp only[tkS]);refine' tk 2 ?_;(try simp only[tkS]);refine' tk 4 ?_;(try simp only[tkS]);refine' tk 5 ?_;(try simp only[tkS]);refine' tk 6 ?_;(try simp only[tkS]);refine' tk 7 ?_;(try simp only[tkS]);refine' tk 8 ?_;(try simp only[tkS]);refine' tk 9 ?_;(try simp only[tkS]);refine tk1 3 (fun K hK=>?_)
   go_simp;go_at_call 49;refine(HN1.out _).mono ?_
   rintro z5 x0 ⟨rfl,hx0⟩;have Hx0:=hI (qaa (bwD w6) hx0);clear hx0;refine hK.out _ _ (by exact HSx.out _ (Hx0.out)) (fun hHeld=>?_)
   clear hK K;(try simp only[tkS]);refine tk1 10 (fun K hK=>?_)
   go_simp;go_at_call 49;refine(HN2.out _).mono ?_
   rintro z5 x1 ⟨rfl,hx1⟩;have Hx1:=hI (qaa (Hx0.out) hx1);clear hx1;refine hK.out _ _ (by exact HSx.out _ (Hx1.out)) (fun hHeld=>?_)
   clear hK K;(try simp only[tkS]);refine tk1 11 (fun K hK=>?_)
   go_simp;go_at_call 48;refine(HDv.out _).mono ?_
   rintro z5 x2 ⟨rfl,hx2⟩;have Hx2:=hI (qaa (Hx1.out) hx2);clear hx2;refine hK.out _ _ (by exact HSx.out _ (Hx2.out)) (fun hHeld=>?_)
   clear hK K;(try simp only[tkS]);refine' tk 12 ?_;(try simp only[tkS]);refine tkD ?_ _
   have Hb7:=hI (qaa Hb6.out (Hx2.out));have HiA7:=hI (HiA6.out.mono (Hx2.out));have HiY7:=hI (HiY6.out.mono (Hx2.out));clear Hx0 Hx1 Hx2 HSx HBX
   go_upto_region 17 with(first
       |(have _t:=Hb16;clear _t;go_at_call 40;refine(cM.out _ _ (HiM16.out)).mono ?_;rintro e w17 ⟨rfl,hb17⟩;have Hb17:=hI (qaa Hb16.out hb17);have HiA17:=hI (HiA16.out.mono hb17);clear hb17)
       |(have _t:=Hb15;clear _t;go_at_call 40;refine(cC.out _ _ (HiC15.out)).mono ?_;rintro e w16 ⟨rfl,hb16⟩;have Hb16:=hI (qaa Hb15.out hb16);have HiA16:=hI (HiA15.out.mono hb16);have HiM16:=hI (HiM15.out.mono hb16);clear hb16)
       |(have _t:=Hb14;clear _t;go_at_call 40;refine(cI.out _ _ (HiE14.out)).mono ?_;rintro e w15 ⟨rfl,hb15⟩;have Hb15:=hI (qaa Hb14.out hb15);have HiA15:=hI (HiA14.out.mono hb15);have HiC15:=hI (HiC14.out.mono hb15);have HiM15:=hI (HiM14.out.mono hb15);clear hb15)
       |(have _t:=Hb13;clear _t;go_at_call 40;refine(cU.out _ _ (HiU13.out)).mono ?_;rintro e w14 ⟨rfl,hb14⟩;have Hb14:=hI (qaa Hb13.out hb14);have HiA14:=hI (HiA13.out.mono hb14);have HiE14:=hI (HiE13.out.mono hb14);have HiC14:=hI (HiC13.out.mono hb14);have HiM14:=hI (HiM13.out.mono hb14);clear hb14)
       |(have _t:=Hb12;clear _t;go_at_call 40;refine(cB.out _ _ (HiY12.out)).mono ?_;rintro e w13 ⟨rfl,hb13⟩;have Hb13:=hI (qaa Hb12.out hb13);have HiA13:=hI (HiA12.out.mono hb13);have HiU13:=hI (HiU12.out.mono hb13);have HiE13:=hI (HiE12.out.mono hb13);have HiC13:=hI (HiC12.out.mono hb13);have HiM13:=hI (HiM12.out.mono hb13);clear hb13)
       |(have _t:=Hb11;clear _t;go_at_call 40;refine(cA.out _ _ (HiA11.out)).mono ?_;rintro e w12 ⟨rfl,hb12⟩;have Hb12:=hI (qaa Hb11.out hb12);have HiA12:=hI (HiA11.out.mono hb12);have HiY12:=hI (HiY11.out.mono hb12);have HiU12:=hI (HiU11.out.mono hb12);have HiE12:=hI (HiE11.out.mono hb12);have HiC12:=hI (HiC11.out.mono hb12);have HiM12:=hI (HiM11.out.mono hb12);clear hb12)
       |(have _t:=Hb10;clear _t;go_at_call 45;refine(HM.out _ _ _ (HiA10.out) (HiY10.out)).mono ?_;rintro e w11 ⟨v11,rfl,⟨a11,c11,rfl,hi11⟩,hb11⟩;have Hb11:=hI (qaa Hb10.out hb11);have HiA11:=hI (HiA10.out.mono hb11);have HiY11:=hI (HiY10.out.mono hb11);have HiU11:=hI (HiU10.out.mono hb11);have HiE11:=hI (HiE10.out.mono hb11);have HiC11:=hI (HiC10.out.mono hb11);have HiM11:=hI hi11;clear hb11 hi11)
       |(have _t:=Hb9;clear _t;go_at_call 35;refine(HC.out _ _ (HiA9.out)).mono ?_;rintro e w10 ⟨v10,rfl,⟨a10,c10,rfl,hi10⟩,hb10⟩;have Hb10:=hI (qaa Hb9.out hb10);have HiA10:=hI (HiA9.out.mono hb10);have HiY10:=hI (HiY9.out.mono hb10);have HiU10:=hI (HiU9.out.mono hb10);have HiE10:=hI (HiE9.out.mono hb10);have HiC10:=hI hi10;clear hb10 hi10)
       |(have _t:=Hb8;clear _t;go_at_call 37;refine(HI.out _ _ _ (HiA8.out) (HiY8.out)).mono ?_;rintro e w9 ⟨v9,rfl,⟨a9,c9,rfl,hi9⟩,hb9⟩;have Hb9:=hI (qaa Hb8.out hb9);have HiA9:=hI (HiA8.out.mono hb9);have HiY9:=hI (HiY8.out.mono hb9);have HiU9:=hI (HiU8.out.mono hb9);have HiE9:=hI hi9;clear hb9 hi9)
       |(have _t:=Hb7;clear _t;go_at_call 36;refine(HU.out _ _ _ (HiA7.out) (HiY7.out)).mono ?_;rintro e w8 ⟨v8,rfl,⟨a8,c8,rfl,hi8⟩,hb8⟩;have Hb8:=hI (qaa Hb7.out hb8);have HiA8:=hI (HiA7.out.mono hb8);have HiY8:=hI (HiY7.out.mono hb8);have HiU8:=hI hi8;clear hb8 hi8))
   clear HU HI HC HM cA cB cU cI cC cM HN1 HN2 HDv HS HSB HF HG HK
   rcases HB0.out with⟨rfl,rfl⟩|⟨hm3,hm4,rfl⟩<;>cases pA<;>cases pB<;>(try simp only[Bool.or_true,Bool.or_false,Bool.and_true,Bool.and_false,Bool.not_true,Bool.not_false])<;>(
    go_wp2_with (first
        |(have _t:=Hb18;clear _t;go_at_call 40;refine(cP.out _ _ (HiA18.out)).mono ?_;rintro e w19 ⟨rfl,hb19⟩;have Hb19:=hI (qaa Hb18.out hb19);clear hb19)
        |(have _t:=Hb17;clear _t;go_at_call 18;refine(HP.out _ _ (HiA17.out) (HT.out.mono (Hb17.out))).mono ?_;rintro e w18 ⟨rfl,hb18⟩;have Hb18:=hI (qaa Hb17.out hb18);have HiA18:=hI (HiA17.out.mono hb18);clear hb18))
    go_ret
    exact⟨by first|rfl|simp,qaa (qac w _) Hb19.out⟩)
end Go.Proofs.YtacihodamichhaaGreatDoor
