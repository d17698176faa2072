/- The card of IntervalLaws holds: for every input the law returns true and the input reads as it did; its conditions are those that the card itself names (the tables of the library as they are laid). -/
import Derived.Test.YtacihodamichhaaGreatDoorCards
import Derived.Test.YtacihodamichhaaGreatDoorTie
import Derived.OpenShut
import Derived.LaidMore
import Derived.Lay
import Derived.SevenTiedAt
import Derived.Test.YtacihodamichhaaGreatDoorL50
set_option maxHeartbeats 8000000
namespace Go.Proofs.YtacihodamichhaaGreatDoor
open Go.RowKit
set_option maxRecDepth 10000 in
theorem qqk(v:Value)(xs:List Iv)(u:Value)(ys:List Iv)(w:World)(h:Ivs w v xs)(h':Ivs w u ys):Calls Tryz.prog 6 #[v,u] w (Ret (.bool true) w):=by
 have HK:=hI (fun w'=>qmg w');have HF:=hI (fun w' (hb:Below w.heap.size w w')=>qon v xs w' (h.mono hb));have HG:=hI (fun w' (hb:Below w.heap.size w w')=>qon u ys w' (h'.mono hb));obtain⟨a,c,rfl,hc1,hc2⟩:=h.open;obtain⟨a',c',rfl,hc1',hc2'⟩:=h'.open;cases hf:fewB xs with
 |false=>
  rw[hf]at HF;clear h h' hf HG;generalize xs.length=m at*;generalize ys.length=m' at*
  go_enter Tryz.func6,Tryz.ntmps6
  go_wp2_with (first
   |(have _t:=Hb2;clear _t;go_at_call 13;refine(HK.out _).mono ?_;rintro e w3 ⟨rfl,hb3⟩;have Hb3:=hI (qaa Hb2.out hb3);clear hb3)
   |(have _t:=Hb1;clear _t;go_at_call 14;refine(HF.out _ (Hb1.out)).mono ?_;rintro e w2 ⟨rfl,hb2⟩;have Hb2:=hI (qaa Hb1.out hb2);clear hb2)
   |(go_at_call 13;refine(HK.out _).mono ?_;rintro e w1 ⟨rfl,hb1⟩;have Hb1:=hI (hb1);clear hb1))
  go_ret
  exact⟨rfl,Hb3.out⟩
 |true=>
  have hs:=qjf hf;rw[hf]at HF;cases hg:fewB ys with
  |false=>
   rw[hg]at HG;clear h h' hf hs hg;generalize xs.length=m at*;generalize ys.length=m' at*
   go_enter Tryz.func6,Tryz.ntmps6
   go_wp2_with (first
    |(have _t:=Hb3;clear _t;go_at_call 13;refine(HK.out _).mono ?_;rintro e w4 ⟨rfl,hb4⟩;have Hb4:=hI (qaa Hb3.out hb4);clear hb4)
    |(have _t:=Hb2;clear _t;go_at_call 14;refine(HG.out _ (Hb2.out)).mono ?_;rintro e w3 ⟨rfl,hb3⟩;have Hb3:=hI (qaa Hb2.out hb3);clear hb3)
    |(have _t:=Hb1;clear _t;go_at_call 14;refine(HF.out _ (Hb1.out)).mono ?_;rintro e w2 ⟨rfl,hb2⟩;have Hb2:=hI (qaa Hb1.out hb2);clear hb2)
    |(go_at_call 13;refine(HK.out _).mono ?_;rintro e w1 ⟨rfl,hb1⟩;have Hb1:=hI (hb1);clear hb1))
   go_ret
   exact⟨rfl,Hb4.out⟩
  |true=>
   have hs':=qjf hg;rw[hg]at HG;have HS:=hI (fun w' (hb:Below w.heap.size w w')=>qm8 _ xs w' (h.mono hb) hs);have HT:=hI (fun w' (hb:Below w.heap.size w w')=>qm8 _ ys w' (h'.mono hb) hs');obtain⟨JA,hA,lA⟩:=qm7 hs;obtain⟨JB,hB,lB⟩:=qm7 hs';have lAB:JA.length*(JB.length+1)≤256:=Nat.le_trans (Nat.mul_le_mul lA (show JB.length+1≤9 by omega)) (by omega);have lBA:JB.length*(JA.length+1)≤256:=Nat.le_trans (Nat.mul_le_mul lB (show JA.length+1≤9 by omega)) (by omega);have lAB0:JA.length*JB.length≤256:=Nat.le_trans (Nat.mul_le_mul lA lB) (by omega);have hC:=qdk hA (by omega);have hD:=qdk hB (by omega);have hU:=qg9 hA hB (by omega);have lC:=qj9 JA;have lD:=qj9 JB;have lU:(qax (JA++JB)).length≤16:=Nat.le_trans (qc7 _) (by rw[List.length_append];omega);have lCD:(qax (qb6 lowR qbx JA)).length*(qax (qb6 lowR qbx JB)).length≤256:=Nat.le_trans (Nat.mul_le_mul (show _≤9 by omega) (show _≤9 by omega)) (by omega);have hcc:=qkg hA.set hA.ok;have hdm:=qo6 hA.set hA.ok hB.set hB.ok;have HC:=hI (fun u w' hu=>qch hA (by omega) u w' hu);have HD:=hI (fun u w' hu=>qch hB (by omega) u w' hu);have HE:=hI (fun u w' hu=>qch hC (by omega) u w' hu);have HU:=hI (fun u v w' hu hv=>qqm hA hB (by omega) u v w' hu hv);have HL:=hI (fun u w' hu=>qch hU (by omega) u w' hu);have HR:=hI (fun u v w' hu hv=>qjc hC hD lCD u v w' hu hv);have HX:=hI (fun u v w' hu hv=>qja hA hB lAB (by omega) u v w' hu hv);have HY:=hI (fun u v w' hu hv=>qja hB hA lBA (by omega) u v w' hu hv);rw[hdm]at HR;rw[hcc,←hA.eq]at HE;have nL:=Nat.le_trans (qdk hU (by omega)).n (show 256≤1000 by omega);have nA:(setL xs).length≤1000:=Nat.le_trans hA.n (by omega);have nB:(setL ys).length≤1000:=Nat.le_trans hB.n (by omega)
   have hE0:(subB JA JB&&subB JB JA)=true↔setL xs=setL ys:=by rw[qpp hA.set hA.ok hB.set hB.ok,hA.same hB]
   have HP:=hI (fun u v w' hx hy=>(qh2 u v _ _ w' hx hy nA nB).mono fun e w2 k=>EqP.one hE0 k);have HQ:=hI (fun u v w' hx hy=>(qh2 u v _ _ w' hx hy nA nA).mono fun e w2 k=>EqP.one (b:=true) (iff_of_true rfl rfl) k);have HW:=hI (fun u v w' hx hy=>(qh2 u v _ _ w' hx hy nL nL).mono fun e w2 k=>EqP.one (b:=true) (iff_of_true rfl rfl) k);clear hE0 nA nB nL lC lD lU lCD hcc hdm lAB lBA lAB0 lA lB h h' hs hs' hf hg;generalize(qax (qb6 lowR qbx (qax (JA++JB)))).map ivR=L at*;generalize(qax (JA++JB)).map ivR=U at*;generalize(qax (qb6 lowR qbx JA)).map ivR=C at*;generalize(qax (qb6 lowR qbx JB)).map ivR=D at*;generalize subB JA JB=sX at*;generalize subB JB JA=sY at*;clear hA hB hC hD hU;generalize setL xs=A at*;generalize setL ys=B at*;generalize xs.length=m at*;generalize ys.length=m' at*;have hsY:(sY==sY)=true:=by simp
   cases sX
   ·go_enter Tryz.func6,Tryz.ntmps6
    go_wp2_with (first
     |(have _t:=Hb15;clear _t;go_at_call 39;refine(HP.out _ _ _ (HiA15.out) (HiB15.out)).mono ?_;rintro e w16 ⟨rfl,hb16⟩;have Hb16:=hI (qaa Hb15.out hb16);clear hb16)
     |(have _t:=Hb14;clear _t;go_at_call 39;refine(HW.out _ _ _ (HiL14.out) (HiR14.out)).mono ?_;rintro e w15 ⟨rfl,hb15⟩;have Hb15:=hI (qaa Hb14.out hb15);have HiA15:=hI (HiA14.out.mono hb15);have HiB15:=hI (HiB14.out.mono hb15);clear hb15)
     |(have _t:=Hb13;clear _t;go_at_call 39;refine(HQ.out _ _ _ (HiK13.out) (HiA13.out)).mono ?_;rintro e w14 ⟨rfl,hb14⟩;have Hb14:=hI (qaa Hb13.out hb14);have HiA14:=hI (HiA13.out.mono hb14);have HiB14:=hI (HiB13.out.mono hb14);have HiL14:=hI (HiL13.out.mono hb14);have HiR14:=hI (HiR13.out.mono hb14);clear hb14)
     |(have _t:=Hb12;clear _t;go_at_call 38;refine(HY.out _ _ _ (HiB12.out) (HiA12.out)).mono ?_;rintro e w13 ⟨rfl,hb13⟩;have Hb13:=hI (qaa Hb12.out hb13);have HiA13:=hI (HiA12.out.mono hb13);have HiB13:=hI (HiB12.out.mono hb13);have HiK13:=hI (HiK12.out.mono hb13);have HiL13:=hI (HiL12.out.mono hb13);have HiR13:=hI (HiR12.out.mono hb13);clear hb13)
     |(have _t:=Hb11;clear _t;go_at_call 38;refine(HX.out _ _ _ (HiA11.out) (HiB11.out)).mono ?_;rintro e w12 ⟨rfl,hb12⟩;have Hb12:=hI (qaa Hb11.out hb12);have HiA12:=hI (HiA11.out.mono hb12);have HiB12:=hI (HiB11.out.mono hb12);have HiK12:=hI (HiK11.out.mono hb12);have HiL12:=hI (HiL11.out.mono hb12);have HiR12:=hI (HiR11.out.mono hb12);clear hb12)
     |(have _t:=Hb10;clear _t;go_at_call 37;refine(HR.out _ _ _ (HiC10.out) (HiD10.out)).mono ?_;rintro e w11 ⟨v11,rfl,⟨a11,c11,rfl,hi11⟩,hb11⟩;have Hb11:=hI (qaa Hb10.out hb11);have HiA11:=hI (HiA10.out.mono hb11);have HiB11:=hI (HiB10.out.mono hb11);have HiK11:=hI (HiK10.out.mono hb11);have HiL11:=hI (HiL10.out.mono hb11);have HiR11:=hI hi11;clear hb11 hi11)
     |(have _t:=Hb9;clear _t;go_at_call 35;refine(HL.out _ _ (HiU9.out)).mono ?_;rintro e w10 ⟨v10,rfl,⟨a10,c10,rfl,hi10⟩,hb10⟩;have Hb10:=hI (qaa Hb9.out hb10);have HiA10:=hI (HiA9.out.mono hb10);have HiB10:=hI (HiB9.out.mono hb10);have HiC10:=hI (HiC9.out.mono hb10);have HiD10:=hI (HiD9.out.mono hb10);have HiK10:=hI (HiK9.out.mono hb10);have HiL10:=hI hi10;clear hb10 hi10)
     |(have _t:=Hb8;clear _t;go_at_call 36;refine(HU.out _ _ _ (HiA8.out) (HiB8.out)).mono ?_;rintro e w9 ⟨v9,rfl,⟨a9,c9,rfl,hi9⟩,hb9⟩;have Hb9:=hI (qaa Hb8.out hb9);have HiA9:=hI (HiA8.out.mono hb9);have HiB9:=hI (HiB8.out.mono hb9);have HiC9:=hI (HiC8.out.mono hb9);have HiD9:=hI (HiD8.out.mono hb9);have HiK9:=hI (HiK8.out.mono hb9);have HiU9:=hI hi9;clear hb9 hi9)
     |(have _t:=Hb7;clear _t;go_at_call 35;refine(HE.out _ _ (HiC7.out)).mono ?_;rintro e w8 ⟨v8,rfl,⟨a8,c8,rfl,hi8⟩,hb8⟩;have Hb8:=hI (qaa Hb7.out hb8);have HiA8:=hI (HiA7.out.mono hb8);have HiB8:=hI (HiB7.out.mono hb8);have HiC8:=hI (HiC7.out.mono hb8);have HiD8:=hI (HiD7.out.mono hb8);have HiK8:=hI hi8;clear hb8 hi8)
     |(have _t:=Hb6;clear _t;go_at_call 35;refine(HD.out _ _ (HiB6.out)).mono ?_;rintro e w7 ⟨v7,rfl,⟨a7,c7,rfl,hi7⟩,hb7⟩;have Hb7:=hI (qaa Hb6.out hb7);have HiA7:=hI (HiA6.out.mono hb7);have HiB7:=hI (HiB6.out.mono hb7);have HiC7:=hI (HiC6.out.mono hb7);have HiD7:=hI hi7;clear hb7 hi7)
     |(have _t:=Hb5;clear _t;go_at_call 35;refine(HC.out _ _ (HiA5.out)).mono ?_;rintro e w6 ⟨v6,rfl,⟨a6,c6,rfl,hi6⟩,hb6⟩;have Hb6:=hI (qaa Hb5.out hb6);have HiA6:=hI (HiA5.out.mono hb6);have HiB6:=hI (HiB5.out.mono hb6);have HiC6:=hI hi6;clear hb6 hi6)
     |(have _t:=Hb4;clear _t;go_at_call 15;refine(HT.out _ (Hb4.out)).mono ?_;rintro e w5 ⟨v5,rfl,⟨a5,c5,rfl,hi5⟩,hb5⟩;have Hb5:=hI (qaa Hb4.out hb5);have HiA5:=hI (HiA4.out.mono hb5);have HiB5:=hI hi5;clear hb5 hi5)
     |(have _t:=Hb3;clear _t;go_at_call 15;refine(HS.out _ (Hb3.out)).mono ?_;rintro e w4 ⟨v4,rfl,⟨a4,c4,rfl,hi4⟩,hb4⟩;have Hb4:=hI (qaa Hb3.out hb4);have HiA4:=hI hi4;clear hb4 hi4)
     |(have _t:=Hb2;clear _t;go_at_call 14;refine(HG.out _ (Hb2.out)).mono ?_;rintro e w3 ⟨rfl,hb3⟩;have Hb3:=hI (qaa Hb2.out hb3);clear hb3)
     |(have _t:=Hb1;clear _t;go_at_call 14;refine(HF.out _ (Hb1.out)).mono ?_;rintro e w2 ⟨rfl,hb2⟩;have Hb2:=hI (qaa Hb1.out hb2);clear hb2)
     |(go_at_call 13;refine(HK.out _).mono ?_;rintro e w1 ⟨rfl,hb1⟩;have Hb1:=hI (hb1);clear hb1))
    go_ret
    exact⟨rfl,Hb16.out⟩
   ·go_enter Tryz.func6,Tryz.ntmps6
    go_wp2_with (first
     |(have _t:=Hb15;clear _t;go_at_call 39;refine(HP.out _ _ _ (HiA15.out) (HiB15.out)).mono ?_;rintro e w16 ⟨rfl,hb16⟩;have Hb16:=hI (qaa Hb15.out hb16);clear hb16)
     |(have _t:=Hb14;clear _t;go_at_call 39;refine(HW.out _ _ _ (HiL14.out) (HiR14.out)).mono ?_;rintro e w15 ⟨rfl,hb15⟩;have Hb15:=hI (qaa Hb14.out hb15);have HiA15:=hI (HiA14.out.mono hb15);have HiB15:=hI (HiB14.out.mono hb15);clear hb15)
     |(have _t:=Hb13;clear _t;go_at_call 39;refine(HQ.out _ _ _ (HiK13.out) (HiA13.out)).mono ?_;rintro e w14 ⟨rfl,hb14⟩;have Hb14:=hI (qaa Hb13.out hb14);have HiA14:=hI (HiA13.out.mono hb14);have HiB14:=hI (HiB13.out.mono hb14);have HiL14:=hI (HiL13.out.mono hb14);have HiR14:=hI (HiR13.out.mono hb14);clear hb14)
     |(have _t:=Hb12;clear _t;go_at_call 38;refine(HY.out _ _ _ (HiB12.out) (HiA12.out)).mono ?_;rintro e w13 ⟨rfl,hb13⟩;have Hb13:=hI (qaa Hb12.out hb13);have HiA13:=hI (HiA12.out.mono hb13);have HiB13:=hI (HiB12.out.mono hb13);have HiK13:=hI (HiK12.out.mono hb13);have HiL13:=hI (HiL12.out.mono hb13);have HiR13:=hI (HiR12.out.mono hb13);clear hb13)
     |(have _t:=Hb11;clear _t;go_at_call 38;refine(HX.out _ _ _ (HiA11.out) (HiB11.out)).mono ?_;rintro e w12 ⟨rfl,hb12⟩;have Hb12:=hI (qaa Hb11.out hb12);have HiA12:=hI (HiA11.out.mono hb12);have HiB12:=hI (HiB11.out.mono hb12);have HiK12:=hI (HiK11.out.mono hb12);have HiL12:=hI (HiL11.out.mono hb12);have HiR12:=hI (HiR11.out.mono hb12);clear hb12)
     |(have _t:=Hb10;clear _t;go_at_call 37;refine(HR.out _ _ _ (HiC10.out) (HiD10.out)).mono ?_;rintro e w11 ⟨v11,rfl,⟨a11,c11,rfl,hi11⟩,hb11⟩;have Hb11:=hI (qaa Hb10.out hb11);have HiA11:=hI (HiA10.out.mono hb11);have HiB11:=hI (HiB10.out.mono hb11);have HiK11:=hI (HiK10.out.mono hb11);have HiL11:=hI (HiL10.out.mono hb11);have HiR11:=hI hi11;clear hb11 hi11)
     |(have _t:=Hb9;clear _t;go_at_call 35;refine(HL.out _ _ (HiU9.out)).mono ?_;rintro e w10 ⟨v10,rfl,⟨a10,c10,rfl,hi10⟩,hb10⟩;have Hb10:=hI (qaa Hb9.out hb10);have HiA10:=hI (HiA9.out.mono hb10);have HiB10:=hI (HiB9.out.mono hb10);have HiC10:=hI (HiC9.out.mono hb10);have HiD10:=hI (HiD9.out.mono hb10);have HiK10:=hI (HiK9.out.mono hb10);have HiL10:=hI hi10;clear hb10 hi10)
     |(have _t:=Hb8;clear _t;go_at_call 36;refine(HU.out _ _ _ (HiA8.out) (HiB8.out)).mono ?_;rintro e w9 ⟨v9,rfl,⟨a9,c9,rfl,hi9⟩,hb9⟩;have Hb9:=hI (qaa Hb8.out hb9);have HiA9:=hI (HiA8.out.mono hb9);have HiB9:=hI (HiB8.out.mono hb9);have HiC9:=hI (HiC8.out.mono hb9);have HiD9:=hI (HiD8.out.mono hb9);have HiK9:=hI (HiK8.out.mono hb9);have HiU9:=hI hi9;clear hb9 hi9)
     |(have _t:=Hb7;clear _t;go_at_call 35;refine(HE.out _ _ (HiC7.out)).mono ?_;rintro e w8 ⟨v8,rfl,⟨a8,c8,rfl,hi8⟩,hb8⟩;have Hb8:=hI (qaa Hb7.out hb8);have HiA8:=hI (HiA7.out.mono hb8);have HiB8:=hI (HiB7.out.mono hb8);have HiC8:=hI (HiC7.out.mono hb8);have HiD8:=hI (HiD7.out.mono hb8);have HiK8:=hI hi8;clear hb8 hi8)
     |(have _t:=Hb6;clear _t;go_at_call 35;refine(HD.out _ _ (HiB6.out)).mono ?_;rintro e w7 ⟨v7,rfl,⟨a7,c7,rfl,hi7⟩,hb7⟩;have Hb7:=hI (qaa Hb6.out hb7);have HiA7:=hI (HiA6.out.mono hb7);have HiB7:=hI (HiB6.out.mono hb7);have HiC7:=hI (HiC6.out.mono hb7);have HiD7:=hI hi7;clear hb7 hi7)
     |(have _t:=Hb5;clear _t;go_at_call 35;refine(HC.out _ _ (HiA5.out)).mono ?_;rintro e w6 ⟨v6,rfl,⟨a6,c6,rfl,hi6⟩,hb6⟩;have Hb6:=hI (qaa Hb5.out hb6);have HiA6:=hI (HiA5.out.mono hb6);have HiB6:=hI (HiB5.out.mono hb6);have HiC6:=hI hi6;clear hb6 hi6)
     |(have _t:=Hb4;clear _t;go_at_call 15;refine(HT.out _ (Hb4.out)).mono ?_;rintro e w5 ⟨v5,rfl,⟨a5,c5,rfl,hi5⟩,hb5⟩;have Hb5:=hI (qaa Hb4.out hb5);have HiA5:=hI (HiA4.out.mono hb5);have HiB5:=hI hi5;clear hb5 hi5)
     |(have _t:=Hb3;clear _t;go_at_call 15;refine(HS.out _ (Hb3.out)).mono ?_;rintro e w4 ⟨v4,rfl,⟨a4,c4,rfl,hi4⟩,hb4⟩;have Hb4:=hI (qaa Hb3.out hb4);have HiA4:=hI hi4;clear hb4 hi4)
     |(have _t:=Hb2;clear _t;go_at_call 14;refine(HG.out _ (Hb2.out)).mono ?_;rintro e w3 ⟨rfl,hb3⟩;have Hb3:=hI (qaa Hb2.out hb3);clear hb3)
     |(have _t:=Hb1;clear _t;go_at_call 14;refine(HF.out _ (Hb1.out)).mono ?_;rintro e w2 ⟨rfl,hb2⟩;have Hb2:=hI (qaa Hb1.out hb2);clear hb2)
     |(go_at_call 13;refine(HK.out _).mono ?_;rintro e w1 ⟨rfl,hb1⟩;have Hb1:=hI (hb1);clear hb1))
    go_ret
    exact⟨rfl,Hb16.out⟩
end Go.Proofs.YtacihodamichhaaGreatDoor
namespace Go.Proofs.YtacihodamichhaaGreatDoor
open Go.ChangeShapes Go.WideShapes Go.ChangeAt Go.RowKit
theorem own:ownKnob Tryz.prog.godebug=none:=by kernel_rfl
set_option maxRecDepth 100000 in
theorem lifted(os:Os)(started:os.Started)(H:Type)(enc:TypeId × Value→H):
  ReturnsInHanded {} Tryz.checked os 6 .any (fun w args=>(Rows.intervalLawsSpec.pre enc Tryz.prog Tryz.f6 [] false w args∧laidMetH Tryz.prog Rows.intervalLawsRow.laid w)∧sizedMet enc Tryz.prog Tryz.f6 (OpenSpec.ofChange Rows.intervalLawsSpec) false w args)
   (Rows.intervalLawsSpec.post enc Tryz.prog Tryz.f6 false true false false):=by
 refine returnsInHanded_of_change_and (C:=Tryz.checked) (X:=fun w _=>laidMetH Tryz.prog Rows.intervalLawsRow.laid w) (fun _ _ _ hh h=>h.of_heap hh) own started (by kernel_rfl) Tryz.func6
  (ChangeSpec.witness_shaped (enc:=enc) (C:=Tryz.checked) (os:=os) (X:=fun w _=>laidMetH Tryz.prog Rows.intervalLawsRow.laid w) false (World.laidAll Tryz.prog os Rows.intervalLawsRow.laid) #[.slice none 0 0,.slice none 0 0] 8 (World.laidAll_os _ _ _)
   (World.shaped_of_ZipB (by kernel_rfl) (by kernel_rfl)) (by kernel_rfl) (by kernel_rfl) (by kernel_rfl)
   (by rw[MakeChecks.laidMetH_plain _ _ _ (by kernel_rfl)];exact laidMet_laidAll _ (by kernel_rfl) (by kernel_rfl))) ?_
 intro W base args ds gs before hval0 hW _ _ hL _;have hval:∀(j:Nat) t v,Tryz.f6.params[j]?=some t→args[j]?=some v→Value.okWide Tryz.prog W .any base t v:=hval0;have hW':=hW;obtain⟨p,q,hA0,hV,rfl,_,_⟩:=hW;have hA:DataW.TrodAll enc Tryz.prog W 0 (fun _=>true) true Tryz.f6.params.toList args.toList ds p:=hA0;rw[Tryz.params6]at hA hval;obtain⟨v0,v1,d0,d1,p0,p1,rfl,rfl,rfl,h0,h1⟩:=trodAll_two hA;obtain⟨rfl,rfl⟩:=trodVars_none hV;obtain⟨x0,hx0⟩:=qgg (hval 0 22 v0 rfl rfl) h0;obtain⟨x1,hx1⟩:=qgg (hval 1 22 v1 rfl rfl) h1;simp only[List.append_nil]at hW';refine(qqk v0 x0 v1 x1 W hx0 hx1).mono fun e W' ⟨he,hb⟩=>?_
 subst he;refine⟨_,rfl,qhw (pa:=p0++p1) (pv:=[]) hW' (fun _ _ _=>trodAll_mk1 (shut_bool Tryz.underlying4 true)) (fun sp hsp=>?_) (fun _ _=>rfl) (by simp) hb (ok_one (by kernel_rfl) rfl (okWide_bool_mk Tryz.underlying4 true))⟩
 have hlt:∀x∈p0++p1,x.block<W.heap.size:=fun x hx=>hW'.lt x hx
 exact trodAll_mk2 (WideElems.Trod_stays qfz (by kernel_rfl) (of_decide_eq_true (by kernel_rfl)) h0 (fun x hx=>hb.same (hlt x (by simp[hx]))) (fun x hx=>hsp x (by simp[hx])))
  (WideElems.Trod_stays qfz (by kernel_rfl) (of_decide_eq_true (by kernel_rfl)) h1 (fun x hx=>hb.same (hlt x (by simp[hx]))) (fun x hx=>hsp x (by simp[hx])))
theorem qus:(Rows.intervalLawsRow.inPlace==Tryz.prog.inPlace 6)=true:=by kernel_rfl
theorem qur:(Rows.intervalLawsRow.unfollowed==Tryz.prog.unfollowed 6)=true:=by kernel_rfl
theorem quq:(Rows.intervalLawsRow.recurses==Tryz.prog.recurses 6)=true:=by kernel_rfl
theorem qup:(Rows.intervalLawsRow.named==Tryz.prog.varsNamed 6)=true:=by kernel_rfl
theorem facts:joinedFacts Tryz.prog 6 Tryz.f6 Rows.intervalLawsSpec Rows.intervalLawsRow=true:=by
 unfold joinedFacts;rw[qus,qur,quq,qup]
 kernel_rfl
theorem holds:Rows.IntervalLawsSaid:=
 OpenClaim.holds_of_wide 6 Tryz.f6 rfl rfl rfl rfl rfl rfl rfl ⟨rfl,rfl,rfl,rfl,rfl⟩ rfl rfl rfl rfl rfl (by kernel_rfl) Tryz.func6 facts
  (of_decide_eq_true (by kernel_rfl)) (by unfold Func.isWrapper;first|(rw[if_pos (by decide+kernel)];kernel_rfl)|(rw[if_neg (by decide+kernel)];exact⟨rfl,rfl⟩))
  (fun os started H enc _=>lifted os started H enc)
theorem card_holds:Rows.IntervalLawsCardSaid:=
 Claim7.holds_tied_plain_at .later [] [.data,.data,.data,.data,.sentinel,.sentinel,.pinned] true (true,"de555170af92a675662fc8c55259e069d37d98ebe2ca20e51011936a24d26fa3") true holds (fun _ h=>by cases h) (by kernel_rfl) (fun _ h=>by cases h) intervalLaws_row_tie rfl ⟨rfl,rfl⟩ (by kernel_rfl) rfl
  (fun f fn hf hfn=>by
   obtain rfl:f=6:=Option.some.inj ((show Tryz.prog.funcNamed Tryz.f6.name=some 6 by kernel_rfl).symm.trans hf) |>.symm
   obtain rfl:fn=Tryz.f6:=(Option.some.inj (Tryz.func6.symm.trans hfn)).symm
   exact⟨by kernel_rfl,fun j t ht=>by
    rw[Tryz.params6]at ht;have hm:t∈[22,22]:=by simpa using Array.mem_of_getElem? ht
    have hall:([22,22].all fun u=>!Tryz.prog.wantsStandIn u)=true:=by kernel_rfl
    exact(show Tryz.prog.wantsStandIn t=false by simpa using List.all_eq_true.1 hall t hm)⟩)
  (by kernel_rfl)
end Go.Proofs.YtacihodamichhaaGreatDoor
