/- The card of IntervalMaps holds: for every input the law returns true and the input reads as it did; its conditions are those that the card itself names (the tables of the library as they are laid). -/
import Derived.Test.YtacihodamichhaaGreatDoorCards
import Derived.Test.YtacihodamichhaaGreatDoorTie
import Derived.OpenShut
import Derived.LaidMore
import Derived.Lay
import Derived.SevenTiedAt
import Derived.Test.YtacihodamichhaaGreatDoorM47
import Derived.Test.YtacihodamichhaaGreatDoorM48
set_option maxHeartbeats 16000000
namespace Go.Proofs.YtacihodamichhaaGreatDoor
open Go.RowKit
set_option maxRecDepth 10000 in
theorem qsb(v:Value)(xs:List Iv)(fa sh:ByteArray)(w:World)(h:Ivs w v xs)(hT:Tab w):Calls Tryz.prog 5 #[v,.string fa,.string sh] w (Ret (.bool true) w):=by
 have HK:=hI (fun w' (hT':Tab w')=>qnu w' hT');have HF:=hI (fun w' (hb:Below w.heap.size w w')=>qvd v xs w' (h.mono hb));have HSh:=hI (fun w'=>qnt fa sh w');have HT:=hI hT;clear hT;obtain⟨a,c,rfl,hc1,hc2⟩:=h.open;cases hf:fewB xs with
 |false=>
  rw[hf]at HF;clear h hf;generalize xs.length=m at*
  go_enter Tryz.func5,Tryz.ntmps5
  go_wp2_with (first
   |(have _t:=Hb2;clear _t;go_at_call 13;refine(HK.out _ (HT.out.mono (Hb2.out))).mono ?_;rintro e w3 ⟨rfl,hb3⟩;have Hb3:=hI (qaa Hb2.out hb3);clear hb3)
   |(have _t:=Hb1;clear _t;go_at_call 14;refine(HF.out _ (Hb1.out)).mono ?_;rintro e w2 ⟨rfl,hb2⟩;have Hb2:=hI (qaa Hb1.out hb2);clear hb2)
   |(go_at_call 13;refine(HK.out _ (HT.out.mono (Below.refl _ _))).mono ?_;rintro e w1 ⟨rfl,hb1⟩;have Hb1:=hI (hb1);clear hb1))
  go_ret
  exact⟨rfl,Hb3.out⟩
 |true=>
  have hs:=qp6 hf;have hz:=qrh (qwd hf);rw[hf]at HF;cases hsh:qjv fa sh with
  |false=>
   rw[hsh]at HSh;clear h hf hs hz hsh;generalize xs.length=m at*
   go_enter Tryz.func5,Tryz.ntmps5
   go_wp2_with (first
    |(have _t:=Hb3;clear _t;go_at_call 13;refine(HK.out _ (HT.out.mono (Hb3.out))).mono ?_;rintro e w4 ⟨rfl,hb4⟩;have Hb4:=hI (qaa Hb3.out hb4);clear hb4)
    |(have _t:=Hb2;clear _t;go_at_call 30;refine(HSh.out _).mono ?_;rintro e w3 ⟨rfl,hb3⟩;have Hb3:=hI (qaa Hb2.out hb3);clear hb3)
    |(have _t:=Hb1;clear _t;go_at_call 14;refine(HF.out _ (Hb1.out)).mono ?_;rintro e w2 ⟨rfl,hb2⟩;have Hb2:=hI (qaa Hb1.out hb2);clear hb2)
    |(go_at_call 13;refine(HK.out _ (HT.out.mono (Below.refl _ _))).mono ?_;rintro e w1 ⟨rfl,hb1⟩;have Hb1:=hI (hb1);clear hb1))
   go_ret
   exact⟨rfl,Hb4.out⟩
  |true=>
   rw[hsh]at HSh;have h0:fa.size≤60:=by unfold qjv at hsh;rw[Bool.and_eq_true,decide_eq_true_eq,decide_eq_true_eq]at hsh;exact hsh.1
   have h1:sh.size≤60:=by unfold qjv at hsh;rw[Bool.and_eq_true,decide_eq_true_eq,decide_eq_true_eq]at hsh;exact hsh.2
   have HS:=hI (fun w' (hb:Below w.heap.size w w')=>qud _ xs w' (h.mono hb) hs);have HC0:=hI (fun w'=>qqu fa w' h0);have HC1:=hI (fun w'=>qqu sh w' h1);obtain⟨J,hJ,hJ8⟩:=quc hs;have hl8:(setL xs).length≤8:=by rw[hJ.length];exact hJ8
   have hl256:(setL xs).length≤256:=by omega
   have hlb:1+(setL xs).length*(2*60+2)≤9000:=by omega
   have HL:=hI (fun v' w' (h':Ivs w' v' (setL xs)) (hT':Tab w')=>qwc v' (setL xs) 60 w' h' hJ.short hJ.err hJ.iv hl256 hz (by decide) hlb hT');have HRL:=hI (fun v' w' (h':Ivs w' v' (setL xs))=>qro v' (setL xs) 60 w' h' hJ.iv hz (by decide) hlb);obtain⟨lx,le,hlx⟩:∃lx le,lenV (setL xs)=.tuple #[.string lx,.int .i64 le]:=by unfold lenV;split<;>exact⟨_,_,rfl⟩
   rw[hlx]at HL HRL;have hE1:(lx.toList !=lx.toList)=false:=by simp
   have hE2:(le !=le)=false:=by simp
   clear hlx hlb hsh
   by_cases e0:errL fa.data.toList=0
   ·rw[e0]at HC0
    by_cases e1:errL sh.data.toList=0
    ·rw[e1]at HC1
     by_cases hP:ratS fa=0
     ·have HM:=hI (fun v' w' (h':Ivs w' v' (setL xs))=>qpv v' (setL xs) fa sh w' h' hJ.short hJ.err (Nat.le_trans h0 (by decide)) (Nat.le_trans h1 (by decide)) e0 e1 hP)
      obtain rfl:=(ql5 e0).1 hP;clear h hs hf hJ hJ8 hl8 hl256 hz h0 h1 e0 e1 hP;generalize xs.length=m at*;generalize setL xs=A at*
      go_enter Tryz.func5,Tryz.ntmps5
      go_wp2_with (first
       |(have _t:=Hb8;clear _t;go_at_call 21;refine(HC1.out _).mono ?_;rintro e w9 ⟨rfl,hb9⟩;have Hb9:=hI (qaa Hb8.out hb9);clear hb9)
       |(have _t:=Hb7;clear _t;go_at_call 21;refine(HC0.out _).mono ?_;rintro e w8 ⟨rfl,hb8⟩;have Hb8:=hI (qaa Hb7.out hb8);clear hb8)
       |(have _t:=Hb6;clear _t;go_at_call 33;refine(HM.out _ _ (HiS6.out)).mono ?_;rintro e w7 ⟨rfl,hb7⟩;have Hb7:=hI (qaa Hb6.out hb7);clear hb7)
       |(have _t:=Hb5;clear _t;go_at_call 32;refine(HRL.out _ _ (HiS5.out)).mono ?_;rintro e w6 ⟨rfl,hb6⟩;have Hb6:=hI (qaa Hb5.out hb6);have HiS6:=hI (HiS5.out.mono hb6);clear hb6)
       |(have _t:=Hb4;clear _t;go_at_call 31;refine(HL.out _ _ (HiS4.out) (HT.out.mono (Hb4.out))).mono ?_;rintro e w5 ⟨rfl,hb5⟩;have Hb5:=hI (qaa Hb4.out hb5);have HiS5:=hI (HiS4.out.mono hb5);clear hb5)
       |(have _t:=Hb3;clear _t;go_at_call 15;refine(HS.out _ (Hb3.out)).mono ?_;rintro e w4 ⟨v4,rfl,⟨a4,c4,rfl,hi4⟩,hb4⟩;have Hb4:=hI (qaa Hb3.out hb4);have HiS4:=hI hi4;clear hb4 hi4)
       |(have _t:=Hb2;clear _t;go_at_call 30;refine(HSh.out _).mono ?_;rintro e w3 ⟨rfl,hb3⟩;have Hb3:=hI (qaa Hb2.out hb3);clear hb3)
       |(have _t:=Hb1;clear _t;go_at_call 14;refine(HF.out _ (Hb1.out)).mono ?_;rintro e w2 ⟨rfl,hb2⟩;have Hb2:=hI (qaa Hb1.out hb2);clear hb2)
       |(go_at_call 13;refine(HK.out _ (HT.out.mono (Below.refl _ _))).mono ?_;rintro e w1 ⟨rfl,hb1⟩;have Hb1:=hI (hb1);clear hb1))
      go_ret
      exact⟨rfl,Hb9.out⟩
     ·have hN:=hJ.length
      obtain⟨-,hMp,hMo⟩:=qe5 hJ (q:=ratS sh) hP (qb3 h0 (show 0<60 by decide)) (qb3 h1 (show 0<60 by decide)) (show 0<60 by decide) (by decide) hz;have hM8:(mapL (ratS fa) (ratS sh) (setL xs)).length≤1000:=by rw[qmh];omega
      have HM:=hI (fun v' w' (h':Ivs w' v' (setL xs)) (hT':Tab w')=>qwb v' (setL xs) fa sh w' h' hJ.short hJ.err hl256 60 (by decide) (by decide) hz h0 h1 e0 e1 hP hT');have HRM:=hI (fun v' w' (h':Ivs w' v' (setL xs))=>qrn v' (setL xs) fa sh 60 w' h' hJ.iv (by omega) hz (by decide) (by decide) h0 h1 e0 e1 hMo);rw[hMp]at HRM;have HQ:=hI (fun u' v' w' hx hy=>qjx u' v' (mapL (ratS fa) (ratS sh) (setL xs)) w' hx hy hM8)
      have hF1:(fa.toList==[48])=false:=by
       rw[beq_eq_false_iff_ne];intro hh;exact hP ((ql5 e0).2 (qcq (by rw[hh];exact(ByteArray.toList_eq ⟨#[48]⟩).symm)))
      have hlen:=qmh (ratS fa) (ratS sh) (setL xs);rw[hlen]at HRM;clear h hs hf hJ hJ8 hl8 hl256 hz h0 h1 e0 e1 hP hN hMp hMo hM8 hlen;generalize mapL (ratS fa) (ratS sh) (setL xs)=X at*;generalize xs.length=m at*;generalize setL xs=A at*
      go_enter Tryz.func5,Tryz.ntmps5
      go_wp2_with (first
       |(have _t:=Hb10;clear _t;go_at_call 26;refine(HQ.out _ _ _ (HiX10.out) (HiY10.out)).mono ?_;rintro e w11 ⟨rfl,hb11⟩;have Hb11:=hI (qaa Hb10.out hb11);clear hb11)
       |(have _t:=Hb9;clear _t;go_at_call 34;refine(HRM.out _ _ (HiS9.out)).mono ?_;rintro e w10 ⟨v10,rfl,⟨a10,c10,rfl,hi10⟩,hb10⟩;have Hb10:=hI (qaa Hb9.out hb10);have HiX10:=hI (HiX9.out.mono hb10);have HiY10:=hI hi10;clear hb10 hi10)
       |(have _t:=Hb8;clear _t;go_at_call 21;refine(HC1.out _).mono ?_;rintro e w9 ⟨rfl,hb9⟩;have Hb9:=hI (qaa Hb8.out hb9);have HiS9:=hI (HiS8.out.mono hb9);have HiX9:=hI (HiX8.out.mono hb9);clear hb9)
       |(have _t:=Hb7;clear _t;go_at_call 21;refine(HC0.out _).mono ?_;rintro e w8 ⟨rfl,hb8⟩;have Hb8:=hI (qaa Hb7.out hb8);have HiS8:=hI (HiS7.out.mono hb8);have HiX8:=hI (HiX7.out.mono hb8);clear hb8)
       |(have _t:=Hb6;clear _t;go_at_call 33;refine(HM.out _ _ (HiS6.out) (HT.out.mono (Hb6.out))).mono ?_;rintro e w7 ⟨v7,rfl,⟨a7,c7,rfl,hi7⟩,hb7⟩;have Hb7:=hI (qaa Hb6.out hb7);have HiS7:=hI (HiS6.out.mono hb7);have HiX7:=hI hi7;clear hb7 hi7)
       |(have _t:=Hb5;clear _t;go_at_call 32;refine(HRL.out _ _ (HiS5.out)).mono ?_;rintro e w6 ⟨rfl,hb6⟩;have Hb6:=hI (qaa Hb5.out hb6);have HiS6:=hI (HiS5.out.mono hb6);clear hb6)
       |(have _t:=Hb4;clear _t;go_at_call 31;refine(HL.out _ _ (HiS4.out) (HT.out.mono (Hb4.out))).mono ?_;rintro e w5 ⟨rfl,hb5⟩;have Hb5:=hI (qaa Hb4.out hb5);have HiS5:=hI (HiS4.out.mono hb5);clear hb5)
       |(have _t:=Hb3;clear _t;go_at_call 15;refine(HS.out _ (Hb3.out)).mono ?_;rintro e w4 ⟨v4,rfl,⟨a4,c4,rfl,hi4⟩,hb4⟩;have Hb4:=hI (qaa Hb3.out hb4);have HiS4:=hI hi4;clear hb4 hi4)
       |(have _t:=Hb2;clear _t;go_at_call 30;refine(HSh.out _).mono ?_;rintro e w3 ⟨rfl,hb3⟩;have Hb3:=hI (qaa Hb2.out hb3);clear hb3)
       |(have _t:=Hb1;clear _t;go_at_call 14;refine(HF.out _ (Hb1.out)).mono ?_;rintro e w2 ⟨rfl,hb2⟩;have Hb2:=hI (qaa Hb1.out hb2);clear hb2)
       |(go_at_call 13;refine(HK.out _ (HT.out.mono (Below.refl _ _))).mono ?_;rintro e w1 ⟨rfl,hb1⟩;have Hb1:=hI (hb1);clear hb1))
      go_ret
      exact⟨rfl,Hb11.out⟩
    ·have HM:=hI (fun v' w' (h':Ivs w' v' (setL xs))=>qmp v' (setL xs) fa sh (errL sh.data.toList) w' h' hJ.short hJ.err e1 (fun b T W hB=>qng b fa sh W T hB (Nat.le_trans h0 (by decide)) (Nat.le_trans h1 (by decide)) e0 e1))
     have hc0:(errL sh.data.toList !=0)=true:=by rw[bne_iff_ne];exact e1
     have hc1:(errL sh.data.toList==0)=false:=beq_eq_false_iff_ne.2 e1;have hc2:(errL sh.data.toList==errL sh.data.toList)=true:=by simp
     generalize errL sh.data.toList=code at*;clear h hs hf hJ hJ8 hl8 hl256 hz h0 h1 e0 e1;generalize xs.length=m at*;generalize setL xs=A at*
     go_enter Tryz.func5,Tryz.ntmps5
     go_wp2_with (first
      |(have _t:=Hb8;clear _t;go_at_call 21;refine(HC1.out _).mono ?_;rintro e w9 ⟨rfl,hb9⟩;have Hb9:=hI (qaa Hb8.out hb9);clear hb9)
      |(have _t:=Hb7;clear _t;go_at_call 21;refine(HC0.out _).mono ?_;rintro e w8 ⟨rfl,hb8⟩;have Hb8:=hI (qaa Hb7.out hb8);clear hb8)
      |(have _t:=Hb6;clear _t;go_at_call 33;refine(HM.out _ _ (HiS6.out)).mono ?_;rintro e w7 ⟨rfl,hb7⟩;have Hb7:=hI (qaa Hb6.out hb7);clear hb7)
      |(have _t:=Hb5;clear _t;go_at_call 32;refine(HRL.out _ _ (HiS5.out)).mono ?_;rintro e w6 ⟨rfl,hb6⟩;have Hb6:=hI (qaa Hb5.out hb6);have HiS6:=hI (HiS5.out.mono hb6);clear hb6)
      |(have _t:=Hb4;clear _t;go_at_call 31;refine(HL.out _ _ (HiS4.out) (HT.out.mono (Hb4.out))).mono ?_;rintro e w5 ⟨rfl,hb5⟩;have Hb5:=hI (qaa Hb4.out hb5);have HiS5:=hI (HiS4.out.mono hb5);clear hb5)
      |(have _t:=Hb3;clear _t;go_at_call 15;refine(HS.out _ (Hb3.out)).mono ?_;rintro e w4 ⟨v4,rfl,⟨a4,c4,rfl,hi4⟩,hb4⟩;have Hb4:=hI (qaa Hb3.out hb4);have HiS4:=hI hi4;clear hb4 hi4)
      |(have _t:=Hb2;clear _t;go_at_call 30;refine(HSh.out _).mono ?_;rintro e w3 ⟨rfl,hb3⟩;have Hb3:=hI (qaa Hb2.out hb3);clear hb3)
      |(have _t:=Hb1;clear _t;go_at_call 14;refine(HF.out _ (Hb1.out)).mono ?_;rintro e w2 ⟨rfl,hb2⟩;have Hb2:=hI (qaa Hb1.out hb2);clear hb2)
      |(go_at_call 13;refine(HK.out _ (HT.out.mono (Below.refl _ _))).mono ?_;rintro e w1 ⟨rfl,hb1⟩;have Hb1:=hI (hb1);clear hb1))
     go_ret
     exact⟨rfl,Hb9.out⟩
   ·have HM:=hI (fun v' w' (h':Ivs w' v' (setL xs))=>qmp v' (setL xs) fa sh (errL fa.data.toList) w' h' hJ.short hJ.err e0 (fun b T W hB=>qnh b fa sh W T hB (Nat.le_trans h0 (by decide)) (Nat.le_trans h1 (by decide)) e0))
    have hc0:(errL fa.data.toList !=0)=true:=by rw[bne_iff_ne];exact e0
    have hc1:(errL fa.data.toList==0)=false:=beq_eq_false_iff_ne.2 e0;have hc2:(errL fa.data.toList==errL fa.data.toList)=true:=by simp
    generalize errL fa.data.toList=code at*;clear h hs hf hJ hJ8 hl8 hl256 hz h0 h1 e0;generalize xs.length=m at*;generalize setL xs=A at*
    go_enter Tryz.func5,Tryz.ntmps5
    go_wp2_with (first
     |(have _t:=Hb7;clear _t;go_at_call 21;refine(HC0.out _).mono ?_;rintro e w8 ⟨rfl,hb8⟩;have Hb8:=hI (qaa Hb7.out hb8);clear hb8)
     |(have _t:=Hb6;clear _t;go_at_call 33;refine(HM.out _ _ (HiS6.out)).mono ?_;rintro e w7 ⟨rfl,hb7⟩;have Hb7:=hI (qaa Hb6.out hb7);clear hb7)
     |(have _t:=Hb5;clear _t;go_at_call 32;refine(HRL.out _ _ (HiS5.out)).mono ?_;rintro e w6 ⟨rfl,hb6⟩;have Hb6:=hI (qaa Hb5.out hb6);have HiS6:=hI (HiS5.out.mono hb6);clear hb6)
     |(have _t:=Hb4;clear _t;go_at_call 31;refine(HL.out _ _ (HiS4.out) (HT.out.mono (Hb4.out))).mono ?_;rintro e w5 ⟨rfl,hb5⟩;have Hb5:=hI (qaa Hb4.out hb5);have HiS5:=hI (HiS4.out.mono hb5);clear hb5)
     |(have _t:=Hb3;clear _t;go_at_call 15;refine(HS.out _ (Hb3.out)).mono ?_;rintro e w4 ⟨v4,rfl,⟨a4,c4,rfl,hi4⟩,hb4⟩;have Hb4:=hI (qaa Hb3.out hb4);have HiS4:=hI hi4;clear hb4 hi4)
     |(have _t:=Hb2;clear _t;go_at_call 30;refine(HSh.out _).mono ?_;rintro e w3 ⟨rfl,hb3⟩;have Hb3:=hI (qaa Hb2.out hb3);clear hb3)
     |(have _t:=Hb1;clear _t;go_at_call 14;refine(HF.out _ (Hb1.out)).mono ?_;rintro e w2 ⟨rfl,hb2⟩;have Hb2:=hI (qaa Hb1.out hb2);clear hb2)
     |(go_at_call 13;refine(HK.out _ (HT.out.mono (Below.refl _ _))).mono ?_;rintro e w1 ⟨rfl,hb1⟩;have Hb1:=hI (hb1);clear hb1))
    go_ret
    exact⟨rfl,Hb8.out⟩
end Go.Proofs.YtacihodamichhaaGreatDoor
namespace Go.Proofs.YtacihodamichhaaGreatDoor
open Go.ChangeShapes Go.WideShapes Go.ChangeAt Go.RowKit
theorem own:ownKnob Tryz.prog.godebug=none:=by kernel_rfl
theorem qvq{W:World}(h:laidMetH Tryz.prog Rows.intervalMapsRow.laid W):Tab W:=by
 rw[MakeChecks.laidMetH_plain _ _ _ (by kernel_rfl)]at h;obtain⟨ps,⟨_,_,_,_,_,_,_,_,_,_,⟨_,_,_,_,_,_,_,_,_,_,⟨g,t,cs,fuel,p,q,hg,ht,hvar,hd,_,_⟩,_⟩,_⟩,_⟩:=h;have hg2:Tryz.prog.globalNamed "internal/strconv.uint64pow10"=some ((Tryz.prog.globalNamed "internal/strconv.uint64pow10").getD 0):=by kernel_rfl
 obtain rfl:=Option.some.inj (hg2.symm.trans hg);have ht2:(Tryz.prog.globals[(Tryz.prog.globalNamed "internal/strconv.uint64pow10").getD 0]?).map (·.type)=some (((Tryz.prog.globals[(Tryz.prog.globalNamed "internal/strconv.uint64pow10").getD 0]?).map (·.type)).getD 0):=by kernel_rfl
 obtain rfl:=Option.some.inj (ht2.symm.trans ht);unfold Tab Lib.TabIs;rw[hvar,←Lib.cells_of_tab (k:=.u64) (zs:=Lib.pow10Tab) (n:=20) (e:=158) (by kernel_rfl) (by kernel_rfl) (by kernel_rfl) (by kernel_rfl) hd]
set_option maxRecDepth 100000 in
theorem lifted(os:Os)(started:os.Started)(H:Type)(enc:TypeId × Value→H):
  ReturnsInHanded {} Tryz.checked os 5 .any (fun w args=>(Rows.intervalMapsSpec.pre enc Tryz.prog Tryz.f5 [] false w args∧laidMetH Tryz.prog Rows.intervalMapsRow.laid w)∧sizedMet enc Tryz.prog Tryz.f5 (OpenSpec.ofChange Rows.intervalMapsSpec) false w args)
   (Rows.intervalMapsSpec.post enc Tryz.prog Tryz.f5 false true false false):=by
 refine returnsInHanded_of_change_and (C:=Tryz.checked) (X:=fun w _=>laidMetH Tryz.prog Rows.intervalMapsRow.laid w) (fun _ _ _ hh h=>h.of_heap hh) own started (by kernel_rfl) Tryz.func5
  (ChangeSpec.witness_shaped (enc:=enc) (C:=Tryz.checked) (os:=os) (X:=fun w _=>laidMetH Tryz.prog Rows.intervalMapsRow.laid w) false (World.laidAll Tryz.prog os Rows.intervalMapsRow.laid) #[.slice none 0 0,.string ⟨#[]⟩,.string ⟨#[]⟩] 8 (World.laidAll_os _ _ _)
   (World.shaped_of_ZipB (by kernel_rfl) (by kernel_rfl)) (by kernel_rfl) (by kernel_rfl) (by kernel_rfl)
   (by rw[MakeChecks.laidMetH_plain _ _ _ (by kernel_rfl)];exact laidMet_laidAll _ (by kernel_rfl) (by kernel_rfl))) ?_
 intro W base args ds gs before hval0 hW _ _ hL _;have hval:∀(j:Nat) t v,Tryz.f5.params[j]?=some t→args[j]?=some v→Value.okWide Tryz.prog W .any base t v:=hval0;have hW':=hW;obtain⟨p,q,hA0,hV,rfl,_,_⟩:=hW;have hA:DataW.TrodAll enc Tryz.prog W 0 (fun _=>true) true Tryz.f5.params.toList args.toList ds p:=hA0;rw[Tryz.params5]at hA hval;obtain⟨v0,v1,v2,d0,d1,d2,p0,p1,p2,rfl,rfl,rfl,h0,h1,h2⟩:=trodAll_three hA;obtain⟨rfl,rfl⟩:=trodVars_none hV;obtain⟨x0,hx0⟩:=qlb (hval 0 22 v0 rfl rfl) h0;obtain⟨n1,rfl⟩:=okWide_string Tryz.underlying23 (hval 1 23 v1 rfl rfl);obtain⟨n2,rfl⟩:=okWide_string Tryz.underlying23 (hval 2 23 v2 rfl rfl);simp only[List.append_nil]at hW';refine(qsb v0 x0 n1 n2 W hx0 (qvq hL)).mono fun e W' ⟨he,hb⟩=>?_
 subst he;refine⟨_,rfl,qir (pa:=p0++(p1++p2)) (pv:=[]) hW' (fun _ _ _=>trodAll_mk1 (shut_bool Tryz.underlying4 true)) (fun sp hsp=>?_) (fun _ _=>rfl) (by simp) hb (ok_one (by kernel_rfl) rfl (okWide_bool_mk Tryz.underlying4 true))⟩
 have hlt:∀x∈p0++p1++p2,x.block<W.heap.size:=fun x hx=>hW'.lt x hx
 exact trodAll_mk3 (WideElems.Trod_stays qe2 (by kernel_rfl) (of_decide_eq_true (by kernel_rfl)) h0 (fun x hx=>hb.same (hlt x (by simp[hx]))) (fun x hx=>hsp x (by simp[hx])))
  (WideElems.Trod_stays qe2 (by kernel_rfl) (of_decide_eq_true (by kernel_rfl)) h1 (fun x hx=>hb.same (hlt x (by simp[hx]))) (fun x hx=>hsp x (by simp[hx])))
  (WideElems.Trod_stays qe2 (by kernel_rfl) (of_decide_eq_true (by kernel_rfl)) h2 (fun x hx=>hb.same (hlt x (by simp[hx]))) (fun x hx=>hsp x (by simp[hx])))
theorem qw0:(Rows.intervalMapsRow.inPlace==Tryz.prog.inPlace 5)=true:=by kernel_rfl
theorem qwz:(Rows.intervalMapsRow.unfollowed==Tryz.prog.unfollowed 5)=true:=by kernel_rfl
theorem qwy:(Rows.intervalMapsRow.recurses==Tryz.prog.recurses 5)=true:=by kernel_rfl
theorem qwx:(Rows.intervalMapsRow.named==Tryz.prog.varsNamed 5)=true:=by kernel_rfl
theorem facts:joinedFacts Tryz.prog 5 Tryz.f5 Rows.intervalMapsSpec Rows.intervalMapsRow=true:=by
 unfold joinedFacts;rw[qw0,qwz,qwy,qwx]
 kernel_rfl
theorem holds:Rows.IntervalMapsSaid:=
 OpenClaim.holds_of_wide 5 Tryz.f5 rfl rfl rfl rfl rfl rfl rfl ⟨rfl,rfl,rfl,rfl,rfl⟩ rfl rfl rfl rfl rfl (by kernel_rfl) Tryz.func5 facts
  (of_decide_eq_true (by kernel_rfl)) (by unfold Func.isWrapper;first|(rw[if_pos (by decide+kernel)];kernel_rfl)|(rw[if_neg (by decide+kernel)];exact⟨rfl,rfl⟩))
  (fun os started H enc _=>lifted os started H enc)
theorem card_holds:Rows.IntervalMapsCardSaid:=
 Claim7.holds_tied_plain_at .later [] [.data,.data,.data,.data,.sentinel,.sentinel,.pinned] true (true,"de555170af92a675662fc8c55259e069d37d98ebe2ca20e51011936a24d26fa3") true holds (fun _ h=>by cases h) (by kernel_rfl) (fun _ h=>by cases h) intervalMaps_row_tie rfl ⟨rfl,rfl⟩ (by kernel_rfl) rfl
  (fun f fn hf hfn=>by
   obtain rfl:f=5:=Option.some.inj ((show Tryz.prog.funcNamed Tryz.f5.name=some 5 by kernel_rfl).symm.trans hf) |>.symm
   obtain rfl:fn=Tryz.f5:=(Option.some.inj (Tryz.func5.symm.trans hfn)).symm
   exact⟨by kernel_rfl,fun j t ht=>by
    rw[Tryz.params5]at ht;have hm:t∈[22,23,23]:=by simpa using Array.mem_of_getElem? ht
    have hall:([22,23,23].all fun u=>!Tryz.prog.wantsStandIn u)=true:=by kernel_rfl
    exact(show Tryz.prog.wantsStandIn t=false by simpa using List.all_eq_true.1 hall t hm)⟩)
  (by kernel_rfl)
end Go.Proofs.YtacihodamichhaaGreatDoor
