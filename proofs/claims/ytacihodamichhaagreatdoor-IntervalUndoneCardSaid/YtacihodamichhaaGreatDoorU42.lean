/- Parts of the proof. -/
import Derived.Test.YtacihodamichhaaGreatDoorU41
set_option maxHeartbeats 8000000
namespace Go.Proofs.YtacihodamichhaaGreatDoor
open Go.RowKit
theorem qic(neg:Bool):txtN neg 0=txtN false 0:=by
 unfold txtN txtD;rw[D10.qah,if_pos rfl,if_pos rfl]
theorem qix{neg:Bool}{N:Nat}{z:Int}(h:z.natAbs=N)(hn:N≠0→decide (z<0)=neg):txtN neg N=txtZ z:=by
 unfold txtZ;rw[h]
 by_cases h0:N=0
 ·subst h0
  rw[qic,qic (decide (z<0))]
 ·rw[hn h0]
theorem qis(z:Int)(w:World)(hz:qbe z.natAbs):Calls Tryz.prog 106 #[.string ⟨(txtZ z).toArray⟩] w (Ret (.string ⟨(txtZ (-z)).toArray⟩) w):=by
 have HD:=hI (fun w'=>qbf (decide (z<0)) z.natAbs w' hz)
 change Hid (∀w',Calls Tryz.prog 118 #[.string ⟨(txtZ z).toArray⟩] w' _)at HD
 have HS:=hI (fun w'=>qbu z w');have HT:=hI (fun w' v (h:DgV w' v z.natAbs)=>qfb (decide (0<z)) z.natAbs v w' h hz);have hr:txtN (decide (0<z)) z.natAbs=txtZ (-z):=qix (by omega) (fun h=>by rw[decide_eq_decide];omega);rw[hr]at HT
 have hs:decide (0<z.sign)=decide (0<z):=by
  rw[decide_eq_decide];have:=qd8 z
  omega
 generalize(⟨(txtZ (-z)).toArray⟩:ByteArray)=R at*;generalize(⟨(txtZ z).toArray⟩:ByteArray)=Z at*;generalize z.natAbs=N at*
 by_cases h0:0<z
 ·rw[decide_eq_true h0]at hs HT
  have hs1:0<z.sign:=by simpa using hs
  generalize z.sign=sg at*;clear h0 hz hr
  go_enter Tryz.func106,Tryz.ntmps106
  go_wp2_with (first
   |(go_at_call 120;refine(HS.out _).mono ?_;rintro e w1 ⟨rfl,hb1⟩;have Hb1:=hI hb1;clear hb1)
   |(go_at_call 118;refine(HD.out _).mono ?_;rintro e w2 ⟨v2,rfl,hv2,hb2⟩;have HV2:=hI hv2;have Hb2:=hI (qaa Hb1.out hb2);clear hv2 hb2)
   |(go_at_call 117;refine(HT.out _ _ HV2.out).mono ?_;rintro e w3 ⟨rfl,hb3⟩))
  go_ret
  exact⟨rfl,qaa Hb2.out hb3⟩
 ·rw[decide_eq_false h0]at hs HT
  have hs1:¬0<z.sign:=by simpa using hs
  generalize z.sign=sg at*;clear h0 hz hr
  go_enter Tryz.func106,Tryz.ntmps106
  go_wp2_with (first
   |(go_at_call 120;refine(HS.out _).mono ?_;rintro e w1 ⟨rfl,hb1⟩;have Hb1:=hI hb1;clear hb1)
   |(go_at_call 118;refine(HD.out _).mono ?_;rintro e w2 ⟨v2,rfl,hv2,hb2⟩;have HV2:=hI hv2;have Hb2:=hI (qaa Hb1.out hb2);clear hv2 hb2)
   |(go_at_call 117;refine(HT.out _ _ HV2.out).mono ?_;rintro e w3 ⟨rfl,hb3⟩))
  go_ret
  exact⟨rfl,qaa Hb2.out hb3⟩
theorem qsi(y z:Int)(w:World)(hy:qbe y.natAbs)(hz:qbe z.natAbs)(hyz:qbe (y.natAbs+z.natAbs)):Calls Tryz.prog 107 #[.string ⟨(txtZ y).toArray⟩,.string ⟨(txtZ z).toArray⟩] w (Ret (.string ⟨(txtZ (y+z)).toArray⟩) w):=by
 have HD1:=hI (fun w'=>qbf (decide (y<0)) y.natAbs w' hy);have HD2:=hI (fun w'=>qbf (decide (z<0)) z.natAbs w' hz)
 change Hid (∀w',Calls Tryz.prog 118 #[.string ⟨(txtZ y).toArray⟩] w' _)at HD1
 change Hid (∀w',Calls Tryz.prog 118 #[.string ⟨(txtZ z).toArray⟩] w' _)at HD2
 have HS1:=hI (fun w'=>qbu y w');have HS2:=hI (fun w'=>qbu z w');have HO:=hI (fun w' u v (h:DgV w' u y.natAbs) (h':DgV w' v z.natAbs)=>qg1 u v y.natAbs z.natAbs w' h h');have HP:=hI (fun w' u v (h:DgV w' u y.natAbs) (h':DgV w' v z.natAbs)=>qvd u v y.natAbs z.natAbs w' h h' hy hz);have HM1:=hI (fun(hle:z.natAbs≤y.natAbs) w' u v (h:DgV w' u y.natAbs) (h':DgV w' v z.natAbs)=>qi4 u v y.natAbs z.natAbs w' h h' hle hy);have HM2:=hI (fun(hle:y.natAbs≤z.natAbs) w' u v (h:DgV w' u y.natAbs) (h':DgV w' v z.natAbs)=>qi4 v u z.natAbs y.natAbs w' h' h hle hz);have HT:=hI (fun(neg:Bool) w' (a:Option Addr) c (d:List Nat) (h:Ds w' (.slice a d.length c) d) (hd:D10.Dg d) (hl:d.length≤20001) (hn:D10.natL d=y.natAbs+z.natAbs)=>(show Calls Tryz.prog 117 #[.bool neg,.slice a d.length c] w' (Ret (.string ⟨(txtN neg (y.natAbs+z.natAbs)).toArray⟩) w')from by rw[←hn];exact qfs neg a _ c d w' h hd (by omega)));have HTG:=hI (fun(neg:Bool) (N:Nat) w' v (h:DgV w' v N) (hf:N≤y.natAbs+z.natAbs)=>qfb neg N v w' h (qbm hf hyz));have s1:=qd8 y;have s2:=qd8 z;have R1:(y<0↔z<0)→txtN (decide (y.sign<0)) (y.natAbs+z.natAbs)=txtZ (y+z):=fun h=>qix (by omega) (fun h0=>by rw[decide_eq_decide];omega)
 have R2:¬(y<0↔z<0)→z.natAbs≤y.natAbs→txtN (decide (y.sign<0)) (y.natAbs-z.natAbs)=txtZ (y+z):=fun h h'=>qix (by omega) (fun h0=>by rw[decide_eq_decide];omega)
 have R3:¬(y<0↔z<0)→y.natAbs<z.natAbs→txtN (decide (z.sign<0)) (z.natAbs-y.natAbs)=txtZ (y+z):=fun h h'=>qix (by omega) (fun h0=>by rw[decide_eq_decide];omega)
 have iy:y<0↔y.sign<0:=by omega
 have iz:z<0↔z.sign<0:=by omega
 rw[iy,iz]at R1 R2 R3;generalize(⟨(txtZ y).toArray⟩:ByteArray)=Y at*;generalize(⟨(txtZ z).toArray⟩:ByteArray)=Z at*;generalize txtZ (y+z)=R at*;generalize y.sign=sy at*;generalize z.sign=sz at*;generalize y.natAbs=A at*;generalize z.natAbs=B at*;clear iy iz s1 s2 hy hz hyz
 by_cases h1:sy<0
 ·have e1:decide (sy<0)=true:=decide_eq_true h1
  by_cases h2:sz<0
  ·have e2:decide (sz<0)=true:=decide_eq_true h2
   have HR:=hI (R1 ⟨fun _=>h2,fun _=>h1⟩);clear R1 R2 R3
   go_enter Tryz.func107,Tryz.ntmps107
   go_wp2_with (first
    |(have _t:=Hb4;clear _t;go_at_call 120;refine(HS1.out _).mono ?_;rintro e w6 ⟨rfl,hb6⟩;have HVa:=hI (HVa.out.mono hb6);have HVb:=hI (HVb.out.mono hb6);have Hb6:=hI (qaa Hb4.out hb6);clear hb6)
    |(have _t:=Hb3;clear _t;go_at_call 120;refine(HS2.out _).mono ?_;rintro e w4 ⟨rfl,hb4⟩;have HVa:=hI (HVa.out.mono hb4);have HVb:=hI (HVb.out.mono hb4);have Hb4:=hI (qaa Hb3.out hb4);clear hb4)
    |(go_at_call 120;refine(HS1.out _).mono ?_;rintro e w3 ⟨rfl,hb3⟩;have HVa:=hI (HVa.out.mono hb3);have HVb:=hI (HVb.out.mono hb3);have Hb3:=hI (qaa Hb2.out hb3);clear hb3)
    |(have _t:=Hb1;clear _t;go_at_call 118;refine(HD2.out _).mono ?_;rintro e w2 ⟨v2,rfl,hv2,hb2⟩;have HVb:=hI hv2;have HVa:=hI (HVa.out.mono hb2);have Hb2:=hI (qaa Hb1.out hb2);clear hv2 hb2)
    |(go_at_call 118;refine(HD1.out _).mono ?_;rintro e w1 ⟨v1,rfl,hv1,hb1⟩;have HVa:=hI hv1;have Hb1:=hI hb1;clear hv1 hb1)
    |(go_at_call 138;refine(HP.out _ _ _ HVa.out HVb.out).mono ?_;rintro e w7 ⟨v7,rfl,⟨a7,c7,l7,rfl,hl7,hd7,hn7,hlen7⟩,hb7⟩;have HL7:=hI (And.intro hl7 (And.intro hd7 (And.intro hlen7 hn7)));have Hb7:=hI (qaa Hb6.out hb7);clear hl7 hd7 hn7 hlen7 hb7)
    |(go_at_call 117;refine(HT.out _ _ _ _ _ HL7.out.1 HL7.out.2.1 HL7.out.2.2.1 HL7.out.2.2.2).mono ?_;rintro e w8 ⟨rfl,hb8⟩))
   go_ret
   exact⟨by rw[←HR.out,e1];rfl,qaa Hb7.out hb8⟩
  ·have e2:decide (sz<0)=false:=decide_eq_false h2
   rcases Nat.lt_or_ge A B with hab|hab
   ·have hc:=qh1 hab
    generalize hcc:cmpN A B=cc at*;have HR:=hI (R3 (fun h=>h2 (h.1 h1)) hab);clear R1 R2 R3
    go_enter Tryz.func107,Tryz.ntmps107
    go_wp2_with (first
     |(have _t:=Hb5;clear _t;go_at_call 120;refine(HS2.out _).mono ?_;rintro e w6 ⟨rfl,hb6⟩;have HVa:=hI (HVa.out.mono hb6);have HVb:=hI (HVb.out.mono hb6);have Hb6:=hI (qaa Hb5.out hb6);clear hb6)
     |(have _t:=Hb3;clear _t;go_at_call 120;refine(HS2.out _).mono ?_;rintro e w4 ⟨rfl,hb4⟩;have HVa:=hI (HVa.out.mono hb4);have HVb:=hI (HVb.out.mono hb4);have Hb4:=hI (qaa Hb3.out hb4);clear hb4)
     |(go_at_call 120;refine(HS1.out _).mono ?_;rintro e w3 ⟨rfl,hb3⟩;have HVa:=hI (HVa.out.mono hb3);have HVb:=hI (HVb.out.mono hb3);have Hb3:=hI (qaa Hb2.out hb3);clear hb3)
     |(have _t:=Hb1;clear _t;go_at_call 118;refine(HD2.out _).mono ?_;rintro e w2 ⟨v2,rfl,hv2,hb2⟩;have HVb:=hI hv2;have HVa:=hI (HVa.out.mono hb2);have Hb2:=hI (qaa Hb1.out hb2);clear hv2 hb2)
     |(go_at_call 118;refine(HD1.out _).mono ?_;rintro e w1 ⟨v1,rfl,hv1,hb1⟩;have HVa:=hI hv1;have Hb1:=hI hb1;clear hv1 hb1)
     |(go_at_call 121;refine(HO.out _ _ _ HVa.out HVb.out).mono ?_;rintro e w5 ⟨rfl,⟨hb5,-⟩⟩;have HVa:=hI (HVa.out.mono hb5);have HVb:=hI (HVb.out.mono hb5);have Hb5:=hI (qaa Hb4.out hb5);clear hb5)
     |(go_at_call 139;refine(HM2.out (by omega) _ _ _ HVa.out HVb.out).mono ?_;rintro e w7 ⟨v7,rfl,⟨hv7,-⟩,hb7⟩;have HV7:=hI hv7;have Hb7:=hI (qaa Hb6.out hb7);clear hv7 hb7)
     |(go_at_call 117;refine(HTG.out _ _ _ _ HV7.out (by omega)).mono ?_;rintro e w8 ⟨rfl,hb8⟩))
    go_ret
    exact⟨by rw[←HR.out,e2];rfl,qaa Hb7.out hb8⟩
   ·have hc:=qfh hab
    generalize hcc:cmpN A B=cc at*;have HR:=hI (R2 (fun h=>h2 (h.1 h1)) hab);clear R1 R2 R3
    go_enter Tryz.func107,Tryz.ntmps107
    go_wp2_with (first
     |(have _t:=Hb5;clear _t;go_at_call 120;refine(HS1.out _).mono ?_;rintro e w6 ⟨rfl,hb6⟩;have HVa:=hI (HVa.out.mono hb6);have HVb:=hI (HVb.out.mono hb6);have Hb6:=hI (qaa Hb5.out hb6);clear hb6)
     |(have _t:=Hb3;clear _t;go_at_call 120;refine(HS2.out _).mono ?_;rintro e w4 ⟨rfl,hb4⟩;have HVa:=hI (HVa.out.mono hb4);have HVb:=hI (HVb.out.mono hb4);have Hb4:=hI (qaa Hb3.out hb4);clear hb4)
     |(go_at_call 120;refine(HS1.out _).mono ?_;rintro e w3 ⟨rfl,hb3⟩;have HVa:=hI (HVa.out.mono hb3);have HVb:=hI (HVb.out.mono hb3);have Hb3:=hI (qaa Hb2.out hb3);clear hb3)
     |(have _t:=Hb1;clear _t;go_at_call 118;refine(HD2.out _).mono ?_;rintro e w2 ⟨v2,rfl,hv2,hb2⟩;have HVb:=hI hv2;have HVa:=hI (HVa.out.mono hb2);have Hb2:=hI (qaa Hb1.out hb2);clear hv2 hb2)
     |(go_at_call 118;refine(HD1.out _).mono ?_;rintro e w1 ⟨v1,rfl,hv1,hb1⟩;have HVa:=hI hv1;have Hb1:=hI hb1;clear hv1 hb1)
     |(go_at_call 121;refine(HO.out _ _ _ HVa.out HVb.out).mono ?_;rintro e w5 ⟨rfl,⟨hb5,-⟩⟩;have HVa:=hI (HVa.out.mono hb5);have HVb:=hI (HVb.out.mono hb5);have Hb5:=hI (qaa Hb4.out hb5);clear hb5)
     |(go_at_call 139;refine(HM1.out (by omega) _ _ _ HVa.out HVb.out).mono ?_;rintro e w7 ⟨v7,rfl,⟨hv7,-⟩,hb7⟩;have HV7:=hI hv7;have Hb7:=hI (qaa Hb6.out hb7);clear hv7 hb7)
     |(go_at_call 117;refine(HTG.out _ _ _ _ HV7.out (by omega)).mono ?_;rintro e w8 ⟨rfl,hb8⟩))
    go_ret
    exact⟨by rw[←HR.out,e1];rfl,qaa Hb7.out hb8⟩
 ·have e1:decide (sy<0)=false:=decide_eq_false h1
  by_cases h2:sz<0
  ·have e2:decide (sz<0)=true:=decide_eq_true h2
   rcases Nat.lt_or_ge A B with hab|hab
   ·have hc:=qh1 hab
    generalize hcc:cmpN A B=cc at*;have HR:=hI (R3 (fun h=>h1 (h.2 h2)) hab);clear R1 R2 R3
    go_enter Tryz.func107,Tryz.ntmps107
    go_wp2_with (first
     |(have _t:=Hb5;clear _t;go_at_call 120;refine(HS2.out _).mono ?_;rintro e w6 ⟨rfl,hb6⟩;have HVa:=hI (HVa.out.mono hb6);have HVb:=hI (HVb.out.mono hb6);have Hb6:=hI (qaa Hb5.out hb6);clear hb6)
     |(have _t:=Hb3;clear _t;go_at_call 120;refine(HS2.out _).mono ?_;rintro e w4 ⟨rfl,hb4⟩;have HVa:=hI (HVa.out.mono hb4);have HVb:=hI (HVb.out.mono hb4);have Hb4:=hI (qaa Hb3.out hb4);clear hb4)
     |(go_at_call 120;refine(HS1.out _).mono ?_;rintro e w3 ⟨rfl,hb3⟩;have HVa:=hI (HVa.out.mono hb3);have HVb:=hI (HVb.out.mono hb3);have Hb3:=hI (qaa Hb2.out hb3);clear hb3)
     |(have _t:=Hb1;clear _t;go_at_call 118;refine(HD2.out _).mono ?_;rintro e w2 ⟨v2,rfl,hv2,hb2⟩;have HVb:=hI hv2;have HVa:=hI (HVa.out.mono hb2);have Hb2:=hI (qaa Hb1.out hb2);clear hv2 hb2)
     |(go_at_call 118;refine(HD1.out _).mono ?_;rintro e w1 ⟨v1,rfl,hv1,hb1⟩;have HVa:=hI hv1;have Hb1:=hI hb1;clear hv1 hb1)
     |(go_at_call 121;refine(HO.out _ _ _ HVa.out HVb.out).mono ?_;rintro e w5 ⟨rfl,⟨hb5,-⟩⟩;have HVa:=hI (HVa.out.mono hb5);have HVb:=hI (HVb.out.mono hb5);have Hb5:=hI (qaa Hb4.out hb5);clear hb5)
     |(go_at_call 139;refine(HM2.out (by omega) _ _ _ HVa.out HVb.out).mono ?_;rintro e w7 ⟨v7,rfl,⟨hv7,-⟩,hb7⟩;have HV7:=hI hv7;have Hb7:=hI (qaa Hb6.out hb7);clear hv7 hb7)
     |(go_at_call 117;refine(HTG.out _ _ _ _ HV7.out (by omega)).mono ?_;rintro e w8 ⟨rfl,hb8⟩))
    go_ret
    exact⟨by rw[←HR.out,e2];rfl,qaa Hb7.out hb8⟩
   ·have hc:=qfh hab
    generalize hcc:cmpN A B=cc at*;have HR:=hI (R2 (fun h=>h1 (h.2 h2)) hab);clear R1 R2 R3
    go_enter Tryz.func107,Tryz.ntmps107
    go_wp2_with (first
     |(have _t:=Hb5;clear _t;go_at_call 120;refine(HS1.out _).mono ?_;rintro e w6 ⟨rfl,hb6⟩;have HVa:=hI (HVa.out.mono hb6);have HVb:=hI (HVb.out.mono hb6);have Hb6:=hI (qaa Hb5.out hb6);clear hb6)
     |(have _t:=Hb3;clear _t;go_at_call 120;refine(HS2.out _).mono ?_;rintro e w4 ⟨rfl,hb4⟩;have HVa:=hI (HVa.out.mono hb4);have HVb:=hI (HVb.out.mono hb4);have Hb4:=hI (qaa Hb3.out hb4);clear hb4)
     |(go_at_call 120;refine(HS1.out _).mono ?_;rintro e w3 ⟨rfl,hb3⟩;have HVa:=hI (HVa.out.mono hb3);have HVb:=hI (HVb.out.mono hb3);have Hb3:=hI (qaa Hb2.out hb3);clear hb3)
     |(have _t:=Hb1;clear _t;go_at_call 118;refine(HD2.out _).mono ?_;rintro e w2 ⟨v2,rfl,hv2,hb2⟩;have HVb:=hI hv2;have HVa:=hI (HVa.out.mono hb2);have Hb2:=hI (qaa Hb1.out hb2);clear hv2 hb2)
     |(go_at_call 118;refine(HD1.out _).mono ?_;rintro e w1 ⟨v1,rfl,hv1,hb1⟩;have HVa:=hI hv1;have Hb1:=hI hb1;clear hv1 hb1)
     |(go_at_call 121;refine(HO.out _ _ _ HVa.out HVb.out).mono ?_;rintro e w5 ⟨rfl,⟨hb5,-⟩⟩;have HVa:=hI (HVa.out.mono hb5);have HVb:=hI (HVb.out.mono hb5);have Hb5:=hI (qaa Hb4.out hb5);clear hb5)
     |(go_at_call 139;refine(HM1.out (by omega) _ _ _ HVa.out HVb.out).mono ?_;rintro e w7 ⟨v7,rfl,⟨hv7,-⟩,hb7⟩;have HV7:=hI hv7;have Hb7:=hI (qaa Hb6.out hb7);clear hv7 hb7)
     |(go_at_call 117;refine(HTG.out _ _ _ _ HV7.out (by omega)).mono ?_;rintro e w8 ⟨rfl,hb8⟩))
    go_ret
    exact⟨by rw[←HR.out,e1];rfl,qaa Hb7.out hb8⟩
  ·have e2:decide (sz<0)=false:=decide_eq_false h2
   have HR:=hI (R1 ⟨fun h=>absurd h h1,fun h=>absurd h h2⟩);clear R1 R2 R3
   go_enter Tryz.func107,Tryz.ntmps107
   go_wp2_with (first
    |(have _t:=Hb4;clear _t;go_at_call 120;refine(HS1.out _).mono ?_;rintro e w6 ⟨rfl,hb6⟩;have HVa:=hI (HVa.out.mono hb6);have HVb:=hI (HVb.out.mono hb6);have Hb6:=hI (qaa Hb4.out hb6);clear hb6)
    |(have _t:=Hb3;clear _t;go_at_call 120;refine(HS2.out _).mono ?_;rintro e w4 ⟨rfl,hb4⟩;have HVa:=hI (HVa.out.mono hb4);have HVb:=hI (HVb.out.mono hb4);have Hb4:=hI (qaa Hb3.out hb4);clear hb4)
    |(go_at_call 120;refine(HS1.out _).mono ?_;rintro e w3 ⟨rfl,hb3⟩;have HVa:=hI (HVa.out.mono hb3);have HVb:=hI (HVb.out.mono hb3);have Hb3:=hI (qaa Hb2.out hb3);clear hb3)
    |(have _t:=Hb1;clear _t;go_at_call 118;refine(HD2.out _).mono ?_;rintro e w2 ⟨v2,rfl,hv2,hb2⟩;have HVb:=hI hv2;have HVa:=hI (HVa.out.mono hb2);have Hb2:=hI (qaa Hb1.out hb2);clear hv2 hb2)
    |(go_at_call 118;refine(HD1.out _).mono ?_;rintro e w1 ⟨v1,rfl,hv1,hb1⟩;have HVa:=hI hv1;have Hb1:=hI hb1;clear hv1 hb1)
    |(go_at_call 138;refine(HP.out _ _ _ HVa.out HVb.out).mono ?_;rintro e w7 ⟨v7,rfl,⟨a7,c7,l7,rfl,hl7,hd7,hn7,hlen7⟩,hb7⟩;have HL7:=hI (And.intro hl7 (And.intro hd7 (And.intro hlen7 hn7)));have Hb7:=hI (qaa Hb6.out hb7);clear hl7 hd7 hn7 hlen7 hb7)
    |(go_at_call 117;refine(HT.out _ _ _ _ _ HL7.out.1 HL7.out.2.1 HL7.out.2.2.1 HL7.out.2.2.2).mono ?_;rintro e w8 ⟨rfl,hb8⟩))
   go_ret
   exact⟨by rw[←HR.out,e1];rfl,qaa Hb7.out hb8⟩
theorem qk9(a b:List UInt8):(⟨a.toArray⟩++⟨#[47]⟩++⟨b.toArray⟩:ByteArray)=⟨(a++47::b).toArray⟩:=by
 apply qdm
 simp[ByteArray.toList_eq]
theorem qev{z:Int}(h:qbe z.natAbs):(⟨(txtZ z).toArray⟩:ByteArray).size≤20002:=by
 obtain⟨p,-,-,-,hp,hl⟩:=qfo (decide (z<0)) z.natAbs;rw[Lib.size_eq]
 show(txtZ z).length≤20002
 unfold txtZ qbe at*;rcases hp with hp|hp<;>rw[hp]
 ·omega
 ·rw[List.length_cons];omega
theorem qfn:txtZ 1=[49]:=by
 rw[show(1:Int)=((1:Nat):Int)from rfl,qa3];exact qgx
theorem qhp(N:Int){D:Nat}(hD:0<D):(mkRat N D).num=N/(Nat.gcd N.natAbs D:Nat)∧(mkRat N D).den=D/Nat.gcd N.natAbs D:=by
 rw[Rat.num_mkRat,Rat.den_mkRat,if_neg (by omega),if_neg (by omega),Nat.gcd_comm];exact⟨rfl,rfl⟩
theorem qft(N:Int)(D:Nat)(w:World)(hD:0<D)(hn:qbe N.natAbs)(hd:qbe (10*D)):Calls Tryz.prog 104 #[.string ⟨(txtZ N).toArray⟩,.string ⟨(txtZ (D:Int)).toArray⟩] w (Ret (.string ⟨(txtR (mkRat N D)).toArray⟩) w):=by
 have hd1:qbe D:=qbm (by omega) hd;have hgp:0<Nat.gcd N.natAbs D:=Nat.gcd_pos_of_pos_right _ hD;have hgD:Nat.gcd N.natAbs D∣D:=Nat.gcd_dvd_right _ _;have hgN:((Nat.gcd N.natAbs D:Nat):Int)∣N:=Int.ofNat_dvd_left.2 (Nat.gcd_dvd_left _ _);have hgf:qbe (10*Nat.gcd N.natAbs D):=qbm (Nat.mul_le_mul_left _ (Nat.le_of_dvd hD hgD)) hd;have H1:=hI (fun w'=>qbu (D:Int) w');rw[Int.sign_eq_one_of_pos (show(0:Int)<(D:Int)by omega)]at H1;have H2:=hI (fun w'=>qit (decide (N<0)) false N.natAbs D w' hn hd);rw[←qa3 D]at H2
 change Hid (∀w',Calls Tryz.prog 69 #[.string ⟨(txtZ N).toArray⟩,.string ⟨(txtZ (D:Int)).toArray⟩] w' _)at H2
 have H3:=hI (fun w'=>qfl N (Nat.gcd N.natAbs D) w' hn hgf hgp hgN);have H4:=hI (fun w'=>qfl (D:Int) (Nat.gcd N.natAbs D) w' (by rw[Int.natAbs_natCast];exact hd1) hgf hgp (Int.natCast_dvd_natCast.2 hgD));obtain⟨p1,p2⟩:=qhp N hD;have e4:(D:Int)/((Nat.gcd N.natAbs D:Nat):Int)=((mkRat N D).den:Int):=by rw[p2,Int.natCast_ediv]
 rw[e4]at H4;rw[←p1]at H3
 have hs1:(⟨(txtZ (mkRat N D).num).toArray⟩:ByteArray).size≤20002:=qev (by
  rw[p1]
  exact qbm (Int.natAbs_ediv_le_natAbs _ _) hn)
 have hs2:(⟨(txtZ ((mkRat N D).den:Int)).toArray⟩:ByteArray).size≤20002:=qev (by
  rw[p2,Int.natAbs_natCast]
  exact qbm (Nat.div_le_self _ _) hd1)
 by_cases h1:(mkRat N D).den=1
 ·rw[qce h1]
  rw[h1]at H4;rw[show(((1:Nat):Int))=1 from rfl,qfn]at H4;generalize(⟨(txtZ (mkRat N D).num).toArray⟩:ByteArray)=R at*;generalize(⟨(txtZ N).toArray⟩:ByteArray)=SN at*;generalize(⟨(txtZ (D:Int)).toArray⟩:ByteArray)=SD at*;generalize(⟨(txtN false (Nat.gcd N.natAbs D)).toArray⟩:ByteArray)=G at*;clear hD hn hd hd1 hgp hgD hgN hgf p1 p2 e4 hs1 hs2 h1
  go_enter Tryz.func104,Tryz.ntmps104
  go_wp2_with (first
   |(go_at_call 120;refine(H1.out _).mono ?_;rintro e w1 ⟨rfl,hb1⟩;have Hb1:=hI hb1;clear hb1)
   |(go_at_call 69;refine(H2.out _).mono ?_;rintro e w2 ⟨rfl,hb2⟩;have Hb2:=hI (qaa Hb1.out hb2);clear hb2)
   |(have _t:=Hb3;clear _t;go_at_call 119;refine(H4.out _).mono ?_;rintro e w4 ⟨rfl,hb4⟩;have Hb4:=hI (qaa Hb3.out hb4);clear hb4)
   |(go_at_call 119;refine(H3.out _).mono ?_;rintro e w3 ⟨rfl,hb3⟩;have Hb3:=hI (qaa Hb2.out hb3);clear hb3))
  go_ret
  exact⟨rfl,Hb4.out⟩
 ·rw[qcz h1,←qk9]
  have hne:((⟨(txtZ ((mkRat N D).den:Int)).toArray⟩:ByteArray).toList==[49])=false:=by
   rw[ByteArray.toList_eq,beq_eq_false_iff_ne]
   show ¬txtZ ((mkRat N D).den:Int)=[49]
   rw[←qfn];intro e;have:=qmc e
   omega
  have hcat:¬9223372036854775807<(⟨(txtZ (mkRat N D).num).toArray⟩:ByteArray).size+1:=by omega
  have hcat2:¬9223372036854775807<(⟨(txtZ (mkRat N D).num).toArray⟩:ByteArray).size+1+(⟨(txtZ ((mkRat N D).den:Int)).toArray⟩:ByteArray).size:=by omega
  generalize(⟨(txtZ (mkRat N D).num).toArray⟩:ByteArray)=R at*;generalize(⟨(txtZ ((mkRat N D).den:Int)).toArray⟩:ByteArray)=E at*;generalize(⟨(txtZ N).toArray⟩:ByteArray)=SN at*;generalize(⟨(txtZ (D:Int)).toArray⟩:ByteArray)=SD at*;generalize(⟨(txtN false (Nat.gcd N.natAbs D)).toArray⟩:ByteArray)=G at*;clear hD hn hd hd1 hgp hgD hgN hgf p1 p2 e4 hs1 hs2 h1
  go_enter Tryz.func104,Tryz.ntmps104
  go_wp2_with (first
   |(go_at_call 120;refine(H1.out _).mono ?_;rintro e w1 ⟨rfl,hb1⟩;have Hb1:=hI hb1;clear hb1)
   |(go_at_call 69;refine(H2.out _).mono ?_;rintro e w2 ⟨rfl,hb2⟩;have Hb2:=hI (qaa Hb1.out hb2);clear hb2)
   |(have _t:=Hb3;clear _t;go_at_call 119;refine(H4.out _).mono ?_;rintro e w4 ⟨rfl,hb4⟩;have Hb4:=hI (qaa Hb3.out hb4);clear hb4)
   |(go_at_call 119;refine(H3.out _).mono ?_;rintro e w3 ⟨rfl,hb3⟩;have Hb3:=hI (qaa Hb2.out hb3);clear hb3))
  go_ret
  exact⟨rfl,Hb4.out⟩
theorem qc1(r:Rat)(w:World)(h:(txtR r).length≤30000):Calls Tryz.prog 65 #[.string ⟨(txtR r).toArray⟩] w (Ret (.tuple #[.string ⟨(txtZ r.num).toArray⟩,.string ⟨(txtZ (r.den:Int)).toArray⟩]) w):=by
 have:=qez (txtR r) w h;rw[qgw,qsk]at this;exact this
theorem qb9{k:Nat}{r:Rat}(h:Sz k r):(txtR r).length≤2*k+4:=by
 have key:∀z:Int,z.natAbs<10^k→(txtZ z).length≤k+2:=fun z hz=>by
  obtain⟨p,-,-,-,hp,hl⟩:=qfo (decide (z<0)) z.natAbs;have:=qat hz;unfold txtZ;rcases hp with hp|hp<;>rw[hp]
  ·omega
  ·rw[List.length_cons];omega
 have h1:=key r.num h.1;have h2:=key (r.den:Int) (by rw[Int.natAbs_natCast];exact h.2)
 by_cases hd:r.den=1
 ·rw[qce hd];omega
 ·have h3:(txtZ (r.den:Int)).length≤k+1:=by
   obtain⟨p,-,-,-,hp,hl⟩:=qfo false r.den;have:=qat h.2;rw[qa3];have e:txtN false r.den=qao (D10.limbs r.den):=by rw[←qa3,qiw r.den_nz]
   rw[e];unfold qao;simp
   omega
  rw[qcz hd,List.length_append,List.length_cons]
  omega
theorem qd7{a b k l:Nat}(h:a<10^k)(h':b<10^l):a*b<10^(k+l):=by
 rw[Nat.pow_add];exact Nat.mul_lt_mul'' h h'
theorem qg9{a k:Nat}(h:a<10^k)(hk:k≤19999):qbe (10*a):=qb1 (k:=k+1) (by rw[Nat.pow_succ];omega) (by omega)
theorem qmr(r:Rat)(k:Nat)(w:World)(h:Sz k r)(hk:k≤9000):Calls Tryz.prog 50 #[.string ⟨(txtR r).toArray⟩] w (Ret (.string ⟨(txtR (-r)).toArray⟩) w):=by
 have H1:=hI (fun w'=>qc1 r w' (Nat.le_trans (qb9 h) (by omega)));have hn:qbe r.num.natAbs:=qb1 h.1 (by omega);have H2:=hI (fun w'=>qis r.num w' hn);have H3:=hI (fun w'=>qft (-r.num) r.den w' r.den_pos (by rw[Int.natAbs_neg];exact hn) (qg9 h.2 (by omega)));rw[show mkRat (-r.num) r.den=-r by rw[←Rat.neg_mkRat,Rat.mkRat_self]]at H3;generalize(⟨(txtR r).toArray⟩:ByteArray)=X at*;generalize(⟨(txtR (-r)).toArray⟩:ByteArray)=Y at*;generalize(⟨(txtZ r.num).toArray⟩:ByteArray)=A at*;generalize(⟨(txtZ (r.den:Int)).toArray⟩:ByteArray)=B at*;generalize(⟨(txtZ (-r.num)).toArray⟩:ByteArray)=C at*;clear h hn
 go_enter Tryz.func50,Tryz.ntmps50
 go_wp2_with (first
  |(go_at_call 65;refine(H1.out _).mono ?_;rintro e w1 ⟨rfl,hb1⟩;have Hb1:=hI hb1;clear hb1)
  |(go_at_call 106;refine(H2.out _).mono ?_;rintro e w2 ⟨rfl,hb2⟩;have Hb2:=hI (qaa Hb1.out hb2);clear hb2)
  |(go_at_call 104;refine(H3.out _).mono ?_;rintro e w3 ⟨rfl,hb3⟩))
 go_ret
 exact⟨rfl,qaa Hb2.out hb3⟩
theorem qmt(r s:Rat)(k l:Nat)(w:World)(h:Sz k r)(h':Sz l s)(hk:k+l≤9000):Calls Tryz.prog 53 #[.string ⟨(txtR r).toArray⟩,.string ⟨(txtR s).toArray⟩] w (Ret (.string ⟨(txtR (r+s)).toArray⟩) w):=by
 have H1:=hI (fun w'=>qc1 r w' (Nat.le_trans (qb9 h) (by omega)));have H2:=hI (fun w'=>qc1 s w' (Nat.le_trans (qb9 h') (by omega)));have a1:=Nat.le_trans (qat h.1) (show k≤10000 by omega);have a2:=Nat.le_trans (qat (N:=(r.den:Int).natAbs) (by rw[Int.natAbs_natCast];exact h.2)) (show k≤10000 by omega);have b1:=Nat.le_trans (qat h'.1) (show l≤10000 by omega);have b2:=Nat.le_trans (qat (N:=(s.den:Int).natAbs) (by rw[Int.natAbs_natCast];exact h'.2)) (show l≤10000 by omega);have H3:=hI (fun w'=>qcq r.num (s.den:Int) w' a1 b2);have H4:=hI (fun w'=>qcq s.num (r.den:Int) w' b1 a2);have m1:=qd7 h.1 h'.2;have m2:=qd7 h'.1 h.2;have m3:=qd7 h.2 h'.2;rw[Nat.add_comm l k]at m2;have hp:(10:Nat)^(k+l+1)=10^(k+l)*10:=Nat.pow_succ _ _;have f1:qbe (r.num*(s.den:Int)).natAbs:=qb1 (k:=k+l) (by rw[Int.natAbs_mul,Int.natAbs_natCast];exact m1) (by omega);have f2:qbe (s.num*(r.den:Int)).natAbs:=qb1 (k:=k+l) (by rw[Int.natAbs_mul,Int.natAbs_natCast];exact m2) (by omega);have f3:qbe ((r.num*(s.den:Int)).natAbs+(s.num*(r.den:Int)).natAbs):=qb1 (k:=k+l+1) (by rw[Int.natAbs_mul,Int.natAbs_natCast,Int.natAbs_mul,Int.natAbs_natCast];omega) (by omega);have H5:=hI (fun w'=>qsi _ _ w' f1 f2 f3);have H6:=hI (fun w'=>qcq (r.den:Int) (s.den:Int) w' a2 b2);have H7:=hI (fun w'=>qft (r.num*(s.den:Int)+s.num*(r.den:Int)) (r.den*s.den) w' (Nat.mul_pos r.den_pos s.den_pos) (qbm (Int.natAbs_add_le _ _) f3) (qg9 m3 (by omega)));rw[←Rat.add_def']at H7;rw[←Int.natCast_mul]at H6;clear m1 m2 m3 hp f1 f2 f3;generalize(⟨(txtR r).toArray⟩:ByteArray)=X at*;generalize(⟨(txtR s).toArray⟩:ByteArray)=Y at*;generalize(⟨(txtR (r+s)).toArray⟩:ByteArray)=Z at*;generalize(⟨(txtZ (r.num*(s.den:Int)+s.num*(r.den:Int))).toArray⟩:ByteArray)=T0 at*
 generalize(⟨(txtZ (r.num*(s.den:Int))).toArray⟩:ByteArray)=T1 at*;generalize(⟨(txtZ (s.num*(r.den:Int))).toArray⟩:ByteArray)=T2 at*;generalize(⟨(txtZ (((r.den*s.den:Nat):Int))).toArray⟩:ByteArray)=T3 at*;generalize(⟨(txtZ (r.num)).toArray⟩:ByteArray)=N1 at*;generalize(⟨(txtZ (s.num)).toArray⟩:ByteArray)=N2 at*;generalize(⟨(txtZ ((r.den:Int))).toArray⟩:ByteArray)=D1 at*;generalize(⟨(txtZ ((s.den:Int))).toArray⟩:ByteArray)=D2 at*;clear h h' a1 a2 b1 b2
 go_enter Tryz.func53,Tryz.ntmps53
 go_wp2_with (first
  |(go_at_call 104;refine(H7.out _).mono ?_;rintro e w7 ⟨rfl,hb7⟩;have Hb7:=hI (qaa Hb6.out hb7);clear hb7)
  |(have _t:=Hb5;clear _t;go_at_call 71;refine(H6.out _).mono ?_;rintro e w6 ⟨rfl,hb6⟩;have Hb6:=hI (qaa Hb5.out hb6);clear hb6)
  |(go_at_call 107;refine(H5.out _).mono ?_;rintro e w5 ⟨rfl,hb5⟩;have Hb5:=hI (qaa Hb4.out hb5);clear hb5)
  |(have _t:=Hb3;clear _t;go_at_call 71;refine(H4.out _).mono ?_;rintro e w4 ⟨rfl,hb4⟩;have Hb4:=hI (qaa Hb3.out hb4);clear hb4)
  |(go_at_call 71;refine(H3.out _).mono ?_;rintro e w3 ⟨rfl,hb3⟩;have Hb3:=hI (qaa Hb2.out hb3);clear hb3)
  |(have _t:=Hb1;clear _t;go_at_call 65;refine(H2.out _).mono ?_;rintro e w2 ⟨rfl,hb2⟩;have Hb2:=hI (qaa Hb1.out hb2);clear hb2)
  |(go_at_call 65;refine(H1.out _).mono ?_;rintro e w1 ⟨rfl,hb1⟩;have Hb1:=hI (hb1);clear hb1))
 go_ret
 exact⟨rfl,Hb7.out⟩
theorem qsw(r s:Rat)(k l:Nat)(w:World)(h:Sz k r)(h':Sz l s)(hk:k+l≤9000):Calls Tryz.prog 51 #[.string ⟨(txtR r).toArray⟩,.string ⟨(txtR s).toArray⟩] w (Ret (.string ⟨(txtR (r*s)).toArray⟩) w):=by
 have H1:=hI (fun w'=>qc1 r w' (Nat.le_trans (qb9 h) (by omega)));have H2:=hI (fun w'=>qc1 s w' (Nat.le_trans (qb9 h') (by omega)));have a1:=Nat.le_trans (qat h.1) (show k≤10000 by omega);have a2:=Nat.le_trans (qat (N:=(r.den:Int).natAbs) (by rw[Int.natAbs_natCast];exact h.2)) (show k≤10000 by omega);have b1:=Nat.le_trans (qat h'.1) (show l≤10000 by omega);have b2:=Nat.le_trans (qat (N:=(s.den:Int).natAbs) (by rw[Int.natAbs_natCast];exact h'.2)) (show l≤10000 by omega);have H3:=hI (fun w'=>qcq r.num s.num w' a1 b1);have m1:=qd7 h.1 h'.1;have m3:=qd7 h.2 h'.2;have H6:=hI (fun w'=>qcq (r.den:Int) (s.den:Int) w' a2 b2);have H7:=hI (fun w'=>qft (r.num*s.num) (r.den*s.den) w' (Nat.mul_pos r.den_pos s.den_pos) (qb1 (k:=k+l) (by rw[Int.natAbs_mul];exact m1) (by omega)) (qg9 m3 (by omega)));rw[←Rat.mul_def']at H7;rw[←Int.natCast_mul]at H6;clear m1 m3;generalize(⟨(txtR r).toArray⟩:ByteArray)=X at*;generalize(⟨(txtR s).toArray⟩:ByteArray)=Y at*;generalize(⟨(txtR (r*s)).toArray⟩:ByteArray)=Z at*;generalize(⟨(txtZ (r.num*s.num)).toArray⟩:ByteArray)=T1 at*;generalize(⟨(txtZ (((r.den*s.den:Nat):Int))).toArray⟩:ByteArray)=T3 at*;generalize(⟨(txtZ (r.num)).toArray⟩:ByteArray)=N1 at*;generalize(⟨(txtZ (s.num)).toArray⟩:ByteArray)=N2 at*;generalize(⟨(txtZ ((r.den:Int))).toArray⟩:ByteArray)=D1 at*;generalize(⟨(txtZ ((s.den:Int))).toArray⟩:ByteArray)=D2 at*;clear h h' a1 a2 b1 b2
 go_enter Tryz.func51,Tryz.ntmps51
 go_wp2_with (first
  |(go_at_call 104;refine(H7.out _).mono ?_;rintro e w5 ⟨rfl,hb5⟩;have Hb5:=hI (qaa Hb4.out hb5);clear hb5)
  |(have _t:=Hb3;clear _t;go_at_call 71;refine(H6.out _).mono ?_;rintro e w4 ⟨rfl,hb4⟩;have Hb4:=hI (qaa Hb3.out hb4);clear hb4)
  |(go_at_call 71;refine(H3.out _).mono ?_;rintro e w3 ⟨rfl,hb3⟩;have Hb3:=hI (qaa Hb2.out hb3);clear hb3)
  |(have _t:=Hb1;clear _t;go_at_call 65;refine(H2.out _).mono ?_;rintro e w2 ⟨rfl,hb2⟩;have Hb2:=hI (qaa Hb1.out hb2);clear hb2)
  |(go_at_call 65;refine(H1.out _).mono ?_;rintro e w1 ⟨rfl,hb1⟩;have Hb1:=hI (hb1);clear hb1))
 go_ret
 exact⟨rfl,Hb5.out⟩
theorem qms(r s:Rat)(k l:Nat)(w:World)(h:Sz k r)(h':Sz l s)(hk:k+l≤9000)(hs:0<s):Calls Tryz.prog 48 #[.string ⟨(txtR r).toArray⟩,.string ⟨(txtR s).toArray⟩] w (Ret (.string ⟨(txtR (r/s)).toArray⟩) w):=by
 have H1:=hI (fun w'=>qc1 r w' (Nat.le_trans (qb9 h) (by omega)));have H2:=hI (fun w'=>qc1 s w' (Nat.le_trans (qb9 h') (by omega)));have a1:=Nat.le_trans (qat h.1) (show k≤10000 by omega);have a2:=Nat.le_trans (qat (N:=(r.den:Int).natAbs) (by rw[Int.natAbs_natCast];exact h.2)) (show k≤10000 by omega);have b1:=Nat.le_trans (qat h'.1) (show l≤10000 by omega);have b2:=Nat.le_trans (qat (N:=(s.den:Int).natAbs) (by rw[Int.natAbs_natCast];exact h'.2)) (show l≤10000 by omega);have H3:=hI (fun w'=>qcq r.num (s.den:Int) w' a1 b2);have m1:=qd7 h.1 h'.2;have m3:=qd7 h.2 h'.1;have H6:=hI (fun w'=>qcq (r.den:Int) s.num w' a2 b1);have hsn:(s.num.natAbs:Int)=s.num:=by have:=Rat.num_nonneg.2 (Rat.le_of_lt hs);omega
 have hs0:s.num.natAbs≠0:=by
  intro e;have:s.num=0:=by omega
  exact absurd (Rat.num_eq_zero.1 this) (Rat.ne_of_gt hs)
 have H7:=hI (fun w'=>qft (r.num*(s.den:Int)) (r.den*s.num.natAbs) w' (Nat.mul_pos r.den_pos (by omega)) (qb1 (k:=k+l) (by rw[Int.natAbs_mul,Int.natAbs_natCast];exact m1) (by omega)) (qg9 m3 (by omega)));rw[←qdy hs]at H7;rw[Int.natCast_mul,hsn]at H7;clear m1 m3 hsn hs0;generalize(⟨(txtR r).toArray⟩:ByteArray)=X at*;generalize(⟨(txtR s).toArray⟩:ByteArray)=Y at*;generalize(⟨(txtR (r/s)).toArray⟩:ByteArray)=Z at*;generalize(⟨(txtZ (r.num*(s.den:Int))).toArray⟩:ByteArray)=T1 at*;generalize(⟨(txtZ ((r.den:Int)*s.num)).toArray⟩:ByteArray)=T3 at*;generalize(⟨(txtZ (r.num)).toArray⟩:ByteArray)=N1 at*;generalize(⟨(txtZ (s.num)).toArray⟩:ByteArray)=N2 at*;generalize(⟨(txtZ ((r.den:Int))).toArray⟩:ByteArray)=D1 at*;generalize(⟨(txtZ ((s.den:Int))).toArray⟩:ByteArray)=D2 at*;clear h h' a1 a2 b1 b2 hs
 go_enter Tryz.func48,Tryz.ntmps48
 go_wp2_with (first
  |(go_at_call 104;refine(H7.out _).mono ?_;rintro e w5 ⟨rfl,hb5⟩;have Hb5:=hI (qaa Hb4.out hb5);clear hb5)
  |(have _t:=Hb3;clear _t;go_at_call 71;refine(H6.out _).mono ?_;rintro e w4 ⟨rfl,hb4⟩;have Hb4:=hI (qaa Hb3.out hb4);clear hb4)
  |(go_at_call 71;refine(H3.out _).mono ?_;rintro e w3 ⟨rfl,hb3⟩;have Hb3:=hI (qaa Hb2.out hb3);clear hb3)
  |(have _t:=Hb1;clear _t;go_at_call 65;refine(H2.out _).mono ?_;rintro e w2 ⟨rfl,hb2⟩;have Hb2:=hI (qaa Hb1.out hb2);clear hb2)
  |(go_at_call 65;refine(H1.out _).mono ?_;rintro e w1 ⟨rfl,hb1⟩;have Hb1:=hI (hb1);clear hb1))
 go_ret
 exact⟨rfl,Hb5.out⟩
end Go.Proofs.YtacihodamichhaaGreatDoor
