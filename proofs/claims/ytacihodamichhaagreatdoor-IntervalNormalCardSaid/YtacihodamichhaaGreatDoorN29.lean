/-
  Parts of the proof: Rgcd, Err, Rq1, Rq2, Can.
-/
import Derived.Test.YtacihodamichhaaGreatDoorN14
import Derived.Test.YtacihodamichhaaGreatDoorN28
namespace Go.Proofs.YtacihodamichhaaGreatDoor
open Go.RowKit
theorem txtN_zero : txtN false 0 = [48] := txtZ_zero ▸ (txtZ_nat 0).symm
theorem txt_ne0 {n : Nat} (h : n ≠ 0) : ((⟨(txtN false n).toArray⟩ : ByteArray).toList == [48]) = false := by
 rw [ByteArray.toList_eq, beq_eq_false_iff_ne]
 show ¬ txtN false n = [48]
 rw [← txtZ_nat]
 obtain ⟨c, rr, ht, -, hp⟩ := txtZ_head (z := (n : Int)) (by omega)
 rw [ht]
 intro e
 exact (hp (by omega)).2 (List.cons.inj e).1
set_option maxHeartbeats 8000000 in
set_option maxRecDepth 100000 in
theorem zgcd_any (neg neg' : Bool) (X Y : Nat) (w : World) (hX : Few10 X) (hY : Few10 (10 * Y)) : Calls Tryz.prog 69 #[.string ⟨(txtN neg X).toArray⟩, .string ⟨(txtN neg' Y).toArray⟩] w (Ret (.string ⟨(txtN false (Nat.gcd X Y)).toArray⟩) w) := by
 have hY1 : Few10 Y := few10_le (by omega) hY
 have HD1 := hI (fun w' => zdigits_any neg X w' hX)
 have HD2 := hI (fun w' => zdigits_any neg' Y w' hY1)
 have HT1 := hI (fun w' v (h : DgV w' v X) => rtext_g false X v w' h hX)
 have HT2 := hI (fun w' v (h : DgV w' v Y) => rtext_g false Y v w' h hY1)
 have HF := hI (And.intro hX hY)
 generalize (⟨(txtN neg X).toArray⟩ : ByteArray) = SX at *
 generalize (⟨(txtN neg' Y).toArray⟩ : ByteArray) = SY at *
 obtain ⟨G, hG⟩ : ∃ G, Nat.gcd X Y = G := ⟨_, rfl⟩
 rw [hG]
 have HG := hI hG
 clear hX hY hY1 hG
 go_enter Tryz.func69, Tryz.ntmps69
 go_wp2_with (first
  | (have _t := HV3; clear _t; go_at_call 117; refine (HT2.out _ _ HV3.out).mono ?_; rintro e w4 ⟨rfl, hb4⟩; have Hb4 := hI (bw_via Hb3.out hb4); clear hb4)
  | (have _t := Hb2; clear _t; go_at_call 118; refine (HD2.out _).mono ?_; rintro e w3 ⟨v3, rfl, hv3, hb3⟩; have HV3 := hI hv3; have Hb3 := hI (bw_via Hb2.out hb3); clear hv3 hb3)
  | (go_at_call 117; refine (HT1.out _ _ HV1.out).mono ?_; rintro e w2 ⟨rfl, hb2⟩; have Hb2 := hI (bw_via Hb1.out hb2); clear hb2)
  | (go_at_call 118; refine (HD1.out _).mono ?_; rintro e w1 ⟨v1, rfl, hv1, hb1⟩; have HV1 := hI hv1; have Hb1 := hI hb1; clear hv1 hb1))
 clear HD1 HD2 HT1 HT2
 go_loopg [5, 6] Y (fun gk u v wr => ∃ N, u = .string ⟨(txtN false N).toArray⟩ ∧ v = .string ⟨(txtN false gk).toArray⟩ ∧ Few10 N ∧ Few10 (10 * gk) ∧ Below w.heap.size w wr ∧ Hid (Nat.gcd N gk = G))
 case atStart => exact ⟨X, rfl, rfl, HF.out.1, HF.out.2, Hb4.out, HG.out⟩
 case round =>
  obtain ⟨N, rfl, rfl, hN, hgk, hb, hg⟩ := hrel
  by_cases h0 : gk = 0
  ·subst h0
   rw [txtN_zero]
   have he : Nat.gcd N 0 = N := Nat.gcd_zero_right N
   have Hfin := hI (show (⟨(txtN false G).toArray⟩ : ByteArray) = ⟨(txtN false N).toArray⟩ by rw [← hg.out, he])
   have Hb := hI hb
   clear hN hgk hb hg he
   generalize (⟨(txtN false N).toArray⟩ : ByteArray) = SN at *
   go_wp2_with fail
   go_ret
   exact ⟨by rw [Hfin.out]; rfl, Hb.out⟩
  ·have hne := txt_ne0 h0
   have hne2 : ((⟨(txtN false gk).toArray⟩ : ByteArray).toList != [48]) = true := by rw [bne, hne]; rfl
   have HDM := hI (zdivmod_any N gk wr hN hgk (by omega))
   have Hb := hI hb
   have Hgk := hI (And.intro h0 hgk)
   clear hb hgk h0 hN
   generalize hSN : (⟨(txtN false N).toArray⟩ : ByteArray) = SN at *
   generalize hSG : (⟨(txtN false gk).toArray⟩ : ByteArray) = SG at *
   have HSG := hI hSG
   clear hSN hSG
   go_wp2_with (go_at_call 119; refine (HDM.out).mono ?_; rintro e w5 ⟨rfl, hb5⟩)
   go_roundg (N % gk)
   case measure => exact Nat.mod_lt _ (by have := Hgk.out.1; omega)
   case rel =>
    refine ⟨gk, by rw [HSG.out], rfl, few10_le (by omega) Hgk.out.2, few10_le (Nat.mul_le_mul_left _ (Nat.le_of_lt (Nat.mod_lt _ (by have := Hgk.out.1; omega)))) Hgk.out.2, Hb.out.via hb5 Hb.out.size, ?_⟩
    unfold Hid
    rw [← hg.out, Nat.gcd_comm N gk, Nat.gcd_rec gk N, Nat.gcd_comm]
end Go.Proofs.YtacihodamichhaaGreatDoor
namespace Go.Proofs.YtacihodamichhaaGreatDoor
def denT (l : List UInt8) : List UInt8 := if divB l then botL l else [49]
def errR (l : List UInt8) : Int :=
 if !digB (absL (topL l)) || !digB (denT l) then 14
 else if zerB (denT l) then 19
 else if (decide (1 < (absL (topL l)).length) && (absL (topL l)).head? == some 48) || topL l == [45, 48] || (denT l).head? == some 48 then 3
 else if divB l && (denT l == [49] || Nat.gcd (valD (absL (topL l))) (valD (denT l)) != 1) then 3
 else 0
theorem valD_cons (c : UInt8) (l : List UInt8) : valD (c :: l) = dv c * 10 ^ l.length + valD l := by
 have := valD_append [c] l
 simpa [valD, valF_cons, valF_nil] using this
theorem val_one {d : List UInt8} (h : AllD d) (hh : d.head? ≠ some 48) (h1 : valD d = 1) : d = [49] := by
 cases d with
 | nil => exact absurd h1 (by decide)
 | cons c l =>
  have hc := isD_iff.1 (h c (by simp))
  have hne : c ≠ 48 := fun e => hh (by rw [e]; rfl)
  have hd : 1 ≤ dv c := by
   unfold dv
   rcases Nat.lt_or_ge 48 c.toNat with h2 | h2
   ·omega
   ·exact absurd (UInt8.toNat_inj.1 (by have : (48 : UInt8).toNat = 48 := rfl; omega)) hne
  rw [valD_cons] at h1
  cases l with
  | nil =>
   simp only [List.length_nil, Nat.pow_zero, Nat.mul_one] at h1
   have h0 : valD [] = 0 := rfl
   rw [h0] at h1
   have h3 : c = 49 := UInt8.toNat_inj.1 (by unfold dv at h1; have : (49 : UInt8).toNat = 49 := rfl; omega)
   rw [h3]
  | cons a r =>
   exfalso
   have h3 : 10 ≤ 10 ^ (a :: r).length := by
    rw [List.length_cons, Nat.pow_succ]
    have := Nat.pow_pos (n := r.length) (show 0 < 10 by decide)
    omega
   have h4 : 1 * 10 ^ (a :: r).length ≤ dv c * 10 ^ (a :: r).length := Nat.mul_le_mul_right _ hd
   omega
theorem top_m0 (t : List UInt8) : (t == [45, 48]) = (negB t && absL t == [48]) := by
 have h := neg_abs t
 cases hn : negB t with
 | true =>
  rw [hn, if_pos rfl] at h
  rw [Bool.true_and]
  conv => lhs; rw [h]
  rw [Bool.eq_iff_iff, beq_iff_eq, beq_iff_eq]
  simp
 | false =>
  rw [Bool.false_and, beq_eq_false_iff_ne]
  rintro rfl
  exact absurd hn (by decide)
theorem bad_eq {p : List UInt8} (neg : Bool) : ((decide (1 < p.length) && p.head? == some 48) || (neg && p == [48])) = badI p neg := by
 unfold badI
 cases p with
 | nil => cases neg <;> rfl
 | cons c r =>
  by_cases hc : c = 48
  ·subst hc
   cases r <;> cases neg <;> simp
  ·have hb : (c == 48) = false := by rw [beq_eq_false_iff_ne]; exact hc
   simp [hb]
theorem head_bad {b : List UInt8} (h : digB b = true) (hz : zerB b = false) : (b.head? == some 48) = badI b false := by
 unfold badI
 cases b with
 | nil => rfl
 | cons c r =>
  by_cases hc : c = 48
  ·subst hc
   cases r with
   | nil => exact absurd hz (by decide)
   | cons a s => simp
  ·simp [hc]
theorem errR_eq (l : List UInt8) : errR l = errL l := by
 unfold errR errL denT
 rw [top_m0]
 by_cases h1 : digB (absL (topL l)) = true
 ·by_cases h2 : divB l = true
  ·rw [if_pos h2]
   by_cases h3 : digB (botL l) = true
   ·by_cases h4 : zerB (botL l) = true
    ·simp [h1, h2, h3, h4]
    ·simp only [Bool.not_eq_true] at h4
     rw [head_bad h3 h4, bad_eq]
     by_cases h5 : badI (absL (topL l)) (negB (topL l)) = true
     ·simp [h1, h2, h3, h4, h5]
     ·simp only [Bool.not_eq_true] at h5
      by_cases h6 : badI (botL l) false = true
      ·simp [h1, h2, h3, h4, h5, h6]
      ·simp only [Bool.not_eq_true] at h6
       have hh : (botL l).head? ≠ some 48 := by
        have := head_bad h3 h4
        rw [h6, beq_eq_false_iff_ne] at this
        exact this
       have h7 : (botL l == [49]) = (valD (botL l) == 1) := by
        rw [Bool.eq_iff_iff, beq_iff_eq, beq_iff_eq]
        exact ⟨fun e => by rw [e]; rfl, fun e => val_one (digB_iff.1 h3).2 hh e⟩
       rw [h7]
       simp [h1, h2, h3, h4, h5, h6]
   ·simp only [Bool.not_eq_true] at h3
    simp [h1, h2, h3]
  ·simp only [Bool.not_eq_true] at h2
   rw [h2]
   simp only [Bool.false_eq_true, if_false, Bool.false_and, Bool.or_false]
   have e1 : digB [49] = true := by decide
   have e2 : zerB [49] = false := by decide
   have e3 : (([49] : List UInt8).head? == some 48) = false := by decide
   rw [e1, e2, e3]
   simp only [Bool.or_false, bad_eq]
   simp [h1]
 ·simp only [Bool.not_eq_true] at h1
  simp [h1]
end Go.Proofs.YtacihodamichhaaGreatDoor
namespace Go.Proofs.YtacihodamichhaaGreatDoor
open Go.RowKit
theorem drop_byte {l : List UInt8} {k : Nat} {c : UInt8} (h : l[k]? = some c) : l.drop k = c :: l.drop (k + 1) := by
 have hi : k < l.length := by
  rcases Nat.lt_or_ge k l.length with h' | h'
  ·exact h'
  ·rw [List.getElem?_eq_none h'] at h; cases h
 rw [List.getElem?_eq_getElem hi] at h
 rw [List.drop_eq_getElem_cons hi, Option.some.inj h]
set_option maxHeartbeats 2000000 in
theorem slash_any (l : List UInt8) (w : World) (hl : l.length ≤ 1000) : Calls Tryz.prog 68 #[.string ⟨l.toArray⟩] w (Ret (.int .i64 ((topL l).length : Int)) w) := by
 have hs : (⟨l.toArray⟩ : ByteArray).size = l.length := by rw [Lib.size_eq]
 have HX := hI (fun (q : Nat) (c : UInt8) (h : l[q]? = some c) => text_at h)
 obtain ⟨T, hT⟩ : ∃ T, (topL l).length = T := ⟨_, rfl⟩
 rw [hT]
 have HT := hI hT
 generalize (⟨l.toArray⟩ : ByteArray) = S at *
 generalize hn : l.length = n at *
 have Hn := hI hn
 clear hn hT
 go_enter Tryz.func68, Tryz.ntmps68
 go_wp2_with fail
 go_loopw [3] (fun i wr => wr = w ∧ ∃ k : Nat, k ≤ n ∧ i = .int .i64 (k : Int) ∧ Hid (T = k + (topL (l.drop k)).length)) (fun i _ => n - (intOf i).toNat)
 case atStart => exact ⟨rfl, 0, Nat.zero_le _, rfl, by unfold Hid; rw [List.drop_zero, Nat.zero_add, HT.out]⟩
 case round =>
  obtain ⟨rfl, k, hk, rfl, hpre⟩ := hrel
  rcases Nat.lt_or_ge k n with hlt | hge
  ·obtain ⟨c, hc⟩ : ∃ c, l[k]? = some c := ⟨l[k]'(by have := Hn.out; omega), by simp⟩
   have hks : k < S.size := by rw [hs]; exact hlt
   have hx := HX.out k c hc hks
   have hkn : (k : Int) < (n : Int) := by omega
   have hk0 : (0 : Int) ≤ (k : Int) := Int.natCast_nonneg _
   have hkw : IntKind.i64.wrap ((k : Int) + 1) = (k : Int) + 1 := IntWalk.i64_in _ (by omega)
   by_cases h47 : c = 47
   ·have hc1 : ((S[k]'hks).toNat : Int) = 47 := by rw [hx, h47]; rfl
    have hfin : T = k := by rw [hpre.out, drop_byte hc, h47]; rfl
    have Hfin := hI hfin
    clear hc hx h47 hfin
    go_wp2_with fail
    go_ret
    exact ⟨by rw [Hfin.out]; rfl, Below.refl _ _⟩
   ·have hc1 : (((S[k]'hks).toNat : Int) == 47) = false := by
     rw [hx, beq_eq_false_iff_ne]
     intro e
     exact h47 (UInt8.toNat_inj.1 (by have : (47 : UInt8).toNat = 47 := rfl; omega))
    have Hnx := hI (show T = (k + 1) + (topL (l.drop (k + 1))).length by
     rw [hpre.out, drop_byte hc]
     have h2 : (c != 47) = true := by rw [bne_iff_ne]; exact h47
     rw [show topL (c :: l.drop (k + 1)) = c :: topL (l.drop (k + 1)) by simp [topL, h2], List.length_cons]
     omega)
    clear hc hx h47
    go_wp2_with fail
    go_roundw
    case rel => exact ⟨trivial, k + 1, by omega, by go_num, Hnx.out⟩
    case measure => simp [intOf] <;> omega
  ·obtain rfl : k = n := by omega
   have hkn : ¬ (k : Int) < (k : Int) := by omega
   have Hfin := hI (show T = k by rw [hpre.out, List.drop_of_length_le (by rw [Hn.out]; exact Nat.le_refl _)]; rfl)
   go_wp2_with fail
   go_ret
   exact ⟨by rw [Hfin.out]; rfl, Below.refl _ _⟩
set_option maxHeartbeats 2000000 in
theorem qzeros_any (l : List UInt8) (w : World) (hl : l.length ≤ 1000) : Calls Tryz.prog 67 #[.string ⟨l.toArray⟩] w (Ret (.bool (zerB l)) w) := by
 have hs : (⟨l.toArray⟩ : ByteArray).size = l.length := by rw [Lib.size_eq]
 have HX := hI (fun (q : Nat) (c : UInt8) (h : l[q]? = some c) => text_at h)
 obtain ⟨T, hT⟩ : ∃ T, zerB l = T := ⟨_, rfl⟩
 rw [hT]
 have HT := hI hT
 generalize (⟨l.toArray⟩ : ByteArray) = S at *
 generalize hn : l.length = n at *
 have Hn := hI hn
 clear hn hT
 go_enter Tryz.func67, Tryz.ntmps67
 go_wp2_with fail
 go_loopw [3] (fun i wr => wr = w ∧ ∃ k : Nat, k ≤ n ∧ i = .int .i64 (k : Int) ∧ Hid (T = zerB (l.drop k))) (fun i _ => n - (intOf i).toNat)
 case atStart => exact ⟨rfl, 0, Nat.zero_le _, rfl, by unfold Hid; rw [List.drop_zero, HT.out]⟩
 case round =>
  obtain ⟨rfl, k, hk, rfl, hpre⟩ := hrel
  rcases Nat.lt_or_ge k n with hlt | hge
  ·obtain ⟨c, hc⟩ : ∃ c, l[k]? = some c := ⟨l[k]'(by have := Hn.out; omega), by simp⟩
   have hks : k < S.size := by rw [hs]; exact hlt
   have hx := HX.out k c hc hks
   have hkn : (k : Int) < (n : Int) := by omega
   have hk0 : (0 : Int) ≤ (k : Int) := Int.natCast_nonneg _
   have hkw : IntKind.i64.wrap ((k : Int) + 1) = (k : Int) + 1 := IntWalk.i64_in _ (by omega)
   have hpr := hpre.out
   rw [drop_byte hc] at hpr
   by_cases h48 : c = 48
   ·have hc1 : ((S[k]'hks).toNat : Int) = 48 := by rw [hx, h48]; rfl
    have Hnx := hI (show T = zerB (l.drop (k + 1)) by rw [hpr, h48]; simp [zerB])
    clear hc hx h48 hpr
    go_wp2_with fail
    go_roundw
    case rel => exact ⟨trivial, k + 1, by omega, by go_num, Hnx.out⟩
    case measure => simp [intOf] <;> omega
   ·have hc1 : (((S[k]'hks).toNat : Int) != 48) = true := by
     rw [hx, bne_iff_ne]
     intro e
     exact h48 (UInt8.toNat_inj.1 (by have : (48 : UInt8).toNat = 48 := rfl; omega))
    have Hfin := hI (show T = false by rw [hpr]; simp [zerB, h48])
    clear hc hx h48 hpr
    go_wp2_with fail
    go_ret
    exact ⟨by rw [Hfin.out]; rfl, Below.refl _ _⟩
  ·obtain rfl : k = n := by omega
   have hkn : ¬ (k : Int) < (k : Int) := by omega
   have Hfin := hI (show T = true by rw [hpre.out, List.drop_of_length_le (by rw [Hn.out]; exact Nat.le_refl _)]; rfl)
   go_wp2_with fail
   go_ret
   exact ⟨by rw [Hfin.out]; rfl, Below.refl _ _⟩
set_option maxHeartbeats 2000000 in
theorem qdigits_any (l : List UInt8) (w : World) (hl : l.length ≤ 1000) : Calls Tryz.prog 66 #[.string ⟨l.toArray⟩] w (Ret (.bool (digB l)) w) := by
 have hs : (⟨l.toArray⟩ : ByteArray).size = l.length := by rw [Lib.size_eq]
 have HX := hI (fun (q : Nat) (c : UInt8) (h : l[q]? = some c) => text_at h)
 obtain ⟨T, hT⟩ : ∃ T, digB l = T := ⟨_, rfl⟩
 rw [hT]
 have HT := hI (show T = (!l.isEmpty && l.all isD) from hT.symm)
 have hE : (!l.isEmpty) = decide (0 < l.length) := by cases l <;> simp
 rw [hE] at HT
 generalize (⟨l.toArray⟩ : ByteArray) = S at *
 generalize hn : l.length = n at *
 have Hn := hI hn
 clear hn hT hE
 go_enter Tryz.func66, Tryz.ntmps66
 go_wp2_with fail
 go_loopw [3] (fun i wr => wr = w ∧ ∃ k : Nat, k ≤ n ∧ i = .int .i64 (k : Int) ∧ Hid (l.all isD = (l.drop k).all isD)) (fun i _ => n - (intOf i).toNat)
 case atStart => exact ⟨rfl, 0, Nat.zero_le _, rfl, by unfold Hid; rw [List.drop_zero]⟩
 case round =>
  obtain ⟨rfl, k, hk, rfl, hpre⟩ := hrel
  rcases Nat.lt_or_ge k n with hlt | hge
  ·obtain ⟨c, hc⟩ : ∃ c, l[k]? = some c := ⟨l[k]'(by have := Hn.out; omega), by simp⟩
   have hks : k < S.size := by rw [hs]; exact hlt
   have hx := HX.out k c hc hks
   have hkn : (k : Int) < (n : Int) := by omega
   have hk0 : (0 : Int) ≤ (k : Int) := Int.natCast_nonneg _
   have hkw : IntKind.i64.wrap ((k : Int) + 1) = (k : Int) + 1 := IntWalk.i64_in _ (by omega)
   have hpr := hpre.out
   rw [drop_byte hc] at hpr
   obtain ⟨cn, hcn⟩ : ∃ cn, c.toNat = cn := ⟨_, rfl⟩
   have hc1 : ((S[k]'hks).toNat : Int) = (cn : Int) := by rw [hx, hcn]
   by_cases hd : isD c = true
   ·have hcr := isD_iff.1 hd
    rw [hcn] at hcr
    have h1 : ¬ (cn : Int) < 48 := by omega
    have h2 : ¬ (57 : Int) < (cn : Int) := by omega
    have Hnx := hI (show l.all isD = (l.drop (k + 1)).all isD by rw [hpr, List.all_cons, hd, Bool.true_and])
    clear hc hx hpr hcn hd
    go_wp2_with fail
    go_roundw
    case rel => exact ⟨trivial, k + 1, by omega, by go_num, Hnx.out⟩
    case measure => simp [intOf] <;> omega
   ·simp only [Bool.not_eq_true] at hd
    have Hfin := hI (show T = false by rw [HT.out, hpr, List.all_cons, hd, Bool.false_and, Bool.and_false])
    have hcr : cn < 48 ∨ 57 < cn := by
     have := isD_iff (c := c)
     rw [hd, hcn] at this
     simp at this
     omega
    clear hc hx hpr hcn hd
    rcases hcr with hcr | hcr
    ·have h1 : (cn : Int) < 48 := by omega
     go_wp2_with fail
     go_ret
     exact ⟨by rw [Hfin.out]; rfl, Below.refl _ _⟩
    ·have h1 : ¬ (cn : Int) < 48 := by omega
     have h2 : (57 : Int) < (cn : Int) := by omega
     go_wp2_with fail
     go_ret
     exact ⟨by rw [Hfin.out]; rfl, Below.refl _ _⟩
  ·obtain rfl : k = n := by omega
   have hkn : ¬ (k : Int) < (k : Int) := by omega
   have Hfin := hI (show T = decide (0 < k) by rw [HT.out, hpre.out, List.drop_of_length_le (by rw [Hn.out]; exact Nat.le_refl _)]; simp)
   go_wp2_with fail
   go_ret
   exact ⟨by rw [Hfin.out]; rfl, Below.refl _ _⟩
end Go.Proofs.YtacihodamichhaaGreatDoor
namespace Go.Proofs.YtacihodamichhaaGreatDoor
open Go.RowKit
set_option maxHeartbeats 2000000 in
theorem qparts_any (l : List UInt8) (w : World) (hl : l.length ≤ 1000) : Calls Tryz.prog 65 #[.string ⟨l.toArray⟩] w (Ret (.tuple #[.string ⟨(topL l).toArray⟩, .string ⟨(denT l).toArray⟩]) w) := by
 have HS := hI (fun w' => slash_any l w' hl)
 have hs : (⟨l.toArray⟩ : ByteArray).size = l.length := by rw [Lib.size_eq]
 rcases idx47 l with ⟨-, h2, h3, -⟩ | ⟨i, -, h2, h3, h4, h5⟩
 ·unfold denT
  rw [h2, if_neg (by decide), h3]
  rw [h3] at HS
  generalize hn : l.length = n at *
  generalize (⟨l.toArray⟩ : ByteArray) = S at *
  clear h2 h3 hl hn
  go_enter Tryz.func65, Tryz.ntmps65
  go_wp2_with (go_at_call 68; refine (HS.out _).mono ?_; rintro e w1 ⟨rfl, hb1⟩)
  go_ret2
  exact ⟨rfl, hb1⟩
 ·unfold denT
  rw [h3, if_pos rfl, h4, h5]
  rw [h4, List.length_take, Nat.min_eq_left (by omega)] at HS
  have e1 : (⟨l.toArray⟩ : ByteArray).extract 0 i = ⟨(l.take i).toArray⟩ := bytes_of (by rw [extract_list rfl, List.drop_zero])
  have e2 : (⟨l.toArray⟩ : ByteArray).extract (i + 1) (⟨l.toArray⟩ : ByteArray).size = ⟨(l.drop (i + 1)).toArray⟩ := bytes_of (by rw [extract_list rfl, List.take_of_length_le (by rw [hs]; exact Nat.le_refl _)])
  rw [← e1, ← e2]
  generalize hn : l.length = n at *
  generalize (⟨l.toArray⟩ : ByteArray) = S at *
  rw [hs]
  have g1 : IntKind.i64.wrap ((i : Int) + 1) = (i : Int) + 1 := IntWalk.i64_in _ (by omega)
  have g2 : (i : Int) ≤ (n : Int) := by omega
  have g3 : (i : Int) + 1 ≤ (n : Int) := by omega
  have g4 : (0 : Int) ≤ (i : Int) := Int.natCast_nonneg _
  have g5 : (0 : Int) ≤ (i : Int) + 1 := by omega
  have g6 : i ≤ n := by omega
  have g7 : i + 1 ≤ n := by omega
  have g8 : ((i : Int) + 1).toNat = i + 1 := by omega
  have g9 : ((i : Int) == (n : Int)) = false := by rw [beq_eq_false_iff_ne]; omega
  clear h3 h4 h5 e1 e2 hl hn h2
  go_enter Tryz.func65, Tryz.ntmps65
  go_wp2_with (go_at_call 68; refine (HS.out _).mono ?_; rintro e w1 ⟨rfl, hb1⟩)
  refine wp_region_held_drew (S := (fun _ => True)) (by kernel_rfl) (by exact trivial) (fun hHeld => ?_)
  refine wpAnyH_take (i := 0) (v := ?v1) rfl (by kernel_rfl) (by kernel_rfl) (by kernel_rfl) (fun _ _ _ h => h) (Or.inl ⟨by rfl, ?hy1⟩) (by assumption) ?rest1
  case hy1 => (intro w hSw; (try dsimp only at hSw); go_simp; try (with_reducible rfl))
  try simp only [Act.put, List.getElem_toArray, List.getElem_cons_zero, List.setIfInBounds_toArray, List.set_cons_zero, List.set_cons_succ]
  refine' tk 1 ?_; (try simp only [tkS]); refine' tk 2 ?_; (try simp only [tkS]); refine' tk 3 ?_; (try simp only [tkS]); refine' tk 4 ?_; (try simp only [tkS]); refine' tk 5 ?_; (try simp only [tkS]); refine' tk 6 ?_; (try simp only [tkS]); refine' tk 7 ?_; (try simp only [tkS]); refine' tk 8 ?_; (try simp only [tkS])
  refine tkD ?_ _
  go_wp2_with fail
  go_ret2
  exact ⟨rfl, hb1.dn 1⟩
end Go.Proofs.YtacihodamichhaaGreatDoor
namespace Go.Proofs.YtacihodamichhaaGreatDoor
theorem bytes_back {p : List UInt8} (h : AllD p) : bytesD (p.reverse.map dv) = p := by
 unfold bytesD
 rw [List.map_map, List.map_reverse, List.reverse_reverse]
 conv => rhs; rw [← List.map_id p]
 refine List.map_congr_left (fun c hc => ?_)
 have hd := isD_iff.1 (h c hc)
 show UInt8.ofNat (48 + dv c) = c
 have : 48 + dv c = c.toNat := by unfold dv; omega
 rw [this, UInt8.ofNat_toNat]
theorem canon {p : List UInt8} (h : AllD p) (hne : p ≠ []) (hh : p.head? ≠ some 48 ∨ p = [48]) : txtN false (valD p) = p := by
 rcases hh with hh | rfl
 ·have hl : D10.limbs (valD p) = p.reverse.map dv := by
   rw [← D10.natL_text]
   refine D10.limbs_of (D10.dg_text h) (fun d hd => ?_)
   rw [List.getLast?_map, List.getLast?_reverse] at hd
   simp only [Option.map_eq_some_iff] at hd
   obtain ⟨c, hc, rfl⟩ := hd
   have hcd := isD_iff.1 (h c (List.mem_of_head? hc))
   intro e
   refine hh ?_
   rw [hc]
   congr 1
   exact UInt8.toNat_inj.1 (by unfold dv at e; have : (48 : UInt8).toNat = 48 := rfl; omega)
  unfold txtN txtD
  rw [hl, if_neg (by simpa using hne), if_neg (by decide)]
  exact bytes_back h
 ·exact txtN_zero
theorem canon_top {t : List UInt8} (h : digB (absL t) = true) (hb : badI (absL t) (negB t) = false) : t = txtZ (sgn (negB t) (valD (absL t))) := by
 obtain ⟨hne, hd⟩ := digB_iff.1 h
 have hn := neg_abs t
 cases hneg : negB t with
 | false =>
  rw [hneg, if_neg (by decide)] at hn
  rw [hneg] at hb
  have hh : (absL t).head? ≠ some 48 ∨ absL t = [48] := by
   by_cases h48 : (absL t).head? = some 48
   ·right
    unfold badI at hb
    rw [h48] at hb
    simp at hb
    cases hp : absL t with
    | nil => rw [hp] at h48; cases h48
    | cons c r =>
     rw [hp] at hb h48
     cases h48
     simp at hb
     rw [hb]
   ·exact .inl h48
  have hc := canon hd hne hh
  rw [show sgn false (valD (absL t)) = ((valD (absL t) : Nat) : Int) from rfl, txtZ_nat, hc]
  exact hn
 | true =>
  rw [hneg, if_pos rfl] at hn
  rw [hneg] at hb
  have hh : (absL t).head? ≠ some 48 := by
   intro h48
   unfold badI at hb
   rw [h48] at hb
   simp at hb
  have hc := canon hd hne (.inl hh)
  have hv : valD (absL t) ≠ 0 := by
   intro e
   rw [e, txtN_zero] at hc
   exact hh (by rw [← hc]; rfl)
  have e1 : sgn true (valD (absL t)) = -((valD (absL t) : Nat) : Int) := rfl
  have hlt : -((valD (absL t) : Nat) : Int) < 0 := by omega
  unfold txtZ
  rw [e1, decide_eq_true hlt, Int.natAbs_neg, Int.natAbs_natCast]
  have hl : D10.limbs (valD (absL t)) ≠ [] := fun e => hv (D10.limbs_nil.1 e)
  unfold txtN txtD at hc ⊢
  rw [if_neg hl] at hc ⊢
  rw [if_pos rfl]
  rw [if_neg (by decide)] at hc
  rw [hc]
  exact hn
theorem canon_den {b : List UInt8} (h : digB b = true) (hh : b.head? ≠ some 48) : b = txtN false (valD b) := (canon (digB_iff.1 h).2 (digB_iff.1 h).1 (.inl hh)).symm
end Go.Proofs.YtacihodamichhaaGreatDoor
