/-
  Parts of the proof: Err, Rq1, Kn3, Lz.
-/
import Derived.Lib.ItoaNum
import Derived.Test.YtacihodamichhaaGreatDoorU29
import Derived.Test.YtacihodamichhaaGreatDoorU30
namespace Go.Proofs.YtacihodamichhaaGreatDoor
def denT (l : List UInt8) : List UInt8 := if divB l then botL l else [49]
def errR (l : List UInt8) : Int :=
 if !digB (absL (topL l)) || !digB (denT l) then 14
 else if zerB (denT l) then 19
 else if (decide (1 < (absL (topL l)).length) && (absL (topL l)).head? == some 48) || topL l == [45, 48] || (denT l).head? == some 48 then 3
 else if divB l && (denT l == [49] || Nat.gcd (valD (absL (topL l))) (valD (denT l)) != 1) then 3
 else 0
theorem valD_cons (c : UInt8) (l : List UInt8) : valD (c :: l) = dv c * 10 ^ l.length + valD l := by
 have := valD_append [c] l
 simpa [valD, valF_cons, valF_nil] using this
theorem val_one {d : List UInt8} (h : AllD d) (hh : d.head? ≠ some 48) (h1 : valD d = 1) : d = [49] := by
 cases d with
 | nil => exact absurd h1 (by decide)
 | cons c l =>
  have hc := isD_iff.1 (h c (by simp))
  have hne : c ≠ 48 := fun e => hh (by rw [e]; rfl)
  have hd : 1 ≤ dv c := by
   unfold dv
   rcases Nat.lt_or_ge 48 c.toNat with h2 | h2
   ·omega
   ·exact absurd (UInt8.toNat_inj.1 (by have : (48 : UInt8).toNat = 48 := rfl; omega)) hne
  rw [valD_cons] at h1
  cases l with
  | nil =>
   simp only [List.length_nil, Nat.pow_zero, Nat.mul_one] at h1
   have h0 : valD [] = 0 := rfl
   rw [h0] at h1
   have h3 : c = 49 := UInt8.toNat_inj.1 (by unfold dv at h1; have : (49 : UInt8).toNat = 49 := rfl; omega)
   rw [h3]
  | cons a r =>
   exfalso
   have h3 : 10 ≤ 10 ^ (a :: r).length := by
    rw [List.length_cons, Nat.pow_succ]
    have := Nat.pow_pos (n := r.length) (show 0 < 10 by decide)
    omega
   have h4 : 1 * 10 ^ (a :: r).length ≤ dv c * 10 ^ (a :: r).length := Nat.mul_le_mul_right _ hd
   omega
theorem top_m0 (t : List UInt8) : (t == [45, 48]) = (negB t && absL t == [48]) := by
 have h := neg_abs t
 cases hn : negB t with
 | true =>
  rw [hn, if_pos rfl] at h
  rw [Bool.true_and]
  conv => lhs; rw [h]
  rw [Bool.eq_iff_iff, beq_iff_eq, beq_iff_eq]
  simp
 | false =>
  rw [Bool.false_and, beq_eq_false_iff_ne]
  rintro rfl
  exact absurd hn (by decide)
theorem bad_eq {p : List UInt8} (neg : Bool) : ((decide (1 < p.length) && p.head? == some 48) || (neg && p == [48])) = badI p neg := by
 unfold badI
 cases p with
 | nil => cases neg <;> rfl
 | cons c r =>
  by_cases hc : c = 48
  ·subst hc
   cases r <;> cases neg <;> simp
  ·have hb : (c == 48) = false := by rw [beq_eq_false_iff_ne]; exact hc
   simp [hb]
theorem head_bad {b : List UInt8} (h : digB b = true) (hz : zerB b = false) : (b.head? == some 48) = badI b false := by
 unfold badI
 cases b with
 | nil => rfl
 | cons c r =>
  by_cases hc : c = 48
  ·subst hc
   cases r with
   | nil => exact absurd hz (by decide)
   | cons a s => simp
  ·simp [hc]
theorem errR_eq (l : List UInt8) : errR l = errL l := by
 unfold errR errL denT
 rw [top_m0]
 by_cases h1 : digB (absL (topL l)) = true
 ·by_cases h2 : divB l = true
  ·rw [if_pos h2]
   by_cases h3 : digB (botL l) = true
   ·by_cases h4 : zerB (botL l) = true
    ·simp [h1, h2, h3, h4]
    ·simp only [Bool.not_eq_true] at h4
     rw [head_bad h3 h4, bad_eq]
     by_cases h5 : badI (absL (topL l)) (negB (topL l)) = true
     ·simp [h1, h2, h3, h4, h5]
     ·simp only [Bool.not_eq_true] at h5
      by_cases h6 : badI (botL l) false = true
      ·simp [h1, h2, h3, h4, h5, h6]
      ·simp only [Bool.not_eq_true] at h6
       have hh : (botL l).head? ≠ some 48 := by
        have := head_bad h3 h4
        rw [h6, beq_eq_false_iff_ne] at this
        exact this
       have h7 : (botL l == [49]) = (valD (botL l) == 1) := by
        rw [Bool.eq_iff_iff, beq_iff_eq, beq_iff_eq]
        exact ⟨fun e => by rw [e]; rfl, fun e => val_one (digB_iff.1 h3).2 hh e⟩
       rw [h7]
       simp [h1, h2, h3, h4, h5, h6]
   ·simp only [Bool.not_eq_true] at h3
    simp [h1, h2, h3]
  ·simp only [Bool.not_eq_true] at h2
   rw [h2]
   simp only [Bool.false_eq_true, if_false, Bool.false_and, Bool.or_false]
   have e1 : digB [49] = true := by decide
   have e2 : zerB [49] = false := by decide
   have e3 : (([49] : List UInt8).head? == some 48) = false := by decide
   rw [e1, e2, e3]
   simp only [Bool.or_false, bad_eq]
   simp [h1]
 ·simp only [Bool.not_eq_true] at h1
  simp [h1]
end Go.Proofs.YtacihodamichhaaGreatDoor
namespace Go.Proofs.YtacihodamichhaaGreatDoor
open Go.RowKit
theorem drop_byte {l : List UInt8} {k : Nat} {c : UInt8} (h : l[k]? = some c) : l.drop k = c :: l.drop (k + 1) := by
 have hi : k < l.length := by
  rcases Nat.lt_or_ge k l.length with h' | h'
  ·exact h'
  ·rw [List.getElem?_eq_none h'] at h; cases h
 rw [List.getElem?_eq_getElem hi] at h
 rw [List.drop_eq_getElem_cons hi, Option.some.inj h]
set_option maxHeartbeats 2000000 in
theorem slash_any (l : List UInt8) (w : World) (hl : l.length ≤ 1000) : Calls Tryz.prog 68 #[.string ⟨l.toArray⟩] w (Ret (.int .i64 ((topL l).length : Int)) w) := by
 have hs : (⟨l.toArray⟩ : ByteArray).size = l.length := by rw [Lib.size_eq]
 have HX := hI (fun (q : Nat) (c : UInt8) (h : l[q]? = some c) => text_at h)
 obtain ⟨T, hT⟩ : ∃ T, (topL l).length = T := ⟨_, rfl⟩
 rw [hT]
 have HT := hI hT
 generalize (⟨l.toArray⟩ : ByteArray) = S at *
 generalize hn : l.length = n at *
 have Hn := hI hn
 clear hn hT
 go_enter Tryz.func68, Tryz.ntmps68
 go_wp2_with fail
 go_loopw [3] (fun i wr => wr = w ∧ ∃ k : Nat, k ≤ n ∧ i = .int .i64 (k : Int) ∧ Hid (T = k + (topL (l.drop k)).length)) (fun i _ => n - (intOf i).toNat)
 case atStart => exact ⟨rfl, 0, Nat.zero_le _, rfl, by unfold Hid; rw [List.drop_zero, Nat.zero_add, HT.out]⟩
 case round =>
  obtain ⟨rfl, k, hk, rfl, hpre⟩ := hrel
  rcases Nat.lt_or_ge k n with hlt | hge
  ·obtain ⟨c, hc⟩ : ∃ c, l[k]? = some c := ⟨l[k]'(by have := Hn.out; omega), by simp⟩
   have hks : k < S.size := by rw [hs]; exact hlt
   have hx := HX.out k c hc hks
   have hkn : (k : Int) < (n : Int) := by omega
   have hk0 : (0 : Int) ≤ (k : Int) := Int.natCast_nonneg _
   have hkw : IntKind.i64.wrap ((k : Int) + 1) = (k : Int) + 1 := IntWalk.i64_in _ (by omega)
   by_cases h47 : c = 47
   ·have hc1 : ((S[k]'hks).toNat : Int) = 47 := by rw [hx, h47]; rfl
    have hfin : T = k := by rw [hpre.out, drop_byte hc, h47]; rfl
    have Hfin := hI hfin
    clear hc hx h47 hfin
    go_wp2_with fail
    go_ret
    exact ⟨by rw [Hfin.out]; rfl, Below.refl _ _⟩
   ·have hc1 : (((S[k]'hks).toNat : Int) == 47) = false := by
     rw [hx, beq_eq_false_iff_ne]
     intro e
     exact h47 (UInt8.toNat_inj.1 (by have : (47 : UInt8).toNat = 47 := rfl; omega))
    have Hnx := hI (show T = (k + 1) + (topL (l.drop (k + 1))).length by
     rw [hpre.out, drop_byte hc]
     have h2 : (c != 47) = true := by rw [bne_iff_ne]; exact h47
     rw [show topL (c :: l.drop (k + 1)) = c :: topL (l.drop (k + 1)) by simp [topL, h2], List.length_cons]
     omega)
    clear hc hx h47
    go_wp2_with fail
    go_roundw
    case rel => exact ⟨trivial, k + 1, by omega, by go_num, Hnx.out⟩
    case measure => simp [intOf] <;> omega
  ·obtain rfl : k = n := by omega
   have hkn : ¬ (k : Int) < (k : Int) := by omega
   have Hfin := hI (show T = k by rw [hpre.out, List.drop_of_length_le (by rw [Hn.out]; exact Nat.le_refl _)]; rfl)
   go_wp2_with fail
   go_ret
   exact ⟨by rw [Hfin.out]; rfl, Below.refl _ _⟩
set_option maxHeartbeats 2000000 in
theorem qzeros_any (l : List UInt8) (w : World) (hl : l.length ≤ 1000) : Calls Tryz.prog 67 #[.string ⟨l.toArray⟩] w (Ret (.bool (zerB l)) w) := by
 have hs : (⟨l.toArray⟩ : ByteArray).size = l.length := by rw [Lib.size_eq]
 have HX := hI (fun (q : Nat) (c : UInt8) (h : l[q]? = some c) => text_at h)
 obtain ⟨T, hT⟩ : ∃ T, zerB l = T := ⟨_, rfl⟩
 rw [hT]
 have HT := hI hT
 generalize (⟨l.toArray⟩ : ByteArray) = S at *
 generalize hn : l.length = n at *
 have Hn := hI hn
 clear hn hT
 go_enter Tryz.func67, Tryz.ntmps67
 go_wp2_with fail
 go_loopw [3] (fun i wr => wr = w ∧ ∃ k : Nat, k ≤ n ∧ i = .int .i64 (k : Int) ∧ Hid (T = zerB (l.drop k))) (fun i _ => n - (intOf i).toNat)
 case atStart => exact ⟨rfl, 0, Nat.zero_le _, rfl, by unfold Hid; rw [List.drop_zero, HT.out]⟩
 case round =>
  obtain ⟨rfl, k, hk, rfl, hpre⟩ := hrel
  rcases Nat.lt_or_ge k n with hlt | hge
  ·obtain ⟨c, hc⟩ : ∃ c, l[k]? = some c := ⟨l[k]'(by have := Hn.out; omega), by simp⟩
   have hks : k < S.size := by rw [hs]; exact hlt
   have hx := HX.out k c hc hks
   have hkn : (k : Int) < (n : Int) := by omega
   have hk0 : (0 : Int) ≤ (k : Int) := Int.natCast_nonneg _
   have hkw : IntKind.i64.wrap ((k : Int) + 1) = (k : Int) + 1 := IntWalk.i64_in _ (by omega)
   have hpr := hpre.out
   rw [drop_byte hc] at hpr
   by_cases h48 : c = 48
   ·have hc1 : ((S[k]'hks).toNat : Int) = 48 := by rw [hx, h48]; rfl
    have Hnx := hI (show T = zerB (l.drop (k + 1)) by rw [hpr, h48]; simp [zerB])
    clear hc hx h48 hpr
    go_wp2_with fail
    go_roundw
    case rel => exact ⟨trivial, k + 1, by omega, by go_num, Hnx.out⟩
    case measure => simp [intOf] <;> omega
   ·have hc1 : (((S[k]'hks).toNat : Int) != 48) = true := by
     rw [hx, bne_iff_ne]
     intro e
     exact h48 (UInt8.toNat_inj.1 (by have : (48 : UInt8).toNat = 48 := rfl; omega))
    have Hfin := hI (show T = false by rw [hpr]; simp [zerB, h48])
    clear hc hx h48 hpr
    go_wp2_with fail
    go_ret
    exact ⟨by rw [Hfin.out]; rfl, Below.refl _ _⟩
  ·obtain rfl : k = n := by omega
   have hkn : ¬ (k : Int) < (k : Int) := by omega
   have Hfin := hI (show T = true by rw [hpre.out, List.drop_of_length_le (by rw [Hn.out]; exact Nat.le_refl _)]; rfl)
   go_wp2_with fail
   go_ret
   exact ⟨by rw [Hfin.out]; rfl, Below.refl _ _⟩
set_option maxHeartbeats 2000000 in
theorem qdigits_any (l : List UInt8) (w : World) (hl : l.length ≤ 1000) : Calls Tryz.prog 66 #[.string ⟨l.toArray⟩] w (Ret (.bool (digB l)) w) := by
 have hs : (⟨l.toArray⟩ : ByteArray).size = l.length := by rw [Lib.size_eq]
 have HX := hI (fun (q : Nat) (c : UInt8) (h : l[q]? = some c) => text_at h)
 obtain ⟨T, hT⟩ : ∃ T, digB l = T := ⟨_, rfl⟩
 rw [hT]
 have HT := hI (show T = (!l.isEmpty && l.all isD) from hT.symm)
 have hE : (!l.isEmpty) = decide (0 < l.length) := by cases l <;> simp
 rw [hE] at HT
 generalize (⟨l.toArray⟩ : ByteArray) = S at *
 generalize hn : l.length = n at *
 have Hn := hI hn
 clear hn hT hE
 go_enter Tryz.func66, Tryz.ntmps66
 go_wp2_with fail
 go_loopw [3] (fun i wr => wr = w ∧ ∃ k : Nat, k ≤ n ∧ i = .int .i64 (k : Int) ∧ Hid (l.all isD = (l.drop k).all isD)) (fun i _ => n - (intOf i).toNat)
 case atStart => exact ⟨rfl, 0, Nat.zero_le _, rfl, by unfold Hid; rw [List.drop_zero]⟩
 case round =>
  obtain ⟨rfl, k, hk, rfl, hpre⟩ := hrel
  rcases Nat.lt_or_ge k n with hlt | hge
  ·obtain ⟨c, hc⟩ : ∃ c, l[k]? = some c := ⟨l[k]'(by have := Hn.out; omega), by simp⟩
   have hks : k < S.size := by rw [hs]; exact hlt
   have hx := HX.out k c hc hks
   have hkn : (k : Int) < (n : Int) := by omega
   have hk0 : (0 : Int) ≤ (k : Int) := Int.natCast_nonneg _
   have hkw : IntKind.i64.wrap ((k : Int) + 1) = (k : Int) + 1 := IntWalk.i64_in _ (by omega)
   have hpr := hpre.out
   rw [drop_byte hc] at hpr
   obtain ⟨cn, hcn⟩ : ∃ cn, c.toNat = cn := ⟨_, rfl⟩
   have hc1 : ((S[k]'hks).toNat : Int) = (cn : Int) := by rw [hx, hcn]
   by_cases hd : isD c = true
   ·have hcr := isD_iff.1 hd
    rw [hcn] at hcr
    have h1 : ¬ (cn : Int) < 48 := by omega
    have h2 : ¬ (57 : Int) < (cn : Int) := by omega
    have Hnx := hI (show l.all isD = (l.drop (k + 1)).all isD by rw [hpr, List.all_cons, hd, Bool.true_and])
    clear hc hx hpr hcn hd
    go_wp2_with fail
    go_roundw
    case rel => exact ⟨trivial, k + 1, by omega, by go_num, Hnx.out⟩
    case measure => simp [intOf] <;> omega
   ·simp only [Bool.not_eq_true] at hd
    have Hfin := hI (show T = false by rw [HT.out, hpr, List.all_cons, hd, Bool.false_and, Bool.and_false])
    have hcr : cn < 48 ∨ 57 < cn := by
     have := isD_iff (c := c)
     rw [hd, hcn] at this
     simp at this
     omega
    clear hc hx hpr hcn hd
    rcases hcr with hcr | hcr
    ·have h1 : (cn : Int) < 48 := by omega
     go_wp2_with fail
     go_ret
     exact ⟨by rw [Hfin.out]; rfl, Below.refl _ _⟩
    ·have h1 : ¬ (cn : Int) < 48 := by omega
     have h2 : (57 : Int) < (cn : Int) := by omega
     go_wp2_with fail
     go_ret
     exact ⟨by rw [Hfin.out]; rfl, Below.refl _ _⟩
  ·obtain rfl : k = n := by omega
   have hkn : ¬ (k : Int) < (k : Int) := by omega
   have Hfin := hI (show T = decide (0 < k) by rw [HT.out, hpre.out, List.drop_of_length_le (by rw [Hn.out]; exact Nat.le_refl _)]; simp)
   go_wp2_with fail
   go_ret
   exact ⟨by rw [Hfin.out]; rfl, Below.refl _ _⟩
end Go.Proofs.YtacihodamichhaaGreatDoor
namespace Go.Proofs.YtacihodamichhaaGreatDoor
theorem lz_of {top : Nat} (h0 : top ≠ 0) (h1 : top < 4294967296) : ∃ s : Nat, s < 32 ∧ ((32 : Int) - (Lib.bitLen ((top : Int)).toNat : Int)) = (s : Int) ∧ 2147483648 ≤ top * 2 ^ s ∧ (top + 1) * 2 ^ s ≤ 4294967296 := by
 have h2 := Lib.bitLenAux_bounds 64 top (by omega) h0
 have h3 : Lib.bitLen top ≤ 32 := Lib.bitLen_le top 32 (by decide) h1
 have e : Lib.bitLen top = Lib.bitLenAux 64 top := rfl
 rw [← e] at h2
 rw [Int.toNat_natCast]
 generalize Lib.bitLen top = L at *
 obtain ⟨h4, h5, h6⟩ := h2
 refine ⟨32 - L, by omega, by omega, ?_, ?_⟩
 ·have h7 := Nat.mul_le_mul_right (2 ^ (32 - L)) h5
  rw [← Nat.pow_add, show L - 1 + (32 - L) = 31 by omega] at h7
  exact h7
 ·have h7 := Nat.mul_le_mul_right (2 ^ (32 - L)) h6
  rw [← Nat.pow_add, show L + (32 - L) = 32 by omega] at h7
  exact h7
theorem limbs_len_eq {V m : Nat} (h1 : 4294967296 ^ m ≤ V) (h2 : V < 4294967296 ^ (m + 1)) : (limbs V).length = m + 1 := by
 have h0 : V ≠ 0 := by have := Nat.pow_pos (n := m) (show 0 < 4294967296 by decide); omega
 have h3 := limbs_pow h0
 have h4 := natL_lt (limbs_dg V)
 rw [natL_limbs] at h4
 have h5 : (limbs V).length - 1 < m + 1 := (Nat.pow_lt_pow_iff_right (by decide)).1 (Nat.lt_of_le_of_lt h3 h2)
 have h6 : m < (limbs V).length := (Nat.pow_lt_pow_iff_right (by decide)).1 (Nat.lt_of_le_of_lt h1 h4)
 omega
theorem shift_len {y s m top : Nat} (hl : (limbs y).length = m + 1) (ht : (limbs y)[m]? = some top) (h1 : 2147483648 ≤ top * 2 ^ s) (h2 : (top + 1) * 2 ^ s ≤ 4294967296) : (limbs (y * 2 ^ s)).length = m + 1 ∧ 4294967296 ^ (m + 1) ≤ 2 * (y * 2 ^ s) := by
 have h3 := take_next ht
 rw [List.take_of_length_le (by omega), natL_limbs] at h3
 have h4 := natL_lt ((limbs_dg y).take m)
 rw [List.length_take, Nat.min_eq_left (by omega)] at h4
 rw [Nat.pow_succ]
 have h5 : y * 2 ^ s = natL ((limbs y).take m) * 2 ^ s + 4294967296 ^ m * (top * 2 ^ s) := by
  conv => lhs; rw [h3]
  rw [Nat.add_mul, Nat.mul_assoc]
 have h3' : y < 4294967296 ^ m * (top + 1) := by rw [Nat.mul_add, Nat.mul_one]; omega
 have h6 : y * 2 ^ s < 4294967296 ^ m * ((top + 1) * 2 ^ s) := by
  rw [← Nat.mul_assoc]
  exact Nat.mul_lt_mul_of_pos_right h3' (Nat.two_pow_pos s)
 have h7 : 4294967296 ^ m * ((top + 1) * 2 ^ s) ≤ 4294967296 ^ m * 4294967296 := Nat.mul_le_mul_left _ h2
 have h8 : 4294967296 ^ m * 2147483648 ≤ 4294967296 ^ m * (top * 2 ^ s) := Nat.mul_le_mul_left _ h1
 generalize 4294967296 ^ m * (top * 2 ^ s) = P at *
 generalize natL ((limbs y).take m) * 2 ^ s = Z at *
 generalize y * 2 ^ s = YS at *
 have g1 : 4294967296 ^ m ≤ YS := by
  clear h1 h2 h3 h3' h4
  generalize 4294967296 ^ m = K at *
  omega
 have g2 : YS < 4294967296 ^ (m + 1) := by
  rw [Nat.pow_succ]
  clear h1 h2 h3 h3' h4
  generalize 4294967296 ^ m = K at *
  omega
 have g3 : 4294967296 ^ m * 4294967296 ≤ 2 * YS := by
  have e : 2 * (4294967296 ^ m * 2147483648) = 4294967296 ^ m * 4294967296 := by rw [Nat.mul_left_comm]
  rw [← e]
  refine Nat.mul_le_mul_left 2 (Nat.le_trans h8 ?_)
  rw [h5]
  exact Nat.le_add_left _ _
 exact ⟨limbs_len_eq g1 g2, g3⟩
theorem win_split {us : List Nat} {j m V : Nat} (hl : j + m + 1 ≤ us.length) (h : natL us < 4294967296 ^ (j + 1) * V) (hV : V < 4294967296 ^ m) :
  natL us = natL (us.take j) + 4294967296 ^ j * natL ((us.drop j).take (m + 1)) ∧ natL ((us.drop j).take (m + 1)) < 4294967296 * V ∧ natL (us.drop (j + m + 1)) = 0 := by
 have e1 : natL us = natL (us.take j) + 4294967296 ^ j * natL (us.drop j) := by
  conv => lhs; rw [← List.take_append_drop j us]
  rw [natL_append, List.length_take, Nat.min_eq_left (by omega)]
 have e2 : natL (us.drop j) = natL ((us.drop j).take (m + 1)) + 4294967296 ^ (m + 1) * natL (us.drop (j + m + 1)) := by
  conv => lhs; rw [← List.take_append_drop (m + 1) (us.drop j)]
  rw [natL_append, List.length_take, List.length_drop, Nat.min_eq_left (by omega), List.drop_drop, Nat.add_assoc]
 have hK : 0 < 4294967296 ^ j := Nat.pow_pos (by decide)
 have h1 : 4294967296 ^ j * natL (us.drop j) < 4294967296 ^ j * (4294967296 * V) := by
  rw [Nat.pow_succ, Nat.mul_assoc] at h
  rw [e1] at h
  exact Nat.lt_of_le_of_lt (Nat.le_add_left _ _) h
 have h2 := Nat.lt_of_mul_lt_mul_left h1
 have h3 : natL (us.drop (j + m + 1)) = 0 := by
  rcases Nat.eq_zero_or_pos (natL (us.drop (j + m + 1))) with h0 | h0
  ·exact h0
  ·exfalso
   have h4 : 4294967296 ^ (m + 1) * 1 ≤ 4294967296 ^ (m + 1) * natL (us.drop (j + m + 1)) := Nat.mul_le_mul_left _ h0
   rw [Nat.mul_one, Nat.pow_succ] at h4
   rw [Nat.pow_succ] at e2
   clear h h1 e1 hK
   generalize 4294967296 ^ m = K at *
   generalize K * 4294967296 * natL (us.drop (j + m + 1)) = P at *
   omega
 rw [h3, Nat.mul_zero, Nat.add_zero] at e2
 rw [e2] at e1 h2
 exact ⟨e1, h2, h3⟩
theorem long_step {us pre win win' post : List Nat} {j V U D Q : Nat} (hpl : pre.length = j) (hpd : Dg pre) (hU : natL us = natL pre + 4294967296 ^ j * natL win) (hp : natL post = 0) (hw : natL win' = natL win % V) (hQ : Q = natL win / V) (hV : 0 < V) (h : D * V + natL us = U) :
  (D + 4294967296 ^ j * Q) * V + natL (pre ++ (win' ++ post)) = U ∧ natL (pre ++ (win' ++ post)) < 4294967296 ^ j * V := by
 have e1 : natL (pre ++ (win' ++ post)) = natL pre + 4294967296 ^ j * (natL win % V) := by
  rw [natL_append, natL_append, hpl, hp, Nat.mul_zero, Nat.add_zero, hw]
 have e2 := Nat.div_add_mod (natL win) V
 have e3 : (D + 4294967296 ^ j * Q) * V = D * V + 4294967296 ^ j * (V * Q) := by rw [Nat.add_mul, Nat.mul_assoc, Nat.mul_comm Q]
 have e4 : 4294967296 ^ j * natL win = 4294967296 ^ j * (V * Q) + 4294967296 ^ j * (natL win % V) := by rw [hQ, ← Nat.mul_add, e2]
 refine ⟨by rw [e1, e3]; omega, ?_⟩
 rw [e1]
 have h1 := natL_lt hpd
 rw [hpl] at h1
 have h2 : 4294967296 ^ j * (natL win % V + 1) ≤ 4294967296 ^ j * V := Nat.mul_le_mul_left _ (Nat.mod_lt _ hV)
 rw [Nat.mul_add] at h2
 omega
theorem natL_low (j Q : Nat) (done : List Nat) : natL (List.replicate j 0 ++ (Q :: done)) = natL (List.replicate (j + 1) 0 ++ done) + 4294967296 ^ j * Q := by
 rw [natL_append, natL_append, natL_zeros, natL_zeros, List.length_replicate, List.length_replicate, natL, Nat.pow_succ, Nat.mul_add, Nat.mul_assoc]
 omega
theorem long_end {x y s D R : Nat} (hy : 0 < y) (h : D * (y * 2 ^ s) + R = x * 2 ^ s) (hR : R < y * 2 ^ s) : D = x / y ∧ R / 2 ^ s = x % y := by
 have hs := Nat.two_pow_pos s
 have h1 : R = x * 2 ^ s % (y * 2 ^ s) := by
  rw [← h, Nat.mul_comm D, Nat.mul_add_mod, Nat.mod_eq_of_lt hR]
 have h2 : D = x * 2 ^ s / (y * 2 ^ s) := by
  rw [← h, Nat.mul_comm D, Nat.mul_add_div (Nat.mul_pos hy hs), Nat.div_eq_of_lt hR, Nat.add_zero]
 rw [Nat.mul_div_mul_right _ _ hs] at h2
 rw [Nat.mul_mod_mul_right] at h1
 exact ⟨h2, by rw [h1, Nat.mul_div_cancel _ hs]⟩
end Go.Proofs.YtacihodamichhaaGreatDoor
namespace Go.Proofs
theorem Tryz.bits_lz32 (x : Int) (w : World) (h0 : 0 ≤ x) (h1 : x ≤ 4294967295) :
  Calls Tryz.prog 209 #[.int .u32 x] w fun e w' => e = .returned (.int .i64 (32 - (Lib.bitLen x.toNat : Int))) ∧ w' = w := Tryz.bits_LeadingZeros32 x w h0 h1
end Go.Proofs
