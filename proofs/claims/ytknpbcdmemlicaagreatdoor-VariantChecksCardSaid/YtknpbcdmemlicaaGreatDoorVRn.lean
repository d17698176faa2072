/-
  The runes of a string that is no name (plain).
-/
import Derived.Test.YtknpbcdmemlicaaGreatDoorVFe
import Derived.Lib.DecodeN
import Derived.Laws.RangeString
import Derived.Shelf.GgClosure.StringsIndexFunc
namespace Go.Proofs.YtknpbcdmemlicaaGreatDoor
open Go.RowKit

def badR (x : Nat) : Bool := decide (x < 33) || decide (126 < x)
theorem decode_high (s : ByteArray) (pos : Nat) (h : pos < s.size) (hb : 128 ≤ (s[pos]'h).toNat) : 126 < (Utf8.decode s pos).1 := by
  rw [Lib.decode_at]
  have e : s.get! pos = s[pos]'h := by
    unfold ByteArray.get!
    exact getElem!_pos s.data pos h
  rw [e]
  unfold Lib.decodeN
  repeat' split
  all_goals first | omega | (simp only; omega)
theorem idx_from (s : ByteArray) : ∀ (f pos : Nat), s.size ≤ pos + f → decide (0 ≤ Lib.idxFuncFrom badR true s f pos) = !((s.data.toList.drop pos).all fun b => decide (33 ≤ b.toNat) && decide (b.toNat ≤ 126))
  | 0, pos, h => by
    rw [List.drop_of_length_le (by rw [← Lib.size_eq]; omega)]
    rfl
  | f + 1, pos, h => by
    unfold Lib.idxFuncFrom
    by_cases hp : pos < s.size
    · rw [if_pos hp]
      have hl : pos < s.data.toList.length := by rw [← Lib.size_eq]; exact hp
      have hd : s.data.toList.drop pos = s[pos]'hp :: s.data.toList.drop (pos + 1) := List.drop_eq_getElem_cons hl
      rw [hd, List.all_cons]
      by_cases ha : (s[pos]'hp).toNat < 128
      · rw [decode_ascii _ _ hp ha]
        simp only
        by_cases hg : 33 ≤ (s[pos]'hp).toNat ∧ (s[pos]'hp).toNat ≤ 126
        · rw [if_neg (by unfold badR; rw [decide_eq_false (by omega), decide_eq_false (by omega)]; decide), decide_eq_true hg.1, decide_eq_true hg.2]
          exact idx_from s f (pos + 1) (by omega)
        · have hb : badR (s[pos]'hp).toNat = true := by unfold badR; rw [Bool.or_eq_true, decide_eq_true_eq, decide_eq_true_eq]; omega
          rw [if_pos hb]
          have : (decide (33 ≤ (s[pos]'hp).toNat) && decide ((s[pos]'hp).toNat ≤ 126)) = false := by rw [Bool.and_eq_false_iff, decide_eq_false_iff_not, decide_eq_false_iff_not]; omega
          rw [this, Bool.false_and, decide_eq_true (by omega)]
          rfl
      · have hh := decode_high s pos hp (by omega)
        have hb : badR (Utf8.decode s pos).1 = true := by unfold badR; rw [Bool.or_eq_true, decide_eq_true_eq, decide_eq_true_eq]; omega
        rw [if_pos hb]
        have : (decide (33 ≤ (s[pos]'hp).toNat) && decide ((s[pos]'hp).toNat ≤ 126)) = false := by rw [Bool.and_eq_false_iff, decide_eq_false_iff_not, decide_eq_false_iff_not]; omega
        rw [this, Bool.false_and, decide_eq_true (by omega)]
        rfl
    · rw [if_neg hp, List.drop_of_length_le (by rw [← Lib.size_eq]; omega)]
      rfl
theorem idx_good (s : ByteArray) : decide (0 ≤ Lib.idxFunc badR true s) = !goodB s := by
  have := idx_from s s.size 0 (by omega)
  rwa [List.drop_zero] at this

end Go.Proofs.YtknpbcdmemlicaaGreatDoor
