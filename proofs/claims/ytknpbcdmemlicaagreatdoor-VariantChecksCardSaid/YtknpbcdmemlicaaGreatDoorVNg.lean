/-
  isName and the model's name at every string.
-/
import Derived.Test.YtknpbcdmemlicaaGreatDoorVRn
import Derived.Test.YtknpbcdmemlicaaGreatDoorVName
import Derived.Test.YtknpbcdmemlicaaGreatDoorShelf
namespace Go.Proofs.YtknpbcdmemlicaaGreatDoor
open Go.RowKit

theorem pbad (x : Nat) (w : World) (hx : x ≤ 1114111) : Calls Tryz.prog 52 #[.int .i32 (x : Int)] w (fun e w' => e = .returned (.bool (badR x)) ∧ Below w.heap.size w w') := by
  unfold badR
  rcases Nat.lt_or_ge x 33 with h | h
  · have a0 : (x : Int) < 33 := by omega
    rw [decide_eq_true h, Bool.true_or]
    go_enter Tryz.func52, Tryz.ntmps52
    go_wp2
    go_ret
    exact ⟨rfl, Below.refl _ _⟩
  · have a0 : ¬ (x : Int) < 33 := by omega
    rw [decide_eq_false (by omega), Bool.false_or]
    rcases Nat.lt_or_ge 126 x with h' | h'
    · have a1 : (126 : Int) < x := by omega
      rw [decide_eq_true h']
      go_enter Tryz.func52, Tryz.ntmps52
      go_wp2
      go_ret
      exact ⟨rfl, Below.refl _ _⟩
    · have a1 : ¬ (126 : Int) < x := by omega
      rw [decide_eq_false (by omega)]
      go_enter Tryz.func52, Tryz.ntmps52
      go_wp2
      go_ret
      exact ⟨rfl, Below.refl _ _⟩
theorem empty_size {s : ByteArray} : s.toList.isEmpty = decide (s.size = 0) := by
  rw [ByteArray.toList_eq, Lib.size_eq, Bool.eq_iff_iff, List.isEmpty_iff, decide_eq_true_eq, List.length_eq_zero_iff]

set_option maxHeartbeats 1000000 in
theorem isName_g (s : ByteArray) (w : World) : Calls Tryz.prog 25 #[.string s] w (Ret (.bool (nameB s)) w) := by
  have H := Lib.hid (fun w' => Tryz.strings_ContainsFunc_grows 52 #[] (enters_of Tryz.func52 (by kernel_rfl) rfl) badR s w' (fun W x hx _ => pbad x W hx))
  rw [idx_good s] at H
  unfold nameB
  by_cases h0 : s.size = 0
  · have he : s.toList.isEmpty = true := by rw [empty_size, decide_eq_true h0]
    rw [show decide (0 < s.size) = false from decide_eq_false (by omega), Bool.and_false, Bool.false_and]
    clear H h0
    go_enter Tryz.func25, Tryz.ntmps25
    go_wp2_with fail
    go_ret
    exact ⟨rfl, Below.refl _ _⟩
  · have he : s.toList.isEmpty = false := by rw [empty_size, decide_eq_false h0]
    rw [show decide (0 < s.size) = true from decide_eq_true (by omega), Bool.and_true]
    by_cases h1 : s.size ≤ 40
    · have h2 : (s.size : Int) ≤ 40 := by omega
      rw [decide_eq_true h1, Bool.and_true]
      generalize goodB s = g at *
      clear h0 h1
      cases g with
      | true =>
        rw [show (!true) = false from rfl] at H
        go_enter Tryz.func25, Tryz.ntmps25
        go_wp2_with (go_at_call 51; refine (H.out _).mono ?_; rintro e w1 ⟨rfl, hb1⟩; have Hb1 := Lib.hid hb1; clear hb1)
        go_ret
        exact ⟨rfl, Hb1.out⟩
      | false =>
        rw [show (!false) = true from rfl] at H
        go_enter Tryz.func25, Tryz.ntmps25
        go_wp2_with (go_at_call 51; refine (H.out _).mono ?_; rintro e w1 ⟨rfl, hb1⟩; have Hb1 := Lib.hid hb1; clear hb1)
        go_ret
        exact ⟨rfl, Hb1.out⟩
    · have h2 : ¬ (s.size : Int) ≤ 40 := by omega
      rw [decide_eq_false h1, Bool.and_false]
      clear H h0 h1
      go_enter Tryz.func25, Tryz.ntmps25
      go_wp2_with fail
      go_ret
      exact ⟨rfl, Below.refl _ _⟩

end Go.Proofs.YtknpbcdmemlicaaGreatDoor
