/-
  Magnitudes: divide by one limb, or by a greater number.
-/
import Derived.Test.YtfmgjcgcocidfaaGreatDoorMul
namespace Go.Proofs.YtfmgjcgcocidfaaGreatDoor
open Go.RowKit

theorem limbs_one {y : Nat} (h : (limbs y).length = 1) : limbs y = [y] ∧ y < 4294967296 := by
  have h0 : y ≠ 0 := fun e => by subst e; rw [limbs_zero] at h; simp at h
  rw [limbs_pos h0] at h ⊢
  have h1 : limbs (y / 4294967296) = [] := by
    rw [List.length_cons] at h
    exact List.length_eq_zero_iff.1 (by omega)
  have h2 := limbs_nil.1 h1
  have h3 : y < 4294967296 := by omega
  rw [h1, Nat.mod_eq_of_lt h3]
  exact ⟨rfl, h3⟩
theorem MagV.zero (w : World) : MagV w (.slice none 0 0) 0 := ⟨none, 0, by rw [limbs_zero]; rfl, by rw [limbs_zero]; exact Ls.nil w⟩

set_option maxHeartbeats 4000000 in
theorem divide_small (a b : Option Addr) (n m c c' : Nat) (x y : Nat) (w : World) (hA : Ls w (.slice a n c) (limbs x)) (hB : Ls w (.slice b m c') (limbs y)) (hlt : x < y) :
    Calls Tryz.prog 120 #[.slice a n c, .slice b m c'] w (fun e w' => ∃ q r, e = .returned (.tuple #[q, r]) ∧ MagV w' q (x / y) ∧ MagV w' r (x % y) ∧ Below w.heap.size w w') := by
  have H := Lib.hid (order_any _ _ _ _ _ _ _ _ w hA hB)
  have hc : cmpN x y = -1 := by unfold cmpN; rw [if_pos hlt]
  rw [hc] at H
  have hq : x / y = 0 := Nat.div_eq_of_lt hlt
  have hr : x % y = x := Nat.mod_eq_of_lt hlt
  rw [hq, hr]
  obtain ⟨_, _, hv, _, _⟩ := hA.open
  cases hv
  have HA := Lib.hid hA
  clear hA hB hc hq hr
  go_enter Tryz.func120, Tryz.ntmps120
  go_wp2_with (go_at_call 81; refine (H.out).mono ?_; rintro e w1 ⟨rfl, hb1⟩)
  go_ret2
  exact ⟨_, _, rfl, MagV.zero _, ⟨a, c, rfl, HA.out.mono hb1⟩, hb1⟩

end Go.Proofs.YtfmgjcgcocidfaaGreatDoor
