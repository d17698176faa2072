/-
  Forced's function that is called at each configuration.
-/
import Derived.Test.YtknpbcdmemlicaaGreatDoorVCnt
namespace Go.Proofs.YtknpbcdmemlicaaGreatDoor
open Go.RowKit

theorem enters44 : ∀ args w, (callFunc 34 args).run Tryz.prog w = .ok (.enter 34 args) w := enters_of Tryz.func34 (by kernel_rfl) rfl

set_option maxHeartbeats 1000000 in
theorem forced1_any (c x y : Int) (b : Bool) (A S : Nat) (w : World) (hAS : A + 2 < S) (hB1 : Box w A 88 (.int .u64 x)) (hB2 : Box w (A + 1) 88 (.int .u64 y)) (hB3 : Box w (A + 2) 4 (.bool b)) :
    Calls Tryz.prog 34 #[.int .u64 c, .pointer (some ⟨A, 0, none⟩), .pointer (some ⟨A + 1, 0, none⟩), .pointer (some ⟨A + 2, 0, none⟩)] w
      (fun e w' => e = .returned (.bool true) ∧ Mid A S w w' ∧ Box w' A 88 (.int .u64 (bits .or .u64 x c)) ∧ Box w' (A + 1) 88 (.int .u64 (bits .and .u64 y c)) ∧ Box w' (A + 2) 4 (.bool true)) := by
  have h1 := cell_of_one hB1
  have h2 := free_of_one hB1
  have h3 := cell_of_one hB2
  have h4 := free_of_one hB2
  have h5 := cell_of_one hB3
  have h6 := free_of_one hB3
  have H1 := Lib.hid hB1
  have H2 := Lib.hid hB2
  have H3 := Lib.hid hB3
  clear hB1 hB2 hB3
  go_enter Tryz.func34, Tryz.ntmps34
  go_wp2
  go_region
  go_wp2
  go_ret
  have hm := (((Mid.refl A S w).setCell (p := ⟨A, 0, none⟩) (Nat.le_refl _) (show A < S by omega) (.int .u64 (bits .or .u64 x c))).setCell (p := ⟨A + 1, 0, none⟩) (show A ≤ A + 1 by omega) (show A + 1 < S by omega) (.int .u64 (bits .and .u64 y c))).setCell (p := ⟨A + 2, 0, none⟩) (show A ≤ A + 2 by omega) hAS (.bool true)
  refine ⟨rfl, ⟨hm.os, hm.tape, hm.output, hm.size, hm.block⟩, ?_, ?_, ?_⟩
  · exact (Box.other (one_setCell H1.out) (p := ⟨A + 1, 0, none⟩) (show A ≠ A + 1 by omega) _).other (p := ⟨A + 2, 0, none⟩) (show A ≠ A + 2 by omega) _
  · exact Box.other (one_setCell (H2.out.other (p := ⟨A, 0, none⟩) (show A + 1 ≠ A by omega) _)) (p := ⟨A + 2, 0, none⟩) (show A + 1 ≠ A + 2 by omega) _
  · exact one_setCell ((H3.out.other (p := ⟨A, 0, none⟩) (show A + 2 ≠ A by omega) _).other (p := ⟨A + 1, 0, none⟩) (show A + 2 ≠ A + 1 by omega) _)

/-- What Forced's captured variables hold when xs have been met. -/
def ForI (A : Nat) (xs : List Int) (w : World) : Prop :=
  Box w A 88 (.int .u64 (someL xs)) ∧ Box w (A + 1) 88 (.int .u64 (everyL xs)) ∧ Box w (A + 2) 4 (.bool (!xs.isEmpty))

theorem ForI.below {A : Nat} {xs : List Int} {w w' : World} (h : ForI A xs w) (hb : Below w.heap.size w w') : ForI A xs w' :=
  ⟨h.1.below hb, h.2.1.below hb, h.2.2.below hb⟩

theorem someL_snoc (xs : List Int) (c : Int) : someL (xs ++ [c]) = bits .or .u64 (someL xs) c := by simp [someL]
theorem everyL_snoc (xs : List Int) (c : Int) : everyL (xs ++ [c]) = bits .and .u64 (everyL xs) c := by simp [everyL]

set_option maxHeartbeats 1000000 in
theorem forced_visit (q1 q2 q3 q4 q5 q6 q8 q9 q10 cv : Value) (ao : Option Addr) (n po : Nat) (ch : List Lit1) (rs : List Rule1) (A : Nat) (W w1 : World)
    (hn : n ≤ 6) (hC : Lits W cv ch) (hR : Rules W q8 rs) (hok : RulesOk 12 rs) (hch : LitsOk 12 ch) (hcl : ch.length < 1000) (hlen : rs.length < 1000) (hWA : W.heap.size ≤ A) (hA : Below W.heap.size W w1) (hS : A + 3 ≤ w1.heap.size) (hI : ForI A [] w1) :
    Calls Tryz.prog 30 #[.agg #[q1, q2, q3, q4, q5, q6, .slice ao n po, q8, q9, q10], cv, q8, .func (.func 34) #[] #[.pointer (some ⟨A, 0, none⟩), .pointer (some ⟨A + 1, 0, none⟩), .pointer (some ⟨A + 2, 0, none⟩)]] w1
      (fun e w' => e = .returned (.tuple #[]) ∧ Mid W.heap.size w1.heap.size w1 w' ∧ ForI A (visL n ch rs) w') := by
  have := visit_any W (ForI A) (fun _ => true) 34 #[.pointer (some ⟨A, 0, none⟩), .pointer (some ⟨A + 1, 0, none⟩), .pointer (some ⟨A + 2, 0, none⟩)] q1 q2 q3 q4 q5 q6 q8 q9 q10 cv q8 ao n po ch rs w1
    hn hC hR hA hok hch hcl hlen enters44 (fun xs w1 w2 h hb => h.below hb)
    (fun xs c w2 hx hm hI hc hok => (forced1_any c (someL xs) (everyL xs) _ A w1.heap.size w2 (by omega) hI.1 hI.2.1 hI.2.2).mono fun e w3 ⟨h1, h2, h3, h4, h5⟩ => ⟨h1, ?_, ?_⟩) hI
  · rw [upTo_true] at this
    exact this
  · exact ⟨h2.os, h2.tape, h2.output, h2.size, fun k hk ho => h2.block k hk (by omega)⟩
  · refine ⟨by rw [someL_snoc]; exact h3, by rw [everyL_snoc]; exact h4, ?_⟩
    rw [show (xs ++ [c]).isEmpty = false by cases xs <;> rfl]; exact h5

end Go.Proofs.YtknpbcdmemlicaaGreatDoor
