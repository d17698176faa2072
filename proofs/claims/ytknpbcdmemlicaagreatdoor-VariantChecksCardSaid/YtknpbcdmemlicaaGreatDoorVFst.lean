/-
  possible, First.
-/
import Derived.Test.YtknpbcdmemlicaaGreatDoorVCnt
import Derived.Test.YtknpbcdmemlicaaGreatDoorVNames
namespace Go.Proofs.YtknpbcdmemlicaaGreatDoor
open Go.RowKit

set_option maxHeartbeats 1000000 in
theorem possible_any (q1 q2 q3 q4 q5 q6 q8 q9 q10 cv rv : Value) (ao : Option Addr) (n po : Nat) (ch : List Lit1) (rs : List Rule1) (w : World)
    (hn : n ≤ 6) (hC : Lits w cv ch) (hR : Rules w rv rs) (hok : RulesOk 12 rs) (hch : LitsOk 12 ch) (hcl : ch.length < 1000) (hlen : rs.length < 1000) :
    Calls Tryz.prog 36 #[.agg #[q1, q2, q3, q4, q5, q6, .slice ao n po, q8, q9, q10], cv, rv] w (Ret (.bool (!(visL n ch rs).isEmpty)) w) := by
  have hb0 := below1 w (.cells #[q1, q2, q3, q4, q5, q6, .slice ao n po, q8, q9, q10] 36)
  have Hv : Hid (∀ wA, Below w.heap.size w wA → Calls Tryz.prog 30 #[.agg #[q1, q2, q3, q4, q5, q6, .slice ao n po, q8, q9, q10], cv, rv, .func (.func 56) #[] #[.pointer (some ⟨wA.heap.size, 0, none⟩)]] (wA.alloc (.cells #[.bool false] 4))
      (fun e w' => e = .returned (.tuple #[]) ∧ Mid wA.heap.size (wA.heap.size + 1) (wA.alloc (.cells #[.bool false] 4)) w' ∧ Box w' wA.heap.size 4 (.bool (!(visL n ch rs).isEmpty)))) := by
    intro wA hA
    have := visit_any wA (fun xs w' => Box w' wA.heap.size 4 (.bool (!xs.isEmpty))) (fun _ => false) 56 #[.pointer (some ⟨wA.heap.size, 0, none⟩)] q1 q2 q3 q4 q5 q6 q8 q9 q10 cv rv ao n po ch rs (wA.alloc (.cells #[.bool false] 4))
      hn (hC.mono hA) (hR.mono hA) (below1 _ _) hok hch hcl hlen enters64 (fun xs w1 w2 h hb => h.below hb)
      (fun xs c w1 hx hm hI hc hok => (poss1_any c _ wA.heap.size _ w1 (by simp) hI).mono fun e w2 ⟨h1, h2, h3⟩ => ⟨h1, h2, by rw [show (xs ++ [c]).isEmpty = false by cases xs <;> rfl]; exact h3⟩) (Box.new _ _ _)
    rw [upTo_false] at this
    simp only [World.size_alloc] at this
    refine this.mono fun e w' ⟨h1, h2, h3⟩ => ⟨h1, h2, ?_⟩
    have e : (List.take 1 (List.filter (cOk ch rs) (cfgsL n))).isEmpty = (visL n ch rs).isEmpty := by
      unfold visL; cases (List.filter (cOk ch rs) (cfgsL n)) <;> rfl
    rw [e] at h3
    exact h3
  have hv := Hv.out _ hb0
  simp only [World.size_alloc] at hv
  have HV := Lib.hid hv
  clear hC hR hok hch hv Hv
  go_enter Tryz.func36, Tryz.ntmps36
  go_wp2_with (go_at_call 30; refine (HV.out).mono ?_; rintro e w2 ⟨rfl, hm2, hB2⟩; have g2 := cell_of_one hB2)
  go_ret
  refine Ret.mk ?_
  have := hm2.below (v := w.alloc (.cells #[q1, q2, q3, q4, q5, q6, .slice ao n po, q8, q9, q10] 36)) ((below1 _ _).mono (by simp)) (by simp)
  exact hb0.via (this.mono (by simp)) hb0.size

theorem enters41 : ∀ args w, (callFunc 32 args).run Tryz.prog w = .ok (.enter 32 args) w := enters_of Tryz.func32 (by kernel_rfl) rfl

/-- What First's captured variables hold when xs have been met. -/
def FirstI (A : Nat) (opts : List ByteArray) (xs : List Int) (w : World) : Prop :=
  ∃ v, Box w A 31 v ∧ Box w (A + 1) 4 (.bool (!xs.isEmpty)) ∧ (∃ a n c, v = .slice a n c) ∧ FreshV (A + 2) v ∧
    match xs.getLast? with | none => v = .slice none 0 0 | some c => Strs w v (sel (fun i => bitB c i) opts)

theorem FirstI.below {A : Nat} {opts : List ByteArray} {xs : List Int} {w w' : World} (h : FirstI A opts xs w) (hb : Below w.heap.size w w') : FirstI A opts xs w' := by
  obtain ⟨v, h1, h2, h3, hf, h4⟩ := h
  refine ⟨v, h1.below hb, h2.below hb, h3, hf, ?_⟩
  split at h4
  · exact h4
  · exact h4.mono hb

set_option maxHeartbeats 1000000 in
theorem first1_any (c : Int) (F A S : Nat) (b : Bool) (v : Value) (q1 q2 q3 q4 q5 q6 ov q8 q9 q10 : Value) (opts : List ByteArray) (w : World) (hAS : A + 1 < S) (hS : S ≤ w.heap.size) (hv : ∃ a n c, v = .slice a n c) (hB1 : Box w A 31 v) (hB2 : Box w (A + 1) 4 (.bool b))
    (hO : Strs w ov opts) (hlen : opts.length ≤ 12) (hc : 0 ≤ c) (hc2 : c < 18446744073709551616)
    (f0 : w.cell? ⟨F, 0, none⟩ = some q1) (f1 : w.cell? ⟨F, 1, none⟩ = some q2) (f2 : w.cell? ⟨F, 2, none⟩ = some q3) (f3 : w.cell? ⟨F, 3, none⟩ = some q4) (f4 : w.cell? ⟨F, 4, none⟩ = some q5) (f5 : w.cell? ⟨F, 5, none⟩ = some q6)
    (f6 : w.cell? ⟨F, 6, none⟩ = some ov) (f7 : w.cell? ⟨F, 7, none⟩ = some q8) (f8 : w.cell? ⟨F, 8, none⟩ = some q9) (f9 : w.cell? ⟨F, 9, none⟩ = some q10) :
    Calls Tryz.prog 32 #[.int .u64 c, .pointer (some ⟨F, 0, none⟩), .pointer (some ⟨A, 0, none⟩), .pointer (some ⟨A + 1, 0, none⟩)] w
      (fun e w' => e = .returned (.bool false) ∧ Mid A S w w' ∧ ∃ v, Box w' A 31 v ∧ Box w' (A + 1) 4 (.bool true) ∧ (∃ a n c, v = .slice a n c) ∧ FreshV (A + 2) v ∧ Strs w' v (sel (fun i => bitB c i) opts)) := by
  obtain ⟨av, an, ac, rfl⟩ := hv
  have H := Lib.hid (names42 c q1 q2 q3 q4 q5 q6 ov q8 q9 q10 opts w hO hlen hc hc2)
  have HB1 := Lib.hid hB1
  have HB2 := Lib.hid hB2
  clear hO hB1 hB2
  go_enter Tryz.func32, Tryz.ntmps32
  go_wp2_with (go_at_call 33; refine (H.out).mono ?_; rintro e w' ⟨r, rfl, ⟨hr, hfr⟩, hb'⟩; have hB1' := HB1.out.below hb'; have hB2' := HB2.out.below hb'; have g1 := cell_of_one hB1'; have g2 := cell_of_one hB2'; have k1 := free_of_one hB1'; have k2 := free_of_one hB2'; obtain ⟨ra, rc, hrv, -, -⟩ := hr.open; subst hrv)
  refine bodyPost_ret (v := .bool false) (by simp [results, Tryz.results32, go_sem]) rfl ⟨rfl, ((Mid.of_below hb').setCell (p := ⟨A, 0, none⟩) (Nat.le_refl _) (show A < S by omega) _).setCell (p := ⟨A + 1, 0, none⟩) (show A ≤ A + 1 by omega) hAS _, _, Box.other (one_setCell hB1') (p := ⟨A + 1, 0, none⟩) (show A ≠ A + 1 by omega) _, one_setCell (hB2'.other (p := ⟨A, 0, none⟩) (show A + 1 ≠ A by omega) _), ⟨_, _, _, rfl⟩, fun k hk => Nat.le_trans (by omega) (hfr k hk), ?_⟩
  have hA : ∀ k, (Value.slice ra (sel (fun i => bitB c ↑i) opts).length rc).ownBlock = some k → k ≠ A ∧ k ≠ A + 1 := fun k hk => by have := hfr k hk; omega
  exact Sl.set (Sl.set hr (p := ⟨A, 0, none⟩) (fun k hk => (hA k hk).1) _) (p := ⟨A + 1, 0, none⟩) (fun k hk => (hA k hk).2) _

end Go.Proofs.YtknpbcdmemlicaaGreatDoor
