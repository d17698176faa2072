/-
  Count.
-/
import Derived.Test.YtknpbcdmemlicaaGreatDoorVAsk
import Derived.Test.YtknpbcdmemlicaaGreatDoorVVisit
namespace Go.Proofs.YtknpbcdmemlicaaGreatDoor
open Go.RowKit

/-- A captured variable's block. -/
def Box (w : World) (b : Nat) (T : TypeId) (v : Value) : Prop := w.heap[b]? = some (.cells #[v] T (0, 0))
theorem Box.below {w w' : World} {b : Nat} {T : TypeId} {v : Value} (h : Box w b T v) (hb : Below w.heap.size w w') : Box w' b T v := by
  unfold Box at *; rw [hb.block b (lt_of_block h)]; exact h
theorem Box.new (w : World) (T : TypeId) (v : Value) : Box (w.alloc (.cells #[v] T)) w.heap.size T v := heap_alloc_new w _
theorem Box.other {w : World} {b : Nat} {T : TypeId} {v : Value} (h : Box w b T v) {p : Addr} (hp : b ≠ p.block) (u : Value) : Box (w.setCell p u) b T v := by
  unfold Box at *; rw [Below.heap_setCell _ _ _ _ hp]; exact h
theorem Box.old {w : World} {b : Nat} {T : TypeId} {v : Value} (h : Box w b T v) (o : Obj) : Box (w.alloc o) b T v := h.below (below1 _ _)

theorem enters40 : ∀ args w, (callFunc 31 args).run Tryz.prog w = .ok (.enter 31 args) w := enters_of Tryz.func31 (by kernel_rfl) rfl
theorem enters64 : ∀ args w, (callFunc 56 args).run Tryz.prog w = .ok (.enter 56 args) w := enters_of Tryz.func56 (by kernel_rfl) rfl

set_option maxHeartbeats 400000 in
theorem count1_any (c m : Int) (A S : Nat) (w : World) (hm0 : 0 ≤ m) (hm : m < 1000000) (hAS : A < S) (hB : Box w A 3 (.int .i64 m)) :
    Calls Tryz.prog 31 #[.int .u64 c, .pointer (some ⟨A, 0, none⟩)] w (fun e w' => e = .returned (.bool true) ∧ Mid A S w w' ∧ Box w' A 3 (.int .i64 (m + 1))) := by
  have h1 := cell_of_one hB
  have h2 := free_of_one hB
  have H := Lib.hid hB
  clear hB
  go_enter Tryz.func31, Tryz.ntmps31
  go_wp2
  go_ret
  exact ⟨rfl, (Mid.refl _ _ _).setCell (p := ⟨A, 0, none⟩) (Nat.le_refl _) hAS _, one_setCell H.out⟩

set_option maxHeartbeats 400000 in
theorem poss1_any (c : Int) (b : Bool) (A S : Nat) (w : World) (hAS : A < S) (hB : Box w A 4 (.bool b)) :
    Calls Tryz.prog 56 #[.int .u64 c, .pointer (some ⟨A, 0, none⟩)] w (fun e w' => e = .returned (.bool false) ∧ Mid A S w w' ∧ Box w' A 4 (.bool true)) := by
  have h1 := cell_of_one hB
  have h2 := free_of_one hB
  have H := Lib.hid hB
  clear hB
  go_enter Tryz.func56, Tryz.ntmps56
  go_wp2
  go_ret
  exact ⟨rfl, (Mid.refl _ _ _).setCell (p := ⟨A, 0, none⟩) (Nat.le_refl _) hAS _, one_setCell H.out⟩

theorem rulesOk_of {opts : List ByteArray} {rs : List Rule1} {gs : List Guard1} {os : List Ov1} {mI : Nat} {ds : List Dim1} (h : FamOk opts rs gs os mI ds) : RulesOk 12 rs :=
  fun r hr => ⟨(litErr_ok (h.rsLit r hr).1).le (by have := h.opts12; omega), (h.rsLit r hr).2⟩

/-- The allowed configurations of a choice. -/
def visL (n : Nat) (ch : List Lit1) (rs : List Rule1) : List Int := (cfgsL n).filter (cOk ch rs)
theorem visL_len {n : Nat} (hn : n ≤ 6) (ch : List Lit1) (rs : List Rule1) : (visL n ch rs).length ≤ 64 := by
  have h := List.length_filter_le (cOk ch rs) (cfgsL n)
  rw [cfgsL_len] at h
  have : (2 : Nat) ^ n ≤ 2 ^ 6 := Nat.pow_le_pow_right (by omega) hn
  exact Nat.le_trans h this

theorem upTo_true (l : List Int) : upTo (fun _ => true) l = l := by
  induction l with
  | nil => rfl
  | cons c cs ih => simp [upTo, ih]
theorem upTo_false (l : List Int) : upTo (fun _ => false) l = l.take 1 := by
  cases l <;> simp [upTo]

set_option maxHeartbeats 1000000 in
theorem count_bad (q1 q2 q3 q4 q5 q6 q7 q8 q9 q10 cv : Value) (opts : List ByteArray) (rs : List Rule1) (gs : List Guard1) (os : List Ov1) (mI : Nat) (ds : List Dim1) (ch : List Lit1) (w : World) (e : Int)
    (hF : Fam w q1 q2 q3 q4 q5 q6 q7 q8 q9 q10 opts rs gs os mI ds) (hC : Lits w cv ch) (hcl : ch.length < 1000) (he : litErr opts.length ch = e) (hne : e ≠ 0) :
    Calls Tryz.prog 8 #[.agg #[q1, q2, q3, q4, q5, q6, q7, q8, q9, q10], cv] w (Ret (.tuple #[.int .i64 0, .int .i64 e]) w) := by
  have hb0 := below1 w (.cells #[q1, q2, q3, q4, q5, q6, q7, q8, q9, q10] 36)
  have H1 := Lib.hid (asked_any q1 q2 q3 q4 q5 q6 q7 q8 q9 q10 cv opts rs gs os mI ds ch _ (hF.mono hb0) (hC.mono hb0) hcl)
  rw [he] at H1
  have hne' : (e != 0) = true := by simpa using hne
  clear hF hC he hne
  go_enter Tryz.func8, Tryz.ntmps8
  go_wp2_with (go_at_call 29; refine (H1.out).mono ?_; rintro e w1 ⟨rfl, hb1⟩)
  go_ret2
  exact Ret.mk (hb0.via hb1 hb0.size)

set_option maxHeartbeats 1000000 in
theorem count_ok (q1 q2 q3 q4 q5 q6 q7 q8 q9 q10 cv : Value) (opts : List ByteArray) (rs : List Rule1) (gs : List Guard1) (os : List Ov1) (mI : Nat) (ds : List Dim1) (ch : List Lit1) (w : World)
    (hF : Fam w q1 q2 q3 q4 q5 q6 q7 q8 q9 q10 opts rs gs os mI ds) (hn : opts.length ≤ 6) (hC : Lits w cv ch) (hcl : ch.length < 1000) (he : litErr opts.length ch = 0) :
    Calls Tryz.prog 8 #[.agg #[q1, q2, q3, q4, q5, q6, q7, q8, q9, q10], cv] w (Ret (.tuple #[.int .i64 (visL opts.length ch rs).length, .int .i64 0]) w) := by
  have hb0 := below1 w (.cells #[q1, q2, q3, q4, q5, q6, q7, q8, q9, q10] 36)
  have H1 := Lib.hid (asked_any q1 q2 q3 q4 q5 q6 q7 q8 q9 q10 cv opts rs gs os mI ds ch _ (hF.mono hb0) (hC.mono hb0) hcl)
  rw [he] at H1
  have hrok := rulesOk_of hF.ok
  have hr48 := hF.ok.rs48
  have hlok := (litErr_ok he).le (show (opts.length : Int) ≤ 12 by omega)
  obtain ⟨ao, po, hq7, -, -⟩ := hF.opt.open
  subst hq7
  have hR := hF.rul
  generalize hn0 : opts.length = n at *
  have Hv : Hid (∀ wA, Below w.heap.size w wA → Calls Tryz.prog 30 #[.agg #[q1, q2, q3, q4, q5, q6, .slice ao n po, q8, q9, q10], cv, q8, .func (.func 31) #[] #[.pointer (some ⟨wA.heap.size, 0, none⟩)]] (wA.alloc (.cells #[.int .i64 0] 3))
      (fun e w' => e = .returned (.tuple #[]) ∧ Mid wA.heap.size (wA.heap.size + 1) (wA.alloc (.cells #[.int .i64 0] 3)) w' ∧ Box w' wA.heap.size 3 (.int .i64 ((visL n ch rs).length : Int)))) := by
    intro wA hA
    have := visit_any wA (fun xs w' => Box w' wA.heap.size 3 (.int .i64 (xs.length : Int))) (fun _ => true) 31 #[.pointer (some ⟨wA.heap.size, 0, none⟩)] q1 q2 q3 q4 q5 q6 q8 q9 q10 cv q8 ao n po ch rs (wA.alloc (.cells #[.int .i64 0] 3))
      hn (hC.mono hA) (hR.mono hA) (below1 _ _) hrok hlok hcl (by omega) enters40 (fun xs w1 w2 h hb => h.below hb)
      (fun xs c w1 hx hm hI hc hok => (count1_any c xs.length wA.heap.size _ w1 (by omega) (by omega) (by simp) hI).mono fun e w2 ⟨h1, h2, h3⟩ => ⟨h1, h2, by simpa using h3⟩) (Box.new _ _ _)
    rw [upTo_true] at this
    simp only [World.size_alloc] at this
    exact this
  clear hF hC he hR hrok hlok
  go_enter Tryz.func8, Tryz.ntmps8
  go_wp2_with (first | (go_at_call 29; refine (H1.out).mono ?_; rintro e w1 ⟨rfl, hb1⟩; obtain ⟨f, f0, f1, f2, f3, f4, f5, f6, f7, f8, f9⟩ := box10 (hb1.mono (by simp))) | (go_at_call 30; refine (Hv.out _ (hb0.via hb1 hb0.size)).mono ?_; rintro e w2 ⟨rfl, hm2, hB2⟩; have g2 := cell_of_one hB2))
  go_ret2
  refine Ret.mk ?_
  have hw1 := hb0.via hb1 hb0.size
  exact hw1.via (hm2.below (below1 _ _) (by simp)) hw1.size

end Go.Proofs.YtknpbcdmemlicaaGreatDoor
