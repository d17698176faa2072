/-
  A whole family that came in: its options, rules, guards, overrides and dimensions.
-/
import Derived.Test.YtknpbcdmemlicaaGreatDoorVMem
import Derived.Test.YtknpbcdmemlicaaGreatDoorVRw
import Derived.ProofKit
import Derived.Lib.SmallJoins
import Derived.Deep.Slices
import Derived.Deep.Strs
import Derived.ChangeSame
namespace Go.Proofs.YtknpbcdmemlicaaGreatDoor
open Go.ChangeShapes Go.WideShapes Go.ChangeAt Go.RowKit

section
variable {H : Type} {enc : TypeId × Value → H} {w : World} {base : Nat} {held : Bool}

/-- A slice that came in, by the cells of its elements. -/
theorem rows_of {t e : TypeId} {sz : Nat} {α : Type} [Inhabited α] (ht : Tryz.prog.underlying t = some (.slice e)) (hsz : 0 < sz) (hc : Tryz.prog.cellsOf e = sz) (row : α → List Value) (hrow : ∀ y, (row y).length = sz) (Q : α → Prop)
    (hel : ∀ (n : Nat) (cs : List Value) (x : DataW H × List MemPlace), DataW.trod enc Tryz.prog w base (fun _ => true) held n e cs = some x → ∃ y, cs = row y ∧ Q y) {fuel : Nat} {v : Value} {x : DataW H × List MemPlace} (hf : DataW.trod enc Tryz.prog w base (fun _ => true) held fuel t [v] = some x) :
    ∃ (a : Option Addr) (c : Nat) (ys : List α), v = .slice a ys.length c ∧ Sl w sz v (ys.map row) ∧ ∀ y ∈ ys, Q y := by
  rcases Go.Deep.open_slice ht hf with ⟨hc', _⟩ | ⟨a, len, cap, m, n, D, Pl, hc', hb, hl, hm, hmm, _, hx⟩
  · simp only [List.cons.injEq, and_true] at hc'
    subst hc'
    exact ⟨none, 0, [], rfl, Sl.nil w sz, fun y hy => (by cases hy)⟩
  · simp only [List.cons.injEq, and_true] at hc'
    subst hc'
    simp only [if_true] at hmm
    have hmm' := hmm.symm
    subst hmm'
    obtain ⟨N, hN⟩ := Deep.choose_lt (α := α) (p := fun i y => (∀ j, j < sz → w.cell? (a.add (i * sz + j)) = (row y)[j]?) ∧ Q y) (fun i hi => by
      obtain ⟨cs, hcs, ht'⟩ := hx i hi
      obtain ⟨y, rfl, hq⟩ := hel _ _ _ ht'
      rw [hc] at hcs
      obtain ⟨-, -, hat⟩ := World.cells?_some hcs
      exact ⟨y, fun j hj => by rw [← hat j hj, Go.Deep.add_add], hq⟩)
    have hlen : ((List.range len).map N).length = len := by simp
    refine ⟨some a, cap, (List.range len).map N, by rw [hlen], ?_, fun y hy => ?_⟩
    · refine sl_of hsz (by simp) hl hm fun i j hi hj => ?_
      have hjl : j < (row (N i)).length := by rw [hrow]; exact hj
      refine ⟨(row (N i))[j], ((hN i hi).1 j hj).trans (List.getElem?_eq_getElem hjl), fun hil => ?_⟩
      simp [hil, hjl]
    · obtain ⟨i, hi, rfl⟩ := List.mem_map.1 hy
      exact (hN i (by have := List.mem_range.1 hi; omega)).2

set_option maxRecDepth 100000 in
theorem lit_cells {n : Nat} {cs : List Value} {x : DataW H × List MemPlace} (h : DataW.trod enc Tryz.prog w base (fun _ => true) held n 73 cs = some x) : ∃ y : Lit1, cs = c2 (litV y) ∧ True := by
  have hu := Tryz.underlying73
  obtain ⟨ys, m, -, -, hlen, hyl, hf⟩ := DataW.trod_struct hu h
  have hl : cs.length = 2 := hlen.trans (by kernel_rfl)
  match cs, hl with
  | [c0, c1], _ =>
    have hyl : ys.length = 2 := hyl
    match ys, hyl with
    | [y0, y1], _ =>
      have g0 : DataW.trod enc Tryz.prog w base (fun _ => true) held m 3 (([c0, c1].drop 0).take (Tryz.prog.cellsOf 3)) = [y0, y1][0]? := hf 0 _ rfl
      rw [show Tryz.prog.cellsOf 3 = 1 by kernel_rfl] at g0
      have g1 : DataW.trod enc Tryz.prog w base (fun _ => true) held m 4 (([c0, c1].drop 1).take (Tryz.prog.cellsOf 4)) = [y0, y1][1]? := hf 1 _ rfl
      rw [show Tryz.prog.cellsOf 4 = 1 by kernel_rfl] at g1
      simp only [List.drop_zero, List.drop_succ_cons, List.take_succ_cons, List.take_zero, List.getElem?_cons_zero, List.getElem?_cons_succ] at g0 g1
      obtain ⟨s0, e0, -⟩ := DataW.trod_int Tryz.underlying3 g0
      obtain ⟨s1, e1, -⟩ := DataW.trod_bool Tryz.underlying4 g1
      simp only [List.cons.injEq, and_true] at e0 e1
      exact ⟨(s0, s1), by rw [e0, e1]; rfl, trivial⟩

theorem lits_of {fuel : Nat} {v : Value} {x : DataW H × List MemPlace} (hf : DataW.trod enc Tryz.prog w base (fun _ => true) held fuel 38 [v] = some x) : ∃ ls, Lits w v ls := by
  obtain ⟨a, c, ys, rfl, h, -⟩ := rows_of (sz := 2) Tryz.underlying38 (by decide) (by kernel_rfl) (fun l : Lit1 => c2 (litV l)) (fun _ => rfl) (fun _ => True) (fun _ _ _ h => lit_cells h) hf
  exact ⟨ys, by unfold Lits; rw [List.map_map]; exact h⟩
set_option maxRecDepth 100000 in
theorem rul_cells {n : Nat} {cs : List Value} {x : DataW H × List MemPlace} (h : DataW.trod enc Tryz.prog w base (fun _ => true) held n 40 cs = some x) : ∃ y : Value × Rule1, cs = [.string y.2.1, y.1] ∧ Lits w y.1 y.2.2 := by
  have hu := Tryz.underlying40
  obtain ⟨ys, m, -, -, hlen, hyl, hf⟩ := DataW.trod_struct hu h
  have hl : cs.length = 2 := hlen.trans (by kernel_rfl)
  match cs, hl with
  | [c0, c1], _ =>
    have hyl : ys.length = 2 := hyl
    match ys, hyl with
    | [y0, y1], _ =>
      have g0 : DataW.trod enc Tryz.prog w base (fun _ => true) held m 9 (([c0, c1].drop 0).take (Tryz.prog.cellsOf 9)) = [y0, y1][0]? := hf 0 _ rfl
      rw [show Tryz.prog.cellsOf 9 = 1 by kernel_rfl] at g0
      have g1 : DataW.trod enc Tryz.prog w base (fun _ => true) held m 38 (([c0, c1].drop 1).take (Tryz.prog.cellsOf 38)) = [y0, y1][1]? := hf 1 _ rfl
      rw [show Tryz.prog.cellsOf 38 = 1 by kernel_rfl] at g1
      simp only [List.drop_zero, List.drop_succ_cons, List.take_succ_cons, List.take_zero, List.getElem?_cons_zero, List.getElem?_cons_succ] at g0 g1
      obtain ⟨s0, e0, -⟩ := DataW.trod_string Tryz.underlying9 g0
      obtain ⟨ls, hls⟩ := lits_of g1
      simp only [List.cons.injEq, and_true] at e0
      exact ⟨(c1, (s0, ls)), by rw [e0], hls⟩

set_option maxRecDepth 100000 in
theorem grd_cells {n : Nat} {cs : List Value} {x : DataW H × List MemPlace} (h : DataW.trod enc Tryz.prog w base (fun _ => true) held n 80 cs = some x) : ∃ y : Value × Guard1, cs = [.int .i64 y.2.1, y.1] ∧ Lits w y.1 y.2.2 := by
  have hu := Tryz.underlying80
  obtain ⟨ys, m, -, -, hlen, hyl, hf⟩ := DataW.trod_struct hu h
  have hl : cs.length = 2 := hlen.trans (by kernel_rfl)
  match cs, hl with
  | [c0, c1], _ =>
    have hyl : ys.length = 2 := hyl
    match ys, hyl with
    | [y0, y1], _ =>
      have g0 : DataW.trod enc Tryz.prog w base (fun _ => true) held m 3 (([c0, c1].drop 0).take (Tryz.prog.cellsOf 3)) = [y0, y1][0]? := hf 0 _ rfl
      rw [show Tryz.prog.cellsOf 3 = 1 by kernel_rfl] at g0
      have g1 : DataW.trod enc Tryz.prog w base (fun _ => true) held m 38 (([c0, c1].drop 1).take (Tryz.prog.cellsOf 38)) = [y0, y1][1]? := hf 1 _ rfl
      rw [show Tryz.prog.cellsOf 38 = 1 by kernel_rfl] at g1
      simp only [List.drop_zero, List.drop_succ_cons, List.take_succ_cons, List.take_zero, List.getElem?_cons_zero, List.getElem?_cons_succ] at g0 g1
      obtain ⟨s0, e0, -⟩ := DataW.trod_int Tryz.underlying3 g0
      obtain ⟨ls, hls⟩ := lits_of g1
      simp only [List.cons.injEq, and_true] at e0
      exact ⟨(c1, (s0, ls)), by rw [e0], hls⟩

set_option maxRecDepth 100000 in
theorem dim_cells {n : Nat} {cs : List Value} {x : DataW H × List MemPlace} (h : DataW.trod enc Tryz.prog w base (fun _ => true) held n 84 cs = some x) : ∃ y : Dim1, cs = dimC y ∧ True := by
  have hu := Tryz.underlying84
  obtain ⟨ys, m, -, -, hlen, hyl, hf⟩ := DataW.trod_struct hu h
  have hl : cs.length = 4 := hlen.trans (by kernel_rfl)
  match cs, hl with
  | [c0, c1, c2, c3], _ =>
    have hyl : ys.length = 4 := hyl
    match ys, hyl with
    | [y0, y1, y2, y3], _ =>
      have g0 : DataW.trod enc Tryz.prog w base (fun _ => true) held m 9 (([c0, c1, c2, c3].drop 0).take (Tryz.prog.cellsOf 9)) = [y0, y1, y2, y3][0]? := hf 0 _ rfl
      rw [show Tryz.prog.cellsOf 9 = 1 by kernel_rfl] at g0
      have g1 : DataW.trod enc Tryz.prog w base (fun _ => true) held m 3 (([c0, c1, c2, c3].drop 1).take (Tryz.prog.cellsOf 3)) = [y0, y1, y2, y3][1]? := hf 1 _ rfl
      rw [show Tryz.prog.cellsOf 3 = 1 by kernel_rfl] at g1
      have g2 : DataW.trod enc Tryz.prog w base (fun _ => true) held m 3 (([c0, c1, c2, c3].drop 2).take (Tryz.prog.cellsOf 3)) = [y0, y1, y2, y3][2]? := hf 2 _ rfl
      rw [show Tryz.prog.cellsOf 3 = 1 by kernel_rfl] at g2
      have g3 : DataW.trod enc Tryz.prog w base (fun _ => true) held m 3 (([c0, c1, c2, c3].drop 3).take (Tryz.prog.cellsOf 3)) = [y0, y1, y2, y3][3]? := hf 3 _ rfl
      rw [show Tryz.prog.cellsOf 3 = 1 by kernel_rfl] at g3
      simp only [List.drop_zero, List.drop_succ_cons, List.take_succ_cons, List.take_zero, List.getElem?_cons_zero, List.getElem?_cons_succ] at g0 g1 g2 g3
      obtain ⟨s0, e0, -⟩ := DataW.trod_string Tryz.underlying9 g0
      obtain ⟨s1, e1, -⟩ := DataW.trod_int Tryz.underlying3 g1
      obtain ⟨s2, e2, -⟩ := DataW.trod_int Tryz.underlying3 g2
      obtain ⟨s3, e3, -⟩ := DataW.trod_int Tryz.underlying3 g3
      simp only [List.cons.injEq, and_true] at e0 e1 e2 e3
      exact ⟨(s0, s1, s2, s3), by rw [e0, e1, e2, e3]; rfl, trivial⟩

set_option maxRecDepth 100000 in
theorem ovr_cells {n : Nat} {cs : List Value} {x : DataW H × List MemPlace} (h : DataW.trod enc Tryz.prog w base (fun _ => true) held n 86 cs = some x) : ∃ y : Value × Ov1, cs = ovC y.1 y.2 ∧ Lits w y.1 y.2.1 := by
  have hu := Tryz.underlying86
  obtain ⟨ys, m, -, -, hlen, hyl, hf⟩ := DataW.trod_struct hu h
  have hl : cs.length = 6 := hlen.trans (by kernel_rfl)
  match cs, hl with
  | [c0, c1, c2, c3, c4, c5], _ =>
    have hyl : ys.length = 3 := hyl
    match ys, hyl with
    | [y0, y1, y2], _ =>
      have g0 : DataW.trod enc Tryz.prog w base (fun _ => true) held m 38 (([c0, c1, c2, c3, c4, c5].drop 0).take (Tryz.prog.cellsOf 38)) = [y0, y1, y2][0]? := hf 0 _ rfl
      rw [show Tryz.prog.cellsOf 38 = 1 by kernel_rfl] at g0
      have g1 : DataW.trod enc Tryz.prog w base (fun _ => true) held m 3 (([c0, c1, c2, c3, c4, c5].drop 1).take (Tryz.prog.cellsOf 3)) = [y0, y1, y2][1]? := hf 1 _ rfl
      rw [show Tryz.prog.cellsOf 3 = 1 by kernel_rfl] at g1
      have g2 : DataW.trod enc Tryz.prog w base (fun _ => true) held m 84 (([c0, c1, c2, c3, c4, c5].drop 2).take (Tryz.prog.cellsOf 84)) = [y0, y1, y2][2]? := hf 2 _ rfl
      rw [show Tryz.prog.cellsOf 84 = 4 by kernel_rfl] at g2
      simp only [List.drop_zero, List.drop_succ_cons, List.take_succ_cons, List.take_zero, List.getElem?_cons_zero, List.getElem?_cons_succ] at g0 g1 g2
      obtain ⟨ls, hls⟩ := lits_of g0
      obtain ⟨s1, e1, -⟩ := DataW.trod_int Tryz.underlying3 g1
      obtain ⟨dm, hdm, -⟩ := dim_cells g2
      simp only [List.cons.injEq, and_true] at e1
      exact ⟨(c0, (ls, s1, dm)), by unfold ovC; rw [← hdm, e1], hls⟩

theorem rules_of {fuel : Nat} {v : Value} {x : DataW H × List MemPlace} (hf : DataW.trod enc Tryz.prog w base (fun _ => true) held fuel 32 [v] = some x) : ∃ rs, Rules w v rs := by
  obtain ⟨a, c, ys, rfl, h, hq⟩ := rows_of (sz := 2) (α := Value × Rule1) Tryz.underlying32 (by decide) (by kernel_rfl) (fun y => [.string y.2.1, y.1]) (fun _ => rfl) (fun y => Lits w y.1 y.2.2) (fun _ _ _ h => rul_cells h) hf
  refine ⟨ys.map (·.2), ys.map fun y => (.string y.2.1, y.1), by rw [List.map_map]; exact h, by simp, fun k p r hp hr => ?_⟩
  simp only [List.getElem?_map, Option.map_eq_some_iff] at hp hr
  obtain ⟨y, hy, rfl⟩ := hp
  obtain ⟨y', hy', rfl⟩ := hr
  obtain rfl := Option.some.inj (hy.symm.trans hy')
  exact ⟨rfl, hq y (List.mem_of_getElem? hy)⟩
theorem gds_of {fuel : Nat} {v : Value} {x : DataW H × List MemPlace} (hf : DataW.trod enc Tryz.prog w base (fun _ => true) held fuel 33 [v] = some x) : ∃ gs, Gds w v gs := by
  obtain ⟨a, c, ys, rfl, h, hq⟩ := rows_of (sz := 2) (α := Value × Guard1) Tryz.underlying33 (by decide) (by kernel_rfl) (fun y => [.int .i64 y.2.1, y.1]) (fun _ => rfl) (fun y => Lits w y.1 y.2.2) (fun _ _ _ h => grd_cells h) hf
  refine ⟨ys.map (·.2), ys.map fun y => (.int .i64 y.2.1, y.1), by rw [List.map_map]; exact h, by simp, fun k p r hp hr => ?_⟩
  simp only [List.getElem?_map, Option.map_eq_some_iff] at hp hr
  obtain ⟨y, hy, rfl⟩ := hp
  obtain ⟨y', hy', rfl⟩ := hr
  obtain rfl := Option.some.inj (hy.symm.trans hy')
  exact ⟨rfl, hq y (List.mem_of_getElem? hy)⟩
theorem ovs_of {fuel : Nat} {v : Value} {x : DataW H × List MemPlace} (hf : DataW.trod enc Tryz.prog w base (fun _ => true) held fuel 34 [v] = some x) : ∃ os, Ovs w v os := by
  obtain ⟨a, c, ys, rfl, h, hq⟩ := rows_of (sz := 6) (α := Value × Ov1) Tryz.underlying34 (by decide) (by kernel_rfl) (fun y => ovC y.1 y.2) (fun _ => rfl) (fun y => Lits w y.1 y.2.1) (fun _ _ _ h => ovr_cells h) hf
  exact ⟨ys.map (·.2), ys, h, rfl, hq⟩
theorem dims_of {fuel : Nat} {v : Value} {x : DataW H × List MemPlace} (hf : DataW.trod enc Tryz.prog w base (fun _ => true) held fuel 26 [v] = some x) : ∃ ds, Dims w v ds := by
  obtain ⟨a, c, ys, rfl, h, -⟩ := rows_of (sz := 4) Tryz.underlying26 (by decide) (by kernel_rfl) dimC (fun _ => rfl) (fun _ => True) (fun _ _ _ h => dim_cells h) hf
  exact ⟨ys, h⟩
theorem strs_of {fuel : Nat} {v : Value} {x : DataW H × List MemPlace} (hf : DataW.trod enc Tryz.prog w base (fun _ => true) held fuel 31 [v] = some x) : ∃ ss, Strs w v ss := by
  obtain ⟨a, c, ys, rfl, h, -⟩ := rows_of (sz := 1) (α := ByteArray) Tryz.underlying31 (by decide) (by kernel_rfl) (fun s => [.string s]) (fun _ => rfl) (fun _ => True) (fun n cs x h => by
    obtain ⟨s, e, -⟩ := DataW.trod_string Tryz.underlying9 h
    exact ⟨s, e, trivial⟩) hf
  exact ⟨ys, by unfold Strs; rw [List.map_map]; exact h⟩
theorem insts_of {fuel : Nat} {v : Value} {x : DataW H × List MemPlace} (hf : DataW.trod enc Tryz.prog w base (fun _ => true) held fuel 23 [v] = some x) : ∃ a m c, v = .slice a m c ∧ m ≤ c ∧ c ≤ maxLen := by
  rcases Go.Deep.open_slice Tryz.underlying23 hf with ⟨hc', _⟩ | ⟨a, len, cap, m, n, D, Pl, hc', hb, hl, hm, -, _, hx⟩
  · simp only [List.cons.injEq, and_true] at hc'
    exact ⟨none, 0, 0, hc', Nat.le_refl _, Nat.zero_le _⟩
  · simp only [List.cons.injEq, and_true] at hc'
    exact ⟨some a, len, cap, hc', hl, hm⟩

set_option maxRecDepth 100000 in
theorem asm_cells {n : Nat} {cs : List Value} {x : DataW H × List MemPlace} (h : DataW.trod enc Tryz.prog w base (fun _ => true) held n 25 cs = some x) : ∃ (p : Value) (ai : Option Addr) (mI ci : Nat), cs = [p, .slice ai mI ci] ∧ mI ≤ ci ∧ ci ≤ maxLen := by
  have hu := Tryz.underlying25
  obtain ⟨ys, m, -, -, hlen, hyl, hf⟩ := DataW.trod_struct hu h
  have hl : cs.length = 2 := hlen.trans (by kernel_rfl)
  match cs, hl with
  | [c0, c1], _ =>
    have hyl : ys.length = 2 := hyl
    match ys, hyl with
    | [y0, y1], _ =>
      have g0 : DataW.trod enc Tryz.prog w base (fun _ => true) held m 22 (([c0, c1].drop 0).take (Tryz.prog.cellsOf 22)) = [y0, y1][0]? := hf 0 _ rfl
      rw [show Tryz.prog.cellsOf 22 = 1 by kernel_rfl] at g0
      have g1 : DataW.trod enc Tryz.prog w base (fun _ => true) held m 23 (([c0, c1].drop 1).take (Tryz.prog.cellsOf 23)) = [y0, y1][1]? := hf 1 _ rfl
      rw [show Tryz.prog.cellsOf 23 = 1 by kernel_rfl] at g1
      simp only [List.drop_zero, List.drop_succ_cons, List.take_succ_cons, List.take_zero, List.getElem?_cons_zero, List.getElem?_cons_succ] at g0 g1
      obtain ⟨ai, mI, ci, rfl, hi1, hi2⟩ := insts_of g1
      exact ⟨c0, ai, mI, ci, rfl, hi1, hi2⟩

set_option maxRecDepth 100000 in
theorem pro_cells {n : Nat} {cs : List Value} {x : DataW H × List MemPlace} (h : DataW.trod enc Tryz.prog w base (fun _ => true) held n 30 cs = some x) : ∃ (q0 p dv q4 q5 : Value) (ai : Option Addr) (mI ci : Nat) (ds : List Dim1), cs = [q0, p, .slice ai mI ci, dv, q4, q5] ∧ mI ≤ ci ∧ ci ≤ maxLen ∧ Dims w dv ds := by
  have hu := Tryz.underlying30
  obtain ⟨ys, m, -, -, hlen, hyl, hf⟩ := DataW.trod_struct hu h
  have hl : cs.length = 6 := hlen.trans (by kernel_rfl)
  match cs, hl with
  | [c0, c1, c2, c3, c4, c5], _ =>
    have hyl : ys.length = 5 := hyl
    match ys, hyl with
    | [y0, y1, y2, y3, y4], _ =>
      have g0 : DataW.trod enc Tryz.prog w base (fun _ => true) held m 9 (([c0, c1, c2, c3, c4, c5].drop 0).take (Tryz.prog.cellsOf 9)) = [y0, y1, y2, y3, y4][0]? := hf 0 _ rfl
      rw [show Tryz.prog.cellsOf 9 = 1 by kernel_rfl] at g0
      have g1 : DataW.trod enc Tryz.prog w base (fun _ => true) held m 25 (([c0, c1, c2, c3, c4, c5].drop 1).take (Tryz.prog.cellsOf 25)) = [y0, y1, y2, y3, y4][1]? := hf 1 _ rfl
      rw [show Tryz.prog.cellsOf 25 = 2 by kernel_rfl] at g1
      have g2 : DataW.trod enc Tryz.prog w base (fun _ => true) held m 26 (([c0, c1, c2, c3, c4, c5].drop 3).take (Tryz.prog.cellsOf 26)) = [y0, y1, y2, y3, y4][2]? := hf 2 _ rfl
      rw [show Tryz.prog.cellsOf 26 = 1 by kernel_rfl] at g2
      have g3 : DataW.trod enc Tryz.prog w base (fun _ => true) held m 27 (([c0, c1, c2, c3, c4, c5].drop 4).take (Tryz.prog.cellsOf 27)) = [y0, y1, y2, y3, y4][3]? := hf 3 _ rfl
      rw [show Tryz.prog.cellsOf 27 = 1 by kernel_rfl] at g3
      have g4 : DataW.trod enc Tryz.prog w base (fun _ => true) held m 28 (([c0, c1, c2, c3, c4, c5].drop 5).take (Tryz.prog.cellsOf 28)) = [y0, y1, y2, y3, y4][4]? := hf 4 _ rfl
      rw [show Tryz.prog.cellsOf 28 = 1 by kernel_rfl] at g4
      simp only [List.drop_zero, List.drop_succ_cons, List.take_succ_cons, List.take_zero, List.getElem?_cons_zero, List.getElem?_cons_succ] at g0 g1 g2 g3 g4
      obtain ⟨s0, e0, -⟩ := DataW.trod_string Tryz.underlying9 g0
      obtain ⟨p, ai, mI, ci, hp, hi1, hi2⟩ := asm_cells g1
      obtain ⟨ds, hds⟩ := dims_of g2
      simp only [List.cons.injEq, and_true] at e0
      simp only [List.cons.injEq, and_true] at hp
      exact ⟨c0, p, c3, c4, c5, ai, mI, ci, ds, by rw [hp.1, hp.2], hi1, hi2, hds⟩

set_option maxRecDepth 100000 in
theorem fam_cells {n : Nat} {cs : List Value} {x : DataW H × List MemPlace} (h : DataW.trod enc Tryz.prog w base (fun _ => true) held n 36 cs = some x) : ∃ (q0 p dv q4 q5 ov rv gv vv : Value) (ai : Option Addr) (mI ci : Nat) (ds : List Dim1) (opts : List ByteArray) (rs : List Rule1) (gs : List Guard1) (os : List Ov1), cs = [q0, p, .slice ai mI ci, dv, q4, q5, ov, rv, gv, vv] ∧ mI ≤ ci ∧ ci ≤ maxLen ∧ Dims w dv ds ∧ Strs w ov opts ∧ Rules w rv rs ∧ Gds w gv gs ∧ Ovs w vv os := by
  have hu := Tryz.underlying36
  obtain ⟨ys, m, -, -, hlen, hyl, hf⟩ := DataW.trod_struct hu h
  have hl : cs.length = 10 := hlen.trans (by kernel_rfl)
  match cs, hl with
  | [c0, c1, c2, c3, c4, c5, c6, c7, c8, c9], _ =>
    have hyl : ys.length = 5 := hyl
    match ys, hyl with
    | [y0, y1, y2, y3, y4], _ =>
      have g0 : DataW.trod enc Tryz.prog w base (fun _ => true) held m 30 (([c0, c1, c2, c3, c4, c5, c6, c7, c8, c9].drop 0).take (Tryz.prog.cellsOf 30)) = [y0, y1, y2, y3, y4][0]? := hf 0 _ rfl
      rw [show Tryz.prog.cellsOf 30 = 6 by kernel_rfl] at g0
      have g1 : DataW.trod enc Tryz.prog w base (fun _ => true) held m 31 (([c0, c1, c2, c3, c4, c5, c6, c7, c8, c9].drop 6).take (Tryz.prog.cellsOf 31)) = [y0, y1, y2, y3, y4][1]? := hf 1 _ rfl
      rw [show Tryz.prog.cellsOf 31 = 1 by kernel_rfl] at g1
      have g2 : DataW.trod enc Tryz.prog w base (fun _ => true) held m 32 (([c0, c1, c2, c3, c4, c5, c6, c7, c8, c9].drop 7).take (Tryz.prog.cellsOf 32)) = [y0, y1, y2, y3, y4][2]? := hf 2 _ rfl
      rw [show Tryz.prog.cellsOf 32 = 1 by kernel_rfl] at g2
      have g3 : DataW.trod enc Tryz.prog w base (fun _ => true) held m 33 (([c0, c1, c2, c3, c4, c5, c6, c7, c8, c9].drop 8).take (Tryz.prog.cellsOf 33)) = [y0, y1, y2, y3, y4][3]? := hf 3 _ rfl
      rw [show Tryz.prog.cellsOf 33 = 1 by kernel_rfl] at g3
      have g4 : DataW.trod enc Tryz.prog w base (fun _ => true) held m 34 (([c0, c1, c2, c3, c4, c5, c6, c7, c8, c9].drop 9).take (Tryz.prog.cellsOf 34)) = [y0, y1, y2, y3, y4][4]? := hf 4 _ rfl
      rw [show Tryz.prog.cellsOf 34 = 1 by kernel_rfl] at g4
      simp only [List.drop_zero, List.drop_succ_cons, List.take_succ_cons, List.take_zero, List.getElem?_cons_zero, List.getElem?_cons_succ] at g0 g1 g2 g3 g4
      obtain ⟨q0, p, dv, q4, q5, ai, mI, ci, ds, hp, hi1, hi2, hds⟩ := pro_cells g0
      obtain ⟨ops, hop⟩ := strs_of g1
      obtain ⟨rs, hrs⟩ := rules_of g2
      obtain ⟨gs, hgs⟩ := gds_of g3
      obtain ⟨os, hos⟩ := ovs_of g4
      simp only [List.cons.injEq, and_true] at hp
      obtain ⟨rfl, rfl, rfl, rfl, rfl, rfl⟩ := hp
      exact ⟨_, _, _, _, _, _, _, _, _, ai, mI, ci, ds, ops, rs, gs, os, rfl, hi1, hi2, hds, hop, hrs, hgs, hos⟩

end

end Go.Proofs.YtknpbcdmemlicaaGreatDoor
