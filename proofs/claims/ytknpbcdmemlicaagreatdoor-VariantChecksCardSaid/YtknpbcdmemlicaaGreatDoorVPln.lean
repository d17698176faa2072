/-
  A step's append; blocks; plain.
-/
import Derived.Test.YtknpbcdmemlicaaGreatDoorVDec
import Derived.Test.YtknpbcdmemlicaaGreatDoorVCf2
import Derived.Deep.RegionHeld3
import Derived.Deep.RegionLaw
import Derived.Deep.AppendLies
namespace Go.Proofs.YtknpbcdmemlicaaGreatDoor
open Go.RowKit

theorem stepApp {t e size bytes : Nat} (E : ElemTy t e size bytes) (hsz : 0 < size) {ops : Array Oper} {o : Oper} {a : Act} {K : Act → World → Prop} {Q : Exit → Act → World → Prop} {E' : Prop} {W : World} (news : List Value) {T : TypeId}
    (hgd : o.guard = none) (s x : Operand) (ho : o.op = .call { callee := .builtin .append, args := #[s, x], argTypes := #[t, t] }) (B n : Nat) (v : Value) (xs : List Value) (g : Nat)
    (hs : a.eval s = v) (hx : a.eval x = .slice (some ⟨g, 0, none⟩) 1 1) (hown : W.ownsRow B e size v n xs) (hblk : W.heap[g]? = some (.cells news.toArray T (0, 0))) (hl : news.length = size) (h1 : ∀ u ∈ news, u.oneCell' = true) (hn : n < 1000000) (hb : bytes ≤ 1000) (hB : B ≤ W.heap.size)
    (h : ∀ g cap w', w'.ownsRow B e size (.slice (some ⟨g, 0, none⟩) (n + 1) cap) (n + 1) (xs ++ news) → W.grownBy w' v.ownBlock → (v.ownBlock = some g ∨ g = W.heap.size) → g < w'.heap.size → K (a.put o.dst (.slice (some ⟨g, 0, none⟩) (n + 1) cap)) w') :
    if Region.wanted o (yielded ops a.tmps) = true then Oper.wp Tryz.prog o a W K Q else E' := by
  have hi := E.info
  simp only [Option.map_eq_some_iff, Prod.mk.injEq] at hi
  obtain ⟨i, hi, ⟨z, hz, hzs⟩, hsize, hby⟩ := hi
  have hbb : (n + 1) * bytes ≤ 140737488355328 := Nat.le_trans (Nat.mul_le_mul (show n + 1 ≤ 1000000 by omega) hb) (by decide)
  exact step_append_lies W hgd s x t ho B e i z size bytes E.und hi hz hsize hby hzs hsz v n xs hs hown ⟨g, 0, none⟩ 1 1 news hx (by omega) (World.news_of_block (cs := news.toArray) (t := T) (fr := (0, 0)) (by simpa using hblk)) h1 (by omega) (by unfold maxLen; omega) hbb hB W.heap.size rfl h

theorem undrew {B : Nat} {w wb : World} (h : Below B w.drew wb) : Below B w wb := ⟨h.os, h.tape, h.output, h.size, h.block⟩

/-- A block of cells. -/
def Blk (w : World) (b : Nat) (cs : Array Value) (T : TypeId) : Prop := w.heap[b]? = some (.cells cs T (0, 0))
theorem Blk.below {w w' : World} {b : Nat} {cs : Array Value} {T : TypeId} (h : Blk w b cs T) (hb : Below w.heap.size w w') : Blk w' b cs T := by
  unfold Blk at *; rw [hb.block b (lt_of_block h)]; exact h
theorem Blk.new (w : World) (cs : Array Value) (T : TypeId) : Blk (w.alloc (.cells cs T)) w.heap.size cs T := heap_alloc_new w _
theorem Blk.old {w : World} {b : Nat} {cs : Array Value} {T : TypeId} (h : Blk w b cs T) (o : Obj) : Blk (w.alloc o) b cs T := h.below (below1 _ _)
theorem Blk.cell {w : World} {b : Nat} {cs : Array Value} {T : TypeId} (h : Blk w b cs T) (i : Nat) : w.cell? ⟨b, i, none⟩ = cs[i]? := by
  unfold Blk at h; simp [World.cell?, h]
theorem Blk.free {w : World} {b : Nat} {cs : Array Value} {T : TypeId} (h : Blk w b cs T) (i : Nat) : w.frozen? ⟨b, i, none⟩ = false := frozen_of_row w b i _ T h
theorem Blk.grown {w w' : World} {b : Nat} {cs : Array Value} {T : TypeId} {v : Value} (h : Blk w b cs T) (hg : w.grownBy w' v.ownBlock) (hne : v.ownBlock ≠ some b) : Blk w' b cs T := by
  unfold Blk at *; rw [hg.block b (lt_of_block h) (Ne.symm hne)]; exact h
theorem Blk.set {w : World} {b : Nat} {cs : Array Value} {T : TypeId} (h : Blk w b cs T) (i : Nat) (v : Value) : Blk (w.setCell ⟨b, i, none⟩ v) b (cs.setIfInBounds i v) T := heap_setCell_same w b i cs T v h
theorem Blk.other {w : World} {b : Nat} {cs : Array Value} {T : TypeId} (h : Blk w b cs T) {p : Addr} (hp : b ≠ p.block) (u : Value) : Blk (w.setCell p u) b cs T := by
  unfold Blk at *; rw [Below.heap_setCell _ _ _ _ hp]; exact h
theorem Blk.lt {w : World} {b : Nat} {cs : Array Value} {T : TypeId} (h : Blk w b cs T) : b < w.heap.size := lt_of_block h

theorem blk6 {w : World} {b : Nat} {x0 x1 x2 x3 x4 x5 : Value} {T : TypeId} (h : w.heap[b]? = some (.cells #[x0, x1, x2, x3, x4, x5] T (0, 0))) :
    (w.cell? ⟨b, 0, none⟩ = some x0 ∧ w.cell? ⟨b, 1, none⟩ = some x1 ∧ w.cell? ⟨b, 2, none⟩ = some x2 ∧ w.cell? ⟨b, 3, none⟩ = some x3 ∧ w.cell? ⟨b, 4, none⟩ = some x4 ∧ w.cell? ⟨b, 5, none⟩ = some x5) ∧
    (w.frozen? ⟨b, 0, none⟩ = false ∧ w.frozen? ⟨b, 1, none⟩ = false ∧ w.frozen? ⟨b, 2, none⟩ = false ∧ w.frozen? ⟨b, 3, none⟩ = false ∧ w.frozen? ⟨b, 4, none⟩ = false ∧ w.frozen? ⟨b, 5, none⟩ = false) := by
  refine ⟨?_, ?_⟩
  · simp [World.cell?, h]
  · refine ⟨?_, ?_, ?_, ?_, ?_, ?_⟩ <;> exact frozen_of_row w b _ _ T h

theorem Blk.set6 {w : World} {b : Nat} {x0 x1 x2 x3 x4 x5 : Value} {T : TypeId} (y0 y1 y2 y3 y4 y5 : Value) (h : Blk w b #[x0, x1, x2, x3, x4, x5] T) :
    Blk ((((((w.setCell ⟨b, 0, none⟩ y0).setCell ⟨b, 1, none⟩ y1).setCell ⟨b, 2, none⟩ y2).setCell ⟨b, 3, none⟩ y3).setCell ⟨b, 4, none⟩ y4).setCell ⟨b, 5, none⟩ y5) b #[y0, y1, y2, y3, y4, y5] T := by
  have := (((((h.set 0 y0).set 1 y1).set 2 y2).set 3 y3).set 4 y4).set 5 y5
  simpa using this
theorem Blk.other6 {w : World} {b c : Nat} {cs : Array Value} {T : TypeId} (y0 y1 y2 y3 y4 y5 : Value) (h : Blk w c cs T) (hne : c ≠ b) :
    Blk ((((((w.setCell ⟨b, 0, none⟩ y0).setCell ⟨b, 1, none⟩ y1).setCell ⟨b, 2, none⟩ y2).setCell ⟨b, 3, none⟩ y3).setCell ⟨b, 4, none⟩ y4).setCell ⟨b, 5, none⟩ y5) c cs T :=
  (((((h.other (p := ⟨b, 0, none⟩) hne y0).other (p := ⟨b, 1, none⟩) hne y1).other (p := ⟨b, 2, none⟩) hne y2).other (p := ⟨b, 3, none⟩) hne y3).other (p := ⟨b, 4, none⟩) hne y4).other (p := ⟨b, 5, none⟩) hne y5
theorem below_set6 {B : Nat} {w w0 : World} {b : Nat} (y0 y1 y2 y3 y4 y5 : Value) (h : Below B w0 w) (hB : B ≤ b) :
    Below B w0 ((((((w.setCell ⟨b, 0, none⟩ y0).setCell ⟨b, 1, none⟩ y1).setCell ⟨b, 2, none⟩ y2).setCell ⟨b, 3, none⟩ y3).setCell ⟨b, 4, none⟩ y4).setCell ⟨b, 5, none⟩ y5) :=
  (((((h.setCell (p := ⟨b, 0, none⟩) hB y0).setCell (p := ⟨b, 1, none⟩) hB y1).setCell (p := ⟨b, 2, none⟩) hB y2).setCell (p := ⟨b, 3, none⟩) hB y3).setCell (p := ⟨b, 4, none⟩) hB y4).setCell (p := ⟨b, 5, none⟩) hB y5

def baseDims : List Dim1 := [(⟨#[100]⟩, 10, -1, 1), (⟨#[101]⟩, 20, -1, 1)]

theorem baseDims_of {w : World} {b : Nat} (h : Blk w b #[.string ⟨#[100]⟩, .int .i64 10, .int .i64 (-1), .int .i64 1, .string ⟨#[101]⟩, .int .i64 20, .int .i64 (-1), .int .i64 1] 84) : Dims w (.slice (some ⟨b, 0, none⟩) 2 2) baseDims := by
  refine ⟨_, _, rfl, by decide, by unfold maxLen; omega, .inr ⟨b, 0, rfl, h.lt, fun i j hi hj => ?_⟩⟩
  rw [h.cell]
  simp only [baseDims, List.map_cons, List.map_nil, List.length_cons, List.length_nil] at hi
  rcases i with _ | _ | i <;> rcases j with _ | _ | _ | _ | j <;> first | omega | rfl

set_option maxRecDepth 100000 in
set_option maxHeartbeats 2000000 in
theorem plain_any (w : World) : Calls Tryz.prog 18 #[] w (fun e w' => ∃ ai ci ad cd, e = .returned (.agg #[.string ⟨#[98, 97, 115, 101]⟩, .slice none 0 0, .slice ai 3 ci, .slice ad 2 cd, .slice none 0 0, .slice none 0 0]) ∧ Dims w' (.slice ad 2 cd) baseDims ∧ FreshV w.heap.size (.slice ad 2 cd) ∧ Below w.heap.size w w') := by
  go_enter Tryz.func18, Tryz.ntmps18
  go_wp2
  have hdb : Blk (((w.alloc (.cells #[.string ⟨#[]⟩, .slice none 0 0, .slice none 0 0, .slice none 0 0, .slice none 0 0, .slice none 0 0] 30)).alloc (.cells #[.string ⟨#[100]⟩, .int .i64 10, .int .i64 (-1), .int .i64 1, .string ⟨#[101]⟩, .int .i64 20, .int .i64 (-1), .int .i64 1] 84)).alloc (.cells #[.string ⟨#[98, 97, 115, 101]⟩, .slice none 0 0, .slice none 0 0, .slice (some ⟨w.heap.size + 1, 0, none⟩) 2 2, .slice none 0 0, .slice none 0 0] 30)) (w.heap.size + 1) #[.string ⟨#[100]⟩, .int .i64 10, .int .i64 (-1), .int .i64 1, .string ⟨#[101]⟩, .int .i64 20, .int .i64 (-1), .int .i64 1] 84 := by
    have := (Blk.new (w.alloc (.cells #[.string ⟨#[]⟩, .slice none 0 0, .slice none 0 0, .slice none 0 0, .slice none 0 0, .slice none 0 0] 30)) #[.string ⟨#[100]⟩, .int .i64 10, .int .i64 (-1), .int .i64 1, .string ⟨#[101]⟩, .int .i64 20, .int .i64 (-1), .int .i64 1] 84).old (.cells #[.string ⟨#[98, 97, 115, 101]⟩, .slice none 0 0, .slice none 0 0, .slice (some ⟨w.heap.size + 1, 0, none⟩) 2 2, .slice none 0 0, .slice none 0 0] 30)
    simpa using this
  have hpb : Blk (((w.alloc (.cells #[.string ⟨#[]⟩, .slice none 0 0, .slice none 0 0, .slice none 0 0, .slice none 0 0, .slice none 0 0] 30)).alloc (.cells #[.string ⟨#[100]⟩, .int .i64 10, .int .i64 (-1), .int .i64 1, .string ⟨#[101]⟩, .int .i64 20, .int .i64 (-1), .int .i64 1] 84)).alloc (.cells #[.string ⟨#[98, 97, 115, 101]⟩, .slice none 0 0, .slice none 0 0, .slice (some ⟨w.heap.size + 1, 0, none⟩) 2 2, .slice none 0 0, .slice none 0 0] 30)) (w.heap.size + 1 + 1) #[.string ⟨#[98, 97, 115, 101]⟩, .slice none 0 0, .slice none 0 0, .slice (some ⟨w.heap.size + 1, 0, none⟩) 2 2, .slice none 0 0, .slice none 0 0] 30 := by
    have := Blk.new ((w.alloc (.cells #[.string ⟨#[]⟩, .slice none 0 0, .slice none 0 0, .slice none 0 0, .slice none 0 0, .slice none 0 0] 30)).alloc (.cells #[.string ⟨#[100]⟩, .int .i64 10, .int .i64 (-1), .int .i64 1, .string ⟨#[101]⟩, .int .i64 20, .int .i64 (-1), .int .i64 1] 84)) #[.string ⟨#[98, 97, 115, 101]⟩, .slice none 0 0, .slice none 0 0, .slice (some ⟨w.heap.size + 1, 0, none⟩) 2 2, .slice none 0 0, .slice none 0 0] 30
    simpa using this
  have hb3 := below3 w (.cells #[.string ⟨#[]⟩, .slice none 0 0, .slice none 0 0, .slice none 0 0, .slice none 0 0, .slice none 0 0] 30) (.cells #[.string ⟨#[100]⟩, .int .i64 10, .int .i64 (-1), .int .i64 1, .string ⟨#[101]⟩, .int .i64 20, .int .i64 (-1), .int .i64 1] 84) (.cells #[.string ⟨#[98, 97, 115, 101]⟩, .slice none 0 0, .slice none 0 0, .slice (some ⟨w.heap.size + 1, 0, none⟩) 2 2, .slice none 0 0, .slice none 0 0] 30)
  have hzb : Blk (((w.alloc (.cells #[.string ⟨#[]⟩, .slice none 0 0, .slice none 0 0, .slice none 0 0, .slice none 0 0, .slice none 0 0] 30)).alloc (.cells #[.string ⟨#[100]⟩, .int .i64 10, .int .i64 (-1), .int .i64 1, .string ⟨#[101]⟩, .int .i64 20, .int .i64 (-1), .int .i64 1] 84)).alloc (.cells #[.string ⟨#[98, 97, 115, 101]⟩, .slice none 0 0, .slice none 0 0, .slice (some ⟨w.heap.size + 1, 0, none⟩) 2 2, .slice none 0 0, .slice none 0 0] 30)) w.heap.size #[.string ⟨#[]⟩, .slice none 0 0, .slice none 0 0, .slice none 0 0, .slice none 0 0, .slice none 0 0] 30 := ((Blk.new w _ 30).old _).old _
  have hsz : (((w.alloc (.cells #[.string ⟨#[]⟩, .slice none 0 0, .slice none 0 0, .slice none 0 0, .slice none 0 0, .slice none 0 0] 30)).alloc (.cells #[.string ⟨#[100]⟩, .int .i64 10, .int .i64 (-1), .int .i64 1, .string ⟨#[101]⟩, .int .i64 20, .int .i64 (-1), .int .i64 1] 84)).alloc (.cells #[.string ⟨#[98, 97, 115, 101]⟩, .slice none 0 0, .slice none 0 0, .slice (some ⟨w.heap.size + 1, 0, none⟩) 2 2, .slice none 0 0, .slice none 0 0] 30)).heap.size = w.heap.size + 3 := by simp
  generalize (((w.alloc (.cells #[.string ⟨#[]⟩, .slice none 0 0, .slice none 0 0, .slice none 0 0, .slice none 0 0, .slice none 0 0] 30)).alloc (.cells #[.string ⟨#[100]⟩, .int .i64 10, .int .i64 (-1), .int .i64 1, .string ⟨#[101]⟩, .int .i64 20, .int .i64 (-1), .int .i64 1] 84)).alloc (.cells #[.string ⟨#[98, 97, 115, 101]⟩, .slice none 0 0, .slice none 0 0, .slice (some ⟨w.heap.size + 1, 0, none⟩) 2 2, .slice none 0 0, .slice none 0 0] 30)) = W at *
  go_loopw [2] (fun i wr => ∃ k : Nat, ∃ a c xs, k ≤ 3 ∧ i = .int .i64 k ∧ Below w.heap.size w wr ∧ w.heap.size + 3 ≤ wr.heap.size ∧ Blk wr w.heap.size #[.string ⟨#[]⟩, .slice none 0 0, .slice none 0 0, .slice none 0 0, .slice none 0 0, .slice none 0 0] 30 ∧
      Blk wr (w.heap.size + 1) #[.string ⟨#[100]⟩, .int .i64 10, .int .i64 (-1), .int .i64 1, .string ⟨#[101]⟩, .int .i64 20, .int .i64 (-1), .int .i64 1] 84 ∧ Blk wr (w.heap.size + 1 + 1) #[.string ⟨#[98, 97, 115, 101]⟩, .slice none 0 0, .slice a k c, .slice (some ⟨w.heap.size + 1, 0, none⟩) 2 2, .slice none 0 0, .slice none 0 0] 30 ∧
      wr.ownsRow (w.heap.size + 3) 115 9 (.slice a k c) k xs) (fun i _ => 3 - (intOf i).toNat)
  case atStart => exact ⟨0, none, 0, [], by omega, rfl, hb3, by omega, hzb, hdb, hpb, World.ownsRow_nil _ _ _ _⟩
  case round =>
    obtain ⟨k, a, c, xs, hk, rfl, hbw, hws, hzb, hdb, hpb, hown⟩ := hrel
    clear hb3 hsz
    by_cases hlt2 : k < 3
    · have c0 := hpb.cell 2
      simp only [List.getElem?_toArray, List.getElem?_cons_succ, List.getElem?_cons_zero] at c0
      have hne : (Value.slice a k c).ownBlock ≠ some (w.heap.size + 1 + 1) := fun h => by have := (hown.lt _ h).1; omega
      have HO : Hid (∀ w2, Calls Tryz.prog 49 #[.int .i64 (k : Int)] w2 (Ret (.string (optS k)) w2)) := fun w2 => option_any k w2 (by omega)
      have Hown := Lib.hid hown
      have Hpb := Lib.hid hpb
      clear hown hpb
      go_wp2
      go_region_law (first
        | (refine stepApp E28 (by decide) _ (by rfl) _ _ (by rfl) (w.heap.size + 3) k _ xs _ (by rfl) (by rfl) (hown1.alloc _) (heap_alloc_new wb _) (by rfl) (by simp [Value.oneCell']) (by omega) (by decide) (by have := hbb.size; simp; omega) ?_; intro g cap w1 hown2 hgr hat hlt; have hpb2 := (hpb1.old _).grown hgr hne; have c3 := hpb2.cell 2; simp only [List.getElem?_toArray, List.getElem?_cons_succ, List.getElem?_cons_zero] at c3; have f3 := hpb2.free 2)
        | (go_simp; refine (HO.out _).mono ?_; rintro e wb ⟨rfl, hbb⟩; have hbb := undrew hbb; have hpb1 := Hpb.out.below hbb; have cb := hpb1.cell 2; have cblt := hpb1.lt; simp only [List.getElem?_toArray, List.getElem?_cons_succ, List.getElem?_cons_zero] at cb; have hown1 := own_below Hown.out hbb))
      all_goals go_wp2
      all_goals
        have hz2 := ((hzb.below hbb).old (.cells _ 115)).grown hgr (fun h => by have := (hown1.lt _ h).1; omega)
        have hd2 := ((hdb.below hbb).old (.cells _ 115)).grown hgr (fun h => by have := (hown1.lt _ h).1; omega)
        have hbw1 := below_app (hbw.via hbb hbw.size) (own_base hown1 (Nat.le_add_right _ 3)) hgr (Nat.le_trans hbw.size hbb.size)
        go_roundw
        case rel =>
          refine ⟨k + 1, _, cap, _, by omega, by go_num, hbw1.setCell (p := ⟨w.heap.size + 1 + 1, 2, none⟩) (show w.heap.size ≤ w.heap.size + 1 + 1 by omega) _, ?_, hz2.other (p := ⟨w.heap.size + 1 + 1, 2, none⟩) (show w.heap.size ≠ w.heap.size + 1 + 1 by omega) _,
            hd2.other (p := ⟨w.heap.size + 1 + 1, 2, none⟩) (show w.heap.size + 1 ≠ w.heap.size + 1 + 1 by omega) _, hpb2.set 2 _, ownsRow_setCell_below hown2 (a := ⟨w.heap.size + 1 + 1, 2, none⟩) (show w.heap.size + 1 + 1 < w.heap.size + 3 by omega) _⟩
          have h1 := hgr.size
          have h2 := hbb.size
          simp [World.setCell] at h1 ⊢
          omega
        case measure => simp [intOf]; omega
    · obtain ⟨⟨z0, z1, z2, z3, z4, z5⟩, ⟨g0, g1, g2, g3, g4, g5⟩⟩ := blk6 hzb
      obtain ⟨⟨p0, p1, p2, p3, p4, p5⟩, -⟩ := blk6 hpb
      have Z := Lib.hid hzb
      have D := Lib.hid hdb
      clear hzb hdb hpb
      go_wp2
      have : k = 3 := by omega
      subst this
      have hz := Z.out.set6 (.string ⟨#[98, 97, 115, 101]⟩) (.slice none 0 0) (.slice a 3 c) (.slice (some ⟨w.heap.size + 1, 0, none⟩) 2 2) (.slice none 0 0) (.slice none 0 0)
      have hd := D.out.other6 (b := w.heap.size) (.string ⟨#[98, 97, 115, 101]⟩) (.slice none 0 0) (.slice a 3 c) (.slice (some ⟨w.heap.size + 1, 0, none⟩) 2 2) (.slice none 0 0) (.slice none 0 0) (by omega)
      have hB := below_set6 (b := w.heap.size) (.string ⟨#[98, 97, 115, 101]⟩) (.slice none 0 0) (.slice a 3 c) (.slice (some ⟨w.heap.size + 1, 0, none⟩) 2 2) (.slice none 0 0) (.slice none 0 0) hbw (Nat.le_refl _)
      obtain ⟨⟨s0, s1, s2, s3, s4, s5⟩, -⟩ := blk6 hz
      refine bodyPost_ret (v := .agg #[.string ⟨#[98, 97, 115, 101]⟩, .slice none 0 0, .slice a 3 c, .slice (some ⟨w.heap.size + 1, 0, none⟩) 2 2, .slice none 0 0, .slice none 0 0]) (by simp [results, Tryz.results18, go_sem, s0, s1, s2, s3, s4, s5]) rfl ⟨_, _, _, _, rfl, baseDims_of hd, fun k hk => (by simp [Value.ownBlock] at hk; omega), hB⟩
end Go.Proofs.YtknpbcdmemlicaaGreatDoor
