/-
  Family's memory, what it hands back; the round of its second loop, off the walk.
-/
import Derived.Test.YtknpbcdmemlicaaGreatDoorVPln
namespace Go.Proofs.YtknpbcdmemlicaaGreatDoor
open Go.RowKit
/-- Rows of integers of one byte in memory. -/
def M8 (w : World) (v : Value) (rows : List (List Int)) : Prop :=
  ∃ rv : List Value, Sl w 1 v (rv.map c1) ∧ rv.length = rows.length ∧ ∀ (k : Nat) (x : Value) (r : List Int), rv[k]? = some x → rows[k]? = some r → I8s w x r
theorem M8.mono {w w' : World} {v : Value} {rows : List (List Int)} (h : M8 w v rows) (hb : Below w.heap.size w w') : M8 w' v rows := by
  obtain ⟨rv, h1, h2, h3⟩ := h
  exact ⟨rv, h1.mono hb, h2, fun k x r hx hr => (h3 k x r hx hr).mono hb⟩
theorem M8.open {w : World} {v : Value} {rows : List (List Int)} (h : M8 w v rows) : ∃ a cap, v = .slice a rows.length cap ∧ rows.length ≤ cap ∧ cap ≤ maxLen := by
  obtain ⟨rv, h1, h2, h3⟩ := h
  have := Sl.open h1
  simpa [h2] using this
theorem M8.at {w wr : World} {n cap : Nat} {a : Option Addr} {rows : List (List Int)} (hS : M8 w (.slice a n cap) rows) (hb : Below w.heap.size w wr) {k : Nat} (hk : k < n) :
    ∃ b off v r, a = some ⟨b, off, none⟩ ∧ rows[k]? = some r ∧ wr.cell? ⟨b, off + k, none⟩ = some v ∧ I8s w v r ∧ b < w.heap.size := by
  obtain ⟨rv, h1, h2, h3⟩ := hS
  obtain ⟨b, off, x, ha, hx, h0⟩ := Sl.at1 h1 hb hk
  have hkr : k < rows.length := by have := lt_of_get hx; omega
  have hbl : b < w.heap.size := by
    obtain ⟨b', off', ha', hlt, -⟩ := h1.row hb hk
    rw [ha] at ha'; cases ha'; exact hlt
  exact ⟨b, off, x, rows[k], ha, by simp [hkr], h0, h3 k x rows[k] hx (by simp [hkr]), hbl⟩

def optsTo (n : Nat) : List ByteArray := (List.range n).map optS
def ruleS (j : Nat) : ByteArray := ⟨#[114, UInt8.ofNat (49 + j)]⟩
def rulesTo (n : Nat) (R : List (List Int)) (k : Nat) : List Rule1 := (List.range k).map fun j => (ruleS j, decodeL n (R.getD j []))
def guardsTo (n : Nat) (D : List (List Int)) (k : Nat) : List Guard1 := (List.range k).map fun j => (((j % 3 : Nat) : Int), decodeL n (D.getD j []))
def ovsTo (n : Nat) (O : List (List Int)) (k : Nat) : List Ov1 :=
  (List.range k).map fun j => (decodeL n (O.getD j []), ((j % 2 : Nat) : Int), ((baseDims.getD (j % 2) (⟨#[]⟩, 0, 0, 0)).1, 100 + (j : Int), (baseDims.getD (j % 2) (⟨#[]⟩, 0, 0, 0)).2.2.1, (baseDims.getD (j % 2) (⟨#[]⟩, 0, 0, 0)).2.2.2))

/-- The memory of Family while it is at work. -/
structure FS (w W : World) (x1 x2 x3 x4 q3 q4 v7 v8 v9 v10 : Value) : Prop where
  below : Below w.heap.size w W
  size : w.heap.size + 4 ≤ W.heap.size
  kin : Blk W w.heap.size #[x1, x2, x3, x4] 70
  prod : Blk W (w.heap.size + 1) #[.string ⟨#[98, 97, 115, 101]⟩, .slice none 0 0, q3, q4, .slice none 0 0, .slice none 0 0] 30
  zero : Blk W (w.heap.size + 1 + 1) #[.string ⟨#[]⟩, .slice none 0 0, .slice none 0 0, .slice none 0 0, .slice none 0 0, .slice none 0 0, .slice none 0 0, .slice none 0 0, .slice none 0 0, .slice none 0 0] 36
  fam : Blk W (w.heap.size + 1 + 1 + 1) #[.string ⟨#[98, 97, 115, 101]⟩, .slice none 0 0, q3, q4, .slice none 0 0, .slice none 0 0, v7, v8, v9, v10] 36

theorem FS.via {w W W' : World} {x1 x2 x3 x4 q3 q4 v7 v8 v9 v10 : Value} (h : FS w W x1 x2 x3 x4 q3 q4 v7 v8 v9 v10) (hb : Below W.heap.size W W') : FS w W' x1 x2 x3 x4 q3 q4 v7 v8 v9 v10 :=
  ⟨h.below.via hb h.below.size, Nat.le_trans h.size hb.size, h.kin.below hb, h.prod.below hb, h.zero.below hb, h.fam.below hb⟩
theorem FS.alloc {w W : World} {x1 x2 x3 x4 q3 q4 v7 v8 v9 v10 : Value} (h : FS w W x1 x2 x3 x4 q3 q4 v7 v8 v9 v10) (o : Obj) : FS w (W.alloc o) x1 x2 x3 x4 q3 q4 v7 v8 v9 v10 := h.via (below1 _ _)
theorem FS.grown {w W W' : World} {x1 x2 x3 x4 q3 q4 v7 v8 v9 v10 v : Value} (h : FS w W x1 x2 x3 x4 q3 q4 v7 v8 v9 v10) (hg : W.grownBy W' v.ownBlock) (hv : ∀ b, v.ownBlock = some b → w.heap.size + 4 ≤ b) : FS w W' x1 x2 x3 x4 q3 q4 v7 v8 v9 v10 :=
  ⟨h.below.grown hg h.below.size (fun b hb => by have := hv b hb; omega), Nat.le_trans h.size hg.size, h.kin.grown hg (fun e => by have := hv _ e; omega), h.prod.grown hg (fun e => by have := hv _ e; omega), h.zero.grown hg (fun e => by have := hv _ e; omega), h.fam.grown hg (fun e => by have := hv _ e; omega)⟩
theorem FS.set7 {w W : World} {x1 x2 x3 x4 q3 q4 v7 v8 v9 v10 : Value} (h : FS w W x1 x2 x3 x4 q3 q4 v7 v8 v9 v10) (v : Value) : FS w (W.setCell ⟨w.heap.size + 1 + 1 + 1, 6, none⟩ v) x1 x2 x3 x4 q3 q4 v v8 v9 v10 :=
  ⟨h.below.setCell (p := ⟨_, 6, none⟩) (show w.heap.size ≤ w.heap.size + 1 + 1 + 1 by omega) v, by have := h.size; simpa [World.setCell] using this, h.kin.other (p := ⟨_, 6, none⟩) (show w.heap.size ≠ w.heap.size + 1 + 1 + 1 by omega) v, h.prod.other (p := ⟨_, 6, none⟩) (show w.heap.size + 1 ≠ w.heap.size + 1 + 1 + 1 by omega) v,
    h.zero.other (p := ⟨_, 6, none⟩) (show w.heap.size + 1 + 1 ≠ w.heap.size + 1 + 1 + 1 by omega) v, h.fam.set 6 v⟩
theorem FS.set8 {w W : World} {x1 x2 x3 x4 q3 q4 v7 v8 v9 v10 : Value} (h : FS w W x1 x2 x3 x4 q3 q4 v7 v8 v9 v10) (v : Value) : FS w (W.setCell ⟨w.heap.size + 1 + 1 + 1, 7, none⟩ v) x1 x2 x3 x4 q3 q4 v7 v v9 v10 :=
  ⟨h.below.setCell (p := ⟨_, 7, none⟩) (show w.heap.size ≤ w.heap.size + 1 + 1 + 1 by omega) v, by have := h.size; simpa [World.setCell] using this, h.kin.other (p := ⟨_, 7, none⟩) (show w.heap.size ≠ w.heap.size + 1 + 1 + 1 by omega) v, h.prod.other (p := ⟨_, 7, none⟩) (show w.heap.size + 1 ≠ w.heap.size + 1 + 1 + 1 by omega) v,
    h.zero.other (p := ⟨_, 7, none⟩) (show w.heap.size + 1 + 1 ≠ w.heap.size + 1 + 1 + 1 by omega) v, h.fam.set 7 v⟩
theorem FS.set9 {w W : World} {x1 x2 x3 x4 q3 q4 v7 v8 v9 v10 : Value} (h : FS w W x1 x2 x3 x4 q3 q4 v7 v8 v9 v10) (v : Value) : FS w (W.setCell ⟨w.heap.size + 1 + 1 + 1, 8, none⟩ v) x1 x2 x3 x4 q3 q4 v7 v8 v v10 :=
  ⟨h.below.setCell (p := ⟨_, 8, none⟩) (show w.heap.size ≤ w.heap.size + 1 + 1 + 1 by omega) v, by have := h.size; simpa [World.setCell] using this, h.kin.other (p := ⟨_, 8, none⟩) (show w.heap.size ≠ w.heap.size + 1 + 1 + 1 by omega) v, h.prod.other (p := ⟨_, 8, none⟩) (show w.heap.size + 1 ≠ w.heap.size + 1 + 1 + 1 by omega) v,
    h.zero.other (p := ⟨_, 8, none⟩) (show w.heap.size + 1 + 1 ≠ w.heap.size + 1 + 1 + 1 by omega) v, h.fam.set 8 v⟩
theorem FS.set10 {w W : World} {x1 x2 x3 x4 q3 q4 v7 v8 v9 v10 : Value} (h : FS w W x1 x2 x3 x4 q3 q4 v7 v8 v9 v10) (v : Value) : FS w (W.setCell ⟨w.heap.size + 1 + 1 + 1, 9, none⟩ v) x1 x2 x3 x4 q3 q4 v7 v8 v9 v :=
  ⟨h.below.setCell (p := ⟨_, 9, none⟩) (show w.heap.size ≤ w.heap.size + 1 + 1 + 1 by omega) v, by have := h.size; simpa [World.setCell] using this, h.kin.other (p := ⟨_, 9, none⟩) (show w.heap.size ≠ w.heap.size + 1 + 1 + 1 by omega) v, h.prod.other (p := ⟨_, 9, none⟩) (show w.heap.size + 1 ≠ w.heap.size + 1 + 1 + 1 by omega) v,
    h.zero.other (p := ⟨_, 9, none⟩) (show w.heap.size + 1 + 1 ≠ w.heap.size + 1 + 1 + 1 by omega) v, h.fam.set 9 v⟩

theorem FS.start (w : World) (x1 x2 x3 x4 q3 q4 : Value) :
    FS w ((((w.alloc (.cells #[x1, x2, x3, x4] 70)).alloc (.cells #[.string ⟨#[98, 97, 115, 101]⟩, .slice none 0 0, q3, q4, .slice none 0 0, .slice none 0 0] 30)).alloc (.cells #[.string ⟨#[]⟩, .slice none 0 0, .slice none 0 0, .slice none 0 0, .slice none 0 0, .slice none 0 0, .slice none 0 0, .slice none 0 0, .slice none 0 0, .slice none 0 0] 36)).alloc (.cells #[.string ⟨#[98, 97, 115, 101]⟩, .slice none 0 0, q3, q4, .slice none 0 0, .slice none 0 0, .slice none 0 0, .slice none 0 0, .slice none 0 0, .slice none 0 0] 36))
      x1 x2 x3 x4 q3 q4 (.slice none 0 0) (.slice none 0 0) (.slice none 0 0) (.slice none 0 0) := by
  have b1 := Blk.new w #[x1, x2, x3, x4] 70
  have b2 := Blk.new (w.alloc (.cells #[x1, x2, x3, x4] 70)) #[.string ⟨#[98, 97, 115, 101]⟩, .slice none 0 0, q3, q4, .slice none 0 0, .slice none 0 0] 30
  have b3 := Blk.new ((w.alloc (.cells #[x1, x2, x3, x4] 70)).alloc (.cells #[.string ⟨#[98, 97, 115, 101]⟩, .slice none 0 0, q3, q4, .slice none 0 0, .slice none 0 0] 30)) #[.string ⟨#[]⟩, .slice none 0 0, .slice none 0 0, .slice none 0 0, .slice none 0 0, .slice none 0 0, .slice none 0 0, .slice none 0 0, .slice none 0 0, .slice none 0 0] 36
  have b4 := Blk.new (((w.alloc (.cells #[x1, x2, x3, x4] 70)).alloc (.cells #[.string ⟨#[98, 97, 115, 101]⟩, .slice none 0 0, q3, q4, .slice none 0 0, .slice none 0 0] 30)).alloc (.cells #[.string ⟨#[]⟩, .slice none 0 0, .slice none 0 0, .slice none 0 0, .slice none 0 0, .slice none 0 0, .slice none 0 0, .slice none 0 0, .slice none 0 0, .slice none 0 0] 36)) #[.string ⟨#[98, 97, 115, 101]⟩, .slice none 0 0, q3, q4, .slice none 0 0, .slice none 0 0, .slice none 0 0, .slice none 0 0, .slice none 0 0, .slice none 0 0] 36
  simp only [World.size_alloc] at b2 b3 b4
  exact ⟨((below3 w _ _ _).alloc (by simp; omega) _), by simp, ((b1.old _).old _).old _, (b2.old _).old _, b3.old _, b4⟩

theorem grown_trans {a b c : World} {row : Option Nat} (h : a.grownBy b row) (k : b.grownBy c row) : a.grownBy c row :=
  ⟨k.os.trans h.os, k.tape.trans h.tape, k.output.trans h.output, Nat.le_trans h.size k.size, fun i hi hne => (k.block i (Nat.lt_of_lt_of_le hi h.size) hne).trans (h.block i hi hne)⟩
theorem grown1 {a c : World} {row : Option Nat} {o : Obj} (k : (a.alloc o).grownBy c row) : a.grownBy c row := grown_trans (World.grownBy_alloc a o row) k
theorem grown2 {a c : World} {row : Option Nat} {o o2 : Obj} (k : ((a.alloc o).alloc o2).grownBy c row) : a.grownBy c row := grown1 (grown1 k)

theorem Sl.grown {w w' : World} {sz : Nat} {v : Value} {rows : List (List Value)} (h : Sl w sz v rows) {row : Option Nat} (hg : w.grownBy w' row) (hne : ∀ b, v.ownBlock = some b → row ≠ some b) : Sl w' sz v rows := by
  obtain ⟨a, cap, rfl, hc, hm, h⟩ := h
  refine ⟨a, cap, rfl, hc, hm, ?_⟩
  rcases h with h | ⟨b, off, rfl, hlt, hcell⟩
  · exact .inl h
  · refine .inr ⟨b, off, rfl, Nat.lt_of_lt_of_le hlt hg.size, fun i j hi hj => ?_⟩
    have hb := hne b rfl
    rw [World.cell?_of_block (w := w) (a := ⟨b, _, none⟩) (hg.block b hlt (Ne.symm hb))]
    exact hcell i j hi hj

theorem RulesRow.step {w w' : World} {rvk : List (Value × Value)} {rs : List Rule1} (h : RulesRow w rvk rs) (hk : ∀ x ∈ rvk, ∀ ls, Lits w x.2 ls → Lits w' x.2 ls) : RulesRow w' rvk rs :=
  ⟨h.1, fun k x r hx hr => ⟨(h.2 k x r hx hr).1, hk x (List.mem_of_getElem? hx) _ (h.2 k x r hx hr).2⟩⟩
theorem RulesRow.snoc {w : World} {rvk : List (Value × Value)} {rs : List Rule1} {x : Value × Value} {r : Rule1} (h : RulesRow w rvk rs) (h1 : x.1 = .string r.1) (h2 : Lits w x.2 r.2) : RulesRow w (rvk ++ [x]) (rs ++ [r]) := by
  refine ⟨by simp [h.1], fun k y q hy hq => ?_⟩
  have hl := h.1
  rcases Nat.lt_or_ge k rvk.length with hlt | hge
  · rw [List.getElem?_append_left hlt] at hy
    rw [List.getElem?_append_left (by omega)] at hq
    exact h.2 k y q hy hq
  · rw [List.getElem?_append_right hge] at hy
    rw [List.getElem?_append_right (by omega)] at hq
    have hk : k - rvk.length = 0 := by
      rcases Nat.eq_zero_or_pos (k - rvk.length) with h0 | h0
      · exact h0
      · rw [List.getElem?_eq_none (by simp; omega)] at hy; cases hy
    rw [hk] at hy
    rw [show k - rs.length = 0 by omega] at hq
    simp at hy hq
    subst hy hq
    exact ⟨h1, h2⟩

theorem rulesTo_succ (n : Nat) (R : List (List Int)) (k : Nat) : rulesTo n R (k + 1) = rulesTo n R k ++ [(ruleS k, decodeL n (R.getD k []))] := by simp [rulesTo, List.range_succ]

theorem bytes_rule (j : Nat) (W : World) (b : Nat) (hj : j < 20) (h : Blk W b #[.int .u8 114, .int .u8 (49 + (j : Int))] 5) : (convert 120 9 (.slice (some ⟨b, 0, none⟩) 2 2)).run Tryz.prog W = .ok (.string (ruleS j)) W := by
  have h := run_convert_bytes_arg (P := Tryz.prog) W 120 5 Tryz.underlying120 Tryz.underlying5 b 0 2 2 [114, 49 + (j : Int)] rfl (fun i hi => by
    rw [show 0 + i = i by omega, h.cell]
    rcases i with _ | _ | i
    · rfl
    · rfl
    · omega) 9 Tryz.underlying9
  have e : strOfNums [114, 49 + (j : Int)] = ruleS j := by
    have : (49 + (j : Int)).toNat = 49 + j := by omega
    simp [strOfNums, ruleS, this]
  rw [e] at h
  exact h

theorem blk_at (w : World) (o o2 : Obj) : ((w.alloc o).alloc o2).heap[w.heap.size + 1]? = some o2 := by
  have := heap_alloc_new (w.alloc o) o2
  simpa using this

theorem cell_alloc {w : World} {a : Addr} {v : Value} {o : Obj} (h : w.cell? a = some v) : (w.alloc o).cell? a = some v := (World.cell?_alloc_some w a o (by rw [h]; rfl)).trans h
theorem cell_far {w : World} {a p : Addr} {v u : Value} (h : w.cell? a = some v) (hne : p.block ≠ a.block) : (w.setCell p u).cell? a = some v := (World.cell?_setCell_far w p a u hne).trans h

theorem optsTo_succ (k : Nat) : optsTo (k + 1) = optsTo k ++ [optS k] := by simp [optsTo, List.range_succ]

set_option maxHeartbeats 2000000 in

theorem rules_step {w W2 wr wb w1 : World} {x1 x2 x3 x4 q3 q4 v7 : Value} {n j c8 g cap ll lc : Nat} {a8 la : Option Addr} {rvk : List (Value × Value)} {os : List Value} {code : List Int} {R : List (List Int)} {s : ByteArray}
    (hFS2 : FS w w1 x1 x2 x3 x4 q3 q4 v7 (.slice a8 j c8) (.slice none 0 0) (.slice none 0 0)) (h4 : w.heap.size + 4 ≤ W2.heap.size) (hW : W2.heap.size ≤ wr.heap.size) (h7lt : ∀ b, v7.ownBlock = some b → b < W2.heap.size)
    (hown7 : wr.ownsRow (w.heap.size + 4) 9 1 v7 n os) (hown : wr.ownsRow W2.heap.size 40 2 (.slice a8 j c8) j ((rvk.map c2).flatten)) (hrr : RulesRow wr rvk (rulesTo n R j))
    (hsep : ∀ x ∈ rvk, ∀ b, x.2.ownBlock = some b → W2.heap.size ≤ b ∧ b < wr.heap.size ∧ (Value.slice a8 j c8).ownBlock ≠ some b) (hbb : Below wr.heap.size wr wb) (hgw : wb.grownBy w1 (Value.slice a8 j c8).ownBlock)
    (hlit : Lits wb (.slice la ll lc) (decodeL n code)) (hfresh : ∀ b, (Value.slice la ll lc).ownBlock = some b → wr.heap.size ≤ b ∧ b < wb.heap.size) (hcode : R.getD j [] = code) (hs : ruleS j = s)
    (hown2 : w1.ownsRow W2.heap.size 40 2 (.slice (some ⟨g, 0, none⟩) (j + 1) cap) (j + 1) ((rvk.map c2).flatten ++ [.string s, .slice la ll lc])) (hgat : (Value.slice a8 j c8).ownBlock = some g ∨ wb.heap.size ≤ g) :
    ∃ a8' c8' rvk', FS w (w1.setCell ⟨w.heap.size + 1 + 1 + 1, 7, none⟩ (.slice (some ⟨g, 0, none⟩) (j + 1) cap)) x1 x2 x3 x4 q3 q4 v7 (.slice a8' (j + 1) c8') (.slice none 0 0) (.slice none 0 0) ∧
      (w1.setCell ⟨w.heap.size + 1 + 1 + 1, 7, none⟩ (.slice (some ⟨g, 0, none⟩) (j + 1) cap)).ownsRow (w.heap.size + 4) 9 1 v7 n os ∧ (w1.setCell ⟨w.heap.size + 1 + 1 + 1, 7, none⟩ (.slice (some ⟨g, 0, none⟩) (j + 1) cap)).ownsRow W2.heap.size 40 2 (.slice a8' (j + 1) c8') (j + 1) ((rvk'.map c2).flatten) ∧
      RulesRow (w1.setCell ⟨w.heap.size + 1 + 1 + 1, 7, none⟩ (.slice (some ⟨g, 0, none⟩) (j + 1) cap)) rvk' (rulesTo n R (j + 1)) ∧
      (∀ x ∈ rvk', ∀ b, x.2.ownBlock = some b → W2.heap.size ≤ b ∧ b < (w1.setCell ⟨w.heap.size + 1 + 1 + 1, 7, none⟩ (.slice (some ⟨g, 0, none⟩) (j + 1) cap)).heap.size ∧ (Value.slice a8' (j + 1) c8').ownBlock ≠ some b) ∧
      W2.heap.size ≤ (w1.setCell ⟨w.heap.size + 1 + 1 + 1, 7, none⟩ (.slice (some ⟨g, 0, none⟩) (j + 1) cap)).heap.size := by
  have hs1 : wr.heap.size ≤ wb.heap.size := hbb.size
  have hs2 : wb.heap.size ≤ w1.heap.size := hgw.size
  have hsz : (w1.setCell ⟨w.heap.size + 1 + 1 + 1, 7, none⟩ (.slice (some ⟨g, 0, none⟩) (j + 1) cap)).heap.size = w1.heap.size := by simp [World.setCell]
  have h8lt := hown.lt
  refine ⟨some ⟨g, 0, none⟩, cap, rvk ++ [(.string s, .slice la ll lc)], hFS2.set8 _, ?_, ?_, ?_, ?_, by omega⟩
  · have h1 := own_below hown7 hbb
    have h2 : w1.ownsRow (w.heap.size + 4) 9 1 v7 n os := h1.kept hgw (by
      cases hv : v7.ownBlock with
      | none => exact .inl rfl
      | some b => exact .inr (fun e => by have := h7lt b hv; have := (h8lt b e.symm).1; omega))
    exact ownsRow_setCell_below h2 (a := ⟨w.heap.size + 1 + 1 + 1, 7, none⟩) (show w.heap.size + 1 + 1 + 1 < w.heap.size + 4 by omega) _
  · have := ownsRow_setCell_below hown2 (a := ⟨w.heap.size + 1 + 1 + 1, 7, none⟩) (show w.heap.size + 1 + 1 + 1 < W2.heap.size by omega) (.slice (some ⟨g, 0, none⟩) (j + 1) cap)
    simpa [c2] using this
  · rw [rulesTo_succ, hcode, hs]
    refine RulesRow.snoc (hrr.step fun x hx ls hl => ?_) rfl ?_
    · have h1 : Lits wb x.2 ls := hl.mono hbb
      have h2 : Lits w1 x.2 ls := Sl.grown h1 hgw (fun b hb => (hsep x hx b hb).2.2)
      exact Sl.set h2 (p := ⟨w.heap.size + 1 + 1 + 1, 7, none⟩) (fun b hb => by have := (hsep x hx b hb).1; show b ≠ w.heap.size + 1 + 1 + 1; omega) _
    · have h2 : Lits w1 (.slice la ll lc) (decodeL n code) := Sl.grown hlit hgw (fun b hb e => by have := (hfresh b hb).1; have := (h8lt b e).2; omega)
      exact Sl.set h2 (p := ⟨w.heap.size + 1 + 1 + 1, 7, none⟩) (fun b hb => by have := (hfresh b hb).1; show b ≠ w.heap.size + 1 + 1 + 1; omega) _
  · intro x hx b hb
    rw [hsz]
    simp only [List.mem_append, List.mem_singleton] at hx
    rcases hx with hx | rfl
    · obtain ⟨s1, s2, s3⟩ := hsep x hx b hb
      refine ⟨s1, by omega, fun e => ?_⟩
      have e : g = b := by simpa [Value.ownBlock] using e
      subst e
      rcases hgat with h | h
      · exact s3 h
      · omega
    · obtain ⟨s1, s2⟩ := hfresh b hb
      refine ⟨by omega, by omega, fun e => ?_⟩
      have e : g = b := by simpa [Value.ownBlock] using e
      subst e
      rcases hgat with h | h
      · have := (h8lt g h).2; omega
      · omega

end Go.Proofs.YtknpbcdmemlicaaGreatDoor
