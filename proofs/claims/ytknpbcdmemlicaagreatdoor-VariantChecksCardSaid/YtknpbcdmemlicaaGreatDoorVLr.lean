/-
  A row of rows that bear literals, off the walk; worlds that agree below a bound but for one block.
-/
import Derived.Test.YtknpbcdmemlicaaGreatDoorVFs
namespace Go.Proofs.YtknpbcdmemlicaaGreatDoor
open Go.RowKit

/-- Below B the worlds agree, but for block F. -/
structure Eqb (B F : Nat) (w w' : World) : Prop where
  size : B ≤ w'.heap.size
  block : ∀ k, k < B → k ≠ F → w'.heap[k]? = w.heap[k]?

theorem Eqb.refl {w : World} (F : Nat) : Eqb w.heap.size F w w := ⟨Nat.le_refl _, fun _ _ _ => rfl⟩
theorem Eqb.below {B F : Nat} {w wr wb : World} (h : Eqb B F w wr) (hb : Below wr.heap.size wr wb) : Eqb B F w wb :=
  ⟨Nat.le_trans h.size hb.size, fun k hk hF => (hb.block k (Nat.lt_of_lt_of_le hk h.size)).trans (h.block k hk hF)⟩
theorem Eqb.grown {B F : Nat} {w wb w1 : World} {v : Value} (h : Eqb B F w wb) (hg : wb.grownBy w1 v.ownBlock) (hv : ∀ b, v.ownBlock = some b → B ≤ b) : Eqb B F w w1 :=
  ⟨Nat.le_trans h.size hg.size, fun k hk hF => (hg.block k (Nat.lt_of_lt_of_le hk h.size) (fun e => by have := hv k e.symm; omega)).trans (h.block k hk hF)⟩
theorem Eqb.set {B F : Nat} {w w1 : World} (h : Eqb B F w w1) (i : Nat) (v : Value) : Eqb B F w (w1.setCell ⟨F, i, none⟩ v) :=
  ⟨by have := h.size; simpa [World.setCell] using this, fun k hk hF => (heap_setCell_other w1 ⟨F, i, none⟩ k v hF).trans (h.block k hk hF)⟩

theorem Sl.eqb {B F : Nat} {w w' : World} {sz : Nat} {v : Value} {rows : List (List Value)} (h : Sl w sz v rows) (he : Eqb B F w w') (hv : ∀ b, v.ownBlock = some b → b < B ∧ b ≠ F) : Sl w' sz v rows := by
  obtain ⟨a, cap, rfl, hc, hm, h⟩ := h
  refine ⟨a, cap, rfl, hc, hm, ?_⟩
  rcases h with h | ⟨b, off, rfl, hlt, hcell⟩
  · exact .inl h
  · have hb := hv b rfl
    refine .inr ⟨b, off, rfl, Nat.lt_of_lt_of_le hb.1 he.size, fun i j hi hj => ?_⟩
    rw [World.cell?_of_block (w := w) (a := ⟨b, _, none⟩) (he.block b hb.1 hb.2)]
    exact hcell i j hi hj

theorem own_eqb {B F : Nat} {w w' : World} {M e sz n : Nat} {v : Value} {xs : List Value} (h : w.ownsRow M e sz v n xs) (he : Eqb B F w w') (hv : ∀ b, v.ownBlock = some b → b < B ∧ b ≠ F) : w'.ownsRow M e sz v n xs := by
  refine ⟨h.1, ?_⟩
  rcases h.2 with hn | ⟨g, cap, cur, rfl, hb', hgg, rest⟩
  · exact .inl hn
  · have hb := hv g rfl
    exact .inr ⟨g, cap, cur, rfl, hb', by rw [he.block g hb.1 hb.2]; exact hgg, rest⟩

/-- A row of rows, row j made of j and of a slice of literals. -/
structure LRow (wr : World) (M e sz : Nat) (v : Value) (j : Nat) (lvs : List Value) (row : Nat → Value → List Value) (ll : Nat → List Lit1) : Prop where
  own : wr.ownsRow M e sz v j ((lvs.zipIdx.map fun p => row p.2 p.1).flatten)
  len : lvs.length = j
  lits : ∀ k x, lvs[k]? = some x → Lits wr x (ll k)
  sep : ∀ x ∈ lvs, ∀ b, x.ownBlock = some b → M ≤ b ∧ b < wr.heap.size ∧ v.ownBlock ≠ some b

theorem LRow.start (wr : World) (M e sz : Nat) (row : Nat → Value → List Value) (ll : Nat → List Lit1) : LRow wr M e sz (.slice none 0 0) 0 [] row ll :=
  ⟨World.ownsRow_nil _ _ _ _, rfl, fun k x h => by simp at h, fun x h => by simp at h⟩

theorem LRow.step {wr wb w1 : World} {M e sz F i j g cap : Nat} {v lv u : Value} {lvs : List Value} {row : Nat → Value → List Value} {ll : Nat → List Lit1} (h : LRow wr M e sz v j lvs row ll) (hF : F < M) (hM : M ≤ wr.heap.size)
    (hbb : Below wr.heap.size wr wb) (hgw : wb.grownBy w1 v.ownBlock) (hlit : Lits wb lv (ll j)) (hfresh : ∀ b, lv.ownBlock = some b → wr.heap.size ≤ b ∧ b < wb.heap.size)
    (hown2 : w1.ownsRow M e sz (.slice (some ⟨g, 0, none⟩) (j + 1) cap) (j + 1) ((lvs.zipIdx.map fun p => row p.2 p.1).flatten ++ row j lv)) (hgat : v.ownBlock = some g ∨ wb.heap.size ≤ g) :
    LRow (w1.setCell ⟨F, i, none⟩ u) M e sz (.slice (some ⟨g, 0, none⟩) (j + 1) cap) (j + 1) (lvs ++ [lv]) row ll := by
  have hs1 : wr.heap.size ≤ wb.heap.size := hbb.size
  have hs2 : wb.heap.size ≤ w1.heap.size := hgw.size
  have hsz : (w1.setCell ⟨F, i, none⟩ u).heap.size = w1.heap.size := by simp [World.setCell]
  have hvlt := h.own.lt
  have hlen := h.len
  refine ⟨?_, by simp [hlen], fun k x hx => ?_, fun x hx b hb => ?_⟩
  · have := ownsRow_setCell_below hown2 (a := ⟨F, i, none⟩) hF u
    simpa [List.zipIdx_append, hlen] using this
  · rcases Nat.lt_or_ge k lvs.length with hlt | hge
    · rw [List.getElem?_append_left hlt] at hx
      have hxm := List.mem_of_getElem? hx
      have h1 : Lits wb x (ll k) := (h.lits k x hx).mono hbb
      have h2 : Lits w1 x (ll k) := Sl.grown h1 hgw (fun b hb => (h.sep x hxm b hb).2.2)
      exact Sl.set h2 (p := ⟨F, i, none⟩) (fun b hb => by have := (h.sep x hxm b hb).1; show b ≠ F; omega) _
    · rw [List.getElem?_append_right hge] at hx
      have hk : k - lvs.length = 0 := by
        rcases Nat.eq_zero_or_pos (k - lvs.length) with h0 | h0
        · exact h0
        · rw [List.getElem?_eq_none (by simp; omega)] at hx; cases hx
      rw [hk] at hx
      simp at hx
      subst hx
      obtain rfl : k = j := by omega
      have h2 : Lits w1 lv (ll k) := Sl.grown hlit hgw (fun b hb e => by have := (hfresh b hb).1; have := (hvlt b e).2; omega)
      exact Sl.set h2 (p := ⟨F, i, none⟩) (fun b hb => by have := (hfresh b hb).1; show b ≠ F; omega) _
  · rw [hsz]
    simp only [List.mem_append, List.mem_singleton] at hx
    rcases hx with hx | rfl
    · obtain ⟨s1, s2, s3⟩ := h.sep x hx b hb
      refine ⟨s1, by omega, fun e => ?_⟩
      have e : g = b := by simpa [Value.ownBlock] using e
      subst e
      rcases hgat with h' | h'
      · exact s3 h'
      · omega
    · obtain ⟨s1, s2⟩ := hfresh b hb
      refine ⟨by omega, by omega, fun e => ?_⟩
      have e : g = b := by simpa [Value.ownBlock] using e
      subst e
      rcases hgat with h' | h'
      · have := (hvlt g h').2; omega
      · omega

theorem LRow.eqb {w w' : World} {M e sz j B F : Nat} {v : Value} {lvs : List Value} {row : Nat → Value → List Value} {ll : Nat → List Lit1} (h : LRow w M e sz v j lvs row ll) (he : Eqb B F w w') (hB : w.heap.size ≤ B) (hF : F < M) : LRow w' M e sz v j lvs row ll :=
  ⟨own_eqb h.own he (fun b hb => by have := h.own.lt b hb; omega), h.len, fun k x hx => Sl.eqb (h.lits k x hx) he (fun b hb => by have := h.sep x (List.mem_of_getElem? hx) b hb; omega),
    fun x hx b hb => by have := h.sep x hx b hb; exact ⟨this.1, by have := he.size; omega, this.2.2⟩⟩

theorem flatN_get {rows : List (List Value)} {sz : Nat} (hl : ∀ r ∈ rows, r.length = sz) {i j : Nat} (hi : i < rows.length) (hj : j < sz) : rows.flatten[i * sz + j]? = some ((rows.getD i []).getD j undef) := by
  induction rows generalizing i with
  | nil => simp at hi
  | cons r rs ih =>
    have hr : r.length = sz := hl r (by simp)
    cases i with
    | zero =>
      rw [List.flatten_cons, show 0 * sz + j = j by omega, List.getElem?_append_left (by omega)]
      simp [show j < r.length by omega]
    | succ i =>
      rw [List.flatten_cons, List.getElem?_append_right (by rw [hr, Nat.succ_mul]; omega), hr, show (i + 1) * sz + j - sz = i * sz + j by rw [Nat.succ_mul]; omega]
      have := ih (fun r h => hl r (by simp [h])) (i := i) (by simpa using hi)
      simpa using this

theorem Sl.ownN {w : World} {M e sz n : Nat} {v : Value} {rows : List (List Value)} (hl : ∀ r ∈ rows, r.length = sz) (hn : rows.length = n) (h : w.ownsRow M e sz v n rows.flatten) : Sl w sz v rows := by
  subst hn
  rcases h.2 with ⟨rfl, h0⟩ | ⟨g, cap, cur, rfl, hb, hg, hnc, hcm, hcs, htk⟩
  · have : rows = [] := List.length_eq_zero_iff.1 (by omega)
    subst this
    exact Sl.nil _ _
  · refine ⟨_, cap, rfl, by omega, hcm, .inr ⟨g, 0, rfl, (Array.getElem?_eq_some_iff.1 hg).1, fun i j hi hj => ?_⟩⟩
    have hc := h.cells (g := g) (by simp [Value.ownBlock]) _ _ (flatN_get hl hi hj)
    have ha : ∀ k, (⟨g, 0, none⟩ : Addr).add k = ⟨g, k, none⟩ := fun k => by unfold Addr.add; split <;> simp_all
    rw [ha] at hc
    rw [Nat.zero_add]
    exact hc

/-- The cells of a guard, of an override. -/
def gRow (j : Nat) (lv : Value) : List Value := [.int .i64 ((j : Int) % 3), lv]
def dimOf (j : Nat) : Dim1 := baseDims.getD (j % 2) (⟨#[]⟩, 0, 0, 0)
def oRow (j : Nat) (lv : Value) : List Value := [lv, .int .i64 ((j : Int) % 2), .string (dimOf j).1, .int .i64 (100 + (j : Int)), .int .i64 (dimOf j).2.2.1, .int .i64 (dimOf j).2.2.2]

theorem LRow.gds {w : World} {M j n : Nat} {v : Value} {lvs : List Value} {D : List (List Int)} (h : LRow w M 80 2 v j lvs gRow (fun i => decodeL n (D.getD i []))) : Gds w v (guardsTo n D j) := by
  have hlen := h.len
  refine ⟨lvs.zipIdx.map fun p => (.int .i64 ((p.2 : Int) % 3), p.1), ?_, by simp [guardsTo, hlen], fun k x g hx hg => ?_⟩
  · have := Sl.ownN (rows := lvs.zipIdx.map fun p => gRow p.2 p.1) (fun r hr => by obtain ⟨p, _, rfl⟩ := List.mem_map.1 hr; rfl) (by simpa using hlen) h.own
    rw [List.map_map]
    exact this
  · have hk : k < j := by have := lt_of_get hg; simpa [guardsTo] using this
    simp only [List.getElem?_map, Option.map_eq_some_iff, List.getElem?_zipIdx] at hx
    obtain ⟨p, ⟨lv, hlv, rfl⟩, rfl⟩ := hx
    simp only [guardsTo, List.getElem?_map, List.getElem?_range hk, Option.map_some, Option.some.injEq] at hg
    subst hg
    exact ⟨by simp, h.lits k lv hlv⟩

theorem LRow.ovs {w : World} {M j n : Nat} {v : Value} {lvs : List Value} {O : List (List Int)} (h : LRow w M 86 6 v j lvs oRow (fun i => decodeL n (O.getD i []))) : Ovs w v (ovsTo n O j) := by
  have hlen := h.len
  refine ⟨lvs.zipIdx.map fun p => (p.1, (decodeL n (O.getD p.2 []), (p.2 : Int) % 2, (dimOf p.2).1, 100 + (p.2 : Int), (dimOf p.2).2.2.1, (dimOf p.2).2.2.2)), ?_, ?_, fun x hx => ?_⟩
  · have := Sl.ownN (rows := lvs.zipIdx.map fun p => oRow p.2 p.1) (fun r hr => by obtain ⟨p, _, rfl⟩ := List.mem_map.1 hr; rfl) (by simpa using hlen) h.own
    rw [List.map_map]
    exact this
  · apply List.ext_getElem?
    intro k
    rcases Nat.lt_or_ge k j with hk | hk
    · have hkl : k < lvs.length := by omega
      simp [ovsTo, dimOf, hk, hkl]
    · rw [List.getElem?_eq_none (by simp; omega), List.getElem?_eq_none (by simp [ovsTo]; omega)]
  · obtain ⟨p, hp, rfl⟩ := List.mem_map.1 hx
    obtain ⟨k, hk⟩ := List.getElem?_of_mem hp
    simp only [List.getElem?_zipIdx, Option.map_eq_some_iff] at hk
    obtain ⟨lv, hlv, rfl⟩ := hk
    have := h.lits k lv hlv
    simpa using this

end Go.Proofs.YtknpbcdmemlicaaGreatDoor
