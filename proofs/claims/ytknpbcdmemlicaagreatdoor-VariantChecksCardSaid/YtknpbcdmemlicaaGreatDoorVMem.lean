/-
  Guards, dimensions, overrides in memory; a set of strings in a map.
-/
import Derived.Test.YtknpbcdmemlicaaGreatDoorVBase
import Derived.Maps.OwnOps
import Derived.Maps.Views
namespace Go.Proofs.YtknpbcdmemlicaaGreatDoor
open Go.RowKit

/-- Guards in memory. -/
def Gds (w : World) (v : Value) (gs : List Guard1) : Prop :=
  ∃ gv : List (Value × Value), Sl w 2 v (gv.map c2) ∧ gv.length = gs.length ∧ ∀ (k : Nat) (x : Value × Value) (g : Guard1), gv[k]? = some x → gs[k]? = some g → x.1 = .int .i64 g.1 ∧ Lits w x.2 g.2

theorem Gds.mono {w w' : World} {v : Value} {gs : List Guard1} (h : Gds w v gs) (hb : Below w.heap.size w w') : Gds w' v gs := by
  obtain ⟨rv, h1, h2, h3⟩ := h
  exact ⟨rv, h1.mono hb, h2, fun k x r hx hr => ⟨(h3 k x r hx hr).1, (h3 k x r hx hr).2.mono hb⟩⟩

theorem Gds.open {w : World} {v : Value} {gs : List Guard1} (h : Gds w v gs) : ∃ a cap, v = .slice a gs.length cap ∧ gs.length ≤ cap ∧ cap ≤ maxLen := by
  obtain ⟨rv, h1, h2, h3⟩ := h
  have := Sl.open h1
  simpa [h2] using this

theorem lt_of_get {α : Type} {l : List α} {k : Nat} {x : α} (h : l[k]? = some x) : k < l.length := by
  rcases Nat.lt_or_ge k l.length with h' | h'
  · exact h'
  · simp [List.getElem?_eq_none h'] at h

theorem Gds.at {w wr : World} {n cap : Nat} {a : Option Addr} {gs : List Guard1} (hS : Gds w (.slice a n cap) gs) (hb : Below w.heap.size w wr) {k : Nat} (hk : k < n) :
    ∃ b off av g, a = some ⟨b, off, none⟩ ∧ gs[k]? = some g ∧ wr.cell? ⟨b, off + k * 2, none⟩ = some (.int .i64 g.1) ∧ wr.cell? ⟨b, off + k * 2 + 1, none⟩ = some av ∧ Lits wr av g.2 := by
  obtain ⟨rv, h1, h2, h3⟩ := hS
  obtain ⟨b, off, x, ha, hx, h0, h1'⟩ := Sl.at2 h1 hb hk
  have hkr : k < gs.length := by have := lt_of_get hx; omega
  obtain ⟨hn, hl⟩ := h3 k x gs[k] hx (by simp [hkr])
  exact ⟨b, off, x.2, gs[k], ha, by simp [hkr], by rw [h0, hn], h1', hl.mono hb⟩

/-- Dimensions in memory. -/
def dimC (d : Dim1) : List Value := [.string d.1, .int .i64 d.2.1, .int .i64 d.2.2.1, .int .i64 d.2.2.2]
def Dims (w : World) (v : Value) (ds : List Dim1) : Prop := Sl w 4 v (ds.map dimC)
theorem Dims.mono {w w' : World} {v : Value} {ds : List Dim1} (h : Dims w v ds) (hb : Below w.heap.size w w') : Dims w' v ds := Sl.mono h hb
theorem Dims.open {w : World} {v : Value} {ds : List Dim1} (h : Dims w v ds) : ∃ a cap, v = .slice a ds.length cap ∧ ds.length ≤ cap ∧ cap ≤ maxLen := by
  have := Sl.open h; simpa using this
theorem Dims.at {w wr : World} {n cap : Nat} {a : Option Addr} {ds : List Dim1} (hS : Dims w (.slice a n cap) ds) (hb : Below w.heap.size w wr) {k : Nat} (hk : k < n) :
    ∃ b off d, a = some ⟨b, off, none⟩ ∧ ds[k]? = some d ∧ b < w.heap.size ∧ wr.cell? ⟨b, off + k * 4, none⟩ = some (.string d.1) ∧ wr.cell? ⟨b, off + k * 4 + 1, none⟩ = some (.int .i64 d.2.1) ∧
      wr.cell? ⟨b, off + k * 4 + 2, none⟩ = some (.int .i64 d.2.2.1) ∧ wr.cell? ⟨b, off + k * 4 + 3, none⟩ = some (.int .i64 d.2.2.2) := by
  obtain ⟨b, off, ha, hlt, r, hr, hc⟩ := Sl.row hS hb hk
  simp only [List.getElem?_map, Option.map_eq_some_iff] at hr
  obtain ⟨d, hd, rfl⟩ := hr
  exact ⟨b, off, d, ha, hd, hlt, by simpa [dimC] using hc 0 (by omega), by simpa [dimC] using hc 1 (by omega), by simpa [dimC] using hc 2 (by omega), by simpa [dimC] using hc 3 (by omega)⟩

/-- Overrides in memory. -/
def ovC (a : Value) (o : Ov1) : List Value := a :: .int .i64 o.2.1 :: dimC o.2.2
def Ovs (w : World) (v : Value) (os : List Ov1) : Prop :=
  ∃ ov : List (Value × Ov1), Sl w 6 v (ov.map fun x => ovC x.1 x.2) ∧ ov.map (·.2) = os ∧ ∀ x ∈ ov, Lits w x.1 x.2.1
theorem Ovs.mono {w w' : World} {v : Value} {os : List Ov1} (h : Ovs w v os) (hb : Below w.heap.size w w') : Ovs w' v os := by
  obtain ⟨rv, h1, h2, h3⟩ := h
  exact ⟨rv, h1.mono hb, h2, fun x hx => (h3 x hx).mono hb⟩
theorem Ovs.open {w : World} {v : Value} {os : List Ov1} (h : Ovs w v os) : ∃ a cap, v = .slice a os.length cap ∧ os.length ≤ cap ∧ cap ≤ maxLen := by
  obtain ⟨rv, h1, rfl, h3⟩ := h
  have := Sl.open h1; simpa using this
theorem Ovs.at {w wr : World} {n cap : Nat} {a : Option Addr} {os : List Ov1} (hS : Ovs w (.slice a n cap) os) (hb : Below w.heap.size w wr) {k : Nat} (hk : k < n) :
    ∃ b off av o, a = some ⟨b, off, none⟩ ∧ os[k]? = some o ∧ wr.cell? ⟨b, off + k * 6, none⟩ = some av ∧ wr.cell? ⟨b, off + k * 6 + 1, none⟩ = some (.int .i64 o.2.1) ∧
      wr.cell? ⟨b, off + k * 6 + 2, none⟩ = some (.string o.2.2.1) ∧ wr.cell? ⟨b, off + k * 6 + 3, none⟩ = some (.int .i64 o.2.2.2.1) ∧ wr.cell? ⟨b, off + k * 6 + 4, none⟩ = some (.int .i64 o.2.2.2.2.1) ∧
      wr.cell? ⟨b, off + k * 6 + 5, none⟩ = some (.int .i64 o.2.2.2.2.2) ∧ Lits wr av o.1 := by
  obtain ⟨rv, h1, rfl, h3⟩ := hS
  obtain ⟨b, off, ha, hlt, r, hr, hc⟩ := Sl.row h1 hb hk
  simp only [List.getElem?_map, Option.map_eq_some_iff] at hr
  obtain ⟨x, hx, rfl⟩ := hr
  refine ⟨b, off, x.1, x.2, ha, by simp [hx], ?_, ?_, ?_, ?_, ?_, ?_, (h3 x (List.mem_of_getElem? hx)).mono hb⟩
  · simpa [ovC, dimC] using hc 0 (by omega)
  · simpa [ovC, dimC] using hc 1 (by omega)
  · simpa [ovC, dimC] using hc 2 (by omega)
  · simpa [ovC, dimC] using hc 3 (by omega)
  · simpa [ovC, dimC] using hc 4 (by omega)
  · simpa [ovC, dimC] using hc 5 (by omega)

/-- Is s among the strings? -/
def memB (s : ByteArray) (seen : List ByteArray) : Bool := seen.any fun y => decide (y = s)

/-- A set of strings in a map of bools that the call has made. -/
def BMap (w : World) (b n : Nat) (seen : List ByteArray) : Prop :=
  ∃ D : DataW Unit, w.ownsMap Tryz.prog 9 (plainElem Tryz.prog 4) b n D ∧ Maps.IsMap D ∧ ∀ s : ByteArray, D.atKey (.string s.data.toList) (.lit (.bool false)) = .lit (.bool (memB s seen))

theorem BMap.made (w : World) : BMap (w.alloc (.map #[] 0)) w.heap.size 0 [] :=
  ⟨_, World.ownsMap_made w _ _ _, Maps.isMap_empty, fun s => by simp [DataW.atKey, memB]⟩

theorem BMap.mono {w w' : World} {b n : Nat} {seen : List ByteArray} (h : BMap w b n seen) (hb : Below w.heap.size w w') : BMap w' b n seen := by
  obtain ⟨D, h1, h2, h3⟩ := h
  exact ⟨D, h1.kept (row := none) ⟨hb.os, hb.tape, hb.output, hb.size, fun k hk _ => hb.block k hk⟩ (by simp), h2, h3⟩

theorem zero4 (w : World) : (zeroValue 4).run Tryz.prog w = .ok (.bool false) w := by kernel_rfl

theorem plainElem_bool_inv {P : Program} {e : TypeId} (he : P.underlying e = some .bool) {v : Value} {z : DataW Unit × List MemPlace} (h : plainElem P e v = some z) : ∃ a, v = .bool a ∧ z = (.lit (.bool a), []) := by
  unfold plainElem at h
  rw [he] at h
  cases v <;> simp at h
  exact ⟨_, rfl, h.symm⟩

theorem BMap.look {w : World} {b n : Nat} {seen : List ByteArray} (h : BMap w b n seen) {s : ByteArray} (hs : s.size ≤ maxLen) :
    (Instr.lookup 81 (.map (some b)) (.string s) false).run Tryz.prog w = .ok (.bool (memB s seen)) w := by
  obtain ⟨D, h1, h2, h3⟩ := h
  obtain ⟨v, ps, hrun, hv⟩ := h1.lookup (t := 81) (e := 4) (Maps.string_keyed Tryz.underlying9) Tryz.underlying81 (zero4 w) (plainElem_bool Tryz.underlying4 false) (WideMaps.keyOf_string_mk Tryz.underlying9 hs)
  rw [h3 s] at hv
  obtain ⟨x, rfl, hx⟩ := plainElem_bool_inv Tryz.underlying4 hv
  simp at hx
  rw [hrun, hx.1]

theorem wpLookB {ops : Array Oper} {rest : List Oper} {o : Oper} {a : Act} {Q : Exit → Act → World → Prop} {w : World} (hg : o.guard = none) (m x : Operand) (hop : o.op = Op.lookup 81 m x false) (b n : Nat) (seen : List ByteArray) (s : ByteArray)
    (hm : a.eval m = .map (some b)) (hx : a.eval x = .string s) (h : BMap w b n seen) (hs : s.size ≤ maxLen) (t : Bool) (ht : memB s seen = t) (hK : wpList Tryz.prog ops Q rest (a.put o.dst (.bool t)) w) : wpList Tryz.prog ops Q (o :: rest) a w := by
  refine wpList_plain hg fun K' hK' => ?_
  unfold Oper.wp
  simp [execOp, hop, hm, hx, h.look hs, Result.andThen]
  exact hK' _ _ (ht ▸ hK)

theorem wpPutB {ops : Array Oper} {rest : List Oper} {o : Oper} {a : Act} {Q : Exit → Act → World → Prop} {w : World} (hg : o.guard = none) (m x v : Operand) (hop : o.op = Op.mapUpdate 81 m x v) (b n : Nat) (seen : List ByteArray) (s : ByteArray)
    (hm : a.eval m = .map (some b)) (hx : a.eval x = .string s) (hv : a.eval v = .bool true) (h : BMap w b n seen) (hn : n < maxLen) (hs : s.size ≤ maxLen)
    (hK : ∀ w', BMap w' b (n + 1) (s :: seen) → w.grownBy w' (some b) → wpList Tryz.prog ops Q rest (a.put o.dst undef) w') : wpList Tryz.prog ops Q (o :: rest) a w := by
  obtain ⟨D, h1, h2, h3⟩ := h
  refine wpList_mapUpdate_own w hg m x v 81 hop 9 4 (Maps.string_keyed Tryz.underlying9) Tryz.underlying81 _ b n D hm h1 hn (.string s) (.bool true) _ hx hv (WideMaps.keyOf_string_mk Tryz.underlying9 hs) (.lit (.bool true)) [] (plainElem_bool Tryz.underlying4 true) ?_
  intro w' r1 r2
  refine hK w' ⟨_, r1, h2.put _ _, fun s' => ?_⟩ r2
  by_cases e : s' = s
  · subst e
    rw [Maps.atKey_put_same h2 (by simp [WideAt.IsKeyLit])]
    simp [memB]
  · have hne : (Lit.string s'.data.toList) ≠ Lit.string s.data.toList := by
      intro h
      apply e
      injection h with h
      cases s with | mk x => cases s' with | mk y => simpa using congrArg List.toArray h
    rw [Maps.atKey_put_other hne, h3 s']
    simp [memB, show ¬ s = s' from fun h => e h.symm]

theorem Rules.atO {w wr : World} {n cap : Nat} {a : Option Addr} {rs : List Rule1} (hS : Rules w (.slice a n cap) rs) (hb : Below w.heap.size w wr) {k : Nat} (hk : k < n) :
    ∃ b off av r, a = some ⟨b, off, none⟩ ∧ rs[k]? = some r ∧ wr.cell? ⟨b, off + k * 2, none⟩ = some (.string r.1) ∧ wr.cell? ⟨b, off + k * 2 + 1, none⟩ = some av ∧ Lits w av r.2 := by
  obtain ⟨rv, h1, h2, h3⟩ := hS
  obtain ⟨b, off, x, ha, hx, h0, h1'⟩ := Sl.at2 h1 hb hk
  have hkr : k < rs.length := by have := lt_of_get hx; omega
  obtain ⟨hn, hl⟩ := h3 k x rs[k] hx (by simp [hkr])
  exact ⟨b, off, x.2, rs[k], ha, by simp [hkr], by rw [h0, hn], h1', hl⟩

theorem BMap.lt {w : World} {b n : Nat} {seen : List ByteArray} (h : BMap w b n seen) : b < w.heap.size := by
  obtain ⟨D, h1, _⟩ := h
  exact h1.lt

theorem grown_cell {w w' : World} {b : Nat} (hg : w.grownBy w' (some b)) {p : Addr} {v : Value} (h : w.cell? p = some v) (hne : p.block ≠ b) : w'.cell? p = some v :=
  hg.cell h (by simpa using hne)

/-- What a family must be for Check to find nothing. -/
structure FamOk (opts : List ByteArray) (rs : List Rule1) (gs : List Guard1) (os : List Ov1) (insts : Nat) (ds : List Dim1) : Prop where
  opts12 : opts.length ≤ 12
  optName : ∀ o ∈ opts, nameOk o
  optUp : ∀ (i : Nat) (a b : ByteArray), opts[i]? = some a → opts[i + 1]? = some b → (Op.bytesLess b.toList a.toList || b.toList == a.toList) = false
  rs48 : rs.length ≤ 48
  rsName : ∀ r ∈ rs, nameOk r.1
  rsUniq : ∀ (i j : Nat) (a b : Rule1), i < j → rs[i]? = some a → rs[j]? = some b → a.1 ≠ b.1
  rsLit : ∀ r ∈ rs, litErr opts.length r.2 = 0 ∧ r.2.length < 1000
  gs48 : gs.length ≤ 48
  gsInst : ∀ g ∈ gs, 0 ≤ g.1 ∧ g.1 < insts
  gsLit : ∀ g ∈ gs, litErr opts.length g.2 = 0 ∧ g.2.length < 1000
  os48 : os.length ≤ 48
  osLit : ∀ o ∈ os, litErr opts.length o.1 = 0 ∧ o.1.length < 1000
  osDim : ∀ o ∈ os, ∃ k d, o.2.1 = ((k : Nat) : Int) ∧ ds[k]? = some d ∧ d.1 = o.2.2.1

theorem seen_no {rs : List Rule1} (h : ∀ (i j : Nat) (a b : Rule1), i < j → rs[i]? = some a → rs[j]? = some b → a.1 ≠ b.1) {k : Nat} {r : Rule1} (hk : rs[k]? = some r) : memB r.1 ((rs.take k).map (·.1)).reverse = false := by
  unfold memB
  rw [List.any_eq_false]
  intro y hy
  simp only [List.mem_reverse, List.mem_map] at hy
  obtain ⟨x, hx, rfl⟩ := hy
  obtain ⟨i, hi, rfl⟩ := List.getElem_of_mem hx
  simp only [List.length_take] at hi
  have := h i k _ r (by omega) (by rw [List.getElem?_eq_getElem (by omega)]) hk
  simpa using this

theorem seen_next {rs : List Rule1} {k : Nat} {r : Rule1} (hk : rs[k]? = some r) : r.1 :: ((rs.take k).map (·.1)).reverse = ((rs.take (k + 1)).map (·.1)).reverse := by
  rw [List.take_add_one, hk]; simp

/-- A family in memory: ten cells; what of them reads as what. -/
structure Fam (w : World) (q1 q2 q3 q4 q5 q6 q7 q8 q9 q10 : Value) (opts : List ByteArray) (rs : List Rule1) (gs : List Guard1) (os : List Ov1) (mI : Nat) (ds : List Dim1) : Prop where
  insts : ∃ ai ci, q3 = .slice ai mI ci
  dims : Dims w q4 ds
  opt : Strs w q7 opts
  rul : Rules w q8 rs
  grd : Gds w q9 gs
  ovr : Ovs w q10 os
  ok : FamOk opts rs gs os mI ds

theorem Fam.mono {w w' : World} {q1 q2 q3 q4 q5 q6 q7 q8 q9 q10 : Value} {opts : List ByteArray} {rs : List Rule1} {gs : List Guard1} {os : List Ov1} {mI : Nat} {ds : List Dim1} (h : Fam w q1 q2 q3 q4 q5 q6 q7 q8 q9 q10 opts rs gs os mI ds) (hb : Below w.heap.size w w') : Fam w' q1 q2 q3 q4 q5 q6 q7 q8 q9 q10 opts rs gs os mI ds :=
  ⟨h.insts, h.dims.mono hb, h.opt.mono hb, h.rul.mono hb, h.grd.mono hb, h.ovr.mono hb, h.ok⟩

end Go.Proofs.YtknpbcdmemlicaaGreatDoor
