/-
  Parts of the proof: Gen, Tk.
-/
import Derived.Test.YtlcmhbkmpkcajaaGreatDoorRows
import Derived.WalkSpells
import Derived.WalkLawsBesides
import Derived.BigQuiet
import Derived.Deep.QuietTactic
import Derived.Lib.Hide
import Derived.Shelf.Abstract
import Derived.StillTail
import Derived.Deep.RegionHeld3
import Derived.Deep.RegionLaw
import Derived.Deep.AppendLies
import Derived.Deep.RegionHeld
import Derived.Deep.CutBlock
import Derived.Deep.DeepCutAuto
import Derived.Test.YtlcmhbkmpkcajaaGreatDoorN00
namespace Go.Proofs.YtlcmhbkmpkcajaaGreatDoor
open Go.RowKit
def Ret (v : Value) (w : World) (e : Ending) (w' : World) : Prop := e = .returned v ∧ Below w.heap.size w w'
theorem Ret.mk {v : Value} {w w' : World} (h : Below w.heap.size w w') : Ret v w (.returned v) w' := ⟨rfl, h⟩
def Sl (w : World) (sz : Nat) (v : Value) (rows : List (List Value)) : Prop :=
  ∃ a cap, v = .slice a rows.length cap ∧ rows.length ≤ cap ∧ cap ≤ maxLen ∧
    (cap = 0 ∨ ∃ b off, a = some ⟨b, off, none⟩ ∧ b < w.heap.size ∧
      ∀ i j, i < rows.length → j < sz → w.cell? ⟨b, off + i * sz + j, none⟩ = some ((rows.getD i []).getD j undef))
theorem Sl.mono {w w' : World} {sz : Nat} {v : Value} {rows : List (List Value)} (h : Sl w sz v rows) (hb : Below w.heap.size w w') : Sl w' sz v rows := by
  obtain ⟨a, cap, hv, hc, hm, h⟩ := h
  refine ⟨a, cap, hv, hc, hm, ?_⟩
  rcases h with h | ⟨b, off, ha, hlt, hcell⟩
  · exact .inl h
  · refine .inr ⟨b, off, ha, Nat.lt_of_lt_of_le hlt hb.size, fun i j hi hj => ?_⟩
    rw [hb.cell (p := ⟨b, _, none⟩) hlt]
    exact hcell i j hi hj
theorem Sl.nil (w : World) (sz : Nat) : Sl w sz (.slice none 0 0) [] := ⟨none, 0, rfl, Nat.le_refl _, Nat.zero_le _, .inl rfl⟩
theorem Sl.row {w wr : World} {sz n cap : Nat} {a : Option Addr} {rows : List (List Value)} (h : Sl w sz (.slice a n cap) rows) (hb : Below w.heap.size w wr) {k : Nat} (hk : k < n) :
    ∃ b off, a = some ⟨b, off, none⟩ ∧ b < w.heap.size ∧ ∃ r, rows[k]? = some r ∧ ∀ j, j < sz → wr.cell? ⟨b, off + k * sz + j, none⟩ = some (r.getD j undef) := by
  obtain ⟨a', cap', hv, hc, hm, h⟩ := h
  cases hv
  rcases h with h0 | ⟨b, off, ha, hlt, hcell⟩
  · omega
  · refine ⟨b, off, ha, hlt, rows[k], by simp [hk], fun j hj => ?_⟩
    rw [hb.cell (p := ⟨b, _, none⟩) hlt]
    have := hcell k j hk hj
    simpa [hk] using this
theorem Sl.open {w : World} {sz : Nat} {v : Value} {rows : List (List Value)} (h : Sl w sz v rows) : ∃ a cap, v = .slice a rows.length cap ∧ rows.length ≤ cap ∧ cap ≤ maxLen := by
  obtain ⟨a, cap, hv, hc, hm, _⟩ := h
  exact ⟨a, cap, hv, hc, hm⟩
def c1 (x : Value) : List Value := [x]
def c2 (x : Value × Value) : List Value := [x.1, x.2]
theorem Sl.at1 {w wr : World} {n cap : Nat} {a : Option Addr} {xs : List Value} (hS : Sl w 1 (.slice a n cap) (xs.map c1)) (hb : Below w.heap.size w wr) {k : Nat} (hk : k < n) :
    ∃ b off x, a = some ⟨b, off, none⟩ ∧ xs[k]? = some x ∧ wr.cell? ⟨b, off + k, none⟩ = some x := by
  obtain ⟨b, off, ha, hlt, r, hr, hc⟩ := hS.row hb hk
  simp only [List.getElem?_map, Option.map_eq_some_iff] at hr
  obtain ⟨l, hl, rfl⟩ := hr
  exact ⟨b, off, l, ha, hl, by simpa [c1] using hc 0 (by omega)⟩
theorem _root_.Go.RowKit.Below.dn {B : Nat} {a w : World} (h : Below B a w) (n : Nat) : Below B a (w.drewN n) := ⟨h.os, h.tape, h.output, h.size, h.block⟩
theorem _root_.Go.RowKit.Below.via {B : Nat} {a b c : World} (h : Below B a b) (k : Below b.heap.size b c) (hB : B ≤ b.heap.size) : Below B a c := h.trans (k.mono hB)
theorem ret_bool {a b : Bool} (h : a = b) : Ending.returned (.bool a) = .returned (.bool b) := by rw [h]
theorem ret_int {k : IntKind} {a b : Int} (h : a = b) : Ending.returned (.int k a) = .returned (.int k b) := by rw [h]
theorem bytes_inj {x y : ByteArray} (h : x.toList = y.toList) : x = y := by
  rw [ByteArray.toList_eq, ByteArray.toList_eq] at h
  cases x with | mk x => cases y with | mk y => simpa using congrArg List.toArray h
theorem Sl.own1 {w : World} {base n : Nat} {e : TypeId} {v : Value} {xs : List Value} (h : w.ownsRow base e 1 v n xs) : Sl w 1 v (xs.map c1) := by
  have hn : xs.length = n := by have := h.1; omega
  rcases h.2 with ⟨rfl, h0⟩ | ⟨g, cap, cur, rfl, hb, hg, hnc, hcm, hcs, htk⟩
  · have : xs = [] := List.length_eq_zero_iff.1 (by omega)
    subst this
    exact Sl.nil _ _
  · refine ⟨_, cap, by simp [hn], by simp; omega, hcm, .inr ⟨g, 0, rfl, (Array.getElem?_eq_some_iff.1 hg).1, fun i j hi hj => ?_⟩⟩
    obtain rfl : j = 0 := by omega
    simp only [List.length_map] at hi
    have hc := h.cells (g := g) (by simp [Value.ownBlock]) i xs[i] (by simp [hi])
    have ha : (⟨g, 0, none⟩ : Addr).add i = ⟨g, i, none⟩ := by unfold Addr.add; split <;> simp_all
    rw [ha] at hc
    simpa [c1, hi] using hc
theorem below_app {B : Nat} {w wr w1 : World} {e : TypeId} {sz n : Nat} {v : Value} {xs : List Value} {o : Obj} (hb : Below B w wr) (hown : wr.ownsRow B e sz v n xs) (hg : (wr.alloc o).grownBy w1 v.ownBlock) (hB : B ≤ wr.heap.size) : Below B w w1 :=
  (hb.alloc hB o).grown hg (by simp; omega) (fun k hk => (hown.lt k hk).1)
structure ElemTy (t e size bytes : Nat) : Prop where
  und : Tryz.prog.underlying t = some (.slice e)
  info : (Tryz.prog.info? e).map (fun i => (i.zero.map fun z => z.cells.size, i.size, i.bytes)) = some (some size, size, bytes)
theorem wpApp {t e size bytes : Nat} (E : ElemTy t e size bytes) (hsz : 0 < size) {ops : Array Oper} {rest : List Oper} {o : Oper} {a : Act} {Q : Exit → Act → World → Prop} {wr : World} (news : List Value) {T : TypeId}
    (hgd : o.guard = none) (s x : Operand) (ho : o.op = .call { callee := .builtin .append, args := #[s, x], argTypes := #[t, t] }) (B n : Nat) (v : Value) (xs : List Value)
    (hs : a.eval s = v) (hx : a.eval x = .slice (some ⟨wr.heap.size, 0, none⟩) 1 1) (hown : wr.ownsRow B e size v n xs) (hl : news.length = size) (h1 : ∀ u ∈ news, u.oneCell' = true) (hn : n < 1000000) (hb : bytes ≤ 1000) (hB : B ≤ wr.heap.size)
    (h : ∀ v' w', w'.ownsRow B e size v' (n + 1) (xs ++ news) → (wr.alloc (.cells news.toArray T)).grownBy w' v.ownBlock → wpList Tryz.prog ops Q rest (a.put o.dst v') w') :
    wpList Tryz.prog ops Q (o :: rest) a (wr.alloc (.cells news.toArray T)) := by
  have hi := E.info
  simp only [Option.map_eq_some_iff, Prod.mk.injEq] at hi
  obtain ⟨i, hi, ⟨z, hz, hzs⟩, hsize, hby⟩ := hi
  have hcells : ∀ j u, news[j]? = some u → (wr.alloc (.cells news.toArray T)).cell? ((⟨wr.heap.size, 0, none⟩ : Addr).add j) = some u := by
    intro j u hu
    have ha : (⟨wr.heap.size, 0, none⟩ : Addr).add j = ⟨wr.heap.size, j, none⟩ := by unfold Addr.add; split <;> simp_all
    rw [ha]
    simpa using hu
  have hbb : (n + 1) * bytes ≤ 140737488355328 := Nat.le_trans (Nat.mul_le_mul (show n + 1 ≤ 1000000 by omega) hb) (by decide)
  exact wpList_append_own _ hgd s x t ho B e i z size bytes E.und hi hz hsize hby hzs hsz v n xs hs (hown.alloc _) ⟨wr.heap.size, 0, none⟩ 1 1 news hx (by omega) hcells h1 (by unfold maxLen; omega) hbb (by simp; omega) (fun v' w' a1 a2 _ => h v' w' a1 a2)
theorem one1 (x : Value) (h : x.oneCell' = true) : ∀ u ∈ [x], u.oneCell' = true := by simpa using h
def Strs (w : World) (v : Value) (ss : List ByteArray) : Prop := Sl w 1 v ((ss.map Value.string).map c1)
theorem Strs.mono {w w' : World} {v : Value} {ss : List ByteArray} (h : Strs w v ss) (hb : Below w.heap.size w w') : Strs w' v ss := Sl.mono h hb
theorem Strs.open {w : World} {v : Value} {ss : List ByteArray} (h : Strs w v ss) : ∃ a cap, v = .slice a ss.length cap ∧ ss.length ≤ cap ∧ cap ≤ maxLen := by
  have := Sl.open h; simpa using this
theorem Strs.at {w wr : World} {n cap : Nat} {a : Option Addr} {ss : List ByteArray} (hS : Strs w (.slice a n cap) ss) (hb : Below w.heap.size w wr) {k : Nat} (hk : k < n) :
    ∃ b off s, a = some ⟨b, off, none⟩ ∧ ss[k]? = some s ∧ wr.cell? ⟨b, off + k, none⟩ = some (.string s) := by
  obtain ⟨b, off, x, ha, hx, h0⟩ := Sl.at1 hS hb hk
  simp only [List.getElem?_map, Option.map_eq_some_iff] at hx
  obtain ⟨s, hs, rfl⟩ := hx
  exact ⟨b, off, s, ha, hs, h0⟩
def RetP (Post : Value → World → Prop) (w : World) (e : Ending) (w' : World) : Prop := ∃ v, e = .returned v ∧ Post v w' ∧ Below w.heap.size w w'
theorem own_below {w w' : World} {B e sz n : Nat} {v : Value} {xs : List Value} (h : w.ownsRow B e sz v n xs) (hb : Below w.heap.size w w') : w'.ownsRow B e sz v n xs := by
  refine ⟨h.1, ?_⟩
  rcases h.2 with hn | ⟨g, cap, cur, rfl, hb', hgg, rest⟩
  · exact .inl hn
  · exact .inr ⟨g, cap, cur, rfl, hb', by rw [hb.block g (Array.getElem?_eq_some_iff.1 hgg).1]; exact hgg, rest⟩
theorem below1 (w : World) (o : Obj) : Below w.heap.size w (w.alloc o) := (Below.refl _ _).alloc (Nat.le_refl _) _
theorem below2 (w : World) (o o' : Obj) : Below w.heap.size w ((w.alloc o).alloc o') := (below1 w o).alloc (by simp) _
theorem below3 (w : World) (o o' o'' : Obj) : Below w.heap.size w (((w.alloc o).alloc o').alloc o'') := (below2 w o o').alloc (by simp; omega) _
structure Mid (A S : Nat) (w w' : World) : Prop where
  os : w'.os = w.os
  tape : w'.tape = w.tape
  output : w'.output = w.output
  size : w.heap.size ≤ w'.heap.size
  block : ∀ k, k < w.heap.size → (k < A ∨ S ≤ k) → w'.heap[k]? = w.heap[k]?
theorem Mid.refl (A S : Nat) (w : World) : Mid A S w w := ⟨rfl, rfl, rfl, Nat.le_refl _, fun _ _ _ => rfl⟩
theorem Mid.trans {A S : Nat} {a b c : World} (h : Mid A S a b) (k : Mid A S b c) : Mid A S a c :=
  ⟨k.os.trans h.os, k.tape.trans h.tape, k.output.trans h.output, Nat.le_trans h.size k.size, fun i hi ho => (k.block i (Nat.lt_of_lt_of_le hi h.size) ho).trans (h.block i hi ho)⟩
theorem Mid.below {A S : Nat} {v w w' : World} (h : Below A v w) (k : Mid A S w w') (hA : A ≤ w.heap.size) : Below A v w' :=
  h.trans ⟨k.os, k.tape, k.output, k.size, fun i hi => k.block i (by omega) (.inl hi)⟩
theorem Mid.setCell {A S : Nat} {w w' : World} (h : Mid A S w w') {p : Addr} (h1 : A ≤ p.block) (h2 : p.block < S) (u : Value) : Mid A S w (w'.setCell p u) :=
  h.trans ⟨rfl, rfl, rfl, by simp [World.setCell], fun k _ ho => Below.heap_setCell _ _ _ _ (by omega)⟩
theorem Sl.set {w : World} {sz : Nat} {v : Value} {rows : List (List Value)} (h : Sl w sz v rows) {p : Addr} (hp : ∀ k, v.ownBlock = some k → k ≠ p.block) (u : Value) : Sl (w.setCell p u) sz v rows := by
  obtain ⟨a, cap, rfl, hc, hm, h⟩ := h
  refine ⟨a, cap, rfl, hc, hm, ?_⟩
  rcases h with h | ⟨b, off, rfl, hlt, hcell⟩
  · exact .inl h
  · have hne : b ≠ p.block := hp b rfl
    refine .inr ⟨b, off, rfl, by simpa [World.setCell] using hlt, fun i j hi hj => ?_⟩
    rw [World.cell?_of_block (w := w) (a := ⟨b, _, none⟩) (Below.heap_setCell w p u b hne)]
    exact hcell i j hi hj
theorem take_succ_all {α : Type} {P : α → Prop} {xs : List α} {k : Nat} {x : α} (h : ∀ y ∈ xs.take k, P y) (hk : xs[k]? = some x) (hx : P x) : ∀ y ∈ xs.take (k + 1), P y := by
  intro y hy
  rw [List.take_add_one, hk] at hy
  simp at hy
  rcases hy with hy | rfl
  · exact h y hy
  · exact hx
theorem take_all {α : Type} {P : α → Prop} {xs : List α} {n : Nat} (h : ∀ y ∈ xs.take n, P y) (hn : xs.length ≤ n) : ∀ y ∈ xs, P y := by
  rwa [List.take_of_length_le hn] at h
theorem lt_of_get {α : Type} {l : List α} {k : Nat} {x : α} (h : l[k]? = some x) : k < l.length := by
  rcases Nat.lt_or_ge k l.length with h' | h'
  · exact h'
  · simp [List.getElem?_eq_none h'] at h
structure Eqb (B F : Nat) (w w' : World) : Prop where
  size : B ≤ w'.heap.size
  block : ∀ k, k < B → k ≠ F → w'.heap[k]? = w.heap[k]?
theorem Eqb.refl {w : World} (F : Nat) : Eqb w.heap.size F w w := ⟨Nat.le_refl _, fun _ _ _ => rfl⟩
theorem Eqb.set {B F : Nat} {w w1 : World} (h : Eqb B F w w1) (i : Nat) (v : Value) : Eqb B F w (w1.setCell ⟨F, i, none⟩ v) :=
  ⟨by have := h.size; simpa [World.setCell] using this, fun k hk hF => (heap_setCell_other w1 ⟨F, i, none⟩ k v hF).trans (h.block k hk hF)⟩
theorem own_eqb {B F : Nat} {w w' : World} {M e sz n : Nat} {v : Value} {xs : List Value} (h : w.ownsRow M e sz v n xs) (he : Eqb B F w w') (hv : ∀ b, v.ownBlock = some b → b < B ∧ b ≠ F) : w'.ownsRow M e sz v n xs := by
  refine ⟨h.1, ?_⟩
  rcases h.2 with hn | ⟨g, cap, cur, rfl, hb', hgg, rest⟩
  · exact .inl hn
  · have hb := hv g rfl
    exact .inr ⟨g, cap, cur, rfl, hb', by rw [he.block g hb.1 hb.2]; exact hgg, rest⟩
theorem Sl.eqb {B F : Nat} {w w' : World} {sz : Nat} {v : Value} {rows : List (List Value)} (h : Sl w sz v rows) (he : Eqb B F w w') (hv : ∀ b, v.ownBlock = some b → b < B ∧ b ≠ F) : Sl w' sz v rows := by
  obtain ⟨a, cap, rfl, hc, hm, h⟩ := h
  refine ⟨a, cap, rfl, hc, hm, ?_⟩
  rcases h with h | ⟨b, off, rfl, hlt, hcell⟩
  · exact .inl h
  · have hb := hv b rfl
    refine .inr ⟨b, off, rfl, Nat.lt_of_lt_of_le hb.1 he.size, fun i j hi hj => ?_⟩
    rw [World.cell?_of_block (w := w) (a := ⟨b, _, none⟩) (he.block b hb.1 hb.2)]
    exact hcell i j hi hj
theorem own_base {w : World} {B B' e sz n : Nat} {v : Value} {xs : List Value} (h : w.ownsRow B e sz v n xs) (hB : B' ≤ B) : w.ownsRow B' e sz v n xs := by
  refine ⟨h.1, ?_⟩
  rcases h.2 with hn | ⟨g, cap, cur, hv, hg, rest⟩
  · exact .inl hn
  · exact .inr ⟨g, cap, cur, hv, Nat.le_trans hB hg, rest⟩
theorem flat_get {sz : Nat} {rows : List (List Value)} (hl : ∀ r ∈ rows, r.length = sz) : ∀ {i j : Nat}, i < rows.length → j < sz → rows.flatten[i * sz + j]? = some ((rows.getD i []).getD j undef) := by
  induction rows with
  | nil => intro i j hi; simp at hi
  | cons r rs ih =>
    intro i j hi hj
    have hr : r.length = sz := hl r (by simp)
    cases i with
    | zero => simp [List.getElem?_append_left (by omega : j < r.length), hr, hj]
    | succ i =>
      have := ih (fun r hr => hl r (by simp [hr])) (i := i) (j := j) (by simpa using hi) hj
      rw [List.flatten_cons, List.getElem?_append_right (by rw [hr, Nat.succ_mul]; omega), hr, show (i + 1) * sz + j - sz = i * sz + j by rw [Nat.succ_mul]; omega, this]
      simp
theorem flat_len {sz : Nat} {rows : List (List Value)} (hl : ∀ r ∈ rows, r.length = sz) : rows.flatten.length = rows.length * sz := by
  induction rows with
  | nil => simp
  | cons r rs ih =>
    have hr : r.length = sz := hl r (by simp)
    rw [List.flatten_cons, List.length_append, hr, ih (fun r hr => hl r (by simp [hr])), List.length_cons, Nat.succ_mul]; omega
theorem Sl.own {w : World} {base n sz : Nat} {e : TypeId} {v : Value} {rows : List (List Value)} (h : w.ownsRow base e sz v n rows.flatten) (hl : ∀ r ∈ rows, r.length = sz) (hsz : 0 < sz) : Sl w sz v rows := by
  have hn : rows.length = n := by
    have h1 := h.1
    rw [flat_len hl] at h1
    exact Nat.eq_of_mul_eq_mul_right hsz h1
  rcases h.2 with ⟨rfl, h0⟩ | ⟨g, cap, cur, rfl, hb, hg, hnc, hcm, hcs, htk⟩
  · have : rows = [] := List.length_eq_zero_iff.1 (by omega)
    subst this
    exact Sl.nil _ _
  · refine ⟨_, cap, by simp [hn], by omega, hcm, .inr ⟨g, 0, rfl, (Array.getElem?_eq_some_iff.1 hg).1, fun i j hi hj => ?_⟩⟩
    have hc := h.cells (g := g) (by simp [Value.ownBlock]) _ _ (flat_get hl hi hj)
    rw [show (⟨g, 0, none⟩ : Addr).add (i * sz + j) = ⟨g, i * sz + j, none⟩ by unfold Addr.add; split <;> simp_all] at hc
    rw [Nat.zero_add]; exact hc
theorem Sl.flat {w : World} {sz n cap b off : Nat} {rows : List (List Value)} (h : Sl w sz (.slice (some ⟨b, off, none⟩) n cap) rows) (hl : ∀ r ∈ rows, r.length = sz) (hsz : 0 < sz) :
    ∀ j u, rows.flatten[j]? = some u → w.cell? ((⟨b, off, none⟩ : Addr).add j) = some u := by
  intro j u hu
  obtain ⟨a, c, hv, hc, hm, h⟩ := h
  cases hv
  rcases h with h | ⟨b', off', h, hlt, hcell⟩
  · have : rows = [] := List.length_eq_zero_iff.1 (by omega)
    subst this
    simp at hu
  · cases h
    have hj : j < rows.length * sz := by
      have := (List.getElem?_eq_some_iff.1 hu).1
      rwa [flat_len hl] at this
    have h1 : j / sz < rows.length := Nat.div_lt_of_lt_mul (by rwa [Nat.mul_comm])
    have h2 : j % sz < sz := Nat.mod_lt _ hsz
    have h3 : j / sz * sz + j % sz = j := Nat.div_add_mod' j sz
    have hf := flat_get hl h1 h2
    rw [h3, hu] at hf
    have := hcell _ _ h1 h2
    rw [Nat.add_assoc, h3, ← Option.some_inj.1 hf] at this
    rw [show (⟨b, off, none⟩ : Addr).add j = ⟨b, off + j, none⟩ by unfold Addr.add; split <;> simp_all]
    exact this
theorem cell_far {w : World} {a p : Addr} {v u : Value} (h : w.cell? a = some v) (hne : p.block ≠ a.block) : (w.setCell p u).cell? a = some v := (World.cell?_setCell_far w p a u hne).trans h
theorem stepApp {t e size bytes : Nat} (E : ElemTy t e size bytes) (hsz : 0 < size) {ops : Array Oper} {o : Oper} {a : Act} {K : Act → World → Prop} {Q : Exit → Act → World → Prop} {E' : Prop} {W : World} (news : List Value) {T : TypeId}
    (hgd : o.guard = none) (s x : Operand) (ho : o.op = .call { callee := .builtin .append, args := #[s, x], argTypes := #[t, t] }) (B n : Nat) (v : Value) (xs : List Value) (g : Nat)
    (hs : a.eval s = v) (hx : a.eval x = .slice (some ⟨g, 0, none⟩) 1 1) (hown : W.ownsRow B e size v n xs) (hblk : W.heap[g]? = some (.cells news.toArray T (0, 0))) (hl : news.length = size) (h1 : ∀ u ∈ news, u.oneCell' = true) (hn : n < 1000000) (hb : bytes ≤ 1000) (hB : B ≤ W.heap.size)
    (h : ∀ g cap w', w'.ownsRow B e size (.slice (some ⟨g, 0, none⟩) (n + 1) cap) (n + 1) (xs ++ news) → W.grownBy w' v.ownBlock → (v.ownBlock = some g ∨ g = W.heap.size) → g < w'.heap.size → K (a.put o.dst (.slice (some ⟨g, 0, none⟩) (n + 1) cap)) w') :
    if Region.wanted o (yielded ops a.tmps) = true then Oper.wp Tryz.prog o a W K Q else E' := by
  have hi := E.info
  simp only [Option.map_eq_some_iff, Prod.mk.injEq] at hi
  obtain ⟨i, hi, ⟨z, hz, hzs⟩, hsize, hby⟩ := hi
  have hbb : (n + 1) * bytes ≤ 140737488355328 := Nat.le_trans (Nat.mul_le_mul (show n + 1 ≤ 1000000 by omega) hb) (by decide)
  exact step_append_lies W hgd s x t ho B e i z size bytes E.und hi hz hsize hby hzs hsz v n xs hs hown ⟨g, 0, none⟩ 1 1 news hx (by omega) (World.news_of_block (cs := news.toArray) (t := T) (fr := (0, 0)) (by simpa using hblk)) h1 (by omega) (by unfold maxLen; omega) hbb hB W.heap.size rfl h
theorem undrew {B : Nat} {w wb : World} (h : Below B w.drew wb) : Below B w wb := ⟨h.os, h.tape, h.output, h.size, h.block⟩
def Blk (w : World) (b : Nat) (cs : Array Value) (T : TypeId) : Prop := w.heap[b]? = some (.cells cs T (0, 0))
theorem Blk.below {w w' : World} {b : Nat} {cs : Array Value} {T : TypeId} (h : Blk w b cs T) (hb : Below w.heap.size w w') : Blk w' b cs T := by
  unfold Blk at *; rw [hb.block b (lt_of_block h)]; exact h
theorem Blk.new (w : World) (cs : Array Value) (T : TypeId) : Blk (w.alloc (.cells cs T)) w.heap.size cs T := heap_alloc_new w _
theorem Blk.old {w : World} {b : Nat} {cs : Array Value} {T : TypeId} (h : Blk w b cs T) (o : Obj) : Blk (w.alloc o) b cs T := h.below (below1 _ _)
theorem Blk.cell {w : World} {b : Nat} {cs : Array Value} {T : TypeId} (h : Blk w b cs T) (i : Nat) : w.cell? ⟨b, i, none⟩ = cs[i]? := by
  unfold Blk at h; simp [World.cell?, h]
theorem Blk.free {w : World} {b : Nat} {cs : Array Value} {T : TypeId} (h : Blk w b cs T) (i : Nat) : w.frozen? ⟨b, i, none⟩ = false := frozen_of_row w b i _ T h
theorem Blk.set {w : World} {b : Nat} {cs : Array Value} {T : TypeId} (h : Blk w b cs T) (i : Nat) (v : Value) : Blk (w.setCell ⟨b, i, none⟩ v) b (cs.setIfInBounds i v) T := heap_setCell_same w b i cs T v h
theorem Blk.other {w : World} {b : Nat} {cs : Array Value} {T : TypeId} (h : Blk w b cs T) {p : Addr} (hp : b ≠ p.block) (u : Value) : Blk (w.setCell p u) b cs T := by
  unfold Blk at *; rw [Below.heap_setCell _ _ _ _ hp]; exact h
theorem Blk.lt {w : World} {b : Nat} {cs : Array Value} {T : TypeId} (h : Blk w b cs T) : b < w.heap.size := lt_of_block h
theorem wpAppL {t e size bytes : Nat} (E : ElemTy t e size bytes) (hsz : 0 < size) {ops : Array Oper} {rest : List Oper} {o : Oper} {a : Act} {Q : Exit → Act → World → Prop} {W : World} (news : List Value) {T : TypeId}
    (hgd : o.guard = none) (s x : Operand) (ho : o.op = .call { callee := .builtin .append, args := #[s, x], argTypes := #[t, t] }) (B n : Nat) (v : Value) (xs : List Value) (g : Nat)
    (hs : a.eval s = v) (hx : a.eval x = .slice (some ⟨g, 0, none⟩) 1 1) (hown : W.ownsRow B e size v n xs) (hblk : W.heap[g]? = some (.cells news.toArray T (0, 0))) (hl : news.length = size) (h1 : ∀ u ∈ news, u.oneCell' = true) (hn : n < 1000000) (hb : bytes ≤ 1000) (hB : B ≤ W.heap.size)
    (h : ∀ g cap w', w'.ownsRow B e size (.slice (some ⟨g, 0, none⟩) (n + 1) cap) (n + 1) (xs ++ news) → W.grownBy w' v.ownBlock → (v.ownBlock = some g ∨ g = W.heap.size) → g < w'.heap.size → wpList Tryz.prog ops Q rest (a.put o.dst (.slice (some ⟨g, 0, none⟩) (n + 1) cap)) w') :
    wpList Tryz.prog ops Q (o :: rest) a W := by
  have hi := E.info
  simp only [Option.map_eq_some_iff, Prod.mk.injEq] at hi
  obtain ⟨i, hi, ⟨z, hz, hzs⟩, hsize, hby⟩ := hi
  have hbb : (n + 1) * bytes ≤ 140737488355328 := Nat.le_trans (Nat.mul_le_mul (show n + 1 ≤ 1000000 by omega) hb) (by decide)
  exact wpList_append_lies W hgd s x t ho B e i z size bytes E.und hi hz hsize hby hzs hsz v n xs hs hown ⟨g, 0, none⟩ 1 1 news hx (by omega) (World.news_of_block (cs := news.toArray) (t := T) (fr := (0, 0)) (by simpa using hblk)) h1 (by omega) (by unfold maxLen; omega) hbb hB W.heap.size rfl h
theorem own_setCell {w : World} {M e sz n g cap : Nat} {xs : List Value} (h : w.ownsRow M e sz (.slice (some ⟨g, 0, none⟩) n cap) n xs) {i : Nat} (_ : i < n * sz) (v : Value) :
    (w.setCell ⟨g, i, none⟩ v).ownsRow M e sz (.slice (some ⟨g, 0, none⟩) n cap) n (xs.set i v) := by
  refine ⟨by rw [List.length_set]; exact h.1, .inr ?_⟩
  rcases h.2 with ⟨hv, _⟩ | ⟨g', cap', cur, hv, h1, h2, h3, h4, h5, h6⟩
  · cases hv
  · cases hv
    refine ⟨g, cap, cur.setIfInBounds i v, rfl, h1, heap_setCell_same w g i cur e v h2, h3, h4, by simpa using h5, ?_⟩
    rw [← h6, Array.toList_setIfInBounds, List.take_set]
theorem own_open {w : World} {B e sz n : Nat} {v : Value} {xs : List Value} (h : w.ownsRow B e sz v n xs) : ∃ a cap, v = .slice a n cap ∧ n ≤ cap ∧ cap ≤ maxLen := by
  rcases h.2 with ⟨rfl, h0⟩ | ⟨g, cap, cur, rfl, hb, hg, hnc, hcm, hcs, htk⟩
  · exact ⟨none, 0, by rw [h0], by omega, by unfold maxLen; omega⟩
  · exact ⟨_, cap, rfl, by omega, hcm⟩
theorem own_some {w : World} {B e sz n : Nat} {a : Option Addr} {c : Nat} {m : Nat} {xs : List Value} (h : w.ownsRow B e sz (.slice a m c) n xs) (hn : 0 < n) : ∃ g, a = some ⟨g, 0, none⟩ := by
  rcases h.2 with ⟨h1, h0⟩ | ⟨g, cap, cur, h1, _⟩
  · omega
  · cases h1; exact ⟨g, rfl⟩
def popB (l : List Oper) (n : Nat) : Bool :=
  l.length == n + 1 && ((List.range (n + 1)).all fun i => match l[i]? with
    | some o => (o.after.all fun e => !Region.binds .any e || decide (e.on < i)) && (match o.guard with | none => true | some (g, _) => decide (g < n))
    | none => false) && Region.sinkB .any l.toArray n && Region.chainB .any l.toArray n
section
variable {P : Program} {l : List Oper} {n : Nat}
theorem popB_len (h : popB l n = true) : l.length = n + 1 := by
  simp only [popB, Bool.and_eq_true, beq_iff_eq] at h; exact h.1.1.1
theorem popB_edge (h : popB l n = true) {i : Nat} {o : Oper} (hi : l[i]? = some o) : (∀ e ∈ o.after, Region.binds .any e = true → e.on < i) ∧ (∀ g b, o.guard = some (g, b) → g < n) := by
  have hl := popB_len h
  simp only [popB, Bool.and_eq_true] at h
  have h2 := h.1.1.2
  rw [List.all_eq_true] at h2
  have hlt : i < l.length := by rcases Nat.lt_or_ge i l.length with h' | h'; exact h'; simp [List.getElem?_eq_none h'] at hi
  have h3 := h2 i (List.mem_range.2 (by omega))
  simp only [hi, Bool.and_eq_true] at h3
  refine ⟨fun e he hb => ?_, fun g b hg => ?_⟩
  · have h4 := Array.all_eq_true'.1 h3.1 e he
    simp only [hb, Bool.not_true, Bool.false_or, decide_eq_true_eq] at h4
    exact h4
  · have h4 := h3.2
    simp only [hg, decide_eq_true_eq] at h4
    exact h4
theorem pop_get {i : Nat} (hi : i < n) : (l.take n).toArray[i]? = l.toArray[i]? := by simp [hi]
theorem push_getD {L : Array Bool} (hL : L.size = n) {i : Nat} (hi : i < n) (d : Bool) : (L.push false).getD i d = L.getD i d := by
  have h1 : i < L.size := by omega
  have h2 : i < L.size + 1 := by omega
  simp only [Array.getD, Array.size_push, h1, h2, dif_pos]
  exact Array.getElem_push_lt h1
theorem push_last {L : Array Bool} (hL : L.size = n) (d : Bool) : (L.push false).getD n d = false := by
  subst hL
  simp [Array.getD]
theorem push_set {L : Array Bool} (hL : L.size = n) {i : Nat} (hi : i < n) : (L.push false).setIfInBounds i true = (L.setIfInBounds i true).push false := by
  apply Array.ext_getElem?
  intro j
  simp only [Array.getElem?_setIfInBounds, Array.getElem?_push, Array.size_setIfInBounds, Array.size_push, hL]
  by_cases h1 : i = j
  · subst h1
    simp [hi, show i < n + 1 by omega, show i ≠ n by omega]
  · simp [h1]
theorem pop_ready (hB : popB l n = true) {L : Array Bool} (hL : L.size = n) {i : Nat} (hi : i < n) : i ∈ Region.ready .any l.toArray (L.push false) ↔ i ∈ Region.ready .any (l.take n).toArray L := by
  rw [mem_ready, mem_ready, push_getD hL hi, pop_get hi]
  refine and_congr_right fun _ => ?_
  constructor
  · rintro ⟨o, ho, h⟩
    have he := (popB_edge hB (by simpa using ho)).1
    exact ⟨o, ho, fun e hm hb => by have := h e hm hb; rwa [push_getD hL (by have := he e hm hb; omega)] at this⟩
  · rintro ⟨o, ho, h⟩
    have he := (popB_edge hB (by simpa using ho)).1
    exact ⟨o, ho, fun e hm hb => by rw [push_getD hL (by have := he e hm hb; omega)]; exact h e hm hb⟩
theorem pop_all (hB : popB l n = true) {L : Array Bool} (hL : L.size = n) (h : Region.ready .any (l.take n).toArray L = []) : ∀ i, i < n → L.getD i false = true := by
  have hlen := popB_len hB
  intro i
  induction i using Nat.strongRecOn with
  | _ i ih =>
    intro hi
    cases hc : L.getD i false with
    | true => rfl
    | false =>
      exfalso
      have hget : l.toArray[i]? = some l[i] := by simp
      have he := (popB_edge hB (i := i) (o := l[i]) (by simp)).1
      have : i ∈ Region.ready .any (l.take n).toArray L := by
        rw [mem_ready, pop_get hi]
        exact ⟨getD_in (by omega) hc, _, hget, fun e hm hb => ih e.on (he e hm hb) (by have := he e hm hb; omega)⟩
      rw [h] at this
      cases this
theorem pop_upon {o : Oper} {a : Act} {w : World} {K K' next : Act → World → Prop} {Q : Exit → Act → World → Prop} (hK : ∀ a w, K a w → K' a w) (h : o.wp P a w K (Exit.then next Q)) : o.wp P a w K' Q := by
  have h := Oper.wp_mono hK h
  unfold Oper.wp at *
  generalize (execOp a.eval o).run P w = r at *
  cases r with
  | ok x w' =>
    cases x <;> simp only [Oper.upon] at h ⊢ <;>
      first
        | exact h
        | exact Calls.mono h (fun e w'' he => by cases e <;> exact he)
  | halt x w' => cases x <;> simp only [Oper.upon] at h ⊢ <;> exact h
theorem pop_op (hB : popB l n = true) {i : Nat} (hi : i < n) {a : Act} {w : World} {K K' next : Act → World → Prop} {Q : Exit → Act → World → Prop} (hK : ∀ a w, K a w → K' a w)
    (h : wpOp P (l.take n).toArray (Exit.then next Q) i K a w) : wpOp P l.toArray Q i K' a w := by
  have hlen := popB_len hB
  have hget : l.toArray[i]? = some l[i] := by simp
  have hg := (popB_edge hB (i := i) (o := l[i]) (by simp)).2
  have hw : Region.wanted l[i] (yielded l.toArray a.tmps) = Region.wanted l[i] (yielded (l.take n).toArray a.tmps) := by
    unfold Region.wanted
    cases hq : l[i].guard with
    | none => rfl
    | some gb =>
      obtain ⟨g, b⟩ := gb
      have := hg g b hq
      simp only
      unfold yielded
      rw [pop_get this]
  unfold wpOp at *
  rw [pop_get hi] at h
  simp only [hget] at h ⊢
  rw [hw]
  split
  · rename_i hc
    simp only [hc, if_true] at h
    exact h.imp (pop_upon hK) (fun ⟨h1, h2⟩ => ⟨h1, h2⟩)
  · rename_i hc
    simp only [hc] at h
    exact hK _ _ h
theorem pop_fin (hB : popB l n = true) {L : Array Bool} (hL : L.size = n) (hall : ∀ i, i < n → L.getD i false = true) {a : Act} {w : World} {Q : Exit → Act → World → Prop} (f : Nat)
    (h : wpList P l.toArray Q (l.drop n) a w) : wpAny P .any l.toArray Q (f + 1) (L.push false) a w := by
  have hlen := popB_len hB
  have hr : ∀ i, i ∈ Region.ready .any l.toArray (L.push false) ↔ i = n := by
    intro i
    constructor
    · intro hi
      obtain ⟨h1, o, ho, _⟩ := mem_ready.1 hi
      have hlt : i < n + 1 := by have := (Array.getElem?_eq_some_iff.1 ho).1; simp at this; omega
      rcases Nat.lt_or_ge i n with hin | hin
      · rw [push_getD hL hin] at h1
        have := hall i hin
        rw [getD_both h1] at this
        cases this
      · omega
    · rintro rfl
      refine mem_ready.2 ⟨push_last hL _, l[i], by simp, fun e hm hb => ?_⟩
      have := (popB_edge hB (i := i) (o := l[i]) (by simp)).1 e hm hb
      rw [push_getD hL this]
      exact hall _ this
  have hd : Region.ready .any l.toArray ((L.push false).setIfInBounds n true) = [] := by
    apply List.eq_nil_iff_forall_not_mem.2
    intro i hi
    obtain ⟨h1, o, ho, _⟩ := mem_ready.1 hi
    have hlt : i < n + 1 := by have := (Array.getElem?_eq_some_iff.1 ho).1; simp at this; omega
    rcases Nat.lt_or_ge i n with hin | hin
    · rw [getD_set_ne true (by omega), push_getD hL hin] at h1
      have := hall i hin
      rw [getD_both h1] at this
      cases this
    · obtain rfl : i = n := by omega
      have : ((L.push false).setIfInBounds i true).getD i true = true := by simp [Array.getD, hL]
      rw [this] at h1
      cases h1
  refine ⟨fun h0 => (by have := (hr n).2 rfl; rw [h0] at this; cases this), fun i hi => ?_⟩
  obtain rfl := (hr i).1 hi
  have hdrop : l.drop i = [l[i]] := by rw [List.drop_eq_getElem_cons (by omega), List.drop_of_length_le (by omega)]
  rw [hdrop] at h
  have hw : wpOp P l.toArray Q i (wpList P l.toArray Q []) a w := by unfold wpOp; simp only [show l.toArray[i]? = some l[i] by simp]; exact h
  exact wpOp_mono (fun a' w' h' => wpAny_done hd h' f) hw
theorem pop_any (hB : popB l n = true) {Q : Exit → Act → World → Prop} : ∀ (f : Nat) (L : Array Bool) (a : Act) (w : World), L.size = n → HeadInv .any l.toArray n (L.push false) →
    wpAny P .any (l.take n).toArray (Exit.then (wpList P l.toArray Q (l.drop n)) Q) f L a w → wpAny P .any l.toArray Q (f + 1) (L.push false) a w
  | 0, L, a, w, hL, _, h => pop_fin hB hL (pop_all hB hL h.1) 0 h.2
  | f + 1, L, a, w, hL, inv, h => by
    have hlen := popB_len hB
    by_cases hr : Region.ready .any (l.take n).toArray L = []
    · exact pop_fin hB hL (pop_all hB hL hr) (f + 1) (h.1 hr)
    · have hB' := hB
      simp only [popB, Bool.and_eq_true] at hB'
      have hsz : n < l.toArray.size := by simp; omega
      obtain ⟨i0, hi0⟩ := List.exists_mem_of_ne_nil _ hr
      have h0 := mem_ready.1 hi0
      have hi0n : i0 < n := by obtain ⟨_, o, ho, _⟩ := h0; have := (Array.getElem?_eq_some_iff.1 ho).1; simp at this; omega
      have hnot : n ∉ Region.ready .any l.toArray (L.push false) :=
        tail_waits hB'.1.2 hB'.2 hsz inv (n - i0) i0 rfl hi0n (by rw [push_getD hL hi0n]; exact h0.1) n (Nat.le_refl _)
      refine ⟨fun hn => ?_, fun i hi => ?_⟩
      · have := (pop_ready hB hL hi0n).2 hi0
        rw [hn] at this
        cases this
      · have hin : i < n := by
          obtain ⟨_, o, ho, _⟩ := mem_ready.1 hi
          have := (Array.getElem?_eq_some_iff.1 ho).1
          simp at this
          rcases Nat.lt_or_ge i n with h' | h'
          · exact h'
          · obtain rfl : i = n := by omega
            exact absurd hi hnot
        refine pop_op hB hin (fun a' w' h' => ?_) (h.2 i ((pop_ready hB hL hin).1 hi))
        have inv' := inv.set hi hin
        rw [push_set hL hin] at inv' ⊢
        exact pop_any hB f _ a' w' (by simpa using hL) inv' h'
theorem wp_region_pop {id : Nat} {Q : Exit → Act → World → Prop} {a : Act} {w : World} {S : World → Prop} (n : Nat) (hm : P.follows .mixedOrders = true) (hB : popB l n = true) (hS : S w.drew)
    (h : S w.drew → wpAnyH P .any (l.take n).toArray (Exit.then (wpList P l.toArray Q (l.drop n)) Q) S n (Array.replicate n false) a w.drew) : (Code.region id l.toArray true).wp P Q a w := by
  have hlen := popB_len hB
  refine wp_region_any hm ?_
  have h2 := wpAny_of_held _ _ _ _ (h hS)
  have inv : HeadInv .any l.toArray n ((Array.replicate n false).push false) := by
    have e : (Array.replicate n false).push false = Array.replicate (n + 1) false := by rw [Array.replicate_succ]
    rw [e]
    exact ⟨by simp; omega, fun j oj _ hl => (by rw [getD_replicate_false] at hl; cases hl), fun t _ ht => getD_in (by simp at ht ⊢; omega) (getD_replicate_false _ _)⟩
  have h3 := pop_any (P := P) hB n _ a w.drew (by simp) inv h2
  have e : l.toArray.size = n + 1 := by simp; omega
  rw [e, Array.replicate_succ]
  exact h3
end
end Go.Proofs.YtlcmhbkmpkcajaaGreatDoor
namespace Go.Proofs.YtlcmhbkmpkcajaaGreatDoor
open Go.RowKit
theorem tk {P : Program} {md : Region.Mode} {ops : Array Oper} {Q : Exit → Act → World → Prop} {S : World → Prop} (i : Nat) {oi : Oper} {v : Value} {fuel : Nat} {listed : Array Bool} {a : Act} {w : World}
    (h : wpAnyH P md ops Q S fuel (listed.setIfInBounds i true) (a.put oi.dst v) w)
    (hi : ops[i]? = some oi := by rfl) (hs : Region.noSelect ops = true := by kernel_rfl) (hf : Region.free md ops listed i = true := by kernel_rfl) (hr : (Region.ready md ops listed).contains i = true := by kernel_rfl)
    (hQ : ∀ c a w, Q (.panic c) (a.put oi.dst v) w → Q (.panic c) a w := by exact fun _ _ _ h => h)
    (hw : Region.wanted oi (yielded ops a.tmps) = true := by rfl) (hy : ∀ w, S w → (execOp a.eval oi).run P w = .ok (.value v) w := by (intro w h; (try dsimp only at h); go_simp; try (with_reducible rfl))) (hS : S w := by assumption) : wpAnyH P md ops Q S (fuel + 1) listed a w :=
  wpAnyH_take (i := i) hi hs hf hr hQ (Or.inl ⟨hw, hy⟩) hS h
theorem tkU {P : Program} {md : Region.Mode} {ops : Array Oper} {Q : Exit → Act → World → Prop} {S : World → Prop} (i : Nat) {oi : Oper} {fuel : Nat} {listed : Array Bool} {a : Act} {w : World}
    (h : wpAnyH P md ops Q S fuel (listed.setIfInBounds i true) (a.put oi.dst undef) w)
    (hi : ops[i]? = some oi := by rfl) (hs : Region.noSelect ops = true := by kernel_rfl) (hf : Region.free md ops listed i = true := by kernel_rfl) (hr : (Region.ready md ops listed).contains i = true := by kernel_rfl)
    (hQ : ∀ c a w, Q (.panic c) (a.put oi.dst undef) w → Q (.panic c) a w := by exact fun _ _ _ h => h)
    (hw : Region.wanted oi (yielded ops a.tmps) = false := by rfl) (hS : S w := by assumption) : wpAnyH P md ops Q S (fuel + 1) listed a w :=
  wpAnyH_take (i := i) hi hs hf hr hQ (Or.inr ⟨hw, rfl⟩) hS h
theorem tkD {P : Program} {md : Region.Mode} {ops : Array Oper} {Q : Exit → Act → World → Prop} {S : World → Prop} {listed : Array Bool} {a : Act} {w : World} (h : Q .normal a w) (fuel : Nat) (hr : Region.ready md ops listed = [] := by kernel_rfl) : wpAnyH P md ops Q S fuel listed a w := wpAnyH_done hr h fuel
theorem tk1 {P : Program} {md : Region.Mode} {ops : Array Oper} {Q : Exit → Act → World → Prop} {S : World → Prop} (i : Nat) {o : Oper} {fuel : Nat} {listed : Array Bool} {a : Act} {w : World}
    (h : ∀ K' : Act → World → Prop, Shut (∀ a w, S w → (S w → wpAnyH P md ops Q S fuel (listed.setIfInBounds i true) a w) → K' a w) → if Region.wanted o (yielded ops a.tmps) = true then Oper.wp P o a w K' Q else K' (a.put o.dst undef) w)
    (ho : ops[i]? = some o := by rfl) (hr : Region.ready md ops listed = [i] := by kernel_rfl) : wpAnyH P md ops Q S (fuel + 1) listed a w :=
  wpAnyH_ready (rs := [i]) hr (by simp) (AllReadyH.cons ho h AllReadyH.nil)
theorem hI {p : Prop} (h : p) : Hid p := Lib.hid h
theorem tkS : (∀ (a : Act) (d : Tmp) (v : Value), a.put (some d) v = { a with tmps := a.tmps.setIfInBounds d v }) ∧ (∀ (a : Act) (v : Value), a.put none v = a) ∧
    (∀ (l : List Value) (i : Nat) (v : Value), l.toArray.setIfInBounds i v = (l.set i v).toArray) ∧ (∀ (x : Value) (l : List Value) (v : Value), (x :: l).set 0 v = v :: l) ∧ (∀ (x : Value) (l : List Value) (i : Nat) (v : Value), (x :: l).set (i + 1) v = x :: l.set i v) ∧
    (∀ (l : List Oper) (i : Nat) (h : i < l.toArray.size), l.toArray[i]'h = l[i]'h) ∧ (∀ (x : Oper) (l : List Oper) (h : 0 < (x :: l).length), (x :: l)[0]'h = x) ∧ (∀ (x : Oper) (l : List Oper) (i : Nat) (h : i + 1 < (x :: l).length), (x :: l)[i + 1]'h = l[i]'(Nat.lt_of_succ_lt_succ h)) :=
  ⟨fun _ _ _ => rfl, fun _ _ => rfl, fun l i v => List.setIfInBounds_toArray l i v, fun _ _ _ => rfl, fun _ _ _ _ => rfl, fun _ _ _ => rfl, fun _ _ _ => rfl, fun _ _ _ _ => rfl⟩
end Go.Proofs.YtlcmhbkmpkcajaaGreatDoor
