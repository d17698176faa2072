/-
  Base vocabulary: slices of rows read in a world, worlds below which nothing turns, a quiet class of worlds for regions that draw their order.
-/
import Derived.Test.YtknpbcdmemlicaaGreatDoorRows
import Derived.Test.YtknpbcdmemlicaaGreatDoorVPure
import Derived.WalkKit
import Derived.WalkSpells
import Derived.WalkLawsBesides
import Derived.BigQuiet
import Derived.Deep.QuietTactic
import Derived.Lib.Hide
import Derived.Shelf.Abstract
namespace Go.Proofs.YtknpbcdmemlicaaGreatDoor
open Go.RowKit

/-- The call hands back v and leaves all that lay there as it was. -/
def Ret (v : Value) (w : World) (e : Ending) (w' : World) : Prop := e = .returned v ∧ Below w.heap.size w w'

theorem Ret.mk {v : Value} {w w' : World} (h : Below w.heap.size w w') : Ret v w (.returned v) w' := ⟨rfl, h⟩

theorem bcell {W w1 : World} (hb : Below W.heap.size W w1) : (∀ b o, b < W.heap.size → w1.cell? ⟨b, o, none⟩ = W.cell? ⟨b, o, none⟩) ∧ (∀ b o, b < W.heap.size → w1.frozen? ⟨b, o, none⟩ = W.frozen? ⟨b, o, none⟩) :=
  ⟨fun b o h => hb.cell (p := ⟨b, o, none⟩) h, fun b o h => hb.frozen (p := ⟨b, o, none⟩) h⟩

/-- A slice value that reads as rows of sz cells each. -/
def Sl (w : World) (sz : Nat) (v : Value) (rows : List (List Value)) : Prop :=
  ∃ a cap, v = .slice a rows.length cap ∧ rows.length ≤ cap ∧ cap ≤ maxLen ∧
    (cap = 0 ∨ ∃ b off, a = some ⟨b, off, none⟩ ∧ b < w.heap.size ∧
      ∀ i j, i < rows.length → j < sz → w.cell? ⟨b, off + i * sz + j, none⟩ = some ((rows.getD i []).getD j undef))

theorem Sl.mono {w w' : World} {sz : Nat} {v : Value} {rows : List (List Value)} (h : Sl w sz v rows) (hb : Below w.heap.size w w') : Sl w' sz v rows := by
  obtain ⟨a, cap, hv, hc, hm, h⟩ := h
  refine ⟨a, cap, hv, hc, hm, ?_⟩
  rcases h with h | ⟨b, off, ha, hlt, hcell⟩
  · exact .inl h
  · refine .inr ⟨b, off, ha, Nat.lt_of_lt_of_le hlt hb.size, fun i j hi hj => ?_⟩
    rw [hb.cell (p := ⟨b, _, none⟩) hlt]
    exact hcell i j hi hj

theorem Sl.nil (w : World) (sz : Nat) : Sl w sz (.slice none 0 0) [] := ⟨none, 0, rfl, Nat.le_refl _, Nat.zero_le _, .inl rfl⟩

/-- The row k of a slice, read in a later world. -/
theorem Sl.row {w wr : World} {sz n cap : Nat} {a : Option Addr} {rows : List (List Value)} (h : Sl w sz (.slice a n cap) rows) (hb : Below w.heap.size w wr) {k : Nat} (hk : k < n) :
    ∃ b off, a = some ⟨b, off, none⟩ ∧ b < w.heap.size ∧ ∃ r, rows[k]? = some r ∧ ∀ j, j < sz → wr.cell? ⟨b, off + k * sz + j, none⟩ = some (r.getD j undef) := by
  obtain ⟨a', cap', hv, hc, hm, h⟩ := h
  cases hv
  rcases h with h0 | ⟨b, off, ha, hlt, hcell⟩
  · omega
  · refine ⟨b, off, ha, hlt, rows[k], by simp [hk], fun j hj => ?_⟩
    rw [hb.cell (p := ⟨b, _, none⟩) hlt]
    have := hcell k j hk hj
    simpa [hk] using this

theorem Sl.open {w : World} {sz : Nat} {v : Value} {rows : List (List Value)} (h : Sl w sz v rows) : ∃ a cap, v = .slice a rows.length cap ∧ rows.length ≤ cap ∧ cap ≤ maxLen := by
  obtain ⟨a, cap, hv, hc, hm, _⟩ := h
  exact ⟨a, cap, hv, hc, hm⟩

/-- Rows of one cell, of two cells. -/
def c1 (x : Value) : List Value := [x]
def c2 (x : Value × Value) : List Value := [x.1, x.2]

theorem Sl.at1 {w wr : World} {n cap : Nat} {a : Option Addr} {xs : List Value} (hS : Sl w 1 (.slice a n cap) (xs.map c1)) (hb : Below w.heap.size w wr) {k : Nat} (hk : k < n) :
    ∃ b off x, a = some ⟨b, off, none⟩ ∧ xs[k]? = some x ∧ wr.cell? ⟨b, off + k, none⟩ = some x := by
  obtain ⟨b, off, ha, hlt, r, hr, hc⟩ := hS.row hb hk
  simp only [List.getElem?_map, Option.map_eq_some_iff] at hr
  obtain ⟨l, hl, rfl⟩ := hr
  exact ⟨b, off, l, ha, hl, by simpa [c1] using hc 0 (by omega)⟩

theorem Sl.at2 {w wr : World} {n cap : Nat} {a : Option Addr} {xs : List (Value × Value)} (hS : Sl w 2 (.slice a n cap) (xs.map c2)) (hb : Below w.heap.size w wr) {k : Nat} (hk : k < n) :
    ∃ b off x, a = some ⟨b, off, none⟩ ∧ xs[k]? = some x ∧ wr.cell? ⟨b, off + k * 2, none⟩ = some x.1 ∧ wr.cell? ⟨b, off + k * 2 + 1, none⟩ = some x.2 := by
  obtain ⟨b, off, ha, hlt, r, hr, hc⟩ := hS.row hb hk
  simp only [List.getElem?_map, Option.map_eq_some_iff] at hr
  obtain ⟨l, hl, rfl⟩ := hr
  exact ⟨b, off, l, ha, hl, by simpa [c2] using hc 0 (by omega), by simpa [c2] using hc 1 (by omega)⟩

/-- Literals in memory. -/
def litV (l : Lit1) : Value × Value := (.int .i64 l.1, .bool l.2)
def Lits (w : World) (v : Value) (ls : List Lit1) : Prop := Sl w 2 v ((ls.map litV).map c2)

theorem Lits.mono {w w' : World} {v : Value} {ls : List Lit1} (h : Lits w v ls) (hb : Below w.heap.size w w') : Lits w' v ls := Sl.mono h hb

theorem Lits.open {w : World} {v : Value} {ls : List Lit1} (h : Lits w v ls) : ∃ a cap, v = .slice a ls.length cap ∧ ls.length ≤ cap ∧ cap ≤ maxLen := by
  have := Sl.open h; simpa using this

/-- The cells of literal k of a slice of literals, in a later world. -/
theorem Lits.at {w wr : World} {n cap : Nat} {a : Option Addr} {ls : List Lit1} (hS : Lits w (.slice a n cap) ls) (hb : Below w.heap.size w wr) {k : Nat} (hk : k < n) :
    ∃ b off l, a = some ⟨b, off, none⟩ ∧ ls[k]? = some l ∧ wr.cell? ⟨b, off + k * 2, none⟩ = some (.int .i64 l.1) ∧ wr.cell? ⟨b, off + k * 2 + 1, none⟩ = some (.bool l.2) := by
  obtain ⟨b, off, x, ha, hx, h0, h1⟩ := Sl.at2 hS hb hk
  simp only [List.getElem?_map, Option.map_eq_some_iff] at hx
  obtain ⟨l, hl, rfl⟩ := hx
  exact ⟨b, off, l, ha, hl, h0, h1⟩

/-- Rules in memory: each row's second cell reads as the rule's literals. -/
def Rules (w : World) (v : Value) (rs : List Rule1) : Prop :=
  ∃ rv : List (Value × Value), Sl w 2 v (rv.map c2) ∧ rv.length = rs.length ∧ ∀ (k : Nat) (x : Value × Value) (r : Rule1), rv[k]? = some x → rs[k]? = some r → x.1 = .string r.1 ∧ Lits w x.2 r.2

theorem Rules.mono {w w' : World} {v : Value} {rs : List Rule1} (h : Rules w v rs) (hb : Below w.heap.size w w') : Rules w' v rs := by
  obtain ⟨rv, h1, h2, h3⟩ := h
  exact ⟨rv, h1.mono hb, h2, fun k x r hx hr => ⟨(h3 k x r hx hr).1, (h3 k x r hx hr).2.mono hb⟩⟩

/-- A closure that answers bs[k] on row k, in whatever later world, and turns nothing. -/
def PredOn (g : Nat) (cap : Array Value) (W : World) (rows : List (Value × Value)) (bs : List Bool) : Prop :=
  (∀ args w, (callFunc g args).run Tryz.prog w = .ok (.enter g args) w) ∧ rows.length = bs.length ∧
  ∀ w' : World, Below W.heap.size W w' → ∀ (k : Nat) r b, rows[k]? = some r → bs[k]? = some b → Calls Tryz.prog g (#[.agg #[r.1, r.2]] ++ cap) w' (Ret (.bool b) w')

/-- Worlds that are as W was in all W's blocks. -/
def Wld (W : World) : Type := { w : World // Below W.heap.size W w }
instance (W : World) : Nonempty (Wld W) := ⟨⟨W, Below.refl _ _⟩⟩
def Wld.w {W : World} (x : Wld W) : World := x.1
theorem Wld.below {W : World} (x : Wld W) : Below W.heap.size W x.w := x.2

theorem wp_region_wld {P : Program} {id : Nat} {Q : Exit → Act → World → Prop} {a : Act} {w : World} {l : List Oper} (hm : P.follows .mixedOrders = true) (hB : Region.lexB .any l.toArray = true)
    (h : wpQuiet P l.toArray (fun w' => ∃ x : Wld w, w' = x.w) (fun a' => ∀ w', (∃ x : Wld w, w' = x.w) → Q .normal a' w') l a) : (Code.region id l.toArray true).wp P Q a w :=
  wp_region_quiet (C := fun w' => ∃ x : Wld w, w' = x.w) hm hB ⟨⟨_, (Below.refl _ _).drew⟩, rfl⟩ (by simpa using h)

theorem wld_call {P : Program} {f : FuncId} {args : Array Value} {W : World} {x : Wld W} {v : Value}
    (h : Calls P f args x.w (Ret v x.w)) : Calls P f args x.w fun e w'' => e = .returned v ∧ ∃ y : Wld W, w'' = y.w :=
  h.mono fun _ w' ⟨he, hb⟩ => ⟨he, ⟨w', x.below.trans (hb.mono x.below.size)⟩, rfl⟩

theorem wld_cell {W : World} (x : Wld W) : (∀ b o, b < W.heap.size → x.w.cell? ⟨b, o, none⟩ = W.cell? ⟨b, o, none⟩) := (bcell x.below).1

theorem _root_.Go.RowKit.Below.dn {B : Nat} {a w : World} (h : Below B a w) (n : Nat) : Below B a (w.drewN n) := ⟨h.os, h.tape, h.output, h.size, h.block⟩

/-- From a call's world back to an earlier one. -/
theorem _root_.Go.RowKit.Below.via {B : Nat} {a b c : World} (h : Below B a b) (k : Below b.heap.size b c) (hB : B ≤ b.heap.size) : Below B a c := h.trans (k.mono hB)

theorem ret_bool {a b : Bool} (h : a = b) : Ending.returned (.bool a) = .returned (.bool b) := by rw [h]
theorem ret_int {k : IntKind} {a b : Int} (h : a = b) : Ending.returned (.int k a) = .returned (.int k b) := by rw [h]

theorem bytes_inj {x y : ByteArray} (h : x.toList = y.toList) : x = y := by
  rw [ByteArray.toList_eq, ByteArray.toList_eq] at h
  cases x with | mk x => cases y with | mk y => simpa using congrArg List.toArray h
theorem bytes_ne {x y : ByteArray} (h : ¬x = y) : (x.toList == y.toList) = false := by
  rw [beq_eq_false_iff_ne]; exact fun e => h (bytes_inj e)

/-- A row that the call owns reads as a slice. -/
theorem Sl.own1 {w : World} {base n : Nat} {e : TypeId} {v : Value} {xs : List Value} (h : w.ownsRow base e 1 v n xs) : Sl w 1 v (xs.map c1) := by
  have hn : xs.length = n := by have := h.1; omega
  rcases h.2 with ⟨rfl, h0⟩ | ⟨g, cap, cur, rfl, hb, hg, hnc, hcm, hcs, htk⟩
  · have : xs = [] := List.length_eq_zero_iff.1 (by omega)
    subst this
    exact Sl.nil _ _
  · refine ⟨_, cap, by simp [hn], by simp; omega, hcm, .inr ⟨g, 0, rfl, (Array.getElem?_eq_some_iff.1 hg).1, fun i j hi hj => ?_⟩⟩
    obtain rfl : j = 0 := by omega
    simp only [List.length_map] at hi
    have hc := h.cells (g := g) (by simp [Value.ownBlock]) i xs[i] (by simp [hi])
    have ha : (⟨g, 0, none⟩ : Addr).add i = ⟨g, i, none⟩ := by unfold Addr.add; split <;> simp_all
    rw [ha] at hc
    simpa [c1, hi] using hc

theorem flat2_get (ps : List (Value × Value)) (i : Nat) (p : Value × Value) (h : ps[i]? = some p) : (ps.flatMap c2)[i * 2]? = some p.1 ∧ (ps.flatMap c2)[i * 2 + 1]? = some p.2 := by
  induction ps generalizing i with
  | nil => simp at h
  | cons q qs ih =>
    cases i with
    | zero => simp at h; subst h; simp [c2]
    | succ i =>
      have := ih i (by simpa using h)
      simp only [List.flatMap_cons, c2, List.cons_append, List.nil_append]
      rw [show (i + 1) * 2 = i * 2 + 1 + 1 from by omega]
      simpa using this

theorem Sl.own2 {w : World} {base n : Nat} {e : TypeId} {v : Value} {ps : List (Value × Value)} (h : w.ownsRow base e 2 v n (ps.flatMap c2)) : Sl w 2 v (ps.map c2) := by
  have hl : (ps.flatMap c2).length = ps.length * 2 := by
    clear h
    induction ps with
    | nil => rfl
    | cons p ps ih => simp [List.flatMap_cons, c2] at *; omega
  have hn : ps.length = n := by have := h.1; omega
  rcases h.2 with ⟨rfl, h0⟩ | ⟨g, cap, cur, rfl, hb, hg, hnc, hcm, hcs, htk⟩
  · have : ps = [] := List.length_eq_zero_iff.1 (by omega)
    subst this
    exact Sl.nil _ _
  · refine ⟨_, cap, by simp [hn], by simp; omega, hcm, .inr ⟨g, 0, rfl, (Array.getElem?_eq_some_iff.1 hg).1, fun i j hi hj => ?_⟩⟩
    simp only [List.length_map] at hi
    have hp := flat2_get ps i ps[i] (by simp [hi])
    have ha : ∀ k, (⟨g, 0, none⟩ : Addr).add k = ⟨g, k, none⟩ := fun k => by unfold Addr.add; split <;> simp_all
    rcases j with _ | _ | j
    · have hc := h.cells (g := g) (by simp [Value.ownBlock]) _ _ hp.1
      rw [ha] at hc
      simpa [c2, hi] using hc
    · have hc := h.cells (g := g) (by simp [Value.ownBlock]) _ _ hp.2
      rw [ha] at hc
      simpa [c2, hi] using hc
    · omega

/-- A fresh row of one cell, for the law on append. -/
theorem new1 {w : World} {x : Value} {T : TypeId} (j : Nat) (u : Value) (h : [x][j]? = some u) : (w.alloc (.cells #[x] T)).cell? ((⟨w.heap.size, 0, none⟩ : Addr).add j) = some u := by
  rcases j with _ | j
  · simp at h; subst h; simp [Addr.add]
  · simp at h

theorem new2 {w : World} {x y : Value} {T : TypeId} (j : Nat) (u : Value) (h : [x, y][j]? = some u) : (w.alloc (.cells #[x, y] T)).cell? ((⟨w.heap.size, 0, none⟩ : Addr).add j) = some u := by
  rcases j with _ | _ | j
  · simp at h; subst h; simp [Addr.add]
  · simp at h; subst h; simp [Addr.add]
  · simp at h

/-- Below behind append's law: the row written is one of the call's own. -/
theorem below_app {B : Nat} {w wr w1 : World} {e : TypeId} {sz n : Nat} {v : Value} {xs : List Value} {o : Obj} (hb : Below B w wr) (hown : wr.ownsRow B e sz v n xs) (hg : (wr.alloc o).grownBy w1 v.ownBlock) (hB : B ≤ wr.heap.size) : Below B w w1 :=
  (hb.alloc hB o).grown hg (by simp; omega) (fun k hk => (hown.lt k hk).1)

theorem fields62 : Tryz.prog.fieldsOf 73 = #[⟨"Option", 3, 0, false, "", "", 0⟩, ⟨"On", 4, 1, false, "", "", 8⟩] := by kernel_rfl
theorem und62 : Tryz.prog.underlying 73 = some (.struct (Tryz.prog.fieldsOf 73)) := by kernel_rfl
theorem held62 : Tryz.prog.stoodInHeld 73 = false := by kernel_rfl

theorem run_eq62 (x0 y0 : Int) (x1 y1 : Bool) (w : World) : (Op.equal 73 (.agg #[.int .i64 x0, .bool x1]) (.agg #[.int .i64 y0, .bool y1])).run Tryz.prog w = .ok (x0 == y0 && x1 == y1) w := by
  unfold Op.equal Op.maxDepth
  rw [run_equalIn_struct w 9999 73 _ _ und62 held62, fields62]
  by_cases h0 : x0 = y0 <;> by_cases h1 : x1 = y1 <;> simp [go_sem, h0, h1]

theorem run_neq62 (x0 y0 : Int) (x1 y1 : Bool) (w : World) : (binOp .neq 73 (.agg #[.int .i64 x0, .bool x1]) (.agg #[.int .i64 y0, .bool y1])).run Tryz.prog w = .ok (.bool (!(x0 == y0 && x1 == y1))) w := by
  have h := run_eq62 x0 y0 x1 y1 w
  simp only [binOp, Sem.run_bind, h, Result.andThen_ok, Sem.run_pure]

/-- What append asks of an element type. -/
structure ElemTy (t e size bytes : Nat) : Prop where
  und : Tryz.prog.underlying t = some (.slice e)
  info : (Tryz.prog.info? e).map (fun i => (i.zero.map fun z => z.cells.size, i.size, i.bytes)) = some (some size, size, bytes)

theorem wpApp {t e size bytes : Nat} (E : ElemTy t e size bytes) (hsz : 0 < size) {ops : Array Oper} {rest : List Oper} {o : Oper} {a : Act} {Q : Exit → Act → World → Prop} {wr : World} (news : List Value) {T : TypeId}
    (hgd : o.guard = none) (s x : Operand) (ho : o.op = .call { callee := .builtin .append, args := #[s, x], argTypes := #[t, t] }) (B n : Nat) (v : Value) (xs : List Value)
    (hs : a.eval s = v) (hx : a.eval x = .slice (some ⟨wr.heap.size, 0, none⟩) 1 1) (hown : wr.ownsRow B e size v n xs) (hl : news.length = size) (h1 : ∀ u ∈ news, u.oneCell' = true) (hn : n < 1000000) (hb : bytes ≤ 1000) (hB : B ≤ wr.heap.size)
    (h : ∀ v' w', w'.ownsRow B e size v' (n + 1) (xs ++ news) → (wr.alloc (.cells news.toArray T)).grownBy w' v.ownBlock → wpList Tryz.prog ops Q rest (a.put o.dst v') w') :
    wpList Tryz.prog ops Q (o :: rest) a (wr.alloc (.cells news.toArray T)) := by
  have hi := E.info
  simp only [Option.map_eq_some_iff, Prod.mk.injEq] at hi
  obtain ⟨i, hi, ⟨z, hz, hzs⟩, hsize, hby⟩ := hi
  have hcells : ∀ j u, news[j]? = some u → (wr.alloc (.cells news.toArray T)).cell? ((⟨wr.heap.size, 0, none⟩ : Addr).add j) = some u := by
    intro j u hu
    have ha : (⟨wr.heap.size, 0, none⟩ : Addr).add j = ⟨wr.heap.size, j, none⟩ := by unfold Addr.add; split <;> simp_all
    rw [ha]
    simpa using hu
  have hbb : (n + 1) * bytes ≤ 140737488355328 := Nat.le_trans (Nat.mul_le_mul (show n + 1 ≤ 1000000 by omega) hb) (by decide)
  exact wpList_append_own _ hgd s x t ho B e i z size bytes E.und hi hz hsize hby hzs hsz v n xs hs (hown.alloc _) ⟨wr.heap.size, 0, none⟩ 1 1 news hx (by omega) hcells h1 (by unfold maxLen; omega) hbb (by simp; omega) (fun v' w' a1 a2 _ => h v' w' a1 a2)

theorem E36 : ElemTy 31 9 1 16 := ⟨Tryz.underlying31, by kernel_rfl⟩
theorem E50 : ElemTy 51 3 1 8 := ⟨Tryz.underlying51, by kernel_rfl⟩
theorem E25 : ElemTy 38 73 2 16 := ⟨Tryz.underlying38, by kernel_rfl⟩
theorem E37 : ElemTy 32 40 2 40 := ⟨Tryz.underlying32, by kernel_rfl⟩
theorem E38 : ElemTy 33 80 2 32 := ⟨Tryz.underlying33, by kernel_rfl⟩
theorem E39 : ElemTy 34 86 6 72 := ⟨Tryz.underlying34, by kernel_rfl⟩
theorem E28 : ElemTy 23 115 9 112 := ⟨Tryz.underlying23, by kernel_rfl⟩

theorem one1 (x : Value) (h : x.oneCell' = true) : ∀ u ∈ [x], u.oneCell' = true := by simpa using h

/-- Strings in memory. -/
def Strs (w : World) (v : Value) (ss : List ByteArray) : Prop := Sl w 1 v ((ss.map Value.string).map c1)
theorem Strs.mono {w w' : World} {v : Value} {ss : List ByteArray} (h : Strs w v ss) (hb : Below w.heap.size w w') : Strs w' v ss := Sl.mono h hb
theorem Strs.open {w : World} {v : Value} {ss : List ByteArray} (h : Strs w v ss) : ∃ a cap, v = .slice a ss.length cap ∧ ss.length ≤ cap ∧ cap ≤ maxLen := by
  have := Sl.open h; simpa using this
theorem Strs.at {w wr : World} {n cap : Nat} {a : Option Addr} {ss : List ByteArray} (hS : Strs w (.slice a n cap) ss) (hb : Below w.heap.size w wr) {k : Nat} (hk : k < n) :
    ∃ b off s, a = some ⟨b, off, none⟩ ∧ ss[k]? = some s ∧ wr.cell? ⟨b, off + k, none⟩ = some (.string s) := by
  obtain ⟨b, off, x, ha, hx, h0⟩ := Sl.at1 hS hb hk
  simp only [List.getElem?_map, Option.map_eq_some_iff] at hx
  obtain ⟨s, hs, rfl⟩ := hx
  exact ⟨b, off, s, ha, hs, h0⟩

/-- Whole numbers in memory. -/
def Ints (w : World) (v : Value) (xs : List Int) : Prop := Sl w 1 v ((xs.map (Value.int .i64)).map c1)
theorem Ints.mono {w w' : World} {v : Value} {xs : List Int} (h : Ints w v xs) (hb : Below w.heap.size w w') : Ints w' v xs := Sl.mono h hb
theorem Ints.open {w : World} {v : Value} {xs : List Int} (h : Ints w v xs) : ∃ a cap, v = .slice a xs.length cap ∧ xs.length ≤ cap ∧ cap ≤ maxLen := by
  have := Sl.open h; simpa using this
theorem Ints.at {w wr : World} {n cap : Nat} {a : Option Addr} {xs : List Int} (hS : Ints w (.slice a n cap) xs) (hb : Below w.heap.size w wr) {k : Nat} (hk : k < n) :
    ∃ b off x, a = some ⟨b, off, none⟩ ∧ xs[k]? = some x ∧ wr.cell? ⟨b, off + k, none⟩ = some (.int .i64 x) := by
  obtain ⟨b, off, x, ha, hx, h0⟩ := Sl.at1 hS hb hk
  simp only [List.getElem?_map, Option.map_eq_some_iff] at hx
  obtain ⟨s, hs, rfl⟩ := hx
  exact ⟨b, off, s, ha, hs, h0⟩

/-- Bools in memory. -/
def Bools (w : World) (v : Value) (xs : List Bool) : Prop := Sl w 1 v ((xs.map Value.bool).map c1)
theorem Bools.mono {w w' : World} {v : Value} {xs : List Bool} (h : Bools w v xs) (hb : Below w.heap.size w w') : Bools w' v xs := Sl.mono h hb
theorem Bools.open {w : World} {v : Value} {xs : List Bool} (h : Bools w v xs) : ∃ a cap, v = .slice a xs.length cap ∧ xs.length ≤ cap ∧ cap ≤ maxLen := by
  have := Sl.open h; simpa using this
theorem Bools.at {w wr : World} {n cap : Nat} {a : Option Addr} {xs : List Bool} (hS : Bools w (.slice a n cap) xs) (hb : Below w.heap.size w wr) {k : Nat} (hk : k < n) :
    ∃ b off x, a = some ⟨b, off, none⟩ ∧ xs[k]? = some x ∧ wr.cell? ⟨b, off + k, none⟩ = some (.bool x) := by
  obtain ⟨b, off, x, ha, hx, h0⟩ := Sl.at1 hS hb hk
  simp only [List.getElem?_map, Option.map_eq_some_iff] at hx
  obtain ⟨s, hs, rfl⟩ := hx
  exact ⟨b, off, s, ha, hs, h0⟩

/-- The call hands back a value of which Post holds and leaves all that lay there as it was. -/
def RetP (Post : Value → World → Prop) (w : World) (e : Ending) (w' : World) : Prop := ∃ v, e = .returned v ∧ Post v w' ∧ Below w.heap.size w w'

theorem own_below {w w' : World} {B e sz n : Nat} {v : Value} {xs : List Value} (h : w.ownsRow B e sz v n xs) (hb : Below w.heap.size w w') : w'.ownsRow B e sz v n xs := by
  refine ⟨h.1, ?_⟩
  rcases h.2 with hn | ⟨g, cap, cur, rfl, hb', hgg, rest⟩
  · exact .inl hn
  · exact .inr ⟨g, cap, cur, rfl, hb', by rw [hb.block g (Array.getElem?_eq_some_iff.1 hgg).1]; exact hgg, rest⟩

theorem Rules.open {w : World} {v : Value} {rs : List Rule1} (h : Rules w v rs) : ∃ a cap, v = .slice a rs.length cap ∧ rs.length ≤ cap ∧ cap ≤ maxLen := by
  obtain ⟨rv, h1, h2, h3⟩ := h
  have := Sl.open h1
  simpa [h2] using this

theorem Rules.at {w wr : World} {n cap : Nat} {a : Option Addr} {rs : List Rule1} (hS : Rules w (.slice a n cap) rs) (hb : Below w.heap.size w wr) {k : Nat} (hk : k < n) :
    ∃ b off av r, a = some ⟨b, off, none⟩ ∧ rs[k]? = some r ∧ wr.cell? ⟨b, off + k * 2, none⟩ = some (.string r.1) ∧ wr.cell? ⟨b, off + k * 2 + 1, none⟩ = some av ∧ Lits wr av r.2 := by
  obtain ⟨rv, h1, h2, h3⟩ := hS
  obtain ⟨b, off, x, ha, hx, h0, h1'⟩ := Sl.at2 h1 hb hk
  have hkr : k < rs.length := by
    have : k < rv.length := by rcases Nat.lt_or_ge k rv.length with h' | h'; exact h'; simp [List.getElem?_eq_none h'] at hx
    omega
  obtain ⟨hn, hl⟩ := h3 k x rs[k] hx (by simp [hkr])
  exact ⟨b, off, x.2, rs[k], ha, by simp [hkr], by rw [h0, hn], h1', hl.mono hb⟩

theorem blt {w : World} {B : Nat} {v : Value} (h : w.cell? ⟨B, 0, none⟩ = some v) : B < w.heap.size := World.block_lt_of_cell? w _ h

theorem cell_le {w wr : World} {B : Nat} {v : Value} (h : w.cell? ⟨B, 0, none⟩ = some v) (hb : Below w.heap.size w wr) : wr.cell? ⟨B, 0, none⟩ = some v := by
  rw [hb.cell (p := ⟨B, 0, none⟩) (blt h)]; exact h

theorem below1 (w : World) (o : Obj) : Below w.heap.size w (w.alloc o) := (Below.refl _ _).alloc (Nat.le_refl _) _
theorem below2 (w : World) (o o' : Obj) : Below w.heap.size w ((w.alloc o).alloc o') := (below1 w o).alloc (by simp) _
theorem below3 (w : World) (o o' o'' : Obj) : Below w.heap.size w (((w.alloc o).alloc o').alloc o'') := (below2 w o o').alloc (by simp; omega) _

/-- A boxed family, in a later world. -/
theorem box10 {w wr : World} {q0 q1 q2 q3 q4 q5 q6 q7 q8 q9 : Value} {T : TypeId} (hb : Below (w.heap.size + 1) (w.alloc (.cells #[q0, q1, q2, q3, q4, q5, q6, q7, q8, q9] T)) wr) :
    w.heap.size < wr.heap.size ∧ wr.cell? ⟨w.heap.size, 0, none⟩ = some q0 ∧ wr.cell? ⟨w.heap.size, 1, none⟩ = some q1 ∧ wr.cell? ⟨w.heap.size, 2, none⟩ = some q2 ∧ wr.cell? ⟨w.heap.size, 3, none⟩ = some q3 ∧ wr.cell? ⟨w.heap.size, 4, none⟩ = some q4 ∧
      wr.cell? ⟨w.heap.size, 5, none⟩ = some q5 ∧ wr.cell? ⟨w.heap.size, 6, none⟩ = some q6 ∧ wr.cell? ⟨w.heap.size, 7, none⟩ = some q7 ∧ wr.cell? ⟨w.heap.size, 8, none⟩ = some q8 ∧ wr.cell? ⟨w.heap.size, 9, none⟩ = some q9 := by
  have hc : ∀ o, wr.cell? ⟨w.heap.size, o, none⟩ = (w.alloc (.cells #[q0, q1, q2, q3, q4, q5, q6, q7, q8, q9] T)).cell? ⟨w.heap.size, o, none⟩ := fun o => hb.cell (p := ⟨w.heap.size, o, none⟩) (by simp)
  have hs := hb.size
  simp only [hc]
  refine ⟨by simp at hs; omega, ?_⟩
  simp

/-- Between A and S blocks may have been written (a caller's captured variables); all other blocks are as they were. -/
structure Mid (A S : Nat) (w w' : World) : Prop where
  os : w'.os = w.os
  tape : w'.tape = w.tape
  output : w'.output = w.output
  size : w.heap.size ≤ w'.heap.size
  block : ∀ k, k < w.heap.size → (k < A ∨ S ≤ k) → w'.heap[k]? = w.heap[k]?

theorem Mid.refl (A S : Nat) (w : World) : Mid A S w w := ⟨rfl, rfl, rfl, Nat.le_refl _, fun _ _ _ => rfl⟩
theorem Mid.trans {A S : Nat} {a b c : World} (h : Mid A S a b) (k : Mid A S b c) : Mid A S a c :=
  ⟨k.os.trans h.os, k.tape.trans h.tape, k.output.trans h.output, Nat.le_trans h.size k.size, fun i hi ho => (k.block i (Nat.lt_of_lt_of_le hi h.size) ho).trans (h.block i hi ho)⟩
theorem Mid.of_below {A S : Nat} {w w' : World} (h : Below w.heap.size w w') : Mid A S w w' := ⟨h.os, h.tape, h.output, h.size, fun k hk _ => h.block k hk⟩
theorem Mid.below {A S : Nat} {v w w' : World} (h : Below A v w) (k : Mid A S w w') (hA : A ≤ w.heap.size) : Below A v w' :=
  h.trans ⟨k.os, k.tape, k.output, k.size, fun i hi => k.block i (by omega) (.inl hi)⟩
theorem Mid.alloc {A S : Nat} {w w' : World} (h : Mid A S w w') (o : Obj) : Mid A S w (w'.alloc o) := h.trans (.of_below (below1 _ _))
theorem Mid.setCell {A S : Nat} {w w' : World} (h : Mid A S w w') {p : Addr} (h1 : A ≤ p.block) (h2 : p.block < S) (u : Value) : Mid A S w (w'.setCell p u) :=
  h.trans ⟨rfl, rfl, rfl, by simp [World.setCell], fun k _ ho => Below.heap_setCell _ _ _ _ (by omega)⟩

/-- A slice that lies, if anywhere, in a block from B on. -/
def FreshV (B : Nat) (v : Value) : Prop := ∀ k, v.ownBlock = some k → B ≤ k

theorem Sl.set {w : World} {sz : Nat} {v : Value} {rows : List (List Value)} (h : Sl w sz v rows) {p : Addr} (hp : ∀ k, v.ownBlock = some k → k ≠ p.block) (u : Value) : Sl (w.setCell p u) sz v rows := by
  obtain ⟨a, cap, rfl, hc, hm, h⟩ := h
  refine ⟨a, cap, rfl, hc, hm, ?_⟩
  rcases h with h | ⟨b, off, rfl, hlt, hcell⟩
  · exact .inl h
  · have hne : b ≠ p.block := hp b rfl
    refine .inr ⟨b, off, rfl, by simpa [World.setCell] using hlt, fun i j hi hj => ?_⟩
    rw [World.cell?_of_block (w := w) (a := ⟨b, _, none⟩) (Below.heap_setCell w p u b hne)]
    exact hcell i j hi hj

end Go.Proofs.YtknpbcdmemlicaaGreatDoor
