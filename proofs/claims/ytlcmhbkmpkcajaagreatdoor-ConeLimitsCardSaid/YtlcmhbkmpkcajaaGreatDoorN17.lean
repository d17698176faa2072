/-
  Parts of the proof: Qv, Qs, Qt.
-/
import Derived.Deep.Slices
import Derived.Test.YtlcmhbkmpkcajaaGreatDoorN16
namespace Go.Proofs.YtlcmhbkmpkcajaaGreatDoor
open Go.RowKit
def setN (w : World) (b : Nat) : Nat → List Value → World
  | _, [] => w
  | i, v :: r => setN (w.setCell ⟨b, i, none⟩ v) b (i + 1) r
theorem NoU.set {cs : Array Value} (h : NoU cs) (i : Nat) {v : Value} (hv : ∀ d : Int, v ≠ .int .u32 d) : NoU (cs.setIfInBounds i v) := by
  intro x hx d
  rw [Array.toList_setIfInBounds] at hx
  rcases List.mem_or_eq_of_mem_set hx with h' | rfl
  · exact h x h' d
  · exact hv d
theorem IntV.setN {v : Value} {z : Int} {R : Nat} {T : TypeId} : ∀ (vs : List Value) (i : Nat) (w : World) (cs : Array Value), (∀ x ∈ vs, ∀ d : Int, x ≠ .int .u32 d) → IntV w v z → Blk w R cs T → NoU cs → IntV (setN w R i vs) v z
  | [], _, _, _, _, h, _, _ => h
  | x :: r, i, _, _, hv, h, hB, hn => IntV.setN r (i + 1) _ _ (fun y hy => hv y (List.mem_cons_of_mem _ hy)) (h.put hB hn x) (hB.set i x) (hn.set i (hv x (List.mem_cons_self ..)))
theorem nu4 {x x' : Bool} {a a' : Option Addr} {n c n' c' : Nat} : ∀ v ∈ [Value.bool x, .slice a n c, .bool x', .slice a' n' c'], ∀ d : Int, v ≠ .int .u32 d := by
  intro v hv d
  simp at hv
  rcases hv with rfl | rfl | rfl | rfl <;> simp
theorem ratSetG {v : Value} {p q : Int} {R : Nat} {T : TypeId} (vs : List Value) (i : Nat) (w : World) (cs : Array Value) (hv : ∀ x ∈ vs, ∀ d : Int, x ≠ .int .u32 d) (h : RatV w v p q) (hB : Blk w R cs T) (hn : NoU cs) : RatV (setN w R i vs) v p q := by
  obtain ⟨x, a, n, c, x', a', n', c', rfl, h1, h2⟩ := h
  exact RatV.mk (IntV.setN vs i w cs hv h1 hB hn) (IntV.setN vs i w cs hv h2 hB hn)
theorem rqSetG {v : Value} {r : Rat} {R : Nat} {T : TypeId} (vs : List Value) (i : Nat) (w : World) (cs : Array Value) (hv : ∀ x ∈ vs, ∀ d : Int, x ≠ .int .u32 d) (h : RQ w v r) (hB : Blk w R cs T) (hn : NoU cs) : RQ (setN w R i vs) v r := by
  obtain ⟨q, h1, h2⟩ := h
  exact ⟨q, ratSetG vs i w cs hv h1 hB hn, h2⟩
def AT (w : World) (T : TypeId) (v : Value) : Prop := ∀ p n c, v = .slice (some p) n c → ∃ cs, Blk w p.block cs T
structure Keep (ok : TypeId → Prop) (w w' : World) : Prop where
  size : w.heap.size ≤ w'.heap.size
  blk : ∀ T b cs, ok T → Blk w b cs T → Blk w' b cs T
theorem Keep.below {ok : TypeId → Prop} {w w' : World} (h : Below w.heap.size w w') : Keep ok w w' := ⟨h.size, fun _ _ _ _ hB => hB.below h⟩
theorem Keep.refl (ok : TypeId → Prop) (w : World) : Keep ok w w := ⟨Nat.le_refl _, fun _ _ _ _ h => h⟩
theorem Keep.trans {ok : TypeId → Prop} {a b c : World} (h : Keep ok a b) (k : Keep ok b c) : Keep ok a c := ⟨Nat.le_trans h.size k.size, fun T x cs ho hB => k.blk T x cs ho (h.blk T x cs ho hB)⟩
theorem Keep.weak {ok ok' : TypeId → Prop} {w w' : World} (h : Keep ok w w') (hw : ∀ T, ok' T → ok T) : Keep ok' w w' := ⟨h.size, fun T b cs ho hB => h.blk T b cs (hw T ho) hB⟩
theorem Keep.set {ok : TypeId → Prop} {w : World} {b : Nat} {cs : Array Value} {e : TypeId} (hB : Blk w b cs e) (he : ¬ ok e) (i : Nat) (u : Value) : Keep ok w (w.setCell ⟨b, i, none⟩ u) := by
  refine ⟨by simp [World.setCell], fun T c xs ho hC => ?_⟩
  refine hC.other (p := ⟨b, i, none⟩) ?_ u
  rintro rfl
  unfold Blk at hB hC
  rw [hB] at hC
  cases hC
  exact he ho
theorem Keep.grown {ok : TypeId → Prop} {w w' : World} {B e sz n : Nat} {v : Value} {xs : List Value} (hown : w.ownsRow B e sz v n xs) (he : ¬ ok e) (hg : w.grownBy w' v.ownBlock) : Keep ok w w' := by
  refine ⟨hg.size, fun T b cs ho hB => ?_⟩
  refine (hg.block b hB.lt ?_).trans hB
  intro heq
  rcases hown.2 with ⟨rfl, _⟩ | ⟨g, cap, cur, rfl, -, hgb, -⟩
  · cases heq
  · simp only [Value.ownBlock, Option.some.injEq] at heq
    subst heq
    unfold Blk at hB
    rw [hB] at hgb
    cases hgb
    exact he ho
theorem AT.keep {ok : TypeId → Prop} {w w' : World} {T : TypeId} {v : Value} (h : AT w T v) (hk : Keep ok w w') (ho : ok T) : AT w' T v := fun p n c hv => by
  obtain ⟨cs, hB⟩ := h p n c hv
  exact ⟨cs, hk.blk _ _ _ ho hB⟩
theorem Sl.keep {ok : TypeId → Prop} {w w' : World} {T : TypeId} {sz : Nat} {v : Value} {rows : List (List Value)} (h : Sl w sz v rows) (ha : AT w T v) (hk : Keep ok w w') (ho : ok T) : Sl w' sz v rows := by
  obtain ⟨a, cap, rfl, hc, hm, hh⟩ := h
  refine ⟨a, cap, rfl, hc, hm, ?_⟩
  rcases hh with h0 | ⟨b, off, rfl, hlt, hcell⟩
  · exact .inl h0
  · obtain ⟨cs, hB⟩ := ha _ _ _ rfl
    have hB' := hk.blk _ _ _ ho hB
    refine .inr ⟨b, off, rfl, hB'.lt, fun i j hi hj => ?_⟩
    rw [← hcell i j hi hj]
    exact (hB'.cell _).trans (hB.cell _).symm
theorem AT.own {w : World} {B e sz n : Nat} {v : Value} {xs : List Value} (h : w.ownsRow B e sz v n xs) : AT w e v := fun p m c hv => by
  subst hv
  rcases h.2 with ⟨hv, _⟩ | ⟨g, cap, cur, hv, -, hgb, -⟩
  · cases hv
  · cases hv
    exact ⟨cur, hgb⟩
theorem AT.nil (w : World) (T : TypeId) (n c : Nat) : AT w T (.slice none n c) := fun p m k hv => by cases hv
theorem IntV.keep {ok : TypeId → Prop} {w w' : World} {v : Value} {z : Int} (h : IntV w v z) (hk : Keep ok w w') (ho : ok 110) : IntV w' v z := by
  obtain ⟨a, c, rfl, h⟩ := h
  have ha : AT w 110 (.slice a (limbs z.natAbs).length c) := fun p n k hv => by cases hv; exact h.2 _ _ _ rfl _ rfl
  exact ⟨a, c, rfl, Sl.keep h.1 ha hk ho, fun a' n' k hv p hp => by subst hp; exact (ha.keep hk ho) p _ _ hv⟩
theorem RQ.keep {ok : TypeId → Prop} {w w' : World} {v : Value} {r : Rat} (h : RQ w v r) (hk : Keep ok w w') (ho : ok 110) : RQ w' v r := by
  obtain ⟨q, ⟨x, a, n, c, x', a', n', c', hv, h1, h2⟩, hq⟩ := h
  exact ⟨q, ⟨x, a, n, c, x', a', n', c', hv, h1.keep hk ho, h2.keep hk ho⟩, hq⟩
def QV (w : World) (v : Value) (rs : List Rat) : Prop := ∃ rows : List (List Value), rows.length = rs.length ∧ Sl w 4 v rows ∧ AT w 61 v ∧ ∀ (k : Nat) (row : List Value) (r : Rat), rows[k]? = some row → rs[k]? = some r → RQ w (.agg row.toArray) r
theorem QV.keep {ok : TypeId → Prop} {w w' : World} {v : Value} {rs : List Rat} (h : QV w v rs) (hk : Keep ok w w') (h1 : ok 110) (h2 : ok 61) : QV w' v rs := by
  obtain ⟨rows, hl, hS, ha, hq⟩ := h
  exact ⟨rows, hl, Sl.keep hS ha hk h2, ha.keep hk h2, fun k row r hr hs => (hq k row r hr hs).keep hk h1⟩
theorem QV.mono {w w' : World} {v : Value} {rs : List Rat} (h : QV w v rs) (hb : Below w.heap.size w w') : QV w' v rs := h.keep (ok := fun _ => True) (.below hb) trivial trivial
theorem QV.open {w : World} {v : Value} {rs : List Rat} (h : QV w v rs) : ∃ a cap, v = .slice a rs.length cap ∧ rs.length ≤ cap ∧ cap ≤ maxLen := by
  obtain ⟨rows, hl, hS, -⟩ := h
  rw [← hl]
  exact Sl.open hS
theorem QV.at {w wr : World} {n cap : Nat} {a : Option Addr} {rs : List Rat} (h : QV w (.slice a n cap) rs) (hb : Below w.heap.size w wr) {k : Nat} (hk : k < n) :
    ∃ b off x e m c x' e' m' c' r, a = some ⟨b, off, none⟩ ∧ rs[k]? = some r ∧ RQ wr (.agg #[.bool x, .slice e m c, .bool x', .slice e' m' c']) r ∧ wr.cell? ⟨b, off + k * 4, none⟩ = some (.bool x) ∧ wr.cell? ⟨b, off + k * 4 + 1, none⟩ = some (.slice e m c) ∧ wr.cell? ⟨b, off + k * 4 + 2, none⟩ = some (.bool x') ∧ wr.cell? ⟨b, off + k * 4 + 3, none⟩ = some (.slice e' m' c') := by
  obtain ⟨rows, hl, hS, -, hq⟩ := h
  obtain ⟨b, off, ha, hlt, row, hr, hc⟩ := Sl.row hS hb hk
  have hkl : k < rs.length := by rw [← hl]; exact lt_of_get hr
  obtain ⟨x, e, m, c, x', e', m', c', he, hR⟩ := (hq k row _ hr (List.getElem?_eq_getElem hkl)).open
  have hrow : row = [.bool x, .slice e m c, .bool x', .slice e' m' c'] := by
    have := congrArg Array.toList (Value.agg.inj he)
    simpa using this
  subst hrow
  exact ⟨b, off, x, e, m, c, x', e', m', c', _, ha, List.getElem?_eq_getElem hkl, hR.mono hb, hc 0 (by decide), hc 1 (by decide), hc 2 (by decide), hc 3 (by decide)⟩
def QAt (w : World) (cs : List Value) (i : Nat) (r : Rat) : Prop := ∃ x a n c x' a' n' c', cs[i]? = some (.bool x) ∧ cs[i + 1]? = some (.slice a n c) ∧ cs[i + 2]? = some (.bool x') ∧ cs[i + 3]? = some (.slice a' n' c') ∧ RQ w (.agg #[.bool x, .slice a n c, .bool x', .slice a' n' c']) r
def VB (w : World) (g : Nat) (rs : List Rat) : Prop := ∃ cs : List Value, Blk w g cs.toArray 61 ∧ cs.length = rs.length * 4 ∧ NoU cs.toArray ∧ ∀ k r, rs[k]? = some r → QAt w cs (k * 4) r
theorem VB.below {w w' : World} {g : Nat} {rs : List Rat} (h : VB w g rs) (hb : Below w.heap.size w w') : VB w' g rs := by
  obtain ⟨cs, hB, hl, hn, hq⟩ := h
  refine ⟨cs, hB.below hb, hl, hn, fun k r hr => ?_⟩
  obtain ⟨x, a, n, c, x', a', n', c', h0, h1, h2, h3, hR⟩ := hq k r hr
  exact ⟨x, a, n, c, x', a', n', c', h0, h1, h2, h3, hR.mono hb⟩
theorem VB.at {w : World} {g : Nat} {rs : List Rat} (h : VB w g rs) {k : Nat} {r : Rat} (hr : rs[k]? = some r) :
    ∃ x a n c x' a' n' c', RQ w (.agg #[.bool x, .slice a n c, .bool x', .slice a' n' c']) r ∧ (w.cell? ⟨g, k * 4, none⟩ = some (.bool x) ∧ w.cell? ⟨g, k * 4 + 1, none⟩ = some (.slice a n c) ∧ w.cell? ⟨g, k * 4 + 2, none⟩ = some (.bool x') ∧ w.cell? ⟨g, k * 4 + 3, none⟩ = some (.slice a' n' c')) ∧
      (w.frozen? ⟨g, k * 4, none⟩ = false ∧ w.frozen? ⟨g, k * 4 + 1, none⟩ = false ∧ w.frozen? ⟨g, k * 4 + 2, none⟩ = false ∧ w.frozen? ⟨g, k * 4 + 3, none⟩ = false) := by
  obtain ⟨cs, hB, hl, hn, hq⟩ := h
  obtain ⟨x, a, n, c, x', a', n', c', h0, h1, h2, h3, hR⟩ := hq k r hr
  exact ⟨x, a, n, c, x', a', n', c', hR, ⟨by rw [hB.cell]; simpa using h0, by rw [hB.cell]; simpa using h1, by rw [hB.cell]; simpa using h2, by rw [hB.cell]; simpa using h3⟩, hB.free _, hB.free _, hB.free _, hB.free _⟩
theorem Blk.set4 {w : World} {b i : Nat} {cs : List Value} {T : TypeId} (h : Blk w b cs.toArray T) (u0 u1 u2 u3 : Value) :
    Blk ((((w.setCell ⟨b, i, none⟩ u0).setCell ⟨b, i + 1, none⟩ u1).setCell ⟨b, i + 2, none⟩ u2).setCell ⟨b, i + 3, none⟩ u3) b ((((cs.set i u0).set (i + 1) u1).set (i + 2) u2).set (i + 3) u3).toArray T := by
  have := (((h.set i u0).set (i + 1) u1).set (i + 2) u2).set (i + 3) u3
  simpa only [List.setIfInBounds_toArray] using this
theorem get_set4 {cs : List Value} {i j : Nat} {u0 u1 u2 u3 : Value} (hj : i + 4 ≤ j ∨ j < i) : ((((cs.set i u0).set (i + 1) u1).set (i + 2) u2).set (i + 3) u3)[j]? = cs[j]? := by
  rw [List.getElem?_set_ne (by omega), List.getElem?_set_ne (by omega), List.getElem?_set_ne (by omega), List.getElem?_set_ne (by omega)]
theorem get_set4_in {cs : List Value} {i : Nat} {u0 u1 u2 u3 : Value} (hl : i + 4 ≤ cs.length) :
    ((((cs.set i u0).set (i + 1) u1).set (i + 2) u2).set (i + 3) u3)[i]? = some u0 ∧ ((((cs.set i u0).set (i + 1) u1).set (i + 2) u2).set (i + 3) u3)[i + 1]? = some u1 ∧ ((((cs.set i u0).set (i + 1) u1).set (i + 2) u2).set (i + 3) u3)[i + 2]? = some u2 ∧ ((((cs.set i u0).set (i + 1) u1).set (i + 2) u2).set (i + 3) u3)[i + 3]? = some u3 := by
  refine ⟨?_, ?_, ?_, ?_⟩
  · rw [List.getElem?_set_ne (by omega), List.getElem?_set_ne (by omega), List.getElem?_set_ne (by omega), List.getElem?_set_self (by omega)]
  · rw [List.getElem?_set_ne (by omega), List.getElem?_set_ne (by omega), List.getElem?_set_self (by rw [List.length_set]; omega)]
  · rw [List.getElem?_set_ne (by omega), List.getElem?_set_self (by simp only [List.length_set]; omega)]
  · rw [List.getElem?_set_self (by simp only [List.length_set]; omega)]
theorem noU_set {cs : List Value} {i : Nat} {v : Value} (h : NoU cs.toArray) (hv : ∀ d : Int, v ≠ .int .u32 d) : NoU (cs.set i v).toArray := by
  have := NoU.set h i hv
  simpa only [List.setIfInBounds_toArray] using this
theorem VB.set {w : World} {g : Nat} {rs : List Rat} (h : VB w g rs) {k : Nat} (hk : k < rs.length) {x x' : Bool} {a a' : Option Addr} {n c n' c' : Nat} {r : Rat} (hr : RQ w (.agg #[.bool x, .slice a n c, .bool x', .slice a' n' c']) r) :
    VB ((((w.setCell ⟨g, k * 4, none⟩ (.bool x)).setCell ⟨g, k * 4 + 1, none⟩ (.slice a n c)).setCell ⟨g, k * 4 + 2, none⟩ (.bool x')).setCell ⟨g, k * 4 + 3, none⟩ (.slice a' n' c')) g (rs.set k r) := by
  obtain ⟨cs, hB, hl, hn, hq⟩ := h
  have hst : ∀ (v : Value) (q : Rat), RQ w v q → RQ ((((w.setCell ⟨g, k * 4, none⟩ (.bool x)).setCell ⟨g, k * 4 + 1, none⟩ (.slice a n c)).setCell ⟨g, k * 4 + 2, none⟩ (.bool x')).setCell ⟨g, k * 4 + 3, none⟩ (.slice a' n' c')) v q := fun v q hv => by
    have := rqSetG [.bool x, .slice a n c, .bool x', .slice a' n' c'] (k * 4) w _ nu4 hv hB hn
    simpa only [setN, Nat.add_assoc, Nat.reduceAdd] using this
  refine ⟨_, hB.set4 (.bool x) (.slice a n c) (.bool x') (.slice a' n' c'), by simp only [List.length_set]; exact hl, noU_set (noU_set (noU_set (noU_set hn (by simp)) (by simp)) (by simp)) (by simp), fun j q hj => ?_⟩
  rw [List.getElem?_set] at hj
  have hlen : k * 4 + 4 ≤ cs.length := by rw [hl]; omega
  split at hj
  · rename_i hkj
    subst hkj
    try rw [if_pos hk] at hj
    cases hj
    obtain ⟨e0, e1, e2, e3⟩ := get_set4_in (cs := cs) (i := k * 4) (u0 := .bool x) (u1 := .slice a n c) (u2 := .bool x') (u3 := .slice a' n' c') hlen
    exact ⟨x, a, n, c, x', a', n', c', e0, e1, e2, e3, hst _ _ hr⟩
  · obtain ⟨y, e, m, d, y', e', m', d', h0, h1, h2, h3, hR⟩ := hq j q hj
    refine ⟨y, e, m, d, y', e', m', d', ?_, ?_, ?_, ?_, hst _ _ hR⟩ <;> rw [get_set4 (by omega)] <;> assumption
theorem vb_put_below {B g k : Nat} {w w1 : World} (h : Below B w w1) (hB : B ≤ g) (u0 u1 u2 u3 : Value) : Below B w ((((w1.setCell ⟨g, k * 4, none⟩ u0).setCell ⟨g, k * 4 + 1, none⟩ u1).setCell ⟨g, k * 4 + 2, none⟩ u2).setCell ⟨g, k * 4 + 3, none⟩ u3) :=
  (((h.setCell (p := ⟨g, k * 4, none⟩) hB u0).setCell (p := ⟨g, k * 4 + 1, none⟩) hB u1).setCell (p := ⟨g, k * 4 + 2, none⟩) hB u2).setCell (p := ⟨g, k * 4 + 3, none⟩) hB u3
theorem made_get (n i : Nat) (hi : i < n * 4) : (madeCells (Value.agg #[.bool false, .slice none 0 0, .bool false, .slice none 0 0]).cells (n * 4)).toList[i]? = some (#[Value.bool false, .slice none 0 0, .bool false, .slice none 0 0][i % 4]!) := by
  simp only [madeCells, Value.cells, Array.toList_map, List.getElem?_map]
  rw [Array.toList_range, List.getElem?_range hi]
  rfl
theorem mod4 (k j : Nat) (hj : j < 4) : (k * 4 + j) % 4 = j := by omega
theorem VB.made {w : World} {M g n : Nat} (h : w.ownsRow M 61 4 (.slice (some ⟨g, 0, none⟩) n n) n (madeCells (Value.agg #[.bool false, .slice none 0 0, .bool false, .slice none 0 0]).cells (n * 4)).toList) : VB w g (List.replicate n 0) ∧ M ≤ g := by
  refine ⟨⟨(madeCells (Value.agg #[.bool false, .slice none 0 0, .bool false, .slice none 0 0]).cells (n * 4)).toList, ?_, ?_, ?_, ?_⟩, (h.lt g rfl).1⟩
  · rcases h.2 with ⟨hv, -⟩ | ⟨g2, cap2, cur, hv, -, hblk, -, -, hcs, htk⟩
    · cases hv
    · cases hv
      have : cur = (madeCells (Value.agg #[.bool false, .slice none 0 0, .bool false, .slice none 0 0]).cells (n * 4)).toList.toArray := by
        apply Array.toList_inj.1
        rw [List.toList_toArray, ← htk, List.take_of_length_le (by rw [Array.length_toList, hcs]; exact Nat.le_refl _)]
      rw [← this]
      exact hblk
  · rw [Array.length_toList, size_madeCells, List.length_replicate]
  · intro v hv d
    rw [List.toList_toArray] at hv
    obtain ⟨i, hi⟩ := List.getElem?_of_mem hv
    have hlt : i < n * 4 := by
      have := (List.getElem?_eq_some_iff.1 hi).1
      rwa [Array.length_toList, size_madeCells] at this
    rw [made_get n i hlt] at hi
    cases hi
    have h4 : i % 4 < 4 := Nat.mod_lt _ (by decide)
    generalize i % 4 = j at h4
    rcases j with _ | _ | _ | _ | j
    · simp
    · simp
    · simp
    · simp
    · omega
  · intro k r hr
    rw [List.getElem?_replicate] at hr
    split at hr
    · rename_i hk
      cases hr
      refine ⟨false, none, 0, 0, false, none, 0, 0, ?_, ?_, ?_, ?_, ⟨0, RatV.zero w, rfl⟩⟩
      · rw [made_get n _ (by omega), show k * 4 % 4 = 0 by omega]; rfl
      · rw [made_get n _ (by omega), mod4 k 1 (by decide)]; rfl
      · rw [made_get n _ (by omega), mod4 k 2 (by decide)]; rfl
      · rw [made_get n _ (by omega), mod4 k 3 (by decide)]; rfl
    · cases hr
theorem VB.qv {w : World} {g n : Nat} {rs : List Rat} (h : VB w g rs) (hn : rs.length = n) (hm : n ≤ maxLen) : QV w (.slice (some ⟨g, 0, none⟩) n n) rs := by
  obtain ⟨cs, hB, hl, hnu, hq⟩ := h
  subst hn
  have hrow : ∀ k, k < rs.length → ∃ row : List Value, row.length = 4 ∧ (∀ j, j < 4 → cs[k * 4 + j]? = row[j]?) ∧ ∀ r, rs[k]? = some r → RQ w (.agg row.toArray) r := fun k hk => by
    obtain ⟨x, a, n, c, x', a', n', c', h0, h1, h2, h3, hR⟩ := hq k rs[k] (List.getElem?_eq_getElem hk)
    refine ⟨[.bool x, .slice a n c, .bool x', .slice a' n' c'], rfl, fun j hj => ?_, fun r hr => ?_⟩
    · rcases j with _ | _ | _ | _ | j
      · exact h0
      · exact h1
      · exact h2
      · exact h3
      · omega
    · rw [List.getElem?_eq_getElem hk] at hr
      cases hr
      exact hR
  obtain ⟨f, hf⟩ := Deep.choose_lt (α := List Value) (p := fun k row => row.length = 4 ∧ (∀ j, j < 4 → cs[k * 4 + j]? = row[j]?) ∧ ∀ r, rs[k]? = some r → RQ w (.agg row.toArray) r) hrow
  refine ⟨(List.range rs.length).map f, by simp, ?_, fun p m c hv => by cases hv; exact ⟨_, hB⟩, fun k row r hk hr => ?_⟩
  · refine ⟨some ⟨g, 0, none⟩, rs.length, by simp, by simp, hm, .inr ⟨g, 0, rfl, hB.lt, fun i j hi hj => ?_⟩⟩
    have hi' : i < rs.length := by simpa using hi
    obtain ⟨h1, h2, -⟩ := hf i hi'
    rw [Nat.zero_add, hB.cell]
    have h3 := h2 j hj
    rw [List.getElem?_toArray, h3]
    simp only [List.getD_eq_getElem?_getD, List.getElem?_map, List.getElem?_range hi', Option.map_some, Option.getD_some]
    rw [List.getElem?_eq_getElem (by omega)]
    rfl
  · rw [List.getElem?_map] at hk
    have hkr := lt_of_get hr
    rw [List.getElem?_range hkr] at hk
    cases hk
    exact (hf k hkr).2.2 r hr
def fillL (l : List Rat) (n k : Nat) : List Rat := l.take k ++ List.replicate (n - k) 0
theorem fill_len {l : List Rat} {n k : Nat} (hl : l.length = n) (hk : k ≤ n) : (fillL l n k).length = n := by
  unfold fillL
  rw [List.length_append, List.length_take, List.length_replicate]
  omega
theorem fill_zero (l : List Rat) (n : Nat) : fillL l n 0 = List.replicate n 0 := by unfold fillL; simp
theorem fill_all {l : List Rat} {n : Nat} (hl : l.length = n) : fillL l n n = l := by
  unfold fillL
  rw [Nat.sub_self, List.take_of_length_le (by omega)]
  simp
theorem fill_at {l : List Rat} {n k : Nat} (hl : l.length = n) (hk : k < n) : (fillL l n k)[k]? = some 0 := by
  unfold fillL
  rw [List.getElem?_append_right (by rw [List.length_take]; omega), List.length_take, show k - min k l.length = 0 by omega, show n - k = (n - k - 1) + 1 by omega, List.replicate_succ]
  rfl
theorem fill_set {l : List Rat} {n k : Nat} {x : Rat} (hl : l.length = n) (hx : l[k]? = some x) : (fillL l n k).set k x = fillL l n (k + 1) := by
  have hk : k < n := by have := lt_of_get hx; omega
  unfold fillL
  rw [List.set_append_right _ _ (by rw [List.length_take]; omega), List.length_take, show k - min k l.length = 0 by omega, show n - k = (n - (k + 1)) + 1 by omega, List.replicate_succ, List.set_cons_zero, List.take_add_one, hx]
  simp
theorem VB.keep {ok : TypeId → Prop} {w w' : World} {g : Nat} {rs : List Rat} (h : VB w g rs) (hk : Keep ok w w') (h1 : ok 110) (h2 : ok 61) : VB w' g rs := by
  obtain ⟨cs, hB, hl, hn, hq⟩ := h
  refine ⟨cs, hk.blk _ _ _ h2 hB, hl, hn, fun k r hr => ?_⟩
  obtain ⟨x, a, n, c, x', a', n', c', e0, e1, e2, e3, hR⟩ := hq k r hr
  exact ⟨x, a, n, c, x', a', n', c', e0, e1, e2, e3, hR.keep hk h1⟩
theorem VB.kept {w : World} {g : Nat} {rs : List Rat} (h : VB w g rs) (i : Nat) (u0 u1 u2 u3 : Value) : Keep (fun T => T ≠ 61) w ((((w.setCell ⟨g, i, none⟩ u0).setCell ⟨g, i + 1, none⟩ u1).setCell ⟨g, i + 2, none⟩ u2).setCell ⟨g, i + 3, none⟩ u3) := by
  obtain ⟨cs, hB, -⟩ := h
  have h1 := hB.set i u0
  have h2 := h1.set (i + 1) u1
  have h3 := h2.set (i + 2) u2
  exact (((Keep.set hB (fun k => k rfl) i u0).trans (Keep.set h1 (fun k => k rfl) (i + 1) u1)).trans (Keep.set h2 (fun k => k rfl) (i + 2) u2)).trans (Keep.set h3 (fun k => k rfl) (i + 3) u3)
theorem Blk.far4 {w : World} {b g i : Nat} {cs : Array Value} {T : TypeId} (h : Blk w b cs T) (hne : b ≠ g) (u0 u1 u2 u3 : Value) : Blk ((((w.setCell ⟨g, i, none⟩ u0).setCell ⟨g, i + 1, none⟩ u1).setCell ⟨g, i + 2, none⟩ u2).setCell ⟨g, i + 3, none⟩ u3) b cs T :=
  (((h.other (p := ⟨g, i, none⟩) hne u0).other (p := ⟨g, i + 1, none⟩) hne u1).other (p := ⟨g, i + 2, none⟩) hne u2).other (p := ⟨g, i + 3, none⟩) hne u3
theorem keep2 {w : World} {b : Nat} {cs : Array Value} {e : TypeId} (h : Blk w b cs e) (u0 u1 : Value) : Keep (fun T => T ≠ e) w ((w.setCell ⟨b, 0, none⟩ u0).setCell ⟨b, 1, none⟩ u1) :=
  (Keep.set h (fun k => k rfl) 0 u0).trans (Keep.set (h.set 0 u0) (fun k => k rfl) 1 u1)
theorem VB.far4 {w : World} {g b : Nat} {rs : List Rat} {cs : Array Value} {T : TypeId} (h : VB w g rs) (hne : g ≠ b) (u0 u1 u2 u3 : Value) (hB : Blk w b cs T) (hn : NoU cs) (hu : ∀ v ∈ [u0, u1, u2, u3], ∀ d : Int, v ≠ .int .u32 d := by simp) :
    VB ((((w.setCell ⟨b, 0, none⟩ u0).setCell ⟨b, 1, none⟩ u1).setCell ⟨b, 2, none⟩ u2).setCell ⟨b, 3, none⟩ u3) g rs := by
  obtain ⟨xs, hX, hl, hnx, hq⟩ := h
  refine ⟨xs, (((hX.other (p := ⟨b, 0, none⟩) hne u0).other (p := ⟨b, 1, none⟩) hne u1).other (p := ⟨b, 2, none⟩) hne u2).other (p := ⟨b, 3, none⟩) hne u3, hl, hnx, fun k r hr => ?_⟩
  obtain ⟨x, a, n, c, x', a', n', c', e0, e1, e2, e3, hR⟩ := hq k r hr
  have := rqSetG [u0, u1, u2, u3] 0 w cs hu hR hB hn
  simp only [setN, Nat.zero_add, Nat.reduceAdd] at this
  exact ⟨x, a, n, c, x', a', n', c', e0, e1, e2, e3, this⟩
def swapL (new old : List Rat) (k : Nat) : List Rat := new.take k ++ old.drop k
theorem swap_zero (new old : List Rat) : swapL new old 0 = old := by unfold swapL; simp
theorem swap_all {new old : List Rat} {n : Nat} (h : new.length = n) (h' : old.length = n) : swapL new old n = new := by
  unfold swapL
  rw [List.take_of_length_le (by omega), List.drop_of_length_le (by omega), List.append_nil]
theorem swap_len {new old : List Rat} {n k : Nat} (h : new.length = n) (h' : old.length = n) (hk : k ≤ n) : (swapL new old k).length = n := by
  unfold swapL
  rw [List.length_append, List.length_take, List.length_drop]
  omega
theorem swap_at {new old : List Rat} {n k : Nat} {x : Rat} (h : new.length = n) (hk : k < n) (hx : old[k]? = some x) : (swapL new old k)[k]? = some x := by
  unfold swapL
  rw [List.getElem?_append_right (by rw [List.length_take]; omega), List.length_take, show k - min k new.length = 0 by omega, List.getElem?_drop]
  exact hx
theorem swap_set {new old : List Rat} {n k : Nat} {x : Rat} (h : new.length = n) (h' : old.length = n) (hx : new[k]? = some x) : (swapL new old k).set k x = swapL new old (k + 1) := by
  have hk : k < n := by have := lt_of_get hx; omega
  unfold swapL
  rw [List.set_append_right _ _ (by rw [List.length_take]; omega), List.length_take, show k - min k new.length = 0 by omega, List.drop_eq_getElem_cons (by omega), List.set_cons_zero, List.take_add_one, hx]
  simp
theorem bwA {w W : World} (h : Below w.heap.size w W) (o : Obj) : Below w.heap.size w (W.alloc o) := h.alloc h.size o
end Go.Proofs.YtlcmhbkmpkcajaaGreatDoor
namespace Go.Proofs.YtlcmhbkmpkcajaaGreatDoor
open Go.RowKit
def Vs (w : World) (v : Value) (vs : List (List Rat)) : Prop := ∃ ps : List Value, ps.length = vs.length ∧ Sl w 1 v (ps.map c1) ∧ AT w 46 v ∧ ∀ (k : Nat) (p : Value) (a : List Rat), ps[k]? = some p → vs[k]? = some a → QV w p a
theorem Vs.keep {ok : TypeId → Prop} {w w' : World} {v : Value} {vs : List (List Rat)} (h : Vs w v vs) (hk : Keep ok w w') (h1 : ok 110) (h2 : ok 61) (h3 : ok 46) : Vs w' v vs := by
  obtain ⟨ps, hl, hS, ha, hq⟩ := h
  exact ⟨ps, hl, Sl.keep hS ha hk h3, ha.keep hk h3, fun k p a hp hv => (hq k p a hp hv).keep hk h1 h2⟩
theorem Vs.mono {w w' : World} {v : Value} {vs : List (List Rat)} (h : Vs w v vs) (hb : Below w.heap.size w w') : Vs w' v vs := h.keep (ok := fun _ => True) (.below hb) trivial trivial trivial
theorem Vs.nil (w : World) : Vs w (.slice none 0 0) [] := ⟨[], rfl, Sl.nil w 1, AT.nil w _ _ _, fun k p a hp => by simp at hp⟩
theorem Vs.open {w : World} {v : Value} {vs : List (List Rat)} (h : Vs w v vs) : ∃ a cap, v = .slice a vs.length cap ∧ vs.length ≤ cap ∧ cap ≤ maxLen := by
  obtain ⟨ps, hl, hS, -⟩ := h
  rw [← hl]
  have := Sl.open hS
  rwa [List.length_map] at this
theorem Vs.at {w wr : World} {n cap : Nat} {a : Option Addr} {vs : List (List Rat)} (h : Vs w (.slice a n cap) vs) (hb : Below w.heap.size w wr) {k : Nat} (hk : k < n) :
    ∃ b off p x, a = some ⟨b, off, none⟩ ∧ vs[k]? = some x ∧ wr.cell? ⟨b, off + k, none⟩ = some p ∧ QV wr p x := by
  obtain ⟨ps, hl, hS, -, hq⟩ := h
  obtain ⟨b, off, p, ha, hp, h0⟩ := Sl.at1 hS hb hk
  have hkl : k < vs.length := by rw [← hl]; exact lt_of_get hp
  exact ⟨b, off, p, _, ha, List.getElem?_eq_getElem hkl, h0, (hq k p _ hp (List.getElem?_eq_getElem hkl)).mono hb⟩
def OV (M : Nat) (w : World) (v : Value) (vs : List (List Rat)) : Prop := ∃ ps : List Value, ps.length = vs.length ∧ w.ownsRow M 46 1 v vs.length ps ∧ ∀ (k : Nat) (p : Value) (a : List Rat), ps[k]? = some p → vs[k]? = some a → QV w p a
theorem OV.vs {M : Nat} {w : World} {v : Value} {vs : List (List Rat)} (h : OV M w v vs) : Vs w v vs := by
  obtain ⟨ps, hl, ho, hq⟩ := h
  exact ⟨ps, hl, Sl.own1 ho, AT.own ho, hq⟩
theorem OV.nil (M : Nat) (w : World) : OV M w (.slice none 0 0) [] := ⟨[], rfl, World.ownsRow_nil _ _ _ _, fun k p a hp => by simp at hp⟩
theorem OV.below {M : Nat} {w w' : World} {v : Value} {vs : List (List Rat)} (h : OV M w v vs) (hb : Below w.heap.size w w') : OV M w' v vs := by
  obtain ⟨ps, hl, ho, hq⟩ := h
  exact ⟨ps, hl, own_below ho hb, fun k p a hp hv => (hq k p a hp hv).mono hb⟩
end Go.Proofs.YtlcmhbkmpkcajaaGreatDoor
namespace Go.Proofs.YtlcmhbkmpkcajaaGreatDoor
open Go.RowKit
def setQ (w : World) (b : Nat) : Nat → List Value → World
  | _, [] => w
  | i, v :: r => setQ (w.setCell ⟨b, i, none⟩ v) b (i + 1) r
theorem or_bit64 {t n : Nat} (ht : t < 18446744073709551616) (hn : n < 64) : t ||| 2 ^ n < 18446744073709551616 := by
  have h2 : (2 : Nat) ^ n < 2 ^ 64 := Nat.pow_lt_pow_right (by omega) hn
  have := Nat.or_lt_two_pow (n := 64) ht (by omega)
  omega
theorem and63 {n : Nat} (hn : n < 64) : bits .and .i64 (n : Int) 63 = (n : Int) := by
  have e : bits .and .i64 (n : Int) 63 = IntKind.i64.wrap ((BitVec.ofInt 64 (n : Int) &&& BitVec.ofInt 64 63).toNat : Nat) := rfl
  have e2 : bits .and .u64 (n : Int) 63 = IntKind.u64.wrap ((BitVec.ofInt 64 (n : Int) &&& BitVec.ofInt 64 63).toNat : Nat) := rfl
  have h := u64_and (n : Int) 63 (by omega) (by omega) (by omega) (by omega)
  rw [e2] at h
  have hb2 : (BitVec.ofInt 64 (n : Int) &&& BitVec.ofInt 64 63).toNat < 18446744073709551616 := (BitVec.ofInt 64 (n : Int) &&& BitVec.ofInt 64 63).isLt
  rw [IntWalk.u64_in _ (by omega)] at h
  have hm : n &&& 63 = n := by
    have := Nat.and_two_pow_sub_one_eq_mod n 6
    rw [show (2 : Nat) ^ 6 - 1 = 63 from rfl] at this
    rw [this]
    omega
  rw [e, h]
  simp only [Int.toNat_natCast]
  rw [show (63 : Int).toNat = 63 from rfl, hm]
  exact IntWalk.i64_in _ (by omega)
theorem shl_bit {n : Nat} (hn : n < 64) : IntKind.u64.wrap ((2 : Int) ^ n) = (2 : Int) ^ n := by
  have h2 : (2 : Nat) ^ n < 2 ^ 64 := Nat.pow_lt_pow_right (by omega) hn
  have e : ((2 : Int) ^ n) = ((2 ^ n : Nat) : Int) := (Int.natCast_pow 2 n).symm
  rw [e]
  generalize (2 : Nat) ^ n = p at h2
  have h3 : (2 : Nat) ^ 64 = 18446744073709551616 := rfl
  exact IntWalk.u64_in _ (by omega)
set_option maxHeartbeats 2000000 in
theorem tset_g (b o t n : Nat) (w : World) (hc : w.cell? ⟨b, o, none⟩ = some (.int .u64 (t : Int))) (hf : w.frozen? ⟨b, o, none⟩ = false) (ht : t < 18446744073709551616) (hn : n < 64) :
    Calls Tryz.prog 43 #[.pointer (some ⟨b, o, none⟩), .int .i64 (n : Int)] w (fun e w' => e = .returned (.tuple #[]) ∧ ∃ w1, Below w.heap.size w w1 ∧ w' = w1.setCell ⟨b, o, none⟩ (.int .u64 ((t ||| 2 ^ n : Nat) : Int))) := by
  have hor : bits .or .u64 (t : Int) ((2 : Int) ^ n) = ((t ||| 2 ^ n : Nat) : Int) := by
    have h := u64_or_nat t (2 ^ n) ht (by have h2 : (2 : Nat) ^ n < 2 ^ 64 := Nat.pow_lt_pow_right (by omega) hn; omega)
    rw [Int.natCast_pow] at h
    exact h
  have hsh := shl_bit hn
  have h64 : (n : Int) / 64 = 0 := by omega
  have h63 : bits .and .i64 (n : Int) 63 = (n : Int) := and63 hn
  go_enter Tryz.func43, Tryz.ntmps43
  refine wp_region_pop (S := (fun w' => w'.cell? ⟨b, o, none⟩ = some (.int .u64 (t : Int)))) 12 (by kernel_rfl) (by kernel_rfl) (by exact hc) (fun hHeld => ?_)
  simp only [List.take_succ_cons, List.take_zero, List.drop_succ_cons, List.drop_zero]
  refine' tk 0 ?_; (try simp only [tkS]); refine' tk 1 ?_; (try simp only [tkS]); refine' tk 2 ?_; (try simp only [tkS]); refine' tk 3 ?_; (try simp only [tkS]); refine' tk 4 ?_; (try simp only [tkS]); refine' tk 5 ?_; (try simp only [tkS]); refine' tk 6 ?_; (try simp only [tkS]); refine' tk 7 ?_; (try simp only [tkS]); refine' tk 8 ?_; (try simp only [tkS]); refine' tk 9 ?_; (try simp only [tkS]); refine' tk 10 ?_; (try simp only [tkS]); refine' tk 11 ?_; (try simp only [tkS])
  refine tkD ?_ _
  simp only [Exit.then]
  try rw [hor]
  go_wp2_with fail
  go_end0
  exact ⟨rfl, w.drew, (Below.refl _ _).drew, rfl⟩
theorem and_u64 (a b : Nat) (ha : a < 18446744073709551616) (hb : b < 18446744073709551616) : bits .and .u64 (a : Int) (b : Int) = ((a &&& b : Nat) : Int) := by
  have h := u64_and (a : Int) (b : Int) (by omega) (by omega) (by omega) (by omega)
  rw [h]
  simp only [Int.toNat_natCast]
def tC (t : Nat) : Array Value := #[.int .u64 (t : Int), .int .u64 0, .int .u64 0, .int .u64 0, .int .u64 0, .int .u64 0, .int .u64 0, .int .u64 0, .int .u64 0, .int .u64 0, .int .u64 0, .int .u64 0, .int .u64 0, .int .u64 0, .int .u64 0, .int .u64 0]
end Go.Proofs.YtlcmhbkmpkcajaaGreatDoor
