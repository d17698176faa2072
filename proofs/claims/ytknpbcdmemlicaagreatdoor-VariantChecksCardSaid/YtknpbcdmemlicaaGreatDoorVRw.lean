/-
  From a contract to a row: the arguments as lists; the row's last step.
-/
import Derived.Test.YtknpbcdmemlicaaGreatDoorVDec
import Derived.Test.YtknpbcdmemlicaaGreatDoorVFs
import Derived.ProofKit
import Derived.Lib.SmallJoins
import Derived.Deep.Matrix
import Derived.Deep.SlicePairs
namespace Go.Proofs.YtknpbcdmemlicaaGreatDoor
open Go.ChangeShapes Go.WideShapes Go.ChangeAt Go.RowKit

theorem try_own : ownKnob Tryz.prog.godebug = none := by kernel_rfl
theorem try_laidOut : laidOutB Tryz.prog = true := by kernel_rfl

section
variable {H : Type} {enc : TypeId × Value → H} {P : Program}
theorem post_of_below {f : Func} {s : ChangeSpec} {apart fresh handsOn again : Bool} {W W' : World} {args : Array Value} {v : Value} {ds gs : List (DataW H)} {before pa pv : List MemPlace}
    (hW : DataW.Whole enc P f.params.toList s.vars apart W args.toList ds gs before)
    (hres : ∀ (b : Nat) (sp : Nat → Bool) (hd : Bool), DataW.TrodAll enc P W' b sp hd f.resultTypes.toList (v.resultList f.resultTypes.size) (s.fn H (ds ++ gs)).results [])
    (hargs : ∀ sp : Nat → Bool, (∀ p ∈ before, sp p.block = true) → DataW.TrodAll enc P W' 0 sp true f.params.toList args.toList (s.fn H (ds ++ gs)).args pa)
    (hvars : ∀ sp : Nat → Bool, (∀ p ∈ before, sp p.block = true) → DataW.TrodVars enc P W' sp s.vars (s.fn H (ds ++ gs)).vars pv)
    (hps : before = pa ++ pv) (hb : Below W.heap.size W W')
    (hok : ∀ (j : Nat) (t : TypeId) (r : Value), f.resultTypes[j]? = some t → (v.resultList f.resultTypes.size)[j]? = some r → Value.okWide P W' .any 0 t r) :
    s.post enc P f apart fresh handsOn again W args v W' := by
  have hlt : ∀ p ∈ before, p.block < W.heap.size := fun p hp => hW.lt p hp
  have hold : ∀ p ∈ before, (fun b => decide (b < W.heap.size)) p.block = true := fun p hp => by simpa using hlt p hp
  refine ⟨ds, gs, before, [], pa, pv, hW, hres _ _ _, hargs _ hold, hvars _ hold, World.keptBut_mono (fun p hp => ⟨hp, ?_⟩) (hb.frame (· ∈ before)), fun _ => ?_⟩
  · rw [hps, List.mem_append] at hp
    exact Or.inr hp
  · obtain ⟨_, _, _, _, _, hz, hn⟩ := hW
    refine ⟨hok, _, _, ([] ++ pa) ++ pv, ⟨[] ++ pa, pv, trodAll_append (hargs _ (fun _ _ => rfl)) (hres _ _ _), hvars _ (fun _ _ => rfl), rfl, ?_, ?_⟩, ?_⟩
    · intro b off hp
      have hin : MemPlace.cell b off ∈ before := by rw [hps]; simpa using hp
      rw [hb.frozen (hlt _ hin)]
      exact hz b off hin
    · intro ha
      have := hn ha
      rw [hps] at this
      simpa using this
    · intro p hp _
      rw [hps]
      simpa using hp
end

section
variable {H : Type} {enc : TypeId × Value → H} {w : World} {base : Nat} {held : Bool}

theorem spot_none {a : Addr} {v : Value} (h : w.cell? a = some v) : a = ⟨a.block, a.off, none⟩ ∧ a.block < w.heap.size := by
  refine ⟨?_, World.block_lt_of_cell? w a h⟩
  obtain ⟨b, o, s⟩ := a
  cases s with
  | none => rfl
  | some n =>
    exfalso
    unfold World.cell? at h
    split at h <;> simp at h

/-- A slice that came in, by its cells. -/
theorem sl_of {a : Addr} {len cap sz : Nat} {rows : List (List Value)} (hsz : 0 < sz) (hr : rows.length = len) (hl : len ≤ cap) (hm : cap ≤ maxLen) (h : ∀ i j, i < cap → j < sz → ∃ v, w.cell? (a.add (i * sz + j)) = some v ∧ (i < len → v = (rows.getD i []).getD j undef)) : Sl w sz (.slice (some a) len cap) rows := by
  subst hr
  refine ⟨some a, cap, rfl, hl, hm, ?_⟩
  rcases Nat.eq_zero_or_pos cap with h0 | h0
  · exact .inl h0
  · obtain ⟨v0, hv0, _⟩ := h 0 0 h0 hsz
    rw [Nat.zero_mul, Nat.zero_add, show a.add 0 = a by simp [Addr.add]] at hv0
    obtain ⟨ha, hb⟩ := spot_none hv0
    obtain ⟨b, o, s⟩ := a
    simp only [Addr.mk.injEq, true_and] at ha
    subst ha
    refine .inr ⟨b, o, rfl, hb, fun i j hi hj => ?_⟩
    obtain ⟨v, hv, he⟩ := h i j (by omega) hj
    rw [← he hi, ← hv]
    congr 1
    unfold Addr.add
    split
    · rename_i h0
      rw [Nat.add_assoc, h0, Nat.add_zero]
    · rw [Nat.add_assoc]

set_option maxRecDepth 100000 in
theorem lits_of_trod {v : Value} {r : Reach} {b0 : Nat} {d : DataW H} {p : List MemPlace} (hv : Value.okWide Tryz.prog w r b0 38 v) (h : DataW.Trod enc Tryz.prog w base (fun _ => true) held 38 v d p) :
    ∃ (a : Option Addr) (c : Nat) (ls : List Lit1), v = .slice a ls.length c ∧ Lits w (.slice a ls.length c) ls := by
  obtain ⟨a, len, cap, rfl⟩ := okWide_slice Tryz.underlying38 hv
  obtain ⟨fuel, hf⟩ := h
  rcases Deep.open_slice_pairs Tryz.underlying38 Tryz.underlying73 (by kernel_rfl) (by kernel_rfl) (by kernel_rfl) (by kernel_rfl) (by kernel_rfl) hf with ⟨hc, _⟩ | ⟨a, len, cap, m, n, V0, V1, D0, D1, P0, P1, hc, hb, hl, hm, hmm, _, hx⟩
  · simp [Value.cells] at hc
    obtain ⟨rfl, rfl, rfl⟩ := hc
    exact ⟨none, 0, [], rfl, Sl.nil w 2⟩
  · simp [Value.cells] at hc
    obtain ⟨rfl, rfl, rfl⟩ := hc
    simp only [if_true] at hmm
    have hmm' := hmm.symm
    subst hmm'
    obtain ⟨N, hN⟩ := Deep.choose_lt (α := Int × Bool) (p := fun i y => w.cell? (a.add (i * 2)) = some (.int .i64 y.1) ∧ w.cell? (a.add (i * 2 + 1)) = some (.bool y.2)) (fun i hi => by
      obtain ⟨c0, c1, t0, t1⟩ := hx i hi
      obtain ⟨n0, e0, -⟩ := DataW.trod_int Tryz.underlying3 t0
      obtain ⟨b0, e1, -⟩ := DataW.trod_bool Tryz.underlying4 t1
      simp only [List.cons.injEq, and_true] at e0 e1
      exact ⟨(n0, b0), by rw [c0, e0], by rw [c1, e1]⟩)
    have hlen : ((List.range len).map N).length = len := by simp
    refine ⟨some a, cap, (List.range len).map N, by rw [hlen], ?_⟩
    rw [hlen]
    refine sl_of (by omega) (by simp) hl hm fun i j hi hj => ?_
    obtain ⟨h0, h1⟩ := hN i hi
    rcases j with _ | _ | j
    · exact ⟨_, h0, fun hil => by simp [hil, c2, litV]⟩
    · exact ⟨_, h1, fun hil => by simp [hil, c2, litV]⟩
    · omega

set_option maxRecDepth 100000 in
theorem m8_of_trod {v : Value} {fuel : Nat} {x : DataW H × List MemPlace} (h : DataW.trod enc Tryz.prog w base (fun _ => true) held fuel 68 [v] = some x) :
    ∃ (a : Option Addr) (c : Nat) (R : List (List Int)), v = .slice a R.length c ∧ M8 w (.slice a R.length c) R ∧ ∀ r ∈ R, ∀ y ∈ r, -128 ≤ y ∧ y ≤ 127 := by
  rcases Deep.open_int_rows Tryz.underlying68 Tryz.underlying67 Tryz.underlying66 (by kernel_rfl) (by kernel_rfl) h with ⟨hc, _⟩ | ⟨a, len, cap, A, L, C, Z, hc, hb, hl, hm, _, hx⟩
  · simp only [List.cons.injEq, and_true] at hc
    subst hc
    exact ⟨none, 0, [], rfl, ⟨[], Sl.nil w 1, rfl, fun k y r hy => by simp at hy⟩, fun r hr => by simp at hr⟩
  · simp only [List.cons.injEq, and_true] at hc
    subst hc
    have hlen : ((List.range len).map fun r => (Z r).take (L r)).length = len := by simp
    refine ⟨some a, cap, (List.range len).map fun r => (Z r).take (L r), by rw [hlen], ?_, ?_⟩
    · rw [hlen]
      refine ⟨(List.range len).map fun r => .slice (A r) (L r) (C r), ?_, by simp, fun k y r hy hr => ?_⟩
      · refine sl_of (by omega) (by simp) hl hm fun i j hi hj => ?_
        obtain rfl : j = 0 := by omega
        rw [Nat.mul_one, Nat.add_zero]
        exact ⟨_, (hx i hi).1, fun hil => by simp [hil, c1]⟩
      · have hk : k < len := by
          rcases Nat.lt_or_ge k len with h' | h'
          · exact h'
          · rw [List.getElem?_eq_none (by simpa using h')] at hy; cases hy
        simp only [List.getElem?_map, List.getElem?_range hk, Option.map_some, Option.some.injEq] at hy hr
        subst hy hr
        obtain ⟨q1, q2, q3, q4, q5, q6, q7⟩ := hx k (by omega)
        have hzl : ((Z k).take (L k)).length = L k := by rw [List.length_take]; omega
        cases hA : A k with
        | none =>
          have h0 := q6 hA
          have hL0 : L k = 0 := by omega
          show Sl w 1 _ _
          refine ⟨none, C k, ?_, by simp; omega, q3, .inl h0⟩
          simp [hL0]
        | some a' =>
          obtain ⟨q8, q9⟩ := q7 a' hA
          show Sl w 1 _ _
          refine sl_of (by omega) (by simp; omega) q2 q3 fun i j hi hj => ?_
          obtain rfl : j = 0 := by omega
          rw [Nat.mul_one, Nat.add_zero]
          refine ⟨_, q9 i hi, fun hil => ?_⟩
          have : i < (Z k).length := by omega
          simp [hil, c1, this]
    · intro r hr y hy
      obtain ⟨k, hk, rfl⟩ := List.mem_map.1 hr
      have hk : k < len := List.mem_range.1 hk
      have := (hx k (by omega)).2.2.2.2.1 y (List.mem_of_mem_take hy)
      simp only [Lit.wf, Bool.and_eq_true, decide_eq_true_eq] at this
      have m1 : IntKind.i8.min = -128 := rfl
      have m2 : IntKind.i8.max = 127 := rfl
      omega

set_option maxRecDepth 100000 in
theorem kin_of_trod {v : Value} {r : Reach} {b0 : Nat} {d : DataW H} {p : List MemPlace} (hv : Value.okWide Tryz.prog w r b0 70 v) (h : DataW.Trod enc Tryz.prog w base (fun _ => true) held 70 v d p) :
    ∃ (N : Int) (a2 a3 a4 : Option Addr) (c2 c3 c4 : Nat) (R D O : List (List Int)), v = .agg #[.int .u8 N, .slice a2 R.length c2, .slice a3 D.length c3, .slice a4 O.length c4] ∧ 0 ≤ N ∧ N < 256 ∧
      M8 w (.slice a2 R.length c2) R ∧ M8 w (.slice a3 D.length c3) D ∧ M8 w (.slice a4 O.length c4) O ∧ (∀ r ∈ R, ∀ y ∈ r, -128 ≤ y ∧ y ≤ 127) ∧ (∀ r ∈ D, ∀ y ∈ r, -128 ≤ y ∧ y ≤ 127) ∧ (∀ r ∈ O, ∀ y ∈ r, -128 ≤ y ∧ y ≤ 127) := by
  obtain ⟨v0, v1, v2, v3, y0, y1, y2, y3, n, rfl, _, _, t0, t1, t2, t3⟩ := Joins.open_agg4 Tryz.underlying70 (by kernel_rfl) (by kernel_rfl) hv h
  obtain ⟨N, e0, -, hw⟩ := DataW.trod_int Tryz.underlying5 t0
  simp only [List.cons.injEq, and_true] at e0
  subst e0
  obtain ⟨a2, c2, R, rfl, hR, hRr⟩ := m8_of_trod t1
  obtain ⟨a3, c3, D, rfl, hD, hDr⟩ := m8_of_trod t2
  obtain ⟨a4, c4, O, rfl, hO, hOr⟩ := m8_of_trod t3
  simp only [Lit.wf, Bool.and_eq_true, decide_eq_true_eq] at hw
  have m1 : IntKind.u8.min = 0 := rfl
  have m2 : IntKind.u8.max = 255 := rfl
  exact ⟨N, a2, a3, a4, c2, c3, c4, R, D, O, rfl, by omega, by omega, hR, hD, hO, hRr, hDr, hOr⟩
end

end Go.Proofs.YtknpbcdmemlicaaGreatDoor
