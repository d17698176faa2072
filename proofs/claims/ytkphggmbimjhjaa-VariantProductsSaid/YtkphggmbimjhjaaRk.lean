/-
  Redundant: the plain laws.
-/
import Derived.Test.YtkphggmbimjhjaaRd2
import Derived.Test.YtkphggmbimjhjaaCq
import Derived.Test.YtkphggmbimjhjaaClone
import Derived.Deep.Upon
namespace Go.Proofs.Ytkphggmbimjhjaa
open Go.RowKit

theorem cOk_nil (rs : List Rule1) (c : Int) : cOk [] rs c = rs.all fun r => cSat c r.2 := by
  unfold cOk
  rw [cBroken_all]
  rfl
theorem visL_snoc (n : Nat) (A : List Rule1) (r : Rule1) : visL n [] (A ++ [r]) = (visL n [] A).filter fun c => cSat c r.2 := by
  unfold visL
  rw [List.filter_filter]
  congr 1
  funext c
  simp [cOk_nil, List.all_append, Bool.and_comm]
theorem okNums_snoc (n : Nat) (A : List Rule1) (r : Rule1) : okNums n [] (A ++ [r]) = (okNums n [] A).filter fun i => cSat (cfgN n i) r.2 := by
  unfold okNums
  rw [List.filter_filter]
  congr 1
  funext c
  simp [cOk_nil, List.all_append, Bool.and_comm]

/-- Rule k follows from those before it. -/
def redB (n : Nat) (rs : List Rule1) (k : Nat) : Bool := match rs[k]? with | none => false | some r => (visL n [] (rs.take k)).all fun c => cSat c r.2
theorem redTo_step {n : Nat} {rs : List Rule1} {k : Nat} (h : k < rs.length) : redTo n rs (k + 1) = redTo n rs k ++ (if redB n rs k then [(k : Int)] else []) := by
  have hr : rs[k]? = some rs[k] := by simp
  rw [redTo_succ hr, redB, hr]

theorem vis_le (n : Nat) (rs : List Rule1) {k : Nat} (h : k < rs.length) : (visL n [] (rs.take (k + 1))).length ≤ (visL n [] (rs.take k)).length ∧ ((visL n [] (rs.take (k + 1))).length = (visL n [] (rs.take k)).length ↔ redB n rs k = true) := by
  have hr : rs[k]? = some rs[k] := by simp
  rw [List.take_add_one, hr, Option.toList_some, visL_snoc, redB, hr]
  exact ⟨List.length_filter_le _ _, by rw [List.length_filter_eq_length_iff, List.all_eq_true]⟩

/-- The elements, of the first k, whose places p keeps. -/
def keepTo {α : Type} (p : Nat → Bool) (xs : List α) : Nat → List α
  | 0 => []
  | k + 1 => keepTo p xs k ++ (if p k then (xs[k]?).toList else [])
theorem keepTo_len {α : Type} (p : Nat → Bool) (xs : List α) : ∀ k, (keepTo p xs k).length ≤ k
  | 0 => by simp [keepTo]
  | k + 1 => by
    have := keepTo_len p xs k
    rw [keepTo, List.length_append]
    split
    · cases xs[k]? <;> simp <;> omega
    · simp; omega
theorem keepTo_sub {α : Type} (p : Nat → Bool) (xs : List α) : ∀ k, (keepTo p xs k).Sublist (xs.take k)
  | 0 => by simp [keepTo]
  | k + 1 => by
    rw [keepTo, List.take_add_one]
    refine (keepTo_sub p xs k).append ?_
    split
    · exact List.Sublist.refl _
    · exact List.nil_sublist _
theorem keepTo_row {W : World} {RV : List (Value × Value)} {K : List Rule1} (h : RulesRow W RV K) (p : Nat → Bool) : ∀ k, RulesRow W (keepTo p RV k) (keepTo p K k)
  | 0 => ⟨rfl, fun k x r hx => by simp [keepTo] at hx⟩
  | k + 1 => by
    have ih := keepTo_row h p k
    have hl := h.1
    rw [keepTo, keepTo]
    split
    · rcases Nat.lt_or_ge k RV.length with hlt | hge
      · have hx : RV[k]? = some RV[k] := by simp
        have hr : K[k]? = some (K[k]'(by omega)) := by simp
        have := h.2 k _ _ hx hr
        rw [hx, hr]
        exact ih.snoc this.1 this.2
      · rw [List.getElem?_eq_none hge, List.getElem?_eq_none (by omega)]
        simpa using ih
    · simpa using ih
theorem take_row {W : World} {RV : List (Value × Value)} {K : List Rule1} (h : RulesRow W RV K) (k : Nat) : RulesRow W (RV.take k) (K.take k) := by
  have hl := h.1
  refine ⟨by simp [hl], fun i x r hx hr => ?_⟩
  rw [List.getElem?_take] at hx hr
  split at hx
  · rename_i hi
    rw [if_pos hi] at hr
    exact h.2 i x r hx hr
  · cases hx

/-- Without the rules that follow, the same configurations are allowed. -/
theorem less_same (n : Nat) (rs : List Rule1) : ∀ k, k ≤ rs.length → okNums n [] (keepTo (fun i => !redB n rs i) rs k) = okNums n [] (rs.take k)
  | 0, _ => by simp [keepTo]
  | k + 1, hk => by
    have ih := less_same n rs k (by omega)
    have hr : rs[k]? = some rs[k] := by simp
    rw [keepTo, List.take_add_one, hr, Option.toList_some, okNums_snoc, ← ih]
    cases hb : redB n rs k
    · simp only [Bool.not_false, if_true]
      rw [okNums_snoc]
    · simp only [Bool.not_true, Bool.false_eq_true, if_false, List.append_nil]
      rw [redB, hr] at hb
      simp only at hb
      rw [visL_nums, List.all_map, List.all_eq_true] at hb
      rw [ih]
      exact (List.filter_eq_self.2 fun i hi => hb i hi).symm

theorem redTo_tail (n : Nat) (rs : List Rule1) (j : Nat) : ∀ d, ∃ T, redTo n rs (j + d) = redTo n rs j ++ T ∧ ∀ y ∈ T, (j : Int) ≤ y
  | 0 => ⟨[], by simp, by simp⟩
  | d + 1 => by
    obtain ⟨T, h1, h2⟩ := redTo_tail n rs j d
    refine ⟨T ++ (match rs[j + d]? with | none => [] | some r => if (visL n [] (rs.take (j + d))).all (fun c => cSat c r.2) then [((j + d : Nat) : Int)] else []), ?_, ?_⟩
    · rw [← Nat.add_assoc, redTo, h1, List.append_assoc]
      cases rs[j + d]? <;> rfl
    · intro y hy
      rw [List.mem_append] at hy
      rcases hy with hy | hy
      · exact h2 y hy
      · split at hy
        · simp at hy
        · split at hy
          · simp at hy; omega
          · simp at hy

/-- What lies at the place that is reached: rule j's number exactly if it follows. -/
theorem redTo_at {n : Nat} {rs : List Rule1} {j : Nat} (hj : j < rs.length) :
    (redB n rs j = true → (redTo n rs rs.length)[(redTo n rs j).length]? = some (j : Int)) ∧
    (redB n rs j = false → ∀ y, (redTo n rs rs.length)[(redTo n rs j).length]? = some y → (j : Int) < y) := by
  obtain ⟨T, h1, h2⟩ := redTo_tail n rs (j + 1) (rs.length - (j + 1))
  rw [show j + 1 + (rs.length - (j + 1)) = rs.length by omega, redTo_step hj] at h1
  constructor
  · intro hb
    rw [h1, hb, if_pos rfl, List.append_assoc, List.getElem?_append_right (Nat.le_refl _)]
    simp
  · intro hb y hy
    rw [h1, hb, if_neg (by simp), List.append_nil, List.getElem?_append_right (Nat.le_refl _), Nat.sub_self] at hy
    have := h2 y (List.mem_of_getElem? hy)
    omega

theorem Sl.setCell {w : World} {sz : Nat} {v : Value} {rows : List (List Value)} (h : Sl w sz v rows) {p : Addr} (hp : ∀ b, v.ownBlock = some b → b ≠ p.block) (u : Value) : Sl (w.setCell p u) sz v rows := by
  obtain ⟨a, cap, rfl, hc, hm, h⟩ := h
  refine ⟨a, cap, rfl, hc, hm, ?_⟩
  rcases h with h | ⟨b, off, rfl, hlt, hcell⟩
  · exact .inl h
  · have hb := hp b rfl
    refine .inr ⟨b, off, rfl, by simpa using hlt, fun i j hi hj => ?_⟩
    rw [World.cell?_of_block (w := w) (a := ⟨b, _, none⟩) (Below.heap_setCell _ _ _ _ hb)]
    exact hcell i j hi hj

/-- All rows of a slice are appended to an empty one that the call owns. -/
theorem stepRows {ops : Array Oper} {o : Oper} {a : Act} {K : Act → World → Prop} {Q : Exit → Act → World → Prop} {E' : Prop} {W : World} (hgd : o.guard = none) (s x : Operand) (ho : o.op = .call { callee := .builtin .append, args := #[s, x], argTypes := #[37, 37] })
    (B g0 n c : Nat) (A : Option Addr) (rows : List (List Value)) (hs : a.eval s = .slice (some ⟨g0, 0, none⟩) 0 0) (hx : a.eval x = .slice A n c) (hown : W.ownsRow B 70 2 (.slice (some ⟨g0, 0, none⟩) 0 0) 0 []) (hS : Sl W 2 (.slice A n c) rows)
    (hl : ∀ r ∈ rows, r.length = 2) (h1 : ∀ r ∈ rows, ∀ u ∈ r, u.oneCell' = true) (hn : n < 1000) (hB : B ≤ W.heap.size) (hg0 : g0 < W.heap.size)
    (h : ∀ g cap w', w'.ownsRow B 70 2 (.slice (some ⟨g, 0, none⟩) n cap) n rows.flatten → W.grownBy w' (some g0) → (g = g0 ∨ g = W.heap.size) → g < w'.heap.size → K (a.put o.dst (.slice (some ⟨g, 0, none⟩) n cap)) w') :
    if Region.wanted o (yielded ops a.tmps) = true then Oper.wp Try.prog o a W K Q else E' := by
  have hi := (Ec37).info
  simp only [Option.map_eq_some_iff, Prod.mk.injEq] at hi
  obtain ⟨i, hi, ⟨z, hz, hzs⟩, hsize, hby⟩ := hi
  have hfl := flat_len hl
  have hone : ∀ u ∈ rows.flatten, u.oneCell' = true := fun u hu => by obtain ⟨r, hr, hur⟩ := List.mem_flatten.1 hu; exact h1 r hr u hur
  have hrn : rows.length = n := by
    obtain ⟨a', c', hv, _⟩ := hS
    cases hv
    rfl
  rw [hrn] at hfl
  rcases Nat.eq_zero_or_pos n with h0 | h0
  · subst h0
    have hr0 : rows = [] := List.length_eq_zero_iff.1 hrn
    subst hr0
    have hsrc : Src Try.prog i.size 37 (.slice A 0 c) 0 [] W := by
      rcases A with _ | ad
      · exact Src.ofNil W (Ec37).und c
      · exact Src.ofSlice W (Ec37).und ad 0 c [] (by simp) (fun j u hu => by simp at hu) (fun u hu => by simp at hu)
    have hr := run_append_nothing W 37 37 o.type 70 i (Ec37).und hi (some ⟨g0, 0, none⟩) 0 0 (Nat.le_refl _) _ hsrc
    have hw : Region.wanted o (yielded ops a.tmps) = true := by simp [Region.wanted, hgd]
    rw [if_pos hw]
    unfold Oper.wp execOp
    simp only [ho, resolve, invoke, builtin, Sem.run_bind, Sem.run_pure, Result.andThen_ok, List.map_toArray, List.map_cons, List.map_nil, hs, hx, hr]
    exact h g0 0 W (by simpa using hown) ⟨rfl, rfl, rfl, Nat.le_refl _, fun _ _ _ => rfl⟩ (.inl rfl) hg0
  · rcases A with _ | ad
    · obtain ⟨a', c', hv, _, _, hh⟩ := hS
      cases hv
      rcases hh with hc0 | ⟨_, _, hh, _⟩
      · omega
      · cases hh
    · have hnew : ∀ j u, rows.flatten[j]? = some u → W.cell? (ad.add j) = some u := by
        have hS' := hS
        obtain ⟨a', c', hv, hle, _, hh⟩ := hS'
        cases hv
        rcases hh with h0 | ⟨b, off, hh, _⟩
        · omega
        · cases hh
          exact hS.flat hl (by decide)
      refine step_append_lies W hgd s x 37 ho B 70 i z 2 40 (Ec37).und hi hz hsize hby hzs (by decide) _ 0 [] hs hown ad n c rows.flatten hx hfl hnew hone h0 (by unfold maxLen; omega) (by omega) hB W.heap.size rfl ?_
      intro g cap w' h2 h3 h4 h5
      rw [Nat.zero_add] at h2 ⊢
      refine h g cap w' (by simpa using h2) h3 ?_ h5
      rcases h4 with h4 | h4
      · exact .inl (by simpa [Value.ownBlock] using h4.symm)
      · exact .inr h4

end Go.Proofs.Ytkphggmbimjhjaa
