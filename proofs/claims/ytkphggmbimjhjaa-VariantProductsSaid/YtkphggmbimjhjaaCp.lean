/-
  Plain laws: the rules that Conflict returns cannot be satisfied together, but without any one of them they can.
-/
import Derived.Test.YtkphggmbimjhjaaCm
namespace Go.Proofs.Ytkphggmbimjhjaa
open Go.RowKit

theorem visL_mono {n : Nat} {ch : List Lit1} {A B : List Rule1} (h : ∀ r ∈ A, r ∈ B) (hB : visL n ch B ≠ []) : visL n ch A ≠ [] := by
  intro hA
  apply hB
  unfold visL at *
  rw [List.filter_eq_nil_iff] at *
  intro c hc hok
  apply hA c hc
  unfold cOk at *
  rw [Bool.and_eq_true, cBroken_all] at *
  refine ⟨hok.1, ?_⟩
  rw [List.all_eq_true] at *
  exact fun r hr => hok.2 r (h r hr)

theorem drop_cons {α : Type} {rs : List α} {k : Nat} {r : α} (hr : rs[k]? = some r) : rs.drop k = r :: rs.drop (k + 1) := by
  have hk : k < rs.length := by rcases Nat.lt_or_ge k rs.length with h' | h'; exact h'; simp [List.getElem?_eq_none h'] at hr
  have hget : rs[k] = r := by
    rw [List.getElem?_eq_getElem hk] at hr
    simpa using hr
  rw [List.drop_eq_getElem_cons hk, hget]

theorem confl_min {n : Nat} {ch : List Lit1} {rs : List Rule1} (h : visL n ch rs = []) : ∀ k, k ≤ rs.length →
    visL n ch ((conflTo n ch rs k).1 ++ rs.drop k) = [] ∧ ∀ t, t < (conflTo n ch rs k).1.length → visL n ch ((conflTo n ch rs k).1.eraseIdx t ++ rs.drop k) ≠ []
  | 0, _ => ⟨by simpa [conflTo] using h, fun t ht => by simp [conflTo] at ht⟩
  | k + 1, hk => by
    obtain ⟨h1, h2⟩ := confl_min h k (by omega)
    obtain ⟨r, hr⟩ : ∃ r, rs[k]? = some r := ⟨rs[k], by simp⟩
    have hd := drop_cons hr
    rw [conflTo_step hr]
    split
    · rename_i he
      refine ⟨by simpa using he, fun t ht => visL_mono ?_ (h2 t ht)⟩
      intro x hx
      rw [hd]
      simp only [List.mem_append, List.mem_cons] at *
      rcases hx with hx | hx
      · exact .inl hx
      · exact .inr (.inr hx)
    · rename_i he
      refine ⟨by rw [hd] at h1; simpa using h1, fun t ht => ?_⟩
      simp only [List.length_append, List.length_singleton] at ht
      rcases Nat.lt_or_ge t (conflTo n ch rs k).1.length with hlt | hge
      · rw [List.eraseIdx_append_of_lt_length hlt]
        have := h2 t hlt
        rw [hd] at this
        simpa using this
      · obtain rfl : t = (conflTo n ch rs k).1.length := by omega
        rw [List.eraseIdx_append_of_length_le (Nat.le_refl _)]
        simpa using he

/-- Rules and their numbers go together. -/
theorem confl_pair {n : Nat} {ch : List Lit1} {rs : List Rule1} : ∀ k, k ≤ rs.length → (conflTo n ch rs k).1.length = (conflTo n ch rs k).2.length ∧
    ∀ (t : Nat) (i : Int), (conflTo n ch rs k).2[t]? = some i → ∃ m : Nat, i = (m : Int) ∧ m < k ∧ (conflTo n ch rs k).1[t]? = rs[m]?
  | 0, _ => ⟨rfl, fun t i h => by simp [conflTo] at h⟩
  | k + 1, hk => by
    obtain ⟨h1, h2⟩ := confl_pair (n := n) (ch := ch) (rs := rs) k (by omega)
    obtain ⟨r, hr⟩ : ∃ r, rs[k]? = some r := ⟨rs[k], by simp⟩
    rw [conflTo_step hr]
    split
    · exact ⟨h1, fun t i h => by obtain ⟨m, e1, e2, e3⟩ := h2 t i h; exact ⟨m, e1, by omega, e3⟩⟩
    · refine ⟨by simp [h1], fun t i h => ?_⟩
      rcases Nat.lt_or_ge t (conflTo n ch rs k).2.length with hlt | hge
      · rw [List.getElem?_append_left hlt] at h
        obtain ⟨m, e1, e2, e3⟩ := h2 t i h
        exact ⟨m, e1, by omega, by rw [List.getElem?_append_left (by omega)]; exact e3⟩
      · rw [List.getElem?_append_right hge] at h
        have h0 : t - (conflTo n ch rs k).2.length = 0 := by
          rcases Nat.eq_zero_or_pos (t - (conflTo n ch rs k).2.length) with h0 | h0
          · exact h0
          · rw [List.getElem?_eq_none (by simp; omega)] at h; cases h
        rw [h0] at h
        simp at h
        refine ⟨k, h.symm, by omega, ?_⟩
        rw [List.getElem?_append_right (by omega), h1, h0, hr]; rfl

/-- All but number s - 1, of the first p; all for s = 0. -/
def selK {α : Type} (xs : List α) (s : Nat) : Nat → List α
  | 0 => []
  | p + 1 => selK xs s p ++ (if p + 1 = s then [] else (xs[p]?).toList)
theorem selK_len {α : Type} (xs : List α) (s : Nat) : ∀ p, (selK xs s p).length ≤ p
  | 0 => by simp [selK]
  | p + 1 => by
    have := selK_len xs s p
    rw [selK, List.length_append]
    split
    · simp; omega
    · cases xs[p]? <;> simp <;> omega
theorem selK_lt {α : Type} (xs : List α) (s : Nat) : ∀ p, p ≤ xs.length → (p < s ∨ s = 0) → selK xs s p = xs.take p
  | 0, _, _ => rfl
  | p + 1, hp, hs => by
    rw [selK, selK_lt xs s p (by omega) (by omega), if_neg (by omega), List.take_add_one]
theorem selK_ge {α : Type} (xs : List α) (s : Nat) (hs : 0 < s) : ∀ p, p ≤ xs.length → s ≤ p → selK xs s p = (xs.take p).eraseIdx (s - 1)
  | 0, _, h => by omega
  | p + 1, hp, h => by
    rw [selK]
    by_cases he : p + 1 = s
    · rw [if_pos he, List.append_nil, selK_lt xs s p (by omega) (by omega), List.take_add_one, List.eraseIdx_append_of_length_le (by rw [List.length_take]; omega)]
      have : xs[p]?.toList = [xs[p]] := by simp [List.getElem?_eq_getElem (show p < xs.length by omega)]
      rw [this, List.length_take, show s - 1 - min p xs.length = 0 by omega]
      simp
    · rw [if_neg he, selK_ge xs s hs p (by omega) (by omega), List.take_add_one, List.eraseIdx_append_of_lt_length (by rw [List.length_take]; omega)]
theorem selK_all {α : Type} (xs : List α) (s : Nat) (hs : s ≤ xs.length) : selK xs s xs.length = if s = 0 then xs else xs.eraseIdx (s - 1) := by
  split
  · rename_i h
    rw [selK_lt xs s _ (Nat.le_refl _) (.inr h), List.take_length]
  · rw [selK_ge xs s (by omega) _ (Nat.le_refl _) hs, List.take_length]

theorem confl_skip {n : Nat} {ch : List Lit1} {rs : List Rule1} (h : visL n ch rs = []) (s : Nat) (hs : s ≤ (conflTo n ch rs rs.length).1.length) :
    decide ((visL n ch (selK (conflTo n ch rs rs.length).1 s (conflTo n ch rs rs.length).1.length)).length = 0) = decide (s = 0) := by
  obtain ⟨h1, h2⟩ := confl_min h rs.length (Nat.le_refl _)
  simp only [List.drop_length, List.append_nil] at h1 h2
  rw [selK_all _ s hs]
  by_cases h0 : s = 0
  · rw [if_pos h0, h1]; simp [h0]
  · have := h2 (s - 1) (by omega)
    rw [if_neg h0]
    rw [decide_eq_false h0, decide_eq_false_iff_not, List.length_eq_zero_iff]
    exact this

end Go.Proofs.Ytkphggmbimjhjaa
