/-
  Conflict.
-/
import Derived.Test.YtknpbcdmemlicaaGreatDoorVFst
import Derived.Test.YtknpbcdmemlicaaGreatDoorVDel
namespace Go.Proofs.YtknpbcdmemlicaaGreatDoor
open Go.RowKit

/-- Rows of rules: their names stand in the rows, their literals in memory. -/
def RulesRow (W : World) (rv : List (Value × Value)) (rs : List Rule1) : Prop :=
  rv.length = rs.length ∧ ∀ (k : Nat) (x : Value × Value) (r : Rule1), rv[k]? = some x → rs[k]? = some r → x.1 = .string r.1 ∧ Lits W x.2 r.2

theorem RulesRow.rules {W w : World} {rv : List (Value × Value)} {rs : List Rule1} {v : Value} (h : RulesRow W rv rs) (hb : Below W.heap.size W w) (hS : Sl w 2 v (rv.map c2)) : Rules w v rs :=
  ⟨rv, hS, h.1, fun k x r hx hr => ⟨(h.2 k x r hx hr).1, (h.2 k x r hx hr).2.mono hb⟩⟩

theorem RulesRow.one {W : World} {rv : List (Value × Value)} {rs : List Rule1} (h : RulesRow W rv rs) : ∀ x ∈ rv, x.1.oneCell' = true ∧ x.2.oneCell' = true := by
  intro x hx
  obtain ⟨k, hk, rfl⟩ := List.getElem_of_mem hx
  obtain ⟨h1, h2⟩ := h.2 k rv[k] (rs[k]'(by have := h.1; omega)) (by simp [hk]) (by simp [h.1 ▸ hk])
  obtain ⟨a, c, hv, _, _⟩ := h2.open
  rw [h1, hv]
  exact ⟨rfl, rfl⟩

theorem RulesRow.erase {W : World} {rv : List (Value × Value)} {rs : List Rule1} (h : RulesRow W rv rs) (i : Nat) : RulesRow W (rv.eraseIdx i) (rs.eraseIdx i) := by
  refine ⟨by rw [List.length_eraseIdx, List.length_eraseIdx, h.1], fun k x r hx hr => ?_⟩
  rw [List.getElem?_eraseIdx] at hx hr
  split at hx
  · rename_i hlt
    rw [if_pos hlt] at hr
    exact h.2 _ _ _ hx hr
  · rename_i hlt
    rw [if_neg hlt] at hr
    exact h.2 _ _ _ hx hr

theorem own_rows {w : World} {B n : Nat} {v : Value} {rv : List (Value × Value)} (h : w.ownsRow B 40 2 v n (rv.map c2).flatten) : Sl w 2 v (rv.map c2) :=
  Sl.own h (fun r hr => by obtain ⟨x, _, rfl⟩ := List.mem_map.1 hr; rfl) (by decide)

theorem own_ne {w : World} {B B' e e' s s' n n' : Nat} {v v' : Value} {xs xs' : List Value} (h : w.ownsRow B e s v n xs) (h' : w.ownsRow B' e' s' v' n' xs') (hne : e ≠ e') : v.ownBlock = none ∨ v.ownBlock ≠ v'.ownBlock := by
  rcases h.2 with ⟨rfl, _⟩ | ⟨g, cap, cur, rfl, _, hg, _⟩
  · exact .inl rfl
  · right
    intro e0
    rcases h'.2 with ⟨rfl, _⟩ | ⟨g', cap', cur', rfl, _, hg', _⟩
    · simp [Value.ownBlock] at e0
    · simp [Value.ownBlock] at e0
      subst e0
      rw [hg] at hg'
      simp at hg'
      exact hne hg'.2

/-- The rules that are kept, and their numbers, when k rules have been looked at. -/
def conflTo (n : Nat) (ch : List Lit1) (rs : List Rule1) : Nat → List Rule1 × List Int
  | 0 => ([], [])
  | k + 1 => match rs[k]? with
    | none => conflTo n ch rs k
    | some r => if (visL n ch ((conflTo n ch rs k).1 ++ rs.drop (k + 1))).isEmpty then conflTo n ch rs k else ((conflTo n ch rs k).1 ++ [r], (conflTo n ch rs k).2 ++ [(k : Int)])

theorem conflTo_names {n : Nat} {ch : List Lit1} {rs : List Rule1} : ∀ {k : Nat}, ∀ x ∈ (conflTo n ch rs k).1, ∃ i : Nat, i < k ∧ rs[i]? = some x
  | 0 => by intro x hx; simp [conflTo] at hx
  | k + 1 => by
    intro x hx
    unfold conflTo at hx
    split at hx
    · obtain ⟨i, hi, h⟩ := conflTo_names (k := k) x hx; exact ⟨i, by omega, h⟩
    · rename_i r hr
      split at hx
      · obtain ⟨i, hi, h⟩ := conflTo_names (k := k) x hx; exact ⟨i, by omega, h⟩
      · simp only [List.mem_append, List.mem_singleton] at hx
        rcases hx with hx | rfl
        · obtain ⟨i, hi, h⟩ := conflTo_names (k := k) x hx; exact ⟨i, by omega, h⟩
        · exact ⟨k, by omega, hr⟩

theorem conflTo_len {n : Nat} {ch : List Lit1} {rs : List Rule1} : ∀ k : Nat, (conflTo n ch rs k).1.length ≤ k ∧ (conflTo n ch rs k).2.length ≤ k
  | 0 => by simp [conflTo]
  | k + 1 => by
    have ih := conflTo_len (n := n) (ch := ch) (rs := rs) k
    unfold conflTo
    split
    · omega
    · split
      · omega
      · simp; omega

theorem enters49 : ∀ args w, (callFunc 39 args).run Tryz.prog w = .ok (.enter 39 args) w := enters_of Tryz.func39 (by kernel_rfl) rfl

set_option maxHeartbeats 400000 in
theorem conf1_any (a b : ByteArray) (av : Value) (R : Nat) (w : World) (hR : w.cell? ⟨R, 0, none⟩ = some (.string b)) :
    Calls Tryz.prog 39 #[.agg #[.string a, av], .pointer (some ⟨R, 0, none⟩)] w (Ret (.bool (a.toList == b.toList)) w) := by
  have hRl := blt hR
  go_enter Tryz.func39, Tryz.ntmps39
  go_wp2
  first
  | (go_ret; exact Ret.mk (below1 w _))
  | (go_quiet (fail)
     go_wp2
     go_ret
     exact Ret.mk ((below1 w _).dn _))

end Go.Proofs.YtknpbcdmemlicaaGreatDoor
