/-
  A family with some of its rules.
-/
import Derived.Test.YtkphggmbimjhjaaCp
namespace Go.Proofs.Ytkphggmbimjhjaa
open Go.RowKit

theorem grown_undrew {a c : World} {row : Option Nat} (h : a.drew.grownBy c row) : a.grownBy c row := ⟨h.os, h.tape, h.output, h.size, h.block⟩

theorem confl_sub {n : Nat} {ch : List Lit1} {rs : List Rule1} : ∀ k, k ≤ rs.length → (conflTo n ch rs k).1.Sublist (rs.take k)
  | 0, _ => by simp [conflTo]
  | k + 1, hk => by
    have ih := confl_sub (n := n) (ch := ch) (rs := rs) k (by omega)
    obtain ⟨r, hr⟩ : ∃ r, rs[k]? = some r := ⟨rs[k], by simp⟩
    rw [conflTo_step hr, List.take_add_one, hr]
    split
    · exact ih.trans (List.sublist_append_left _ _)
    · exact ih.append (List.Sublist.refl _)
theorem selK_sub {α : Type} (xs : List α) (s : Nat) : ∀ p, p ≤ xs.length → (selK xs s p).Sublist (xs.take p)
  | 0, _ => by simp [selK]
  | p + 1, hp => by
    have ih := selK_sub xs s p (by omega)
    rw [selK, List.take_add_one]
    refine ih.append ?_
    split
    · exact List.nil_sublist _
    · exact List.Sublist.refl _

theorem famOk_sub {opts : List ByteArray} {rs K : List Rule1} {gs : List Guard1} {os : List Ov1} {mI : Nat} {ds : List Dim1} (h : FamOk opts rs gs os mI ds) (hs : K.Sublist rs) : FamOk opts K gs os mI ds where
  opts12 := h.opts12
  optName := h.optName
  optUp := h.optUp
  rs48 := Nat.le_trans hs.length_le h.rs48
  rsName := fun r hr => h.rsName r (hs.subset hr)
  rsUniq := by
    have hp : rs.Pairwise (fun a b => a.1 ≠ b.1) := List.pairwise_iff_getElem.2 fun i j hi hj hij => h.rsUniq i j rs[i] rs[j] hij (by simp) (by simp)
    have hk := hp.sublist hs
    intro i j a b hij ha hb
    have hi := lt_of_get ha
    have hj := lt_of_get hb
    have := List.pairwise_iff_getElem.1 hk i j hi hj hij
    rw [List.getElem?_eq_getElem hi] at ha
    rw [List.getElem?_eq_getElem hj] at hb
    simp at ha hb
    subst ha hb
    exact this
  rsLit := fun r hr => h.rsLit r (hs.subset hr)
  gs48 := h.gs48
  gsInst := h.gsInst
  gsLit := h.gsLit
  os48 := h.os48
  osLit := h.osLit
  osDim := h.osDim

/-- Rows and rules, number by number. -/
def Par (W : World) (RV : List (Value × Value)) (K : List Rule1) : Prop := RV.length = K.length ∧ ∀ (t : Nat) (x : Value × Value) (r : Rule1), RV[t]? = some x → K[t]? = some r → x.1 = .string r.1 ∧ Lits W x.2 r.2
theorem Par.sel {W : World} {RV : List (Value × Value)} {K : List Rule1} (h : Par W RV K) (s : Nat) : ∀ p, p ≤ RV.length → RulesRow W (selK RV s p) (selK K s p)
  | 0, _ => ⟨rfl, fun k x r hx => by simp [selK] at hx⟩
  | p + 1, hp => by
    have ih := h.sel s p (by omega)
    have hl := h.1
    obtain ⟨x, hx⟩ : ∃ x, RV[p]? = some x := ⟨RV[p], by simp⟩
    obtain ⟨r, hr⟩ : ∃ r, K[p]? = some r := ⟨K[p], by simp⟩
    have := h.2 p x r hx hr
    rw [selK, selK, hx, hr]
    split
    · simpa using ih
    · exact ih.snoc this.1 this.2

/-- The rows of the rules with the numbers X. -/
theorem rows_of {W : World} {v : Value} {rs K : List Rule1} {X : List Int} (hR : Rules W v rs) (hl : K.length = X.length) (hX : ∀ (t : Nat) (i : Int), X[t]? = some i → ∃ m : Nat, i = (m : Int) ∧ m < rs.length ∧ K[t]? = rs[m]?) :
    ∃ (rv RV : List (Value × Value)), Sl W 2 v (rv.map c2) ∧ rv.length = rs.length ∧ Par W RV K ∧ ∀ (t : Nat) (i : Int), X[t]? = some i → ∃ m : Nat, i = (m : Int) ∧ m < rs.length ∧ RV[t]? = rv[m]? := by
  obtain ⟨rv, h1, h2, h3⟩ := hR
  refine ⟨rv, X.map fun i => rv.getD i.toNat (undef, undef), h1, h2, ⟨by simp [hl], fun t x r hx hr => ?_⟩, fun t i hi => ?_⟩
  · rw [List.getElem?_map, Option.map_eq_some_iff] at hx
    obtain ⟨i, hi, rfl⟩ := hx
    obtain ⟨m, rfl, hm, hk⟩ := hX t i hi
    rw [hr] at hk
    have hrv : rv[m]? = some (rv[m]'(by omega)) := by simp
    have := h3 m _ r hrv hk.symm
    rw [Int.toNat_natCast, List.getD_eq_getElem?_getD, hrv]
    exact this
  · obtain ⟨m, rfl, hm, hk⟩ := hX t i hi
    refine ⟨m, rfl, hm, ?_⟩
    rw [List.getElem?_map, hi]
    have hrv : rv[m]? = some (rv[m]'(by omega)) := by simp
    rw [Option.map_some, Int.toNat_natCast, List.getD_eq_getElem?_getD, hrv]
    rfl

end Go.Proofs.Ytkphggmbimjhjaa
