/-
  Parts of the proof: Run.
-/
import Derived.Test.YtacihodamichhaaGreatDoorU13
namespace Go.Proofs.YtacihodamichhaaGreatDoor
open Go.RowKit
abbrev PC := Cut × Cut
def dropTo (low : Cut) : List PC → List PC
 | [] => []
 | p :: r => if cmpC p.2 low ≤ 0 then dropTo low r else p :: r
def begun (low : Cut) : List PC → Bool
 | [] => false
 | p :: _ => decide (cmpC p.1 low ≤ 0)
def nextO (keep : Bool → Bool → Bool) (low high : Cut) (X Y O : List PC) : List PC := if keep (begun low (dropTo low X)) (begun low (dropTo low Y)) = true then O ++ [(low, high)] else O
def runC (keep : Bool → Bool → Bool) : List Cut → List PC → List PC → List PC → List PC
 | low :: high :: r, X, Y, O => runC keep (high :: r) (dropTo low X) (dropTo low Y) (nextO keep low high X Y O)
 | [_], _, _, O => O
 | [], _, _, O => O
def NoMerge (keep : Bool → Bool → Bool) : List Cut → List PC → List PC → List PC → Prop
 | low :: high :: r, X, Y, O => (keep (begun low (dropTo low X)) (begun low (dropTo low Y)) = true → ∀ q, O.getLast? = some q → cmpC q.2 low ≠ 0) ∧ NoMerge keep (high :: r) (dropTo low X) (dropTo low Y) (nextO keep low high X Y O)
 | [_], _, _, _ => True
 | [], _, _, _ => True
def lowest : Cut := ⟨-1, ⟨#[]⟩, 0⟩
def highest : Cut := ⟨1, ⟨#[]⟩, 0⟩
def placesOf (l : List PC) : List Cut := [lowest, highest] ++ (l.map fun p => [p.1, p.2]).flatten
def ivOf (p : PC) : Iv := ⟨p.1.s, p.2.s, kindOf p.1 1, kindOf p.2 (-1)⟩
theorem sorted_unique : ∀ (P l : List Cut), P.Pairwise CLt → l.Pairwise (fun x y => ¬ CLt y x) → l.Perm P → l = P
 | [], l, _, _, h => List.Perm.eq_nil h
 | p :: P, l, hP, hl, h => by
  cases l with
  | nil => exact absurd h.symm.eq_nil (by simp)
  | cons a l' =>
   have hap : a = p := by
    rcases List.mem_cons.1 (h.mem_iff.1 (List.mem_cons_self ..)) with h1 | h1
    ·exact h1
    ·have h2 : CLt p a := (List.pairwise_cons.1 hP).1 a h1
     rcases List.mem_cons.1 (h.symm.mem_iff.1 (List.mem_cons_self ..)) with h3 | h3
     ·exact h3.symm
     ·exact absurd h2 ((List.pairwise_cons.1 hl).1 p h3)
   subst hap
   rw [sorted_unique P l' (List.pairwise_cons.1 hP).2 (List.pairwise_cons.1 hl).2 (List.Perm.cons_inv h)]
theorem pairwise_of_index {α : Type} {R : α → α → Prop} : ∀ {l : List α}, (∀ (i j : Nat) (x y : α), i < j → l[i]? = some x → l[j]? = some y → R x y) → l.Pairwise R
 | [], _ => List.Pairwise.nil
 | a :: l, h => List.Pairwise.cons (fun y hy => by
   obtain ⟨j, hj⟩ := List.mem_iff_getElem?.1 hy
   exact h 0 (j + 1) a y (by omega) rfl (by simpa using hj)) (pairwise_of_index fun i j x y hij hx hy => h (i + 1) (j + 1) x y (by omega) (by simpa using hx) (by simpa using hy))
theorem index_of_pairwise {α : Type} {R : α → α → Prop} {l : List α} (h : l.Pairwise R) {i j : Nat} {x y : α} (hij : i < j) (hx : l[i]? = some x) (hy : l[j]? = some y) : R x y := by
 obtain ⟨hi, rfl⟩ := List.getElem?_eq_some_iff.1 hx
 obtain ⟨hj, rfl⟩ := List.getElem?_eq_some_iff.1 hy
 exact List.pairwise_iff_getElem.1 h i j hi hj hij
end Go.Proofs.YtacihodamichhaaGreatDoor
