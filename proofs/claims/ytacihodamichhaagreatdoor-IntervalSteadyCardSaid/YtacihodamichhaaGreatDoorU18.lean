/-
  Parts of the proof: Kp.
-/
import Derived.Test.YtacihodamichhaaGreatDoorU16
namespace Go.Proofs.YtacihodamichhaaGreatDoor
open Go.RowKit
instance (x y : Cut) : Decidable (CLt x y) := by unfold CLt; infer_instance
theorem sorted_fst : ∀ (P l : List PC), P.Pairwise (fun x y => CLt x.1 y.1) → l.Pairwise (fun x y => ¬ CLt y.1 x.1) → l.Perm P → l = P
 | [], l, _, _, h => List.Perm.eq_nil h
 | p :: P, l, hP, hl, h => by
  cases l with
  | nil => exact absurd h.symm.eq_nil (by simp)
  | cons a l' =>
   have hap : a = p := by
    rcases List.mem_cons.1 (h.mem_iff.1 (List.mem_cons_self ..)) with h1 | h1
    ·exact h1
    ·have h2 : CLt p.1 a.1 := (List.pairwise_cons.1 hP).1 a h1
     rcases List.mem_cons.1 (h.symm.mem_iff.1 (List.mem_cons_self ..)) with h3 | h3
     ·exact h3.symm
     ·exact absurd h2 ((List.pairwise_cons.1 hl).1 p h3)
   subst hap
   rw [sorted_fst P l' (List.pairwise_cons.1 hP).2 (List.pairwise_cons.1 hl).2 (List.Perm.cons_inv h)]
def noMB (keep : Bool → Bool → Bool) : List Cut → List PC → List PC → List PC → Bool
 | low :: high :: r, X, Y, O => (!(keep (begun low (dropTo low X)) (begun low (dropTo low Y))) || (match O.getLast? with | none => true | some q => cmpC q.2 low != 0)) && noMB keep (high :: r) (dropTo low X) (dropTo low Y) (nextO keep low high X Y O)
 | [_], _, _, _ => true
 | [], _, _, _ => true
theorem noMB_spec (keep : Bool → Bool → Bool) : ∀ (P : List Cut) (X Y O : List PC), noMB keep P X Y O = true → NoMerge keep P X Y O
 | low :: high :: r, X, Y, O, h => by
  unfold noMB at h
  rw [Bool.and_eq_true] at h
  refine ⟨fun hk q hq => ?_, noMB_spec keep (high :: r) _ _ _ h.2⟩
  have h1 := h.1
  rw [hk, hq] at h1
  simpa using h1
 | [_], _, _, _, _ => trivial
 | [], _, _, _, _ => trivial
def xsC : List Iv := [⟨⟨#[]⟩, ⟨#[48]⟩, 2, 1⟩, ⟨⟨#[49]⟩, ⟨#[]⟩, 0, 2⟩]
theorem wt_0 : WT ⟨#[48]⟩ (val ⟨#[48]⟩) := (wt_ref (n := 0) (by decide)).1
theorem wt_1 : WT ⟨#[49]⟩ (val ⟨#[49]⟩) := (wt_ref (n := 1) (by decide)).1
theorem wt_2 : WT ⟨#[50]⟩ (val ⟨#[50]⟩) := (wt_ref (n := 2) (by decide)).1
theorem wt_3 : WT ⟨#[51]⟩ (val ⟨#[51]⟩) := (wt_ref (n := 3) (by decide)).1
theorem v_0 : val ⟨#[48]⟩ = 0 := by decide
theorem v_1 : val ⟨#[49]⟩ = 1 := by decide
theorem v_2 : val ⟨#[50]⟩ = 2 := by decide
def xsN : List Iv := [⟨⟨#[50]⟩, ⟨#[51]⟩, 1, 0⟩, ⟨⟨#[48]⟩, ⟨#[49]⟩, 0, 1⟩, ⟨⟨#[49]⟩, ⟨#[50]⟩, 0, 0⟩]
def psN : List PC := [(⟨0, ⟨#[48]⟩, 1⟩, ⟨0, ⟨#[49]⟩, 1⟩), (⟨0, ⟨#[49]⟩, 1⟩, ⟨0, ⟨#[50]⟩, -1⟩), (⟨0, ⟨#[50]⟩, -1⟩, ⟨0, ⟨#[51]⟩, -1⟩)]
theorem cuts_N : xsN.map Iv.cuts = [(⟨0, ⟨#[50]⟩, -1⟩, ⟨0, ⟨#[51]⟩, -1⟩), (⟨0, ⟨#[48]⟩, 1⟩, ⟨0, ⟨#[49]⟩, 1⟩), (⟨0, ⟨#[49]⟩, 1⟩, ⟨0, ⟨#[50]⟩, -1⟩)] := rfl
theorem perm_N : (xsN.map Iv.cuts).Perm psN := by
 rw [cuts_N]
 exact List.perm_append_comm (l₁ := ([(⟨0, ⟨#[50]⟩, -1⟩, ⟨0, ⟨#[51]⟩, -1⟩)] : List PC)) (l₂ := ([(⟨0, ⟨#[48]⟩, 1⟩, ⟨0, ⟨#[49]⟩, 1⟩), (⟨0, ⟨#[49]⟩, 1⟩, ⟨0, ⟨#[50]⟩, -1⟩)] : List PC))
theorem sorted_N : psN.Pairwise (fun x y => CLt x.1 y.1) := by decide
theorem ok_N : ∀ x ∈ xsN, x.ok := fun x hx => by
 rcases List.mem_cons.1 hx with rfl | hx
 ·exact ⟨.inr ⟨.inr rfl, wt_2⟩, .inr ⟨.inl rfl, wt_3⟩⟩
 rcases List.mem_cons.1 hx with rfl | hx
 ·exact ⟨.inr ⟨.inl rfl, wt_0⟩, .inr ⟨.inr rfl, wt_1⟩⟩
 cases List.mem_singleton.1 hx
 exact ⟨.inr ⟨.inl rfl, wt_1⟩, .inr ⟨.inl rfl, wt_2⟩⟩
theorem lh_N : ∀ x ∈ xsN, cmpC x.low x.high < 0 := by decide
theorem chain_N (l : List PC) (hp : l.Perm (xsN.map Iv.cuts)) (hs : l.Pairwise (fun x y => ¬ CLt y.1 x.1)) :
  (∀ (i : Nat) (p q : PC), l[i]? = some p → l[i + 1]? = some q → ¬ CLt p.2 q.1 ∧ CLt p.2 q.2) ∧ (∀ p, l[0]? = some p → p.1 = ⟨0, ⟨#[48]⟩, 1⟩) ∧ (∀ p, l[xsN.length - 1]? = some p → p.2 = ⟨0, ⟨#[51]⟩, -1⟩) := by
 obtain rfl := sorted_fst psN l sorted_N hs (hp.trans perm_N)
 refine ⟨fun i p q h1 h2 => ?_, fun p h => by cases h; rfl, fun p h => by cases h; rfl⟩
 rcases i with _ | _ | i
 ·cases h1; cases h2; decide
 ·cases h1; cases h2; decide
 ·simp [psN] at h2
def xs1 : List Iv := [⟨⟨#[48]⟩, ⟨#[49]⟩, 0, 1⟩]
def plC : List Cut := [lowest, ⟨0, ⟨#[48]⟩, 1⟩, ⟨0, ⟨#[49]⟩, 1⟩, highest]
def psC : List PC := [(lowest, ⟨0, ⟨#[48]⟩, 1⟩), (⟨0, ⟨#[49]⟩, 1⟩, highest)]
theorem compl_known (u : Value) (w : World) (hx : Ivs w u xs1) : Calls Tryz.prog 35 #[u] w (RetP (fun r w' => ∃ a c, r = .tuple #[.slice a 2 c, .int .i64 0] ∧ Ivs w' (.slice a 2 c) xsC) w) := by
 refine (compl_any u xs1 w hx (fun x h => ?_) ⟨fun i p h => ?_, fun i p q h1 h2 => ?_⟩ (by decide) plC (by decide) ?_ psC rfl (noMB_spec _ _ _ _ _ (by decide +kernel))).mono fun e w' ⟨r, he, hr, hb⟩ => ⟨r, he, ?_, hb⟩
 ·cases List.mem_singleton.1 h
  exact ⟨.inr ⟨.inl rfl, wt_0⟩, .inr ⟨.inr rfl, wt_1⟩⟩
 ·rcases i with _ | i
  ·cases h; decide
  ·simp [xs1] at h
 ·simp [xs1] at h2
 ·exact List.Perm.cons _ (List.perm_append_comm (l₁ := ([highest] : List Cut)) (l₂ := ([⟨0, ⟨#[48]⟩, 1⟩, ⟨0, ⟨#[49]⟩, 1⟩] : List Cut)))
 ·rcases hr with ⟨h, -⟩ | ⟨-, a, c, rfl, h⟩
  ·exact absurd h (by decide)
  ·exact ⟨a, c, rfl, h⟩
theorem Sl.blk {w : World} {b sz : Nat} {cs : Array Value} {T : TypeId} {rows : List (List Value)} (h : Blk w b cs T) (hl : ∀ r ∈ rows, r.length = sz) (hcs : cs = rows.flatten.toArray) (hn : rows.length ≤ 1000) : Sl w sz (.slice (some ⟨b, 0, none⟩) rows.length rows.length) rows := by
 refine ⟨_, _, rfl, Nat.le_refl _, by unfold maxLen; omega, .inr ⟨b, 0, rfl, h.lt, fun i j hi hj => ?_⟩⟩
 rw [h.cell, hcs, Nat.zero_add]
 have := flat_get hl hi hj
 simpa using this
theorem Ivs.blk {w : World} {b n : Nat} {cs : Array Value} {T : TypeId} (xs : List Iv) (h : Blk w b cs T) (hcs : cs = ((xs.map Iv.row).flatten).toArray) (hn : xs.length = n) (hn2 : n ≤ 1000) : Ivs w (.slice (some ⟨b, 0, none⟩) n n) xs := by
 have := Sl.blk (sz := 4) (rows := xs.map Iv.row) h (fun r hr => by obtain ⟨x, _, rfl⟩ := List.mem_map.1 hr; rfl) hcs (by rw [List.length_map]; omega)
 rw [List.length_map, hn] at this
 exact this
end Go.Proofs.YtacihodamichhaaGreatDoor
