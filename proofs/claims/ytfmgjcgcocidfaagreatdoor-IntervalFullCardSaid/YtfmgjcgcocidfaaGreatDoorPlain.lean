/-
  The plain law: the union and the complement of sets of single numbers.
-/
import Derived.Test.YtfmgjcgcocidfaaGreatDoorRun
namespace Go.Proofs.YtfmgjcgcocidfaaGreatDoor
open Go.RowKit

/-- Places of numbers, ahead of them and behind them. -/
structure Pl (L H : Nat → Cut) : Prop where
  lh : ∀ n, CLt (L n) (H n)
  hl : ∀ n m, n < m → CLt (H n) (L m)
  bot : ∀ n, CLt lowest (L n)
  top : ∀ n, CLt (H n) highest
theorem low_high : CLt lowest highest := .inl (by decide)
theorem cneg {x y : Cut} (h : CLt x y) : cmpC x y < 0 := cmpC_lt.2 h
theorem cpos {x y : Cut} (h : CLt x y) : 0 < cmpC y x := cmpC_gt.2 h

variable {L H : Nat → Cut}
def prs (L H : Nat → Cut) (N : List Nat) : List PC := N.map fun n => (L n, H n)
/-- The places from the first number on. -/
def flatP (L H : Nat → Cut) : List Nat → List Cut
  | [] => [highest]
  | n :: N => L n :: H n :: flatP L H N

theorem dropTo_keep {low : Cut} {X : List PC} (h : ∀ p ∈ X.head?, 0 < cmpC p.2 low) : dropTo low X = X := by
  cases X with
  | nil => rfl
  | cons p r =>
    have := h p rfl
    unfold dropTo
    rw [if_neg (by omega)]
theorem prs_low (hp : Pl L H) {n : Nat} {N : List Nat} (h : ∀ m ∈ N, n ≤ m) : dropTo (L n) (prs L H N) = prs L H N := by
  refine dropTo_keep fun p hp' => ?_
  cases N with
  | nil => cases hp'
  | cons m N =>
    cases hp'
    have hm := h m (List.mem_cons_self ..)
    apply cpos
    rcases Nat.lt_or_ge n m with h1 | h1
    · exact (hp.lh n).trans ((hp.hl n m h1).trans (hp.lh m))
    · rw [Nat.le_antisymm h1 hm]; exact hp.lh n
theorem prs_high (hp : Pl L H) {n : Nat} {N : List Nat} (h : ∀ m ∈ N, n < m) : dropTo (H n) (prs L H N) = prs L H N := by
  refine dropTo_keep fun p hp' => ?_
  cases N with
  | nil => cases hp'
  | cons m N =>
    cases hp'
    exact cpos ((hp.hl n m (h m (List.mem_cons_self ..))).trans (hp.lh m))
theorem prs_high_cons (hp : Pl L H) {n : Nat} {N : List Nat} (h : ∀ m ∈ N, n < m) : dropTo (H n) (prs L H (n :: N)) = prs L H N := by
  have h1 : dropTo (H n) (prs L H (n :: N)) = dropTo (H n) (prs L H N) := by
    show (if cmpC (H n) (H n) ≤ 0 then _ else _) = _
    rw [if_pos (by rw [cmpC_self]; exact Int.le_refl 0)]
    rfl
  rw [h1, prs_high hp h]
theorem begun_low (hp : Pl L H) {n : Nat} {N : List Nat} (h : ∀ m ∈ N, n < m) : begun (L n) (prs L H N) = false := by
  cases N with
  | nil => rfl
  | cons m N =>
    show decide (cmpC (L m) (L n) ≤ 0) = false
    have := cpos ((hp.lh n).trans (hp.hl n m (h m (List.mem_cons_self ..))))
    rw [decide_eq_false_iff_not]; omega
theorem begun_self (n : Nat) (N : List Nat) : begun (L n) (prs L H (n :: N)) = true := by
  show decide (cmpC (L n) (L n) ≤ 0) = true
  rw [cmpC_self]; rfl
theorem begun_high (hp : Pl L H) {n : Nat} {N : List Nat} (h : ∀ m ∈ N, n < m) : begun (H n) (prs L H N) = false := by
  cases N with
  | nil => rfl
  | cons m N =>
    show decide (cmpC (L m) (H n) ≤ 0) = false
    have := cpos (hp.hl n m (h m (List.mem_cons_self ..)))
    rw [decide_eq_false_iff_not]; omega
theorem flatP_cons (N : List Nat) : ∃ c r, flatP L H N = c :: r := by cases N <;> exact ⟨_, _, rfl⟩

/-- One number of the first set. -/
theorem run_both (hp : Pl L H) (keep : Bool → Bool → Bool) (n : Nat) (N : List Nat) (X Y X' Y' O : List PC) (hX : dropTo (L n) X = X) (hY : dropTo (L n) Y = Y) (hX' : dropTo (H n) X = X') (hY' : dropTo (H n) Y = Y') :
    runC keep (flatP L H (n :: N)) X Y O = runC keep (flatP L H N) X' Y' (if keep (begun (H n) X') (begun (H n) Y') = true then (if keep (begun (L n) X) (begun (L n) Y) = true then O ++ [(L n, H n)] else O) ++ [(H n, (flatP L H N).headD highest)] else (if keep (begun (L n) X) (begun (L n) Y) = true then O ++ [(L n, H n)] else O)) ∧
    (NoMerge keep (flatP L H (n :: N)) X Y O ↔ ((keep (begun (L n) X) (begun (L n) Y) = true → ∀ q, O.getLast? = some q → cmpC q.2 (L n) ≠ 0) ∧ (keep (begun (H n) X') (begun (H n) Y') = true → ∀ q, (if keep (begun (L n) X) (begun (L n) Y) = true then O ++ [(L n, H n)] else O).getLast? = some q → cmpC q.2 (H n) ≠ 0) ∧
      NoMerge keep (flatP L H N) X' Y' (if keep (begun (H n) X') (begun (H n) Y') = true then (if keep (begun (L n) X) (begun (L n) Y) = true then O ++ [(L n, H n)] else O) ++ [(H n, (flatP L H N).headD highest)] else (if keep (begun (L n) X) (begun (L n) Y) = true then O ++ [(L n, H n)] else O)))) := by
  obtain ⟨c, r, hf⟩ := flatP_cons (L := L) (H := H) N
  have e : flatP L H (n :: N) = L n :: H n :: c :: r := by show L n :: H n :: flatP L H N = _; rw [hf]
  rw [e, hf]
  simp only [runC, NoMerge, nextO, hX, hY, hX', hY', List.headD_cons, and_true, true_and]

theorem union_run (hp : Pl L H) : ∀ (A B : List Nat) (O : List PC), (A ++ B).Pairwise (· < ·) → (∀ q ∈ O.getLast?, ∀ n ∈ A ++ B, CLt q.2 (L n)) → runC (fun a b => a || b) (flatP L H (A ++ B)) (prs L H A) (prs L H B) O = O ++ prs L H (A ++ B) ∧ NoMerge (fun a b => a || b) (flatP L H (A ++ B)) (prs L H A) (prs L H B) O
  | [], [], O, _, _ => ⟨by simp [flatP, runC, prs], trivial⟩
  | [], n :: B, O, hs, hO => by
    have hs' := List.pairwise_cons.1 hs
    obtain ⟨h1, h2⟩ := run_both hp (fun a b => a || b) n B (prs L H []) (prs L H (n :: B)) (prs L H []) (prs L H B) O rfl (prs_low hp (fun m hm => by rcases List.mem_cons.1 hm with rfl | h; exact Nat.le_refl _; exact Nat.le_of_lt (hs'.1 m h))) rfl (prs_high_cons hp hs'.1)
    have e1 : ((begun (L n) (prs L H []) || begun (L n) (prs L H (n :: B))) = true) := by rw [begun_self]; simp
    have e2 : ¬ ((begun (H n) (prs L H []) || begun (H n) (prs L H B)) = true) := by rw [begun_high hp hs'.1]; simp [prs, begun]
    simp only [List.nil_append] at hs hO ⊢
    rw [if_neg e2, if_pos e1] at h1
    rw [if_neg e2, if_pos e1] at h2
    obtain ⟨i1, i2⟩ := union_run hp [] B (O ++ [(L n, H n)]) hs'.2 (fun q hq m hm => by
      simp at hq
      subst hq
      exact hp.hl n m (hs'.1 m hm))
    simp only [List.nil_append] at i1 i2
    refine ⟨by rw [h1, i1]; simp [prs], h2.2 ⟨fun _ q hq hz => ?_, fun h => absurd h e2, i2⟩⟩
    have := cneg (hO q hq n (List.mem_cons_self ..))
    omega
  | n :: A, B, O, hs, hO => by
    have hs' := List.pairwise_cons.1 hs
    have hA : ∀ m ∈ A, n < m := fun m hm => hs'.1 m (List.mem_append_left _ hm)
    have hB : ∀ m ∈ B, n < m := fun m hm => hs'.1 m (List.mem_append_right _ hm)
    obtain ⟨h1, h2⟩ := run_both hp (fun a b => a || b) n (A ++ B) (prs L H (n :: A)) (prs L H B) (prs L H A) (prs L H B) O (prs_low hp (fun m hm => by rcases List.mem_cons.1 hm with rfl | h; exact Nat.le_refl _; exact Nat.le_of_lt (hA m h))) (prs_low hp fun m hm => Nat.le_of_lt (hB m hm)) (prs_high_cons hp hA) (prs_high hp hB)
    have e1 : ((begun (L n) (prs L H (n :: A)) || begun (L n) (prs L H B)) = true) := by rw [begun_self]; simp
    have e2 : ¬ ((begun (H n) (prs L H A) || begun (H n) (prs L H B)) = true) := by rw [begun_high hp hA, begun_high hp hB]; simp
    rw [if_neg e2, if_pos e1] at h1
    rw [if_neg e2, if_pos e1] at h2
    obtain ⟨i1, i2⟩ := union_run hp A B (O ++ [(L n, H n)]) hs'.2 (fun q hq m hm => by
      simp at hq
      subst hq
      exact hp.hl n m (hs'.1 m hm))
    refine ⟨by rw [List.cons_append, h1, i1]; simp [prs], ?_⟩
    rw [List.cons_append]
    refine h2.2 ⟨fun _ q hq hz => ?_, fun h => absurd h e2, i2⟩
    have := cneg (hO q hq n (List.mem_cons_self ..))
    omega

theorem compl_run (hp : Pl L H) : ∀ (A : List Nat) (O : List PC), A.Pairwise (· < ·) → (∀ q ∈ O.getLast?, ∀ n ∈ A, CLt q.2 (H n)) → (runC (fun a _ => !a) (flatP L H A) (prs L H A) [] O).length = O.length + A.length ∧ NoMerge (fun a _ => !a) (flatP L H A) (prs L H A) [] O
  | [], O, _, _ => ⟨by simp [flatP, runC], trivial⟩
  | n :: A, O, hs, hO => by
    have hs' := List.pairwise_cons.1 hs
    obtain ⟨h1, h2⟩ := run_both hp (fun a _ => !a) n A (prs L H (n :: A)) [] (prs L H A) [] O (prs_low hp (fun m hm => by rcases List.mem_cons.1 hm with rfl | h; exact Nat.le_refl _; exact Nat.le_of_lt (hs'.1 m h))) rfl (prs_high_cons hp hs'.1) rfl
    have e1 : ¬ ((!(begun (L n) (prs L H (n :: A)))) = true) := by rw [begun_self]; simp
    have e2 : ((!(begun (H n) (prs L H A))) = true) := by rw [begun_high hp hs'.1]; rfl
    rw [if_pos e2, if_neg e1] at h1
    rw [if_pos e2, if_neg e1] at h2
    obtain ⟨i1, i2⟩ := compl_run hp A (O ++ [(H n, (flatP L H A).headD highest)]) hs'.2 (fun q hq m hm => by
      simp at hq
      subst hq
      cases A with
      | nil => cases hm
      | cons a A =>
        show CLt (L a) (H m)
        rcases List.mem_cons.1 hm with rfl | h
        · exact hp.lh _
        · exact (hp.lh a).trans ((hp.hl a m ((List.pairwise_cons.1 hs'.2).1 m h)).trans (hp.lh m)))
    refine ⟨by rw [h1, i1]; simp; omega, h2.2 ⟨fun h => absurd h e1, fun _ q hq hz => ?_, i2⟩⟩
    have := cneg (hO q hq n (List.mem_cons_self ..))
    omega

theorem drop_lowest (hp : Pl L H) (N : List Nat) : dropTo lowest (prs L H N) = prs L H N ∧ begun lowest (prs L H N) = false := by
  cases N with
  | nil => exact ⟨rfl, rfl⟩
  | cons n N =>
    refine ⟨dropTo_keep fun p hp' => by cases hp'; exact cpos ((hp.bot n).trans (hp.lh n)), ?_⟩
    show decide (cmpC (L n) lowest ≤ 0) = false
    have := cpos (hp.bot n)
    rw [decide_eq_false_iff_not]; omega
theorem union_all (hp : Pl L H) (A B : List Nat) (hs : (A ++ B).Pairwise (· < ·)) : runC (fun a b => a || b) (lowest :: flatP L H (A ++ B)) (prs L H A) (prs L H B) [] = prs L H (A ++ B) ∧ NoMerge (fun a b => a || b) (lowest :: flatP L H (A ++ B)) (prs L H A) (prs L H B) [] := by
  obtain ⟨c, r, hf⟩ := flatP_cons (L := L) (H := H) (A ++ B)
  obtain ⟨h1, h2⟩ := union_run hp A B [] hs (fun q hq => by cases hq)
  obtain ⟨a1, a2⟩ := drop_lowest hp A
  obtain ⟨b1, b2⟩ := drop_lowest hp B
  rw [hf] at h1 h2 ⊢
  simp only [runC, NoMerge, nextO, a1, a2, b1, b2, Bool.or_self, Bool.false_eq_true, if_false, false_imp_iff, true_and]
  exact ⟨by rw [h1]; rfl, h2⟩
theorem compl_all (hp : Pl L H) (A : List Nat) (hs : A.Pairwise (· < ·)) : (runC (fun a _ => !a) (lowest :: flatP L H A) (prs L H A) [] []).length = A.length + 1 ∧ NoMerge (fun a _ => !a) (lowest :: flatP L H A) (prs L H A) [] [] := by
  obtain ⟨c, r, hf⟩ := flatP_cons (L := L) (H := H) A
  have hO : ∀ q ∈ [((lowest, c) : PC)].getLast?, ∀ n ∈ A, CLt q.2 (H n) := by
    intro q hq m hm
    simp at hq
    subst hq
    cases A with
    | nil => cases hm
    | cons a A =>
      cases hf
      show CLt (L a) (H m)
      rcases List.mem_cons.1 hm with rfl | h
      · exact hp.lh _
      · exact (hp.lh a).trans ((hp.hl a m ((List.pairwise_cons.1 hs).1 m h)).trans (hp.lh m))
  obtain ⟨h1, h2⟩ := compl_run hp A [(lowest, c)] hs hO
  obtain ⟨a1, a2⟩ := drop_lowest hp A
  have d0 : dropTo lowest ([] : List PC) = [] := rfl
  have b0 : begun lowest ([] : List PC) = false := rfl
  rw [hf] at h1 h2 ⊢
  simp only [runC, NoMerge, nextO, a1, a2, d0, b0, Bool.not_false, if_true, List.nil_append, List.getLast?_nil]
  refine ⟨by rw [h1]; simp; omega, ⟨fun _ q hq => (by cases hq), h2⟩⟩
theorem flat_sorted (hp : Pl L H) : ∀ (N : List Nat), N.Pairwise (· < ·) → (flatP L H N).Pairwise CLt ∧ ∀ c ∈ flatP L H N, CLt lowest c ∧ ∀ m, (∀ n ∈ N, m < n) → CLt (H m) c
  | [], _ => ⟨List.pairwise_singleton _ _, fun c hc => by
      simp [flatP] at hc
      subst hc
      exact ⟨low_high, fun m _ => hp.top m⟩⟩
  | n :: N, hs => by
    have hs' := List.pairwise_cons.1 hs
    obtain ⟨h1, h2⟩ := flat_sorted hp N hs'.2
    refine ⟨List.pairwise_cons.2 ⟨fun c hc => ?_, List.pairwise_cons.2 ⟨fun c hc => (h2 c hc).2 n hs'.1, h1⟩⟩, fun c hc => ?_⟩
    · rcases List.mem_cons.1 hc with rfl | hc
      · exact hp.lh n
      · exact (hp.lh n).trans ((h2 c hc).2 n hs'.1)
    · rcases List.mem_cons.1 hc with rfl | hc
      · exact ⟨hp.bot n, fun m hm => hp.hl m n (hm n (List.mem_cons_self ..))⟩
      · rcases List.mem_cons.1 hc with rfl | hc
        · exact ⟨(hp.bot n).trans (hp.lh n), fun m hm => (hp.hl m n (hm n (List.mem_cons_self ..))).trans (hp.lh n)⟩
        · exact ⟨(h2 c hc).1, fun m hm => (h2 c hc).2 m (fun k hk => hm k (List.mem_cons_of_mem _ hk))⟩
theorem all_sorted (hp : Pl L H) (N : List Nat) (hs : N.Pairwise (· < ·)) : (lowest :: flatP L H N).Pairwise CLt := by
  obtain ⟨h1, h2⟩ := flat_sorted hp N hs
  exact List.pairwise_cons.2 ⟨fun c hc => (h2 c hc).1, h1⟩
theorem flat_perm (L H : Nat → Cut) : ∀ (N : List Nat), (highest :: ((prs L H N).map fun p => [p.1, p.2]).flatten).Perm (flatP L H N)
  | [] => List.Perm.refl _
  | n :: N => by
    have h := flat_perm L H N
    show (highest :: L n :: H n :: _).Perm (L n :: H n :: _)
    exact (List.Perm.swap _ _ _).trans (List.Perm.cons _ ((List.Perm.swap _ _ _).trans (List.Perm.cons _ h)))
theorem all_perm (N : List Nat) : (placesOf (prs L H N)).Perm (lowest :: flatP L H N) := by
  unfold placesOf
  exact List.Perm.cons _ (flat_perm L H N)

end Go.Proofs.YtfmgjcgcocidfaaGreatDoor
