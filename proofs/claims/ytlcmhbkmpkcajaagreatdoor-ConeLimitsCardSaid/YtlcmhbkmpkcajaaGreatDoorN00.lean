/-
  Parts of the proof: Num.
-/
import Derived.WalkKit
namespace Go.Proofs.YtlcmhbkmpkcajaaGreatDoor
open Go.RowKit
def natL : List Nat → Nat
  | [] => 0
  | d :: l => d + 4294967296 * natL l
def Dg (l : List Nat) : Prop := ∀ d ∈ l, d < 4294967296
theorem natL_append : ∀ a b : List Nat, natL (a ++ b) = natL a + 4294967296 ^ a.length * natL b
  | [], b => by simp [natL]
  | d :: a, b => by
    have ih := natL_append a b
    simp only [List.cons_append, natL, ih, List.length_cons, Nat.pow_succ]
    rw [Nat.mul_add, Nat.add_assoc]
    congr 2
    rw [Nat.mul_comm (4294967296 ^ a.length) 4294967296, Nat.mul_assoc]
theorem natL_snoc (a : List Nat) (d : Nat) : natL (a ++ [d]) = natL a + 4294967296 ^ a.length * d := by
  rw [natL_append]; simp [natL]
theorem natL_zeros : ∀ n, natL (List.replicate n 0) = 0
  | 0 => rfl
  | n + 1 => by rw [List.replicate_succ, natL, natL_zeros n, Nat.mul_zero]
theorem Dg.append {a b : List Nat} (ha : Dg a) (hb : Dg b) : Dg (a ++ b) := fun d hd => by
  rcases List.mem_append.1 hd with h | h
  · exact ha d h
  · exact hb d h
theorem Dg.one {d : Nat} (h : d < 4294967296) : Dg [d] := fun x hx => by
  obtain rfl := List.mem_singleton.1 hx
  exact h
theorem Dg.take {l : List Nat} (h : Dg l) (k : Nat) : Dg (l.take k) := fun d hd => h d (List.mem_of_mem_take hd)
theorem Dg.zeros (n : Nat) : Dg (List.replicate n 0) := fun d hd => by
  obtain rfl := List.eq_of_mem_replicate hd
  decide
theorem natL_lt : ∀ {l : List Nat}, Dg l → natL l < 4294967296 ^ l.length
  | [], _ => by simp [natL]
  | d :: l, h => by
    have ih := natL_lt (l := l) (fun x hx => h x (by simp [hx]))
    have hd := h d (by simp)
    have h1 : natL l + 1 ≤ 4294967296 ^ l.length := ih
    have h2 : 4294967296 * (natL l + 1) ≤ 4294967296 * 4294967296 ^ l.length := Nat.mul_le_mul_left _ h1
    simp only [natL, List.length_cons, Nat.pow_succ]
    rw [Nat.mul_comm (4294967296 ^ l.length)]
    rw [Nat.mul_add] at h2
    omega
def limbs (n : Nat) : List Nat := if h : n = 0 then [] else (n % 4294967296) :: limbs (n / 4294967296)
termination_by n
decreasing_by exact Nat.div_lt_self (by omega) (by decide)
theorem limbs_zero : limbs 0 = [] := by rw [limbs]; simp
theorem limbs_pos {n : Nat} (h : n ≠ 0) : limbs n = (n % 4294967296) :: limbs (n / 4294967296) := by rw [limbs, dif_neg h]
theorem natL_limbs (n : Nat) : natL (limbs n) = n := by
  induction n using Nat.strongRecOn with
  | ind n ih =>
    by_cases h : n = 0
    · subst h; rw [limbs_zero]; rfl
    · rw [limbs_pos h, natL, ih _ (Nat.div_lt_self (by omega) (by decide)), Nat.mod_add_div]
theorem limbs_dg (n : Nat) : Dg (limbs n) := by
  induction n using Nat.strongRecOn with
  | ind n ih =>
    by_cases h : n = 0
    · subst h; rw [limbs_zero]; intro d hd; simp at hd
    · rw [limbs_pos h]
      intro d hd
      rcases List.mem_cons.1 hd with rfl | hd
      · exact Nat.mod_lt _ (by decide)
      · exact ih _ (Nat.div_lt_self (by omega) (by decide)) d hd
theorem limbs_nil {n : Nat} : limbs n = [] ↔ n = 0 := by
  constructor
  · intro h
    have := natL_limbs n
    rw [h] at this
    exact this.symm
  · rintro rfl; exact limbs_zero
theorem limbs_of : ∀ {l : List Nat}, Dg l → (∀ d, l.getLast? = some d → d ≠ 0) → limbs (natL l) = l
  | [], _, _ => limbs_zero
  | d :: l, h, hn => by
    have hd := h d (by simp)
    have hdl : Dg l := fun x hx => h x (by simp [hx])
    have hl : ∀ e, l.getLast? = some e → e ≠ 0 := fun e he => hn e (by
      cases l with
      | nil => simp at he
      | cons a l => rw [List.getLast?_cons_cons]; exact he)
    have ih := limbs_of hdl hl
    have hne : natL (d :: l) ≠ 0 := by
      cases l with
      | nil =>
        have := hn d (by simp)
        simp only [natL]
        omega
      | cons a l =>
        have : natL (a :: l) ≠ 0 := fun h0 => by rw [h0, limbs_zero] at ih; cases ih
        simp only [natL] at this ⊢
        omega
    rw [limbs_pos hne]
    have h1 : natL (d :: l) % 4294967296 = d := by simp only [natL]; omega
    have h2 : natL (d :: l) / 4294967296 = natL l := by simp only [natL]; omega
    rw [h1, h2, ih]
theorem limbs_take {l : List Nat} (hd : Dg l) : ∃ k, k ≤ l.length ∧ limbs (natL l) = l.take k := by
  have key : ∀ k, k ≤ l.length → natL (l.take k) = natL l → ∃ k, k ≤ l.length ∧ limbs (natL l) = l.take k := by
    intro k
    induction k with
    | zero => intro _ h; exact ⟨0, Nat.zero_le _, by rw [← h, List.take_zero]; exact limbs_zero⟩
    | succ j ih =>
      intro hk h
      have hg : l[j]? = some (l[j]'(by omega)) := by simp
      by_cases hz : l[j]'(by omega) = 0
      · refine ih (by omega) ?_
        rw [List.take_add_one, hg, hz] at h
        rw [← h, Option.toList_some, natL_snoc]
        simp
      · refine ⟨j + 1, hk, ?_⟩
        rw [← h]
        refine limbs_of (hd.take _) (fun e he => ?_)
        rw [List.take_add_one, hg, Option.toList_some, List.getLast?_concat] at he
        cases he
        exact hz
  exact key l.length (Nat.le_refl _) (by rw [List.take_length])
theorem limbs_last {n d : Nat} (h : (limbs n).getLast? = some d) : d ≠ 0 := by
  induction n using Nat.strongRecOn generalizing d with
  | ind n ih =>
    by_cases h0 : n = 0
    · subst h0; rw [limbs_zero] at h; simp at h
    · rw [limbs_pos h0] at h
      by_cases h1 : n / 4294967296 = 0
      · rw [h1, limbs_zero] at h
        simp at h
        omega
      · cases hl : limbs (n / 4294967296) with
        | nil => exact absurd (limbs_nil.1 hl) h1
        | cons a l =>
          rw [hl, List.getLast?_cons_cons, ← hl] at h
          exact ih _ (Nat.div_lt_self (by omega) (by decide)) h
theorem limbs_pow {n : Nat} (h : n ≠ 0) : 4294967296 ^ ((limbs n).length - 1) ≤ n := by
  induction n using Nat.strongRecOn with
  | ind n ih =>
    rw [limbs_pos h]
    simp only [List.length_cons, Nat.add_sub_cancel]
    by_cases h1 : n / 4294967296 = 0
    · rw [h1, limbs_zero]; simp; omega
    · have := ih _ (Nat.div_lt_self (by omega) (by decide)) h1
      have hl : (limbs (n / 4294967296)).length ≠ 0 := fun h2 => h1 (limbs_nil.1 (List.length_eq_zero_iff.1 h2))
      have e : (limbs (n / 4294967296)).length = ((limbs (n / 4294967296)).length - 1) + 1 := by omega
      rw [e, Nat.pow_succ]
      have h3 : 4294967296 ^ ((limbs (n / 4294967296)).length - 1) * 4294967296 ≤ n / 4294967296 * 4294967296 := Nat.mul_le_mul_right _ this
      exact Nat.le_trans h3 (Nat.div_mul_le_self n 4294967296)
theorem limbs_len_lt {a b : Nat} (h : (limbs a).length < (limbs b).length) : a < b := by
  have h1 := natL_lt (limbs_dg a)
  rw [natL_limbs] at h1
  have hb : b ≠ 0 := fun h0 => by subst h0; rw [limbs_zero] at h; simp at h
  have h2 := limbs_pow hb
  have h3 : 4294967296 ^ (limbs a).length ≤ 4294967296 ^ ((limbs b).length - 1) := Nat.pow_le_pow_right (by decide) (by omega)
  omega
theorem limbs_len_le {a b : Nat} (h : a ≤ b) : (limbs a).length ≤ (limbs b).length := by
  rcases Nat.lt_or_ge (limbs b).length (limbs a).length with h1 | h1
  · have := limbs_len_lt h1; omega
  · exact h1
theorem natL_cmp {a b : List Nat} (hl : a.length = b.length) {k : Nat} (hk : k < a.length) (ha : Dg a) (hs : a.drop (k + 1) = b.drop (k + 1)) (hlt : a.getD k 0 < b.getD k 0) : natL a < natL b := by
  have e1 : a = a.take k ++ (a.getD k 0 :: a.drop (k + 1)) := by
    rw [List.getD_eq_getElem?_getD, List.getElem?_eq_getElem hk, Option.getD_some, ← List.drop_eq_getElem_cons hk, List.take_append_drop]
  have e2 : b = b.take k ++ (b.getD k 0 :: b.drop (k + 1)) := by
    rw [List.getD_eq_getElem?_getD, List.getElem?_eq_getElem (by omega), Option.getD_some, ← List.drop_eq_getElem_cons (by omega), List.take_append_drop]
  have h1 := natL_lt (ha.take k)
  rw [List.length_take, Nat.min_eq_left (by omega)] at h1
  rw [e1, e2, natL_append, natL_append, hs, List.length_take, List.length_take, Nat.min_eq_left (by omega), Nat.min_eq_left (by omega)]
  simp only [natL]
  have h2 : a.getD k 0 + 1 + 4294967296 * natL (b.drop (k + 1)) ≤ b.getD k 0 + 4294967296 * natL (b.drop (k + 1)) := by omega
  have h3 : 4294967296 ^ k * (a.getD k 0 + 1 + 4294967296 * natL (b.drop (k + 1))) ≤ 4294967296 ^ k * (b.getD k 0 + 4294967296 * natL (b.drop (k + 1))) := Nat.mul_le_mul_left _ h2
  have h4 : 4294967296 ^ k * (a.getD k 0 + 1 + 4294967296 * natL (b.drop (k + 1))) = 4294967296 ^ k * (a.getD k 0 + 4294967296 * natL (b.drop (k + 1))) + 4294967296 ^ k := by
    rw [show a.getD k 0 + 1 + 4294967296 * natL (b.drop (k + 1)) = a.getD k 0 + 4294967296 * natL (b.drop (k + 1)) + 1 by omega, Nat.mul_add, Nat.mul_one]
  omega
theorem natL_set {l : List Nat} {j : Nat} (h : j < l.length) (v : Nat) : natL (l.set j v) + 4294967296 ^ j * l.getD j 0 = natL l + 4294967296 ^ j * v := by
  have e1 : l = l.take j ++ (l.getD j 0 :: l.drop (j + 1)) := by
    rw [List.getD_eq_getElem?_getD, List.getElem?_eq_getElem h, Option.getD_some, ← List.drop_eq_getElem_cons h, List.take_append_drop]
  have e2 : l.set j v = l.take j ++ (v :: l.drop (j + 1)) := by
    rw [List.set_eq_take_append_cons_drop, if_pos h]
  have h2 : natL l = natL (l.take j) + 4294967296 ^ j * (l.getD j 0 + 4294967296 * natL (l.drop (j + 1))) := by
    conv => lhs; rw [e1]
    rw [natL_append, List.length_take, Nat.min_eq_left (by omega), natL]
  rw [e2, natL_append, List.length_take, Nat.min_eq_left (by omega), natL, h2]
  rw [Nat.mul_add, Nat.mul_add]
  omega
theorem take_next {l : List Nat} {i d : Nat} (h : l[i]? = some d) : natL (l.take (i + 1)) = natL (l.take i) + 4294967296 ^ i * d := by
  have hi : i < l.length := by
    rcases Nat.lt_or_ge i l.length with h' | h'
    · exact h'
    · rw [List.getElem?_eq_none h'] at h; cases h
  rw [List.take_add_one, h, Option.toList_some, natL_snoc, List.length_take, Nat.min_eq_left (by omega)]
theorem carry_step {done : List Nat} {i t c S : Nat} (hl : done.length = i) (h : natL done + 4294967296 ^ i * c = S) {T : Nat} (ht : t = c + T) : natL (done ++ [t % 4294967296]) + 4294967296 ^ (i + 1) * (t / 4294967296) = S + 4294967296 ^ i * T := by
  rw [natL_snoc, hl, Nat.pow_succ, Nat.mul_assoc]
  have h1 : 4294967296 ^ i * (t % 4294967296) + 4294967296 ^ i * (4294967296 * (t / 4294967296)) = 4294967296 ^ i * t := by rw [← Nat.mul_add, Nat.mod_add_div]
  have h2 : 4294967296 ^ i * t = 4294967296 ^ i * c + 4294967296 ^ i * T := by rw [ht, Nat.mul_add]
  omega
theorem borrow_step {done : List Nat} {i d y x bo bo' A C : Nat} (hl : done.length = i) (h : A + 4294967296 ^ i * bo = natL done + C) (hx : d + 4294967296 * bo' = x + y + bo) : (A + 4294967296 ^ i * d) + 4294967296 ^ (i + 1) * bo' = natL (done ++ [x]) + (C + 4294967296 ^ i * y) := by
  rw [natL_snoc, hl, Nat.pow_succ, Nat.mul_assoc]
  have h1 : 4294967296 ^ i * (d + 4294967296 * bo') = 4294967296 ^ i * (x + y + bo) := by rw [hx]
  rw [Nat.mul_add, Nat.mul_add, Nat.mul_add] at h1
  omega
theorem short_step {done : List Nat} {d rest by' : Nat} {S : Nat} (h : natL done * by' + rest = S) : natL ((rest * 4294967296 + d) / by' :: done) * by' + (rest * 4294967296 + d) % by' = d + 4294967296 * S := by
  have h1 := Nat.div_add_mod (rest * 4294967296 + d) by'
  rw [Nat.mul_comm] at h1
  simp only [natL]
  rw [Nat.add_mul, ← h, Nat.mul_add, Nat.mul_assoc]
  have h2 : rest * 4294967296 = 4294967296 * rest := Nat.mul_comm _ _
  omega
theorem natL_drop {l : List Nat} {i d : Nat} (h : l[i]? = some d) : natL (l.drop i) = d + 4294967296 * natL (l.drop (i + 1)) := by
  have hi : i < l.length := by
    rcases Nat.lt_or_ge i l.length with h' | h'
    · exact h'
    · rw [List.getElem?_eq_none h'] at h; cases h
  rw [List.getElem?_eq_getElem hi] at h
  rw [List.drop_eq_getElem_cons hi, natL, Option.some.inj h]
theorem put_done (done : List Nat) (n x : Nat) : (done ++ List.replicate (n + 1) 0).set done.length x = (done ++ [x]) ++ List.replicate n 0 := by
  rw [List.replicate_succ, List.set_append_right _ _ (Nat.le_refl _), Nat.sub_self, List.set_cons_zero, List.append_assoc]; rfl
theorem put_down (done : List Nat) (n x : Nat) : (List.replicate (n + 1) 0 ++ done).set n x = List.replicate n 0 ++ (x :: done) := by
  rw [List.replicate_succ', List.append_assoc, List.set_append_right _ _ (by simp), List.length_replicate, Nat.sub_self]; rfl
def sgn (neg : Bool) (n : Nat) : Int := if neg then -(n : Int) else n
theorem sgn_abs (neg : Bool) (n : Nat) : (sgn neg n).natAbs = n := by cases neg <;> simp [sgn]
theorem sgn_of (z : Int) : sgn (decide (z < 0)) z.natAbs = z := by
  unfold sgn
  by_cases h : z < 0
  · rw [decide_eq_true h, if_pos rfl]; omega
  · rw [decide_eq_false (by omega), if_neg (by simp)]; omega
end Go.Proofs.YtlcmhbkmpkcajaaGreatDoor
