/-
  Parts of the proof: Dten, Rb, Rtext, Ds, Rsg, Rdm, Rcq, Rtx.
-/
import Derived.Laws.IdiomStrings
import Derived.Test.YtlcmhbkmpkcajaaGreatDoorN13
namespace Go.Proofs.YtlcmhbkmpkcajaaGreatDoor.D10
open Go.RowKit
def natL : List Nat → Nat
  | [] => 0
  | d :: l => d + 10 * natL l
def Dg (l : List Nat) : Prop := ∀ d ∈ l, d < 10
theorem natL_append : ∀ a b : List Nat, natL (a ++ b) = natL a + 10 ^ a.length * natL b
  | [], b => by simp [natL]
  | d :: a, b => by
    have ih := natL_append a b
    simp only [List.cons_append, natL, ih, List.length_cons, Nat.pow_succ]
    rw [Nat.mul_add, Nat.add_assoc]
    congr 2
    rw [Nat.mul_comm (10 ^ a.length) 10, Nat.mul_assoc]
theorem natL_snoc (a : List Nat) (d : Nat) : natL (a ++ [d]) = natL a + 10 ^ a.length * d := by
  rw [natL_append]; simp [natL]
theorem natL_zeros : ∀ n, natL (List.replicate n 0) = 0
  | 0 => rfl
  | n + 1 => by rw [List.replicate_succ, natL, natL_zeros n, Nat.mul_zero]
theorem Dg.append {a b : List Nat} (ha : Dg a) (hb : Dg b) : Dg (a ++ b) := fun d hd => by
  rcases List.mem_append.1 hd with h | h
  · exact ha d h
  · exact hb d h
theorem Dg.one {d : Nat} (h : d < 10) : Dg [d] := fun x hx => by
  obtain rfl := List.mem_singleton.1 hx
  exact h
theorem Dg.take {l : List Nat} (h : Dg l) (k : Nat) : Dg (l.take k) := fun d hd => h d (List.mem_of_mem_take hd)
theorem Dg.zeros (n : Nat) : Dg (List.replicate n 0) := fun d hd => by
  obtain rfl := List.eq_of_mem_replicate hd
  decide
theorem natL_lt : ∀ {l : List Nat}, Dg l → natL l < 10 ^ l.length
  | [], _ => by simp [natL]
  | d :: l, h => by
    have ih := natL_lt (l := l) (fun x hx => h x (by simp [hx]))
    have hd := h d (by simp)
    have h1 : natL l + 1 ≤ 10 ^ l.length := ih
    have h2 : 10 * (natL l + 1) ≤ 10 * 10 ^ l.length := Nat.mul_le_mul_left _ h1
    simp only [natL, List.length_cons, Nat.pow_succ]
    rw [Nat.mul_comm (10 ^ l.length)]
    rw [Nat.mul_add] at h2
    omega
def limbs (n : Nat) : List Nat := if h : n = 0 then [] else (n % 10) :: limbs (n / 10)
termination_by n
decreasing_by exact Nat.div_lt_self (by omega) (by decide)
theorem limbs_zero : limbs 0 = [] := by rw [limbs]; simp
theorem limbs_pos {n : Nat} (h : n ≠ 0) : limbs n = (n % 10) :: limbs (n / 10) := by rw [limbs, dif_neg h]
theorem natL_limbs (n : Nat) : natL (limbs n) = n := by
  induction n using Nat.strongRecOn with
  | ind n ih =>
    by_cases h : n = 0
    · subst h; rw [limbs_zero]; rfl
    · rw [limbs_pos h, natL, ih _ (Nat.div_lt_self (by omega) (by decide)), Nat.mod_add_div]
theorem limbs_dg (n : Nat) : Dg (limbs n) := by
  induction n using Nat.strongRecOn with
  | ind n ih =>
    by_cases h : n = 0
    · subst h; rw [limbs_zero]; intro d hd; simp at hd
    · rw [limbs_pos h]
      intro d hd
      rcases List.mem_cons.1 hd with rfl | hd
      · exact Nat.mod_lt _ (by decide)
      · exact ih _ (Nat.div_lt_self (by omega) (by decide)) d hd
theorem limbs_nil {n : Nat} : limbs n = [] ↔ n = 0 := by
  constructor
  · intro h
    have := natL_limbs n
    rw [h] at this
    exact this.symm
  · rintro rfl; exact limbs_zero
theorem limbs_of : ∀ {l : List Nat}, Dg l → (∀ d, l.getLast? = some d → d ≠ 0) → limbs (natL l) = l
  | [], _, _ => limbs_zero
  | d :: l, h, hn => by
    have hd := h d (by simp)
    have hdl : Dg l := fun x hx => h x (by simp [hx])
    have hl : ∀ e, l.getLast? = some e → e ≠ 0 := fun e he => hn e (by
      cases l with
      | nil => simp at he
      | cons a l => rw [List.getLast?_cons_cons]; exact he)
    have ih := limbs_of hdl hl
    have hne : natL (d :: l) ≠ 0 := by
      cases l with
      | nil =>
        have := hn d (by simp)
        simp only [natL]
        omega
      | cons a l =>
        have : natL (a :: l) ≠ 0 := fun h0 => by rw [h0, limbs_zero] at ih; cases ih
        simp only [natL] at this ⊢
        omega
    rw [limbs_pos hne]
    have h1 : natL (d :: l) % 10 = d := by simp only [natL]; omega
    have h2 : natL (d :: l) / 10 = natL l := by simp only [natL]; omega
    rw [h1, h2, ih]
theorem limbs_take {l : List Nat} (hd : Dg l) : ∃ k, k ≤ l.length ∧ limbs (natL l) = l.take k := by
  have key : ∀ k, k ≤ l.length → natL (l.take k) = natL l → ∃ k, k ≤ l.length ∧ limbs (natL l) = l.take k := by
    intro k
    induction k with
    | zero => intro _ h; exact ⟨0, Nat.zero_le _, by rw [← h, List.take_zero]; exact limbs_zero⟩
    | succ j ih =>
      intro hk h
      have hg : l[j]? = some (l[j]'(by omega)) := by simp
      by_cases hz : l[j]'(by omega) = 0
      · refine ih (by omega) ?_
        rw [List.take_add_one, hg, hz] at h
        rw [← h, Option.toList_some, natL_snoc]
        simp
      · refine ⟨j + 1, hk, ?_⟩
        rw [← h]
        refine limbs_of (hd.take _) (fun e he => ?_)
        rw [List.take_add_one, hg, Option.toList_some, List.getLast?_concat] at he
        cases he
        exact hz
  exact key l.length (Nat.le_refl _) (by rw [List.take_length])
theorem limbs_last {n d : Nat} (h : (limbs n).getLast? = some d) : d ≠ 0 := by
  induction n using Nat.strongRecOn generalizing d with
  | ind n ih =>
    by_cases h0 : n = 0
    · subst h0; rw [limbs_zero] at h; simp at h
    · rw [limbs_pos h0] at h
      by_cases h1 : n / 10 = 0
      · rw [h1, limbs_zero] at h
        simp at h
        omega
      · cases hl : limbs (n / 10) with
        | nil => exact absurd (limbs_nil.1 hl) h1
        | cons a l =>
          rw [hl, List.getLast?_cons_cons, ← hl] at h
          exact ih _ (Nat.div_lt_self (by omega) (by decide)) h
theorem limbs_pow {n : Nat} (h : n ≠ 0) : 10 ^ ((limbs n).length - 1) ≤ n := by
  induction n using Nat.strongRecOn with
  | ind n ih =>
    rw [limbs_pos h]
    simp only [List.length_cons, Nat.add_sub_cancel]
    by_cases h1 : n / 10 = 0
    · rw [h1, limbs_zero]; simp; omega
    · have := ih _ (Nat.div_lt_self (by omega) (by decide)) h1
      have hl : (limbs (n / 10)).length ≠ 0 := fun h2 => h1 (limbs_nil.1 (List.length_eq_zero_iff.1 h2))
      have e : (limbs (n / 10)).length = ((limbs (n / 10)).length - 1) + 1 := by omega
      rw [e, Nat.pow_succ]
      have h3 : 10 ^ ((limbs (n / 10)).length - 1) * 10 ≤ n / 10 * 10 := Nat.mul_le_mul_right _ this
      exact Nat.le_trans h3 (Nat.div_mul_le_self n 10)
theorem limbs_len_lt {a b : Nat} (h : (limbs a).length < (limbs b).length) : a < b := by
  have h1 := natL_lt (limbs_dg a)
  rw [natL_limbs] at h1
  have hb : b ≠ 0 := fun h0 => by subst h0; rw [limbs_zero] at h; simp at h
  have h2 := limbs_pow hb
  have h3 : 10 ^ (limbs a).length ≤ 10 ^ ((limbs b).length - 1) := Nat.pow_le_pow_right (by decide) (by omega)
  omega
theorem limbs_len_le {a b : Nat} (h : a ≤ b) : (limbs a).length ≤ (limbs b).length := by
  rcases Nat.lt_or_ge (limbs b).length (limbs a).length with h1 | h1
  · have := limbs_len_lt h1; omega
  · exact h1
theorem natL_cmp {a b : List Nat} (hl : a.length = b.length) {k : Nat} (hk : k < a.length) (ha : Dg a) (hs : a.drop (k + 1) = b.drop (k + 1)) (hlt : a.getD k 0 < b.getD k 0) : natL a < natL b := by
  have e1 : a = a.take k ++ (a.getD k 0 :: a.drop (k + 1)) := by
    rw [List.getD_eq_getElem?_getD, List.getElem?_eq_getElem hk, Option.getD_some, ← List.drop_eq_getElem_cons hk, List.take_append_drop]
  have e2 : b = b.take k ++ (b.getD k 0 :: b.drop (k + 1)) := by
    rw [List.getD_eq_getElem?_getD, List.getElem?_eq_getElem (by omega), Option.getD_some, ← List.drop_eq_getElem_cons (by omega), List.take_append_drop]
  have h1 := natL_lt (ha.take k)
  rw [List.length_take, Nat.min_eq_left (by omega)] at h1
  rw [e1, e2, natL_append, natL_append, hs, List.length_take, List.length_take, Nat.min_eq_left (by omega), Nat.min_eq_left (by omega)]
  simp only [natL]
  have h2 : a.getD k 0 + 1 + 10 * natL (b.drop (k + 1)) ≤ b.getD k 0 + 10 * natL (b.drop (k + 1)) := by omega
  have h3 : 10 ^ k * (a.getD k 0 + 1 + 10 * natL (b.drop (k + 1))) ≤ 10 ^ k * (b.getD k 0 + 10 * natL (b.drop (k + 1))) := Nat.mul_le_mul_left _ h2
  have h4 : 10 ^ k * (a.getD k 0 + 1 + 10 * natL (b.drop (k + 1))) = 10 ^ k * (a.getD k 0 + 10 * natL (b.drop (k + 1))) + 10 ^ k := by
    rw [show a.getD k 0 + 1 + 10 * natL (b.drop (k + 1)) = a.getD k 0 + 10 * natL (b.drop (k + 1)) + 1 by omega, Nat.mul_add, Nat.mul_one]
  omega
theorem natL_set {l : List Nat} {j : Nat} (h : j < l.length) (v : Nat) : natL (l.set j v) + 10 ^ j * l.getD j 0 = natL l + 10 ^ j * v := by
  have e1 : l = l.take j ++ (l.getD j 0 :: l.drop (j + 1)) := by
    rw [List.getD_eq_getElem?_getD, List.getElem?_eq_getElem h, Option.getD_some, ← List.drop_eq_getElem_cons h, List.take_append_drop]
  have e2 : l.set j v = l.take j ++ (v :: l.drop (j + 1)) := by
    rw [List.set_eq_take_append_cons_drop, if_pos h]
  have h2 : natL l = natL (l.take j) + 10 ^ j * (l.getD j 0 + 10 * natL (l.drop (j + 1))) := by
    conv => lhs; rw [e1]
    rw [natL_append, List.length_take, Nat.min_eq_left (by omega), natL]
  rw [e2, natL_append, List.length_take, Nat.min_eq_left (by omega), natL, h2]
  rw [Nat.mul_add, Nat.mul_add]
  omega
theorem take_next {l : List Nat} {i d : Nat} (h : l[i]? = some d) : natL (l.take (i + 1)) = natL (l.take i) + 10 ^ i * d := by
  have hi : i < l.length := by
    rcases Nat.lt_or_ge i l.length with h' | h'
    · exact h'
    · rw [List.getElem?_eq_none h'] at h; cases h
  rw [List.take_add_one, h, Option.toList_some, natL_snoc, List.length_take, Nat.min_eq_left (by omega)]
theorem carry_step {done : List Nat} {i t c S : Nat} (hl : done.length = i) (h : natL done + 10 ^ i * c = S) {T : Nat} (ht : t = c + T) : natL (done ++ [t % 10]) + 10 ^ (i + 1) * (t / 10) = S + 10 ^ i * T := by
  rw [natL_snoc, hl, Nat.pow_succ, Nat.mul_assoc]
  have h1 : 10 ^ i * (t % 10) + 10 ^ i * (10 * (t / 10)) = 10 ^ i * t := by rw [← Nat.mul_add, Nat.mod_add_div]
  have h2 : 10 ^ i * t = 10 ^ i * c + 10 ^ i * T := by rw [ht, Nat.mul_add]
  omega
theorem borrow_step {done : List Nat} {i d y x bo bo' A C : Nat} (hl : done.length = i) (h : A + 10 ^ i * bo = natL done + C) (hx : d + 10 * bo' = x + y + bo) : (A + 10 ^ i * d) + 10 ^ (i + 1) * bo' = natL (done ++ [x]) + (C + 10 ^ i * y) := by
  rw [natL_snoc, hl, Nat.pow_succ, Nat.mul_assoc]
  have h1 : 10 ^ i * (d + 10 * bo') = 10 ^ i * (x + y + bo) := by rw [hx]
  rw [Nat.mul_add, Nat.mul_add, Nat.mul_add] at h1
  omega
theorem short_step {done : List Nat} {d rest by' : Nat} {S : Nat} (h : natL done * by' + rest = S) : natL ((rest * 10 + d) / by' :: done) * by' + (rest * 10 + d) % by' = d + 10 * S := by
  have h1 := Nat.div_add_mod (rest * 10 + d) by'
  rw [Nat.mul_comm] at h1
  simp only [natL]
  rw [Nat.add_mul, ← h, Nat.mul_add, Nat.mul_assoc]
  have h2 : rest * 10 = 10 * rest := Nat.mul_comm _ _
  omega
theorem natL_drop {l : List Nat} {i d : Nat} (h : l[i]? = some d) : natL (l.drop i) = d + 10 * natL (l.drop (i + 1)) := by
  have hi : i < l.length := by
    rcases Nat.lt_or_ge i l.length with h' | h'
    · exact h'
    · rw [List.getElem?_eq_none h'] at h; cases h
  rw [List.getElem?_eq_getElem hi] at h
  rw [List.drop_eq_getElem_cons hi, natL, Option.some.inj h]
theorem put_done (done : List Nat) (n x : Nat) : (done ++ List.replicate (n + 1) 0).set done.length x = (done ++ [x]) ++ List.replicate n 0 := by
  rw [List.replicate_succ, List.set_append_right _ _ (Nat.le_refl _), Nat.sub_self, List.set_cons_zero, List.append_assoc]; rfl
theorem put_down (done : List Nat) (n x : Nat) : (List.replicate (n + 1) 0 ++ done).set n x = List.replicate n 0 ++ (x :: done) := by
  rw [List.replicate_succ', List.append_assoc, List.set_append_right _ _ (by simp), List.length_replicate, Nat.sub_self]; rfl
theorem natL_text : ∀ l : List UInt8, natL (l.reverse.map dv) = valD l
  | [] => rfl
  | c :: l => by
    have ih := natL_text l
    rw [List.reverse_cons, List.map_append, natL_append, ih, List.length_map, List.length_reverse]
    have h1 : valD (c :: l) = dv c * 10 ^ l.length + valD l := by
      have := valD_append [c] l
      simpa [valD, valF_cons, valF_nil] using this
    rw [h1]
    simp only [List.map_cons, List.map_nil, natL, Nat.mul_zero, Nat.add_zero]
    rw [Nat.mul_comm (dv c)]
    omega
end Go.Proofs.YtlcmhbkmpkcajaaGreatDoor.D10
namespace Go.Proofs.YtlcmhbkmpkcajaaGreatDoor
open Go.RowKit
def bytesD (d : List Nat) : List UInt8 := (d.map fun x => UInt8.ofNat (48 + x)).reverse
end Go.Proofs.YtlcmhbkmpkcajaaGreatDoor
namespace Go.Proofs.YtlcmhbkmpkcajaaGreatDoor
open Go.RowKit
def txtD (neg : Bool) (m : List Nat) : List UInt8 := if m = [] then [48] else (if neg then 45 :: bytesD m else bytesD m)
end Go.Proofs.YtlcmhbkmpkcajaaGreatDoor
namespace Go.Proofs.YtlcmhbkmpkcajaaGreatDoor
open Go.RowKit
def Few10 (N : Nat) : Prop := (D10.limbs N).length ≤ 20000
theorem few10_lt {N k : Nat} (h : N < 10 ^ k) (hk : k ≤ 20000) : Few10 N := by
  unfold Few10
  rcases Nat.lt_or_ge 20000 (D10.limbs N).length with h3 | h3
  · exfalso
    have h0 : N ≠ 0 := fun e => by rw [e, D10.limbs_zero] at h3; simp at h3
    have h4 := D10.limbs_pow h0
    have h5 : (D10.limbs N).length - 1 < k := (Nat.pow_lt_pow_iff_right (by decide)).1 (Nat.lt_of_le_of_lt h4 h)
    omega
  · exact h3
def txtN (neg : Bool) (N : Nat) : List UInt8 := txtD neg (D10.limbs N)
def txtZ (z : Int) : List UInt8 := txtN (decide (z < 0)) z.natAbs
theorem bytesD_val : ∀ (m : List Nat), D10.Dg m → AllD (bytesD m) ∧ (bytesD m).reverse.map dv = m := by
  intro m hm
  have hb : ∀ x, x < 10 → isD (UInt8.ofNat (48 + x)) = true ∧ dv (UInt8.ofNat (48 + x)) = x := by
    intro x hx
    have : (UInt8.ofNat (48 + x)).toNat = 48 + x := by rw [UInt8.toNat_ofNat']; omega
    exact ⟨isD_iff.2 (by omega), by unfold dv; omega⟩
  constructor
  · intro c hc
    unfold bytesD at hc
    obtain ⟨x, hx, rfl⟩ := List.mem_map.1 (List.mem_reverse.1 hc)
    exact (hb x (hm x hx)).1
  · unfold bytesD
    rw [List.reverse_reverse, List.map_map]
    conv => rhs; rw [← List.map_id m]
    exact List.map_congr_left (fun x hx => (hb x (hm x hx)).2)
theorem valD_bytes (N : Nat) : valD (bytesD (D10.limbs N)) = N := by
  rw [← D10.natL_text, (bytesD_val _ (D10.limbs_dg N)).2, D10.natL_limbs]
theorem txtN_abs (neg : Bool) (N : Nat) : ∃ p, AllD p ∧ p ≠ [] ∧ valD p = N ∧ (txtN neg N = p ∨ txtN neg N = 45 :: p) ∧ p.length ≤ (D10.limbs N).length + 1 := by
  unfold txtN txtD
  by_cases h : D10.limbs N = []
  · rw [if_pos h]
    have h0 := D10.limbs_nil.1 h
    subst h0
    exact ⟨[48], by intro c hc; obtain rfl := List.mem_singleton.1 hc; decide, by simp, rfl, .inl rfl, by simp⟩
  · rw [if_neg h]
    refine ⟨bytesD (D10.limbs N), (bytesD_val _ (D10.limbs_dg N)).1, ?_, valD_bytes N, ?_, by unfold bytesD; simp⟩
    · intro e
      unfold bytesD at e
      simp at e
      exact h e
    · cases neg
      · exact .inl rfl
      · exact .inr rfl
end Go.Proofs.YtlcmhbkmpkcajaaGreatDoor
namespace Go.Proofs.YtlcmhbkmpkcajaaGreatDoor
open Go.RowKit
theorem txtZ_zero : txtZ 0 = [48] := by
  unfold txtZ txtN txtD
  rw [show (0 : Int).natAbs = 0 from rfl, D10.limbs_zero, if_pos rfl]
theorem bytesD_last {m : List Nat} (h : m ≠ []) : ∃ x r, m.getLast? = some x ∧ bytesD m = UInt8.ofNat (48 + x) :: r := by
  obtain ⟨x, hx⟩ : ∃ x, m.getLast? = some x := by
    cases hl : m.getLast? with
    | none => exact absurd (List.getLast?_eq_none_iff.1 hl) h
    | some x => exact ⟨x, rfl⟩
  obtain ⟨i, hi⟩ := List.getLast?_eq_some_iff.1 hx
  refine ⟨x, bytesD i, hx, ?_⟩
  rw [hi]
  unfold bytesD
  simp
theorem txtZ_head {z : Int} (h : z ≠ 0) : ∃ c r, txtZ z = c :: r ∧ (z < 0 → c = 45) ∧ (0 < z → c ≠ 45 ∧ c ≠ 48) := by
  have hm : D10.limbs z.natAbs ≠ [] := fun e => h (by have := D10.limbs_nil.1 e; omega)
  unfold txtZ txtN txtD
  rw [if_neg hm]
  by_cases hz : z < 0
  · rw [decide_eq_true hz, if_pos rfl]
    exact ⟨45, _, rfl, fun _ => rfl, fun h2 => by omega⟩
  · rw [decide_eq_false hz, if_neg (by decide)]
    obtain ⟨x, r, hx, hb⟩ := bytesD_last hm
    rw [hb]
    have hx0 := D10.limbs_last hx
    have hx10 := D10.limbs_dg _ x (List.mem_of_getLast? hx)
    have ht : (UInt8.ofNat (48 + x)).toNat = 48 + x := by rw [UInt8.toNat_ofNat']; omega
    refine ⟨_, r, rfl, fun h2 => absurd h2 hz, fun _ => ⟨fun e => ?_, fun e => ?_⟩⟩
    · rw [e] at ht
      have : (45 : UInt8).toNat = 45 := rfl
      omega
    · rw [e] at ht
      have : (48 : UInt8).toNat = 48 := rfl
      omega
end Go.Proofs.YtlcmhbkmpkcajaaGreatDoor
namespace Go.Proofs.YtlcmhbkmpkcajaaGreatDoor
open Go.RowKit
theorem txtZ_nat (n : Nat) : txtZ (n : Int) = txtN false n := by
  unfold txtZ
  rw [decide_eq_false (by omega), Int.natAbs_natCast]
end Go.Proofs.YtlcmhbkmpkcajaaGreatDoor
namespace Go.Proofs.YtlcmhbkmpkcajaaGreatDoor
open Go.RowKit
theorem limbs10_le {N k : Nat} (h : N < 10 ^ k) : (D10.limbs N).length ≤ k := by
  rcases Nat.lt_or_ge k (D10.limbs N).length with h3 | h3
  · exfalso
    have h0 : N ≠ 0 := fun e => by rw [e, D10.limbs_zero] at h3; simp at h3
    have h4 := D10.limbs_pow h0
    have h5 : (D10.limbs N).length - 1 < k := (Nat.pow_lt_pow_iff_right (by decide)).1 (Nat.lt_of_le_of_lt h4 h)
    omega
  · exact h3
theorem num_of {l : List UInt8} (h : errL l = 0) : numR l = numL l ∧ denR l = (denL l : Int) := by
  unfold numR denR
  rw [if_pos h, if_pos h]
  exact ⟨rfl, rfl⟩
end Go.Proofs.YtlcmhbkmpkcajaaGreatDoor
namespace Go.Proofs.YtlcmhbkmpkcajaaGreatDoor
def txtR (r : Rat) : List UInt8 := if r.den = 1 then txtZ r.num else txtZ r.num ++ 47 :: txtZ (r.den : Int)
theorem txtZ_pos {N : Nat} (h : N ≠ 0) : txtZ (N : Int) = bytesD (D10.limbs N) := by
  rw [txtZ_nat]
  unfold txtN txtD
  rw [if_neg (fun e => h (D10.limbs_nil.1 e)), if_neg (by decide)]
theorem bytesD_head {N : Nat} (h : N ≠ 0) : ∃ c r, bytesD (D10.limbs N) = c :: r ∧ c ≠ 45 ∧ c ≠ 48 := by
  obtain ⟨c, r, ht, -, hp⟩ := txtZ_head (z := (N : Int)) (by omega)
  rw [txtZ_pos h] at ht
  exact ⟨c, r, ht, hp (by omega)⟩
theorem bad_head {c : UInt8} {r : List UInt8} (h : c ≠ 48) (neg : Bool) : badI (c :: r) neg = false := by
  unfold badI
  simp [h]
theorem txtZ_abs (z : Int) : negB (txtZ z) = decide (z < 0) ∧ AllD (absL (txtZ z)) ∧ absL (txtZ z) ≠ [] ∧ valD (absL (txtZ z)) = z.natAbs ∧ badI (absL (txtZ z)) (negB (txtZ z)) = false := by
  by_cases h0 : z = 0
  · subst h0
    rw [txtZ_zero]
    refine ⟨by decide, ?_, by decide, by decide, by decide⟩
    intro c hc
    have : absL [48] = [48] := by decide
    rw [this] at hc
    obtain rfl := List.mem_singleton.1 hc
    decide
  · have hN : z.natAbs ≠ 0 := by omega
    obtain ⟨c, r, hb, h45, h48⟩ := bytesD_head hN
    have hA := (bytesD_val _ (D10.limbs_dg z.natAbs)).1
    have hV := valD_bytes z.natAbs
    have hm : D10.limbs z.natAbs ≠ [] := fun e => hN (D10.limbs_nil.1 e)
    by_cases hz : z < 0
    · have ht : txtZ z = 45 :: bytesD (D10.limbs z.natAbs) := by
        unfold txtZ txtN txtD
        rw [if_neg hm, decide_eq_true hz, if_pos rfl]
      have hn : negB (txtZ z) = true := by rw [ht]; simp [negB, Lib.hasPrefix, List.isPrefixOf]
      have ha : absL (txtZ z) = bytesD (D10.limbs z.natAbs) := by rw [ht]; simp [absL, Lib.trimPrefix, Lib.hasPrefix, List.isPrefixOf]
      rw [hn, ha, decide_eq_true hz]
      exact ⟨rfl, hA, by rw [hb]; simp, hV, by rw [hb]; exact bad_head h48 _⟩
    · have ht : txtZ z = bytesD (D10.limbs z.natAbs) := by
        unfold txtZ txtN txtD
        rw [if_neg hm, decide_eq_false hz, if_neg (by decide)]
      have h45' : (45 == c) = false := by rw [beq_eq_false_iff_ne]; exact fun e => h45 e.symm
      have hn : negB (txtZ z) = false := by rw [ht, hb]; simp [negB, Lib.hasPrefix, List.isPrefixOf, h45']
      have ha : absL (txtZ z) = bytesD (D10.limbs z.natAbs) := by rw [ht, hb]; simp [absL, Lib.trimPrefix, Lib.hasPrefix, List.isPrefixOf, h45']
      rw [hn, ha, decide_eq_false hz]
      exact ⟨rfl, hA, by rw [hb]; simp, hV, by rw [hb]; exact bad_head h48 _⟩
theorem txtZ_val (z : Int) : sgn (negB (txtZ z)) (valD (absL (txtZ z))) = z := by
  rw [(txtZ_abs z).1, (txtZ_abs z).2.2.2.1]
  exact sgn_of z
theorem txtZ_no (z : Int) : ∀ c ∈ txtZ z, c ≠ 47 := by
  intro c hc e
  subst e
  obtain ⟨-, hA, -⟩ := txtZ_abs z
  rw [neg_abs (txtZ z)] at hc
  split at hc
  · rcases List.mem_cons.1 hc with h | h
    · exact absurd h (by decide)
    · exact absurd (hA _ h) (by decide)
  · exact absurd (hA _ hc) (by decide)
theorem txtN_absL (n : Nat) : absL (txtZ (n : Int)) = txtZ (n : Int) := by
  have h := neg_abs (txtZ (n : Int))
  rw [(txtZ_abs (n : Int)).1, decide_eq_false (by omega), if_neg (by decide)] at h
  exact h.symm
theorem top_cons {c : UInt8} (hc : c ≠ 47) (l : List UInt8) : topL (c :: l) = c :: topL l ∧ botL (c :: l) = botL l ∧ divB (c :: l) = divB l := by
  have h1 : (c == 47) = false := by rw [beq_eq_false_iff_ne]; exact hc
  have h2 : (c != 47) = true := by rw [bne_iff_ne]; exact hc
  exact ⟨by simp [topL, h2], by simp [botL, h2], by simp [divB, h1]⟩
theorem top_cat {a : List UInt8} (h : ∀ c ∈ a, c ≠ 47) (b : List UInt8) : topL (a ++ 47 :: b) = a ∧ botL (a ++ 47 :: b) = b ∧ divB (a ++ 47 :: b) = true := by
  induction a with
  | nil => exact ⟨by simp [topL], by simp [botL], by simp [divB]⟩
  | cons c r ih =>
    obtain ⟨i1, i2, i3⟩ := ih (fun x hx => h x (by simp [hx]))
    obtain ⟨e1, e2, e3⟩ := top_cons (h c (by simp)) (r ++ 47 :: b)
    rw [List.cons_append, e1, e2, e3, i1, i2, i3]
    exact ⟨rfl, rfl, rfl⟩
theorem top_all {a : List UInt8} (h : ∀ c ∈ a, c ≠ 47) : topL a = a ∧ divB a = false := by
  induction a with
  | nil => exact ⟨rfl, rfl⟩
  | cons c r ih =>
    obtain ⟨i1, i3⟩ := ih (fun x hx => h x (by simp [hx]))
    obtain ⟨e1, -, e3⟩ := top_cons (h c (by simp)) r
    rw [e1, e3, i1, i3]
    exact ⟨rfl, rfl⟩
theorem txtR_one {r : Rat} (h : r.den = 1) : txtR r = txtZ r.num := by unfold txtR; rw [if_pos h]
theorem txtR_div {r : Rat} (h : r.den ≠ 1) : txtR r = txtZ r.num ++ 47 :: txtZ (r.den : Int) := by unfold txtR; rw [if_neg h]
theorem txtR_top (r : Rat) : topL (txtR r) = txtZ r.num := by
  by_cases h : r.den = 1
  · rw [txtR_one h]; exact (top_all (txtZ_no _)).1
  · rw [txtR_div h]; exact (top_cat (txtZ_no _) _).1
theorem txtR_num (r : Rat) : numL (txtR r) = r.num := by
  unfold numL
  rw [txtR_top]
  exact txtZ_val _
theorem txtR_dn (r : Rat) : dn (denL (txtR r) : Int) = (r.den : Int) := by
  unfold denL
  by_cases h : r.den = 1
  · rw [txtR_one h, (top_all (txtZ_no _)).2, h]
    rfl
  · rw [txtR_div h, (top_cat (txtZ_no _) _).2.2, (top_cat (txtZ_no _) _).2.1, if_pos rfl]
    have h1 := (txtZ_abs (r.den : Int)).2.2.2.1
    rw [txtN_absL, Int.natAbs_natCast] at h1
    rw [h1]
    unfold dn
    rw [if_neg (by have := r.den_nz; omega)]
theorem txtR_err (r : Rat) : errL (txtR r) = 0 := by
  obtain ⟨n1, n2, n3, n4, n5⟩ := txtZ_abs r.num
  obtain ⟨m1, m2, m3, m4, m5⟩ := txtZ_abs (r.den : Int)
  rw [m1, decide_eq_false (by omega)] at m5
  rw [txtN_absL] at m2 m3 m4 m5
  rw [Int.natAbs_natCast] at m4
  have d1 : digB (absL (txtZ r.num)) = true := digB_iff.2 ⟨n3, n2⟩
  have d2 : digB (txtZ (r.den : Int)) = true := digB_iff.2 ⟨m3, m2⟩
  unfold errL
  rw [txtR_top, d1, n5]
  by_cases h : r.den = 1
  · rw [txtR_one h, (top_all (txtZ_no _)).2]
    rfl
  · have hz : zerB (txtZ (r.den : Int)) = false := by
      obtain ⟨c, t, hb, -, h48⟩ := bytesD_head r.den_nz
      rw [txtZ_pos r.den_nz, hb]
      simp [zerB, h48]
    rw [txtR_div h, (top_cat (txtZ_no _) _).2.2, (top_cat (txtZ_no _) _).2.1, d2, hz, m5, m4, n4]
    have hg : Nat.gcd r.num.natAbs r.den = 1 := r.reduced
    rw [hg]
    simp [h]
theorem txtR_inj {r s : Rat} (h : txtR r = txtR s) : r = s := by
  refine Rat.ext ?_ ?_
  · rw [← txtR_num r, ← txtR_num s, h]
  · have h1 := txtR_dn r
    have h2 := txtR_dn s
    rw [h] at h1
    rw [h1] at h2
    omega
def Sz (k : Nat) (r : Rat) : Prop := r.num.natAbs < 10 ^ k ∧ r.den < 10 ^ k
theorem Sz.mono {k l : Nat} {r : Rat} (h : Sz k r) (hk : k ≤ l) : Sz l r :=
  ⟨Nat.lt_of_lt_of_le h.1 (Nat.pow_le_pow_right (by decide) hk), Nat.lt_of_lt_of_le h.2 (Nat.pow_le_pow_right (by decide) hk)⟩
theorem Sz.mk {k : Nat} {n : Int} {d : Nat} (hd : d ≠ 0) (h1 : n.natAbs < 10 ^ k) (h2 : d < 10 ^ k) : Sz k (mkRat n d) := by
  unfold Sz
  rw [Rat.num_mkRat, Rat.den_mkRat, if_neg hd, if_neg hd]
  exact ⟨Nat.lt_of_le_of_lt (Int.natAbs_ediv_le_natAbs _ _) h1, Nat.lt_of_le_of_lt (Nat.div_le_self _ _) h2⟩
theorem Sz.add {k l : Nat} {r s : Rat} (h : Sz k r) (h' : Sz l s) : Sz (k + l + 1) (r + s) := by
  rw [Rat.add_def']
  have e : (10 : Nat) ^ (k + l + 1) = 10 ^ k * 10 ^ l * 10 := by rw [Nat.pow_succ, Nat.pow_add]
  have b1 := Nat.mul_lt_mul'' h.1 h'.2
  have b2 := Nat.mul_lt_mul'' h'.1 h.2
  have b3 := Nat.mul_lt_mul'' h.2 h'.2
  rw [Nat.mul_comm (10 ^ l)] at b2
  refine Sz.mk (Nat.mul_ne_zero r.den_nz s.den_nz) ?_ (by omega)
  have := Int.natAbs_add_le (r.num * (s.den : Int)) (s.num * (r.den : Int))
  rw [Int.natAbs_mul, Int.natAbs_mul, Int.natAbs_natCast, Int.natAbs_natCast] at this
  omega
theorem Sz.mul {k l : Nat} {r s : Rat} (h : Sz k r) (h' : Sz l s) : Sz (k + l) (r * s) := by
  rw [Rat.mul_def']
  have b1 := Nat.mul_lt_mul'' h.1 h'.1
  have b3 := Nat.mul_lt_mul'' h.2 h'.2
  rw [← Nat.pow_add] at b1 b3
  exact Sz.mk (Nat.mul_ne_zero r.den_nz s.den_nz) (by rw [Int.natAbs_mul]; exact b1) b3
theorem Sz.neg {k : Nat} {r : Rat} (h : Sz k r) : Sz k (-r) := ⟨by rw [Rat.neg_num, Int.natAbs_neg]; exact h.1, h.2⟩
theorem rat_div_mk {r s : Rat} (hs : 0 < s) : r / s = mkRat (r.num * (s.den : Int)) (r.den * s.num.natAbs) := by
  have hsn : (s.num.natAbs : Int) = s.num := by have := Rat.num_nonneg.2 (Rat.le_of_lt hs); omega
  rw [Rat.div_def, Rat.inv_def, ← hsn, Rat.divInt_ofNat]
  conv => lhs; rw [← Rat.mkRat_self r]
  rw [Rat.mkRat_mul_mkRat, Int.natAbs_natCast]
end Go.Proofs.YtlcmhbkmpkcajaaGreatDoor
