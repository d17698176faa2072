/-
  Plain arithmetic and lists: no program in sight.
-/
import Derived.WalkKit
namespace Go.Proofs.YtknpbcdmemlicaaGreatDoor
open Go.RowKit

/-- A literal: an option and whether it is on. -/
abbrev Lit1 := Int × Bool
def litC (l : Lit1) : List Value := [.int .i64 l.1, .bool l.2]

/-- Bit i of a set of options (the model's order). -/
def setB (set i : Int) : Bool := (set / 2 ^ i.toNat) % 2 == 1
/-- Option i of a configuration (the program's order). -/
def bitB (c i : Int) : Bool := (c / 2 ^ (11 - i).toNat) % 2 == 1

theorem and_one_u64 (x : Int) (h0 : 0 ≤ x) (h1 : x < 18446744073709551616) : bits .and .u64 x 1 = x % 2 := by
  have := u64_and x 1 h0 h1 (by decide) (by decide)
  rw [this]
  show ((x.toNat &&& 1 : Nat) : Int) = x % 2
  rw [nat_mask1]; omega

theorem wrap_i64_id (x : Int) (h0 : -9223372036854775808 ≤ x) (h1 : x ≤ 9223372036854775807) : IntKind.i64.wrap x = x := IntWalk.i64_in _ ⟨h0, h1⟩

theorem and_one_i64 (x : Int) (h0 : 0 ≤ x) (h1 : x ≤ 9223372036854775807) : bits .and .i64 x 1 = x % 2 := by
  have e : bits .and .i64 x 1 = IntKind.i64.wrap ((BitVec.ofInt 64 x &&& BitVec.ofInt 64 1).toNat : Nat) := rfl
  have e2 : bits .and .u64 x 1 = IntKind.u64.wrap ((BitVec.ofInt 64 x &&& BitVec.ofInt 64 1).toNat : Nat) := rfl
  have h := and_one_u64 x h0 (by omega)
  rw [e2] at h
  have hb : (BitVec.ofInt 64 x &&& BitVec.ofInt 64 1).toNat < 18446744073709551616 := (BitVec.ofInt 64 x &&& BitVec.ofInt 64 1).isLt
  rw [IntWalk.u64_in _ (by omega)] at h
  rw [e, IntWalk.i64_in _ (by omega)]
  exact h

section
variable {α β : Type}
/-- The place of the first element of which p holds, or -1. -/
def ixOf (p : α → Bool) : List α → Int
  | [] => -1
  | x :: xs => if p x then 0 else if ixOf p xs < 0 then -1 else ixOf p xs + 1

theorem ixOf_none {p : α → Bool} {xs : List α} (h : ∀ x ∈ xs, p x = false) : ixOf p xs = -1 := by
  induction xs with
  | nil => rfl
  | cons x xs ih => simp [ixOf, h x (by simp), ih (fun y hy => h y (by simp [hy]))]

theorem ixOf_some {p : α → Bool} {xs : List α} {k : Nat} {x : α} (h : ∀ y ∈ xs.take k, p y = false) (hk : xs[k]? = some x) (hx : p x = true) : ixOf p xs = k := by
  induction xs generalizing k with
  | nil => simp at hk
  | cons y ys ih =>
    cases k with
    | zero => simp at hk; subst hk; simp [ixOf, hx]
    | succ k =>
      have hy : p y = false := h y (by simp)
      have := ih (k := k) (fun z hz => h z (by simp [hz])) (by simpa using hk)
      simp [ixOf, hy, this]; omega

theorem ixOf_map (f : β → α) (p : α → Bool) (xs : List β) : ixOf p (xs.map f) = ixOf (fun x => p (f x)) xs := by
  induction xs with
  | nil => rfl
  | cons x xs ih => simp [ixOf, ih]

theorem ixOf_ge (p : α → Bool) (xs : List α) : -1 ≤ ixOf p xs := by
  induction xs with
  | nil => simp [ixOf]
  | cons x xs ih => simp only [ixOf]; split <;> try split
                    all_goals omega

theorem ixOf_lt (p : α → Bool) (xs : List α) : ixOf p xs < xs.length := by
  induction xs with
  | nil => simp [ixOf]
  | cons x xs ih => simp only [ixOf, List.length_cons]; split <;> try split
                    all_goals omega

theorem ixOf_any_iff (p : α → Bool) (xs : List α) : 0 ≤ ixOf p xs ↔ xs.any p = true := by
  induction xs with
  | nil => simp [ixOf]
  | cons x xs ih =>
    have := ixOf_ge p xs
    simp only [ixOf, List.any_cons, Bool.or_eq_true, ← ih]
    split
    · simp [*]
    · split <;> constructor <;> intro h <;> first | omega | (rcases h with h | h; exact absurd h ‹_›; omega) | exact .inr (by omega)

theorem ixOf_any (p : α → Bool) (xs : List α) : decide (0 ≤ ixOf p xs) = xs.any p := by
  rw [Bool.eq_iff_iff, decide_eq_true_eq]; exact ixOf_any_iff p xs

theorem take_succ_all {P : α → Prop} {xs : List α} {k : Nat} {x : α} (h : ∀ y ∈ xs.take k, P y) (hk : xs[k]? = some x) (hx : P x) : ∀ y ∈ xs.take (k + 1), P y := by
  intro y hy
  rw [List.take_add_one, hk] at hy
  simp at hy
  rcases hy with hy | rfl
  · exact h y hy
  · exact hx

theorem take_all {P : α → Prop} {xs : List α} {n : Nat} (h : ∀ y ∈ xs.take n, P y) (hn : xs.length ≤ n) : ∀ y ∈ xs, P y := by
  rwa [List.take_of_length_le hn] at h

theorem all_false {p : α → Bool} {xs : List α} {k : Nat} {x : α} (hk : xs[k]? = some x) (hx : p x = false) : xs.all p = false := by
  rw [List.all_eq_false]; exact ⟨x, List.mem_of_getElem? hk, by simp [hx]⟩
theorem any_true {p : α → Bool} {xs : List α} {k : Nat} {x : α} (hk : xs[k]? = some x) (hx : p x = true) : xs.any p = true := by
  rw [List.any_eq_true]; exact ⟨x, List.mem_of_getElem? hk, hx⟩
theorem all_true {p : α → Bool} {xs : List α} {n : Nat} (h : ∀ y ∈ xs.take n, p y = true) (hn : xs.length ≤ n) : xs.all p = true := by
  rw [List.all_eq_true]; exact take_all h hn
theorem any_false {p : α → Bool} {xs : List α} {n : Nat} (h : ∀ y ∈ xs.take n, p y = false) (hn : xs.length ≤ n) : xs.any p = false := by
  rw [List.any_eq_false]; intro y hy; simp [take_all h hn y hy]
end

/-- What a configuration says of literals: all of them, one of them; which rule is the first that it breaks. -/
def cHolds (c : Int) (ls : List Lit1) : Bool := ls.all fun l => bitB c l.1 == l.2
def cSat (c : Int) (ls : List Lit1) : Bool := ls.any fun l => bitB c l.1 == l.2
/-- A rule: its name, its literals. -/
abbrev Rule1 := ByteArray × List Lit1
def cBroken (c : Int) (rs : List Rule1) : Int := ixOf (fun r => !cSat c r.2) rs
/-- The same of the model's sets. -/
def mHolds (s : Int) (ls : List Lit1) : Bool := ls.all fun l => setB s l.1 == l.2
def mSat (s : Int) (ls : List Lit1) : Bool := ls.any fun l => setB s l.1 == l.2

/-- Options of literals lie in a range. -/
def LitsOk (n : Int) (ls : List Lit1) : Prop := ∀ l ∈ ls, 0 ≤ l.1 ∧ l.1 < n
def RulesOk (n : Int) (rs : List Rule1) : Prop := ∀ r ∈ rs, LitsOk n r.2 ∧ r.2.length < 1000

section
variable {α : Type}
/-- The elements at the places of which p holds. -/
def selFrom (p : Nat → Bool) : Nat → List α → List α
  | _, [] => []
  | k, x :: xs => if p k then x :: selFrom p (k + 1) xs else selFrom p (k + 1) xs
def sel (p : Nat → Bool) (xs : List α) : List α := selFrom p 0 xs

theorem selFrom_snoc (p : Nat → Bool) (xs : List α) (x : α) : ∀ k, selFrom p k (xs ++ [x]) = selFrom p k xs ++ (if p (k + xs.length) then [x] else []) := by
  induction xs with
  | nil => intro k; simp [selFrom]
  | cons y ys ih =>
    intro k
    have e : k + 1 + ys.length = k + (ys.length + 1) := by omega
    simp only [List.cons_append, selFrom, ih, List.length_cons, e]
    split <;> simp

theorem sel_take_succ (p : Nat → Bool) {xs : List α} {k : Nat} {x : α} (h : xs[k]? = some x) : sel p (xs.take (k + 1)) = sel p (xs.take k) ++ (if p k then [x] else []) := by
  have hk : k < xs.length := by rcases Nat.lt_or_ge k xs.length with h' | h'; exact h'; simp [List.getElem?_eq_none h'] at h
  rw [List.take_add_one, h]
  unfold sel
  have := selFrom_snoc p (xs.take k) x 0
  rw [List.length_take, Nat.min_eq_left (by omega), Nat.zero_add] at this
  simpa using this

theorem selFrom_len (p : Nat → Bool) (xs : List α) : ∀ k, (selFrom p k xs).length ≤ xs.length := by
  induction xs with
  | nil => intro k; simp [selFrom]
  | cons y ys ih => intro k; simp only [selFrom]; split <;> simp <;> have := ih (k + 1) <;> omega
theorem sel_len (p : Nat → Bool) (xs : List α) : (sel p xs).length ≤ xs.length := selFrom_len p xs 0
theorem sel_take_len (p : Nat → Bool) (xs : List α) (k : Nat) : (sel p (xs.take k)).length ≤ k := Nat.le_trans (sel_len p _) (List.length_take_le _ _)
end

/-- The first rule that a set does not satisfy, of those that are not left out, or -1. -/
def mBroken (s : Int) (outs : List Bool) (rs : List Rule1) : Int := ixOf (fun x : Bool × Rule1 => !x.1 && !mSat s x.2.2) (outs.zip rs)

/-- The first i bits of the set that the number k stands for, of n options: the first option counts most. -/
def revTo (n k : Nat) : Nat → Nat
  | 0 => 0
  | i + 1 => revTo n k i + (k / 2 ^ (n - 1 - i) % 2) * 2 ^ i
def rev (n k : Nat) : Nat := revTo n k n
/-- All sets of n options, in order. -/
def setsTo (n : Nat) (j : Nat) : List Int := (List.range j).map fun i => (rev n (2 ^ n - 1 - i) : Int)
def setsL (n : Nat) : List Int := setsTo n (2 ^ n)

theorem revTo_lt (n k : Nat) : ∀ i, revTo n k i < 2 ^ i
  | 0 => by simp [revTo]
  | i + 1 => by
    have h := revTo_lt n k i
    simp only [revTo, Nat.pow_succ]
    have h2 : k / 2 ^ (n - 1 - i) % 2 * 2 ^ i ≤ 1 * 2 ^ i := Nat.mul_le_mul_right _ (by omega)
    omega

theorem i64_or_nat (a b : Nat) (ha : a < 9223372036854775808) (hb : b < 9223372036854775808) : bits .or .i64 (a : Int) (b : Int) = ((a ||| b : Nat) : Int) := by
  have e : bits .or .i64 (a : Int) (b : Int) = IntKind.i64.wrap ((BitVec.ofInt 64 (a : Int) ||| BitVec.ofInt 64 (b : Int)).toNat : Nat) := rfl
  have e2 : bits .or .u64 (a : Int) (b : Int) = IntKind.u64.wrap ((BitVec.ofInt 64 (a : Int) ||| BitVec.ofInt 64 (b : Int)).toNat : Nat) := rfl
  have h := u64_or_nat a b (by omega) (by omega)
  rw [e2] at h
  have hbb : (BitVec.ofInt 64 (a : Int) ||| BitVec.ofInt 64 (b : Int)).toNat < 18446744073709551616 := (BitVec.ofInt 64 (a : Int) ||| BitVec.ofInt 64 (b : Int)).isLt
  rw [IntWalk.u64_in _ (by omega)] at h
  have hl : a ||| b < 2 ^ 63 := Nat.or_lt_two_pow (by omega) (by omega)
  rw [e, h]
  exact IntWalk.i64_in _ (by omega)

theorem or_step (n k i : Nat) (hi : i < 60) : bits .or .i64 (revTo n k i : Int) ((k / 2 ^ (n - 1 - i) % 2 * 2 ^ i : Nat) : Int) = (revTo n k (i + 1) : Int) := by
  have h1 := revTo_lt n k i
  have h3 : (2 : Nat) ^ i < 2 ^ 60 := Nat.pow_lt_pow_right (by omega) hi
  have h2 : k / 2 ^ (n - 1 - i) % 2 * 2 ^ i ≤ 1 * 2 ^ i := Nat.mul_le_mul_right _ (by omega)
  rw [i64_or_nat _ _ (by omega) (by omega)]
  rw [Nat.or_comm, nat_join i _ _ (Nat.mul_mod_left _ _) h1, Nat.add_comm]
  rfl

theorem set_step (n k i : Nat) (hi : i < 60) (hk : k < 9223372036854775808) :
    bits .or .i64 (revTo n k i : Int) (wrap64 (bits .and .i64 ((k : Int) / 2 ^ (n - 1 - i)) 1 * 2 ^ i)) = (revTo n k (i + 1) : Int) := by
  have e1 : ((k : Int) / 2 ^ (n - 1 - i)) = ((k / 2 ^ (n - 1 - i) : Nat) : Int) := by simp
  have hle : k / 2 ^ (n - 1 - i) ≤ k := Nat.div_le_self _ _
  rw [e1, and_one_i64 _ (Int.natCast_nonneg _) (Int.le_trans (Int.ofNat_le.2 hle) (by omega))]
  have h3 : (2 : Nat) ^ i < 2 ^ 60 := Nat.pow_lt_pow_right (by omega) hi
  have h2 : k / 2 ^ (n - 1 - i) % 2 * 2 ^ i ≤ 1 * 2 ^ i := Nat.mul_le_mul_right _ (by omega)
  have e2 : (((k / 2 ^ (n - 1 - i) : Nat) : Int) % 2 * 2 ^ i) = ((k / 2 ^ (n - 1 - i) % 2 * 2 ^ i : Nat) : Int) := by simp
  rw [e2, IntWalk.wrap64_in _ (by omega)]
  exact or_step n k i hi

theorem setsTo_succ (n j : Nat) : setsTo n (j + 1) = setsTo n j ++ [(rev n (2 ^ n - 1 - j) : Int)] := by
  unfold setsTo; rw [List.range_succ, List.map_append]; rfl

/-- The error of a list of literals for n options: 10 (not found), 8 (order), 0. -/
def litErrFrom (n : Int) : Option Int → List Lit1 → Int
  | _, [] => 0
  | q, l :: ls => if l.1 < 0 ∨ n ≤ l.1 then 10 else if q.any (fun y => decide (l.1 ≤ y)) then 8 else litErrFrom n (some l.1) ls
def litErr (n : Int) (ls : List Lit1) : Int := litErrFrom n none ls

def prevOf (ls : List Lit1) : Nat → Option Int
  | 0 => none
  | k + 1 => (ls[k]?).map (·.1)

theorem litErr_step {n : Int} {ls : List Lit1} {k : Nat} {l : Lit1} (h : ls[k]? = some l) (h0 : ¬ (l.1 < 0 ∨ n ≤ l.1)) (h1 : (prevOf ls k).any (fun y => decide (l.1 ≤ y)) = false)
    (hp : litErrFrom n (prevOf ls k) (ls.drop k) = litErr n ls) : litErrFrom n (prevOf ls (k + 1)) (ls.drop (k + 1)) = litErr n ls := by
  have hk : k < ls.length := by rcases Nat.lt_or_ge k ls.length with h' | h'; exact h'; simp [List.getElem?_eq_none h'] at h
  have hl : ls[k] = l := by simpa [hk] using h
  rw [List.drop_eq_getElem_cons hk, hl] at hp
  rw [← hp, litErrFrom, if_neg h0, h1]
  simp [prevOf, h]

theorem litErr_10 {n : Int} {ls : List Lit1} {k : Nat} {l : Lit1} (h : ls[k]? = some l) (h0 : l.1 < 0 ∨ n ≤ l.1)
    (hp : litErrFrom n (prevOf ls k) (ls.drop k) = litErr n ls) : litErr n ls = 10 := by
  have hk : k < ls.length := by rcases Nat.lt_or_ge k ls.length with h' | h'; exact h'; simp [List.getElem?_eq_none h'] at h
  have hl : ls[k] = l := by simpa [hk] using h
  rw [List.drop_eq_getElem_cons hk, hl] at hp
  rw [← hp, litErrFrom, if_pos h0]

theorem litErr_8 {n : Int} {ls : List Lit1} {k : Nat} {l : Lit1} (h : ls[k]? = some l) (h0 : ¬ (l.1 < 0 ∨ n ≤ l.1)) (h1 : (prevOf ls k).any (fun y => decide (l.1 ≤ y)) = true)
    (hp : litErrFrom n (prevOf ls k) (ls.drop k) = litErr n ls) : litErr n ls = 8 := by
  have hk : k < ls.length := by rcases Nat.lt_or_ge k ls.length with h' | h'; exact h'; simp [List.getElem?_eq_none h'] at h
  have hl : ls[k] = l := by simpa [hk] using h
  rw [List.drop_eq_getElem_cons hk, hl] at hp
  rw [← hp, litErrFrom, if_neg h0, h1]
  simp

theorem litErr_0 {n : Int} {ls : List Lit1} {k : Nat} (hk : ls.length ≤ k) (hp : litErrFrom n (prevOf ls k) (ls.drop k) = litErr n ls) : litErr n ls = 0 := by
  rw [List.drop_of_length_le hk] at hp
  rw [← hp]; rfl

/-- The allowed sets of a choice, without the rules that are left out. -/
def okSet (outs : List Bool) (rs : List Rule1) (ch : List Lit1) (s : Int) : Bool := mHolds s ch && decide (mBroken s outs rs < 0)
def allowedL (n : Nat) (outs : List Bool) (rs : List Rule1) (ch : List Lit1) : List Int := (setsL n).filter (okSet outs rs ch)

section
variable {α : Type}
theorem filter_take_succ (p : α → Bool) {xs : List α} {k : Nat} {x : α} (h : xs[k]? = some x) : (xs.take (k + 1)).filter p = (xs.take k).filter p ++ (if p x then [x] else []) := by
  rw [List.take_add_one, h, List.filter_append]
  cases hp : p x <;> simp [hp]
theorem filter_take_len (p : α → Bool) (xs : List α) (k : Nat) : ((xs.take k).filter p).length ≤ k := Nat.le_trans (List.length_filter_le _ _) (List.length_take_le _ _)
end

theorem setsL_len (n : Nat) : (setsL n).length = 2 ^ n := by simp [setsL, setsTo]
theorem setsL_mem {n : Nat} {s : Int} (h : s ∈ setsL n) : 0 ≤ s ∧ s < 2 ^ n := by
  simp only [setsL, setsTo, List.mem_map, List.mem_range] at h
  obtain ⟨i, _, rfl⟩ := h
  have := revTo_lt n (2 ^ n - 1 - i) n
  refine ⟨Int.natCast_nonneg _, ?_⟩
  unfold rev
  exact_mod_cast this

/-- All configurations of n options, in the program's order. -/
def cfgsL (n : Nat) : List Int := (List.range (2 ^ n)).map fun i => ((2 ^ n - 1 - i) * 2 ^ (12 - n) : Nat)
def cOk (ch : List Lit1) (rs : List Rule1) (c : Int) : Bool := cHolds c ch && decide (cBroken c rs < 0)
/-- The elements up to the first one at which p says no, that one with them. -/
def upTo (p : Int → Bool) : List Int → List Int
  | [] => []
  | c :: cs => if p c then c :: upTo p cs else [c]

theorem cfgsL_len (n : Nat) : (cfgsL n).length = 2 ^ n := by simp [cfgsL]
theorem cfgsL_get {n j : Nat} (h : j < 2 ^ n) : (cfgsL n)[j]? = some (((2 ^ n - 1 - j) * 2 ^ (12 - n) : Nat) : Int) := by simp [cfgsL, h]
theorem cfgsL_drop {n j : Nat} (h : j < 2 ^ n) : (cfgsL n).drop j = (((2 ^ n - 1 - j) * 2 ^ (12 - n) : Nat) : Int) :: (cfgsL n).drop (j + 1) := by
  rw [List.drop_eq_getElem_cons (by rw [cfgsL_len]; exact h)]
  congr 1
  have := cfgsL_get h
  rw [List.getElem?_eq_getElem (by rw [cfgsL_len]; exact h)] at this
  simpa using this
theorem cfg_lt {n j : Nat} (hn : n ≤ 12) : (2 ^ n - 1 - j) * 2 ^ (12 - n) < 4096 := by
  have h1 : 1 ≤ 2 ^ n := Nat.one_le_two_pow
  have h2 : (2 ^ n - 1 - j) * 2 ^ (12 - n) < 2 ^ n * 2 ^ (12 - n) := Nat.mul_lt_mul_of_pos_right (by omega) (Nat.two_pow_pos _)
  rw [← Nat.pow_add, show n + (12 - n) = 12 from by omega] at h2
  exact h2
theorem cfgsL_mem {n : Nat} (hn : n ≤ 12) {c : Int} (h : c ∈ cfgsL n) : 0 ≤ c ∧ c < 4096 := by
  simp only [cfgsL, List.mem_map, List.mem_range] at h
  obtain ⟨i, _, rfl⟩ := h
  have := cfg_lt (n := n) (j := i) hn
  omega

theorem cfg_wrap (n K : Nat) (h : K * 2 ^ (12 - n) < 4096) : IntKind.u64.wrap (wrap64 ((K : Int) * 2 ^ (12 - n))) = ((K * 2 ^ (12 - n) : Nat) : Int) := by
  have e : ((K : Int) * 2 ^ (12 - n)) = ((K * 2 ^ (12 - n) : Nat) : Int) := by simp
  rw [e, IntWalk.wrap64_in _ (by omega), IntWalk.u64_in _ (by omega)]

theorem cfg_step {n j K : Nat} (hn : n ≤ 12) (hj : j < 2 ^ n) (hK : 2 ^ n - 1 - j = K) :
    ∃ c : Int, IntKind.u64.wrap (wrap64 ((K : Int) * 2 ^ (12 - n))) = c ∧ 0 ≤ c ∧ c < 4096 ∧ c ∈ cfgsL n ∧ (cfgsL n).drop j = c :: (cfgsL n).drop (j + 1) := by
  subst hK
  have h := cfg_lt (n := n) (j := j) hn
  refine ⟨_, cfg_wrap n _ h, Int.natCast_nonneg _, by omega, ?_, cfgsL_drop hj⟩
  exact List.mem_of_getElem? (cfgsL_get hj)

theorem upTo_drop {p ok : Int → Bool} {c : Int} {cs l xs : List Int} (h : l = xs ++ upTo p ((c :: cs).filter ok)) (hok : ok c = false) : l = xs ++ upTo p (cs.filter ok) := by
  rw [h]; simp [hok]
theorem upTo_go {p ok : Int → Bool} {c : Int} {cs l xs : List Int} (h : l = xs ++ upTo p ((c :: cs).filter ok)) (hok : ok c = true) (hp : p c = true) : l = (xs ++ [c]) ++ upTo p (cs.filter ok) := by
  rw [h]; simp [hok, upTo, hp]
theorem upTo_stop {p ok : Int → Bool} {c : Int} {cs l xs : List Int} (h : l = xs ++ upTo p ((c :: cs).filter ok)) (hok : ok c = true) (hp : p c = false) : l = xs ++ [c] := by
  rw [h]; simp [hok, upTo, hp]

/-- A string whose bytes are all seen and ASCII. -/
def goodS (s : ByteArray) : Prop := ∀ i (h : i < s.size), 33 ≤ (s[i]'h).toNat ∧ (s[i]'h).toNat ≤ 126
def nameOk (s : ByteArray) : Prop := goodS s ∧ 0 < s.size ∧ s.size ≤ 40

/-- A guard; a dimension; an override. -/
abbrev Guard1 := Int × List Lit1
abbrev Dim1 := ByteArray × Int × Int × Int
abbrev Ov1 := List Lit1 × Int × Dim1

theorem litErrFrom_ok {n : Int} {ls : List Lit1} : ∀ {q : Option Int}, litErrFrom n q ls = 0 → LitsOk n ls := by
  induction ls with
  | nil => intro q _ l hl; simp at hl
  | cons l ls ih =>
    intro q h
    unfold litErrFrom at h
    split at h
    · omega
    · split at h
      · omega
      · intro x hx
        simp only [List.mem_cons] at hx
        rcases hx with rfl | hx
        · omega
        · exact ih h x hx
theorem litErr_ok {n : Int} {ls : List Lit1} (h : litErr n ls = 0) : LitsOk n ls := litErrFrom_ok h
theorem LitsOk.le {n m : Int} {ls : List Lit1} (h : LitsOk n ls) (hn : n ≤ m) : LitsOk m ls := fun l hl => ⟨(h l hl).1, Int.lt_of_lt_of_le (h l hl).2 hn⟩

/-- What is on in some, in every one of some configurations, as bits. -/
def someL (xs : List Int) : Int := xs.foldl (fun a c => bits .or .u64 a c) 0
def everyL (xs : List Int) : Int := xs.foldl (fun a c => bits .and .u64 a c) 18446744073709551615

theorem bitB_nat (c : Nat) (i : Int) : bitB (c : Int) i = c.testBit (11 - i).toNat := by
  unfold bitB
  have e : ((c : Int) / 2 ^ (11 - i).toNat % 2) = ((c / 2 ^ (11 - i).toNat % 2 : Nat) : Int) := by simp
  rw [e, Nat.testBit_eq_decide_div_mod_eq]
  rw [Bool.eq_iff_iff, beq_iff_eq, decide_eq_true_eq]
  omega

theorem some_inv (xs : List Int) (h : ∀ c ∈ xs, 0 ≤ c ∧ c < 4096) (a : Nat) (ha : a < 18446744073709551616) :
    ∃ r : Nat, r < 18446744073709551616 ∧ xs.foldl (fun a c => bits .or .u64 a c) (a : Int) = (r : Int) ∧ ∀ i, r.testBit i = (a.testBit i || xs.any fun c => c.toNat.testBit i) := by
  induction xs generalizing a with
  | nil => exact ⟨a, ha, rfl, fun i => by simp⟩
  | cons c cs ih =>
    have hc := h c (by simp)
    obtain ⟨m, rfl⟩ : ∃ m : Nat, c = m := ⟨c.toNat, by omega⟩
    have hlt : a ||| m < 2 ^ 64 := Nat.or_lt_two_pow (by omega) (by omega)
    obtain ⟨r, h1, h2, h3⟩ := ih (fun c hc => h c (by simp [hc])) (a ||| m) (by omega)
    refine ⟨r, h1, ?_, fun i => ?_⟩
    · rw [List.foldl_cons, u64_or_nat a m (by omega) (by omega)]; exact h2
    · rw [h3, Nat.testBit_or]; simp [Bool.or_assoc]

theorem every_inv (xs : List Int) (h : ∀ c ∈ xs, 0 ≤ c ∧ c < 4096) (a : Nat) (ha : a < 18446744073709551616) :
    ∃ r : Nat, r < 18446744073709551616 ∧ xs.foldl (fun a c => bits .and .u64 a c) (a : Int) = (r : Int) ∧ ∀ i, r.testBit i = (a.testBit i && xs.all fun c => c.toNat.testBit i) := by
  induction xs generalizing a with
  | nil => exact ⟨a, ha, rfl, fun i => by simp⟩
  | cons c cs ih =>
    have hc := h c (by simp)
    obtain ⟨m, rfl⟩ : ∃ m : Nat, c = m := ⟨c.toNat, by omega⟩
    have hlt : a &&& m ≤ a := Nat.and_le_left
    obtain ⟨r, h1, h2, h3⟩ := ih (fun c hc => h c (by simp [hc])) (a &&& m) (by omega)
    refine ⟨r, h1, ?_, fun i => ?_⟩
    · rw [List.foldl_cons, u64_and_nat a m (by omega) (by omega)]; exact h2
    · rw [h3, Nat.testBit_and]; simp [Bool.and_assoc]

theorem someL_bit {xs : List Int} (h : ∀ c ∈ xs, 0 ≤ c ∧ c < 4096) : 0 ≤ someL xs ∧ someL xs < 18446744073709551616 ∧ ∀ i, bitB (someL xs) i = xs.any fun c => bitB c i := by
  obtain ⟨r, h1, h2, h3⟩ := some_inv xs h 0 (by omega)
  have e : someL xs = (r : Int) := h2
  rw [e]
  refine ⟨Int.natCast_nonneg _, by omega, fun i => ?_⟩
  rw [bitB_nat, h3, Nat.zero_testBit, Bool.false_or, Bool.eq_iff_iff, List.any_eq_true, List.any_eq_true]
  constructor <;> rintro ⟨c, hc, hb⟩ <;> refine ⟨c, hc, ?_⟩ <;> have := h c hc <;> obtain ⟨m, rfl⟩ : ∃ m : Nat, c = m := ⟨c.toNat, by omega⟩
  · rw [bitB_nat]; simpa using hb
  · rw [bitB_nat] at hb; simpa using hb

theorem everyL_bit {xs : List Int} (h : ∀ c ∈ xs, 0 ≤ c ∧ c < 4096) : 0 ≤ everyL xs ∧ everyL xs < 18446744073709551616 ∧ ∀ i, 0 ≤ i → i ≤ 11 → bitB (everyL xs) i = xs.all fun c => bitB c i := by
  obtain ⟨r, h1, h2, h3⟩ := every_inv xs h (2 ^ 64 - 1) (by omega)
  have e : everyL xs = (r : Int) := h2
  rw [e]
  refine ⟨Int.natCast_nonneg _, by omega, fun i hi0 hi1 => ?_⟩
  rw [bitB_nat, h3, Nat.testBit_two_pow_sub_one, show decide ((11 - i).toNat < 64) = true by simp; omega, Bool.true_and, Bool.eq_iff_iff, List.all_eq_true, List.all_eq_true]
  constructor <;> intro hh c hc <;> have hb := hh c hc <;> have := h c hc <;> obtain ⟨m, rfl⟩ : ∃ m : Nat, c = m := ⟨c.toNat, by omega⟩
  · rw [bitB_nat]; simpa using hb
  · rw [bitB_nat] at hb; simpa using hb

/-- The literals that hold in all of some configurations, of the first k options. -/
def forcedTo (xs : List Int) : Nat → List Lit1
  | 0 => []
  | k + 1 => forcedTo xs k ++ (if (xs.any fun c => bitB c k) == (xs.all fun c => bitB c k) then [((k : Int), xs.all fun c => bitB c k)] else [])
theorem forcedTo_len (xs : List Int) : ∀ k, (forcedTo xs k).length ≤ k
  | 0 => by simp [forcedTo]
  | k + 1 => by
    have := forcedTo_len xs k
    simp only [forcedTo, List.length_append]
    split <;> simp <;> omega

end Go.Proofs.YtknpbcdmemlicaaGreatDoor
