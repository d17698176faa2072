/-
  Products: the plain laws.
-/
import Derived.Test.YtkphggmbimjhjaaPh
import Derived.Test.YtkphggmbimjhjaaPi
import Derived.Test.YtkphggmbimjhjaaPj
import Derived.Test.YtkphggmbimjhjaaUs
namespace Go.Proofs.Ytkphggmbimjhjaa
open Go.RowKit

theorem holds_bits {n : Nat} {s c : Int} (h : ∀ o : Nat, o < n → setB s o = bitB c o) {ch : List Lit1} (hl : LitsOk n ch) : mHolds s ch = cHolds c ch := by
  unfold mHolds cHolds
  rw [Bool.eq_iff_iff, List.all_eq_true, List.all_eq_true]
  refine forall_congr' fun l => forall_congr' fun hm => ?_
  obtain ⟨h1, h2⟩ := hl l hm
  obtain ⟨m, hm⟩ : ∃ m : Nat, l.1 = m := ⟨l.1.toNat, by omega⟩
  rw [hm, h m (by omega)]
theorem holds_same {n : Nat} {f : Nat → Bool} {s t : Int} (h : ∀ o : Nat, o < n → f o = true → setB s o = setB t o) {ch : List Lit1} (hl : LitsOk n ch) (hf : ∀ l ∈ ch, ∀ o : Nat, l.1 = o → f o = true) : mHolds s ch = mHolds t ch := by
  unfold mHolds
  rw [Bool.eq_iff_iff, List.all_eq_true, List.all_eq_true]
  refine forall_congr' fun l => forall_congr' fun hm => ?_
  obtain ⟨h1, h2⟩ := hl l hm
  obtain ⟨m, hk⟩ : ∃ m : Nat, l.1 = m := ⟨l.1.toNat, by omega⟩
  rw [hk, h m (by omega) (hf l hm m hk)]
theorem away_congr {p q : List Lit1 → Bool} : ∀ {gs : List Guard1}, (∀ g ∈ gs, p g.2 = q g.2) → ∀ i, awayB p gs i = awayB q gs i
  | [], _, _ => rfl
  | g :: gs, h, i => by
    have ih := away_congr (p := p) (q := q) (gs := gs) (fun g hg => h g (by simp [hg])) i
    unfold awayB at *
    rw [List.any_cons, List.any_cons, ih, h g (by simp)]
theorem ovrTo_congr {p q : List Lit1 → Bool} {os : List Ov1} (h : ∀ o ∈ os, p o.1 = q o.1) (ds : List Dim1) : ∀ k, ovrTo p os ds k = ovrTo q os ds k
  | 0 => rfl
  | k + 1 => by
    have ih := ovrTo_congr h ds k
    rw [ovrTo, ovrTo, ih]
    cases ho : os[k]? with
    | none => rfl
    | some o =>
      have := h o (List.mem_of_getElem? ho)
      simp only [this]
theorem insTo_congr {p q : List Lit1 → Bool} {gs : List Guard1} (h : ∀ g ∈ gs, p g.2 = q g.2) (ns : List ByteArray) (k : Nat) : insTo (fun i => !awayB p gs i) ns k = insTo (fun i => !awayB q gs i) ns k := by
  have : (fun i => !awayB p gs i) = fun i => !awayB q gs i := by funext i; rw [away_congr h i]
  rw [this]

/-- The configuration that is read from a set's names has the set's bits. -/
theorem names_bits {k i : Nat} (hk : k ≤ 6) (hi : i < 2 ^ k) : ∀ o : Nat, o < k → setB (setN k i) o = bitB (pCfg (optsTo k) (sel (fun o => setB (setN k i) o) (optsTo k)) (sel (fun o => setB (setN k i) o) (optsTo k)).length : Int) o := by
  obtain ⟨h1, h2⟩ := names_read k hk i hi
  intro o ho
  rw [← h2 o ho, setB_bit, bitB_bit _ _ (by omega)]
  exact p_agree _ _ (by rw [optsTo_len]; omega) _ (Nat.le_refl _) h1 o (by omega)

theorem mTo_pos {xs : List (List Lit1)} {o : Int} {ls : List Lit1} (h : ls ∈ xs) (hm : mentB ls o = true) : 0 < (mTo xs o xs.length).length := by
  obtain ⟨j, hj, rfl⟩ := List.getElem_of_mem h
  have key : ∀ n, j < n → n ≤ xs.length → 0 < (mTo xs o n).length := by
    intro n
    induction n with
    | zero => intro h; omega
    | succ n ih =>
      intro h1 h2
      rw [mTo, List.length_append]
      rcases Nat.lt_or_ge j n with h3 | h3
      · have := ih h3 (by omega)
        omega
      · obtain rfl : j = n := by omega
        rw [List.getD_eq_getElem?_getD, List.getElem?_eq_getElem hj]
        simp only [Option.getD_some]
        rw [if_pos hm]
        simp
  exact key xs.length hj (Nat.le_refl _)

/-- Some guard or override names option i. -/
def usedB (gs : List Guard1) (os : List Ov1) (i : Nat) : Bool := decide (0 < (mTo (gs.map (·.2)) i gs.length).length + (mTo (os.map (·.1)) i os.length).length)
def usedTo (f : Nat → Bool) : Nat → Nat
  | 0 => 0
  | k + 1 => if f k then usedTo f k ||| 2 ^ k else usedTo f k
theorem usedTo_lt (f : Nat → Bool) : ∀ k, usedTo f k < 2 ^ k
  | 0 => by simp [usedTo]
  | k + 1 => by
    have ih := usedTo_lt f k
    have h2 : (2 : Nat) ^ k < 2 ^ (k + 1) := Nat.pow_lt_pow_right (by omega) (by omega)
    rw [usedTo]
    split
    · exact Nat.or_lt_two_pow (by omega) h2
    · omega
theorem usedTo_bit (f : Nat → Bool) : ∀ k o, o < k → (usedTo f k).testBit o = f o
  | 0, o, h => by omega
  | k + 1, o, h => by
    rw [usedTo]
    rcases Nat.lt_or_ge o k with ho | ho
    · have ih := usedTo_bit f k o ho
      split
      · rw [or_bit, ih, decide_eq_false (by omega), Bool.or_false]
      · exact ih
    · obtain rfl : o = k := by omega
      have hlt : (usedTo f o).testBit o = false := Nat.testBit_lt_two_pow (usedTo_lt f o)
      split
      · rename_i hf
        rw [or_bit, hlt, decide_eq_true rfl, hf]; rfl
      · rename_i hf
        rw [hlt]
        cases h : f o
        · rfl
        · exact absurd h hf
theorem and_same {x y u : Nat} (h : x &&& u = y &&& u) {o : Nat} (hu : u.testBit o = true) : x.testBit o = y.testBit o := by
  have := congrArg (fun z => z.testBit o) h
  simpa [Nat.testBit_and, hu] using this

theorem used_names {gs : List Guard1} {os : List Ov1} : (∀ g ∈ gs, ∀ l ∈ g.2, ∀ o : Nat, l.1 = o → usedB gs os o = true) ∧ (∀ v ∈ os, ∀ l ∈ v.1, ∀ o : Nat, l.1 = o → usedB gs os o = true) := by
  refine ⟨fun g hg l hl o ho => ?_, fun v hv l hl o ho => ?_⟩
  · have := mTo_pos (xs := gs.map (·.2)) (o := (o : Int)) (ls := g.2) (List.mem_map.2 ⟨g, hg, rfl⟩) (by unfold mentB; rw [List.any_eq_true]; exact ⟨l, hl, by simp [ho]⟩)
    rw [List.length_map] at this
    unfold usedB
    rw [decide_eq_true_eq]
    omega
  · have := mTo_pos (xs := os.map (·.1)) (o := (o : Int)) (ls := v.1) (List.mem_map.2 ⟨v, hv, rfl⟩) (by unfold mentB; rw [List.any_eq_true]; exact ⟨l, hl, by simp [ho]⟩)
    rw [List.length_map] at this
    unfold usedB
    rw [decide_eq_true_eq]
    omega

/-- Sets that agree on what is used have the same product. -/
theorem prod_same {k : Nat} {gs : List Guard1} {os : List Ov1} (hg : ∀ g ∈ gs, LitsOk k g.2) (ho : ∀ v ∈ os, LitsOk k v.1) {x y : Nat} (h : x &&& usedTo (usedB gs os) k = y &&& usedTo (usedB gs os) k) :
    (∀ (ns : List ByteArray) n, insTo (fun i => !awayB (mHolds (x : Int)) gs i) ns n = insTo (fun i => !awayB (mHolds (y : Int)) gs i) ns n) ∧ ∀ ds n, ovrTo (mHolds (x : Int)) os ds n = ovrTo (mHolds (y : Int)) os ds n := by
  have hb : ∀ o : Nat, o < k → usedB gs os o = true → setB (x : Int) o = setB (y : Int) o := fun o h1 h2 => by
    rw [setB_bit, setB_bit]
    exact and_same h (by rw [usedTo_bit _ _ _ h1, h2])
  exact ⟨fun ns n => insTo_congr (fun g hgm => holds_same hb (hg g hgm) (used_names.1 g hgm)) ns n, fun ds n => ovrTo_congr (fun v hv => holds_same hb (ho v hv) (used_names.2 v hv)) ds n⟩

theorem i64_and_nat (a b : Nat) (ha : a < 9223372036854775808) (hb : b < 9223372036854775808) : bits .and .i64 (a : Int) (b : Int) = ((a &&& b : Nat) : Int) := by
  have e : bits .and .i64 (a : Int) (b : Int) = IntKind.i64.wrap ((BitVec.ofInt 64 (a : Int) &&& BitVec.ofInt 64 (b : Int)).toNat : Nat) := rfl
  have e2 : bits .and .u64 (a : Int) (b : Int) = IntKind.u64.wrap ((BitVec.ofInt 64 (a : Int) &&& BitVec.ofInt 64 (b : Int)).toNat : Nat) := rfl
  have h := u64_and (a : Int) (b : Int) (by omega) (by omega) (by omega) (by omega)
  rw [e2] at h
  have hb2 : (BitVec.ofInt 64 (a : Int) &&& BitVec.ofInt 64 (b : Int)).toNat < 18446744073709551616 := (BitVec.ofInt 64 (a : Int) &&& BitVec.ofInt 64 (b : Int)).isLt
  rw [IntWalk.u64_in _ (by omega)] at h
  have hle : a &&& b ≤ a := Nat.and_le_left
  rw [e, h]
  simp only [Int.toNat_natCast]
  exact IntWalk.i64_in _ (by omega)

/-- The allowed sets among the first j. -/
def seenL (k : Nat) (rs : List Rule1) : Nat → List Nat
  | 0 => []
  | j + 1 => if mBroken (setN k j) (List.replicate rs.length false) rs < 0 then seenL k rs j ++ [rev k (2 ^ k - 1 - j)] else seenL k rs j
theorem seenL_len (k : Nat) (rs : List Rule1) : ∀ j, (seenL k rs j).length ≤ j
  | 0 => by simp [seenL]
  | j + 1 => by
    have := seenL_len k rs j
    rw [seenL]
    split
    · rw [List.length_append]; simp; omega
    · omega
theorem seenL_mem {k : Nat} {rs : List Rule1} : ∀ {j}, ∀ x ∈ seenL k rs j, ∃ i, i < j ∧ x = rev k (2 ^ k - 1 - i) ∧ mBroken (setN k i) (List.replicate rs.length false) rs < 0
  | 0, x, h => by simp [seenL] at h
  | j + 1, x, h => by
    rw [seenL] at h
    split at h
    · rename_i hb
      rw [List.mem_append] at h
      rcases h with h | h
      · obtain ⟨i, h1, h2⟩ := seenL_mem x h
        exact ⟨i, by omega, h2⟩
      · simp only [List.mem_singleton] at h
        exact ⟨j, by omega, h, hb⟩
    · obtain ⟨i, h1, h2⟩ := seenL_mem x h
      exact ⟨i, by omega, h2⟩

end Go.Proofs.Ytkphggmbimjhjaa
