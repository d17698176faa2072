/-
  Plain laws: a described family is valid; the model's allowed sets are the program's allowed configurations.
-/
import Derived.Test.YtknpbcdmemlicaaGreatDoorVFam
namespace Go.Proofs.YtknpbcdmemlicaaGreatDoor
open Go.RowKit

theorem good_of (s : ByteArray) (h : (s.data.toList.all fun b => decide (33 ≤ b.toNat) && decide (b.toNat ≤ 126)) = true) : goodS s := by
  intro i hi
  rw [List.all_eq_true] at h
  have := h s[i] (by
    have : s[i] = s.data.toList[i]'(by simpa using hi) := by simp [ByteArray.getElem_eq_getElem_data]
    rw [this]; exact List.getElem_mem _)
  simpa using this

theorem optS_ok (k : Nat) (hk : k < 6) : nameOk (optS k) := by
  have h : ∀ k, k < 6 → ((optS k).data.toList.all fun b => decide (33 ≤ b.toNat) && decide (b.toNat ≤ 126)) = true := by decide
  exact ⟨good_of _ (h k hk), by show 0 < 1; omega, by show 1 ≤ 40; omega⟩
theorem ruleS_ok (k : Nat) (hk : k < 6) : nameOk (ruleS k) := by
  have h : ∀ k, k < 6 → ((ruleS k).data.toList.all fun b => decide (33 ≤ b.toNat) && decide (b.toNat ≤ 126)) = true := by decide
  exact ⟨good_of _ (h k hk), by show 0 < 2; omega, by show 2 ≤ 40; omega⟩
theorem optS_up (k : Nat) (hk : k < 5) : (Op.bytesLess (optS (k + 1)).toList (optS k).toList || (optS (k + 1)).toList == (optS k).toList) = false := by
  rw [ByteArray.toList_eq, ByteArray.toList_eq]
  have h : ∀ k, k < 5 → (Op.bytesLess (optS (k + 1)).data.toList (optS k).data.toList || (optS (k + 1)).data.toList == (optS k).data.toList) = false := by decide
  exact h k hk
theorem ruleS_ne (i j : Nat) (hij : i < j) (hj : j < 6) : ruleS i ≠ ruleS j := by
  intro e
  have h : ∀ j, j < 6 → ∀ i, i < j → (ruleS i).data.toList ≠ (ruleS j).data.toList := by decide
  exact h j hj i hij (by rw [e])

theorem optsTo_len (n : Nat) : (optsTo n).length = n := by simp [optsTo]
theorem rulesTo_len (n : Nat) (R : List (List Int)) (k : Nat) : (rulesTo n R k).length = k := by simp [rulesTo]
theorem guardsTo_len (n : Nat) (R : List (List Int)) (k : Nat) : (guardsTo n R k).length = k := by simp [guardsTo]
theorem ovsTo_len (n : Nat) (R : List (List Int)) (k : Nat) : (ovsTo n R k).length = k := by simp [ovsTo]
theorem get_map_range {α : Type} {f : Nat → α} {n i : Nat} {a : α} (h : ((List.range n).map f)[i]? = some a) : i < n ∧ a = f i := by
  have hi : i < n := by
    rcases Nat.lt_or_ge i n with h' | h'
    · exact h'
    · rw [List.getElem?_eq_none (by simpa using h')] at h; cases h
  simp only [List.getElem?_map, List.getElem?_range hi, Option.map_some, Option.some.injEq] at h
  exact ⟨hi, h.symm⟩

theorem famOk_of (n m2 m3 m4 : Nat) (R D O : List (List Int)) (hn : n ≤ 6) (h2 : m2 ≤ 6) (h3 : m3 ≤ 4) (h4 : m4 ≤ 4) : FamOk (optsTo n) (rulesTo n R m2) (guardsTo n D m3) (ovsTo n O m4) 3 baseDims where
  opts12 := by rw [optsTo_len]; omega
  optName := fun o ho => by obtain ⟨k, hk, rfl⟩ := List.mem_map.1 ho; exact optS_ok k (by have := List.mem_range.1 hk; omega)
  optUp := fun i a b ha hb => by
    obtain ⟨_, rfl⟩ := get_map_range ha
    obtain ⟨hi, rfl⟩ := get_map_range hb
    exact optS_up i (by omega)
  rs48 := by rw [rulesTo_len]; omega
  rsName := fun r hr => by obtain ⟨k, hk, rfl⟩ := List.mem_map.1 hr; exact ruleS_ok k (by have := List.mem_range.1 hk; omega)
  rsUniq := fun i j a b hij ha hb => by
    obtain ⟨_, rfl⟩ := get_map_range ha
    obtain ⟨hj, rfl⟩ := get_map_range hb
    exact ruleS_ne i j hij (by omega)
  rsLit := fun r hr => by
    obtain ⟨k, hk, rfl⟩ := List.mem_map.1 hr
    rw [optsTo_len]
    exact ⟨decodeL_ok n _, by have := decodeL_len n (R.getD k []); show (decodeL n (R.getD k [])).length < 1000; omega⟩
  gs48 := by rw [guardsTo_len]; omega
  gsInst := fun g hg => by obtain ⟨k, hk, rfl⟩ := List.mem_map.1 hg; simp only; omega
  gsLit := fun g hg => by
    obtain ⟨k, hk, rfl⟩ := List.mem_map.1 hg
    rw [optsTo_len]
    exact ⟨decodeL_ok n _, by have := decodeL_len n (D.getD k []); show (decodeL n (D.getD k [])).length < 1000; omega⟩
  os48 := by rw [ovsTo_len]; omega
  osLit := fun o ho => by
    obtain ⟨k, hk, rfl⟩ := List.mem_map.1 ho
    rw [optsTo_len]
    exact ⟨decodeL_ok n _, by have := decodeL_len n (O.getD k []); show (decodeL n (O.getD k [])).length < 1000; omega⟩
  osDim := fun o ho => by
    obtain ⟨k, hk, rfl⟩ := List.mem_map.1 ho
    have h2 : k % 2 < 2 := Nat.mod_lt _ (by omega)
    refine ⟨k % 2, baseDims.getD (k % 2) (⟨#[]⟩, 0, 0, 0), rfl, ?_, rfl⟩
    rw [List.getD_eq_getElem?_getD]
    have : k % 2 < baseDims.length := h2
    rw [List.getElem?_eq_getElem this]; rfl

/-- The configuration, the set that number i stands for. -/
def cfgN (n i : Nat) : Int := ((2 ^ n - 1 - i) * 2 ^ (12 - n) : Nat)
def setN (n i : Nat) : Int := (rev n (2 ^ n - 1 - i) : Int)

theorem revTo_bit (n k : Nat) : ∀ i o, o < i → revTo n k i / 2 ^ o % 2 = k / 2 ^ (n - 1 - o) % 2
  | 0, o, h => by omega
  | i + 1, o, h => by
    have hlt := revTo_lt n k i
    simp only [revTo]
    rcases Nat.lt_or_ge o i with ho | ho
    · rw [← revTo_bit n k i o ho]
      have e : 2 ^ i = 2 ^ o * (2 * 2 ^ (i - o - 1)) := by
        rw [← Nat.pow_succ', ← Nat.pow_add, show o + (i - o - 1 + 1) = i by omega]
      rw [e, show k / 2 ^ (n - 1 - i) % 2 * (2 ^ o * (2 * 2 ^ (i - o - 1))) = 2 ^ o * (2 * (k / 2 ^ (n - 1 - i) % 2 * 2 ^ (i - o - 1))) by
        rw [Nat.mul_left_comm]; congr 1; rw [Nat.mul_left_comm]]
      rw [Nat.add_mul_div_left _ _ (Nat.two_pow_pos o), Nat.add_mul_mod_self_left]
    · obtain rfl : o = i := by omega
      rw [Nat.add_mul_div_right _ _ (Nat.two_pow_pos o), Nat.div_eq_of_lt hlt, Nat.zero_add, Nat.mod_mod]

theorem setB_nat (s : Nat) (o : Nat) : setB (s : Int) (o : Int) = (s / 2 ^ o % 2 == 1) := by
  unfold setB
  rw [Int.toNat_natCast]
  have e : ((s : Int) / 2 ^ o % 2) = ((s / 2 ^ o % 2 : Nat) : Int) := by simp
  rw [e, Bool.eq_iff_iff, beq_iff_eq, beq_iff_eq]
  omega
theorem bitB_nat2 (c : Nat) (o : Nat) (ho : o ≤ 11) : bitB (c : Int) (o : Int) = (c / 2 ^ (11 - o) % 2 == 1) := by
  unfold bitB
  have h : (11 - (o : Int)).toNat = 11 - o := by omega
  rw [h]
  have e : ((c : Int) / 2 ^ (11 - o) % 2) = ((c / 2 ^ (11 - o) % 2 : Nat) : Int) := by simp
  rw [e, Bool.eq_iff_iff, beq_iff_eq, beq_iff_eq]
  omega

theorem bits_agree (n i : Nat) (hn : n ≤ 12) (o : Nat) (ho : o < n) : setB (setN n i) o = bitB (cfgN n i) o := by
  unfold setN cfgN rev
  rw [setB_nat, bitB_nat2 _ _ (by omega), revTo_bit n _ n o ho]
  congr 2
  have e : 2 ^ (11 - o) = 2 ^ (12 - n) * 2 ^ (n - 1 - o) := by rw [← Nat.pow_add, show 12 - n + (n - 1 - o) = 11 - o by omega]
  rw [e, ← Nat.div_div_eq_div_mul, Nat.mul_div_cancel _ (Nat.two_pow_pos _)]

theorem bits_agreeZ (n i : Nat) (hn : n ≤ 12) (o : Int) (h0 : 0 ≤ o) (ho : o < n) : setB (setN n i) o = bitB (cfgN n i) o := by
  obtain ⟨m, rfl⟩ : ∃ m : Nat, o = m := ⟨o.toNat, by omega⟩
  exact bits_agree n i hn m (by omega)

theorem mHolds_eq (n i : Nat) (hn : n ≤ 12) {ch : List Lit1} (h : LitsOk n ch) : mHolds (setN n i) ch = cHolds (cfgN n i) ch := by
  unfold mHolds cHolds
  rw [Bool.eq_iff_iff, List.all_eq_true, List.all_eq_true]
  exact forall_congr' fun l => forall_congr' fun hl => by rw [bits_agreeZ n i hn l.1 (h l hl).1 (h l hl).2]
theorem mSat_eq (n i : Nat) (hn : n ≤ 12) {ch : List Lit1} (h : LitsOk n ch) : mSat (setN n i) ch = cSat (cfgN n i) ch := by
  unfold mSat cSat
  rw [Bool.eq_iff_iff, List.any_eq_true, List.any_eq_true]
  exact exists_congr fun l => and_congr_right fun hl => by rw [bits_agreeZ n i hn l.1 (h l hl).1 (h l hl).2]

theorem mBroken_eq (n i : Nat) (hn : n ≤ 12) : ∀ {rs : List Rule1}, (∀ r ∈ rs, LitsOk n r.2) → mBroken (setN n i) (List.replicate rs.length false) rs = cBroken (cfgN n i) rs
  | [], _ => rfl
  | r :: rs, h => by
    have ih := mBroken_eq n i hn (rs := rs) (fun x hx => h x (by simp [hx]))
    have h1 := mSat_eq n i hn (h r (by simp))
    unfold mBroken cBroken at *
    simp only [List.length_cons, List.replicate_succ, List.zip_cons_cons, ixOf, Bool.not_false, Bool.true_and, h1, ih]

/-- The numbers of the allowed configurations. -/
def okNums (n : Nat) (ch : List Lit1) (rs : List Rule1) : List Nat := (List.range (2 ^ n)).filter fun i => cOk ch rs (cfgN n i)

theorem visL_nums (n : Nat) (ch : List Lit1) (rs : List Rule1) : visL n ch rs = (okNums n ch rs).map (cfgN n) := by
  unfold visL cfgsL okNums
  rw [List.filter_map]; rfl
theorem allowedL_nums (n : Nat) (hn : n ≤ 12) {ch : List Lit1} {rs : List Rule1} (hch : LitsOk n ch) (hrs : ∀ r ∈ rs, LitsOk n r.2) : allowedL n (List.replicate rs.length false) rs ch = (okNums n ch rs).map (setN n) := by
  unfold allowedL setsL setsTo okNums
  rw [List.filter_map]
  have : (okSet (List.replicate rs.length false) rs ch ∘ fun i => (rev n (2 ^ n - 1 - i) : Int)) = fun i => cOk ch rs (cfgN n i) := by
    funext i
    show okSet _ rs ch (setN n i) = _
    unfold okSet cOk
    rw [mHolds_eq n i hn hch, mBroken_eq n i hn hrs]
  rw [this]; rfl

theorem selFrom_congr {α : Type} {p q : Nat → Bool} : ∀ (xs : List α) (k : Nat), (∀ i, k ≤ i → i < k + xs.length → p i = q i) → selFrom p k xs = selFrom q k xs
  | [], _, _ => rfl
  | x :: xs, k, h => by
    simp only [selFrom]
    rw [h k (Nat.le_refl _) (by simp), selFrom_congr xs (k + 1) (fun i h1 h2 => h i (by omega) (by simp; omega))]
theorem names_eq (n i : Nat) (hn : n ≤ 12) {opts : List ByteArray} (ho : opts.length = n) : sel (fun o => bitB (cfgN n i) o) opts = sel (fun o => setB (setN n i) o) opts :=
  selFrom_congr opts 0 (fun o _ h => (bits_agree n i hn o (by omega)).symm)

theorem rulesTo_lits {n : Nat} {R : List (List Int)} {k : Nat} : ∀ r ∈ rulesTo n R k, LitsOk n r.2 := fun r hr => by
  obtain ⟨j, _, rfl⟩ := List.mem_map.1 hr
  exact litErr_ok (decodeL_ok n _)

end Go.Proofs.YtknpbcdmemlicaaGreatDoor
