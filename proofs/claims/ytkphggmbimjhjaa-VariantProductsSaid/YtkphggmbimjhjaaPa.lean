/-
  Names of options, parsed: plain laws; a map of integers.
-/
import Derived.Test.YtkphggmbimjhjaaMem
import Derived.Test.YtkphggmbimjhjaaFok
import Derived.Maps.OwnSet
namespace Go.Proofs.Ytkphggmbimjhjaa
open Go.RowKit

/-- The last place of s among the first k options, or -1. -/
def atTo (opts : List ByteArray) (s : ByteArray) : Nat → Int
  | 0 => -1
  | k + 1 => if opts[k]? = some s then (k : Int) else atTo opts s k
theorem atTo_range (opts : List ByteArray) (s : ByteArray) : ∀ k, -1 ≤ atTo opts s k ∧ atTo opts s k < (k : Int)
  | 0 => by simp [atTo]
  | k + 1 => by
    have := atTo_range opts s k
    rw [atTo]
    split <;> omega
theorem atTo_hit {opts : List ByteArray} {s : ByteArray} {k : Nat} (h : opts[k]? = some s) : atTo opts s (k + 1) = k := by rw [atTo, if_pos h]
theorem atTo_miss {opts : List ByteArray} {s o : ByteArray} {k : Nat} (h : opts[k]? = some o) (hne : o ≠ s) : atTo opts s (k + 1) = atTo opts s k := by
  rw [atTo, if_neg]
  rw [h]
  intro e
  exact hne (Option.some.inj e)

/-- a ≤ b, as the program compares. -/
def leS (a b : ByteArray) : Bool := Op.bytesLess a.data.toList b.data.toList || a.data.toList == b.data.toList
theorem leS_of (a b : ByteArray) : leS a b = (Op.bytesLess a.toList b.toList || a.toList == b.toList) := by rw [ByteArray.toList_eq, ByteArray.toList_eq]; rfl
/-- The error of name i, if those before it have none. -/
def pErrAt (opts on : List ByteArray) (i : Nat) : Int :=
  match on[i]? with
  | none => 0
  | some s => if atTo opts s opts.length < 0 then 16 else if 0 < i ∧ leS s (on.getD (i - 1) ⟨#[]⟩) = true then 8 else 0
/-- The first error of the first i names. -/
def pErrTo (opts on : List ByteArray) : Nat → Int
  | 0 => 0
  | i + 1 => if pErrTo opts on i = 0 then pErrAt opts on i else pErrTo opts on i
def pErr (opts on : List ByteArray) : Int := pErrTo opts on on.length
theorem pErrTo_stay (opts on : List ByteArray) {i : Nat} (h : pErrTo opts on i ≠ 0) : ∀ d, pErrTo opts on (i + d) = pErrTo opts on i
  | 0 => rfl
  | d + 1 => by
    have := pErrTo_stay opts on h d
    rw [← Nat.add_assoc, pErrTo, this, if_neg h]
theorem pErr_of {opts on : List ByteArray} {i : Nat} (hi : i < on.length) (h0 : pErrTo opts on i = 0) (h : pErrAt opts on i ≠ 0) : pErr opts on = pErrAt opts on i := by
  have h1 : pErrTo opts on (i + 1) = pErrAt opts on i := by rw [pErrTo, if_pos h0]
  have := pErrTo_stay opts on (i := i + 1) (by rw [h1]; exact h) (on.length - (i + 1))
  rw [show i + 1 + (on.length - (i + 1)) = on.length by omega, h1] at this
  exact this
theorem pErrTo_next {opts on : List ByteArray} {i : Nat} (h0 : pErrTo opts on i = 0) (h : pErrAt opts on i = 0) : pErrTo opts on (i + 1) = 0 := by rw [pErrTo, if_pos h0, h]

/-- The set, the configuration of the first i names. -/
def pSet (opts on : List ByteArray) : Nat → Nat
  | 0 => 0
  | i + 1 => pSet opts on i ||| 2 ^ (atTo opts (on.getD i ⟨#[]⟩) opts.length).toNat
def pCfg (opts on : List ByteArray) : Nat → Nat
  | 0 => 0
  | i + 1 => pCfg opts on i ||| 2 ^ (11 - atTo opts (on.getD i ⟨#[]⟩) opts.length).toNat

theorem pSet_lt (opts on : List ByteArray) (n : Nat) (hn : 0 < n) (ho : opts.length ≤ n) : ∀ i, pSet opts on i < 2 ^ n
  | 0 => by rw [pSet]; exact Nat.two_pow_pos n
  | i + 1 => by
    rw [pSet]
    refine Nat.or_lt_two_pow (pSet_lt opts on n hn ho i) (Nat.pow_lt_pow_right (by omega) ?_)
    have := atTo_range opts (on.getD i ⟨#[]⟩) opts.length
    omega
theorem pCfg_lt (opts on : List ByteArray) : ∀ i, pCfg opts on i < 2 ^ 13
  | 0 => by rw [pCfg]; exact Nat.two_pow_pos 13
  | i + 1 => by
    rw [pCfg]
    refine Nat.or_lt_two_pow (pCfg_lt opts on i) (Nat.pow_lt_pow_right (by omega) ?_)
    have := atTo_range opts (on.getD i ⟨#[]⟩) opts.length
    omega

theorem or_bit (a x o : Nat) : (a ||| 2 ^ x).testBit o = (a.testBit o || decide (x = o)) := by
  rw [Nat.testBit_or, Nat.testBit_two_pow]
/-- No error among the first i: the set and the configuration say the same. -/
theorem p_agree (opts on : List ByteArray) (h12 : opts.length ≤ 12) : ∀ i, i ≤ on.length → pErrTo opts on i = 0 → ∀ o, o ≤ 11 → (pSet opts on i).testBit o = (pCfg opts on i).testBit (11 - o)
  | 0, _, _, o, _ => by simp [pSet, pCfg]
  | i + 1, hi, h, o, ho => by
    have h0 : pErrTo opts on i = 0 := by
      rw [pErrTo] at h
      split at h
      · assumption
      · exact h
    have ih := p_agree opts on h12 i (by omega) h0 o ho
    have he : pErrAt opts on i = 0 := by rw [pErrTo, if_pos h0] at h; exact h
    have hr := atTo_range opts (on.getD i ⟨#[]⟩) opts.length
    have hge : 0 ≤ atTo opts (on.getD i ⟨#[]⟩) opts.length := by
      unfold pErrAt at he
      rw [List.getElem?_eq_getElem (by omega)] at he
      rw [List.getD_eq_getElem?_getD, List.getElem?_eq_getElem (by omega)]
      simp only at he
      split at he
      · omega
      · rename_i hn
        simpa using hn
    rw [pSet, pCfg, or_bit, or_bit, ih]
    congr 1
    rw [Bool.eq_iff_iff, decide_eq_true_eq, decide_eq_true_eq]
    omega

theorem setB_bit (s o : Nat) : setB (s : Int) (o : Int) = s.testBit o := by
  rw [setB_nat, Nat.testBit_eq_decide_div_mod_eq, Bool.eq_iff_iff, beq_iff_eq, decide_eq_true_eq]
theorem bitB_bit (c o : Nat) (ho : o ≤ 11) : bitB (c : Int) (o : Int) = c.testBit (11 - o) := by
  rw [bitB_nat2 c o ho, Nat.testBit_eq_decide_div_mod_eq, Bool.eq_iff_iff, beq_iff_eq, decide_eq_true_eq]

theorem mSat_bits {n : Nat} {s c : Int} (h : ∀ o : Nat, o < n → setB s o = bitB c o) {ch : List Lit1} (hl : LitsOk n ch) : mSat s ch = cSat c ch := by
  unfold mSat cSat
  rw [Bool.eq_iff_iff, List.any_eq_true, List.any_eq_true]
  refine exists_congr fun l => and_congr_right fun hm => ?_
  obtain ⟨h1, h2⟩ := hl l hm
  obtain ⟨m, hm⟩ : ∃ m : Nat, l.1 = m := ⟨l.1.toNat, by omega⟩
  rw [hm, h m (by omega)]
theorem mBroken_bits {n : Nat} {s c : Int} (h : ∀ o : Nat, o < n → setB s o = bitB c o) : ∀ {rs : List Rule1}, (∀ r ∈ rs, LitsOk n r.2) → mBroken s (List.replicate rs.length false) rs = cBroken c rs
  | [], _ => rfl
  | r :: rs, hl => by
    have ih := mBroken_bits h (rs := rs) (fun x hx => hl x (by simp [hx]))
    have h1 := mSat_bits h (hl r (by simp))
    unfold mBroken cBroken at *
    simp only [List.length_cons, List.replicate_succ, List.zip_cons_cons, ixOf, Bool.not_false, Bool.true_and, h1, ih]
theorem mSat_same {n : Nat} {s c : Int} (h : ∀ o : Nat, o < n → setB s o = setB c o) {ch : List Lit1} (hl : LitsOk n ch) : mSat s ch = mSat c ch := by
  unfold mSat
  rw [Bool.eq_iff_iff, List.any_eq_true, List.any_eq_true]
  refine exists_congr fun l => and_congr_right fun hm => ?_
  obtain ⟨h1, h2⟩ := hl l hm
  obtain ⟨m, hm⟩ : ∃ m : Nat, l.1 = m := ⟨l.1.toNat, by omega⟩
  rw [hm, h m (by omega)]
theorem mBroken_same {n : Nat} {s c : Int} (h : ∀ o : Nat, o < n → setB s o = setB c o) : ∀ {rs : List Rule1}, (∀ r ∈ rs, LitsOk n r.2) → mBroken s (List.replicate rs.length false) rs = mBroken c (List.replicate rs.length false) rs
  | [], _ => rfl
  | r :: rs, hl => by
    have ih := mBroken_same h (rs := rs) (fun x hx => hl x (by simp [hx]))
    have h1 := mSat_same h (hl r (by simp))
    unfold mBroken at *
    simp only [List.length_cons, List.replicate_succ, List.zip_cons_cons, ixOf, Bool.not_false, Bool.true_and, h1, ih]

/-- The parsed set and the parsed configuration break the same rule first. -/
theorem p_broken {opts on : List ByteArray} {n : Nat} (hn : opts.length = n) (h12 : n ≤ 12) (h : pErr opts on = 0) {rs : List Rule1} (hl : ∀ r ∈ rs, LitsOk n r.2) :
    mBroken (pSet opts on on.length) (List.replicate rs.length false) rs = cBroken (pCfg opts on on.length) rs :=
  mBroken_bits (n := n) (fun o ho => by rw [setB_bit, bitB_bit _ _ (by omega)]; exact p_agree opts on (by omega) _ (Nat.le_refl _) h o (by omega)) hl

/-- The places of options in a map of integers that the call has made. -/
def IMap (w : World) (b n : Nat) (opts : List ByteArray) (k : Nat) : Prop :=
  ∃ D : DataW Unit, w.ownsMap Try.prog 9 (plainElem Try.prog 3) b n D ∧ Maps.IsMap D ∧ ∀ s : ByteArray,
    (0 ≤ atTo opts s k → D.atKey (.string s.data.toList) (.lit (.int .i64 0)) = .lit (.int .i64 (atTo opts s k))) ∧ Maps.has D (.string s.data.toList) = decide (0 ≤ atTo opts s k)

theorem IMap.made (w : World) (opts : List ByteArray) : IMap (w.alloc (.map #[] 0)) w.heap.size 0 opts 0 :=
  ⟨_, World.ownsMap_made w _ _ _, Maps.isMap_empty, fun s => ⟨fun h => by simp [atTo] at h, by simp [Maps.has_eq, atTo]⟩⟩

theorem IMap.mono {w w' : World} {b n k : Nat} {opts : List ByteArray} (h : IMap w b n opts k) (hb : Below w.heap.size w w') : IMap w' b n opts k := by
  obtain ⟨D, h1, h2, h3⟩ := h
  exact ⟨D, h1.kept (row := none) ⟨hb.os, hb.tape, hb.output, hb.size, fun k hk _ => hb.block k hk⟩ (by simp), h2, h3⟩
theorem IMap.lt {w : World} {b n k : Nat} {opts : List ByteArray} (h : IMap w b n opts k) : b < w.heap.size := by
  obtain ⟨D, h1, _⟩ := h
  exact h1.lt

theorem zero3 (w : World) : (zeroValue 3).run Try.prog w = .ok (.int .i64 0) w := by kernel_rfl

theorem wpLookI {ops : Array Oper} {rest : List Oper} {o : Oper} {a : Act} {Q : Exit → Act → World → Prop} {w : World} (hg : o.guard = none) (m x : Operand) (hop : o.op = Op.lookup 141 m x true) (b n k : Nat) (opts : List ByteArray) (s : ByteArray)
    (hm : a.eval m = .map (some b)) (hx : a.eval x = .string s) (h : IMap w b n opts k) (hs : s.size ≤ maxLen) (t : Int) (ht : atTo opts s k = t)
    (hK : ∀ c : Int, (0 ≤ t → c = t) → wpList Try.prog ops Q rest (a.put o.dst (.tuple #[.int .i64 c, .bool (decide (0 ≤ t))])) w) : wpList Try.prog ops Q (o :: rest) a w := by
  obtain ⟨D, h1, h2, h3⟩ := h
  refine wpList_lookup_own_ok_int w hg m x 141 hop 9 3 .i64 (Maps.string_keyed Try.underlying9) Try.underlying141 Try.underlying3 (zero3 w) b n D hm h1 (.string s) _ hx (WideMaps.keyOf_string_mk Try.underlying9 hs) ?_
  intro c hc _
  have h4 := h3 s
  rw [ht] at h4
  rw [h4.2]
  refine hK c fun h0 => ?_
  have := h4.1 h0
  rw [hc] at this
  simpa using this

theorem wpPutI {ops : Array Oper} {rest : List Oper} {o : Oper} {a : Act} {Q : Exit → Act → World → Prop} {w : World} (hg : o.guard = none) (m x v : Operand) (hop : o.op = Op.mapUpdate 141 m x v) (b n k : Nat) (opts : List ByteArray) (s : ByteArray)
    (hm : a.eval m = .map (some b)) (hx : a.eval x = .string s) (hv : a.eval v = .int .i64 (k : Int)) (h : IMap w b n opts k) (hn : n < maxLen) (hs : s.size ≤ maxLen) (hk : k < 1000) (hok : opts[k]? = some s)
    (hK : ∀ w', IMap w' b (n + 1) opts (k + 1) → w.grownBy w' (some b) → wpList Try.prog ops Q rest (a.put o.dst undef) w') : wpList Try.prog ops Q (o :: rest) a w := by
  obtain ⟨D, h1, h2, h3⟩ := h
  refine wpList_mapUpdate_own w hg m x v 141 hop 9 3 (Maps.string_keyed Try.underlying9) Try.underlying141 _ b n D hm h1 hn (.string s) (.int .i64 (k : Int)) _ hx hv (WideMaps.keyOf_string_mk Try.underlying9 hs) (.lit (.int .i64 (k : Int))) []
    (plainElem_int Try.underlying3 (WalkArith.wf_i64 (by omega))) ?_
  intro w' r1 r2
  refine hK w' ⟨_, r1, h2.put _ _, fun s' => ?_⟩ r2
  by_cases e : s = s'
  · subst e
    rw [Maps.atKey_put_same h2 (by simp [WideAt.IsKeyLit]), Maps.has_put_same h2 (by simp [WideAt.IsKeyLit]), atTo_hit hok]
    exact ⟨fun _ => rfl, by simp⟩
  · have hne : (Lit.string s'.data.toList) ≠ Lit.string s.data.toList := by
      intro h
      apply e
      injection h with h
      cases s with | mk x => cases s' with | mk y => simpa using (congrArg List.toArray h).symm
    rw [Maps.atKey_put_other hne, Maps.has_put_other hne, atTo_miss hok e]
    exact h3 s'

/-- The names of a set are read as this set. -/
theorem names_read : ∀ k, k ≤ 6 → ∀ i, i < 2 ^ k → pErr (optsTo k) (sel (fun o => setB (setN k i) o) (optsTo k)) = 0 ∧
    ∀ o, o < k → setB (pSet (optsTo k) (sel (fun o => setB (setN k i) o) (optsTo k)) (sel (fun o => setB (setN k i) o) (optsTo k)).length : Nat) (o : Nat) = setB (setN k i) (o : Nat) := by
  decide +kernel

end Go.Proofs.Ytkphggmbimjhjaa
