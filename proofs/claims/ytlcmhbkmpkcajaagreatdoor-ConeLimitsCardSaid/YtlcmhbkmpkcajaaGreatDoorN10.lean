/-
  Parts of the proof: Rat3, Rat4, Parse, Tx.
-/
import Derived.Shelf.Strings.SlTrimAscii
import Derived.Laws.RangeString
import Derived.Test.YtlcmhbkmpkcajaaGreatDoorN09
namespace Go.Proofs.YtlcmhbkmpkcajaaGreatDoor
open Go.RowKit
set_option maxHeartbeats 4000000 in
theorem radd_w (u v : Value) (p q : Int) (w : World) (h : RatV w u p 0) (h' : RatV w v q 0) (hl1 : (limbs p.natAbs).length < 1000000) (hl2 : (limbs q.natAbs).length < 1000000) : Calls Tryz.prog 32 #[u, v] w (RetP (fun r w' => RatV w' r (p + q) 0) w) := by
  obtain ⟨x, a, n, c, x', a', n', c', rfl, h⟩ := h.open
  obtain ⟨y, e, m, k, y', e', m', k', rfl, h'⟩ := h'.open
  have hA : Blk (((w.alloc (.cells #[.bool x, .slice a n c, .bool x', .slice a' n' c'] 61)).alloc (.cells #[.bool y, .slice e m k, .bool y', .slice e' m' k'] 61)).alloc (.cells #[.bool false, .slice none 0 0, .bool false, .slice none 0 0] 61)) w.heap.size #[.bool x, .slice a n c, .bool x', .slice a' n' c'] 61 := ((Blk.new w _ _).old _).old _
  have hB : Blk (((w.alloc (.cells #[.bool x, .slice a n c, .bool x', .slice a' n' c'] 61)).alloc (.cells #[.bool y, .slice e m k, .bool y', .slice e' m' k'] 61)).alloc (.cells #[.bool false, .slice none 0 0, .bool false, .slice none 0 0] 61)) (w.heap.size + 1) #[.bool y, .slice e m k, .bool y', .slice e' m' k'] 61 := by
    have h := (Blk.new (w.alloc (.cells #[.bool x, .slice a n c, .bool x', .slice a' n' c'] 61)) #[.bool y, .slice e m k, .bool y', .slice e' m' k'] 61).old (.cells #[.bool false, .slice none 0 0, .bool false, .slice none 0 0] 61)
    simpa using h
  have hR : Blk (((w.alloc (.cells #[.bool x, .slice a n c, .bool x', .slice a' n' c'] 61)).alloc (.cells #[.bool y, .slice e m k, .bool y', .slice e' m' k'] 61)).alloc (.cells #[.bool false, .slice none 0 0, .bool false, .slice none 0 0] 61)) (w.heap.size + 1 + 1) #[.bool false, .slice none 0 0, .bool false, .slice none 0 0] 61 := by
    have h := Blk.new ((w.alloc (.cells #[.bool x, .slice a n c, .bool x', .slice a' n' c'] 61)).alloc (.cells #[.bool y, .slice e m k, .bool y', .slice e' m' k'] 61)) #[.bool false, .slice none 0 0, .bool false, .slice none 0 0] 61
    simpa using h
  have HA := hI (fun w' (hb : Below (((w.alloc (.cells #[.bool x, .slice a n c, .bool x', .slice a' n' c'] 61)).alloc (.cells #[.bool y, .slice e m k, .bool y', .slice e' m' k'] 61)).alloc (.cells #[.bool false, .slice none 0 0, .bool false, .slice none 0 0] 61)).heap.size (((w.alloc (.cells #[.bool x, .slice a n c, .bool x', .slice a' n' c'] 61)).alloc (.cells #[.bool y, .slice e m k, .bool y', .slice e' m' k'] 61)).alloc (.cells #[.bool false, .slice none 0 0, .bool false, .slice none 0 0] 61)) w') => cells4 hA hb)
  have HB := hI (fun w' (hb : Below (((w.alloc (.cells #[.bool x, .slice a n c, .bool x', .slice a' n' c'] 61)).alloc (.cells #[.bool y, .slice e m k, .bool y', .slice e' m' k'] 61)).alloc (.cells #[.bool false, .slice none 0 0, .bool false, .slice none 0 0] 61)).heap.size (((w.alloc (.cells #[.bool x, .slice a n c, .bool x', .slice a' n' c'] 61)).alloc (.cells #[.bool y, .slice e m k, .bool y', .slice e' m' k'] 61)).alloc (.cells #[.bool false, .slice none 0 0, .bool false, .slice none 0 0] 61)) w') => cells4 hB hb)
  have HR := hI hR
  have HK := hI (below3 w (.cells #[.bool x, .slice a n c, .bool x', .slice a' n' c'] 61) (.cells #[.bool y, .slice e m k, .bool y', .slice e' m' k'] 61) (.cells #[.bool false, .slice none 0 0, .bool false, .slice none 0 0] 61))
  have H1 := hI (fun w' (hb : Below w.heap.size w w') => (whole_d _ p w' (h.mono hb)).mono fun _ _ h => h.ret)
  have H2 := hI (fun w' (hb : Below w.heap.size w w') => (whole_d _ q w' (h'.mono hb)).mono fun _ _ h => h.ret)
  have H3 := hI (fun w' (hb : Below w.heap.size w w') => add_any _ _ p q w' (h.parts.1.mono hb) (h'.parts.1.mono hb) hl1 hl2)
  clear h h' hA hB hR hl1 hl2
  go_enter Tryz.func32, Tryz.ntmps32
  go_wp2_with (first
    | (go_at_call 36; refine (H2.out _ (HK.out.via hb1 HK.out.size)).mono ?_; rintro e2 w2 ⟨rfl, hb2⟩; obtain ⟨c0, c1, c2, c3⟩ := HA.out _ (bw_via hb1 hb2); obtain ⟨d0, d1, d2, d3⟩ := HB.out _ (bw_via hb1 hb2))
    | (go_at_call 36; refine (H1.out _ HK.out).mono ?_; rintro e1 w1 ⟨rfl, hb1⟩; obtain ⟨d0, d1, d2, d3⟩ := HB.out _ hb1)
    | (go_at_call 56; refine (H3.out _ (HK.out.via (bw_via hb1 hb2) HK.out.size)).mono ?_; rintro e3 w3 ⟨v5, rfl, hv, hb3⟩; obtain ⟨x5, a5, n5, c5, rfl, hv⟩ := hv.open; have hr := HR.out.below (bw_via hb1 (bw_via hb2 hb3)); obtain ⟨⟨r0, r1, r2, r3⟩, f0, f1, f2, f3⟩ := blk4v hr; obtain ⟨hv6, hb6⟩ := RatV.put4 (RatV.whole0 hv) hr; have Hv6 := hI hv6; have Hb6 := hI hb6; have Hbel := hI (put_below4 (b := w.heap.size + 1 + 1) (.bool x5) (.slice a5 n5 c5) (.bool false) (.slice none 0 0) (HK.out.via (bw_via hb1 (bw_via hb2 hb3)) HK.out.size) (by omega)); clear hv6 hb6; clear hv hr))
  obtain ⟨⟨q0, q1, q2, q3⟩, -⟩ := blk4v Hb6.out
  refine bodyPost_ret (v := .agg #[.bool x5, .slice a5 n5 c5, .bool false, .slice none 0 0]) (by simp [results, Tryz.results32, go_sem, q0, q1, q2, q3]) rfl ⟨_, rfl, ?_, Hbel.out⟩
  exact Hv6.out
set_option maxHeartbeats 2000000 in
theorem den0_any (v : Value) (p : Int) (w : World) (h : RatV w v p 0) : Calls Tryz.prog 59 #[v] w (RetP (fun r w' => IntV w' r 1) w) := by
  obtain ⟨x, a, n, c, x', a', n', c', rfl, h⟩ := h.open
  have hR : Blk ((w.alloc (.cells #[.bool x, .slice a n c, .bool x', .slice a' n' c'] 61)).alloc (.cells #[.bool false, .slice none 0 0] 59)) (w.heap.size + 1) #[.bool false, .slice none 0 0] 59 := by
    have h := Blk.new (w.alloc (.cells #[.bool x, .slice a n c, .bool x', .slice a' n' c'] 61)) #[.bool false, .slice none 0 0] 59
    simpa using h
  have HR := hI hR
  have HK := hI (below2 w (.cells #[.bool x, .slice a n c, .bool x', .slice a' n' c'] 61) (.cells #[.bool false, .slice none 0 0] 59))
  have H1 := hI (sign_any _ 0 ((w.alloc (.cells #[.bool x, .slice a n c, .bool x', .slice a' n' c'] 61)).alloc (.cells #[.bool false, .slice none 0 0] 59)) (h.parts.2.mono HK.out))
  rw [show Int.sign 0 = 0 from rfl] at H1
  have H2 := hI (fun w' => one_any w')
  clear h hR
  go_enter Tryz.func59, Tryz.ntmps59
  go_wp2_with (first
    | (go_at_call 34; refine (H1.out).mono ?_; rintro e1 w1 ⟨rfl, hb1⟩)
    | (go_at_call 62; refine (H2.out _).mono ?_; rintro e2 w2 ⟨v5, rfl, hv, hb2⟩; obtain ⟨x5, a5, k5, c5, rfl, hv⟩ := hv.open; have hr := HR.out.below (bw_via hb1 hb2); obtain ⟨⟨r0, r1⟩, f0, f1⟩ := blk2v hr; obtain ⟨hv6, hb6⟩ := IntV.put2 hv hr; have Hv6 := hI hv6; have Hb6 := hI hb6; have Hbel := hI (put_below (b := w.heap.size + 1) x5 a5 k5 c5 (HK.out.via (bw_via hb1 hb2) HK.out.size) (by omega)); clear hr hv6 hb6 hv))
  obtain ⟨⟨q0, q1⟩, -⟩ := blk2v Hb6.out
  exact bodyPost_ret (v := .agg #[.bool x5, .slice a5 k5 c5]) (by simp [results, Tryz.results59, go_sem, q0, q1]) rfl ⟨_, rfl, Hv6.out, Hbel.out⟩
end Go.Proofs.YtlcmhbkmpkcajaaGreatDoor
namespace Go.Proofs.YtlcmhbkmpkcajaaGreatDoor
open Go.RowKit
theorem cell_far4 {w : World} {a : Addr} {v : Value} {b : Nat} {v0 v1 v2 v3 : Value} (h : w.cell? a = some v) (hne : b ≠ a.block) : ((((w.setCell ⟨b, 0, none⟩ v0).setCell ⟨b, 1, none⟩ v1).setCell ⟨b, 2, none⟩ v2).setCell ⟨b, 3, none⟩ v3).cell? a = some v :=
  cell_far (cell_far (cell_far (cell_far h hne) hne) hne) hne
end Go.Proofs.YtlcmhbkmpkcajaaGreatDoor
namespace Go.Proofs.YtlcmhbkmpkcajaaGreatDoor
open Go.RowKit
def noDig (x : Nat) : Bool := decide (x < 48) || decide (57 < x)
def cut10 : List UInt8 := [48, 49, 50, 51, 52, 53, 54, 55, 56, 57]
set_option maxHeartbeats 400000 in
theorem pnod (x : Nat) (w : World) (hx : x ≤ 1114111) : Calls Tryz.prog 113 #[.int .i32 (x : Int)] w (fun e w' => e = .returned (.bool (noDig x)) ∧ Below w.heap.size w w') := by
  unfold noDig
  rcases Nat.lt_or_ge x 48 with h | h
  · have a0 : (x : Int) < 48 := by omega
    rw [decide_eq_true h, Bool.true_or]
    go_enter Tryz.func113, Tryz.ntmps113
    go_wp2
    go_ret
    exact ⟨rfl, Below.refl _ _⟩
  · have a0 : ¬ (x : Int) < 48 := by omega
    rw [decide_eq_false (by omega), Bool.false_or]
    rcases Nat.lt_or_ge 57 x with h' | h'
    · have a1 : (57 : Int) < x := by omega
      rw [decide_eq_true h']
      go_enter Tryz.func113, Tryz.ntmps113
      go_wp2
      go_ret
      exact ⟨rfl, Below.refl _ _⟩
    · have a1 : ¬ (57 : Int) < x := by omega
      rw [decide_eq_false (by omega)]
      go_enter Tryz.func113, Tryz.ntmps113
      go_wp2
      go_ret
      exact ⟨rfl, Below.refl _ _⟩
theorem ten9 {k : Nat} (h : k < 9) : 10 ^ k ≤ 100000000 := Nat.le_trans (Nat.pow_le_pow_right (by decide) (show k ≤ 8 by omega)) (by decide)
theorem MagA.zero (w : World) : MagA w (.slice none 0 0) 0 := ⟨none, 0, by rw [limbs_zero]; rfl, by rw [limbs_zero]; exact Ls.nil w, AU.none w⟩
end Go.Proofs.YtlcmhbkmpkcajaaGreatDoor
namespace Go.Proofs.YtlcmhbkmpkcajaaGreatDoor
def isD (c : UInt8) : Bool := decide (48 ≤ c.toNat) && decide (c.toNat ≤ 57)
def dv (c : UInt8) : Nat := c.toNat - 48
theorem isD_iff {c : UInt8} : isD c = true ↔ 48 ≤ c.toNat ∧ c.toNat ≤ 57 := by simp [isD]
def valF (acc : Nat) (l : List UInt8) : Nat := l.foldl (fun a c => a * 10 + dv c) acc
theorem valF_nil (acc : Nat) : valF acc [] = acc := rfl
theorem valF_cons (acc : Nat) (c : UInt8) (l : List UInt8) : valF acc (c :: l) = valF (acc * 10 + dv c) l := by
  unfold valF
  rw [List.foldl_cons]
def valD (l : List UInt8) : Nat := valF 0 l
def AllD (l : List UInt8) : Prop := ∀ c ∈ l, isD c = true
theorem AllD.take {l : List UInt8} (h : AllD l) (k : Nat) : AllD (l.take k) := fun c hc => h c (List.mem_of_mem_take hc)
theorem AllD.drop {l : List UInt8} (h : AllD l) (k : Nat) : AllD (l.drop k) := fun c hc => h c (List.mem_of_mem_drop hc)
theorem valF_append (a : List UInt8) (acc : Nat) (b : List UInt8) : valF acc (a ++ b) = valF (valF acc a) b := List.foldl_append
theorem valF_eq (l : List UInt8) : ∀ acc : Nat, valF acc l = acc * 10 ^ l.length + valF 0 l := by
  induction l with
  | nil => intro acc; simp [valF_nil]
  | cons c l ih =>
    intro acc
    have h1 := ih (acc * 10 + dv c)
    have h2 := ih (0 * 10 + dv c)
    rw [valF_cons, valF_cons, h1, h2, List.length_cons, Nat.pow_succ, Nat.zero_mul, Nat.zero_add, Nat.add_mul, Nat.mul_assoc acc]
    rw [Nat.mul_comm 10, Nat.add_assoc]
theorem valD_append (a b : List UInt8) : valD (a ++ b) = valD a * 10 ^ b.length + valD b := by
  unfold valD
  rw [valF_append, valF_eq]
theorem dv_le {c : UInt8} (h : isD c = true) : dv c ≤ 9 := by
  have := (isD_iff.1 h).2
  unfold dv
  omega
theorem valD_lt : ∀ {l : List UInt8}, AllD l → valD l < 10 ^ l.length
  | [], _ => by simp [valD, valF_nil]
  | c :: l, h => by
    have ih := valD_lt (l := l) (fun x hx => h x (by simp [hx]))
    have h1 : valD (c :: l) = dv c * 10 ^ l.length + valD l := by
      have := valD_append [c] l
      simpa [valD, valF_cons, valF_nil] using this
    have h2 := dv_le (h c (by simp))
    rw [h1, List.length_cons, Nat.pow_succ]
    have h3 : dv c * 10 ^ l.length ≤ 9 * 10 ^ l.length := Nat.mul_le_mul_right _ h2
    omega
theorem parseM_of : ∀ {l : List UInt8} {acc : Nat}, AllD l → acc * 10 ^ l.length + valD l < 1000000000 → Lib.parseUintM 4294967295 acc l = .ok (valF acc l)
  | [], acc, _, _ => rfl
  | c :: l, acc, h, hb => by
    have hc := isD_iff.1 (h c (by simp))
    have h1 : valD (c :: l) = dv c * 10 ^ l.length + valD l := by
      have := valD_append [c] l
      simpa [valD, valF_cons, valF_nil] using this
    have e : (acc * 10 + dv c) * 10 ^ l.length + valD l = acc * 10 ^ (c :: l).length + valD (c :: l) := by
      rw [h1, List.length_cons, Nat.pow_succ, Nat.add_mul, Nat.mul_assoc acc, Nat.mul_comm 10]
      omega
    have hp : 1 ≤ 10 ^ l.length := Nat.pow_pos (by decide)
    have h2 : (acc * 10 + dv c) * 1 ≤ (acc * 10 + dv c) * 10 ^ l.length := Nat.mul_le_mul_left _ hp
    unfold Lib.parseUintM
    rw [if_pos hc, if_neg (by unfold dv at *; omega), if_neg (by unfold dv at *; omega)]
    exact parseM_of (fun x hx => h x (by simp [hx])) (by rw [← e] at hb; exact hb)
theorem parse9 {l : List UInt8} (h : AllD l) (hne : l ≠ []) (hl : l.length ≤ 9) : Lib.parseUintB 32 l = .ok (valD l) ∧ valD l < 1000000000 := by
  have h1 := valD_lt h
  have h2 : (10 : Nat) ^ l.length ≤ 10 ^ 9 := Nat.pow_le_pow_right (by decide) hl
  have h3 : valD l < 1000000000 := by omega
  refine ⟨?_, h3⟩
  unfold Lib.parseUintB
  rw [if_neg hne]
  exact parseM_of h (by omega)
theorem idx_none {l : List UInt8} (h : AllD l) : Lib.idxFunc noDig true ⟨l.toArray⟩ = -1 := by
  have key : ∀ (f pos : Nat), Lib.idxFuncFrom noDig true ⟨l.toArray⟩ f pos = -1 := by
    intro f
    induction f with
    | zero => intro pos; rfl
    | succ f ih =>
      intro pos
      unfold Lib.idxFuncFrom
      split
      · rename_i hp
        have hd := isD_iff.1 (h ((⟨l.toArray⟩ : ByteArray)[pos]'hp) (by
          have : (⟨l.toArray⟩ : ByteArray)[pos]'hp = l[pos]'(by rw [Lib.size_eq] at hp; exact hp) := rfl
          rw [this]
          exact List.getElem_mem _))
        rw [decode_ascii _ _ hp (by omega)]
        simp only
        rw [if_neg, ih]
        unfold noDig
        rw [decide_eq_false (by omega), decide_eq_false (by omega)]
        decide
      · rfl
  exact key _ _
theorem dropWhile_nil {α : Type} {p : α → Bool} : ∀ {l : List α}, l.dropWhile p = [] ↔ ∀ x ∈ l, p x = true
  | [] => by simp
  | a :: l => by
    have ih := dropWhile_nil (p := p) (l := l)
    rw [List.dropWhile_cons]
    by_cases h : p a = true
    · simp only [h, if_true, List.mem_cons, forall_eq_or_imp, true_and]; exact ih
    · simp only [Bool.not_eq_true] at h; simp [h]
theorem trimS_nil {l cs : List UInt8} : Lib.trimS l cs = [] ↔ ∀ c ∈ l, cs.contains c = true := by
  unfold Lib.trimS Lib.trimLeftS Lib.trimRightS
  constructor
  · intro h
    have h1 := dropWhile_nil.1 h
    intro c hc
    have h2 : ∀ x ∈ (l.reverse.dropWhile (cs.contains ·)), cs.contains x = true := fun x hx => h1 x (List.mem_reverse.2 hx)
    have h3 := List.takeWhile_append_dropWhile (p := (cs.contains ·)) (l := l.reverse)
    have h4 : c ∈ l.reverse := List.mem_reverse.2 hc
    rw [← h3] at h4
    rcases List.mem_append.1 h4 with h5 | h5
    · exact List.all_eq_true.1 List.all_takeWhile c h5
    · exact h2 c h5
  · intro h
    have h1 : l.reverse.dropWhile (cs.contains ·) = [] := dropWhile_nil.2 (fun x hx => h x (List.mem_reverse.1 hx))
    rw [h1]
    rfl
theorem cut10_iff {c : UInt8} : cut10.contains c = true ↔ isD c = true := by
  rw [isD_iff]
  have h : ∀ n : Fin 256, (cut10.contains (UInt8.ofNat n.val) = true) ↔ (48 ≤ n.val ∧ n.val ≤ 57) := by decide +kernel
  have hc : c.toNat < 256 := c.toNat_lt
  have h2 := h ⟨c.toNat, hc⟩
  simp only [UInt8.ofNat_toNat] at h2
  exact h2
theorem trim_digits {l : List UInt8} : Lib.trimS l cut10 = [] ↔ AllD l := by
  rw [trimS_nil]
  exact ⟨fun h c hc => cut10_iff.1 (h c hc), fun h c hc => cut10_iff.2 (h c hc)⟩
theorem trim_zeros {l : List UInt8} : Lib.trimS l [48] = [] ↔ ∀ c ∈ l, c = 48 := by
  rw [trimS_nil]
  simp
end Go.Proofs.YtlcmhbkmpkcajaaGreatDoor
