/-
  The reference: the text of a number.
-/
import Derived.Test.YtfmgjcgcocidfaaGreatDoorInts
import Derived.Laws.IdiomStrings
namespace Go.Proofs.YtfmgjcgcocidfaaGreatDoor
open Go.RowKit

theorem ED : ElemTy 102 3 1 8 := ⟨Tryz.underlying102, by kernel_rfl⟩
theorem EB : ElemTy 139 5 1 1 := ⟨Tryz.underlying139, by kernel_rfl⟩

set_option maxHeartbeats 2000000 in
theorem trim_id (a : Option Addr) (n c : Nat) (d : List Int) (w : World) (h : Ints w (.slice a n c) d) (hl : ∀ x, d.getLast? = some x → x ≠ 0) : Calls Tryz.prog 92 #[.slice a n c] w (Ret (.slice a n c) w) := by
  have h' := h
  obtain ⟨_, _, hv, hc1, hc2⟩ := h.open
  unfold maxLen at hc2
  cases hv
  have HX := Lib.hid h'
  have Hl := Lib.hid hl
  clear h h' hl
  generalize hn : d.length = n at *
  have Hn := Lib.hid hn
  clear hn
  go_enter Tryz.func92, Tryz.ntmps92
  go_wp2_with fail
  go_loopw [3] (fun i wr => i = .int .i64 (n : Int) ∧ Below w.heap.size w wr) (fun _ _ => 0)
  case atStart => exact ⟨rfl, Below.refl _ _⟩
  case round =>
    obtain ⟨rfl, hbw⟩ := hrel
    rcases n with _ | j
    · go_wp2_with fail
      go_ret
      exact ⟨rfl, hbw⟩
    · obtain ⟨b, off, x, rfl, hx, c0⟩ := HX.out.at hbw (show j < j + 1 by omega)
      have hx0 : x ≠ 0 := Hl.out x (by rw [List.getLast?_eq_getElem?, Hn.out]; exact hx)
      have hx1 : (x == 0) = false := by simpa using hx0
      have hj1 : (0 : Int) < ((j + 1 : Nat) : Int) := by omega
      have hj2 : IntKind.i64.wrap (j : Int) = j := IntWalk.i64_in _ (by omega)
      have hj3 : (((j + 1 : Nat) : Int) - 1) = (j : Int) := by omega
      have hj4 : (j : Int) < ((j + 1 : Nat) : Int) := by omega
      have hj5 : (0 : Int) ≤ (j : Int) := by omega
      have hj6 : (j : Int) < (j : Int) + 1 := by omega
      have hj7 : (0 : Int) < (j : Int) + 1 := by omega
      have hj8 : (0 : Int) ≤ (j : Int) + 1 := by omega
      have hj9 : (j : Int) + 1 ≤ (c : Int) := by omega
      clear hx hx0
      go_wp2_with fail
      go_ret
      exact ⟨rfl, hbw⟩

/-- The bytes of digits, the lowest one first. -/
def bytesD (d : List Nat) : List UInt8 := (d.map fun x => UInt8.ofNat (48 + x)).reverse
def natsI (d : List Nat) : List Int := d.map fun x : Nat => (x : Int)

set_option maxHeartbeats 4000000 in
theorem text_ref (a : Option Addr) (n c : Nat) (d : List Nat) (w : World) (h : Ints w (.slice a n c) (natsI d)) (h10 : ∀ x ∈ d, x < 10) (hl : ∀ x, d.getLast? = some x → x ≠ 0) (hn1 : d.length ≤ 100) : Calls Tryz.prog 60 #[.bool false, .slice a n c] w (Ret (.string ⟨(if d = [] then [48] else bytesD d).toArray⟩) w) := by
  have h' := h
  obtain ⟨_, _, hv, hc1, hc2⟩ := h.open
  unfold maxLen at hc2
  cases hv
  have hln : (natsI d).length = d.length := by simp [natsI]
  rw [hln] at hc1 h h' ⊢
  have HT := Lib.hid (trim_id a _ c _ w h' (fun x hx => by
    unfold natsI at hx
    rw [List.getLast?_map] at hx
    simp only [Option.map_eq_some_iff] at hx
    obtain ⟨y, hy, rfl⟩ := hx
    have := hl y hy
    omega))
  have HX := Lib.hid h'
  have H10 := Lib.hid h10
  clear h h' hl hln h10
  by_cases hd : d = []
  · subst hd
    rw [if_pos rfl]
    rw [List.length_nil] at HT ⊢
    go_enter Tryz.func60, Tryz.ntmps60
    go_wp2_with (go_at_call 92; refine (HT.out).mono ?_; rintro e w1 ⟨rfl, hb1⟩)
    go_ret
    exact ⟨rfl, hb1⟩
  · rw [if_neg hd]
    have hpos : 0 < d.length := List.length_pos_iff.2 hd
    generalize hn : d.length = n at *
    have Hn := Lib.hid hn
    have hne : ((n : Int) == 0) = false := by simp; omega
    have hw1 : IntKind.i64.wrap ((n : Int) - 1) = (n : Int) - 1 := IntWalk.i64_in _ (by omega)
    have HN := Lib.hid (fun W : World => World.ownsRow_nil W w.heap.size 5 1)
    clear hn hd
    go_enter Tryz.func60, Tryz.ntmps60
    go_wp2_with (go_at_call 92; refine (HT.out).mono ?_; rintro e w1 ⟨rfl, hb1⟩; have Hb1 := Lib.hid hb1; clear hb1)
    go_loopw [6, 5] (fun i out wr => ∃ k : Nat, k ≤ n ∧ i = .int .i64 ((n : Int) - 1 - k) ∧ Below w.heap.size w wr ∧ wr.ownsRow w.heap.size 5 1 out k ((((bytesD d).take k).map fun x => Value.int .u8 (x.toNat : Int)))) (fun i _ _ => (intOf i + 1).toNat)
    case atStart => exact ⟨0, by omega, by simp, Hb1.out, HN.out _⟩
    case round =>
      obtain ⟨k, hk, rfl, hbw, hown⟩ := hrel
      rcases Nat.lt_or_ge k n with hlt | hge
      · obtain ⟨b, off, x, rfl, hx, c0⟩ := HX.out.at hbw (show n - 1 - k < n by omega)
        obtain ⟨y, hy, rfl⟩ : ∃ y, d[n - 1 - k]? = some y ∧ (y : Int) = x := by
          unfold natsI at hx
          simp only [List.getElem?_map, Option.map_eq_some_iff] at hx
          exact hx
        have hy10 := H10.out y (List.mem_of_getElem? hy)
        have hbk : (bytesD d)[k]? = some (UInt8.ofNat (48 + y)) := by
          unfold bytesD
          rw [List.getElem?_reverse (by rw [List.length_map, Hn.out]; exact hlt), List.length_map, Hn.out, List.getElem?_map, hy]
          rfl
        have htk : ((bytesD d).take k).map (fun x => Value.int .u8 (x.toNat : Int)) ++ [.int .u8 ((48 : Int) + y)] = ((bytesD d).take (k + 1)).map (fun x => Value.int .u8 (x.toNat : Int)) := by
          rw [List.take_add_one, hbk, List.map_append]
          congr 1
          have : (UInt8.ofNat (48 + y)).toNat = 48 + y := by rw [UInt8.toNat_ofNat']; omega
          simp
          omega
        have Htk := Lib.hid htk
        have i0 : (0 : Int) ≤ (n : Int) - 1 - k := by omega
        have i1 : (n : Int) - 1 - k < (n : Int) := by omega
        have i2 : ((n : Int) - 1 - k).toNat = n - 1 - k := by omega
        have i3 : IntKind.i64.wrap ((n : Int) - 1 - k - 1) = (n : Int) - 1 - k - 1 := IntWalk.i64_in _ (by omega)
        have i4 : IntKind.i64.wrap ((48 : Int) + y) = 48 + y := IntWalk.i64_in _ (by omega)
        have i5 : IntKind.u8.wrap ((48 : Int) + y) = 48 + y := by unfold IntKind.wrap; simp [IntKind.bits, IntKind.signed]; omega
        have Hown := Lib.hid hown
        have Hbw := Lib.hid hbw
        clear hx hy hy10 hbk htk hown hbw
        go_wp2_with (at_builtin; refine wpApp EB (by decide) [.int .u8 ((48 : Int) + y)] rfl _ _ rfl w.heap.size _ _ _ rfl rfl Hown.out rfl (one1 _ rfl) (by omega) (by decide) Hbw.out.size ?_; intro v' w5 hown' hg'; have Hbw3 := Lib.hid (below_app Hbw.out Hown.out hg' Hbw.out.size); have Hown5 := Lib.hid hown'; clear hown' hg')
        go_roundw
        case rel => exact ⟨k + 1, by omega, by congr 1; omega, Hbw3.out, by have := Hown5.out; rw [Htk.out] at this; exact this⟩
        case measure => simp [intOf]; omega
      · obtain rfl : k = n := by omega
        rw [show (k : Int) - 1 - k = -1 by omega]
        obtain ⟨ao, co, rfl, hco, -⟩ := own_open hown
        obtain ⟨g, rfl⟩ := own_some hown (by omega)
        have hbl : (bytesD d).length = k := by simp [bytesD, Hn.out]
        rw [List.take_of_length_le (by omega)] at hown
        have hcv := run_convert_bytes_back (P := Tryz.prog) wr 139 9 5 ⟨g, 0, none⟩ co (bytesD d) Tryz.underlying139 Tryz.underlying5 Tryz.underlying9 (fun j hj => hown.cells (g := g) rfl j _ (by rw [List.getElem?_map, List.getElem?_eq_getElem hj]; rfl))
        rw [hbl] at hcv
        have Hbw := Lib.hid hbw
        clear hown hbw hbl
        generalize (⟨(bytesD d).toArray⟩ : ByteArray) = D at *
        clear hw1 hne hc1 hc2 hn1
        set_option maxRecDepth 20000 in
        go_wp2_with fail
        go_ret
        exact ⟨rfl, Hbw.out⟩

/-- The digits of a number, the lowest one first. -/
def dD (n k : Nat) : List Nat := (List.range k).map fun i => n / 10 ^ i % 10
def nd (n : Nat) : Nat := if n = 0 then 0 else if n < 10 then 1 else if n < 100 then 2 else 3
/-- The text of a number below 1000. -/
def refL (n : Nat) : List UInt8 := if dD n (nd n) = [] then [48] else bytesD (dD n (nd n))
theorem dD_succ (n k : Nat) : dD n (k + 1) = dD n k ++ [n / 10 ^ k % 10] := by unfold dD; rw [List.range_succ, List.map_append]; rfl
theorem nd_of {n k : Nat} (hn : n < 1000) (h0 : n / 10 ^ k = 0) (h1 : k = 0 ∨ n / 10 ^ (k - 1) ≠ 0) (hk : k ≤ 3) : k = nd n := by
  unfold nd
  rcases k with _ | _ | _ | _ | k
  · simp at h0; simp [h0]
  · simp at h0 h1
    rw [if_neg (by omega), if_pos (by omega)]
  · simp at h0 h1
    rw [if_neg (by omega), if_neg (by omega), if_pos (by omega)]
  · simp at h0 h1
    rw [if_neg (by omega), if_neg (by omega), if_neg (by omega)]
  · omega
theorem k_le {n k : Nat} (hn : n < 1000) (h1 : k = 0 ∨ n / 10 ^ (k - 1) ≠ 0) : k ≤ 3 := by
  rcases h1 with h | h
  · omega
  · rcases Nat.lt_or_ge 3 k with h4 | h4
    · exfalso
      apply h
      apply Nat.div_eq_of_lt
      exact Nat.lt_of_lt_of_le hn (Nat.le_trans (show 1000 ≤ 10 ^ 3 by decide) (Nat.pow_le_pow_right (by decide) (by omega)))
    · exact h4

set_option maxHeartbeats 4000000 in
theorem from_ref (n : Nat) (w : World) (hn : n < 1000) : Calls Tryz.prog 37 #[.int .i64 (n : Int)] w (Ret (.string ⟨(refL n).toArray⟩) w) := by
  have HN := Lib.hid (fun W : World => World.ownsRow_nil W w.heap.size 3 1)
  have hnn : ¬ (n : Int) < 0 := by omega
  have HT := Lib.hid (fun w' a c (h : Ints w' (.slice a (nd n) c) (natsI (dD n (nd n)))) => text_ref a (nd n) c (dD n (nd n)) w' h (fun x hx => by
      unfold dD at hx
      obtain ⟨i, -, rfl⟩ := List.mem_map.1 hx
      exact Nat.mod_lt _ (by decide)) (fun x hx => by
      unfold nd at hx
      split at hx
      · cases hx
      · split at hx
        · simp [dD, List.range_succ] at hx; omega
        · split at hx
          · simp [dD, List.range_succ] at hx; omega
          · simp [dD, List.range_succ] at hx; omega) (by unfold dD nd; simp; split <;> (try split) <;> (try split) <;> omega))
  change Hid (∀ w' a c, _ → Calls _ _ _ _ (Ret (.string ⟨(refL n).toArray⟩) w')) at HT
  generalize (⟨(refL n).toArray⟩ : ByteArray) = D at *
  have Hn := Lib.hid hn
  clear hn
  go_enter Tryz.func37, Tryz.ntmps37
  go_wp2_with fail
  go_loopw [4, 3, 5] (fun m out _ wr => ∃ k M : Nat, m = .int .i64 (M : Int) ∧ Below w.heap.size w wr ∧ wr.ownsRow w.heap.size 3 1 out k ((natsI (dD n k)).map (Value.int .i64)) ∧ Hid (M = n / 10 ^ k ∧ (k = 0 ∨ n / 10 ^ (k - 1) ≠ 0))) (fun m _ _ _ => (intOf m).toNat)
  case atStart => exact ⟨0, n, rfl, Below.refl _ _, HN.out _, by simp, .inl rfl⟩
  case round =>
    obtain ⟨k, M, rfl, hbw, hown, hinv⟩ := hrel
    have hk3 := k_le Hn.out hinv.out.2
    have hMn : M < 1000 := by rw [hinv.out.1]; exact Nat.lt_of_le_of_lt (Nat.div_le_self _ _) Hn.out
    have Hown := Lib.hid hown
    have Hbw := Lib.hid hbw
    clear hown hbw
    by_cases hM : M = 0
    · have hM0 : ((M : Int) != 0) = false := by simpa using hM
      have hkk : k = nd n := nd_of Hn.out (by rw [← hinv.out.1]; exact hM) hinv.out.2 hk3
      obtain ⟨ao, co, rfl, hco, -⟩ := own_open Hown.out
      have hI : Ints wr (.slice ao k co) (natsI (dD n (nd n))) := by rw [← hkk]; exact Sl.own1 Hown.out
      rw [hkk] at hI ⊢
      have HT' := Lib.hid (HT.out wr ao co hI)
      clear hI hM hkk
      go_wp2_with (go_at_call 60; refine (HT'.out).mono ?_; rintro e w1 ⟨rfl, hb1⟩)
      go_ret
      exact ⟨rfl, Hbw.out.via hb1 Hbw.out.size⟩
    · have hM0 : ((M : Int) != 0) = true := by simpa using hM
      have hr1 : ((M : Int)).tmod 10 = ((M % 10 : Nat) : Int) := rfl
      obtain ⟨r, hr⟩ : ∃ r, M % 10 = r := ⟨_, rfl⟩
      obtain ⟨q, hq⟩ : ∃ q, M / 10 = q := ⟨_, rfl⟩
      have hq1 : ((M : Int)).tdiv 10 = (q : Int) := by rw [← hq]; rfl
      rw [hr] at hr1
      have hr0 : ¬ (r : Int) < 0 := by omega
      have hds : (natsI (dD n k)).map (Value.int .i64) ++ [.int .i64 (r : Int)] = (natsI (dD n (k + 1))).map (Value.int .i64) := by
        rw [dD_succ, ← hinv.out.1, hr]; simp [natsI]
      have Hds := Lib.hid hds
      have hqw : IntKind.i64.wrap (q : Int) = q := IntWalk.i64_in _ (by omega)
      have hrw : IntKind.i64.wrap (r : Int) = r := IntWalk.i64_in _ (by omega)
      have Hq := Lib.hid hq
      have HM := Lib.hid hM
      clear hds hr hq hM
      go_wp2_with (at_builtin; refine wpApp ED (by decide) [.int .i64 (r : Int)] rfl _ _ rfl w.heap.size _ _ _ rfl rfl Hown.out rfl (one1 _ rfl) (by omega) (by decide) Hbw.out.size ?_; intro v' w5 hown' hg'; have Hbw3 := Lib.hid (below_app Hbw.out Hown.out hg' Hbw.out.size); have Hown5 := Lib.hid hown'; clear hown' hg')
      go_roundw
      case rel => exact ⟨k + 1, q, rfl, Hbw3.out, by have := Hown5.out; rw [Hds.out] at this; exact this, by rw [← Hq.out, hinv.out.1, Nat.div_div_eq_div_mul, Nat.pow_succ], .inr (by rw [Nat.add_sub_cancel, ← hinv.out.1]; exact HM.out)⟩
      case measure =>
        have h1 := Hq.out
        have h2 := HM.out
        simp [intOf]
        omega

set_option maxHeartbeats 1000000 in
theorem from_ref2 (n : Nat) (w : World) (hn : n < 1000) : Calls Tryz.prog 14 #[.int .i64 (n : Int)] w (Ret (.string ⟨(refL n).toArray⟩) w) := by
  have H := Lib.hid (fun w' => from_ref n w' hn)
  generalize (⟨(refL n).toArray⟩ : ByteArray) = D at *
  clear hn
  go_enter Tryz.func14, Tryz.ntmps14
  go_wp2_with (go_at_call 37; refine (H.out _).mono ?_; rintro e w1 ⟨rfl, hb1⟩)
  go_ret
  exact ⟨rfl, hb1⟩

end Go.Proofs.YtfmgjcgcocidfaaGreatDoor
