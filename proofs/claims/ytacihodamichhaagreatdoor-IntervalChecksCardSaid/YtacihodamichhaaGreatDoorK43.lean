/-
  IntervalChecks' card: the row, the ties, the witness. For every input the law returns true.
  Conditions: none beyond the row's own (any world; the package-level variables that the law reaches as the card names them).
-/
import Derived.Test.YtacihodamichhaaGreatDoorK39
import Derived.Test.YtacihodamichhaaGreatDoorK40
import Derived.Test.YtacihodamichhaaGreatDoorK02
import Derived.Test.YtacihodamichhaaGreatDoorK22
import Derived.Test.YtacihodamichhaaGreatDoorK42
import Derived.ProofKit
import Derived.Lib.SmallJoins
import Derived.Deep.Slices
import Derived.Deep.Fields
import Derived.Deep.Matrix
import Derived.Deep.SlicePairs
import Derived.ChangeSame
import Derived.Test.YtacihodamichhaaGreatDoorK11
import Derived.Test.YtacihodamichhaaGreatDoorCards
import Derived.Test.YtacihodamichhaaGreatDoorTie
import Derived.OpenShut
import Derived.LaidMore
import Derived.Lay
import Derived.SevenTiedAt
namespace Go.Proofs.YtacihodamichhaaGreatDoor
open Go.RowKit
def shB (x : Iv) : Bool := decide (x.lo.size ≤ 60) && decide (x.hi.size ≤ 60)
def fewB (xs : List Iv) : Bool := !(decide (260 < xs.length) || (decide (8 < xs.length) && decide (xs.length < 257))) && xs.all shB
theorem few_short {xs : List Iv} (h : fewB xs = true) : ∀ x ∈ xs, x.short := by
  unfold fewB at h
  rw [Bool.and_eq_true] at h
  intro x hx
  have := List.all_eq_true.1 h.2 x hx
  unfold shB at this
  simp at this
  exact this
set_option maxHeartbeats 8000000 in
theorem few_any (v : Value) (xs : List Iv) (w : World) (h : Ivs w v xs) (hln : xs.length < 1000000) : Calls Tryz.prog 14 #[v] w (Ret (.bool (fewB xs)) w) := by
  obtain ⟨a, c, rfl, hc1, hc2⟩ := h.open
  have HX := hI h
  obtain ⟨T, hT⟩ : ∃ T, fewB xs = T := ⟨_, rfl⟩
  rw [hT]
  have HT0 := hI (show T = (!(decide (260 < xs.length) || (decide (8 < xs.length) && decide (xs.length < 257))) && xs.all shB) from hT.symm)
  generalize hn : xs.length = n at *
  have Hn := hI hn
  clear h hn hT
  by_cases h1 : 260 < n
  · have Hfin := hI (show T = false by rw [HT0.out, decide_eq_true h1]; rfl)
    have g1 : (260 : Int) < (n : Int) := by omega
    go_enter Tryz.func14, Tryz.ntmps14
    go_wp2_with fail
    go_ret
    exact ⟨by rw [Hfin.out]; rfl, Below.refl _ _⟩
  · have g1 : ¬ (260 : Int) < (n : Int) := by omega
    by_cases h2 : 8 < n
    · have g2 : (8 : Int) < (n : Int) := by omega
      by_cases h3 : n < 257
      · have Hfin := hI (show T = false by rw [HT0.out, decide_eq_true h2, decide_eq_true h3, Bool.true_and, Bool.or_true]; rfl)
        have g3 : (n : Int) < 257 := by omega
        go_enter Tryz.func14, Tryz.ntmps14
        go_wp2_with fail
        go_ret
        exact ⟨by rw [Hfin.out]; rfl, Below.refl _ _⟩
      · have HT := hI (show T = (true && xs.all shB) by rw [HT0.out, decide_eq_false h1, decide_eq_false h3, Bool.and_false, Bool.or_false]; rfl)
        have g3 : ¬ (n : Int) < 257 := by omega
        clear h1 h2 h3 HT0
        go_enter Tryz.func14, Tryz.ntmps14
        go_wp2_with fail
        go_loopw [3] (fun i wr => wr = w ∧ ∃ k : Nat, k ≤ n ∧ i = .int .i64 (k : Int) ∧ Hid (xs.all shB = (xs.drop k).all shB)) (fun i _ => n - (intOf i).toNat)
        case atStart => exact ⟨rfl, 0, Nat.zero_le _, rfl, by unfold Hid; rw [List.drop_zero]⟩
        case round =>
          obtain ⟨rfl, k, hk, rfl, hpre⟩ := hrel
          rcases Nat.lt_or_ge k n with hlt | hge
          · obtain ⟨b, off, x, rfl, hx, c0, c1, c2, c3⟩ := HX.out.at (Below.refl _ _) hlt
            have hkn : (k : Int) < (n : Int) := by omega
            have hk0 : (0 : Int) ≤ (k : Int) := Int.natCast_nonneg _
            have hkw : IntKind.i64.wrap ((k : Int) + 1) = (k : Int) + 1 := IntWalk.i64_in _ (by omega)
            have hpr := hpre.out
            rw [drop_nexti hx, List.all_cons] at hpr
            by_cases h1 : 60 < x.lo.size
            · have hf : xs.all shB = false := by rw [hpr]; simp [shB]; omega
              have Hfin := hI (show T = false by rw [HT.out, hf, Bool.and_false])
              have g1 : (60 : Int) < (x.lo.size : Int) := by omega
              clear hpr hx hf
              go_wp2_with fail
              go_ret
              exact ⟨by rw [Hfin.out]; rfl, Below.refl _ _⟩
            · have g1 : ¬ (60 : Int) < (x.lo.size : Int) := by omega
              by_cases h2 : 60 < x.hi.size
              · have hf : xs.all shB = false := by rw [hpr]; simp [shB]; omega
                have Hfin := hI (show T = false by rw [HT.out, hf, Bool.and_false])
                have g2 : (60 : Int) < (x.hi.size : Int) := by omega
                clear hpr hx hf
                go_wp2_with fail
                go_ret
                exact ⟨by rw [Hfin.out]; rfl, Below.refl _ _⟩
              · have g2 : ¬ (60 : Int) < (x.hi.size : Int) := by omega
                have Hnx := hI (show xs.all shB = (xs.drop (k + 1)).all shB by
                  rw [hpr, show shB x = true by unfold shB; rw [decide_eq_true (by omega), decide_eq_true (by omega)]; rfl, Bool.true_and])
                clear hpr hx h1 h2
                go_wp2_with fail
                go_roundw
                case rel => exact ⟨trivial, k + 1, by omega, by go_num, Hnx.out⟩
                case measure => simp [intOf] <;> omega
          · obtain rfl : k = n := by omega
            have hkn : ¬ (k : Int) < (k : Int) := by omega
            have Hfin := hI (show T = true by rw [HT.out, hpre.out, List.drop_of_length_le (by rw [Hn.out]; exact Nat.le_refl _)]; rfl)
            go_wp2_with fail
            go_ret
            exact ⟨by rw [Hfin.out]; rfl, Below.refl _ _⟩
    · have g2 : ¬ (8 : Int) < (n : Int) := by omega
      have HT := hI (show T = (true && xs.all shB) by rw [HT0.out, decide_eq_false h1, decide_eq_false h2, Bool.false_and, Bool.or_false]; rfl)
      clear h1 h2 HT0
      go_enter Tryz.func14, Tryz.ntmps14
      go_wp2_with fail
      go_loopw [3] (fun i wr => wr = w ∧ ∃ k : Nat, k ≤ n ∧ i = .int .i64 (k : Int) ∧ Hid (xs.all shB = (xs.drop k).all shB)) (fun i _ => n - (intOf i).toNat)
      case atStart => exact ⟨rfl, 0, Nat.zero_le _, rfl, by unfold Hid; rw [List.drop_zero]⟩
      case round =>
        obtain ⟨rfl, k, hk, rfl, hpre⟩ := hrel
        rcases Nat.lt_or_ge k n with hlt | hge
        · obtain ⟨b, off, x, rfl, hx, c0, c1, c2, c3⟩ := HX.out.at (Below.refl _ _) hlt
          have hkn : (k : Int) < (n : Int) := by omega
          have hk0 : (0 : Int) ≤ (k : Int) := Int.natCast_nonneg _
          have hkw : IntKind.i64.wrap ((k : Int) + 1) = (k : Int) + 1 := IntWalk.i64_in _ (by omega)
          have hpr := hpre.out
          rw [drop_nexti hx, List.all_cons] at hpr
          by_cases h1 : 60 < x.lo.size
          · have hf : xs.all shB = false := by rw [hpr]; simp [shB]; omega
            have Hfin := hI (show T = false by rw [HT.out, hf, Bool.and_false])
            have g1 : (60 : Int) < (x.lo.size : Int) := by omega
            clear hpr hx hf
            go_wp2_with fail
            go_ret
            exact ⟨by rw [Hfin.out]; rfl, Below.refl _ _⟩
          · have g1 : ¬ (60 : Int) < (x.lo.size : Int) := by omega
            by_cases h2 : 60 < x.hi.size
            · have hf : xs.all shB = false := by rw [hpr]; simp [shB]; omega
              have Hfin := hI (show T = false by rw [HT.out, hf, Bool.and_false])
              have g2 : (60 : Int) < (x.hi.size : Int) := by omega
              clear hpr hx hf
              go_wp2_with fail
              go_ret
              exact ⟨by rw [Hfin.out]; rfl, Below.refl _ _⟩
            · have g2 : ¬ (60 : Int) < (x.hi.size : Int) := by omega
              have Hnx := hI (show xs.all shB = (xs.drop (k + 1)).all shB by
                rw [hpr, show shB x = true by unfold shB; rw [decide_eq_true (by omega), decide_eq_true (by omega)]; rfl, Bool.true_and])
              clear hpr hx h1 h2
              go_wp2_with fail
              go_roundw
              case rel => exact ⟨trivial, k + 1, by omega, by go_num, Hnx.out⟩
              case measure => simp [intOf] <;> omega
        · obtain rfl : k = n := by omega
          have hkn : ¬ (k : Int) < (k : Int) := by omega
          have Hfin := hI (show T = true by rw [HT.out, hpre.out, List.drop_of_length_le (by rw [Hn.out]; exact Nat.le_refl _)]; rfl)
          go_wp2_with fail
          go_ret
          exact ⟨by rw [Hfin.out]; rfl, Below.refl _ _⟩
end Go.Proofs.YtacihodamichhaaGreatDoor
namespace Go.Proofs.YtacihodamichhaaGreatDoor
open Go.RowKit
set_option maxHeartbeats 2000000 in
theorem icheck_any (v : Value) (xs : List Iv) (w : World) (h : Ivs w v xs) (hs : ∀ x ∈ xs, x.short) : Calls Tryz.prog 27 #[v] w (Ret (.int .i64 (setErr xs)) w) := by
  have H := hI (fun w' (hb : Below w.heap.size w w') => parts_g v xs w' (h.mono hb) hs)
  unfold PartsG at H
  clear h hs
  generalize setErr xs = code at *
  go_enter Tryz.func27, Tryz.ntmps27
  go_wp2_with (go_at_call 56; refine (H.out _ (Below.refl _ _)).mono ?_; rintro e w1 ⟨⟨v1, rfl, -, -⟩, hb1⟩)
  go_ret
  exact ⟨rfl, hb1⟩
set_option maxHeartbeats 2000000 in
theorem ipick_err (v : Value) (xs : List Iv) (w : World) (h : Ivs w v xs) (hs : ∀ x ∈ xs, x.short) (he : setErr xs ≠ 0) : Calls Tryz.prog 18 #[v] w (Ret (.tuple #[.string ⟨#[]⟩, .bool false, .int .i64 (setErr xs)]) w) := by
  have H := hI (fun w' (hb : Below w.heap.size w w') => parts_g v xs w' (h.mono hb) hs)
  unfold PartsG at H
  have hc : (setErr xs != 0) = true := by rw [bne_iff_ne]; exact he
  clear h hs he
  generalize setErr xs = code at *
  go_enter Tryz.func18, Tryz.ntmps18
  go_wp2_with (go_at_call 56; refine (H.out _ (Below.refl _ _)).mono ?_; rintro e w1 ⟨⟨v1, rfl, -, -⟩, hb1⟩)
  go_ret3
  exact ⟨rfl, hb1⟩
set_option maxHeartbeats 2000000 in
theorem ilength_err (v : Value) (xs : List Iv) (w : World) (h : Ivs w v xs) (hs : ∀ x ∈ xs, x.short) (he : setErr xs ≠ 0) : Calls Tryz.prog 31 #[v] w (Ret (.tuple #[.string ⟨#[]⟩, .int .i64 (setErr xs)]) w) := by
  have H := hI (fun w' (hb : Below w.heap.size w w') => parts_g v xs w' (h.mono hb) hs)
  unfold PartsG at H
  have hc : (setErr xs != 0) = true := by rw [bne_iff_ne]; exact he
  clear h hs he
  generalize setErr xs = code at *
  go_enter Tryz.func31, Tryz.ntmps31
  go_wp2_with (go_at_call 56; refine (H.out _ (Below.refl _ _)).mono ?_; rintro e w1 ⟨⟨v1, rfl, -, -⟩, hb1⟩)
  go_ret2
  exact ⟨rfl, hb1⟩
set_option maxHeartbeats 2000000 in
theorem icontains_err (v : Value) (n : ByteArray) (xs : List Iv) (w : World) (h : Ivs w v xs) (hs : ∀ x ∈ xs, x.short) (he : setErr xs ≠ 0) : Calls Tryz.prog 40 #[v, .string n] w (Ret (.tuple #[.bool false, .int .i64 (setErr xs)]) w) := by
  have H := hI (fun w' (hb : Below w.heap.size w w') => parts_g v xs w' (h.mono hb) hs)
  unfold PartsG at H
  have hc : (setErr xs != 0) = true := by rw [bne_iff_ne]; exact he
  clear h hs he
  generalize setErr xs = code at *
  go_enter Tryz.func40, Tryz.ntmps40
  go_wp2_with (go_at_call 56; refine (H.out _ (Below.refl _ _)).mono ?_; rintro e w1 ⟨⟨v1, rfl, -, -⟩, hb1⟩)
  go_ret2
  exact ⟨rfl, hb1⟩
set_option maxHeartbeats 2000000 in
theorem iends_err0 (v : Value) (xs : List Iv) (w : World) (h : Ivs w v xs) (hs : ∀ x ∈ xs, x.short) (he : setErr xs ≠ 0) : Calls Tryz.prog 55 #[v] w (Ret (.tuple #[.slice none 0 0, .int .i64 (setErr xs)]) w) := by
  have H := hI (fun w' (hb : Below w.heap.size w w') => parts_g v xs w' (h.mono hb) hs)
  unfold PartsG at H
  have He := hI he
  clear h hs he
  generalize setErr xs = code at *
  go_enter Tryz.func55, Tryz.ntmps55
  go_wp2_with (go_at_call 56; refine (H.out _ (Below.refl _ _)).mono ?_; rintro e w1 ⟨⟨v1, rfl, -, hv1⟩, hb1⟩; obtain rfl := hv1 He.out)
  go_loopw [19, 6] (fun i out wr => i = .int .i64 0 ∧ out = .slice none 0 0 ∧ Below w.heap.size w wr) (fun _ _ _ => 0)
  case atStart => exact ⟨rfl, rfl, hb1⟩
  case round =>
    obtain ⟨rfl, rfl, hb⟩ := hrel
    go_wp2_with fail
    go_ret2
    exact ⟨rfl, hb⟩
set_option maxHeartbeats 2000000 in
theorem iends_err (v : Value) (xs : List Iv) (w : World) (h : Ivs w v xs) (hs : ∀ x ∈ xs, x.short) (he : setErr xs ≠ 0) : Calls Tryz.prog 16 #[v] w (Ret (.tuple #[.slice none 0 0, .int .i64 (setErr xs)]) w) := by
  have H := hI (iends_err0 v xs w h hs he)
  clear h hs he
  generalize setErr xs = code at *
  go_enter Tryz.func16, Tryz.ntmps16
  go_wp2_with (go_at_call 55; refine (H.out).mono ?_; rintro e w1 ⟨rfl, hb1⟩)
  go_loopw [16, 6] (fun i out wr => i = .int .i64 0 ∧ out = .slice none 0 0 ∧ Below w.heap.size w wr) (fun _ _ _ => 0)
  case atStart => exact ⟨rfl, rfl, hb1⟩
  case round =>
    obtain ⟨rfl, rfl, hb⟩ := hrel
    go_wp2_with fail
    go_ret2
    exact ⟨rfl, hb⟩
set_option maxHeartbeats 2000000 in
theorem comb_err1 (v u f : Value) (xs : List Iv) (w : World) (h : Ivs w v xs) (hs : ∀ x ∈ xs, x.short) (he : setErr xs ≠ 0) : Calls Tryz.prog 91 #[v, u, f] w (Ret (.tuple #[.slice none 0 0, .int .i64 (setErr xs)]) w) := by
  have H := hI (fun w' (hb : Below w.heap.size w w') => parts_g v xs w' (h.mono hb) hs)
  unfold PartsG at H
  have hc : (setErr xs != 0) = true := by rw [bne_iff_ne]; exact he
  clear h hs he
  generalize setErr xs = code at *
  go_enter Tryz.func91, Tryz.ntmps91
  go_wp2_with (go_at_call 56; refine (H.out _ (Below.refl _ _)).mono ?_; rintro e w1 ⟨⟨v1, rfl, -, -⟩, hb1⟩)
  go_ret2
  exact ⟨rfl, hb1⟩
theorem ivs_nil (w : World) : Ivs w (.slice none 0 0) [] := Sl.nil w 4
set_option maxHeartbeats 2000000 in
theorem comb_err2 (v f : Value) (xs : List Iv) (w : World) (h : Ivs w v xs) (hs : ∀ x ∈ xs, x.short) (he : setErr xs ≠ 0) : Calls Tryz.prog 91 #[.slice none 0 0, v, f] w (Ret (.tuple #[.slice none 0 0, .int .i64 (setErr xs)]) w) := by
  have H0 := hI (fun w' => parts_g (.slice none 0 0) [] w' (ivs_nil w') (fun x hx => by cases hx))
  have H := hI (fun w' (hb : Below w.heap.size w w') => parts_g v xs w' (h.mono hb) hs)
  unfold PartsG at H H0
  rw [show setErr [] = 0 from rfl] at H0
  have hc : (setErr xs != 0) = true := by rw [bne_iff_ne]; exact he
  clear h hs he
  generalize setErr xs = code at *
  go_enter Tryz.func91, Tryz.ntmps91
  go_wp2_with (first
    | (have _t := Hb1; clear _t; go_at_call 56; refine (H.out _ Hb1.out).mono ?_; rintro e w2 ⟨⟨v2, rfl, -, -⟩, hb2⟩)
    | (go_at_call 56; refine (H0.out _).mono ?_; rintro e w1 ⟨⟨v1, rfl, -, -⟩, hb1⟩; have Hb1 := hI hb1; clear hb1))
  go_ret2
  exact ⟨rfl, bw_via Hb1.out hb2⟩
set_option maxHeartbeats 2000000 in
theorem icompl_err (v : Value) (xs : List Iv) (w : World) (h : Ivs w v xs) (hs : ∀ x ∈ xs, x.short) (he : setErr xs ≠ 0) : Calls Tryz.prog 35 #[v] w (Ret (.tuple #[.slice none 0 0, .int .i64 (setErr xs)]) w) := by
  have H := hI (fun u f => comb_err1 v u f xs w h hs he)
  clear h hs he
  generalize setErr xs = code at *
  go_enter Tryz.func35, Tryz.ntmps35
  go_wp2_with (go_at_call 91; refine (H.out _ _).mono ?_; rintro e w1 ⟨rfl, hb1⟩)
  go_ret2
  exact ⟨rfl, hb1⟩
set_option maxHeartbeats 2000000 in
theorem iunion_err (v : Value) (xs : List Iv) (w : World) (h : Ivs w v xs) (hs : ∀ x ∈ xs, x.short) (he : setErr xs ≠ 0) : Calls Tryz.prog 36 #[.slice none 0 0, v] w (Ret (.tuple #[.slice none 0 0, .int .i64 (setErr xs)]) w) := by
  have H := hI (fun f => comb_err2 v f xs w h hs he)
  clear h hs he
  generalize setErr xs = code at *
  go_enter Tryz.func36, Tryz.ntmps36
  go_wp2_with (go_at_call 91; refine (H.out _).mono ?_; rintro e w1 ⟨rfl, hb1⟩)
  go_ret2
  exact ⟨rfl, hb1⟩
end Go.Proofs.YtacihodamichhaaGreatDoor
namespace Go.Proofs.YtacihodamichhaaGreatDoor
open Go.RowKit
theorem rcheck_any (v : Value) (xs : List Iv) (w : World) (h : Ivs w v xs) (hs : ∀ x ∈ xs, x.short) : Calls Tryz.prog 54 #[v] w (Ret (.int .i64 (setErr xs)) w) := by
  rcases Nat.lt_or_ge 256 xs.length with hn | hn
  · rw [show setErr xs = 6 by unfold setErr; rw [if_pos hn]]
    exact rcheck_long v xs w h hn
  · exact rcheck_short v xs w h hs hn
set_option maxHeartbeats 1000000 in
theorem few_long (v : Value) (xs : List Iv) (w : World) (h : Ivs w v xs) (hn : 260 < xs.length) : Calls Tryz.prog 14 #[v] w (Ret (.bool false) w) := by
  obtain ⟨a, c, rfl, hc1, hc2⟩ := h.open
  clear h
  generalize xs.length = n at *
  have g1 : (260 : Int) < (n : Int) := by omega
  go_enter Tryz.func14, Tryz.ntmps14
  go_wp2_with fail
  go_ret
  exact ⟨rfl, Below.refl _ _⟩
theorem few_all (v : Value) (xs : List Iv) (w : World) (h : Ivs w v xs) : Calls Tryz.prog 14 #[v] w (Ret (.bool (fewB xs)) w) := by
  rcases Nat.lt_or_ge 260 xs.length with hn | hn
  · rw [show fewB xs = false by unfold fewB; rw [decide_eq_true hn]; rfl]
    exact few_long v xs w h hn
  · exact few_any v xs w h (by omega)
set_option maxHeartbeats 4000000 in
theorem checks_any (v : Value) (xs : List Iv) (w : World) (h : Ivs w v xs) : Calls Tryz.prog 12 #[v] w (Ret (.bool true) w) := by
  have HK := hI (fun w' => known_true w')
  have HF := hI (fun w' (hb : Below w.heap.size w w') => few_all v xs w' (h.mono hb))
  obtain ⟨a, c, rfl, hc1, hc2⟩ := h.open
  cases hf : fewB xs with
  | false =>
    rw [hf] at HF
    clear h hf
    generalize xs.length = n at *
    go_enter Tryz.func12, Tryz.ntmps12
    go_wp2_with (first
      | (go_at_call 14; refine (HF.out _ Hb1.out).mono ?_; rintro e w2 ⟨rfl, hb2⟩; have Hb2 := hI (bw_via Hb1.out hb2); clear hb2)
      | (go_at_call 13; have _t := Hb2; clear _t; refine (HK.out _).mono ?_; rintro e w3 ⟨rfl, hb3⟩; have Hb3 := hI (bw_via Hb2.out hb3); clear hb3)
      | (go_at_call 13; refine (HK.out _).mono ?_; rintro e w1 ⟨rfl, hb1⟩; have Hb1 := hI hb1; clear hb1))
    go_ret
    exact ⟨rfl, Hb3.out⟩
  | true =>
    have hs := few_short hf
    have HC := hI (fun w' (hb : Below w.heap.size w w') => rcheck_any _ xs w' (h.mono hb) hs)
    have HI := hI (fun w' (hb : Below w.heap.size w w') => icheck_any _ xs w' (h.mono hb) hs)
    rw [hf] at HF
    by_cases he : setErr xs = 0
    · rw [he] at HC HI
      clear h hs hf he
      generalize xs.length = n at *
      go_enter Tryz.func12, Tryz.ntmps12
      go_wp2_with (first
        | (go_at_call 13; refine (HK.out _).mono ?_; rintro e w1 ⟨rfl, hb1⟩; have Hb1 := hI hb1; clear hb1)
        | (go_at_call 14; refine (HF.out _ Hb1.out).mono ?_; rintro e w2 ⟨rfl, hb2⟩; have Hb2 := hI (bw_via Hb1.out hb2); clear hb2)
        | (go_at_call 54; refine (HC.out _ Hb2.out).mono ?_; rintro e w3 ⟨rfl, hb3⟩; have Hb3 := hI (bw_via Hb2.out hb3); clear hb3)
        | (go_at_call 27; refine (HI.out _ Hb3.out).mono ?_; rintro e w4 ⟨rfl, hb4⟩; have Hb4 := hI (bw_via Hb3.out hb4); clear hb4))
      go_ret
      exact ⟨rfl, Hb4.out⟩
    · have H1 := hI (fun w' (hb : Below w.heap.size w w') => icontains_err _ ⟨#[48]⟩ xs w' (h.mono hb) hs he)
      have H2 := hI (fun w' (hb : Below w.heap.size w w') => icompl_err _ xs w' (h.mono hb) hs he)
      have H3 := hI (fun w' (hb : Below w.heap.size w w') => iends_err _ xs w' (h.mono hb) hs he)
      have H4 := hI (fun w' (hb : Below w.heap.size w w') => ipick_err _ xs w' (h.mono hb) hs he)
      have H5 := hI (fun w' (hb : Below w.heap.size w w') => ilength_err _ xs w' (h.mono hb) hs he)
      have H6 := hI (fun w' (hb : Below w.heap.size w w') => iunion_err _ xs w' (h.mono hb) hs he)
      have hc0 : (setErr xs == 0) = false := by rw [beq_eq_false_iff_ne]; exact he
      have hne : (setErr xs != setErr xs) = false := by simp
      clear h hs hf he
      generalize xs.length = n at *
      generalize setErr xs = code at *
      go_enter Tryz.func12, Tryz.ntmps12
      go_wp2_with (first
        | (go_at_call 13; refine (HK.out _).mono ?_; rintro e w1 ⟨rfl, hb1⟩; have Hb1 := hI hb1; clear hb1)
        | (go_at_call 14; refine (HF.out _ Hb1.out).mono ?_; rintro e w2 ⟨rfl, hb2⟩; have Hb2 := hI (bw_via Hb1.out hb2); clear hb2)
        | (go_at_call 54; refine (HC.out _ Hb2.out).mono ?_; rintro e w3 ⟨rfl, hb3⟩; have Hb3 := hI (bw_via Hb2.out hb3); clear hb3)
        | (go_at_call 27; refine (HI.out _ Hb3.out).mono ?_; rintro e w4 ⟨rfl, hb4⟩; have Hb4 := hI (bw_via Hb3.out hb4); clear hb4)
        | (go_at_call 40; refine (H1.out _ Hb4.out).mono ?_; rintro e w5 ⟨rfl, hb5⟩; have Hb5 := hI (bw_via Hb4.out hb5); clear hb5)
        | (go_at_call 35; refine (H2.out _ Hb5.out).mono ?_; rintro e w6 ⟨rfl, hb6⟩; have Hb6 := hI (bw_via Hb5.out hb6); clear hb6)
        | (go_at_call 16; refine (H3.out _ Hb6.out).mono ?_; rintro e w7 ⟨rfl, hb7⟩; have Hb7 := hI (bw_via Hb6.out hb7); clear hb7)
        | (go_at_call 18; refine (H4.out _ Hb7.out).mono ?_; rintro e w8 ⟨rfl, hb8⟩; have Hb8 := hI (bw_via Hb7.out hb8); clear hb8)
        | (go_at_call 31; refine (H5.out _ Hb8.out).mono ?_; rintro e w9 ⟨rfl, hb9⟩; have Hb9 := hI (bw_via Hb8.out hb9); clear hb9)
        | (go_at_call 36; refine (H6.out _ Hb9.out).mono ?_; rintro e w10 ⟨rfl, hb10⟩; have Hb10 := hI (bw_via Hb9.out hb10); clear hb10))
      go_ret
      exact ⟨rfl, Hb10.out⟩
end Go.Proofs.YtacihodamichhaaGreatDoor
namespace Go.Proofs.YtacihodamichhaaGreatDoor
open Go.ChangeShapes Go.WideShapes Go.ChangeAt Go.RowKit
theorem try_laidOut : laidOutB Tryz.prog = true := by kernel_rfl
section
variable {H : Type} {enc : TypeId × Value → H} {P : Program}
theorem post_of_below {f : Func} {s : ChangeSpec} {apart fresh handsOn again : Bool} {W W' : World} {args : Array Value} {v : Value} {ds gs : List (DataW H)} {before pa pv : List MemPlace}
    (hW : DataW.Whole enc P f.params.toList s.vars apart W args.toList ds gs before)
    (hres : ∀ (b : Nat) (sp : Nat → Bool) (hd : Bool), DataW.TrodAll enc P W' b sp hd f.resultTypes.toList (v.resultList f.resultTypes.size) (s.fn H (ds ++ gs)).results [])
    (hargs : ∀ sp : Nat → Bool, (∀ p ∈ before, sp p.block = true) → DataW.TrodAll enc P W' 0 sp true f.params.toList args.toList (s.fn H (ds ++ gs)).args pa)
    (hvars : ∀ sp : Nat → Bool, (∀ p ∈ before, sp p.block = true) → DataW.TrodVars enc P W' sp s.vars (s.fn H (ds ++ gs)).vars pv)
    (hps : before = pa ++ pv) (hb : Below W.heap.size W W')
    (hok : ∀ (j : Nat) (t : TypeId) (r : Value), f.resultTypes[j]? = some t → (v.resultList f.resultTypes.size)[j]? = some r → Value.okWide P W' .any 0 t r) :
    s.post enc P f apart fresh handsOn again W args v W' := by
  have hlt : ∀ p ∈ before, p.block < W.heap.size := fun p hp => hW.lt p hp
  have hold : ∀ p ∈ before, (fun b => decide (b < W.heap.size)) p.block = true := fun p hp => by simpa using hlt p hp
  refine ⟨ds, gs, before, [], pa, pv, hW, hres _ _ _, hargs _ hold, hvars _ hold, World.keptBut_mono (fun p hp => ⟨hp, ?_⟩) (hb.frame (· ∈ before)), fun _ => ?_⟩
  · rw [hps, List.mem_append] at hp
    exact Or.inr hp
  · obtain ⟨_, _, _, _, _, hz, hn⟩ := hW
    refine ⟨hok, _, _, ([] ++ pa) ++ pv, ⟨[] ++ pa, pv, trodAll_append (hargs _ (fun _ _ => rfl)) (hres _ _ _), hvars _ (fun _ _ => rfl), rfl, ?_, ?_⟩, ?_⟩
    · intro b off hp
      have hin : MemPlace.cell b off ∈ before := by rw [hps]; simpa using hp
      rw [hb.frozen (hlt _ hin)]
      exact hz b off hin
    · intro ha
      have := hn ha
      rw [hps] at this
      simpa using this
    · intro p hp _
      rw [hps]
      simpa using hp
end
section
variable {H : Type} {enc : TypeId × Value → H} {w : World} {base : Nat} {held : Bool}
theorem spot_none {a : Addr} {v : Value} (h : w.cell? a = some v) : a = ⟨a.block, a.off, none⟩ ∧ a.block < w.heap.size := by
  refine ⟨?_, World.block_lt_of_cell? w a h⟩
  obtain ⟨b, o, s⟩ := a
  cases s with
  | none => rfl
  | some n =>
    exfalso
    unfold World.cell? at h
    split at h <;> simp at h
theorem sl_of {a : Addr} {len cap sz : Nat} {rows : List (List Value)} (hsz : 0 < sz) (hr : rows.length = len) (hl : len ≤ cap) (hm : cap ≤ maxLen) (h : ∀ i j, i < cap → j < sz → ∃ v, w.cell? (a.add (i * sz + j)) = some v ∧ (i < len → v = (rows.getD i []).getD j undef)) : Sl w sz (.slice (some a) len cap) rows := by
  subst hr
  refine ⟨some a, cap, rfl, hl, hm, ?_⟩
  rcases Nat.eq_zero_or_pos cap with h0 | h0
  · exact .inl h0
  · obtain ⟨v0, hv0, _⟩ := h 0 0 h0 hsz
    rw [Nat.zero_mul, Nat.zero_add, show a.add 0 = a by simp [Addr.add]] at hv0
    obtain ⟨ha, hb⟩ := spot_none hv0
    obtain ⟨b, o, s⟩ := a
    simp only [Addr.mk.injEq, true_and] at ha
    subst ha
    refine .inr ⟨b, o, rfl, hb, fun i j hi hj => ?_⟩
    obtain ⟨v, hv, he⟩ := h i j (by omega) hj
    rw [← he hi, ← hv]
    congr 1
    unfold Addr.add
    split
    · rename_i h0
      rw [Nat.add_assoc, h0, Nat.add_zero]
    · rw [Nat.add_assoc]
instance : Inhabited Iv := ⟨⟨⟨#[]⟩, ⟨#[]⟩, 0, 0⟩⟩
set_option maxRecDepth 100000 in
theorem iv_cells {n : Nat} {cs : List Value} {x : DataW H × List MemPlace} (h : DataW.trod enc Tryz.prog w base (fun _ => true) held n 46 cs = some x) : ∃ y : Iv, cs = y.row := by
  have hu := Tryz.underlying46
  obtain ⟨ys, m, -, -, hlen, hyl, hf⟩ := DataW.trod_struct hu h
  have hl4 : cs.length = 4 := hlen.trans (by kernel_rfl)
  match cs, hl4 with
  | [c0, c1, c2, c3], _ =>
    have hyl4 : ys.length = 4 := hyl
    match ys, hyl4 with
    | [y0, y1, y2, y3], _ =>
      have g0 : DataW.trod enc Tryz.prog w base (fun _ => true) held m 23 (([c0, c1, c2, c3].drop 0).take (Tryz.prog.cellsOf 23)) = [y0, y1, y2, y3][0]? := hf 0 _ rfl
      have g1 : DataW.trod enc Tryz.prog w base (fun _ => true) held m 23 (([c0, c1, c2, c3].drop 1).take (Tryz.prog.cellsOf 23)) = [y0, y1, y2, y3][1]? := hf 1 _ rfl
      have g2 : DataW.trod enc Tryz.prog w base (fun _ => true) held m 3 (([c0, c1, c2, c3].drop 2).take (Tryz.prog.cellsOf 3)) = [y0, y1, y2, y3][2]? := hf 2 _ rfl
      have g3 : DataW.trod enc Tryz.prog w base (fun _ => true) held m 3 (([c0, c1, c2, c3].drop 3).take (Tryz.prog.cellsOf 3)) = [y0, y1, y2, y3][3]? := hf 3 _ rfl
      rw [show Tryz.prog.cellsOf 23 = 1 by kernel_rfl] at g0 g1
      rw [show Tryz.prog.cellsOf 3 = 1 by kernel_rfl] at g2 g3
      simp only [List.drop_zero, List.drop_succ_cons, List.take_succ_cons, List.take_zero, List.getElem?_cons_zero, List.getElem?_cons_succ] at g0 g1 g2 g3
      obtain ⟨s0, e0, -⟩ := DataW.trod_string Tryz.underlying23 g0
      obtain ⟨s1, e1, -⟩ := DataW.trod_string Tryz.underlying23 g1
      obtain ⟨z2, e2, -⟩ := DataW.trod_int Tryz.underlying3 g2
      obtain ⟨z3, e3, -⟩ := DataW.trod_int Tryz.underlying3 g3
      simp only [List.cons.injEq, and_true] at e0 e1 e2 e3
      exact ⟨⟨s0, s1, z2, z3⟩, by rw [e0, e1, e2, e3]; rfl⟩
set_option maxRecDepth 100000 in
theorem ivs_of_trod {v : Value} {r : Reach} {b0 : Nat} {d : DataW H} {p : List MemPlace} (hv : Value.okWide Tryz.prog w r b0 22 v) (h : DataW.Trod enc Tryz.prog w base (fun _ => true) held 22 v d p) :
    ∃ xs : List Iv, Ivs w v xs := by
  obtain ⟨a, len, cap, rfl⟩ := okWide_slice Tryz.underlying22 hv
  obtain ⟨fuel, hf⟩ := h
  rcases Go.Deep.open_slice Tryz.underlying22 hf with ⟨hc, _⟩ | ⟨a, len, cap, m, n, D, Pl, hc, hb, hl, hm, hmm, _, hx⟩
  · simp [Value.cells] at hc
    obtain ⟨rfl, rfl, rfl⟩ := hc
    exact ⟨[], Sl.nil w 4⟩
  · simp [Value.cells] at hc
    obtain ⟨rfl, rfl, rfl⟩ := hc
    simp only [if_true] at hmm
    have hmm' := hmm.symm
    subst hmm'
    have h4 : Tryz.prog.cellsOf 46 = 4 := by kernel_rfl
    obtain ⟨N, hN⟩ := Deep.choose_lt (α := Iv) (p := fun i y => ∀ j, j < 4 → w.cell? (a.add (i * 4 + j)) = y.row[j]?) (fun i hi => by
      obtain ⟨cs, hcs, ht⟩ := hx i hi
      obtain ⟨y, rfl⟩ := iv_cells ht
      rw [h4] at hcs
      obtain ⟨-, -, hat⟩ := World.cells?_some hcs
      exact ⟨y, fun j hj => by rw [← hat j hj, Go.Deep.add_add]⟩)
    refine ⟨(List.range len).map N, ?_⟩
    show Sl w 4 _ _
    refine sl_of (by omega) (by simp) hl hm fun i j hi hj => ?_
    have hj4 : j < (N i).row.length := hj
    refine ⟨(N i).row[j], (hN i hi j hj).trans (List.getElem?_eq_getElem hj4), fun hil => ?_⟩
    simp [hil, hj4]
end
end Go.Proofs.YtacihodamichhaaGreatDoor
namespace Go.Proofs.YtacihodamichhaaGreatDoor
set_option profiler true
open Go.ChangeShapes Go.WideShapes Go.ChangeAt Go.RowKit
theorem own : ownKnob Tryz.prog.godebug = none := by kernel_rfl
set_option maxRecDepth 100000 in
theorem lifted (os : Os) (started : os.Started) (H : Type) (enc : TypeId × Value → H) :
    ReturnsInHanded {} Tryz.checked os 12 .any (fun w args => (Rows.intervalChecksSpec.pre enc Tryz.prog Tryz.f12 [] false w args ∧ laidMetH Tryz.prog Rows.intervalChecksRow.laid w) ∧ sizedMet enc Tryz.prog Tryz.f12 (OpenSpec.ofChange Rows.intervalChecksSpec) false w args)
      (Rows.intervalChecksSpec.post enc Tryz.prog Tryz.f12 false true false false) := by
  refine returnsInHanded_of_change_and (C := Tryz.checked) (X := fun w _ => laidMetH Tryz.prog Rows.intervalChecksRow.laid w) (fun _ _ _ hh h => h.of_heap hh) own started (by kernel_rfl) Tryz.func12
    (ChangeSpec.witness_shaped (enc := enc) (C := Tryz.checked) (os := os) (X := fun w _ => laidMetH Tryz.prog Rows.intervalChecksRow.laid w) false (World.laidAll Tryz.prog os Rows.intervalChecksRow.laid) #[.slice none 0 0] 8 (World.laidAll_os _ _ _)
      (World.shaped_of_ZipB (by kernel_rfl) (by kernel_rfl)) (by kernel_rfl) (by kernel_rfl) (by kernel_rfl)
      (by rw [MakeChecks.laidMetH_plain _ _ _ (by kernel_rfl)]; exact laidMet_laidAll _ (by kernel_rfl) (by kernel_rfl))) ?_
  intro W base args ds gs before hval0 hW _ _ hL _
  have hval : ∀ (j : Nat) t v, Tryz.f12.params[j]? = some t → args[j]? = some v → Value.okWide Tryz.prog W .any base t v := hval0
  have hW' := hW
  obtain ⟨p, q, hA0, hV, rfl, _, _⟩ := hW
  have hA : DataW.TrodAll enc Tryz.prog W 0 (fun _ => true) true Tryz.f12.params.toList args.toList ds p := hA0
  rw [Tryz.params12] at hA hval
  obtain ⟨v0, d0, rfl, rfl, h0⟩ := trodAll_one hA
  obtain ⟨rfl, rfl⟩ := trodVars_none hV
  obtain ⟨x0, hx0⟩ := ivs_of_trod (hval 0 22 v0 rfl rfl) h0
  simp only [List.append_nil] at hW'
  refine (checks_any v0 x0 W hx0).mono fun e W' ⟨he, hb⟩ => ?_
  subst he
  refine ⟨_, rfl, post_of_below (pa := p) (pv := []) hW' (fun _ _ _ => trodAll_mk1 (shut_bool Tryz.underlying4 true)) (fun sp hsp => ?_) (fun _ _ => rfl) (by simp) hb (ok_one (by kernel_rfl) rfl (okWide_bool_mk Tryz.underlying4 true))⟩
  have hlt : ∀ x ∈ p, x.block < W.heap.size := fun x hx => hW'.lt x hx
  exact trodAll_mk1 (WideElems.Trod_stays try_laidOut (by kernel_rfl) (of_decide_eq_true (by kernel_rfl)) h0 (fun x hx => hb.same (hlt x hx)) (fun x hx => hsp x hx))
theorem fact1 : (Rows.intervalChecksRow.inPlace == Tryz.prog.inPlace 12) = true := by kernel_rfl
theorem fact2 : (Rows.intervalChecksRow.unfollowed == Tryz.prog.unfollowed 12) = true := by kernel_rfl
theorem fact3 : (Rows.intervalChecksRow.recurses == Tryz.prog.recurses 12) = true := by kernel_rfl
theorem fact4 : (Rows.intervalChecksRow.named == Tryz.prog.varsNamed 12) = true := by kernel_rfl
theorem facts : joinedFacts Tryz.prog 12 Tryz.f12 Rows.intervalChecksSpec Rows.intervalChecksRow = true := by
  unfold joinedFacts
  rw [fact1, fact2, fact3, fact4]
  kernel_rfl
theorem holds : Rows.IntervalChecksSaid :=
  OpenClaim.holds_of_wide 12 Tryz.f12 rfl rfl rfl rfl rfl rfl rfl ⟨rfl, rfl, rfl, rfl, rfl⟩ rfl rfl rfl rfl rfl (by kernel_rfl) Tryz.func12 facts
    (of_decide_eq_true (by kernel_rfl)) (by unfold Func.isWrapper; first | (rw [if_pos (by decide +kernel)]; kernel_rfl) | (rw [if_neg (by decide +kernel)]; exact ⟨rfl, rfl⟩))
    (fun os started H enc _ => lifted os started H enc)
theorem card_holds : Rows.IntervalChecksCardSaid :=
  Claim7.holds_tied_plain_at .later [] [.data, .data, .data, .data, .sentinel, .sentinel, .pinned] true (true, "de555170af92a675662fc8c55259e069d37d98ebe2ca20e51011936a24d26fa3") true holds (fun _ h => by cases h) (by kernel_rfl) (fun _ h => by cases h) intervalChecks_row_tie rfl ⟨rfl, rfl⟩ (by kernel_rfl) rfl
    (fun f fn hf hfn => by
      obtain rfl : f = 12 := Option.some.inj ((show Tryz.prog.funcNamed Tryz.f12.name = some 12 by kernel_rfl).symm.trans hf) |>.symm
      obtain rfl : fn = Tryz.f12 := (Option.some.inj (Tryz.func12.symm.trans hfn)).symm
      exact ⟨by kernel_rfl, fun j t ht => by
        rw [Tryz.params12] at ht
        have hm : t ∈ [22] := by simpa using Array.mem_of_getElem? ht
        have hall : ([22].all fun u => !Tryz.prog.wantsStandIn u) = true := by kernel_rfl
        exact (show Tryz.prog.wantsStandIn t = false by simpa using List.all_eq_true.1 hall t hm)⟩)
    (by kernel_rfl)
end Go.Proofs.YtacihodamichhaaGreatDoor
