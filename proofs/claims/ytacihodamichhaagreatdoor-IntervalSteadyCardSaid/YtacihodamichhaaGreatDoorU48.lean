/-
  IntervalSteady' card: the row, the ties, the witness. For every list of intervals and every two numbers the law returns true.
  Conditions: none beyond the row's own (any world; the package-level variables that the law reaches as the card names them).
-/
import Derived.Test.YtacihodamichhaaGreatDoorCards
import Derived.Test.YtacihodamichhaaGreatDoorTie
import Derived.OpenShut
import Derived.LaidMore
import Derived.Lay
import Derived.SevenTiedAt
import Derived.Test.YtacihodamichhaaGreatDoorU47
namespace Go.Proofs.YtacihodamichhaaGreatDoor
open Go.RowKit
def shortB (n m : ByteArray) : Bool := decide (n.size ≤ 60) && decide (m.size ≤ 60)
theorem check_s (n : ByteArray) (w : World) (hn : n.size ≤ 60) : Calls Tryz.prog 21 #[.string n, .int .i64 65536] w (Ret (.int .i64 (errL n.data.toList)) w) := by
 have H := qcheck_any n.data.toList w (by rw [← Lib.size_eq]; exact hn)
 rwa [← bytes_of (s := n) rfl] at H
theorem cmp_s (s n : ByteArray) (w : World) (hs : s.size ≤ 60) (hn : n.size ≤ 60) (h : errL s.data.toList = 0) (h' : errL n.data.toList = 0) : Calls Tryz.prog 22 #[.string s, .string n] w (Ret (.int .i64 (cqS s n)) w) := by
 have H := qcmp_any s.data.toList n.data.toList w (by rw [← Lib.size_eq]; exact hs) (by rw [← Lib.size_eq]; exact hn) h h'
 rwa [← bytes_of (s := s) rfl, ← bytes_of (s := n) rfl] at H
theorem lshort_any (n m : ByteArray) (w : World) : Calls Tryz.prog 30 #[.string n, .string m] w (Ret (.bool (shortB n m)) w) := by
 unfold shortB
 by_cases h1 : n.size ≤ 60
 ·rw [decide_eq_true h1]
  have a1 : (n.size : Int) ≤ 60 := by omega
  by_cases h2 : m.size ≤ 60
  ·rw [decide_eq_true h2]
   have a2 : (m.size : Int) ≤ 60 := by omega
   clear h1 h2
   go_enter Tryz.func30, Tryz.ntmps30
   go_wp2_with fail
   go_ret
   exact ⟨rfl, Below.refl _ _⟩
  ·rw [decide_eq_false h2]
   have a2 : ¬ (m.size : Int) ≤ 60 := by omega
   clear h1 h2
   go_enter Tryz.func30, Tryz.ntmps30
   go_wp2_with fail
   go_ret
   exact ⟨rfl, Below.refl _ _⟩
 ·rw [decide_eq_false h1]
  have a1 : ¬ (n.size : Int) ≤ 60 := by omega
  clear h1
  go_enter Tryz.func30, Tryz.ntmps30
  go_wp2_with fail
  go_ret
  exact ⟨rfl, Below.refl _ _⟩
set_option maxHeartbeats 8000000 in
set_option maxRecDepth 10000 in
theorem steady_any (v : Value) (xs : List Iv) (n m : ByteArray) (w : World) (h : Ivs w v xs) : Calls Tryz.prog 9 #[v, .string n, .string m] w (Ret (.bool true) w) := by
 have HK := hI (fun w' => known_true w')
 have HSh := hI (fun w' => lshort_any n m w')
 have HF := hI (fun w' (hb : Below w.heap.size w w') => few_all v xs w' (h.mono hb))
 obtain ⟨a, c, rfl, hc1, hc2⟩ := h.open
 cases hf : fewB xs with
 | false =>
  rw [hf] at HF
  clear h hf
  generalize xs.length = m' at *
  go_enter Tryz.func9, Tryz.ntmps9
  go_wp2_with (first
   | (go_at_call 13; have _t := Hb2; clear _t; refine (HK.out _).mono ?_; rintro e w9 ⟨rfl, hb9⟩; have Hb9 := hI (bw_via Hb2.out hb9); clear hb9)
   | (go_at_call 14; refine (HF.out _ Hb1.out).mono ?_; rintro e w2 ⟨rfl, hb2⟩; have Hb2 := hI (bw_via Hb1.out hb2); clear hb2)
   | (go_at_call 13; refine (HK.out _).mono ?_; rintro e w1 ⟨rfl, hb1⟩; have Hb1 := hI hb1; clear hb1))
  go_ret
  exact ⟨rfl, Hb9.out⟩
 | true =>
  have hs := few_short hf
  rw [hf] at HF
  cases hsh : shortB n m with
  | false =>
   rw [hsh] at HSh
   clear h hf hs hsh
   generalize xs.length = m' at *
   go_enter Tryz.func9, Tryz.ntmps9
   go_wp2_with (first
    | (go_at_call 13; have _t := Hb3; clear _t; refine (HK.out _).mono ?_; rintro e w9 ⟨rfl, hb9⟩; have Hb9 := hI (bw_via Hb3.out hb9); clear hb9)
    | (go_at_call 30; refine (HSh.out _).mono ?_; rintro e w3 ⟨rfl, hb3⟩; have Hb3 := hI (bw_via Hb2.out hb3); clear hb3)
    | (go_at_call 14; refine (HF.out _ Hb1.out).mono ?_; rintro e w2 ⟨rfl, hb2⟩; have Hb2 := hI (bw_via Hb1.out hb2); clear hb2)
    | (go_at_call 13; refine (HK.out _).mono ?_; rintro e w1 ⟨rfl, hb1⟩; have Hb1 := hI hb1; clear hb1))
   go_ret
   exact ⟨rfl, Hb9.out⟩
  | true =>
   rw [hsh] at HSh
   have hn : n.size ≤ 60 := by unfold shortB at hsh; rw [Bool.and_eq_true, decide_eq_true_eq, decide_eq_true_eq] at hsh; exact hsh.1
   have hm : m.size ≤ 60 := by unfold shortB at hsh; rw [Bool.and_eq_true, decide_eq_true_eq, decide_eq_true_eq] at hsh; exact hsh.2
   have HCn := hI (fun w' => check_s n w' hn)
   have HCm := hI (fun w' => check_s m w' hm)
   by_cases hrn : errL n.data.toList = 0
   ·rw [hrn] at HCn
    by_cases hrm : errL m.data.toList = 0
    ·rw [hrm] at HCm
     have HS := hI (fun w' (hb : Below w.heap.size w w') => set_any _ xs w' (h.mono hb) hs)
     obtain ⟨J, hJ, hJ8⟩ := set_set hs
     have hlen : (setL xs).length < 100000 := by rw [hJ.length]; omega
     have HA := hI (fun v' w' (h' : Ivs w' v' (setL xs)) => icontains_ok v' (setL xs) n w' h' hJ.short hJ.err hlen hn hrn)
     have HB := hI (fun v' w' (h' : Ivs w' v' (setL xs)) => icontains_ok v' (setL xs) m w' h' hJ.short hJ.err hlen hm hrm)
     have HE := hI (fun v' w' (h' : Ivs w' v' (setL xs)) => iends_g v' (setL xs) w' h' hJ.short hJ.err (by rw [hJ.length]; omega))
     have HQ := hI (fun s (hs : s ∈ endsL ((setL xs).map Iv.cuts)) w' => (show Calls Tryz.prog 22 #[.string s, .string n] w' (Ret (.int .i64 (cqS s n)) w') ∧ Calls Tryz.prog 22 #[.string s, .string m] w' (Ret (.int .i64 (cqS s m)) w') from by
      obtain ⟨e1, e2⟩ := ends_num hJ s hs
      exact ⟨cmp_s s n w' e1 hn e2 hrn, cmp_s s m w' e1 hm e2 hrm⟩))
     have HP := hI (fun (hh : ∀ s ∈ endsL ((setL xs).map Iv.cuts), cqS s n = cqS s m ∧ cqS s n ≠ 0) => has_steady hh)
     clear h hs hf hJ hJ8 hlen hn hm hrn hrm hsh
     generalize xs.length = m' at *
     generalize endsL ((setL xs).map Iv.cuts) = E at *
     generalize setL xs = S at *
     generalize hasB S n = A1 at *
     generalize hasB S m = A2 at *
     go_enter Tryz.func9, Tryz.ntmps9
     go_wp2_with (first
      | (go_at_call 14; refine (HF.out _ Hb1.out).mono ?_; rintro e w2 ⟨rfl, hb2⟩; have Hb2 := hI (bw_via Hb1.out hb2); clear hb2)
      | (go_at_call 30; refine (HSh.out _).mono ?_; rintro e w3 ⟨rfl, hb3⟩; have Hb3 := hI (bw_via Hb2.out hb3); clear hb3)
      | (go_at_call 21; have _t := Hb4; clear _t; refine (HCm.out _).mono ?_; rintro e w5 ⟨rfl, hb5⟩; have Hb5 := hI (bw_via Hb4.out hb5); clear hb5)
      | (go_at_call 21; refine (HCn.out _).mono ?_; rintro e w4 ⟨rfl, hb4⟩; have Hb4 := hI (bw_via Hb3.out hb4); clear hb4)
      | (go_at_call 15; refine (HS.out _ Hb5.out).mono ?_; rintro e w6 ⟨v6, rfl, ⟨a6, c6, rfl, hiv⟩, hb6⟩; have Hb6 := hI (bw_via Hb5.out hb6); have Hiv6 := hI hiv; clear hiv hb6)
      | (go_at_call 16; refine (HE.out _ _ Hiv6.out).mono ?_; rintro e w7 ⟨v7, rfl, ⟨a7, c7, L, rfl, hL, hLE, hLl⟩, hb7⟩; have Hb7 := hI (bw_via Hb6.out hb7); have Hiv7 := hI (Hiv6.out.mono hb7); have HL := hI hL; have HLE := hI (And.intro hLE hLl); clear hL hLE hLl hb7)
      | (go_at_call 40; have _t := Hb8; clear _t; refine (HB.out _ _ Hiv8.out).mono ?_; rintro e w9 ⟨rfl, hb9⟩; have Hb9 := hI (bw_via Hb8.out hb9); have HL9 := hI (HL8.out.mono hb9); clear hb9)
      | (go_at_call 40; refine (HA.out _ _ Hiv7.out).mono ?_; rintro e w8 ⟨rfl, hb8⟩; have Hb8 := hI (bw_via Hb7.out hb8); have Hiv8 := hI (Hiv7.out.mono hb8); have HL8 := hI (HL.out.mono hb8); clear hb8)
      | (go_at_call 13; refine (HK.out _).mono ?_; rintro e w1 ⟨rfl, hb1⟩; have Hb1 := hI hb1; clear hb1))
     obtain ⟨N, hN⟩ : ∃ N, L.length = N := ⟨_, rfl⟩
     have hN1 : N ≤ 1000 := by rw [← hN]; exact HLE.out.2
     have Hln := hI hN
     rw [hN] at HL9
     try rw [hN]
     clear hN
     go_loopw [14] (fun i wr => ∃ k : Nat, k ≤ N ∧ i = .int .i64 (k : Int) ∧ Below w9.heap.size w9 wr ∧ Hid (∀ s ∈ L.take k, cqS s n = cqS s m ∧ cqS s n ≠ 0)) (fun i _ => N - (intOf i).toNat)
     case atStart => exact ⟨0, by omega, rfl, Below.refl _ _, fun s hs => by cases hs⟩
     case round =>
      obtain ⟨k, hk, rfl, hbw, hpre⟩ := hrel
      have Hbw := hI hbw
      have Hpre := hI hpre.out
      have hkw : IntKind.i64.wrap ((k : Int) + 1) = (k : Int) + 1 := IntWalk.i64_in _ (by omega)
      rcases Nat.lt_or_ge k N with hlt | hge
      ·obtain ⟨b, off, s, rfl, hx, c0⟩ := HL9.out.at hbw hlt
       have hkn : (k : Int) < (N : Int) := by omega
       have hk0 : (0 : Int) ≤ (k : Int) := Int.natCast_nonneg _
       have HSx := hI (fun w' (hb : Below wr.heap.size wr w') => (hb.cell (p := ⟨b, off + k, none⟩) (World.block_lt_of_cell? _ _ c0)).trans c0)
       have Hx := hI hx
       have HQn := hI (fun w' => (HQ.out s (by rw [← HLE.out.1]; exact List.mem_of_getElem? hx) w').1)
       have HQm := hI (fun w' => (HQ.out s (by rw [← HLE.out.1]; exact List.mem_of_getElem? hx) w').2)
       have Hnx1 := hI (show cqS s n = cqS s m ∧ cqS s n ≠ 0 → ∀ s' ∈ L.take (k + 1), cqS s' n = cqS s' m ∧ cqS s' n ≠ 0 from fun hc s' hs' => by
        rw [take_snoc1 Hx.out] at hs'
        rcases List.mem_append.1 hs' with h | h
        ·exact Hpre.out s' h
        ·cases List.mem_singleton.1 h; exact hc)
       clear hx hbw hpre c0 HQ
       generalize hX : cqS s n = X at *
       generalize hY : cqS s m = Y at *
       clear hX hY
       go_upto_region 12 with fail
       refine wp_region_held_drew (S := (fun w' => w'.cell? ⟨b, off + k, none⟩ = some (.string s))) (by kernel_rfl) (by exact HSx.out _ (bwD wr)) (fun hHeld => ?_)
       refine' tk 0 ?_; (try simp only [tkS]); refine' tk 1 ?_; (try simp only [tkS]); refine' tk 2 ?_; (try simp only [tkS]); refine' tk 3 ?_; (try simp only [tkS]); refine' tk 4 ?_; (try simp only [tkS]); refine' tk 6 ?_; (try simp only [tkS]); refine' tk 7 ?_; (try simp only [tkS]); refine' tk 8 ?_; (try simp only [tkS]); refine' tk 9 ?_; (try simp only [tkS]); refine' tk 10 ?_; (try simp only [tkS])
       refine tk1 5 (fun K hK => ?_)
       go_simp
       go_at_call 22
       refine (HQn.out _).mono ?_
       rintro e5 w6 ⟨rfl, hb6⟩
       have H6 := hI (bw_via (bwD wr) hb6)
       clear hb6
       refine hK.out _ _ (by exact HSx.out _ (H6.out)) (fun hHeld => ?_)
       clear hK K; (try simp only [tkS])
       refine tk1 11 (fun K hK => ?_)
       go_simp
       go_at_call 22
       refine (HQm.out _).mono ?_
       rintro e7 w8 ⟨rfl, hb8⟩
       have H8 := hI (bw_via (H6.out) hb8)
       clear hb8
       refine hK.out _ _ (by exact HSx.out _ (H8.out)) (fun hHeld => ?_)
       clear hK K; (try simp only [tkS])
       refine' tk 12 ?_; (try simp only [tkS]); refine' tk 13 ?_; (try simp only [tkS])
       refine tkD ?_ _
       by_cases hx0 : X = 0
       ·have hb1 : (X == 0) = true := by rw [hx0]; rfl
        clear hx0 Hnx1
        go_wp2_with fail
        go_ret
        exact ⟨rfl, bw_via Hb9.out (Hbw.out.via (H8.out) Hbw.out.size)⟩
       ·have hb1 : (X == 0) = false := beq_eq_false_iff_ne.2 hx0
        by_cases hy0 : Y = 0
        ·have hb2 : (Y == 0) = true := by rw [hy0]; rfl
         clear hx0 hy0 Hnx1
         go_wp2_with fail
         go_ret
         exact ⟨rfl, bw_via Hb9.out (Hbw.out.via (H8.out) Hbw.out.size)⟩
        ·have hb2 : (Y == 0) = false := beq_eq_false_iff_ne.2 hy0
         by_cases hxy : X = Y
         ·have hb3 : (X != Y) = false := by rw [hxy]; simp
          have Hnx := hI (Hnx1.out ⟨hxy, hx0⟩)
          clear hx0 hy0 hxy Hnx1
          go_wp2_with fail
          go_roundw
          case rel => exact ⟨k + 1, by omega, by go_num, Hbw.out.via (H8.out) Hbw.out.size, Hnx.out⟩
          case measure => simp [intOf] <;> omega
         ·have hb3 : (X != Y) = true := bne_iff_ne.2 hxy
          clear hx0 hy0 hxy Hnx1
          go_wp2_with fail
          go_ret
          exact ⟨rfl, bw_via Hb9.out (Hbw.out.via (H8.out) Hbw.out.size)⟩
      ·obtain rfl : k = N := by omega
       have hkn : ¬ (k : Int) < (k : Int) := by omega
       have Hfin := hI (show A1 = A2 from HP.out (fun s hs => by
        have := Hpre.out
        rw [List.take_of_length_le (by rw [Hln.out]; exact Nat.le_refl _), HLE.out.1] at this
        exact this s hs))
       obtain rfl := Hfin.out
       have hAA : (A1 == A1) = true := by simp
       go_wp2_with fail
       go_ret
       exact ⟨rfl, bw_via Hb9.out Hbw.out⟩
    ·have hc0 : (errL m.data.toList != 0) = true := by rw [bne_iff_ne]; exact hrm
     generalize errL m.data.toList = code at *
     clear h hs hf hn hm hrm hrn hsh
     generalize xs.length = m' at *
     go_enter Tryz.func9, Tryz.ntmps9
     go_wp2_with (first
      | (go_at_call 13; have _t := Hb5; clear _t; refine (HK.out _).mono ?_; rintro e w9 ⟨rfl, hb9⟩; have Hb9 := hI (bw_via Hb5.out hb9); clear hb9)
      | (go_at_call 21; have _t := Hb4; clear _t; refine (HCm.out _).mono ?_; rintro e w5 ⟨rfl, hb5⟩; have Hb5 := hI (bw_via Hb4.out hb5); clear hb5)
      | (go_at_call 21; refine (HCn.out _).mono ?_; rintro e w4 ⟨rfl, hb4⟩; have Hb4 := hI (bw_via Hb3.out hb4); clear hb4)
      | (go_at_call 30; refine (HSh.out _).mono ?_; rintro e w3 ⟨rfl, hb3⟩; have Hb3 := hI (bw_via Hb2.out hb3); clear hb3)
      | (go_at_call 14; refine (HF.out _ Hb1.out).mono ?_; rintro e w2 ⟨rfl, hb2⟩; have Hb2 := hI (bw_via Hb1.out hb2); clear hb2)
      | (go_at_call 13; refine (HK.out _).mono ?_; rintro e w1 ⟨rfl, hb1⟩; have Hb1 := hI hb1; clear hb1))
     go_ret
     exact ⟨rfl, Hb9.out⟩
   ·have hc0 : (errL n.data.toList != 0) = true := by rw [bne_iff_ne]; exact hrn
    generalize errL n.data.toList = code at *
    clear h hs hf hn hm hrn hsh
    generalize xs.length = m' at *
    go_enter Tryz.func9, Tryz.ntmps9
    go_wp2_with (first
     | (go_at_call 13; have _t := Hb4; clear _t; refine (HK.out _).mono ?_; rintro e w9 ⟨rfl, hb9⟩; have Hb9 := hI (bw_via Hb4.out hb9); clear hb9)
     | (go_at_call 21; refine (HCn.out _).mono ?_; rintro e w4 ⟨rfl, hb4⟩; have Hb4 := hI (bw_via Hb3.out hb4); clear hb4)
     | (go_at_call 30; refine (HSh.out _).mono ?_; rintro e w3 ⟨rfl, hb3⟩; have Hb3 := hI (bw_via Hb2.out hb3); clear hb3)
     | (go_at_call 14; refine (HF.out _ Hb1.out).mono ?_; rintro e w2 ⟨rfl, hb2⟩; have Hb2 := hI (bw_via Hb1.out hb2); clear hb2)
     | (go_at_call 13; refine (HK.out _).mono ?_; rintro e w1 ⟨rfl, hb1⟩; have Hb1 := hI hb1; clear hb1))
    go_ret
    exact ⟨rfl, Hb9.out⟩
end Go.Proofs.YtacihodamichhaaGreatDoor
namespace Go.Proofs.YtacihodamichhaaGreatDoor
open Go.ChangeShapes Go.WideShapes Go.ChangeAt Go.RowKit
theorem own : ownKnob Tryz.prog.godebug = none := by kernel_rfl
set_option maxRecDepth 100000 in
theorem lifted (os : Os) (started : os.Started) (H : Type) (enc : TypeId × Value → H) :
  ReturnsInHanded {} Tryz.checked os 9 .any (fun w args => (Rows.intervalSteadySpec.pre enc Tryz.prog Tryz.f9 [] false w args ∧ laidMetH Tryz.prog Rows.intervalSteadyRow.laid w) ∧ sizedMet enc Tryz.prog Tryz.f9 (OpenSpec.ofChange Rows.intervalSteadySpec) false w args)
   (Rows.intervalSteadySpec.post enc Tryz.prog Tryz.f9 false true false false) := by
 refine returnsInHanded_of_change_and (C := Tryz.checked) (X := fun w _ => laidMetH Tryz.prog Rows.intervalSteadyRow.laid w) (fun _ _ _ hh h => h.of_heap hh) own started (by kernel_rfl) Tryz.func9
  (ChangeSpec.witness_shaped (enc := enc) (C := Tryz.checked) (os := os) (X := fun w _ => laidMetH Tryz.prog Rows.intervalSteadyRow.laid w) false (World.laidAll Tryz.prog os Rows.intervalSteadyRow.laid) #[.slice none 0 0, .string ⟨#[]⟩, .string ⟨#[]⟩] 8 (World.laidAll_os _ _ _)
   (World.shaped_of_ZipB (by kernel_rfl) (by kernel_rfl)) (by kernel_rfl) (by kernel_rfl) (by kernel_rfl)
   (by rw [MakeChecks.laidMetH_plain _ _ _ (by kernel_rfl)]; exact laidMet_laidAll _ (by kernel_rfl) (by kernel_rfl))) ?_
 intro W base args ds gs before hval0 hW _ _ hL _
 have hval : ∀ (j : Nat) t v, Tryz.f9.params[j]? = some t → args[j]? = some v → Value.okWide Tryz.prog W .any base t v := hval0
 have hW' := hW
 obtain ⟨p, q, hA0, hV, rfl, _, _⟩ := hW
 have hA : DataW.TrodAll enc Tryz.prog W 0 (fun _ => true) true Tryz.f9.params.toList args.toList ds p := hA0
 rw [Tryz.params9] at hA hval
 obtain ⟨v0, v1, v2, d0, d1, d2, p0, p1, p2, rfl, rfl, rfl, h0, h1, h2⟩ := trodAll_three hA
 obtain ⟨rfl, rfl⟩ := trodVars_none hV
 obtain ⟨x0, hx0⟩ := ivs_of_trod (hval 0 22 v0 rfl rfl) h0
 obtain ⟨n1, rfl⟩ := okWide_string Tryz.underlying23 (hval 1 23 v1 rfl rfl)
 obtain ⟨n2, rfl⟩ := okWide_string Tryz.underlying23 (hval 2 23 v2 rfl rfl)
 simp only [List.append_nil] at hW'
 refine (steady_any v0 x0 n1 n2 W hx0).mono fun e W' ⟨he, hb⟩ => ?_
 subst he
 refine ⟨_, rfl, post_of_below (pa := p0 ++ (p1 ++ p2)) (pv := []) hW' (fun _ _ _ => trodAll_mk1 (shut_bool Tryz.underlying4 true)) (fun sp hsp => ?_) (fun _ _ => rfl) (by simp) hb (ok_one (by kernel_rfl) rfl (okWide_bool_mk Tryz.underlying4 true))⟩
 have hlt : ∀ x ∈ p0 ++ p1 ++ p2, x.block < W.heap.size := fun x hx => hW'.lt x hx
 exact trodAll_mk3 (WideElems.Trod_stays try_laidOut (by kernel_rfl) (of_decide_eq_true (by kernel_rfl)) h0 (fun x hx => hb.same (hlt x (by simp [hx]))) (fun x hx => hsp x (by simp [hx])))
  (WideElems.Trod_stays try_laidOut (by kernel_rfl) (of_decide_eq_true (by kernel_rfl)) h1 (fun x hx => hb.same (hlt x (by simp [hx]))) (fun x hx => hsp x (by simp [hx])))
  (WideElems.Trod_stays try_laidOut (by kernel_rfl) (of_decide_eq_true (by kernel_rfl)) h2 (fun x hx => hb.same (hlt x (by simp [hx]))) (fun x hx => hsp x (by simp [hx])))
theorem fact1 : (Rows.intervalSteadyRow.inPlace == Tryz.prog.inPlace 9) = true := by kernel_rfl
theorem fact2 : (Rows.intervalSteadyRow.unfollowed == Tryz.prog.unfollowed 9) = true := by kernel_rfl
theorem fact3 : (Rows.intervalSteadyRow.recurses == Tryz.prog.recurses 9) = true := by kernel_rfl
theorem fact4 : (Rows.intervalSteadyRow.named == Tryz.prog.varsNamed 9) = true := by kernel_rfl
theorem facts : joinedFacts Tryz.prog 9 Tryz.f9 Rows.intervalSteadySpec Rows.intervalSteadyRow = true := by
 unfold joinedFacts
 rw [fact1, fact2, fact3, fact4]
 kernel_rfl
theorem holds : Rows.IntervalSteadySaid :=
 OpenClaim.holds_of_wide 9 Tryz.f9 rfl rfl rfl rfl rfl rfl rfl ⟨rfl, rfl, rfl, rfl, rfl⟩ rfl rfl rfl rfl rfl (by kernel_rfl) Tryz.func9 facts
  (of_decide_eq_true (by kernel_rfl)) (by unfold Func.isWrapper; first | (rw [if_pos (by decide +kernel)]; kernel_rfl) | (rw [if_neg (by decide +kernel)]; exact ⟨rfl, rfl⟩))
  (fun os started H enc _ => lifted os started H enc)
theorem card_holds : Rows.IntervalSteadyCardSaid :=
 Claim7.holds_tied_plain_at .later [] [.data, .data, .data, .data, .sentinel, .sentinel, .pinned] true (true, "de555170af92a675662fc8c55259e069d37d98ebe2ca20e51011936a24d26fa3") true holds (fun _ h => by cases h) (by kernel_rfl) (fun _ h => by cases h) intervalSteady_row_tie rfl ⟨rfl, rfl⟩ (by kernel_rfl) rfl
  (fun f fn hf hfn => by
   obtain rfl : f = 9 := Option.some.inj ((show Tryz.prog.funcNamed Tryz.f9.name = some 9 by kernel_rfl).symm.trans hf) |>.symm
   obtain rfl : fn = Tryz.f9 := (Option.some.inj (Tryz.func9.symm.trans hfn)).symm
   exact ⟨by kernel_rfl, fun j t ht => by
    rw [Tryz.params9] at ht
    have hm : t ∈ [22, 23, 23] := by simpa using Array.mem_of_getElem? ht
    have hall : ([22, 23, 23].all fun u => !Tryz.prog.wantsStandIn u) = true := by kernel_rfl
    exact (show Tryz.prog.wantsStandIn t = false by simpa using List.all_eq_true.1 hall t hm)⟩)
  (by kernel_rfl)
end Go.Proofs.YtacihodamichhaaGreatDoor
