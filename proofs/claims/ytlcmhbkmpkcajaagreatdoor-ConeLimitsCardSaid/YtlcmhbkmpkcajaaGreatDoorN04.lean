/-
  Parts of the proof: Add, Short, Kn.
-/
import Derived.Test.YtlcmhbkmpkcajaaGreatDoorN03
namespace Go.Proofs.YtlcmhbkmpkcajaaGreatDoor
open Go.RowKit
theorem blk2v {w : World} {b : Nat} {x y : Value} {T : TypeId} (h : Blk w b #[x, y] T) : (w.cell? ⟨b, 0, none⟩ = some x ∧ w.cell? ⟨b, 1, none⟩ = some y) ∧ w.frozen? ⟨b, 0, none⟩ = false ∧ w.frozen? ⟨b, 1, none⟩ = false :=
  ⟨⟨h.cell 0, h.cell 1⟩, h.free 0, h.free 1⟩
theorem cmpN_ge {a b : Nat} (h : b ≤ a) : 0 ≤ cmpN a b := by unfold cmpN; split <;> first | omega | (split <;> omega)
theorem cmpN_lt {a b : Nat} (h : a < b) : ¬ 0 ≤ cmpN a b := by unfold cmpN; rw [if_pos h]; decide
set_option maxHeartbeats 8000000 in
set_option maxRecDepth 100000 in
theorem add_any (u v : Value) (y z : Int) (w : World) (h : IntV w u y) (h' : IntV w v z) (hl1 : (limbs y.natAbs).length < 1000000) (hl2 : (limbs z.natAbs).length < 1000000) :
    Calls Tryz.prog 56 #[u, v] w (RetP (fun r w' => IntV w' r (y + z)) w) := by
  obtain ⟨a, c, rfl, hl⟩ := h
  obtain ⟨a', c', rfl, hl'⟩ := h'
  have hK := below3 w (.cells #[.bool (decide (y < 0)), .slice a (limbs y.natAbs).length c] 59) (.cells #[.bool (decide (z < 0)), .slice a' (limbs z.natAbs).length c'] 59) (.cells #[.bool false, .slice none 0 0] 59)
  have hA : Blk (((w.alloc (.cells #[.bool (decide (y < 0)), .slice a (limbs y.natAbs).length c] 59)).alloc (.cells #[.bool (decide (z < 0)), .slice a' (limbs z.natAbs).length c'] 59)).alloc (.cells #[.bool false, .slice none 0 0] 59)) w.heap.size #[.bool (decide (y < 0)), .slice a (limbs y.natAbs).length c] 59 := ((Blk.new w _ _).old _).old _
  have hB : Blk (((w.alloc (.cells #[.bool (decide (y < 0)), .slice a (limbs y.natAbs).length c] 59)).alloc (.cells #[.bool (decide (z < 0)), .slice a' (limbs z.natAbs).length c'] 59)).alloc (.cells #[.bool false, .slice none 0 0] 59)) (w.heap.size + 1) #[.bool (decide (z < 0)), .slice a' (limbs z.natAbs).length c'] 59 := by
    have h := (Blk.new (w.alloc (.cells #[.bool (decide (y < 0)), .slice a (limbs y.natAbs).length c] 59)) #[.bool (decide (z < 0)), .slice a' (limbs z.natAbs).length c'] 59).old (.cells #[.bool false, .slice none 0 0] 59)
    simpa using h
  have hR : Blk (((w.alloc (.cells #[.bool (decide (y < 0)), .slice a (limbs y.natAbs).length c] 59)).alloc (.cells #[.bool (decide (z < 0)), .slice a' (limbs z.natAbs).length c'] 59)).alloc (.cells #[.bool false, .slice none 0 0] 59)) (w.heap.size + 1 + 1) #[.bool false, .slice none 0 0] 59 := by
    have h := Blk.new ((w.alloc (.cells #[.bool (decide (y < 0)), .slice a (limbs y.natAbs).length c] 59)).alloc (.cells #[.bool (decide (z < 0)), .slice a' (limbs z.natAbs).length c'] 59)) #[.bool false, .slice none 0 0] 59
    simpa using h
  have HL := hI (fun w' (h : Below w.heap.size w w') => hl.mono h)
  have HL' := hI (fun w' (h : Below w.heap.size w w') => hl'.mono h)
  have HK := hI hK
  have HA := hI hA
  have HB := hI hB
  have HR := hI hR
  have HO := hI (fun w' (h : Below w.heap.size w w') => order_any _ _ _ _ _ _ _ _ w' (hl.mono h) (hl'.mono h))
  obtain ⟨Y, hY⟩ : ∃ Y, y.natAbs = Y := ⟨_, rfl⟩
  obtain ⟨Zn, hZ⟩ : ∃ Zn, z.natAbs = Zn := ⟨_, rfl⟩
  rw [hY] at hl1 HL HA HB HR HO HK
  rw [hZ] at hl2 HL' HA HB HR HO HK
  have HP := hI (fun w' (h : Below w.heap.size w w') => plus_any _ _ _ _ _ _ _ _ w' (HL.out w' h) (HL'.out w' h) (limbs_dg Y) (limbs_dg Zn) hl1 hl2)
  have HM1 := hI (fun w' (h : Below w.heap.size w w') (hle : Zn ≤ Y) => minus_any _ _ _ _ _ _ _ _ w' (HL.out w' h) (HL'.out w' h) (limbs_dg Y) (limbs_dg Zn) hl1 (limbs_len_le hle) (by rw [natL_limbs, natL_limbs]; exact hle))
  have HM2 := hI (fun w' (h : Below w.heap.size w w') (hle : Y ≤ Zn) => minus_any _ _ _ _ _ _ _ _ w' (HL'.out w' h) (HL.out w' h) (limbs_dg Zn) (limbs_dg Y) hl2 (limbs_len_le hle) (by rw [natL_limbs, natL_limbs]; exact hle))
  rw [natL_limbs, natL_limbs] at HP HM1 HM2
  rw [hY, hZ]
  have HY := hI hY
  have HZ := hI hZ
  have hkk1 : (limbs Y).length = (limbs Y).length := rfl
  clear hl hl' hK hA hB hR HL HL' hY hZ hkk1
  generalize (limbs Y).length = k at *
  generalize (limbs Zn).length = k' at *
  by_cases hy : y < 0 <;> by_cases hz : z < 0
  · rw [decide_eq_true hy, decide_eq_true hz] at *
    have HSc := hI (fun w' (h : Below (((w.alloc (.cells #[.bool true, .slice a k c] 59)).alloc (.cells #[.bool true, .slice a' k' c'] 59)).alloc (.cells #[.bool false, .slice none 0 0] 59)).heap.size (((w.alloc (.cells #[.bool true, .slice a k c] 59)).alloc (.cells #[.bool true, .slice a' k' c'] 59)).alloc (.cells #[.bool false, .slice none 0 0] 59)) w') => And.intro (HA.out.below h |> blk2v).1.1 (And.intro (HA.out.below h |> blk2v).1.2 (And.intro (HB.out.below h |> blk2v).1.1 (HB.out.below h |> blk2v).1.2)))
    go_enter Tryz.func56, Tryz.ntmps56
    have hbs : Below (((w.alloc (.cells #[.bool true, .slice a k c] 59)).alloc (.cells #[.bool true, .slice a' k' c'] 59)).alloc (.cells #[.bool false, .slice none 0 0] 59)).heap.size (((w.alloc (.cells #[.bool true, .slice a k c] 59)).alloc (.cells #[.bool true, .slice a' k' c'] 59)).alloc (.cells #[.bool false, .slice none 0 0] 59)) (((w.alloc (.cells #[.bool true, .slice a k c] 59)).alloc (.cells #[.bool true, .slice a' k' c'] 59)).alloc (.cells #[.bool false, .slice none 0 0] 59)) := Below.refl _ _
    go_wp2_with fail
    refine wp_region_pop (S := (fun w' => w'.cell? ⟨w.heap.size, 0, none⟩ = some (.bool true) ∧ w'.cell? ⟨w.heap.size, 1, none⟩ = some (.slice a k c) ∧ w'.cell? ⟨w.heap.size + 1, 0, none⟩ = some (.bool true) ∧ w'.cell? ⟨w.heap.size + 1, 1, none⟩ = some (.slice a' k' c'))) 8 (by kernel_rfl) (by kernel_rfl) (by exact HSc.out _ (hbs.dn 1)) (fun hHeld => ?_)
    simp only [List.take_succ_cons, List.take_zero, List.drop_succ_cons, List.drop_zero]
    refine wpAnyH_take (i := 0) (v := ?v1) rfl (by kernel_rfl) (by kernel_rfl) (by kernel_rfl) (fun _ _ _ h => h) (Or.inl ⟨by rfl, ?hy1⟩) (by assumption) ?rest1
    case hy1 => (intro w hSw; (try dsimp only at hSw); go_simp; try (with_reducible rfl))
    try simp only [Act.put, List.getElem_toArray, List.getElem_cons_zero, List.setIfInBounds_toArray, List.set_cons_zero, List.set_cons_succ]
    refine' tk 1 ?_; (try simp only [tkS]); refine' tk 2 ?_; (try simp only [tkS]); refine' tk 3 ?_; (try simp only [tkS]); refine' tk 4 ?_; (try simp only [tkS]); refine' tk 5 ?_; (try simp only [tkS])
    refine tk1 6 (fun K hK => ?_)
    go_simp
    go_at_call 93
    refine (HP.out _ (HK.out.via (hbs.dn 1) HK.out.size)).mono ?_
    rintro e2 w4 ⟨v4, rfl, ⟨xs, xa, xc, rfl, hxl, hxd, hxn, -⟩, hb4⟩
    have Hxl := hI hxl
    have Hxd := hI hxd
    have Hxn := hI hxn
    have Hb4 := hI (hbs.via (undrew hb4) hbs.size)
    clear hxl hxd hxn hb4
    refine hK.out _ _ (by exact HSc.out _ Hb4.out) (fun hHeld => ?_)
    clear hK K; (try simp only [tkS])
    refine tk1 7 (fun K hK => ?_)
    go_simp
    go_at_call 92
    refine (signed_any _ _ _ _ xs _ Hxl.out Hxd.out).mono ?_
    rintro e2 w5 ⟨v5, rfl, hv5, hb5⟩
    rw [Hxn.out] at hv5
    obtain ⟨x5, a5, k5, c5, rfl, hv5⟩ := hv5.open
    have Hv5 := hI hv5
    have Hb5 := hI (Hb4.out.via hb5 Hb4.out.size)
    clear hv5 hb5
    refine hK.out _ _ (by exact HSc.out _ Hb5.out) (fun hHeld => ?_)
    clear hK K; (try simp only [tkS])
    refine tkD ?_ _
    simp only [Exit.then]
    have hr := HR.out.below Hb5.out
    obtain ⟨⟨r0, r1⟩, f0, f1⟩ := blk2v hr
    obtain ⟨hv6, hb6⟩ := IntV.put2 Hv5.out hr
    have Hv6 := hI hv6
    have Hb6 := hI hb6
    have hbel := ((HK.out.via Hb5.out HK.out.size).setCell (p := ⟨w.heap.size + 1 + 1, 0, none⟩) (by show w.heap.size ≤ w.heap.size + 1 + 1; omega) (.bool x5)).setCell (p := ⟨w.heap.size + 1 + 1, 1, none⟩) (by show w.heap.size ≤ w.heap.size + 1 + 1; omega) (.slice a5 k5 c5)
    have Hbel := hI hbel
    clear hr hv6 hb6 hbel
    go_wp2_with fail
    obtain ⟨⟨q0, q1⟩, -⟩ := blk2v Hb6.out
    refine bodyPost_ret (v := .agg #[.bool x5, .slice a5 k5 c5]) (by simp [results, Tryz.results56, go_sem, q0, q1]) rfl ⟨_, rfl, ?_, Hbel.out⟩
    have hfin : sgn true (Y + Zn) = y + z := by have := HY.out; have := HZ.out; simp only [sgn, if_true]; omega
    rw [← hfin]
    exact Hv6.out
  · rw [decide_eq_true hy, decide_eq_false hz] at *
    have HSc := hI (fun w' (h : Below (((w.alloc (.cells #[.bool true, .slice a k c] 59)).alloc (.cells #[.bool false, .slice a' k' c'] 59)).alloc (.cells #[.bool false, .slice none 0 0] 59)).heap.size (((w.alloc (.cells #[.bool true, .slice a k c] 59)).alloc (.cells #[.bool false, .slice a' k' c'] 59)).alloc (.cells #[.bool false, .slice none 0 0] 59)) w') => And.intro (HA.out.below h |> blk2v).1.1 (And.intro (HA.out.below h |> blk2v).1.2 (And.intro (HB.out.below h |> blk2v).1.1 (HB.out.below h |> blk2v).1.2)))
    go_enter Tryz.func56, Tryz.ntmps56
    by_cases hle : Zn ≤ Y
    · have hcp := cmpN_ge hle
      go_wp2_with (go_at_call 94; refine (HO.out _ HK.out).mono ?_; rintro e w3 ⟨rfl, hbs⟩; obtain ⟨a0, a1, b0, b1⟩ := HSc.out w3 hbs)
      refine wp_region_pop (S := (fun w' => w'.cell? ⟨w.heap.size, 0, none⟩ = some (.bool true) ∧ w'.cell? ⟨w.heap.size, 1, none⟩ = some (.slice a k c) ∧ w'.cell? ⟨w.heap.size + 1, 0, none⟩ = some (.bool false) ∧ w'.cell? ⟨w.heap.size + 1, 1, none⟩ = some (.slice a' k' c'))) 8 (by kernel_rfl) (by kernel_rfl) (by exact HSc.out _ (hbs.dn 1)) (fun hHeld => ?_)
      simp only [List.take_succ_cons, List.take_zero, List.drop_succ_cons, List.drop_zero]
      refine wpAnyH_take (i := 0) (v := ?v7) rfl (by kernel_rfl) (by kernel_rfl) (by kernel_rfl) (fun _ _ _ h => h) (Or.inl ⟨by rfl, ?hy7⟩) (by assumption) ?rest7
      case hy7 => (intro w hSw; (try dsimp only at hSw); go_simp; try (with_reducible rfl))
      try simp only [Act.put, List.getElem_toArray, List.getElem_cons_zero, List.setIfInBounds_toArray, List.set_cons_zero, List.set_cons_succ]
      refine' tk 1 ?_; (try simp only [tkS]); refine' tk 2 ?_; (try simp only [tkS]); refine' tk 3 ?_; (try simp only [tkS]); refine' tk 4 ?_; (try simp only [tkS]); refine' tk 5 ?_; (try simp only [tkS])
      refine tk1 6 (fun K hK => ?_)
      go_simp
      go_at_call 95
      refine (HM1.out _ (HK.out.via (hbs.dn 1) HK.out.size) hle).mono ?_
      rintro e2 w4 ⟨v4, rfl, ⟨xs, xa, xc, rfl, hxl, hxd, hxn, -⟩, hb4⟩
      have Hxl := hI hxl
      have Hxd := hI hxd
      have Hxn := hI hxn
      have Hb4 := hI (hbs.via (undrew hb4) hbs.size)
      clear hxl hxd hxn hb4
      refine hK.out _ _ (by exact HSc.out _ Hb4.out) (fun hHeld => ?_)
      clear hK K; (try simp only [tkS])
      refine tk1 7 (fun K hK => ?_)
      go_simp
      go_at_call 92
      refine (signed_any _ _ _ _ xs _ Hxl.out Hxd.out).mono ?_
      rintro e2 w5 ⟨v5, rfl, hv5, hb5⟩
      rw [Hxn.out] at hv5
      obtain ⟨x5, a5, k5, c5, rfl, hv5⟩ := hv5.open
      have Hv5 := hI hv5
      have Hb5 := hI (Hb4.out.via hb5 Hb4.out.size)
      clear hv5 hb5
      refine hK.out _ _ (by exact HSc.out _ Hb5.out) (fun hHeld => ?_)
      clear hK K; (try simp only [tkS])
      refine tkD ?_ _
      simp only [Exit.then]
      have hr := HR.out.below Hb5.out
      obtain ⟨⟨r0, r1⟩, f0, f1⟩ := blk2v hr
      obtain ⟨hv6, hb6⟩ := IntV.put2 Hv5.out hr
      have Hv6 := hI hv6
      have Hb6 := hI hb6
      have hbel := ((HK.out.via Hb5.out HK.out.size).setCell (p := ⟨w.heap.size + 1 + 1, 0, none⟩) (by show w.heap.size ≤ w.heap.size + 1 + 1; omega) (.bool x5)).setCell (p := ⟨w.heap.size + 1 + 1, 1, none⟩) (by show w.heap.size ≤ w.heap.size + 1 + 1; omega) (.slice a5 k5 c5)
      have Hbel := hI hbel
      clear hr hv6 hb6 hbel
      go_wp2_with fail
      obtain ⟨⟨q0, q1⟩, -⟩ := blk2v Hb6.out
      refine bodyPost_ret (v := .agg #[.bool x5, .slice a5 k5 c5]) (by simp [results, Tryz.results56, go_sem, q0, q1]) rfl ⟨_, rfl, ?_, Hbel.out⟩
      have hfin : sgn true (Y - Zn) = y + z := by have := HY.out; have := HZ.out; simp only [sgn, if_true]; omega
      rw [← hfin]
      exact Hv6.out
    · have hcp := cmpN_lt (Nat.lt_of_not_le hle)
      go_wp2_with (go_at_call 94; refine (HO.out _ HK.out).mono ?_; rintro e w3 ⟨rfl, hbs⟩; obtain ⟨a0, a1, b0, b1⟩ := HSc.out w3 hbs)
      refine wp_region_pop (S := (fun w' => w'.cell? ⟨w.heap.size, 0, none⟩ = some (.bool true) ∧ w'.cell? ⟨w.heap.size, 1, none⟩ = some (.slice a k c) ∧ w'.cell? ⟨w.heap.size + 1, 0, none⟩ = some (.bool false) ∧ w'.cell? ⟨w.heap.size + 1, 1, none⟩ = some (.slice a' k' c'))) 8 (by kernel_rfl) (by kernel_rfl) (by exact HSc.out _ (hbs.dn 1)) (fun hHeld => ?_)
      simp only [List.take_succ_cons, List.take_zero, List.drop_succ_cons, List.drop_zero]
      refine wpAnyH_take (i := 0) (v := ?v13) rfl (by kernel_rfl) (by kernel_rfl) (by kernel_rfl) (fun _ _ _ h => h) (Or.inl ⟨by rfl, ?hy13⟩) (by assumption) ?rest13
      case hy13 => (intro w hSw; (try dsimp only at hSw); go_simp; try (with_reducible rfl))
      try simp only [Act.put, List.getElem_toArray, List.getElem_cons_zero, List.setIfInBounds_toArray, List.set_cons_zero, List.set_cons_succ]
      refine' tk 1 ?_; (try simp only [tkS]); refine' tk 2 ?_; (try simp only [tkS]); refine' tk 3 ?_; (try simp only [tkS]); refine' tk 4 ?_; (try simp only [tkS]); refine' tk 5 ?_; (try simp only [tkS])
      refine tk1 6 (fun K hK => ?_)
      go_simp
      go_at_call 95
      refine (HM2.out _ (HK.out.via (hbs.dn 1) HK.out.size) (by omega)).mono ?_
      rintro e2 w4 ⟨v4, rfl, ⟨xs, xa, xc, rfl, hxl, hxd, hxn, -⟩, hb4⟩
      have Hxl := hI hxl
      have Hxd := hI hxd
      have Hxn := hI hxn
      have Hb4 := hI (hbs.via (undrew hb4) hbs.size)
      clear hxl hxd hxn hb4
      refine hK.out _ _ (by exact HSc.out _ Hb4.out) (fun hHeld => ?_)
      clear hK K; (try simp only [tkS])
      refine tk1 7 (fun K hK => ?_)
      go_simp
      go_at_call 92
      refine (signed_any _ _ _ _ xs _ Hxl.out Hxd.out).mono ?_
      rintro e2 w5 ⟨v5, rfl, hv5, hb5⟩
      rw [Hxn.out] at hv5
      obtain ⟨x5, a5, k5, c5, rfl, hv5⟩ := hv5.open
      have Hv5 := hI hv5
      have Hb5 := hI (Hb4.out.via hb5 Hb4.out.size)
      clear hv5 hb5
      refine hK.out _ _ (by exact HSc.out _ Hb5.out) (fun hHeld => ?_)
      clear hK K; (try simp only [tkS])
      refine tkD ?_ _
      simp only [Exit.then]
      have hr := HR.out.below Hb5.out
      obtain ⟨⟨r0, r1⟩, f0, f1⟩ := blk2v hr
      obtain ⟨hv6, hb6⟩ := IntV.put2 Hv5.out hr
      have Hv6 := hI hv6
      have Hb6 := hI hb6
      have hbel := ((HK.out.via Hb5.out HK.out.size).setCell (p := ⟨w.heap.size + 1 + 1, 0, none⟩) (by show w.heap.size ≤ w.heap.size + 1 + 1; omega) (.bool x5)).setCell (p := ⟨w.heap.size + 1 + 1, 1, none⟩) (by show w.heap.size ≤ w.heap.size + 1 + 1; omega) (.slice a5 k5 c5)
      have Hbel := hI hbel
      clear hr hv6 hb6 hbel
      go_wp2_with fail
      obtain ⟨⟨q0, q1⟩, -⟩ := blk2v Hb6.out
      refine bodyPost_ret (v := .agg #[.bool x5, .slice a5 k5 c5]) (by simp [results, Tryz.results56, go_sem, q0, q1]) rfl ⟨_, rfl, ?_, Hbel.out⟩
      have hfin : sgn false (Zn - Y) = y + z := by have := HY.out; have := HZ.out; simp only [sgn, Bool.false_eq_true, if_false]; omega
      rw [← hfin]
      exact Hv6.out
  · rw [decide_eq_false hy, decide_eq_true hz] at *
    have HSc := hI (fun w' (h : Below (((w.alloc (.cells #[.bool false, .slice a k c] 59)).alloc (.cells #[.bool true, .slice a' k' c'] 59)).alloc (.cells #[.bool false, .slice none 0 0] 59)).heap.size (((w.alloc (.cells #[.bool false, .slice a k c] 59)).alloc (.cells #[.bool true, .slice a' k' c'] 59)).alloc (.cells #[.bool false, .slice none 0 0] 59)) w') => And.intro (HA.out.below h |> blk2v).1.1 (And.intro (HA.out.below h |> blk2v).1.2 (And.intro (HB.out.below h |> blk2v).1.1 (HB.out.below h |> blk2v).1.2)))
    go_enter Tryz.func56, Tryz.ntmps56
    by_cases hle : Zn ≤ Y
    · have hcp := cmpN_ge hle
      go_wp2_with (go_at_call 94; refine (HO.out _ HK.out).mono ?_; rintro e w3 ⟨rfl, hbs⟩; obtain ⟨a0, a1, b0, b1⟩ := HSc.out w3 hbs)
      refine wp_region_pop (S := (fun w' => w'.cell? ⟨w.heap.size, 0, none⟩ = some (.bool false) ∧ w'.cell? ⟨w.heap.size, 1, none⟩ = some (.slice a k c) ∧ w'.cell? ⟨w.heap.size + 1, 0, none⟩ = some (.bool true) ∧ w'.cell? ⟨w.heap.size + 1, 1, none⟩ = some (.slice a' k' c'))) 8 (by kernel_rfl) (by kernel_rfl) (by exact HSc.out _ (hbs.dn 1)) (fun hHeld => ?_)
      simp only [List.take_succ_cons, List.take_zero, List.drop_succ_cons, List.drop_zero]
      refine wpAnyH_take (i := 0) (v := ?v19) rfl (by kernel_rfl) (by kernel_rfl) (by kernel_rfl) (fun _ _ _ h => h) (Or.inl ⟨by rfl, ?hy19⟩) (by assumption) ?rest19
      case hy19 => (intro w hSw; (try dsimp only at hSw); go_simp; try (with_reducible rfl))
      try simp only [Act.put, List.getElem_toArray, List.getElem_cons_zero, List.setIfInBounds_toArray, List.set_cons_zero, List.set_cons_succ]
      refine' tk 1 ?_; (try simp only [tkS]); refine' tk 2 ?_; (try simp only [tkS]); refine' tk 3 ?_; (try simp only [tkS]); refine' tk 4 ?_; (try simp only [tkS]); refine' tk 5 ?_; (try simp only [tkS])
      refine tk1 6 (fun K hK => ?_)
      go_simp
      go_at_call 95
      refine (HM1.out _ (HK.out.via (hbs.dn 1) HK.out.size) hle).mono ?_
      rintro e2 w4 ⟨v4, rfl, ⟨xs, xa, xc, rfl, hxl, hxd, hxn, -⟩, hb4⟩
      have Hxl := hI hxl
      have Hxd := hI hxd
      have Hxn := hI hxn
      have Hb4 := hI (hbs.via (undrew hb4) hbs.size)
      clear hxl hxd hxn hb4
      refine hK.out _ _ (by exact HSc.out _ Hb4.out) (fun hHeld => ?_)
      clear hK K; (try simp only [tkS])
      refine tk1 7 (fun K hK => ?_)
      go_simp
      go_at_call 92
      refine (signed_any _ _ _ _ xs _ Hxl.out Hxd.out).mono ?_
      rintro e2 w5 ⟨v5, rfl, hv5, hb5⟩
      rw [Hxn.out] at hv5
      obtain ⟨x5, a5, k5, c5, rfl, hv5⟩ := hv5.open
      have Hv5 := hI hv5
      have Hb5 := hI (Hb4.out.via hb5 Hb4.out.size)
      clear hv5 hb5
      refine hK.out _ _ (by exact HSc.out _ Hb5.out) (fun hHeld => ?_)
      clear hK K; (try simp only [tkS])
      refine tkD ?_ _
      simp only [Exit.then]
      have hr := HR.out.below Hb5.out
      obtain ⟨⟨r0, r1⟩, f0, f1⟩ := blk2v hr
      obtain ⟨hv6, hb6⟩ := IntV.put2 Hv5.out hr
      have Hv6 := hI hv6
      have Hb6 := hI hb6
      have hbel := ((HK.out.via Hb5.out HK.out.size).setCell (p := ⟨w.heap.size + 1 + 1, 0, none⟩) (by show w.heap.size ≤ w.heap.size + 1 + 1; omega) (.bool x5)).setCell (p := ⟨w.heap.size + 1 + 1, 1, none⟩) (by show w.heap.size ≤ w.heap.size + 1 + 1; omega) (.slice a5 k5 c5)
      have Hbel := hI hbel
      clear hr hv6 hb6 hbel
      go_wp2_with fail
      obtain ⟨⟨q0, q1⟩, -⟩ := blk2v Hb6.out
      refine bodyPost_ret (v := .agg #[.bool x5, .slice a5 k5 c5]) (by simp [results, Tryz.results56, go_sem, q0, q1]) rfl ⟨_, rfl, ?_, Hbel.out⟩
      have hfin : sgn false (Y - Zn) = y + z := by have := HY.out; have := HZ.out; simp only [sgn, Bool.false_eq_true, if_false]; omega
      rw [← hfin]
      exact Hv6.out
    · have hcp := cmpN_lt (Nat.lt_of_not_le hle)
      go_wp2_with (go_at_call 94; refine (HO.out _ HK.out).mono ?_; rintro e w3 ⟨rfl, hbs⟩; obtain ⟨a0, a1, b0, b1⟩ := HSc.out w3 hbs)
      refine wp_region_pop (S := (fun w' => w'.cell? ⟨w.heap.size, 0, none⟩ = some (.bool false) ∧ w'.cell? ⟨w.heap.size, 1, none⟩ = some (.slice a k c) ∧ w'.cell? ⟨w.heap.size + 1, 0, none⟩ = some (.bool true) ∧ w'.cell? ⟨w.heap.size + 1, 1, none⟩ = some (.slice a' k' c'))) 8 (by kernel_rfl) (by kernel_rfl) (by exact HSc.out _ (hbs.dn 1)) (fun hHeld => ?_)
      simp only [List.take_succ_cons, List.take_zero, List.drop_succ_cons, List.drop_zero]
      refine wpAnyH_take (i := 0) (v := ?v25) rfl (by kernel_rfl) (by kernel_rfl) (by kernel_rfl) (fun _ _ _ h => h) (Or.inl ⟨by rfl, ?hy25⟩) (by assumption) ?rest25
      case hy25 => (intro w hSw; (try dsimp only at hSw); go_simp; try (with_reducible rfl))
      try simp only [Act.put, List.getElem_toArray, List.getElem_cons_zero, List.setIfInBounds_toArray, List.set_cons_zero, List.set_cons_succ]
      refine' tk 1 ?_; (try simp only [tkS]); refine' tk 2 ?_; (try simp only [tkS]); refine' tk 3 ?_; (try simp only [tkS]); refine' tk 4 ?_; (try simp only [tkS]); refine' tk 5 ?_; (try simp only [tkS])
      refine tk1 6 (fun K hK => ?_)
      go_simp
      go_at_call 95
      refine (HM2.out _ (HK.out.via (hbs.dn 1) HK.out.size) (by omega)).mono ?_
      rintro e2 w4 ⟨v4, rfl, ⟨xs, xa, xc, rfl, hxl, hxd, hxn, -⟩, hb4⟩
      have Hxl := hI hxl
      have Hxd := hI hxd
      have Hxn := hI hxn
      have Hb4 := hI (hbs.via (undrew hb4) hbs.size)
      clear hxl hxd hxn hb4
      refine hK.out _ _ (by exact HSc.out _ Hb4.out) (fun hHeld => ?_)
      clear hK K; (try simp only [tkS])
      refine tk1 7 (fun K hK => ?_)
      go_simp
      go_at_call 92
      refine (signed_any _ _ _ _ xs _ Hxl.out Hxd.out).mono ?_
      rintro e2 w5 ⟨v5, rfl, hv5, hb5⟩
      rw [Hxn.out] at hv5
      obtain ⟨x5, a5, k5, c5, rfl, hv5⟩ := hv5.open
      have Hv5 := hI hv5
      have Hb5 := hI (Hb4.out.via hb5 Hb4.out.size)
      clear hv5 hb5
      refine hK.out _ _ (by exact HSc.out _ Hb5.out) (fun hHeld => ?_)
      clear hK K; (try simp only [tkS])
      refine tkD ?_ _
      simp only [Exit.then]
      have hr := HR.out.below Hb5.out
      obtain ⟨⟨r0, r1⟩, f0, f1⟩ := blk2v hr
      obtain ⟨hv6, hb6⟩ := IntV.put2 Hv5.out hr
      have Hv6 := hI hv6
      have Hb6 := hI hb6
      have hbel := ((HK.out.via Hb5.out HK.out.size).setCell (p := ⟨w.heap.size + 1 + 1, 0, none⟩) (by show w.heap.size ≤ w.heap.size + 1 + 1; omega) (.bool x5)).setCell (p := ⟨w.heap.size + 1 + 1, 1, none⟩) (by show w.heap.size ≤ w.heap.size + 1 + 1; omega) (.slice a5 k5 c5)
      have Hbel := hI hbel
      clear hr hv6 hb6 hbel
      go_wp2_with fail
      obtain ⟨⟨q0, q1⟩, -⟩ := blk2v Hb6.out
      refine bodyPost_ret (v := .agg #[.bool x5, .slice a5 k5 c5]) (by simp [results, Tryz.results56, go_sem, q0, q1]) rfl ⟨_, rfl, ?_, Hbel.out⟩
      have hfin : sgn true (Zn - Y) = y + z := by have := HY.out; have := HZ.out; simp only [sgn, if_true]; omega
      rw [← hfin]
      exact Hv6.out
  · rw [decide_eq_false hy, decide_eq_false hz] at *
    have HSc := hI (fun w' (h : Below (((w.alloc (.cells #[.bool false, .slice a k c] 59)).alloc (.cells #[.bool false, .slice a' k' c'] 59)).alloc (.cells #[.bool false, .slice none 0 0] 59)).heap.size (((w.alloc (.cells #[.bool false, .slice a k c] 59)).alloc (.cells #[.bool false, .slice a' k' c'] 59)).alloc (.cells #[.bool false, .slice none 0 0] 59)) w') => And.intro (HA.out.below h |> blk2v).1.1 (And.intro (HA.out.below h |> blk2v).1.2 (And.intro (HB.out.below h |> blk2v).1.1 (HB.out.below h |> blk2v).1.2)))
    go_enter Tryz.func56, Tryz.ntmps56
    have hbs : Below (((w.alloc (.cells #[.bool false, .slice a k c] 59)).alloc (.cells #[.bool false, .slice a' k' c'] 59)).alloc (.cells #[.bool false, .slice none 0 0] 59)).heap.size (((w.alloc (.cells #[.bool false, .slice a k c] 59)).alloc (.cells #[.bool false, .slice a' k' c'] 59)).alloc (.cells #[.bool false, .slice none 0 0] 59)) (((w.alloc (.cells #[.bool false, .slice a k c] 59)).alloc (.cells #[.bool false, .slice a' k' c'] 59)).alloc (.cells #[.bool false, .slice none 0 0] 59)) := Below.refl _ _
    go_wp2_with fail
    refine wp_region_pop (S := (fun w' => w'.cell? ⟨w.heap.size, 0, none⟩ = some (.bool false) ∧ w'.cell? ⟨w.heap.size, 1, none⟩ = some (.slice a k c) ∧ w'.cell? ⟨w.heap.size + 1, 0, none⟩ = some (.bool false) ∧ w'.cell? ⟨w.heap.size + 1, 1, none⟩ = some (.slice a' k' c'))) 8 (by kernel_rfl) (by kernel_rfl) (by exact HSc.out _ (hbs.dn 1)) (fun hHeld => ?_)
    simp only [List.take_succ_cons, List.take_zero, List.drop_succ_cons, List.drop_zero]
    refine wpAnyH_take (i := 0) (v := ?v31) rfl (by kernel_rfl) (by kernel_rfl) (by kernel_rfl) (fun _ _ _ h => h) (Or.inl ⟨by rfl, ?hy31⟩) (by assumption) ?rest31
    case hy31 => (intro w hSw; (try dsimp only at hSw); go_simp; try (with_reducible rfl))
    try simp only [Act.put, List.getElem_toArray, List.getElem_cons_zero, List.setIfInBounds_toArray, List.set_cons_zero, List.set_cons_succ]
    refine' tk 1 ?_; (try simp only [tkS]); refine' tk 2 ?_; (try simp only [tkS]); refine' tk 3 ?_; (try simp only [tkS]); refine' tk 4 ?_; (try simp only [tkS]); refine' tk 5 ?_; (try simp only [tkS])
    refine tk1 6 (fun K hK => ?_)
    go_simp
    go_at_call 93
    refine (HP.out _ (HK.out.via (hbs.dn 1) HK.out.size)).mono ?_
    rintro e2 w4 ⟨v4, rfl, ⟨xs, xa, xc, rfl, hxl, hxd, hxn, -⟩, hb4⟩
    have Hxl := hI hxl
    have Hxd := hI hxd
    have Hxn := hI hxn
    have Hb4 := hI (hbs.via (undrew hb4) hbs.size)
    clear hxl hxd hxn hb4
    refine hK.out _ _ (by exact HSc.out _ Hb4.out) (fun hHeld => ?_)
    clear hK K; (try simp only [tkS])
    refine tk1 7 (fun K hK => ?_)
    go_simp
    go_at_call 92
    refine (signed_any _ _ _ _ xs _ Hxl.out Hxd.out).mono ?_
    rintro e2 w5 ⟨v5, rfl, hv5, hb5⟩
    rw [Hxn.out] at hv5
    obtain ⟨x5, a5, k5, c5, rfl, hv5⟩ := hv5.open
    have Hv5 := hI hv5
    have Hb5 := hI (Hb4.out.via hb5 Hb4.out.size)
    clear hv5 hb5
    refine hK.out _ _ (by exact HSc.out _ Hb5.out) (fun hHeld => ?_)
    clear hK K; (try simp only [tkS])
    refine tkD ?_ _
    simp only [Exit.then]
    have hr := HR.out.below Hb5.out
    obtain ⟨⟨r0, r1⟩, f0, f1⟩ := blk2v hr
    obtain ⟨hv6, hb6⟩ := IntV.put2 Hv5.out hr
    have Hv6 := hI hv6
    have Hb6 := hI hb6
    have hbel := ((HK.out.via Hb5.out HK.out.size).setCell (p := ⟨w.heap.size + 1 + 1, 0, none⟩) (by show w.heap.size ≤ w.heap.size + 1 + 1; omega) (.bool x5)).setCell (p := ⟨w.heap.size + 1 + 1, 1, none⟩) (by show w.heap.size ≤ w.heap.size + 1 + 1; omega) (.slice a5 k5 c5)
    have Hbel := hI hbel
    clear hr hv6 hb6 hbel
    go_wp2_with fail
    obtain ⟨⟨q0, q1⟩, -⟩ := blk2v Hb6.out
    refine bodyPost_ret (v := .agg #[.bool x5, .slice a5 k5 c5]) (by simp [results, Tryz.results56, go_sem, q0, q1]) rfl ⟨_, rfl, ?_, Hbel.out⟩
    have hfin : sgn false (Y + Zn) = y + z := by have := HY.out; have := HZ.out; simp only [sgn, Bool.false_eq_true, if_false]; omega
    rw [← hfin]
    exact Hv6.out
end Go.Proofs.YtlcmhbkmpkcajaaGreatDoor
namespace Go.Proofs.YtlcmhbkmpkcajaaGreatDoor
open Go.RowKit
theorem or_low (r d : Nat) (hd : d < 4294967296) : r * 4294967296 ||| d = r * 4294967296 + d := by
  have h := Nat.two_pow_add_eq_or_of_lt (i := 32) (b := d) (show d < 2 ^ 32 from hd) r
  rw [Nat.mul_comm r]
  exact h.symm
theorem quo_lt {r d b : Nat} (hr : r < b) (hd : d < 4294967296) : (r * 4294967296 + d) / b < 4294967296 := by
  rw [Nat.div_lt_iff_lt_mul (by omega), Nat.mul_comm 4294967296]
  have : (r + 1) * 4294967296 ≤ b * 4294967296 := Nat.mul_le_mul_right _ hr
  omega
theorem big_lt {r b d : Nat} (hr : r < b) (hb : b < 4294967296) (hd : d < 4294967296) : r * 4294967296 + d < 18446744073709551616 := by
  have : r * 4294967296 ≤ 4294967294 * 4294967296 := Nat.mul_le_mul_right _ (by omega)
  omega
theorem Out.low {M : Nat} {w : World} {g n : Nat} {done : List Nat} (h : Out M w g (List.replicate (n + 1) 0 ++ done)) : w.cell? ⟨g, n, none⟩ = some (.int .u32 0) ∧ w.frozen? ⟨g, n, none⟩ = false :=
  h.cell (i := n) (d := 0) (by rw [List.getElem?_append_left (by simp)]; simp)
theorem Out.writeLow {M : Nat} {w : World} {g n : Nat} {done : List Nat} (h : Out M w g (List.replicate (n + 1) 0 ++ done)) (d : Nat) : Out M (w.setCell ⟨g, n, none⟩ (.int .u32 (d : Int))) g (List.replicate n 0 ++ (d :: done)) := by
  have := h.set (i := n) (by simp; omega) d
  rwa [put_down] at this
set_option maxHeartbeats 4000000 in
theorem short_at (a : Option Addr) (n c : Nat) (l : List Nat) (by' : Nat) (w : World) (hL : Ls w (.slice a n c) l) (hd : Dg l) (hn1 : l.length < 1000000) (hby : by' < 4294967296) (hby0 : 0 < by') :
    Calls Tryz.prog 63 #[.slice a n c, .int .u32 (by' : Int)] w (fun e w' => ∃ v, e = .returned (.tuple #[v, .int .u32 ((natL l % by' : Nat) : Int)]) ∧ MagA w' v (natL l / by') ∧ Below w.heap.size w w') := by
  obtain ⟨_, _, hq, hc1, hc2⟩ := hL.open
  cases hq
  unfold maxLen at hc2
  have hi : (Tryz.prog.info? 110).map (fun i => (i.zero, i.size, i.bytes)) = some (some (.int .u32 0), 1, 4) := by kernel_rfl
  obtain ⟨i4, hi4, hz0, hz1, hz2⟩ := info_parts hi
  clear hi
  have HL := hI hL
  have Hd := hI hd
  clear hL hd
  generalize hn : l.length = n at *
  have Hn := hI hn
  clear hn
  go_enter Tryz.func63, Tryz.ntmps63
  go_wp2_with (at_make; refine wpList_make_full _ rfl _ _ 57 rfl (w.heap.size) 110 i4 (.int .u32 0) 1 Tryz.underlying57 hi4 hz0 hz1 .i64 .i64 _ _ n rfl rfl (by omega) (by omega) (by rw [hz2]; omega) (by unfold maxLen; omega) (by simp) ?_; intro w1 hown hg)
  have hO := Out.made hown
  have hb1 : Below w.heap.size w w1 := (Below.refl _ _).grown hg (Nat.le_refl _) (fun b hb => by cases hb)
  clear hown hg hi4 hz0 hz1 hz2
  go_loopw [7, 8] (fun rv i wr => ∃ (k r : Nat) (done : List Nat), k ≤ n ∧ i = .int .i64 ((k : Int) - 1) ∧ rv = .int .u64 (r : Int) ∧ r < by' ∧ Below w.heap.size w wr ∧ Out w.heap.size wr w.heap.size (List.replicate k 0 ++ done) ∧ Hid (done.length = n - k ∧ Dg done ∧ natL done * by' + r = natL (l.drop k))) (fun _ i _ => (intOf i + 1).toNat)
  case atStart => exact ⟨n, 0, [], Nat.le_refl _, rfl, rfl, hby0, hb1, by rw [List.append_nil]; exact hO, by rw [Nat.sub_self]; rfl, (fun d hd => by simp at hd), by rw [List.drop_eq_nil_of_le (by rw [Hn.out]; exact Nat.le_refl _)]; simp [natL]⟩
  case round =>
    clear hO hb1
    obtain ⟨k, r, done, hk, rfl, rfl, hr, hbw, hO, hpre⟩ := hrel
    rcases k with _ | j
    · rw [List.replicate_zero, List.nil_append] at hO
      have HAu := hI hO.au
      have hls := hO.ls
      have hlen : done.length = n := hpre.out.1
      rw [hlen] at hls
      have heq : natL done * by' + r = natL l := by have := hpre.out.2.2; rwa [List.drop_zero] at this
      have hq1 : natL done = natL l / by' := by
        rw [← heq, Nat.mul_comm, Nat.mul_add_div hby0, Nat.div_eq_of_lt hr, Nat.add_zero]
      have hr1 : r = natL l % by' := by
        rw [← heq, Nat.mul_comm, Nat.mul_add_mod, Nat.mod_eq_of_lt hr]
      have H := trim_any _ _ _ _ _ hls hpre.out.2.1
      rw [hq1] at H
      have HT := hI H
      have Hr1 := hI hr1
      have hrm : (r : Int) % 4294967296 = r := by omega
      have Hbw := hI hbw
      clear hO hls hlen heq hq1 hr1 H hbw
      go_wp2_with (go_at_call 96; refine (HT.out).mono ?_; rintro e w2 ⟨rfl, hl2, hb2⟩)
      go_ret2
      exact ⟨_, by rw [← Hr1.out]; rfl, ⟨_, _, rfl, hl2.mono hb2, HAu.out.mono (hb2)⟩, Hbw.out.via hb2 Hbw.out.size⟩
    · obtain ⟨b1, off, d, rfl, hdk, c0⟩ := HL.out.at hbw (show j < n by omega)
      have Hdk := hI hdk
      have hdlt := Hd.out d (List.mem_of_getElem? hdk)
      have hij : ((((j + 1 : Nat) : Int) - 1)) = (j : Int) := by omega
      rw [hij]
      have hi64 : IntKind.i64.wrap (j : Int) = j := IntWalk.i64_in _ (by omega)
      have hj0 : (0 : Int) ≤ (j : Int) := Int.natCast_nonneg _
      have hjn : (j : Int) < (n : Int) := by omega
      obtain ⟨g0, g1⟩ := hO.low
      have hm := big_lt hr hby hdlt
      obtain ⟨t, ht⟩ : ∃ t, r * 4294967296 + d = t := ⟨_, rfl⟩
      have hor : bits .or .u64 ((r : Int) * 4294967296) (d : Int) = (t : Int) := by
        have h := u64_or_nat (r * 4294967296) d (Nat.lt_of_le_of_lt (Nat.le_add_right _ d) hm) (Nat.lt_trans hdlt (by decide))
        rw [or_low r d hdlt, ht] at h
        have e : ((r * 4294967296 : Nat) : Int) = (r : Int) * 4294967296 := by omega
        rw [← e]
        exact h
      obtain ⟨q, hq⟩ : ∃ q, t / by' = q := ⟨_, rfl⟩
      obtain ⟨s, hs⟩ : ∃ s, t % by' = s := ⟨_, rfl⟩
      have hqlt : q < 4294967296 := by rw [← hq, ← ht]; exact quo_lt hr hdlt
      have hslt : s < by' := by rw [← hs]; exact Nat.mod_lt _ hby0
      have hqi : (t : Int) / (by' : Int) = (q : Int) := by rw [← hq]; rfl
      have hsi : (t : Int) % (by' : Int) = (s : Int) := by rw [← hs]; rfl
      have hqw : IntKind.u64.wrap ((t : Int) / (by' : Int)) = (q : Int) := by rw [hqi]; exact IntWalk.u64_in _ (by omega)
      have hqm : (q : Int) % 4294967296 = (q : Int) := by omega
      have hby0' : (by' : Int) ≠ 0 := by omega
      have Hst := hI (short_step (d := d) hpre.out.2.2)
      rw [ht, hq, hs] at Hst
      have hwr := hO.writeLow q
      have Hwr := hI hwr
      have Hbw := hI (hbw.setCell (p := ⟨w.heap.size, j, none⟩) (Nat.le_refl _) (.int .u32 (q : Int)))
      have Hhm := hI hm
      clear hwr hO hqi hq hs ht hm hdk
      go_wp2_with fail
      go_roundw
      case rel =>
        refine ⟨j, s, q :: done, by omega, by go_num, by rw [hsi], hslt, Hbw.out, Hwr.out, by rw [List.length_cons, hpre.out.1]; omega, ?_, ?_⟩
        · intro x hx
          rcases List.mem_cons.1 hx with rfl | hx
          · exact hqlt
          · exact hpre.out.2.1 x hx
        · rw [Hst.out, natL_drop Hdk.out]
      case measure => simp [intOf] <;> omega
theorem short_any (a : Option Addr) (n c : Nat) (l : List Nat) (by' : Nat) (w : World) (hL : Ls w (.slice a n c) l) (hd : Dg l) (hn1 : l.length < 1000000) (hby : by' < 4294967296) (hby0 : 0 < by') :
    Calls Tryz.prog 63 #[.slice a n c, .int .u32 (by' : Int)] w (fun e w' => ∃ v, e = .returned (.tuple #[v, .int .u32 ((natL l % by' : Nat) : Int)]) ∧ MagV w' v (natL l / by') ∧ Below w.heap.size w w') :=
  (short_at a n c l by' w hL hd hn1 hby hby0).mono fun _ _ ⟨v, he, h, hb⟩ => ⟨v, he, h.mag, hb⟩
end Go.Proofs.YtlcmhbkmpkcajaaGreatDoor
namespace Go.Proofs.YtlcmhbkmpkcajaaGreatDoor
theorem guess_up {q v1 v2 H B D u2 ur vr : Nat} (hu2 : u2 < B) (hur : ur < D) (hD : 0 < D) (h : q * ((v1 * B + v2) * D + vr) ≤ (H * B + u2) * D + ur) : q * v1 ≤ H := by
  have hBD : 0 < B * D := Nat.mul_pos (by omega) hD
  have h1 : q * v1 * (B * D) ≤ q * ((v1 * B + v2) * D + vr) := by
    have e : q * ((v1 * B + v2) * D + vr) = q * v1 * (B * D) + q * (v2 * D + vr) := by
      simp only [Nat.mul_add, Nat.mul_comm, Nat.mul_left_comm]; omega
    rw [e]; exact Nat.le_add_right _ _
  have h2 : (H * B + u2) * D + ur < (H + 1) * (B * D) := by
    have e : (H + 1) * (B * D) = (H * B + B) * D := by
      simp only [Nat.mul_add, Nat.mul_comm, Nat.mul_left_comm, Nat.mul_one]
    rw [e]
    have h3 : (H * B + u2 + 1) * D ≤ (H * B + B) * D := Nat.mul_le_mul_right _ (by omega)
    rw [Nat.add_mul, Nat.one_mul] at h3
    omega
  have h4 : q * v1 * (B * D) < (H + 1) * (B * D) := by omega
  have := Nat.lt_of_mul_lt_mul_right h4
  omega
theorem guess_dec {q v1 v2 H rest B D u2 ur vr : Nat} (h : q * v1 + rest = H) (h2 : rest * B + u2 < q * v2) (hur : ur < D) : (H * B + u2) * D + ur < q * ((v1 * B + v2) * D + vr) := by
  have e1 : q * (v1 * B + v2) = q * v1 * B + q * v2 := by
    simp only [Nat.mul_add, Nat.mul_comm, Nat.mul_left_comm]
  have e2 : H * B = q * v1 * B + rest * B := by rw [← h, Nat.add_mul]
  have h3 : (H * B + u2 + 1) * D ≤ q * (v1 * B + v2) * D := Nat.mul_le_mul_right _ (by omega)
  have e3 : q * ((v1 * B + v2) * D + vr) = q * (v1 * B + v2) * D + q * vr := by rw [Nat.mul_add, Nat.mul_assoc]
  rw [Nat.add_mul, Nat.one_mul] at h3
  omega
theorem guess_fin {q v1 v2 H rest B D u2 ur vr : Nat} (h : q * v1 + rest = H) (h2 : q * v2 ≤ rest * B + u2) (hq : q < B) (hv : 0 < v1) (hvr : vr < D) : q * ((v1 * B + v2) * D + vr) < (H * B + u2) * D + ur + ((v1 * B + v2) * D + vr) := by
  have e1 : q * (v1 * B + v2) = q * v1 * B + q * v2 := by
    simp only [Nat.mul_add, Nat.mul_comm, Nat.mul_left_comm]
  have e2 : H * B = q * v1 * B + rest * B := by rw [← h, Nat.add_mul]
  have h3 : q * (v1 * B + v2) * D ≤ (H * B + u2) * D := Nat.mul_le_mul_right _ (by omega)
  have e3 : q * ((v1 * B + v2) * D + vr) = q * (v1 * B + v2) * D + q * vr := by rw [Nat.mul_add, Nat.mul_assoc]
  have h4 : q * vr < B * D := Nat.lt_of_le_of_lt (Nat.mul_le_mul_left q (Nat.le_of_lt hvr)) (Nat.mul_lt_mul_of_pos_right hq (by omega))
  have h5 : B * D ≤ (v1 * B + v2) * D := Nat.mul_le_mul_right _ (by have := Nat.mul_le_mul_right B hv; omega)
  omega
theorem guess_eq {q U V : Nat} (hV : 0 < V) (h1 : U / V ≤ q) (h2 : q * V < U + V) : q = U / V ∨ q = U / V + 1 := by
  have h3 := Nat.div_mul_le_self U V
  have h4 : q < U / V + 2 := by
    rw [← Nat.mul_lt_mul_right hV]
    have h5 := Nat.lt_div_mul_add (a := U) hV
    rw [Nat.add_mul]
    omega
  omega
theorem sub_step {q d u low c c' bo bo' r i R P S : Nat} (h : S + 4294967296 ^ i * (bo + c) = R + q * P) (hc : c + q * d = low + 4294967296 * c') (hr : u + 4294967296 * bo' = r + low + bo) :
    (S + 4294967296 ^ i * u) + 4294967296 ^ (i + 1) * (bo' + c') = (R + 4294967296 ^ i * r) + q * (P + 4294967296 ^ i * d) := by
  rw [Nat.pow_succ]
  generalize 4294967296 ^ i = K at *
  have e1 : K * c + K * (q * d) = K * low + K * (4294967296 * c') := by rw [← Nat.mul_add, hc, Nat.mul_add]
  have e2 : K * u + K * (4294967296 * bo') = K * r + K * low + K * bo := by rw [← Nat.mul_add, hr, Nat.mul_add, Nat.mul_add]
  have e3 : K * 4294967296 * (bo' + c') = K * (4294967296 * bo') + K * (4294967296 * c') := by rw [Nat.mul_assoc, Nat.mul_add, Nat.mul_add]
  have e4 : q * (P + K * d) = q * P + K * (q * d) := by rw [Nat.mul_add, Nat.mul_left_comm]
  have e5 : K * (bo + c) = K * bo + K * c := Nat.mul_add _ _ _
  omega
theorem carry_le {q d c : Nat} (hd : d < 4294967296) (hc : c ≤ q) : (c + q * d) / 4294967296 ≤ q := by
  apply Nat.le_of_lt_succ
  rw [Nat.div_lt_iff_lt_mul (by decide)]
  have : q * d ≤ q * 4294967295 := Nat.mul_le_mul_left q (by omega)
  omega
end Go.Proofs.YtlcmhbkmpkcajaaGreatDoor
