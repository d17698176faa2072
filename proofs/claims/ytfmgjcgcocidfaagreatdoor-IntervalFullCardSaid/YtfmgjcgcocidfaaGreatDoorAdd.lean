/-
  Integers: Add, Sub.
-/
import Derived.Test.YtfmgjcgcocidfaaGreatDoorMinus
namespace Go.Proofs.YtfmgjcgcocidfaaGreatDoor
open Go.RowKit

theorem blk2v {w : World} {b : Nat} {x y : Value} {T : TypeId} (h : Blk w b #[x, y] T) : (w.cell? ⟨b, 0, none⟩ = some x ∧ w.cell? ⟨b, 1, none⟩ = some y) ∧ w.frozen? ⟨b, 0, none⟩ = false ∧ w.frozen? ⟨b, 1, none⟩ = false :=
  ⟨⟨h.cell 0, h.cell 1⟩, h.free 0, h.free 1⟩
theorem cmpN_ge {a b : Nat} (h : b ≤ a) : 0 ≤ cmpN a b := by unfold cmpN; split <;> first | omega | (split <;> omega)
theorem cmpN_lt {a b : Nat} (h : a < b) : ¬ 0 ≤ cmpN a b := by unfold cmpN; rw [if_pos h]; decide

set_option maxHeartbeats 8000000 in
set_option maxRecDepth 100000 in
theorem add_any (u v : Value) (y z : Int) (w : World) (h : IntV w u y) (h' : IntV w v z) (hl1 : (limbs y.natAbs).length < 1000000) (hl2 : (limbs z.natAbs).length < 1000000) :
    Calls Tryz.prog 54 #[u, v] w (RetP (fun r w' => IntV w' r (y + z)) w) := by
  obtain ⟨a, c, rfl, hl⟩ := h
  obtain ⟨a', c', rfl, hl'⟩ := h'
  have hK := below3 w (.cells #[.bool (decide (y < 0)), .slice a (limbs y.natAbs).length c] 48) (.cells #[.bool (decide (z < 0)), .slice a' (limbs z.natAbs).length c'] 48) (.cells #[.bool false, .slice none 0 0] 48)
  have hA : Blk (((w.alloc (.cells #[.bool (decide (y < 0)), .slice a (limbs y.natAbs).length c] 48)).alloc (.cells #[.bool (decide (z < 0)), .slice a' (limbs z.natAbs).length c'] 48)).alloc (.cells #[.bool false, .slice none 0 0] 48)) w.heap.size #[.bool (decide (y < 0)), .slice a (limbs y.natAbs).length c] 48 := ((Blk.new w _ _).old _).old _
  have hB : Blk (((w.alloc (.cells #[.bool (decide (y < 0)), .slice a (limbs y.natAbs).length c] 48)).alloc (.cells #[.bool (decide (z < 0)), .slice a' (limbs z.natAbs).length c'] 48)).alloc (.cells #[.bool false, .slice none 0 0] 48)) (w.heap.size + 1) #[.bool (decide (z < 0)), .slice a' (limbs z.natAbs).length c'] 48 := by
    have h := (Blk.new (w.alloc (.cells #[.bool (decide (y < 0)), .slice a (limbs y.natAbs).length c] 48)) #[.bool (decide (z < 0)), .slice a' (limbs z.natAbs).length c'] 48).old (.cells #[.bool false, .slice none 0 0] 48)
    simpa using h
  have hR : Blk (((w.alloc (.cells #[.bool (decide (y < 0)), .slice a (limbs y.natAbs).length c] 48)).alloc (.cells #[.bool (decide (z < 0)), .slice a' (limbs z.natAbs).length c'] 48)).alloc (.cells #[.bool false, .slice none 0 0] 48)) (w.heap.size + 1 + 1) #[.bool false, .slice none 0 0] 48 := by
    have h := Blk.new ((w.alloc (.cells #[.bool (decide (y < 0)), .slice a (limbs y.natAbs).length c] 48)).alloc (.cells #[.bool (decide (z < 0)), .slice a' (limbs z.natAbs).length c'] 48)) #[.bool false, .slice none 0 0] 48
    simpa using h
  have HL := Lib.hid (fun w' (h : Below w.heap.size w w') => hl.mono h)
  have HL' := Lib.hid (fun w' (h : Below w.heap.size w w') => hl'.mono h)
  have HK := Lib.hid hK
  have HA := Lib.hid hA
  have HB := Lib.hid hB
  have HR := Lib.hid hR
  have HO := Lib.hid (fun w' (h : Below w.heap.size w w') => order_any _ _ _ _ _ _ _ _ w' (hl.mono h) (hl'.mono h))
  obtain ⟨Y, hY⟩ : ∃ Y, y.natAbs = Y := ⟨_, rfl⟩
  obtain ⟨Zn, hZ⟩ : ∃ Zn, z.natAbs = Zn := ⟨_, rfl⟩
  rw [hY] at hl1 HL HA HB HR HO HK
  rw [hZ] at hl2 HL' HA HB HR HO HK
  have HP := Lib.hid (fun w' (h : Below w.heap.size w w') => plus_any _ _ _ _ _ _ _ _ w' (HL.out w' h) (HL'.out w' h) (limbs_dg Y) (limbs_dg Zn) hl1 hl2)
  have HM1 := Lib.hid (fun w' (h : Below w.heap.size w w') (hle : Zn ≤ Y) => minus_any _ _ _ _ _ _ _ _ w' (HL.out w' h) (HL'.out w' h) (limbs_dg Y) (limbs_dg Zn) hl1 (limbs_len_le hle) (by rw [natL_limbs, natL_limbs]; exact hle))
  have HM2 := Lib.hid (fun w' (h : Below w.heap.size w w') (hle : Y ≤ Zn) => minus_any _ _ _ _ _ _ _ _ w' (HL'.out w' h) (HL.out w' h) (limbs_dg Zn) (limbs_dg Y) hl2 (limbs_len_le hle) (by rw [natL_limbs, natL_limbs]; exact hle))
  rw [natL_limbs, natL_limbs] at HP HM1 HM2
  rw [hY, hZ]
  have HY := Lib.hid hY
  have HZ := Lib.hid hZ
  have hkk1 : (limbs Y).length = (limbs Y).length := rfl
  clear hl hl' hK hA hB hR HL HL' hY hZ hkk1
  generalize (limbs Y).length = k at *
  generalize (limbs Zn).length = k' at *
  by_cases hy : y < 0 <;> by_cases hz : z < 0
  · rw [decide_eq_true hy, decide_eq_true hz] at *
    have HSc := Lib.hid (fun w' (h : Below (((w.alloc (.cells #[.bool true, .slice a k c] 48)).alloc (.cells #[.bool true, .slice a' k' c'] 48)).alloc (.cells #[.bool false, .slice none 0 0] 48)).heap.size (((w.alloc (.cells #[.bool true, .slice a k c] 48)).alloc (.cells #[.bool true, .slice a' k' c'] 48)).alloc (.cells #[.bool false, .slice none 0 0] 48)) w') => And.intro (HA.out.below h |> blk2v).1.1 (And.intro (HA.out.below h |> blk2v).1.2 (And.intro (HB.out.below h |> blk2v).1.1 (HB.out.below h |> blk2v).1.2)))
    go_enter Tryz.func54, Tryz.ntmps54
    have hbs : Below (((w.alloc (.cells #[.bool true, .slice a k c] 48)).alloc (.cells #[.bool true, .slice a' k' c'] 48)).alloc (.cells #[.bool false, .slice none 0 0] 48)).heap.size (((w.alloc (.cells #[.bool true, .slice a k c] 48)).alloc (.cells #[.bool true, .slice a' k' c'] 48)).alloc (.cells #[.bool false, .slice none 0 0] 48)) (((w.alloc (.cells #[.bool true, .slice a k c] 48)).alloc (.cells #[.bool true, .slice a' k' c'] 48)).alloc (.cells #[.bool false, .slice none 0 0] 48)) := Below.refl _ _
    go_wp2_with fail
    refine wp_region_pop (S := (fun w' => w'.cell? ⟨w.heap.size, 0, none⟩ = some (.bool true) ∧ w'.cell? ⟨w.heap.size, 1, none⟩ = some (.slice a k c) ∧ w'.cell? ⟨w.heap.size + 1, 0, none⟩ = some (.bool true) ∧ w'.cell? ⟨w.heap.size + 1, 1, none⟩ = some (.slice a' k' c'))) 8 (by kernel_rfl) (by kernel_rfl) (by exact HSc.out _ (hbs.dn 1)) (fun hHeld => ?_)
    simp only [List.take_succ_cons, List.take_zero, List.drop_succ_cons, List.drop_zero]
    refine wpAnyH_take (i := 0) (v := ?v1) rfl (by kernel_rfl) (by kernel_rfl) (by kernel_rfl) (fun _ _ _ h => h) (Or.inl ⟨by rfl, ?hy1⟩) (by assumption) ?rest1
    case hy1 => (intro w hSw; (try dsimp only at hSw); go_simp; try (with_reducible rfl))
    try simp only [Act.put, List.getElem_toArray, List.getElem_cons_zero, List.getElem_cons_succ, List.setIfInBounds_toArray, List.set_cons_zero, List.set_cons_succ]
    refine wpAnyH_take (i := 1) (v := ?v2) rfl (by kernel_rfl) (by kernel_rfl) (by kernel_rfl) (fun _ _ _ h => h) (Or.inl ⟨by rfl, ?hy2⟩) (by assumption) ?rest2
    case hy2 => (intro w hSw; (try dsimp only at hSw); go_simp; try (with_reducible rfl))
    try simp only [Act.put, List.getElem_toArray, List.getElem_cons_zero, List.getElem_cons_succ, List.setIfInBounds_toArray, List.set_cons_zero, List.set_cons_succ]
    refine wpAnyH_take (i := 2) (v := ?v3) rfl (by kernel_rfl) (by kernel_rfl) (by kernel_rfl) (fun _ _ _ h => h) (Or.inl ⟨by rfl, ?hy3⟩) (by assumption) ?rest3
    case hy3 => (intro w hSw; (try dsimp only at hSw); go_simp; try (with_reducible rfl))
    try simp only [Act.put, List.getElem_toArray, List.getElem_cons_zero, List.getElem_cons_succ, List.setIfInBounds_toArray, List.set_cons_zero, List.set_cons_succ]
    refine wpAnyH_take (i := 3) (v := ?v4) rfl (by kernel_rfl) (by kernel_rfl) (by kernel_rfl) (fun _ _ _ h => h) (Or.inl ⟨by rfl, ?hy4⟩) (by assumption) ?rest4
    case hy4 => (intro w hSw; (try dsimp only at hSw); go_simp; try (with_reducible rfl))
    try simp only [Act.put, List.getElem_toArray, List.getElem_cons_zero, List.getElem_cons_succ, List.setIfInBounds_toArray, List.set_cons_zero, List.set_cons_succ]
    refine wpAnyH_take (i := 4) (v := ?v5) rfl (by kernel_rfl) (by kernel_rfl) (by kernel_rfl) (fun _ _ _ h => h) (Or.inl ⟨by rfl, ?hy5⟩) (by assumption) ?rest5
    case hy5 => (intro w hSw; (try dsimp only at hSw); go_simp; try (with_reducible rfl))
    try simp only [Act.put, List.getElem_toArray, List.getElem_cons_zero, List.getElem_cons_succ, List.setIfInBounds_toArray, List.set_cons_zero, List.set_cons_succ]
    refine wpAnyH_take (i := 5) (v := ?v6) rfl (by kernel_rfl) (by kernel_rfl) (by kernel_rfl) (fun _ _ _ h => h) (Or.inl ⟨by rfl, ?hy6⟩) (by assumption) ?rest6
    case hy6 => (intro w hSw; (try dsimp only at hSw); go_simp; try (with_reducible rfl))
    try simp only [Act.put, List.getElem_toArray, List.getElem_cons_zero, List.getElem_cons_succ, List.setIfInBounds_toArray, List.set_cons_zero, List.set_cons_succ]
    refine wpAnyH_ready (rs := [6]) (by kernel_rfl) (by simp) ?_
    refine AllReadyH.cons rfl (fun K hK => ?_) AllReadyH.nil
    go_simp
    go_at_call 83
    refine (HP.out _ (HK.out.via (hbs.dn 1) HK.out.size)).mono ?_
    rintro e2 w4 ⟨v4, rfl, ⟨xs, xa, xc, rfl, hxl, hxd, hxn, -⟩, hb4⟩
    have Hxl := Lib.hid hxl
    have Hxd := Lib.hid hxd
    have Hxn := Lib.hid hxn
    have Hb4 := Lib.hid (hbs.via (undrew hb4) hbs.size)
    clear hxl hxd hxn hb4
    refine hK.out _ _ (by exact HSc.out _ Hb4.out) (fun hHeld => ?_)
    clear hK K
    try simp only [Act.put, List.setIfInBounds_toArray, List.set_cons_zero, List.set_cons_succ]
    refine wpAnyH_ready (rs := [7]) (by kernel_rfl) (by simp) ?_
    refine AllReadyH.cons rfl (fun K hK => ?_) AllReadyH.nil
    go_simp
    go_at_call 82
    refine (signed_any _ _ _ _ xs _ Hxl.out Hxd.out).mono ?_
    rintro e2 w5 ⟨v5, rfl, hv5, hb5⟩
    rw [Hxn.out] at hv5
    obtain ⟨x5, a5, k5, c5, rfl, hv5⟩ := hv5.open
    have Hv5 := Lib.hid hv5
    have Hb5 := Lib.hid (Hb4.out.via hb5 Hb4.out.size)
    clear hv5 hb5
    refine hK.out _ _ (by exact HSc.out _ Hb5.out) (fun hHeld => ?_)
    clear hK K
    try simp only [Act.put, List.setIfInBounds_toArray, List.set_cons_zero, List.set_cons_succ]
    refine wpAnyH_done (by kernel_rfl) ?_ _
    simp only [Exit.then]
    have hr := HR.out.below Hb5.out
    obtain ⟨⟨r0, r1⟩, f0, f1⟩ := blk2v hr
    obtain ⟨hv6, hb6⟩ := IntV.put2 Hv5.out hr
    have Hv6 := Lib.hid hv6
    have Hb6 := Lib.hid hb6
    have hbel := ((HK.out.via Hb5.out HK.out.size).setCell (p := ⟨w.heap.size + 1 + 1, 0, none⟩) (by show w.heap.size ≤ w.heap.size + 1 + 1; omega) (.bool x5)).setCell (p := ⟨w.heap.size + 1 + 1, 1, none⟩) (by show w.heap.size ≤ w.heap.size + 1 + 1; omega) (.slice a5 k5 c5)
    have Hbel := Lib.hid hbel
    clear hr hv6 hb6 hbel
    go_wp2_with fail
    obtain ⟨⟨q0, q1⟩, -⟩ := blk2v Hb6.out
    refine bodyPost_ret (v := .agg #[.bool x5, .slice a5 k5 c5]) (by simp [results, Tryz.results54, go_sem, q0, q1]) rfl ⟨_, rfl, ?_, Hbel.out⟩
    have hfin : sgn true (Y + Zn) = y + z := by have := HY.out; have := HZ.out; simp only [sgn, if_true, Bool.false_eq_true, if_false]; omega
    rw [← hfin]
    exact Hv6.out
  · rw [decide_eq_true hy, decide_eq_false hz] at *
    have HSc := Lib.hid (fun w' (h : Below (((w.alloc (.cells #[.bool true, .slice a k c] 48)).alloc (.cells #[.bool false, .slice a' k' c'] 48)).alloc (.cells #[.bool false, .slice none 0 0] 48)).heap.size (((w.alloc (.cells #[.bool true, .slice a k c] 48)).alloc (.cells #[.bool false, .slice a' k' c'] 48)).alloc (.cells #[.bool false, .slice none 0 0] 48)) w') => And.intro (HA.out.below h |> blk2v).1.1 (And.intro (HA.out.below h |> blk2v).1.2 (And.intro (HB.out.below h |> blk2v).1.1 (HB.out.below h |> blk2v).1.2)))
    go_enter Tryz.func54, Tryz.ntmps54
    by_cases hle : Zn ≤ Y
    · have hcp := cmpN_ge hle
      go_wp2_with (go_at_call 81; refine (HO.out _ HK.out).mono ?_; rintro e w3 ⟨rfl, hbs⟩; obtain ⟨a0, a1, b0, b1⟩ := HSc.out w3 hbs)
      refine wp_region_pop (S := (fun w' => w'.cell? ⟨w.heap.size, 0, none⟩ = some (.bool true) ∧ w'.cell? ⟨w.heap.size, 1, none⟩ = some (.slice a k c) ∧ w'.cell? ⟨w.heap.size + 1, 0, none⟩ = some (.bool false) ∧ w'.cell? ⟨w.heap.size + 1, 1, none⟩ = some (.slice a' k' c'))) 8 (by kernel_rfl) (by kernel_rfl) (by exact HSc.out _ (hbs.dn 1)) (fun hHeld => ?_)
      simp only [List.take_succ_cons, List.take_zero, List.drop_succ_cons, List.drop_zero]
      refine wpAnyH_take (i := 0) (v := ?v7) rfl (by kernel_rfl) (by kernel_rfl) (by kernel_rfl) (fun _ _ _ h => h) (Or.inl ⟨by rfl, ?hy7⟩) (by assumption) ?rest7
      case hy7 => (intro w hSw; (try dsimp only at hSw); go_simp; try (with_reducible rfl))
      try simp only [Act.put, List.getElem_toArray, List.getElem_cons_zero, List.getElem_cons_succ, List.setIfInBounds_toArray, List.set_cons_zero, List.set_cons_succ]
      refine wpAnyH_take (i := 1) (v := ?v8) rfl (by kernel_rfl) (by kernel_rfl) (by kernel_rfl) (fun _ _ _ h => h) (Or.inl ⟨by rfl, ?hy8⟩) (by assumption) ?rest8
      case hy8 => (intro w hSw; (try dsimp only at hSw); go_simp; try (with_reducible rfl))
      try simp only [Act.put, List.getElem_toArray, List.getElem_cons_zero, List.getElem_cons_succ, List.setIfInBounds_toArray, List.set_cons_zero, List.set_cons_succ]
      refine wpAnyH_take (i := 2) (v := ?v9) rfl (by kernel_rfl) (by kernel_rfl) (by kernel_rfl) (fun _ _ _ h => h) (Or.inl ⟨by rfl, ?hy9⟩) (by assumption) ?rest9
      case hy9 => (intro w hSw; (try dsimp only at hSw); go_simp; try (with_reducible rfl))
      try simp only [Act.put, List.getElem_toArray, List.getElem_cons_zero, List.getElem_cons_succ, List.setIfInBounds_toArray, List.set_cons_zero, List.set_cons_succ]
      refine wpAnyH_take (i := 3) (v := ?v10) rfl (by kernel_rfl) (by kernel_rfl) (by kernel_rfl) (fun _ _ _ h => h) (Or.inl ⟨by rfl, ?hy10⟩) (by assumption) ?rest10
      case hy10 => (intro w hSw; (try dsimp only at hSw); go_simp; try (with_reducible rfl))
      try simp only [Act.put, List.getElem_toArray, List.getElem_cons_zero, List.getElem_cons_succ, List.setIfInBounds_toArray, List.set_cons_zero, List.set_cons_succ]
      refine wpAnyH_take (i := 4) (v := ?v11) rfl (by kernel_rfl) (by kernel_rfl) (by kernel_rfl) (fun _ _ _ h => h) (Or.inl ⟨by rfl, ?hy11⟩) (by assumption) ?rest11
      case hy11 => (intro w hSw; (try dsimp only at hSw); go_simp; try (with_reducible rfl))
      try simp only [Act.put, List.getElem_toArray, List.getElem_cons_zero, List.getElem_cons_succ, List.setIfInBounds_toArray, List.set_cons_zero, List.set_cons_succ]
      refine wpAnyH_take (i := 5) (v := ?v12) rfl (by kernel_rfl) (by kernel_rfl) (by kernel_rfl) (fun _ _ _ h => h) (Or.inl ⟨by rfl, ?hy12⟩) (by assumption) ?rest12
      case hy12 => (intro w hSw; (try dsimp only at hSw); go_simp; try (with_reducible rfl))
      try simp only [Act.put, List.getElem_toArray, List.getElem_cons_zero, List.getElem_cons_succ, List.setIfInBounds_toArray, List.set_cons_zero, List.set_cons_succ]
      refine wpAnyH_ready (rs := [6]) (by kernel_rfl) (by simp) ?_
      refine AllReadyH.cons rfl (fun K hK => ?_) AllReadyH.nil
      go_simp
      go_at_call 84
      refine (HM1.out _ (HK.out.via (hbs.dn 1) HK.out.size) hle).mono ?_
      rintro e2 w4 ⟨v4, rfl, ⟨xs, xa, xc, rfl, hxl, hxd, hxn, -⟩, hb4⟩
      have Hxl := Lib.hid hxl
      have Hxd := Lib.hid hxd
      have Hxn := Lib.hid hxn
      have Hb4 := Lib.hid (hbs.via (undrew hb4) hbs.size)
      clear hxl hxd hxn hb4
      refine hK.out _ _ (by exact HSc.out _ Hb4.out) (fun hHeld => ?_)
      clear hK K
      try simp only [Act.put, List.setIfInBounds_toArray, List.set_cons_zero, List.set_cons_succ]
      refine wpAnyH_ready (rs := [7]) (by kernel_rfl) (by simp) ?_
      refine AllReadyH.cons rfl (fun K hK => ?_) AllReadyH.nil
      go_simp
      go_at_call 82
      refine (signed_any _ _ _ _ xs _ Hxl.out Hxd.out).mono ?_
      rintro e2 w5 ⟨v5, rfl, hv5, hb5⟩
      rw [Hxn.out] at hv5
      obtain ⟨x5, a5, k5, c5, rfl, hv5⟩ := hv5.open
      have Hv5 := Lib.hid hv5
      have Hb5 := Lib.hid (Hb4.out.via hb5 Hb4.out.size)
      clear hv5 hb5
      refine hK.out _ _ (by exact HSc.out _ Hb5.out) (fun hHeld => ?_)
      clear hK K
      try simp only [Act.put, List.setIfInBounds_toArray, List.set_cons_zero, List.set_cons_succ]
      refine wpAnyH_done (by kernel_rfl) ?_ _
      simp only [Exit.then]
      have hr := HR.out.below Hb5.out
      obtain ⟨⟨r0, r1⟩, f0, f1⟩ := blk2v hr
      obtain ⟨hv6, hb6⟩ := IntV.put2 Hv5.out hr
      have Hv6 := Lib.hid hv6
      have Hb6 := Lib.hid hb6
      have hbel := ((HK.out.via Hb5.out HK.out.size).setCell (p := ⟨w.heap.size + 1 + 1, 0, none⟩) (by show w.heap.size ≤ w.heap.size + 1 + 1; omega) (.bool x5)).setCell (p := ⟨w.heap.size + 1 + 1, 1, none⟩) (by show w.heap.size ≤ w.heap.size + 1 + 1; omega) (.slice a5 k5 c5)
      have Hbel := Lib.hid hbel
      clear hr hv6 hb6 hbel
      go_wp2_with fail
      obtain ⟨⟨q0, q1⟩, -⟩ := blk2v Hb6.out
      refine bodyPost_ret (v := .agg #[.bool x5, .slice a5 k5 c5]) (by simp [results, Tryz.results54, go_sem, q0, q1]) rfl ⟨_, rfl, ?_, Hbel.out⟩
      have hfin : sgn true (Y - Zn) = y + z := by have := HY.out; have := HZ.out; simp only [sgn, if_true, Bool.false_eq_true, if_false]; omega
      rw [← hfin]
      exact Hv6.out
    · have hcp := cmpN_lt (Nat.lt_of_not_le hle)
      go_wp2_with (go_at_call 81; refine (HO.out _ HK.out).mono ?_; rintro e w3 ⟨rfl, hbs⟩; obtain ⟨a0, a1, b0, b1⟩ := HSc.out w3 hbs)
      refine wp_region_pop (S := (fun w' => w'.cell? ⟨w.heap.size, 0, none⟩ = some (.bool true) ∧ w'.cell? ⟨w.heap.size, 1, none⟩ = some (.slice a k c) ∧ w'.cell? ⟨w.heap.size + 1, 0, none⟩ = some (.bool false) ∧ w'.cell? ⟨w.heap.size + 1, 1, none⟩ = some (.slice a' k' c'))) 8 (by kernel_rfl) (by kernel_rfl) (by exact HSc.out _ (hbs.dn 1)) (fun hHeld => ?_)
      simp only [List.take_succ_cons, List.take_zero, List.drop_succ_cons, List.drop_zero]
      refine wpAnyH_take (i := 0) (v := ?v13) rfl (by kernel_rfl) (by kernel_rfl) (by kernel_rfl) (fun _ _ _ h => h) (Or.inl ⟨by rfl, ?hy13⟩) (by assumption) ?rest13
      case hy13 => (intro w hSw; (try dsimp only at hSw); go_simp; try (with_reducible rfl))
      try simp only [Act.put, List.getElem_toArray, List.getElem_cons_zero, List.getElem_cons_succ, List.setIfInBounds_toArray, List.set_cons_zero, List.set_cons_succ]
      refine wpAnyH_take (i := 1) (v := ?v14) rfl (by kernel_rfl) (by kernel_rfl) (by kernel_rfl) (fun _ _ _ h => h) (Or.inl ⟨by rfl, ?hy14⟩) (by assumption) ?rest14
      case hy14 => (intro w hSw; (try dsimp only at hSw); go_simp; try (with_reducible rfl))
      try simp only [Act.put, List.getElem_toArray, List.getElem_cons_zero, List.getElem_cons_succ, List.setIfInBounds_toArray, List.set_cons_zero, List.set_cons_succ]
      refine wpAnyH_take (i := 2) (v := ?v15) rfl (by kernel_rfl) (by kernel_rfl) (by kernel_rfl) (fun _ _ _ h => h) (Or.inl ⟨by rfl, ?hy15⟩) (by assumption) ?rest15
      case hy15 => (intro w hSw; (try dsimp only at hSw); go_simp; try (with_reducible rfl))
      try simp only [Act.put, List.getElem_toArray, List.getElem_cons_zero, List.getElem_cons_succ, List.setIfInBounds_toArray, List.set_cons_zero, List.set_cons_succ]
      refine wpAnyH_take (i := 3) (v := ?v16) rfl (by kernel_rfl) (by kernel_rfl) (by kernel_rfl) (fun _ _ _ h => h) (Or.inl ⟨by rfl, ?hy16⟩) (by assumption) ?rest16
      case hy16 => (intro w hSw; (try dsimp only at hSw); go_simp; try (with_reducible rfl))
      try simp only [Act.put, List.getElem_toArray, List.getElem_cons_zero, List.getElem_cons_succ, List.setIfInBounds_toArray, List.set_cons_zero, List.set_cons_succ]
      refine wpAnyH_take (i := 4) (v := ?v17) rfl (by kernel_rfl) (by kernel_rfl) (by kernel_rfl) (fun _ _ _ h => h) (Or.inl ⟨by rfl, ?hy17⟩) (by assumption) ?rest17
      case hy17 => (intro w hSw; (try dsimp only at hSw); go_simp; try (with_reducible rfl))
      try simp only [Act.put, List.getElem_toArray, List.getElem_cons_zero, List.getElem_cons_succ, List.setIfInBounds_toArray, List.set_cons_zero, List.set_cons_succ]
      refine wpAnyH_take (i := 5) (v := ?v18) rfl (by kernel_rfl) (by kernel_rfl) (by kernel_rfl) (fun _ _ _ h => h) (Or.inl ⟨by rfl, ?hy18⟩) (by assumption) ?rest18
      case hy18 => (intro w hSw; (try dsimp only at hSw); go_simp; try (with_reducible rfl))
      try simp only [Act.put, List.getElem_toArray, List.getElem_cons_zero, List.getElem_cons_succ, List.setIfInBounds_toArray, List.set_cons_zero, List.set_cons_succ]
      refine wpAnyH_ready (rs := [6]) (by kernel_rfl) (by simp) ?_
      refine AllReadyH.cons rfl (fun K hK => ?_) AllReadyH.nil
      go_simp
      go_at_call 84
      refine (HM2.out _ (HK.out.via (hbs.dn 1) HK.out.size) (by omega)).mono ?_
      rintro e2 w4 ⟨v4, rfl, ⟨xs, xa, xc, rfl, hxl, hxd, hxn, -⟩, hb4⟩
      have Hxl := Lib.hid hxl
      have Hxd := Lib.hid hxd
      have Hxn := Lib.hid hxn
      have Hb4 := Lib.hid (hbs.via (undrew hb4) hbs.size)
      clear hxl hxd hxn hb4
      refine hK.out _ _ (by exact HSc.out _ Hb4.out) (fun hHeld => ?_)
      clear hK K
      try simp only [Act.put, List.setIfInBounds_toArray, List.set_cons_zero, List.set_cons_succ]
      refine wpAnyH_ready (rs := [7]) (by kernel_rfl) (by simp) ?_
      refine AllReadyH.cons rfl (fun K hK => ?_) AllReadyH.nil
      go_simp
      go_at_call 82
      refine (signed_any _ _ _ _ xs _ Hxl.out Hxd.out).mono ?_
      rintro e2 w5 ⟨v5, rfl, hv5, hb5⟩
      rw [Hxn.out] at hv5
      obtain ⟨x5, a5, k5, c5, rfl, hv5⟩ := hv5.open
      have Hv5 := Lib.hid hv5
      have Hb5 := Lib.hid (Hb4.out.via hb5 Hb4.out.size)
      clear hv5 hb5
      refine hK.out _ _ (by exact HSc.out _ Hb5.out) (fun hHeld => ?_)
      clear hK K
      try simp only [Act.put, List.setIfInBounds_toArray, List.set_cons_zero, List.set_cons_succ]
      refine wpAnyH_done (by kernel_rfl) ?_ _
      simp only [Exit.then]
      have hr := HR.out.below Hb5.out
      obtain ⟨⟨r0, r1⟩, f0, f1⟩ := blk2v hr
      obtain ⟨hv6, hb6⟩ := IntV.put2 Hv5.out hr
      have Hv6 := Lib.hid hv6
      have Hb6 := Lib.hid hb6
      have hbel := ((HK.out.via Hb5.out HK.out.size).setCell (p := ⟨w.heap.size + 1 + 1, 0, none⟩) (by show w.heap.size ≤ w.heap.size + 1 + 1; omega) (.bool x5)).setCell (p := ⟨w.heap.size + 1 + 1, 1, none⟩) (by show w.heap.size ≤ w.heap.size + 1 + 1; omega) (.slice a5 k5 c5)
      have Hbel := Lib.hid hbel
      clear hr hv6 hb6 hbel
      go_wp2_with fail
      obtain ⟨⟨q0, q1⟩, -⟩ := blk2v Hb6.out
      refine bodyPost_ret (v := .agg #[.bool x5, .slice a5 k5 c5]) (by simp [results, Tryz.results54, go_sem, q0, q1]) rfl ⟨_, rfl, ?_, Hbel.out⟩
      have hfin : sgn false (Zn - Y) = y + z := by have := HY.out; have := HZ.out; simp only [sgn, if_true, Bool.false_eq_true, if_false]; omega
      rw [← hfin]
      exact Hv6.out
  · rw [decide_eq_false hy, decide_eq_true hz] at *
    have HSc := Lib.hid (fun w' (h : Below (((w.alloc (.cells #[.bool false, .slice a k c] 48)).alloc (.cells #[.bool true, .slice a' k' c'] 48)).alloc (.cells #[.bool false, .slice none 0 0] 48)).heap.size (((w.alloc (.cells #[.bool false, .slice a k c] 48)).alloc (.cells #[.bool true, .slice a' k' c'] 48)).alloc (.cells #[.bool false, .slice none 0 0] 48)) w') => And.intro (HA.out.below h |> blk2v).1.1 (And.intro (HA.out.below h |> blk2v).1.2 (And.intro (HB.out.below h |> blk2v).1.1 (HB.out.below h |> blk2v).1.2)))
    go_enter Tryz.func54, Tryz.ntmps54
    by_cases hle : Zn ≤ Y
    · have hcp := cmpN_ge hle
      go_wp2_with (go_at_call 81; refine (HO.out _ HK.out).mono ?_; rintro e w3 ⟨rfl, hbs⟩; obtain ⟨a0, a1, b0, b1⟩ := HSc.out w3 hbs)
      refine wp_region_pop (S := (fun w' => w'.cell? ⟨w.heap.size, 0, none⟩ = some (.bool false) ∧ w'.cell? ⟨w.heap.size, 1, none⟩ = some (.slice a k c) ∧ w'.cell? ⟨w.heap.size + 1, 0, none⟩ = some (.bool true) ∧ w'.cell? ⟨w.heap.size + 1, 1, none⟩ = some (.slice a' k' c'))) 8 (by kernel_rfl) (by kernel_rfl) (by exact HSc.out _ (hbs.dn 1)) (fun hHeld => ?_)
      simp only [List.take_succ_cons, List.take_zero, List.drop_succ_cons, List.drop_zero]
      refine wpAnyH_take (i := 0) (v := ?v19) rfl (by kernel_rfl) (by kernel_rfl) (by kernel_rfl) (fun _ _ _ h => h) (Or.inl ⟨by rfl, ?hy19⟩) (by assumption) ?rest19
      case hy19 => (intro w hSw; (try dsimp only at hSw); go_simp; try (with_reducible rfl))
      try simp only [Act.put, List.getElem_toArray, List.getElem_cons_zero, List.getElem_cons_succ, List.setIfInBounds_toArray, List.set_cons_zero, List.set_cons_succ]
      refine wpAnyH_take (i := 1) (v := ?v20) rfl (by kernel_rfl) (by kernel_rfl) (by kernel_rfl) (fun _ _ _ h => h) (Or.inl ⟨by rfl, ?hy20⟩) (by assumption) ?rest20
      case hy20 => (intro w hSw; (try dsimp only at hSw); go_simp; try (with_reducible rfl))
      try simp only [Act.put, List.getElem_toArray, List.getElem_cons_zero, List.getElem_cons_succ, List.setIfInBounds_toArray, List.set_cons_zero, List.set_cons_succ]
      refine wpAnyH_take (i := 2) (v := ?v21) rfl (by kernel_rfl) (by kernel_rfl) (by kernel_rfl) (fun _ _ _ h => h) (Or.inl ⟨by rfl, ?hy21⟩) (by assumption) ?rest21
      case hy21 => (intro w hSw; (try dsimp only at hSw); go_simp; try (with_reducible rfl))
      try simp only [Act.put, List.getElem_toArray, List.getElem_cons_zero, List.getElem_cons_succ, List.setIfInBounds_toArray, List.set_cons_zero, List.set_cons_succ]
      refine wpAnyH_take (i := 3) (v := ?v22) rfl (by kernel_rfl) (by kernel_rfl) (by kernel_rfl) (fun _ _ _ h => h) (Or.inl ⟨by rfl, ?hy22⟩) (by assumption) ?rest22
      case hy22 => (intro w hSw; (try dsimp only at hSw); go_simp; try (with_reducible rfl))
      try simp only [Act.put, List.getElem_toArray, List.getElem_cons_zero, List.getElem_cons_succ, List.setIfInBounds_toArray, List.set_cons_zero, List.set_cons_succ]
      refine wpAnyH_take (i := 4) (v := ?v23) rfl (by kernel_rfl) (by kernel_rfl) (by kernel_rfl) (fun _ _ _ h => h) (Or.inl ⟨by rfl, ?hy23⟩) (by assumption) ?rest23
      case hy23 => (intro w hSw; (try dsimp only at hSw); go_simp; try (with_reducible rfl))
      try simp only [Act.put, List.getElem_toArray, List.getElem_cons_zero, List.getElem_cons_succ, List.setIfInBounds_toArray, List.set_cons_zero, List.set_cons_succ]
      refine wpAnyH_take (i := 5) (v := ?v24) rfl (by kernel_rfl) (by kernel_rfl) (by kernel_rfl) (fun _ _ _ h => h) (Or.inl ⟨by rfl, ?hy24⟩) (by assumption) ?rest24
      case hy24 => (intro w hSw; (try dsimp only at hSw); go_simp; try (with_reducible rfl))
      try simp only [Act.put, List.getElem_toArray, List.getElem_cons_zero, List.getElem_cons_succ, List.setIfInBounds_toArray, List.set_cons_zero, List.set_cons_succ]
      refine wpAnyH_ready (rs := [6]) (by kernel_rfl) (by simp) ?_
      refine AllReadyH.cons rfl (fun K hK => ?_) AllReadyH.nil
      go_simp
      go_at_call 84
      refine (HM1.out _ (HK.out.via (hbs.dn 1) HK.out.size) hle).mono ?_
      rintro e2 w4 ⟨v4, rfl, ⟨xs, xa, xc, rfl, hxl, hxd, hxn, -⟩, hb4⟩
      have Hxl := Lib.hid hxl
      have Hxd := Lib.hid hxd
      have Hxn := Lib.hid hxn
      have Hb4 := Lib.hid (hbs.via (undrew hb4) hbs.size)
      clear hxl hxd hxn hb4
      refine hK.out _ _ (by exact HSc.out _ Hb4.out) (fun hHeld => ?_)
      clear hK K
      try simp only [Act.put, List.setIfInBounds_toArray, List.set_cons_zero, List.set_cons_succ]
      refine wpAnyH_ready (rs := [7]) (by kernel_rfl) (by simp) ?_
      refine AllReadyH.cons rfl (fun K hK => ?_) AllReadyH.nil
      go_simp
      go_at_call 82
      refine (signed_any _ _ _ _ xs _ Hxl.out Hxd.out).mono ?_
      rintro e2 w5 ⟨v5, rfl, hv5, hb5⟩
      rw [Hxn.out] at hv5
      obtain ⟨x5, a5, k5, c5, rfl, hv5⟩ := hv5.open
      have Hv5 := Lib.hid hv5
      have Hb5 := Lib.hid (Hb4.out.via hb5 Hb4.out.size)
      clear hv5 hb5
      refine hK.out _ _ (by exact HSc.out _ Hb5.out) (fun hHeld => ?_)
      clear hK K
      try simp only [Act.put, List.setIfInBounds_toArray, List.set_cons_zero, List.set_cons_succ]
      refine wpAnyH_done (by kernel_rfl) ?_ _
      simp only [Exit.then]
      have hr := HR.out.below Hb5.out
      obtain ⟨⟨r0, r1⟩, f0, f1⟩ := blk2v hr
      obtain ⟨hv6, hb6⟩ := IntV.put2 Hv5.out hr
      have Hv6 := Lib.hid hv6
      have Hb6 := Lib.hid hb6
      have hbel := ((HK.out.via Hb5.out HK.out.size).setCell (p := ⟨w.heap.size + 1 + 1, 0, none⟩) (by show w.heap.size ≤ w.heap.size + 1 + 1; omega) (.bool x5)).setCell (p := ⟨w.heap.size + 1 + 1, 1, none⟩) (by show w.heap.size ≤ w.heap.size + 1 + 1; omega) (.slice a5 k5 c5)
      have Hbel := Lib.hid hbel
      clear hr hv6 hb6 hbel
      go_wp2_with fail
      obtain ⟨⟨q0, q1⟩, -⟩ := blk2v Hb6.out
      refine bodyPost_ret (v := .agg #[.bool x5, .slice a5 k5 c5]) (by simp [results, Tryz.results54, go_sem, q0, q1]) rfl ⟨_, rfl, ?_, Hbel.out⟩
      have hfin : sgn false (Y - Zn) = y + z := by have := HY.out; have := HZ.out; simp only [sgn, if_true, Bool.false_eq_true, if_false]; omega
      rw [← hfin]
      exact Hv6.out
    · have hcp := cmpN_lt (Nat.lt_of_not_le hle)
      go_wp2_with (go_at_call 81; refine (HO.out _ HK.out).mono ?_; rintro e w3 ⟨rfl, hbs⟩; obtain ⟨a0, a1, b0, b1⟩ := HSc.out w3 hbs)
      refine wp_region_pop (S := (fun w' => w'.cell? ⟨w.heap.size, 0, none⟩ = some (.bool false) ∧ w'.cell? ⟨w.heap.size, 1, none⟩ = some (.slice a k c) ∧ w'.cell? ⟨w.heap.size + 1, 0, none⟩ = some (.bool true) ∧ w'.cell? ⟨w.heap.size + 1, 1, none⟩ = some (.slice a' k' c'))) 8 (by kernel_rfl) (by kernel_rfl) (by exact HSc.out _ (hbs.dn 1)) (fun hHeld => ?_)
      simp only [List.take_succ_cons, List.take_zero, List.drop_succ_cons, List.drop_zero]
      refine wpAnyH_take (i := 0) (v := ?v25) rfl (by kernel_rfl) (by kernel_rfl) (by kernel_rfl) (fun _ _ _ h => h) (Or.inl ⟨by rfl, ?hy25⟩) (by assumption) ?rest25
      case hy25 => (intro w hSw; (try dsimp only at hSw); go_simp; try (with_reducible rfl))
      try simp only [Act.put, List.getElem_toArray, List.getElem_cons_zero, List.getElem_cons_succ, List.setIfInBounds_toArray, List.set_cons_zero, List.set_cons_succ]
      refine wpAnyH_take (i := 1) (v := ?v26) rfl (by kernel_rfl) (by kernel_rfl) (by kernel_rfl) (fun _ _ _ h => h) (Or.inl ⟨by rfl, ?hy26⟩) (by assumption) ?rest26
      case hy26 => (intro w hSw; (try dsimp only at hSw); go_simp; try (with_reducible rfl))
      try simp only [Act.put, List.getElem_toArray, List.getElem_cons_zero, List.getElem_cons_succ, List.setIfInBounds_toArray, List.set_cons_zero, List.set_cons_succ]
      refine wpAnyH_take (i := 2) (v := ?v27) rfl (by kernel_rfl) (by kernel_rfl) (by kernel_rfl) (fun _ _ _ h => h) (Or.inl ⟨by rfl, ?hy27⟩) (by assumption) ?rest27
      case hy27 => (intro w hSw; (try dsimp only at hSw); go_simp; try (with_reducible rfl))
      try simp only [Act.put, List.getElem_toArray, List.getElem_cons_zero, List.getElem_cons_succ, List.setIfInBounds_toArray, List.set_cons_zero, List.set_cons_succ]
      refine wpAnyH_take (i := 3) (v := ?v28) rfl (by kernel_rfl) (by kernel_rfl) (by kernel_rfl) (fun _ _ _ h => h) (Or.inl ⟨by rfl, ?hy28⟩) (by assumption) ?rest28
      case hy28 => (intro w hSw; (try dsimp only at hSw); go_simp; try (with_reducible rfl))
      try simp only [Act.put, List.getElem_toArray, List.getElem_cons_zero, List.getElem_cons_succ, List.setIfInBounds_toArray, List.set_cons_zero, List.set_cons_succ]
      refine wpAnyH_take (i := 4) (v := ?v29) rfl (by kernel_rfl) (by kernel_rfl) (by kernel_rfl) (fun _ _ _ h => h) (Or.inl ⟨by rfl, ?hy29⟩) (by assumption) ?rest29
      case hy29 => (intro w hSw; (try dsimp only at hSw); go_simp; try (with_reducible rfl))
      try simp only [Act.put, List.getElem_toArray, List.getElem_cons_zero, List.getElem_cons_succ, List.setIfInBounds_toArray, List.set_cons_zero, List.set_cons_succ]
      refine wpAnyH_take (i := 5) (v := ?v30) rfl (by kernel_rfl) (by kernel_rfl) (by kernel_rfl) (fun _ _ _ h => h) (Or.inl ⟨by rfl, ?hy30⟩) (by assumption) ?rest30
      case hy30 => (intro w hSw; (try dsimp only at hSw); go_simp; try (with_reducible rfl))
      try simp only [Act.put, List.getElem_toArray, List.getElem_cons_zero, List.getElem_cons_succ, List.setIfInBounds_toArray, List.set_cons_zero, List.set_cons_succ]
      refine wpAnyH_ready (rs := [6]) (by kernel_rfl) (by simp) ?_
      refine AllReadyH.cons rfl (fun K hK => ?_) AllReadyH.nil
      go_simp
      go_at_call 84
      refine (HM2.out _ (HK.out.via (hbs.dn 1) HK.out.size) (by omega)).mono ?_
      rintro e2 w4 ⟨v4, rfl, ⟨xs, xa, xc, rfl, hxl, hxd, hxn, -⟩, hb4⟩
      have Hxl := Lib.hid hxl
      have Hxd := Lib.hid hxd
      have Hxn := Lib.hid hxn
      have Hb4 := Lib.hid (hbs.via (undrew hb4) hbs.size)
      clear hxl hxd hxn hb4
      refine hK.out _ _ (by exact HSc.out _ Hb4.out) (fun hHeld => ?_)
      clear hK K
      try simp only [Act.put, List.setIfInBounds_toArray, List.set_cons_zero, List.set_cons_succ]
      refine wpAnyH_ready (rs := [7]) (by kernel_rfl) (by simp) ?_
      refine AllReadyH.cons rfl (fun K hK => ?_) AllReadyH.nil
      go_simp
      go_at_call 82
      refine (signed_any _ _ _ _ xs _ Hxl.out Hxd.out).mono ?_
      rintro e2 w5 ⟨v5, rfl, hv5, hb5⟩
      rw [Hxn.out] at hv5
      obtain ⟨x5, a5, k5, c5, rfl, hv5⟩ := hv5.open
      have Hv5 := Lib.hid hv5
      have Hb5 := Lib.hid (Hb4.out.via hb5 Hb4.out.size)
      clear hv5 hb5
      refine hK.out _ _ (by exact HSc.out _ Hb5.out) (fun hHeld => ?_)
      clear hK K
      try simp only [Act.put, List.setIfInBounds_toArray, List.set_cons_zero, List.set_cons_succ]
      refine wpAnyH_done (by kernel_rfl) ?_ _
      simp only [Exit.then]
      have hr := HR.out.below Hb5.out
      obtain ⟨⟨r0, r1⟩, f0, f1⟩ := blk2v hr
      obtain ⟨hv6, hb6⟩ := IntV.put2 Hv5.out hr
      have Hv6 := Lib.hid hv6
      have Hb6 := Lib.hid hb6
      have hbel := ((HK.out.via Hb5.out HK.out.size).setCell (p := ⟨w.heap.size + 1 + 1, 0, none⟩) (by show w.heap.size ≤ w.heap.size + 1 + 1; omega) (.bool x5)).setCell (p := ⟨w.heap.size + 1 + 1, 1, none⟩) (by show w.heap.size ≤ w.heap.size + 1 + 1; omega) (.slice a5 k5 c5)
      have Hbel := Lib.hid hbel
      clear hr hv6 hb6 hbel
      go_wp2_with fail
      obtain ⟨⟨q0, q1⟩, -⟩ := blk2v Hb6.out
      refine bodyPost_ret (v := .agg #[.bool x5, .slice a5 k5 c5]) (by simp [results, Tryz.results54, go_sem, q0, q1]) rfl ⟨_, rfl, ?_, Hbel.out⟩
      have hfin : sgn true (Zn - Y) = y + z := by have := HY.out; have := HZ.out; simp only [sgn, if_true, Bool.false_eq_true, if_false]; omega
      rw [← hfin]
      exact Hv6.out
  · rw [decide_eq_false hy, decide_eq_false hz] at *
    have HSc := Lib.hid (fun w' (h : Below (((w.alloc (.cells #[.bool false, .slice a k c] 48)).alloc (.cells #[.bool false, .slice a' k' c'] 48)).alloc (.cells #[.bool false, .slice none 0 0] 48)).heap.size (((w.alloc (.cells #[.bool false, .slice a k c] 48)).alloc (.cells #[.bool false, .slice a' k' c'] 48)).alloc (.cells #[.bool false, .slice none 0 0] 48)) w') => And.intro (HA.out.below h |> blk2v).1.1 (And.intro (HA.out.below h |> blk2v).1.2 (And.intro (HB.out.below h |> blk2v).1.1 (HB.out.below h |> blk2v).1.2)))
    go_enter Tryz.func54, Tryz.ntmps54
    have hbs : Below (((w.alloc (.cells #[.bool false, .slice a k c] 48)).alloc (.cells #[.bool false, .slice a' k' c'] 48)).alloc (.cells #[.bool false, .slice none 0 0] 48)).heap.size (((w.alloc (.cells #[.bool false, .slice a k c] 48)).alloc (.cells #[.bool false, .slice a' k' c'] 48)).alloc (.cells #[.bool false, .slice none 0 0] 48)) (((w.alloc (.cells #[.bool false, .slice a k c] 48)).alloc (.cells #[.bool false, .slice a' k' c'] 48)).alloc (.cells #[.bool false, .slice none 0 0] 48)) := Below.refl _ _
    go_wp2_with fail
    refine wp_region_pop (S := (fun w' => w'.cell? ⟨w.heap.size, 0, none⟩ = some (.bool false) ∧ w'.cell? ⟨w.heap.size, 1, none⟩ = some (.slice a k c) ∧ w'.cell? ⟨w.heap.size + 1, 0, none⟩ = some (.bool false) ∧ w'.cell? ⟨w.heap.size + 1, 1, none⟩ = some (.slice a' k' c'))) 8 (by kernel_rfl) (by kernel_rfl) (by exact HSc.out _ (hbs.dn 1)) (fun hHeld => ?_)
    simp only [List.take_succ_cons, List.take_zero, List.drop_succ_cons, List.drop_zero]
    refine wpAnyH_take (i := 0) (v := ?v31) rfl (by kernel_rfl) (by kernel_rfl) (by kernel_rfl) (fun _ _ _ h => h) (Or.inl ⟨by rfl, ?hy31⟩) (by assumption) ?rest31
    case hy31 => (intro w hSw; (try dsimp only at hSw); go_simp; try (with_reducible rfl))
    try simp only [Act.put, List.getElem_toArray, List.getElem_cons_zero, List.getElem_cons_succ, List.setIfInBounds_toArray, List.set_cons_zero, List.set_cons_succ]
    refine wpAnyH_take (i := 1) (v := ?v32) rfl (by kernel_rfl) (by kernel_rfl) (by kernel_rfl) (fun _ _ _ h => h) (Or.inl ⟨by rfl, ?hy32⟩) (by assumption) ?rest32
    case hy32 => (intro w hSw; (try dsimp only at hSw); go_simp; try (with_reducible rfl))
    try simp only [Act.put, List.getElem_toArray, List.getElem_cons_zero, List.getElem_cons_succ, List.setIfInBounds_toArray, List.set_cons_zero, List.set_cons_succ]
    refine wpAnyH_take (i := 2) (v := ?v33) rfl (by kernel_rfl) (by kernel_rfl) (by kernel_rfl) (fun _ _ _ h => h) (Or.inl ⟨by rfl, ?hy33⟩) (by assumption) ?rest33
    case hy33 => (intro w hSw; (try dsimp only at hSw); go_simp; try (with_reducible rfl))
    try simp only [Act.put, List.getElem_toArray, List.getElem_cons_zero, List.getElem_cons_succ, List.setIfInBounds_toArray, List.set_cons_zero, List.set_cons_succ]
    refine wpAnyH_take (i := 3) (v := ?v34) rfl (by kernel_rfl) (by kernel_rfl) (by kernel_rfl) (fun _ _ _ h => h) (Or.inl ⟨by rfl, ?hy34⟩) (by assumption) ?rest34
    case hy34 => (intro w hSw; (try dsimp only at hSw); go_simp; try (with_reducible rfl))
    try simp only [Act.put, List.getElem_toArray, List.getElem_cons_zero, List.getElem_cons_succ, List.setIfInBounds_toArray, List.set_cons_zero, List.set_cons_succ]
    refine wpAnyH_take (i := 4) (v := ?v35) rfl (by kernel_rfl) (by kernel_rfl) (by kernel_rfl) (fun _ _ _ h => h) (Or.inl ⟨by rfl, ?hy35⟩) (by assumption) ?rest35
    case hy35 => (intro w hSw; (try dsimp only at hSw); go_simp; try (with_reducible rfl))
    try simp only [Act.put, List.getElem_toArray, List.getElem_cons_zero, List.getElem_cons_succ, List.setIfInBounds_toArray, List.set_cons_zero, List.set_cons_succ]
    refine wpAnyH_take (i := 5) (v := ?v36) rfl (by kernel_rfl) (by kernel_rfl) (by kernel_rfl) (fun _ _ _ h => h) (Or.inl ⟨by rfl, ?hy36⟩) (by assumption) ?rest36
    case hy36 => (intro w hSw; (try dsimp only at hSw); go_simp; try (with_reducible rfl))
    try simp only [Act.put, List.getElem_toArray, List.getElem_cons_zero, List.getElem_cons_succ, List.setIfInBounds_toArray, List.set_cons_zero, List.set_cons_succ]
    refine wpAnyH_ready (rs := [6]) (by kernel_rfl) (by simp) ?_
    refine AllReadyH.cons rfl (fun K hK => ?_) AllReadyH.nil
    go_simp
    go_at_call 83
    refine (HP.out _ (HK.out.via (hbs.dn 1) HK.out.size)).mono ?_
    rintro e2 w4 ⟨v4, rfl, ⟨xs, xa, xc, rfl, hxl, hxd, hxn, -⟩, hb4⟩
    have Hxl := Lib.hid hxl
    have Hxd := Lib.hid hxd
    have Hxn := Lib.hid hxn
    have Hb4 := Lib.hid (hbs.via (undrew hb4) hbs.size)
    clear hxl hxd hxn hb4
    refine hK.out _ _ (by exact HSc.out _ Hb4.out) (fun hHeld => ?_)
    clear hK K
    try simp only [Act.put, List.setIfInBounds_toArray, List.set_cons_zero, List.set_cons_succ]
    refine wpAnyH_ready (rs := [7]) (by kernel_rfl) (by simp) ?_
    refine AllReadyH.cons rfl (fun K hK => ?_) AllReadyH.nil
    go_simp
    go_at_call 82
    refine (signed_any _ _ _ _ xs _ Hxl.out Hxd.out).mono ?_
    rintro e2 w5 ⟨v5, rfl, hv5, hb5⟩
    rw [Hxn.out] at hv5
    obtain ⟨x5, a5, k5, c5, rfl, hv5⟩ := hv5.open
    have Hv5 := Lib.hid hv5
    have Hb5 := Lib.hid (Hb4.out.via hb5 Hb4.out.size)
    clear hv5 hb5
    refine hK.out _ _ (by exact HSc.out _ Hb5.out) (fun hHeld => ?_)
    clear hK K
    try simp only [Act.put, List.setIfInBounds_toArray, List.set_cons_zero, List.set_cons_succ]
    refine wpAnyH_done (by kernel_rfl) ?_ _
    simp only [Exit.then]
    have hr := HR.out.below Hb5.out
    obtain ⟨⟨r0, r1⟩, f0, f1⟩ := blk2v hr
    obtain ⟨hv6, hb6⟩ := IntV.put2 Hv5.out hr
    have Hv6 := Lib.hid hv6
    have Hb6 := Lib.hid hb6
    have hbel := ((HK.out.via Hb5.out HK.out.size).setCell (p := ⟨w.heap.size + 1 + 1, 0, none⟩) (by show w.heap.size ≤ w.heap.size + 1 + 1; omega) (.bool x5)).setCell (p := ⟨w.heap.size + 1 + 1, 1, none⟩) (by show w.heap.size ≤ w.heap.size + 1 + 1; omega) (.slice a5 k5 c5)
    have Hbel := Lib.hid hbel
    clear hr hv6 hb6 hbel
    go_wp2_with fail
    obtain ⟨⟨q0, q1⟩, -⟩ := blk2v Hb6.out
    refine bodyPost_ret (v := .agg #[.bool x5, .slice a5 k5 c5]) (by simp [results, Tryz.results54, go_sem, q0, q1]) rfl ⟨_, rfl, ?_, Hbel.out⟩
    have hfin : sgn false (Y + Zn) = y + z := by have := HY.out; have := HZ.out; simp only [sgn, if_true, Bool.false_eq_true, if_false]; omega
    rw [← hfin]
    exact Hv6.out

end Go.Proofs.YtfmgjcgcocidfaaGreatDoor
