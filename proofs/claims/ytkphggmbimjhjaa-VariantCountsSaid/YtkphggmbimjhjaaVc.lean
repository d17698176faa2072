/-
  VariantCounts: the walk.
-/
import Derived.Test.YtkphggmbimjhjaaFat
import Derived.Test.YtkphggmbimjhjaaAll
import Derived.Test.YtkphggmbimjhjaaLit
import Derived.Test.YtkphggmbimjhjaaSame
import Derived.Test.YtkphggmbimjhjaaFst2
import Derived.Deep.CutBlock
import Derived.Deep.DeepCutAuto
namespace Go.Proofs.Ytkphggmbimjhjaa
open Go.RowKit

set_option maxHeartbeats 8000000 in
set_option maxRecDepth 100000 in
theorem counts_any (N : Int) (R D O : List (List Int)) (a2 a3 a4 a1 : Option Addr) (c2 c3 c4 c : Nat) (ch : List Lit1) (w : World) (h11 : Hid (∀ w, Calls Try.prog 11 #[] w (Ret (.bool true) w))) (hN0 : 0 ≤ N) (hN : N < 256)
    (hRr : ∀ r ∈ R, ∀ x ∈ r, -128 ≤ x ∧ x ≤ 127) (hDr : ∀ r ∈ D, ∀ x ∈ r, -128 ≤ x ∧ x ≤ 127) (hOr : ∀ r ∈ O, ∀ x ∈ r, -128 ≤ x ∧ x ≤ 127) (hR : M8 w (.slice a2 R.length c2) R) (hD : M8 w (.slice a3 D.length c3) D) (hO : M8 w (.slice a4 O.length c4) O) (hC : Lits w (.slice a1 ch.length c) ch) :
    Calls Try.prog 3 #[.agg #[.int .u8 N, .slice a2 R.length c2, .slice a3 D.length c3, .slice a4 O.length c4], .slice a1 ch.length c] w (Ret (.bool true) w) := by
  have HFa0 := Lib.hid (fun w2 ai ci ad cd (h2 : Below w.heap.size w w2) (hdim : Dims w2 (.slice ad 2 cd) baseDims) => family_any N R D O (.slice a2 R.length c2) (.slice a3 D.length c3) (.slice a4 O.length c4) ai ci ad cd w2 hN0 hN hRr hDr hOr (hR.mono h2) (hD.mono h2) (hO.mono h2) hdim)
  obtain ⟨k, Hk, hk1, hk6⟩ : ∃ k : Nat, Hid ((1 + N % 6).toNat = k) ∧ 1 ≤ k ∧ k ≤ 6 := ⟨_, Lib.hid rfl, by omega, by omega⟩
  rw [Hk.out] at HFa0
  have HC := Lib.hid hC
  obtain ⟨-, -, -, hcl, hcm⟩ := hC.open
  clear hRr hDr hOr hR hD hO hC hN0 hN Hk
  generalize hn : ch.length = n at *
  have Hn := Lib.hid hn
  generalize hn2 : R.length = n2 at *
  generalize hn3 : D.length = n3 at *
  generalize hn4 : O.length = n4 at *
  have Hn2 := Lib.hid hn2
  have Hn3 := Lib.hid hn3
  have Hn4 := Lib.hid hn4
  clear hn hn2 hn3 hn4
  by_cases hle : n ≤ 6
  · have hng : decide (6 < (n : Int)) = false := by simp; omega
    go_enter Try.func3, Try.ntmps3
    go_upto_region 4 with (go_at_call 11; refine (h11.out _).mono ?_; rintro e w1 ⟨rfl, hb1⟩)
    go_cut [5] (fun s5 wx => ∃ B ai ci ad cd a7 c7 a8 c8 a9 c9 a10 c10, s5 = .pointer (some ⟨B, 0, none⟩) ∧ FamAt wx B k R D O ai ci ad cd a7 c7 a8 c8 a9 c9 a10 c10 ∧ Below w.heap.size w wx)
    case first =>
      have hb0 := below1 w (.cells #[.int .u8 N, .slice a2 n2 c2, .slice a3 n3 c3, .slice a4 n4 c4] 24)
      have hbw : Below w.heap.size w w1 := hb0.via hb1 hb0.size
      have Hkin := Lib.hid (fun w' (h : Below w1.heap.size w1 w') => blk4 (((Blk.new w #[.int .u8 N, .slice a2 n2 c2, .slice a3 n3 c3, .slice a4 n4 c4] 24).below hb1).below h))
      have HFa := Lib.hid (fun w2 ai ci ad cd (h2 : Below w1.heap.size w1 w2) hdim => HFa0.out w2 ai ci ad cd (hbw.via h2 hbw.size) hdim)
      refine wp_region_pop (S := (fun w' => w'.cell? ⟨w.heap.size, 0, none⟩ = some (.int .u8 N) ∧ w'.cell? ⟨w.heap.size, 1, none⟩ = some (.slice a2 n2 c2) ∧ w'.cell? ⟨w.heap.size, 2, none⟩ = some (.slice a3 n3 c3) ∧ w'.cell? ⟨w.heap.size, 3, none⟩ = some (.slice a4 n4 c4))) 4 (by kernel_rfl) (by kernel_rfl) (by exact Hkin.out w1.drew (Below.refl _ _).drew) (fun hHeld => ?_)
      simp only [List.take_succ_cons, List.take_zero, List.drop_succ_cons, List.drop_zero]
      refine wpAnyH_take (i := 0) (v := ?v1) rfl (by kernel_rfl) (by kernel_rfl) (by kernel_rfl) (fun _ _ _ h => h) (Or.inl ⟨by rfl, ?hy1⟩) (by assumption) ?rest1
      case hy1 => (intro w hSw; (try dsimp only at hSw); go_simp; try (with_reducible rfl))
      try simp only [Act.put, List.getElem_toArray, List.getElem_cons_zero, List.setIfInBounds_toArray, List.set_cons_zero, List.set_cons_succ]
      refine wpAnyH_ready (rs := [1, 3]) (by kernel_rfl) (by simp) ?_
      refine AllReadyH.cons rfl (fun K hK => ?_) (AllReadyH.cons rfl (fun K hK => ?_) AllReadyH.nil)
      · go_simp
        go_at_call 13
        refine (plain_any _).mono ?_
        rintro e w2 ⟨ai, ci, ad, cd, rfl, hdim, hfr, hb2⟩
        have Hdim := Lib.hid hdim
        have Hfr := Lib.hid hfr
        clear hdim hfr
        have Hb2 := Lib.hid (show Below w1.heap.size w1 w2 from undrew hb2)
        have hk2 := Hkin.out w2 Hb2.out
        refine hK.out _ _ (by exact hk2) (fun hHeld => ?_)
        clear hK K
        try simp only [Act.put, List.setIfInBounds_toArray, List.set_cons_zero, List.set_cons_succ]
        refine wpAnyH_ready (rs := [2, 3]) (by kernel_rfl) (by simp) ?_
        refine AllReadyH.cons rfl (fun K hK => ?_) (AllReadyH.cons rfl (fun K hK => ?_) AllReadyH.nil)
        · go_simp
          go_at_call 12
          refine (HFa.out _ ai ci ad cd (by exact Hb2.out) (by exact Hdim.out)).mono ?_
          rintro e w3 ⟨a7, c7, a8, c8, a9, c9, a10, c10, rvk, rfl, hP⟩
          have HP := Lib.hid hP
          clear hP
          have Hb3 := Lib.hid (show Below w1.heap.size w1 w3 from (Hb2.out).via HP.out.below (Hb2.out).size)
          have hk3 := Hkin.out w3 Hb3.out
          refine hK.out _ _ (by exact hk3) (fun hHeld => ?_)
          clear hK K
          try simp only [Act.put, List.setIfInBounds_toArray, List.set_cons_zero, List.set_cons_succ]
          refine wpAnyH_ready (rs := [3]) (by kernel_rfl) (by simp) ?_
          refine AllReadyH.cons rfl (fun K hK => ?_) AllReadyH.nil
          go_simp
          refine hK.out _ _ (by exact Hkin.out _ (Hb3.out.alloc Hb3.out.size _)) (fun hHeld => ?_)
          clear hK K
          try simp only [Act.put, List.setIfInBounds_toArray, List.set_cons_zero, List.set_cons_succ]
          refine wpAnyH_done (by kernel_rfl) ?_ _
          simp only [Exit.then]
          go_wp2_with fail
          go_meet
          exact ⟨_, ai, ci, ad, cd, a7, c7, a8, c8, a9, c9, a10, c10, rfl, famAt_new HP.out hk6 Hdim.out, (hbw.via Hb3.out hbw.size).alloc (by have := hbw.size; have := Hb3.out.size; omega) _⟩
        · go_simp
          have HZ := Lib.hid (Blk.new w2 #[.string ⟨#[]⟩, .slice none 0 0, .slice none 0 0, .slice none 0 0, .slice none 0 0, .slice none 0 0, .slice none 0 0, .slice none 0 0, .slice none 0 0, .slice none 0 0] 41)
          refine hK.out _ _ (by exact Hkin.out _ (Hb2.out.alloc Hb2.out.size _)) (fun hHeld => ?_)
          clear hK K
          try simp only [Act.put, List.setIfInBounds_toArray, List.set_cons_zero, List.set_cons_succ]
          refine wpAnyH_ready (rs := [2]) (by kernel_rfl) (by simp) ?_
          refine AllReadyH.cons rfl (fun K hK => ?_) AllReadyH.nil
          go_simp
          go_at_call 12
          refine (HFa.out _ ai ci ad cd (by exact (Hb2.out.alloc Hb2.out.size _)) (by exact (Hdim.out.mono (below1 _ _)))).mono ?_
          rintro e w3 ⟨a7, c7, a8, c8, a9, c9, a10, c10, rvk, rfl, hP⟩
          have HP := Lib.hid hP
          clear hP
          have Hb3 := Lib.hid (show Below w1.heap.size w1 w3 from ((Hb2.out.alloc Hb2.out.size _)).via HP.out.below ((Hb2.out.alloc Hb2.out.size _)).size)
          have hk3 := Hkin.out w3 Hb3.out
          refine hK.out _ _ (by exact hk3) (fun hHeld => ?_)
          clear hK K
          try simp only [Act.put, List.setIfInBounds_toArray, List.set_cons_zero, List.set_cons_succ]
          refine wpAnyH_done (by kernel_rfl) ?_ _
          simp only [Exit.then]
          have HZ3 := Lib.hid (HZ.out.below HP.out.below)
          obtain ⟨z0, z1, z2, z3, z4, z5, z6, z7, z8, z9, r0, r1, r2, r3, r4, r5, r6, r7, r8, r9⟩ := blk10 HZ3.out
          go_wp2_with fail
          go_meet
          exact ⟨_, ai, ci, ad, cd, a7, c7, a8, c8, a9, c9, a10, c10, rfl, famAt_store HP.out hk6 HZ3.out (by simp) (Hdim.out.mono (below1 _ _)) (fun b hb => by have := dims_lt Hdim.out b hb; omega), below_set10 (hbw.via Hb3.out hbw.size) (by have := hbw.size; have := Hb2.out.size; omega) _ _ _ _ _ _ _ _ _ _⟩
      · go_simp
        have HZ1 := Lib.hid (Blk.new w1 #[.string ⟨#[]⟩, .slice none 0 0, .slice none 0 0, .slice none 0 0, .slice none 0 0, .slice none 0 0, .slice none 0 0, .slice none 0 0, .slice none 0 0, .slice none 0 0] 41)
        refine hK.out _ _ (by exact Hkin.out _ ((below1 w1 _).dn 1)) (fun hHeld => ?_)
        clear hK K
        try simp only [Act.put, List.setIfInBounds_toArray, List.set_cons_zero, List.set_cons_succ]
        refine wpAnyH_ready (rs := [1]) (by kernel_rfl) (by simp) ?_
        refine AllReadyH.cons rfl (fun K hK => ?_) AllReadyH.nil
        go_simp
        go_at_call 13
        refine (plain_any _).mono ?_
        rintro e w2 ⟨ai, ci, ad, cd, rfl, hdim, hfr, hb2⟩
        have Hdim := Lib.hid hdim
        have Hfr := Lib.hid hfr
        clear hdim hfr
        have Hb2 := Lib.hid (show Below w1.heap.size w1 w2 from (below1 w1 _).via (undrew hb2) (by simp))
        have hk2 := Hkin.out w2 Hb2.out
        refine hK.out _ _ (by exact hk2) (fun hHeld => ?_)
        clear hK K
        try simp only [Act.put, List.setIfInBounds_toArray, List.set_cons_zero, List.set_cons_succ]
        have HZ := Lib.hid (HZ1.out.below (undrew hb2))
        refine wpAnyH_ready (rs := [2]) (by kernel_rfl) (by simp) ?_
        refine AllReadyH.cons rfl (fun K hK => ?_) AllReadyH.nil
        go_simp
        go_at_call 12
        refine (HFa.out _ ai ci ad cd (by exact Hb2.out) (by exact Hdim.out)).mono ?_
        rintro e w3 ⟨a7, c7, a8, c8, a9, c9, a10, c10, rvk, rfl, hP⟩
        have HP := Lib.hid hP
        clear hP
        have Hb3 := Lib.hid (show Below w1.heap.size w1 w3 from (Hb2.out).via HP.out.below (Hb2.out).size)
        have hk3 := Hkin.out w3 Hb3.out
        refine hK.out _ _ (by exact hk3) (fun hHeld => ?_)
        clear hK K
        try simp only [Act.put, List.setIfInBounds_toArray, List.set_cons_zero, List.set_cons_succ]
        refine wpAnyH_done (by kernel_rfl) ?_ _
        simp only [Exit.then]
        have HZ3 := Lib.hid (HZ.out.below HP.out.below)
        obtain ⟨z0, z1, z2, z3, z4, z5, z6, z7, z8, z9, r0, r1, r2, r3, r4, r5, r6, r7, r8, r9⟩ := blk10 HZ3.out
        go_wp2_with fail
        go_meet
        exact ⟨_, ai, ci, ad, cd, a7, c7, a8, c8, a9, c9, a10, c10, rfl, famAt_store HP.out hk6 HZ3.out (by exact HZ.out.lt) Hdim.out (fun b hb => by have := Hfr.out b hb; simp at this; omega), below_set10 (hbw.via Hb3.out hbw.size) (by have := hbw.size; omega) _ _ _ _ _ _ _ _ _ _⟩
    case rest =>
      obtain ⟨B, ai, ci, ad, cd, a7, c7, a8, c8, a9, c9, a10, c10, rfl, hFA, hbw⟩ := hcut
      rename World => wx
      have HB := Lib.hid (fun w' (h : Below wx.heap.size wx w') => blk10 (hFA.blk.below h))
      have HF := Lib.hid (fun w' (h : Below wx.heap.size wx w') => hFA.fam.mono h)
      have HCx := Lib.hid (fun w' (h : Below wx.heap.size wx w') => (HC.out.mono hbw).mono h)
      have hcl2 : ch.length < 1000 := by have := Hn.out; omega
      have H14 := Lib.hid (fun w' (h : Below wx.heap.size wx w') => literals_any k ch (.slice a1 n c) w' (HCx.out w' h) hcl2)
      have hol : (optsTo k).length = k := optsTo_len k
      have Hbw := Lib.hid hbw
      clear hFA hbw
      by_cases he : litErr k ch = 0
      · rw [he] at H14
        have H15 := Lib.hid (fun w' (h : Below wx.heap.size wx w') => count_ok _ _ _ _ _ _ _ _ _ _ _ _ _ _ _ _ _ ch w' (HF.out w' h) (by rw [hol]; exact hk6) (HCx.out w' h) hcl2 (by rw [hol]; exact he))
        have H16 := Lib.hid (fun w' (h : Below wx.heap.size wx w') => first_ok _ _ _ _ _ _ _ _ _ _ _ _ _ _ _ _ _ ch w' (HF.out w' h) (by rw [hol]; exact hk6) (HCx.out w' h) hcl2 (by rw [hol]; exact he))
        rw [hol] at H15 H16
        have hlok : LitsOk k ch := litErr_ok he
        have hrl : (rulesTo k R (min R.length 6)).length = min R.length 6 := rulesTo_len _ _ _
        have hall := allowedL_nums k (by omega) hlok (rulesTo_lits (n := k) (R := R) (k := min R.length 6))
        have hvis := visL_nums k ch (rulesTo k R (min R.length 6))
        rw [hrl] at hall
        have H17 := Lib.hid (fun w' ov (h : Below wx.heap.size wx w') (ho : Bools w' ov (List.replicate (min R.length 6) false)) => allowed_any baseS nilV (.slice ai 3 ci) (.slice ad 2 cd) nilV nilV (.slice a7 k c7) (.slice a8 (min R.length 6) c8) (.slice a9 (min D.length 4) c9) (.slice a10 (min O.length 4) c10) ov (.slice a1 n c) a7 k c7 _ _ ch w' rfl hk6 (HF.out w' h).rul ho (HCx.out w' h) (rulesOk_of (HF.out w' h).ok) (hlok.le (by omega)) hcl2 (by rw [hrl, List.length_replicate]) (by rw [hrl]; omega))
        rw [hall] at H17
        have HBc := Lib.hid (fun w' (h : Below wx.heap.size wx w') => (blk10c (HB.out w' h)))
        have hm6 : min R.length 6 < 1000 := by omega
        generalize hnums : okNums k ch (rulesTo k R (min R.length 6)) = nums at *
        cases nums with
        | nil =>
          rw [List.map_nil] at hvis H17
          have HFV := Lib.hid (show ∀ v w', FirstV k ch (rulesTo k R (min R.length 6)) (optsTo k) v w' → v = nilV from fun v w' h => by unfold FirstV at h; rw [hvis] at h; exact h)
          rw [hvis] at H15 H16
          have e0 : ((([] : List Int).length : Nat) : Int) = 0 := rfl
          have e1 : (!([] : List Int).isEmpty) = false := rfl
          rw [e0] at H15
          rw [e1] at H16
          clear hvis hall he hlok hrl hol hnums e0 e1
          obtain ⟨z0, z1, z2, z3, z4, z5, z6, z7, z8, z9, -⟩ := HB.out wx (Below.refl _ _)
          go_wp2_with fail
          refine (H14.out _ (Below.refl _ _)).mono ?_
          rintro e2 w2 ⟨rfl, hb2⟩
          obtain ⟨y0, y1, y2, y3, y4, y5, y6, y7, y8, y9, -⟩ := HB.out w2 hb2
          go_wp2_with fail
          refine (H15.out _ hb2).mono ?_
          rintro e2 w3 ⟨rfl, hb3⟩
          have hb3 := hb2.via hb3 hb2.size
          obtain ⟨x0, x1, x2, x3, x4, x5, x6, x7, x8, x9, -⟩ := HB.out w3 hb3
          go_wp2_with fail
          refine (H16.out _ hb3).mono ?_
          rintro e2 w4 ⟨v, rfl, hfv, hb4⟩
          have hb4 := hb3.via hb4 hb3.size
          have hfv := HFV.out v w4 hfv
          subst hfv
          obtain ⟨t0, t1, t2, t3, t4, t5, t6, t7, t8, t9, -⟩ := HB.out w4 hb4
          have Hb4 := Lib.hid hb4
          have HBx := Lib.hid (fun w' (h : Below w4.heap.size w4 w') => HBc.out w' (Hb4.out.via h Hb4.out.size))
          go_wp2_with fail
          refine wp_region_held_drew (S := (fun w' => w'.cell? ⟨B, 0, none⟩ = some baseS ∧ w'.cell? ⟨B, 1, none⟩ = some nilV ∧ w'.cell? ⟨B, 2, none⟩ = some (.slice ai 3 ci) ∧ w'.cell? ⟨B, 3, none⟩ = some (.slice ad 2 cd) ∧ w'.cell? ⟨B, 4, none⟩ = some nilV ∧ w'.cell? ⟨B, 5, none⟩ = some nilV ∧ w'.cell? ⟨B, 6, none⟩ = some (.slice a7 k c7) ∧ w'.cell? ⟨B, 7, none⟩ = some (.slice a8 (min R.length 6) c8) ∧ w'.cell? ⟨B, 8, none⟩ = some (.slice a9 (min D.length 4) c9) ∧ w'.cell? ⟨B, 9, none⟩ = some (.slice a10 (min O.length 4) c10))) (by kernel_rfl) (by exact HBx.out _ (Below.refl _ _).drew) (fun hHeld => ?_)
          refine wpAnyH_take (i := 0) (v := ?v2) rfl (by kernel_rfl) (by kernel_rfl) (by kernel_rfl) (fun _ _ _ h => h) (Or.inl ⟨by rfl, ?hy2⟩) (by assumption) ?rest2
          case hy2 => (intro w hSw; (try dsimp only at hSw); go_simp; try (with_reducible rfl))
          try simp only [Act.put, List.getElem_toArray, List.getElem_cons_zero, List.setIfInBounds_toArray, List.set_cons_zero, List.set_cons_succ]
          refine wpAnyH_take (i := 1) (v := ?v3) rfl (by kernel_rfl) (by kernel_rfl) (by kernel_rfl) (fun _ _ _ h => h) (Or.inl ⟨by rfl, ?hy3⟩) (by assumption) ?rest3
          case hy3 => (intro w hSw; (try dsimp only at hSw); go_simp; try (with_reducible rfl))
          try simp only [Act.put, List.getElem_toArray, List.getElem_cons_zero, List.getElem_cons_succ, List.setIfInBounds_toArray, List.set_cons_zero, List.set_cons_succ]
          refine wpAnyH_take (i := 3) (v := ?v4) rfl (by kernel_rfl) (by kernel_rfl) (by kernel_rfl) (fun _ _ _ h => h) (Or.inl ⟨by rfl, ?hy4⟩) (by assumption) ?rest4
          case hy4 => (intro w hSw; (try dsimp only at hSw); go_simp; try (with_reducible rfl))
          try simp only [Act.put, List.getElem_toArray, List.getElem_cons_zero, List.getElem_cons_succ, List.setIfInBounds_toArray, List.set_cons_zero, List.set_cons_succ]
          refine wpAnyH_ready (rs := [2]) (by kernel_rfl) (by simp) ?_
          refine AllReadyH.cons rfl (fun K hK => ?_) AllReadyH.nil
          go_simp
          go_at_call 18
          refine (none_any _ _ _ _ _ _ _ _ _ _ _ _ _ (by omega)).mono ?_
          rintro e2 w5 ⟨ov, rfl, hbo, hb5⟩
          obtain ⟨ao, co, rfl, -, -⟩ := hbo.open
          rw [List.length_replicate] at hbo
          have Hbo := Lib.hid hbo
          have Hb5 := Lib.hid (show Below wx.heap.size wx w5 from Hb4.out.via (undrew hb5) Hb4.out.size)
          have Hb54 := Lib.hid (undrew hb5)
          clear hbo hb5
          refine hK.out _ _ (by exact HBx.out _ Hb54.out) (fun hHeld => ?_)
          clear hK K
          try simp only [Act.put, List.setIfInBounds_toArray, List.set_cons_zero, List.set_cons_succ]
          refine wpAnyH_ready (rs := [4]) (by kernel_rfl) (by simp) ?_
          refine AllReadyH.cons rfl (fun K hK => ?_) AllReadyH.nil
          go_simp
          go_at_call 17
          refine (H17.out _ _ Hb5.out Hbo.out).mono ?_
          rintro e2 w6 ⟨lv, rfl, hl, hb6⟩
          obtain ⟨al, cl, rfl, -, -⟩ := hl.open
          have Hl := Lib.hid hl
          have Hb6 := Lib.hid (show Below wx.heap.size wx w6 from Hb5.out.via hb6 Hb5.out.size)
          have Hb64 := Lib.hid (show Below w4.heap.size w4 w6 from Hb54.out.via hb6 Hb54.out.size)
          clear hl
          refine hK.out _ _ (by exact HBx.out _ Hb64.out) (fun hHeld => ?_)
          clear hK K
          try simp only [Act.put, List.setIfInBounds_toArray, List.set_cons_zero, List.set_cons_succ]
          refine wpAnyH_take (i := 5) (v := ?v5) rfl (by kernel_rfl) (by kernel_rfl) (by kernel_rfl) (fun _ _ _ h => h) (Or.inl ⟨by rfl, ?hy5⟩) (by assumption) ?rest5
          case hy5 => (intro w hSw; (try dsimp only at hSw); go_simp; try (with_reducible rfl))
          try simp only [Act.put, List.getElem_toArray, List.getElem_cons_zero, List.getElem_cons_succ, List.setIfInBounds_toArray, List.set_cons_zero, List.set_cons_succ]
          refine wpAnyH_done (by kernel_rfl) ?_ _
          have hb6 := Hb6.out
          go_wp2_with fail
          go_ret
          exact Ret.mk (Hbw.out.via hb6 Hbw.out.size)
        | cons i is =>
          rw [List.map_cons] at hvis
          have HFV := Lib.hid (show ∀ v w', FirstV k ch (rulesTo k R (min R.length 6)) (optsTo k) v w' → Strs w' v (sel (fun o => bitB (cfgN k i) o) (optsTo k)) from fun v w' h => by unfold FirstV at h; rw [hvis] at h; exact h)
          rw [hvis] at H15 H16
          obtain ⟨m, Hm, hm1⟩ : ∃ m : Nat, Hid (is.length + 1 = m) ∧ 1 ≤ m := ⟨_, Lib.hid rfl, by omega⟩
          have e0 : (((cfgN k i :: is.map (cfgN k)).length : Nat) : Int) = (m : Int) := by rw [List.length_cons, List.length_map, Hm.out]
          have e1 : (!(cfgN k i :: is.map (cfgN k)).isEmpty) = true := rfl
          rw [e0] at H15
          rw [e1] at H16
          have hs0 : 0 ≤ setN k i := Int.natCast_nonneg _
          have hs1 : setN k i < 4096 := setN_lt k i hk6
          have H20 := Lib.hid (fun w' (h : Below wx.heap.size wx w') => names20 (setN k i) baseS nilV (.slice ai 3 ci) (.slice ad 2 cd) nilV nilV (.slice a7 k c7) (.slice a8 (min R.length 6) c8) (.slice a9 (min D.length 4) c9) (.slice a10 (min O.length 4) c10) (optsTo k) w' (HF.out w' h).opt (by rw [hol]; omega) hs0 hs1)
          have hne := names_eq k i (by omega) hol
          have Hsl := Lib.hid (show (sel (fun o => bitB (cfgN k i) o) (optsTo k)).length < 1000000 from by have := sel_len (fun o => bitB (cfgN k i) o) (optsTo k); omega)
          have Hdec := Lib.hid (show decide (sel (fun o => bitB (cfgN k i) o) (optsTo k) = sel (fun o => setB (setN k i) o) (optsTo k)) = true from by rw [hne]; simp)
          have Hlen := Lib.hid (show (List.map (setN k) (i :: is)).length = m by rw [List.length_map]; exact Hm.out)
          clear hvis hall he hlok hrl hol hnums e0 e1 hne hs0 hs1
          obtain ⟨z0, z1, z2, z3, z4, z5, z6, z7, z8, z9, -⟩ := HB.out wx (Below.refl _ _)
          go_wp2_with fail
          refine (H14.out _ (Below.refl _ _)).mono ?_
          rintro e2 w2 ⟨rfl, hb2⟩
          obtain ⟨y0, y1, y2, y3, y4, y5, y6, y7, y8, y9, -⟩ := HB.out w2 hb2
          go_wp2_with fail
          refine (H15.out _ hb2).mono ?_
          rintro e2 w3 ⟨rfl, hb3⟩
          have hb3 := hb2.via hb3 hb2.size
          obtain ⟨x0, x1, x2, x3, x4, x5, x6, x7, x8, x9, -⟩ := HB.out w3 hb3
          go_wp2_with fail
          refine (H16.out _ hb3).mono ?_
          rintro e2 w4 ⟨v, rfl, hfv, hb4⟩
          have hb4 := hb3.via hb4 hb3.size
          have hfv := HFV.out v w4 hfv
          have Hfv := Lib.hid hfv
          obtain ⟨av, cv, rfl, -, -⟩ := hfv.open
          clear hfv
          obtain ⟨t0, t1, t2, t3, t4, t5, t6, t7, t8, t9, -⟩ := HB.out w4 hb4
          have Hb4 := Lib.hid hb4
          have HBx := Lib.hid (fun w' (h : Below w4.heap.size w4 w') => HBc.out w' (Hb4.out.via h Hb4.out.size))
          go_wp2_with fail
          refine wp_region_held_drew (S := (fun w' => w'.cell? ⟨B, 0, none⟩ = some baseS ∧ w'.cell? ⟨B, 1, none⟩ = some nilV ∧ w'.cell? ⟨B, 2, none⟩ = some (.slice ai 3 ci) ∧ w'.cell? ⟨B, 3, none⟩ = some (.slice ad 2 cd) ∧ w'.cell? ⟨B, 4, none⟩ = some nilV ∧ w'.cell? ⟨B, 5, none⟩ = some nilV ∧ w'.cell? ⟨B, 6, none⟩ = some (.slice a7 k c7) ∧ w'.cell? ⟨B, 7, none⟩ = some (.slice a8 (min R.length 6) c8) ∧ w'.cell? ⟨B, 8, none⟩ = some (.slice a9 (min D.length 4) c9) ∧ w'.cell? ⟨B, 9, none⟩ = some (.slice a10 (min O.length 4) c10))) (by kernel_rfl) (by exact HBx.out _ (Below.refl _ _).drew) (fun hHeld => ?_)
          refine wpAnyH_take (i := 0) (v := ?v6) rfl (by kernel_rfl) (by kernel_rfl) (by kernel_rfl) (fun _ _ _ h => h) (Or.inl ⟨by rfl, ?hy6⟩) (by assumption) ?rest6
          case hy6 => (intro w hSw; (try dsimp only at hSw); go_simp; try (with_reducible rfl))
          try simp only [Act.put, List.getElem_toArray, List.getElem_cons_zero, List.setIfInBounds_toArray, List.set_cons_zero, List.set_cons_succ]
          refine wpAnyH_take (i := 1) (v := ?v7) rfl (by kernel_rfl) (by kernel_rfl) (by kernel_rfl) (fun _ _ _ h => h) (Or.inl ⟨by rfl, ?hy7⟩) (by assumption) ?rest7
          case hy7 => (intro w hSw; (try dsimp only at hSw); go_simp; try (with_reducible rfl))
          try simp only [Act.put, List.getElem_toArray, List.getElem_cons_zero, List.getElem_cons_succ, List.setIfInBounds_toArray, List.set_cons_zero, List.set_cons_succ]
          refine wpAnyH_take (i := 3) (v := ?v8) rfl (by kernel_rfl) (by kernel_rfl) (by kernel_rfl) (fun _ _ _ h => h) (Or.inl ⟨by rfl, ?hy8⟩) (by assumption) ?rest8
          case hy8 => (intro w hSw; (try dsimp only at hSw); go_simp; try (with_reducible rfl))
          try simp only [Act.put, List.getElem_toArray, List.getElem_cons_zero, List.getElem_cons_succ, List.setIfInBounds_toArray, List.set_cons_zero, List.set_cons_succ]
          refine wpAnyH_ready (rs := [2]) (by kernel_rfl) (by simp) ?_
          refine AllReadyH.cons rfl (fun K hK => ?_) AllReadyH.nil
          go_simp
          go_at_call 18
          refine (none_any _ _ _ _ _ _ _ _ _ _ _ _ _ (by omega)).mono ?_
          rintro e2 w5 ⟨ov, rfl, hbo, hb5⟩
          obtain ⟨ao, co, rfl, -, -⟩ := hbo.open
          rw [List.length_replicate] at hbo
          have Hbo := Lib.hid hbo
          have Hb5 := Lib.hid (show Below wx.heap.size wx w5 from Hb4.out.via (undrew hb5) Hb4.out.size)
          have Hb54 := Lib.hid (undrew hb5)
          clear hbo hb5
          refine hK.out _ _ (by exact HBx.out _ Hb54.out) (fun hHeld => ?_)
          clear hK K
          try simp only [Act.put, List.setIfInBounds_toArray, List.set_cons_zero, List.set_cons_succ]
          refine wpAnyH_ready (rs := [4]) (by kernel_rfl) (by simp) ?_
          refine AllReadyH.cons rfl (fun K hK => ?_) AllReadyH.nil
          go_simp
          go_at_call 17
          refine (H17.out _ _ Hb5.out Hbo.out).mono ?_
          rintro e2 w6 ⟨lv, rfl, hl, hb6⟩
          obtain ⟨al, cl, rfl, -, -⟩ := hl.open
          rw [Hlen.out] at hl
          rw [Hlen.out]
          have Hl := Lib.hid hl
          have Hb6 := Lib.hid (show Below wx.heap.size wx w6 from Hb5.out.via hb6 Hb5.out.size)
          have Hb64 := Lib.hid (show Below w4.heap.size w4 w6 from Hb54.out.via hb6 Hb54.out.size)
          clear hl
          refine hK.out _ _ (by exact HBx.out _ Hb64.out) (fun hHeld => ?_)
          clear hK K
          try simp only [Act.put, List.setIfInBounds_toArray, List.set_cons_zero, List.set_cons_succ]
          refine wpAnyH_take (i := 5) (v := ?v9) rfl (by kernel_rfl) (by kernel_rfl) (by kernel_rfl) (fun _ _ _ h => h) (Or.inl ⟨by rfl, ?hy9⟩) (by assumption) ?rest9
          case hy9 => (intro w hSw; (try dsimp only at hSw); go_simp; try (with_reducible rfl))
          try simp only [Act.put, List.getElem_toArray, List.getElem_cons_zero, List.getElem_cons_succ, List.setIfInBounds_toArray, List.set_cons_zero, List.set_cons_succ]
          refine wpAnyH_done (by kernel_rfl) ?_ _
          obtain ⟨lb, lo, sx, rfl, hsx, hcell⟩ := Hl.out.at (Below.refl _ _) (k := 0) (by omega)
          obtain rfl : setN k i = sx := by simpa using hsx
          have hm0 : (0 : Int) < (m : Int) := by omega
          have hcell' : w6.cell? ⟨lb, lo, none⟩ = some (.int .i64 (setN k i)) := hcell
          have hlb := World.block_lt_of_cell? w6 _ hcell'
          clear hsx hcell
          go_wp2_with fail
          refine wp_region_held_drew (S := (fun w' => (w'.cell? ⟨B, 0, none⟩ = some baseS ∧ w'.cell? ⟨B, 1, none⟩ = some nilV ∧ w'.cell? ⟨B, 2, none⟩ = some (.slice ai 3 ci) ∧ w'.cell? ⟨B, 3, none⟩ = some (.slice ad 2 cd) ∧ w'.cell? ⟨B, 4, none⟩ = some nilV ∧ w'.cell? ⟨B, 5, none⟩ = some nilV ∧ w'.cell? ⟨B, 6, none⟩ = some (.slice a7 k c7) ∧ w'.cell? ⟨B, 7, none⟩ = some (.slice a8 (min R.length 6) c8) ∧ w'.cell? ⟨B, 8, none⟩ = some (.slice a9 (min D.length 4) c9) ∧ w'.cell? ⟨B, 9, none⟩ = some (.slice a10 (min O.length 4) c10)) ∧ w'.cell? ⟨lb, lo, none⟩ = some (.int .i64 (setN k i)))) (by kernel_rfl) (by exact ⟨HBx.out _ (Hb64.out.dn 1), hcell'⟩) (fun hHeld => ?_)
          refine wpAnyH_take (i := 0) (v := ?v10) rfl (by kernel_rfl) (by kernel_rfl) (by kernel_rfl) (fun _ _ _ h => h) (Or.inl ⟨by rfl, ?hy10⟩) (by assumption) ?rest10
          case hy10 => (intro w hSw; (try dsimp only at hSw); go_simp; try (with_reducible rfl))
          try simp only [Act.put, List.getElem_toArray, List.getElem_cons_zero, List.setIfInBounds_toArray, List.set_cons_zero, List.set_cons_succ]
          refine wpAnyH_take (i := 1) (v := ?v11) rfl (by kernel_rfl) (by kernel_rfl) (by kernel_rfl) (fun _ _ _ h => h) (Or.inl ⟨by rfl, ?hy11⟩) (by assumption) ?rest11
          case hy11 => (intro w hSw; (try dsimp only at hSw); go_simp; try (with_reducible rfl))
          try simp only [Act.put, List.getElem_toArray, List.getElem_cons_zero, List.getElem_cons_succ, List.setIfInBounds_toArray, List.set_cons_zero, List.set_cons_succ]
          refine wpAnyH_take (i := 2) (v := ?v12) rfl (by kernel_rfl) (by kernel_rfl) (by kernel_rfl) (fun _ _ _ h => h) (Or.inl ⟨by rfl, ?hy12⟩) (by assumption) ?rest12
          case hy12 => (intro w hSw; (try dsimp only at hSw); go_simp; try (with_reducible rfl))
          try simp only [Act.put, List.getElem_toArray, List.getElem_cons_zero, List.getElem_cons_succ, List.setIfInBounds_toArray, List.set_cons_zero, List.set_cons_succ]
          refine wpAnyH_take (i := 3) (v := ?v13) rfl (by kernel_rfl) (by kernel_rfl) (by kernel_rfl) (fun _ _ _ h => h) (Or.inl ⟨by rfl, ?hy13⟩) (by assumption) ?rest13
          case hy13 => (intro w hSw; (try dsimp only at hSw); go_simp; try (with_reducible rfl))
          try simp only [Act.put, List.getElem_toArray, List.getElem_cons_zero, List.getElem_cons_succ, List.setIfInBounds_toArray, List.set_cons_zero, List.set_cons_succ]
          refine wpAnyH_take (i := 4) (v := ?v14) rfl (by kernel_rfl) (by kernel_rfl) (by kernel_rfl) (fun _ _ _ h => h) (Or.inl ⟨by rfl, ?hy14⟩) (by assumption) ?rest14
          case hy14 => (intro w hSw; (try dsimp only at hSw); go_simp; try (with_reducible rfl))
          try simp only [Act.put, List.getElem_toArray, List.getElem_cons_zero, List.getElem_cons_succ, List.setIfInBounds_toArray, List.set_cons_zero, List.set_cons_succ]
          refine wpAnyH_ready (rs := [5]) (by kernel_rfl) (by simp) ?_
          refine AllReadyH.cons rfl (fun K hK => ?_) AllReadyH.nil
          go_simp
          go_at_call 20
          refine (H20.out _ (by exact Hb6.out.dn 1)).mono ?_
          rintro e2 w7 ⟨nv, rfl, hnv, hb7⟩
          obtain ⟨an, cn, rfl, -, -⟩ := hnv.open
          have Hnv := Lib.hid hnv
          have hb7 := undrew hb7
          have Hb7 := Lib.hid hb7
          have hcell7 := (hb7.cell (p := ⟨lb, lo, none⟩) hlb).trans hcell'
          clear hnv hb7
          refine hK.out _ _ (by exact ⟨HBx.out _ (Hb64.out.via Hb7.out Hb64.out.size), hcell7⟩) (fun hHeld => ?_)
          clear hK K
          try simp only [Act.put, List.setIfInBounds_toArray, List.set_cons_zero, List.set_cons_succ]
          refine wpAnyH_ready (rs := [6]) (by kernel_rfl) (by simp) ?_
          refine AllReadyH.cons rfl (fun K hK => ?_) AllReadyH.nil
          go_simp
          go_at_call 19
          refine (sameNames_any _ _ _ _ _ (by exact Hfv.out.mono (Hb64.out.via Hb7.out Hb64.out.size)) (by exact Hnv.out) (by exact Hsl.out)).mono ?_
          rintro e2 w8 ⟨rfl, hb8⟩
          rw [Hdec.out]
          have Hb78 := Lib.hid (Hb7.out.via hb8 Hb7.out.size)
          have hcell8 := (Hb78.out.cell (p := ⟨lb, lo, none⟩) hlb).trans hcell'
          clear hb8
          refine hK.out _ _ (by exact ⟨HBx.out _ (Hb64.out.via Hb78.out Hb64.out.size), hcell8⟩) (fun hHeld => ?_)
          clear hK K
          try simp only [Act.put, List.setIfInBounds_toArray, List.set_cons_zero, List.set_cons_succ]
          refine wpAnyH_take (i := 7) (v := ?v15) rfl (by kernel_rfl) (by kernel_rfl) (by kernel_rfl) (fun _ _ _ h => h) (Or.inl ⟨by rfl, ?hy15⟩) (by assumption) ?rest15
          case hy15 => (intro w hSw; (try dsimp only at hSw); go_simp; try (with_reducible rfl))
          try simp only [Act.put, List.getElem_toArray, List.getElem_cons_zero, List.getElem_cons_succ, List.setIfInBounds_toArray, List.set_cons_zero, List.set_cons_succ]
          refine wpAnyH_done (by kernel_rfl) ?_ _
          have hb8 := Hb6.out.via Hb78.out Hb6.out.size
          go_wp2_with fail
          go_ret
          exact Ret.mk (Hbw.out.via hb8 Hbw.out.size)
      · obtain ⟨e, He⟩ : ∃ e, Hid (litErr k ch = e) := ⟨_, Lib.hid rfl⟩
        have hne : e ≠ 0 := by rw [← He.out]; exact he
        have hne' : (e != 0) = true := by simpa using hne
        rw [He.out] at H14
        have H15 := Lib.hid (fun w' (h : Below wx.heap.size wx w') => count_bad _ _ _ _ _ _ _ _ _ _ _ _ _ _ _ _ _ ch w' e (HF.out w' h) (HCx.out w' h) hcl2 (by rw [hol]; exact He.out) hne)
        have H16 := Lib.hid (fun w' (h : Below wx.heap.size wx w') => first_bad _ _ _ _ _ _ _ _ _ _ _ _ _ _ _ _ _ ch w' e (HF.out w' h) (HCx.out w' h) hcl2 (by rw [hol]; exact He.out) hne)
        clear he hne hol
        obtain ⟨z0, z1, z2, z3, z4, z5, z6, z7, z8, z9, -⟩ := HB.out wx (Below.refl _ _)
        go_wp2_with fail
        refine (H14.out _ (Below.refl _ _)).mono ?_
        rintro e2 w2 ⟨rfl, hb2⟩
        obtain ⟨y0, y1, y2, y3, y4, y5, y6, y7, y8, y9, -⟩ := HB.out w2 hb2
        go_wp2_with fail
        refine (H15.out _ hb2).mono ?_
        rintro e2 w3 ⟨rfl, hb3⟩
        have hb3 := hb2.via hb3 hb2.size
        obtain ⟨x0, x1, x2, x3, x4, x5, x6, x7, x8, x9, -⟩ := HB.out w3 hb3
        go_wp2_with fail
        refine (H16.out _ hb3).mono ?_
        rintro e2 w4 ⟨rfl, hb4⟩
        have hb4 := hb3.via hb4 hb3.size
        go_wp2_with fail
        go_ret
        exact Ret.mk (Hbw.out.via hb4 Hbw.out.size)
  · have hng : decide (6 < (n : Int)) = true := by simp; omega
    go_enter Try.func3, Try.ntmps3
    go_wp2_with fail
    refine (h11.out _).mono ?_
    rintro e w1 ⟨rfl, hb1⟩
    go_wp2_with fail
    refine (h11.out _).mono ?_
    rintro e w2 ⟨rfl, hb2⟩
    go_wp2_with fail
    go_ret
    have hb0 := below1 w (.cells #[.int .u8 N, .slice a2 n2 c2, .slice a3 n3 c3, .slice a4 n4 c4] 24)
    have hbw : Below w.heap.size w w1 := hb0.via hb1 hb0.size
    exact Ret.mk (hbw.via hb2 hbw.size)

end Go.Proofs.Ytkphggmbimjhjaa
