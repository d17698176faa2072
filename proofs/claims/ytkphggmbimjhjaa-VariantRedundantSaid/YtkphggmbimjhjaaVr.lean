/-
  VariantRedundant: the walk.
-/
import Derived.Test.YtkphggmbimjhjaaFat
import Derived.Test.YtkphggmbimjhjaaAll
import Derived.Test.YtkphggmbimjhjaaSame
import Derived.Test.YtkphggmbimjhjaaFst2
import Derived.Test.YtkphggmbimjhjaaRk
import Derived.Deep.CutBlock
import Derived.Deep.DeepCutAuto
namespace Go.Proofs.Ytkphggmbimjhjaa
open Go.RowKit

theorem okNums_len3 (k : Nat) (hk : k ≤ 6) (ch : List Lit1) (rs : List Rule1) : (okNums k ch rs).length ≤ 64 := by
  have h := List.length_filter_le (fun i => cOk ch rs (cfgN k i)) (List.range (2 ^ k))
  have h2 : (2 : Nat) ^ k ≤ 2 ^ 6 := Nat.pow_le_pow_right (by omega) hk
  unfold okNums
  rw [List.length_range] at h
  omega

set_option maxHeartbeats 8000000 in
set_option maxRecDepth 100000 in
theorem redundant_law (N : Int) (R D O : List (List Int)) (a2 a3 a4 : Option Addr) (c2 c3 c4 : Nat)  (w : World) (h11 : Hid (∀ w, Calls Try.prog 11 #[] w (Ret (.bool true) w))) (hN0 : 0 ≤ N) (hN : N < 256)
    (hRr : ∀ r ∈ R, ∀ x ∈ r, -128 ≤ x ∧ x ≤ 127) (hDr : ∀ r ∈ D, ∀ x ∈ r, -128 ≤ x ∧ x ≤ 127) (hOr : ∀ r ∈ O, ∀ x ∈ r, -128 ≤ x ∧ x ≤ 127) (hR : M8 w (.slice a2 R.length c2) R) (hD : M8 w (.slice a3 D.length c3) D) (hO : M8 w (.slice a4 O.length c4) O)  :
    Calls Try.prog 7 #[.agg #[.int .u8 N, .slice a2 R.length c2, .slice a3 D.length c3, .slice a4 O.length c4]] w (Ret (.bool true) w) := by
  have HFa0 := Lib.hid (fun w2 ai ci ad cd (h2 : Below w.heap.size w w2) (hdim : Dims w2 (.slice ad 2 cd) baseDims) => family_any N R D O (.slice a2 R.length c2) (.slice a3 D.length c3) (.slice a4 O.length c4) ai ci ad cd w2 hN0 hN hRr hDr hOr (hR.mono h2) (hD.mono h2) (hO.mono h2) hdim)
  obtain ⟨k, Hk, hk1, hk6⟩ : ∃ k : Nat, Hid ((1 + N % 6).toNat = k) ∧ 1 ≤ k ∧ k ≤ 6 := ⟨_, Lib.hid rfl, by omega, by omega⟩
  rw [Hk.out] at HFa0
  clear hRr hDr hOr hR hD hO hN0 hN Hk
  generalize hn2 : R.length = n2 at *
  generalize hn3 : D.length = n3 at *
  generalize hn4 : O.length = n4 at *
  have Hn2 := Lib.hid hn2
  have Hn3 := Lib.hid hn3
  have Hn4 := Lib.hid hn4
  clear hn2 hn3 hn4
  go_enter Try.func7, Try.ntmps7
  go_upto_region 4 with (go_at_call 11; refine (h11.out _).mono ?_; rintro e w1 ⟨rfl, hb1⟩)
  go_cut [3] (fun s5 wx => ∃ B ai ci ad cd a7 c7 a8 c8 a9 c9 a10 c10, s5 = .pointer (some ⟨B, 0, none⟩) ∧ FamAt wx B k R D O ai ci ad cd a7 c7 a8 c8 a9 c9 a10 c10 ∧ Below w.heap.size w wx)
  case first =>
    have hb0 := below1 w (.cells #[.int .u8 N, .slice a2 n2 c2, .slice a3 n3 c3, .slice a4 n4 c4] 24)
    have hbw : Below w.heap.size w w1 := hb0.via hb1 hb0.size
    have Hkin := Lib.hid (fun w' (h : Below w1.heap.size w1 w') => blk4 (((Blk.new w #[.int .u8 N, .slice a2 n2 c2, .slice a3 n3 c3, .slice a4 n4 c4] 24).below hb1).below h))
    have HFa := Lib.hid (fun w2 ai ci ad cd (h2 : Below w1.heap.size w1 w2) hdim => HFa0.out w2 ai ci ad cd (hbw.via h2 hbw.size) hdim)
    refine wp_region_pop (S := (fun w' => w'.cell? ⟨w.heap.size, 0, none⟩ = some (.int .u8 N) ∧ w'.cell? ⟨w.heap.size, 1, none⟩ = some (.slice a2 n2 c2) ∧ w'.cell? ⟨w.heap.size, 2, none⟩ = some (.slice a3 n3 c3) ∧ w'.cell? ⟨w.heap.size, 3, none⟩ = some (.slice a4 n4 c4))) 4 (by kernel_rfl) (by kernel_rfl) (by exact Hkin.out w1.drew (Below.refl _ _).drew) (fun hHeld => ?_)
    simp only [List.take_succ_cons, List.take_zero, List.drop_succ_cons, List.drop_zero]
    refine wpAnyH_take (i := 0) (v := ?v1) rfl (by kernel_rfl) (by kernel_rfl) (by kernel_rfl) (fun _ _ _ h => h) (Or.inl ⟨by rfl, ?hy1⟩) (by assumption) ?rest1
    case hy1 => (intro w hSw; (try dsimp only at hSw); go_simp; try (with_reducible rfl))
    try simp only [Act.put, List.getElem_toArray, List.getElem_cons_zero, List.setIfInBounds_toArray, List.set_cons_zero, List.set_cons_succ]
    refine wpAnyH_ready (rs := [1, 3]) (by kernel_rfl) (by simp) ?_
    refine AllReadyH.cons rfl (fun K hK => ?_) (AllReadyH.cons rfl (fun K hK => ?_) AllReadyH.nil)
    · go_simp
      go_at_call 13
      refine (plain_any _).mono ?_
      rintro e w2 ⟨ai, ci, ad, cd, rfl, hdim, hfr, hb2⟩
      have Hdim := Lib.hid hdim
      have Hfr := Lib.hid hfr
      clear hdim hfr
      have Hb2 := Lib.hid (show Below w1.heap.size w1 w2 from undrew hb2)
      have hk2 := Hkin.out w2 Hb2.out
      refine hK.out _ _ (by exact hk2) (fun hHeld => ?_)
      clear hK K
      try simp only [Act.put, List.setIfInBounds_toArray, List.set_cons_zero, List.set_cons_succ]
      refine wpAnyH_ready (rs := [2, 3]) (by kernel_rfl) (by simp) ?_
      refine AllReadyH.cons rfl (fun K hK => ?_) (AllReadyH.cons rfl (fun K hK => ?_) AllReadyH.nil)
      · go_simp
        go_at_call 12
        refine (HFa.out _ ai ci ad cd (by exact Hb2.out) (by exact Hdim.out)).mono ?_
        rintro e w3 ⟨a7, c7, a8, c8, a9, c9, a10, c10, rvk, rfl, hP⟩
        have HP := Lib.hid hP
        clear hP
        have Hb3 := Lib.hid (show Below w1.heap.size w1 w3 from (Hb2.out).via HP.out.below (Hb2.out).size)
        have hk3 := Hkin.out w3 Hb3.out
        refine hK.out _ _ (by exact hk3) (fun hHeld => ?_)
        clear hK K
        try simp only [Act.put, List.setIfInBounds_toArray, List.set_cons_zero, List.set_cons_succ]
        refine wpAnyH_ready (rs := [3]) (by kernel_rfl) (by simp) ?_
        refine AllReadyH.cons rfl (fun K hK => ?_) AllReadyH.nil
        go_simp
        refine hK.out _ _ (by exact Hkin.out _ (Hb3.out.alloc Hb3.out.size _)) (fun hHeld => ?_)
        clear hK K
        try simp only [Act.put, List.setIfInBounds_toArray, List.set_cons_zero, List.set_cons_succ]
        refine wpAnyH_done (by kernel_rfl) ?_ _
        simp only [Exit.then]
        go_wp2_with fail
        go_meet
        exact ⟨_, ai, ci, ad, cd, a7, c7, a8, c8, a9, c9, a10, c10, rfl, famAt_new HP.out hk6 Hdim.out, (hbw.via Hb3.out hbw.size).alloc (by have := hbw.size; have := Hb3.out.size; omega) _⟩
      · go_simp
        have HZ := Lib.hid (Blk.new w2 #[.string ⟨#[]⟩, .slice none 0 0, .slice none 0 0, .slice none 0 0, .slice none 0 0, .slice none 0 0, .slice none 0 0, .slice none 0 0, .slice none 0 0, .slice none 0 0] 41)
        refine hK.out _ _ (by exact Hkin.out _ (Hb2.out.alloc Hb2.out.size _)) (fun hHeld => ?_)
        clear hK K
        try simp only [Act.put, List.setIfInBounds_toArray, List.set_cons_zero, List.set_cons_succ]
        refine wpAnyH_ready (rs := [2]) (by kernel_rfl) (by simp) ?_
        refine AllReadyH.cons rfl (fun K hK => ?_) AllReadyH.nil
        go_simp
        go_at_call 12
        refine (HFa.out _ ai ci ad cd (by exact (Hb2.out.alloc Hb2.out.size _)) (by exact (Hdim.out.mono (below1 _ _)))).mono ?_
        rintro e w3 ⟨a7, c7, a8, c8, a9, c9, a10, c10, rvk, rfl, hP⟩
        have HP := Lib.hid hP
        clear hP
        have Hb3 := Lib.hid (show Below w1.heap.size w1 w3 from ((Hb2.out.alloc Hb2.out.size _)).via HP.out.below ((Hb2.out.alloc Hb2.out.size _)).size)
        have hk3 := Hkin.out w3 Hb3.out
        refine hK.out _ _ (by exact hk3) (fun hHeld => ?_)
        clear hK K
        try simp only [Act.put, List.setIfInBounds_toArray, List.set_cons_zero, List.set_cons_succ]
        refine wpAnyH_done (by kernel_rfl) ?_ _
        simp only [Exit.then]
        have HZ3 := Lib.hid (HZ.out.below HP.out.below)
        obtain ⟨z0, z1, z2, z3, z4, z5, z6, z7, z8, z9, r0, r1, r2, r3, r4, r5, r6, r7, r8, r9⟩ := blk10 HZ3.out
        go_wp2_with fail
        go_meet
        exact ⟨_, ai, ci, ad, cd, a7, c7, a8, c8, a9, c9, a10, c10, rfl, famAt_store HP.out hk6 HZ3.out (by simp) (Hdim.out.mono (below1 _ _)) (fun b hb => by have := dims_lt Hdim.out b hb; omega), below_set10 (hbw.via Hb3.out hbw.size) (by have := hbw.size; have := Hb2.out.size; omega) _ _ _ _ _ _ _ _ _ _⟩
    · go_simp
      have HZ1 := Lib.hid (Blk.new w1 #[.string ⟨#[]⟩, .slice none 0 0, .slice none 0 0, .slice none 0 0, .slice none 0 0, .slice none 0 0, .slice none 0 0, .slice none 0 0, .slice none 0 0, .slice none 0 0] 41)
      refine hK.out _ _ (by exact Hkin.out _ ((below1 w1 _).dn 1)) (fun hHeld => ?_)
      clear hK K
      try simp only [Act.put, List.setIfInBounds_toArray, List.set_cons_zero, List.set_cons_succ]
      refine wpAnyH_ready (rs := [1]) (by kernel_rfl) (by simp) ?_
      refine AllReadyH.cons rfl (fun K hK => ?_) AllReadyH.nil
      go_simp
      go_at_call 13
      refine (plain_any _).mono ?_
      rintro e w2 ⟨ai, ci, ad, cd, rfl, hdim, hfr, hb2⟩
      have Hdim := Lib.hid hdim
      have Hfr := Lib.hid hfr
      clear hdim hfr
      have Hb2 := Lib.hid (show Below w1.heap.size w1 w2 from (below1 w1 _).via (undrew hb2) (by simp))
      have hk2 := Hkin.out w2 Hb2.out
      refine hK.out _ _ (by exact hk2) (fun hHeld => ?_)
      clear hK K
      try simp only [Act.put, List.setIfInBounds_toArray, List.set_cons_zero, List.set_cons_succ]
      have HZ := Lib.hid (HZ1.out.below (undrew hb2))
      refine wpAnyH_ready (rs := [2]) (by kernel_rfl) (by simp) ?_
      refine AllReadyH.cons rfl (fun K hK => ?_) AllReadyH.nil
      go_simp
      go_at_call 12
      refine (HFa.out _ ai ci ad cd (by exact Hb2.out) (by exact Hdim.out)).mono ?_
      rintro e w3 ⟨a7, c7, a8, c8, a9, c9, a10, c10, rvk, rfl, hP⟩
      have HP := Lib.hid hP
      clear hP
      have Hb3 := Lib.hid (show Below w1.heap.size w1 w3 from (Hb2.out).via HP.out.below (Hb2.out).size)
      have hk3 := Hkin.out w3 Hb3.out
      refine hK.out _ _ (by exact hk3) (fun hHeld => ?_)
      clear hK K
      try simp only [Act.put, List.setIfInBounds_toArray, List.set_cons_zero, List.set_cons_succ]
      refine wpAnyH_done (by kernel_rfl) ?_ _
      simp only [Exit.then]
      have HZ3 := Lib.hid (HZ.out.below HP.out.below)
      obtain ⟨z0, z1, z2, z3, z4, z5, z6, z7, z8, z9, r0, r1, r2, r3, r4, r5, r6, r7, r8, r9⟩ := blk10 HZ3.out
      go_wp2_with fail
      go_meet
      exact ⟨_, ai, ci, ad, cd, a7, c7, a8, c8, a9, c9, a10, c10, rfl, famAt_store HP.out hk6 HZ3.out (by exact HZ.out.lt) Hdim.out (fun b hb => by have := Hfr.out b hb; simp at this; omega), below_set10 (hbw.via Hb3.out hbw.size) (by have := hbw.size; omega) _ _ _ _ _ _ _ _ _ _⟩
  case rest =>
    obtain ⟨B, ai, ci, ad, cd, a7, c7, a8, c8, a9, c9, a10, c10, rfl, hFA, hbw⟩ := hcut
    rename World => wx
    have HB := Lib.hid (fun w' (h : Below wx.heap.size wx w') => blk10 (hFA.blk.below h))
    have HF := Lib.hid (fun w' (h : Below wx.heap.size wx w') => hFA.fam.mono h)
    have HBc := Lib.hid (fun w' (h : Below wx.heap.size wx w') => (blk10c (HB.out w' h)))
    have hol : (optsTo k).length = k := optsTo_len k
    have hrl : (rulesTo k R (min R.length 6)).length = min R.length 6 := rulesTo_len _ _ _
    have hm6 : min R.length 6 < 1000 := by omega
    have Hbw := Lib.hid hbw
    clear hFA hbw
    have HRd := Lib.hid (redundant_any _ _ _ _ _ _ _ _ _ _ _ _ _ _ _ _ wx (HF.out wx (Below.refl _ _)) (by rw [hol]; exact hk6))
    rw [hol, hrl] at HRd
    have hX6 := redTo_len k (rulesTo k R (min R.length 6)) (min R.length 6)
    have hm66 : min R.length 6 ≤ 6 := Nat.min_le_right _ _
    have Hlit := Lib.hid (show ∀ r ∈ rulesTo k R (min R.length 6), LitsOk k r.2 from rulesTo_lits)
    generalize rulesTo k R (min R.length 6) = RS at *
    generalize min R.length 6 = m at *
    have Hrl := Lib.hid hrl
    have Hol := Lib.hid hol
    clear hrl hol
    obtain ⟨z0, z1, z2, z3, z4, z5, z6, z7, z8, z9, -⟩ := HB.out wx (Below.refl _ _)
    go_wp2_with fail
    refine (HRd.out).mono ?_
    rintro e2 w2 ⟨v, rfl, hxi, hb2⟩
    generalize hXX : redTo k RS m = X at *
    generalize hXl : X.length = xl at *
    obtain ⟨ax, cx, rfl, -, -⟩ := hxi.open
    rw [hXl]
    have Hb2 := Lib.hid (show Below wx.heap.size wx w2 from hb2)
    have Hxi := Lib.hid hxi
    have HXX := Lib.hid hXX
    have HXl := Lib.hid hXl
    clear hb2 hxi hXX hXl
    obtain ⟨y0, y1, y2, y3, y4, y5, y6, y7, y8, y9, -⟩ := HB.out w2 Hb2.out
    have hBl := World.block_lt_of_cell? _ _ y0
    go_upto_region 8 with fail
    go_cut [6, 7] (fun s6 s7 wy => ∃ bl bm, s6 = .pointer (some ⟨bl, 0, none⟩) ∧ s7 = .pointer (some ⟨bm, 0, none⟩) ∧ bl ≠ bm ∧ w2.heap.size ≤ bl ∧ w2.heap.size ≤ bm ∧ bl < w2.heap.size + 2 ∧ bm < w2.heap.size + 2 ∧ w2.heap.size + 2 ≤ wy.heap.size ∧ Blk wy bl #[baseS, nilV, .slice ai 3 ci, .slice ad 2 cd, nilV, nilV, .slice a7 k c7, (.slice a8 m c8), .slice a9 (min D.length 4) c9, .slice a10 (min O.length 4) c10] 41 ∧ Blk wy bm #[baseS, nilV, .slice ai 3 ci, .slice ad 2 cd, nilV, nilV, .slice a7 k c7, (.slice a8 m c8), .slice a9 (min D.length 4) c9, .slice a10 (min O.length 4) c10] 41 ∧ Below w2.heap.size w2 wy)
    case first =>
      have hn1 : Blk ((w2.alloc (.cells #[baseS, nilV, .slice ai 3 ci, .slice ad 2 cd, nilV, nilV, .slice a7 k c7, (.slice a8 m c8), .slice a9 (min D.length 4) c9, .slice a10 (min O.length 4) c10] 41)).alloc (.cells #[baseS, nilV, .slice ai 3 ci, .slice ad 2 cd, nilV, nilV, .slice a7 k c7, (.slice a8 m c8), .slice a9 (min D.length 4) c9, .slice a10 (min O.length 4) c10] 41)).drew w2.heap.size #[baseS, nilV, .slice ai 3 ci, .slice ad 2 cd, nilV, nilV, .slice a7 k c7, (.slice a8 m c8), .slice a9 (min D.length 4) c9, .slice a10 (min O.length 4) c10] 41 := (Blk.new w2 #[baseS, nilV, .slice ai 3 ci, .slice ad 2 cd, nilV, nilV, .slice a7 k c7, (.slice a8 m c8), .slice a9 (min D.length 4) c9, .slice a10 (min O.length 4) c10] 41).old _
      have hn2 : Blk ((w2.alloc (.cells #[baseS, nilV, .slice ai 3 ci, .slice ad 2 cd, nilV, nilV, .slice a7 k c7, (.slice a8 m c8), .slice a9 (min D.length 4) c9, .slice a10 (min O.length 4) c10] 41)).alloc (.cells #[baseS, nilV, .slice ai 3 ci, .slice ad 2 cd, nilV, nilV, .slice a7 k c7, (.slice a8 m c8), .slice a9 (min D.length 4) c9, .slice a10 (min O.length 4) c10] 41)).drew (w2.heap.size + 1) #[baseS, nilV, .slice ai 3 ci, .slice ad 2 cd, nilV, nilV, .slice a7 k c7, (.slice a8 m c8), .slice a9 (min D.length 4) c9, .slice a10 (min O.length 4) c10] 41 := by
        have h := Blk.new (w2.alloc (.cells #[baseS, nilV, .slice ai 3 ci, .slice ad 2 cd, nilV, nilV, .slice a7 k c7, (.slice a8 m c8), .slice a9 (min D.length 4) c9, .slice a10 (min O.length 4) c10] 41)) #[baseS, nilV, .slice ai 3 ci, .slice ad 2 cd, nilV, nilV, .slice a7 k c7, (.slice a8 m c8), .slice a9 (min D.length 4) c9, .slice a10 (min O.length 4) c10] 41
        rw [show (w2.alloc (.cells #[baseS, nilV, .slice ai 3 ci, .slice ad 2 cd, nilV, nilV, .slice a7 k c7, (.slice a8 m c8), .slice a9 (min D.length 4) c9, .slice a10 (min O.length 4) c10] 41)).heap.size = w2.heap.size + 1 by simp] at h
        exact h
      have hn3 := (below2 w2 (.cells #[baseS, nilV, .slice ai 3 ci, .slice ad 2 cd, nilV, nilV, .slice a7 k c7, (.slice a8 m c8), .slice a9 (min D.length 4) c9, .slice a10 (min O.length 4) c10] 41) (.cells #[baseS, nilV, .slice ai 3 ci, .slice ad 2 cd, nilV, nilV, .slice a7 k c7, (.slice a8 m c8), .slice a9 (min D.length 4) c9, .slice a10 (min O.length 4) c10] 41)).dn 1
      have hn4 : w2.heap.size + 2 ≤ ((w2.alloc (.cells #[baseS, nilV, .slice ai 3 ci, .slice ad 2 cd, nilV, nilV, .slice a7 k c7, (.slice a8 m c8), .slice a9 (min D.length 4) c9, .slice a10 (min O.length 4) c10] 41)).alloc (.cells #[baseS, nilV, .slice ai 3 ci, .slice ad 2 cd, nilV, nilV, .slice a7 k c7, (.slice a8 m c8), .slice a9 (min D.length 4) c9, .slice a10 (min O.length 4) c10] 41)).drew.heap.size := by
        show w2.heap.size + 2 ≤ ((w2.alloc (.cells #[baseS, nilV, .slice ai 3 ci, .slice ad 2 cd, nilV, nilV, .slice a7 k c7, (.slice a8 m c8), .slice a9 (min D.length 4) c9, .slice a10 (min O.length 4) c10] 41)).alloc (.cells #[baseS, nilV, .slice ai 3 ci, .slice ad 2 cd, nilV, nilV, .slice a7 k c7, (.slice a8 m c8), .slice a9 (min D.length 4) c9, .slice a10 (min O.length 4) c10] 41)).heap.size
        simp
      have HN1 := Lib.hid hn1
      have HN2 := Lib.hid hn2
      have HN3 := Lib.hid hn3
      have HN4 := Lib.hid hn4
      clear hn1 hn2 hn3 hn4
      go_region
      all_goals (go_wp2_with fail; go_meet)
      · exact ⟨_, _, rfl, rfl, by omega, by omega, by omega, by omega, by omega, HN4.out, HN1.out, HN2.out, HN3.out⟩
      · exact ⟨_, _, rfl, rfl, by omega, by omega, by omega, by omega, by omega, HN4.out, HN2.out, HN1.out, HN3.out⟩
    case rest =>
      obtain ⟨bl, bm, rfl, rfl, hne, hl1, hm1, hl2, hm2, hsz, hBL, hBM, hby⟩ := hcut
      rename World => wy
      clear y0 y1 y2 y3 y4 y5 y6 y7 y8 y9 hBl
      have hS1 := (hBL.set 7 nilV).other (p := ⟨bm, 7, none⟩) (by exact hne) nilV
      have hS2 := (hBM.other (p := ⟨bl, 7, none⟩) (by exact fun h => hne h.symm) nilV).set 7 nilV
      have hS3 := (hby.setCell (p := ⟨bl, 7, none⟩) (by exact hl1) nilV).setCell (p := ⟨bm, 7, none⟩) (by exact hm1) nilV
      obtain ⟨RV, hSl, hRVl, hRow⟩ := (HF.out w2 Hb2.out).rul
      have HRow := Lib.hid (show RulesRow w2 RV RS from ⟨hRVl, hRow⟩)
      have HRVl := Lib.hid (hRVl.trans Hrl.out)
      have HSl := Lib.hid hSl
      clear hSl hRVl hRow
      have HS1 := Lib.hid hS1
      have HS2 := Lib.hid hS2
      have HS3 := Lib.hid hS3
      clear hS1 hS2 hS3
      obtain ⟨-, -, -, -, -, -, -, l7, -, -, -, -, -, -, -, -, -, fl7, -⟩ := blk10 hBL
      obtain ⟨-, -, -, -, -, -, -, m7, -, -, -, -, -, -, -, -, -, fm7, -⟩ := blk10 hBM
      have hLlt := hBL.lt
      have hMlt := hBM.lt
      have Hne := Lib.hid hne
      have Hsz := Lib.hid hsz
      have hne2 : ¬ bm = bl := fun h => Hne.out h.symm
      clear hBL hBM hby
      go_wp2_with fail
      go_loopw [8, 9] (fun at9 i wr => ∃ (j : Nat) (la ba : Option Addr) (lc bc : Nat), j ≤ m ∧ i = .int .i64 j ∧ at9 = .int .i64 ((redTo k RS j).length : Int) ∧ Below w2.heap.size w2 wr ∧ w2.heap.size + 2 ≤ wr.heap.size ∧ Blk wr bl #[baseS, nilV, .slice ai 3 ci, .slice ad 2 cd, nilV, nilV, .slice a7 k c7, (.slice la (keepTo (fun i => !redB k RS i) RV j).length lc), .slice a9 (min D.length 4) c9, .slice a10 (min O.length 4) c10] 41 ∧ Blk wr bm #[baseS, nilV, .slice ai 3 ci, .slice ad 2 cd, nilV, nilV, .slice a7 k c7, (.slice ba j bc), .slice a9 (min D.length 4) c9, .slice a10 (min O.length 4) c10] 41 ∧ wr.ownsRow (w2.heap.size + 2) 70 2 (.slice la (keepTo (fun i => !redB k RS i) RV j).length lc) (keepTo (fun i => !redB k RS i) RV j).length ((keepTo (fun i => !redB k RS i) RV j).map _root_.Go.Proofs.Ytkphggmbimjhjaa.c2).flatten ∧ Sl wr 2 (.slice ba j bc) ((RV.take j).map _root_.Go.Proofs.Ytkphggmbimjhjaa.c2) ∧ (∀ b, (Value.slice ba j bc).ownBlock = some b → w2.heap.size + 2 ≤ b ∧ (Value.slice la (keepTo (fun i => !redB k RS i) RV j).length lc).ownBlock ≠ some b)) (fun _ i _ => m - (intOf i).toNat)
      case atStart => exact ⟨0, none, none, 0, 0, Nat.zero_le _, rfl, rfl, HS3.out, by simpa using Hsz.out, HS1.out, HS2.out, World.ownsRow_nil _ _ _ _, Sl.nil _ _, fun b h => by simp [Value.ownBlock] at h⟩
      case round =>
        clear l7 fl7 m7 fm7 hLlt hMlt
        obtain ⟨j, la, ba, lc, bc, hj, rfl, rfl, hbr, hrs, hGL, hGM, how, hSB, hsep⟩ := hrel
        have hat := redTo_len k RS j
        by_cases hlt : j < m
        · obtain ⟨rb, ro, x, hra, hxr, s0, s1⟩ := Sl.at2 (n := m) (by have := HSl.out; exact this) (Below.refl _ _) hlt
          cases hra
          obtain ⟨r, hr⟩ : ∃ r, RS[j]? = some r := ⟨RS[j]'(by rw [Hrl.out]; exact hlt), by simp⟩
          have hpx := HRow.out.2 j x r hxr hr
          obtain ⟨x1, x2⟩ := x
          obtain ⟨hx1, hx2⟩ := hpx
          simp only at hx1 hx2 s0 s1
          obtain ⟨xa, xc, rfl, -, -⟩ := hx2.open
          subst hx1
          have hsb := World.block_lt_of_cell? _ _ s0
          have r0 := (hbr.cell (p := ⟨rb, ro + j * 2, none⟩) hsb).trans s0
          have r1 := (hbr.cell (p := ⟨rb, ro + j * 2 + 1, none⟩) hsb).trans s1
          have HSe := Lib.hid (fun w' (h : Below w2.heap.size w2 w') => And.intro (HB.out w' (Hb2.out.via h Hb2.out.size)).2.2.2.2.2.2.2.1 (And.intro ((h.cell (p := ⟨rb, ro + j * 2, none⟩) hsb).trans s0) ((h.cell (p := ⟨rb, ro + j * 2 + 1, none⟩) hsb).trans s1)))
          clear s0 s1
          have Htk := Lib.hid (show RV.take (j + 1) = RV.take j ++ [(.string r.1, .slice xa r.2.length xc)] by rw [List.take_add_one, hxr]; rfl)
          have Hxr := Lib.hid hxr
          generalize r.1 = rn at *
          generalize r.2.length = ll at *
          have hjR : j < RS.length := by rw [Hrl.out]; exact hlt
          have hvl := vis_le k RS hjR
          have Hat := Lib.hid (redTo_at (n := k) hjR)
          have Hstep := Lib.hid (redTo_step (n := k) hjR)
          rw [Hrl.out, HXX.out] at Hat
          have hFM := HF.out wr (Hb2.out.via hbr Hb2.out.size)
          have hFB : Fam wr baseS nilV (.slice ai 3 ci) (.slice ad 2 cd) nilV nilV (.slice a7 k c7) (.slice ba j bc) (.slice a9 (min D.length 4) c9) (.slice a10 (min O.length 4) c10) (optsTo k) (RS.take j) _ _ 3 baseDims := ⟨hFM.insts, hFM.dims, hFM.opt, (take_row HRow.out j).rules hbr hSB, hFM.grd, hFM.ovr, famOk_sub hFM.ok (List.take_sublist _ _)⟩
          have C0 := Lib.hid (count_ok _ _ _ _ _ _ _ _ _ _ (.slice none 0 0) _ _ _ _ _ _ [] wr hFB (by rw [Hol.out]; exact hk6) (Sl.nil wr 2) (by decide) (by rfl))
          rw [Hol.out] at C0
          have hv64 := visL_len hk6 [] (RS.take j)
          have hv65 := visL_len hk6 [] (RS.take (j + 1))
          obtain ⟨g0, g1, g2, g3, g4, g5, g6, g7, g8, g9, -⟩ := blk10 hGM
          obtain ⟨f0, f1, f2, f3, f4, f5, f6, f7, f8, f9, -⟩ := HB.out wr (Hb2.out.via hbr Hb2.out.size)
          generalize hvn : (visL k [] (RS.take j)).length = vn at *
          have Hbr := Lib.hid hbr
          have HGL := Lib.hid hGL
          have HGM := Lib.hid hGM
          have How := Lib.hid how
          have HSB := Lib.hid hSB
          have Hsep := Lib.hid hsep
          have Hr := Lib.hid hr
          have Hx2 := Lib.hid hx2
          have HR0 := Lib.hid r0
          have HR1 := Lib.hid r1
          have Hvl := Lib.hid hvl
          have Hvn := Lib.hid hvn
          have hknl := keepTo_len (fun i => !redB k RS i) RV j
          generalize hkn : (keepTo (fun i => !redB k RS i) RV j).length = kn at *
          have Hkn := Lib.hid hkn
          generalize hpp : (redTo k RS j).length = p at *
          have Hpp := Lib.hid hpp
          have hjj0 : (0 : Int) ≤ (j : Int) := Int.natCast_nonneg _
          have hjj1 : (j : Int) < (m : Int) := by omega
          clear hbr hGL hGM how hSB hsep hr hxr hx2 r0 r1 hvl hFM hFB hvn hkn hpp
          go_wp2_with fail
          refine (C0.out).mono ?_
          rintro e2 w3 ⟨rfl, hb3⟩
          have hfb := World.block_lt_of_cell? _ _ f7
          have hgb := World.block_lt_of_cell? _ _ g7
          have hrb := World.block_lt_of_cell? _ _ HR0.out
          have hb23 := Hbr.out.via hb3 Hbr.out.size
          have hs3 : wr.heap.size ≤ w3.heap.size := hb3.size
          have HSc := Lib.hid (fun w' (h : Below w3.heap.size w3 w') => And.intro (((hb3.via h hb3.size).cell (p := ⟨bm, 7, none⟩) hgb).trans g7) (And.intro (((hb3.via h hb3.size).cell (p := ⟨B, 7, none⟩) hfb).trans f7) (And.intro (((hb3.via h hb3.size).cell (p := ⟨rb, ro + j * 2, none⟩) hrb).trans HR0.out) (((hb3.via h hb3.size).cell (p := ⟨rb, ro + j * 2 + 1, none⟩) hrb).trans HR1.out))))
          have HGL3 := Lib.hid (HGL.out.below hb3)
          have HGM3 := Lib.hid (HGM.out.below hb3)
          have How3 := Lib.hid (own_below How.out hb3)
          have HSB3 := Lib.hid (HSB.out.mono hb3)
          obtain ⟨q7, p7, pr0, pr1⟩ := HSc.out w3 (Below.refl _ _)
          have Hb3 := Lib.hid hb3
          have Hb23 := Lib.hid hb23
          clear g0 g1 g2 g3 g4 g5 g6 g7 g8 g9 f0 f1 f2 f3 f4 f5 f6 f7 f8 f9 hb3 hb23
          go_upto_region 15 with fail
          go_cut [8] (fun s8 wz => s8 = .int .i64 (p : Int) ∧ ∃ (g cap : Nat), Below w2.heap.size w2 wz ∧ w3.heap.size ≤ wz.heap.size ∧ Blk wz bl #[baseS, nilV, .slice ai 3 ci, .slice ad 2 cd, nilV, nilV, .slice a7 k c7, (.slice la kn lc), .slice a9 (min D.length 4) c9, .slice a10 (min O.length 4) c10] 41 ∧ Blk wz bm #[baseS, nilV, .slice ai 3 ci, .slice ad 2 cd, nilV, nilV, .slice a7 k c7, (.slice (some ⟨g, 0, none⟩) (j + 1) cap), .slice a9 (min D.length 4) c9, .slice a10 (min O.length 4) c10] 41 ∧ wz.ownsRow (w2.heap.size + 2) 70 2 (.slice la kn lc) kn ((keepTo (fun i => !redB k RS i) RV j).map _root_.Go.Proofs.Ytkphggmbimjhjaa.c2).flatten ∧ Sl wz 2 (.slice (some ⟨g, 0, none⟩) (j + 1) cap) ((RV.take (j + 1)).map _root_.Go.Proofs.Ytkphggmbimjhjaa.c2) ∧ w2.heap.size + 2 ≤ g ∧ (Value.slice la kn lc).ownBlock ≠ some g ∧ g < wz.heap.size)
          case first =>
            have Hone := Lib.hid (show ∀ r ∈ (RV.take j).map _root_.Go.Proofs.Ytkphggmbimjhjaa.c2, ∀ u ∈ r, u.oneCell' = true from fun r hr u hu => by
              obtain ⟨x, hx, rfl⟩ := List.mem_map.1 hr
              have h := HRow.out.one x (List.mem_of_mem_take hx)
              simp only [_root_.Go.Proofs.Ytkphggmbimjhjaa.c2, List.mem_cons, List.not_mem_nil, or_false] at hu
              rcases hu with rfl | rfl
              · exact h.1
              · exact h.2)
            refine wp_region_pop (S := (fun w' => w'.cell? ⟨bm, 7, none⟩ = some (.slice ba j bc) ∧ w'.cell? ⟨B, 7, none⟩ = some (.slice (some ⟨rb, ro, none⟩) m c8) ∧ w'.cell? ⟨rb, ro + j * 2, none⟩ = some (.string rn) ∧ w'.cell? ⟨rb, ro + j * 2 + 1, none⟩ = some (.slice xa ll xc))) 12 (by kernel_rfl) (by kernel_rfl) (by exact HSc.out _ (Below.refl _ _).drew) (fun hHeld => ?_)
            simp only [List.take_succ_cons, List.take_zero, List.drop_succ_cons, List.drop_zero]
            refine wpAnyH_take (i := 1) (v := ?v2) rfl (by kernel_rfl) (by kernel_rfl) (by kernel_rfl) (fun _ _ _ h => h) (Or.inl ⟨by rfl, ?hy2⟩) (by assumption) ?rest2
            case hy2 => (intro w hSw; (try dsimp only at hSw); go_simp; try (with_reducible rfl))
            try simp only [Act.put, List.getElem_toArray, List.getElem_cons_zero, List.getElem_cons_succ, List.setIfInBounds_toArray, List.set_cons_zero, List.set_cons_succ]
            refine wpAnyH_take (i := 2) (v := ?v3) rfl (by kernel_rfl) (by kernel_rfl) (by kernel_rfl) (fun _ _ _ h => h) (Or.inl ⟨by rfl, ?hy3⟩) (by assumption) ?rest3
            case hy3 => (intro w hSw; (try dsimp only at hSw); go_simp; try (with_reducible rfl))
            try simp only [Act.put, List.getElem_toArray, List.getElem_cons_zero, List.getElem_cons_succ, List.setIfInBounds_toArray, List.set_cons_zero, List.set_cons_succ]
            refine wpAnyH_take (i := 4) (v := ?v4) rfl (by kernel_rfl) (by kernel_rfl) (by kernel_rfl) (fun _ _ _ h => h) (Or.inl ⟨by rfl, ?hy4⟩) (by assumption) ?rest4
            case hy4 => (intro w hSw; (try dsimp only at hSw); go_simp; try (with_reducible rfl))
            try simp only [Act.put, List.getElem_toArray, List.getElem_cons_zero, List.getElem_cons_succ, List.setIfInBounds_toArray, List.set_cons_zero, List.set_cons_succ]
            refine wpAnyH_take (i := 5) (v := ?v5) rfl (by kernel_rfl) (by kernel_rfl) (by kernel_rfl) (fun _ _ _ h => h) (Or.inl ⟨by rfl, ?hy5⟩) (by assumption) ?rest5
            case hy5 => (intro w hSw; (try dsimp only at hSw); go_simp; try (with_reducible rfl))
            try simp only [Act.put, List.getElem_toArray, List.getElem_cons_zero, List.getElem_cons_succ, List.setIfInBounds_toArray, List.set_cons_zero, List.set_cons_succ]
            refine wpAnyH_take (i := 6) (v := ?v6) rfl (by kernel_rfl) (by kernel_rfl) (by kernel_rfl) (fun _ _ _ h => h) (Or.inl ⟨by rfl, ?hy6⟩) (by assumption) ?rest6
            case hy6 => (intro w hSw; (try dsimp only at hSw); go_simp; try (with_reducible rfl))
            try simp only [Act.put, List.getElem_toArray, List.getElem_cons_zero, List.getElem_cons_succ, List.setIfInBounds_toArray, List.set_cons_zero, List.set_cons_succ]
            refine wpAnyH_take (i := 7) (v := ?v7) rfl (by kernel_rfl) (by kernel_rfl) (by kernel_rfl) (fun _ _ _ h => h) (Or.inl ⟨by rfl, ?hy7⟩) (by assumption) ?rest7
            case hy7 => (intro w hSw; (try dsimp only at hSw); go_simp; try (with_reducible rfl))
            try simp only [Act.put, List.getElem_toArray, List.getElem_cons_zero, List.getElem_cons_succ, List.setIfInBounds_toArray, List.set_cons_zero, List.set_cons_succ]
            refine wpAnyH_take (i := 8) (v := ?v8) rfl (by kernel_rfl) (by kernel_rfl) (by kernel_rfl) (fun _ _ _ h => h) (Or.inl ⟨by rfl, ?hy8⟩) (by assumption) ?rest8
            case hy8 => (intro w hSw; (try dsimp only at hSw); go_simp; try (with_reducible rfl))
            try simp only [Act.put, List.getElem_toArray, List.getElem_cons_zero, List.getElem_cons_succ, List.setIfInBounds_toArray, List.set_cons_zero, List.set_cons_succ]
            refine wpAnyH_ready (rs := [0, 9]) (by kernel_rfl) (by simp) ?_
            refine AllReadyH.cons rfl (fun K hK => ?_) (AllReadyH.cons rfl (fun K hK => ?_) AllReadyH.nil)
            · have hbA : Below w3.heap.size w3 (w3.drew.alloc (.cells #[] 70)) := (below1 w3 (.cells #[] 70)).dn 1
              go_simp
              refine hK.out _ _ (by exact HSc.out _ hbA) (fun hHeld => ?_)
              clear hK K
              try simp only [Act.put, List.setIfInBounds_toArray, List.set_cons_zero, List.set_cons_succ]
              refine wpAnyH_ready (rs := [3, 9]) (by kernel_rfl) (by simp) ?_
              refine AllReadyH.cons rfl (fun K hK => ?_) (AllReadyH.cons rfl (fun K hK => ?_) AllReadyH.nil)
              · refine stepRows (by rfl) _ _ (by rfl) w3.heap.size w3.heap.size j bc ba ((RV.take j).map _root_.Go.Proofs.Ytkphggmbimjhjaa.c2) (by rfl) (by rfl) (by exact World.ownsRow_made w3.drew #[] 0 (Nat.le_refl _) (by decide) (by simp)) (by exact HSB3.out.mono hbA) (fun r hr => by obtain ⟨x, _, rfl⟩ := List.mem_map.1 hr; rfl) Hone.out (by omega) (by simp <;> omega) (by simp <;> omega) ?_
                intro g cap w5 hown5 hgr5 hat5 hlt5
                have hb5 : Below w3.heap.size w3 w5 := (hbA).grown hgr5 (by simp <;> omega) (fun b hb => by cases hb; omega)
                have hgb5 : w3.heap.size ≤ g := by rcases hat5 with h | h <;> (try simp at h) <;> omega
                refine hK.out _ _ (by exact HSc.out _ hb5) (fun hHeld => ?_)
                clear hK K
                try simp only [Act.put, List.setIfInBounds_toArray]
                refine wpAnyH_ready (rs := [9]) (by kernel_rfl) (by simp) ?_
                refine AllReadyH.cons rfl (fun K hK => ?_) AllReadyH.nil
                go_simp
                refine hK.out _ _ (by exact HSc.out _ (hb5.alloc hb5.size _)) (fun hHeld => ?_)
                clear hK K
                try simp only [Act.put, List.setIfInBounds_toArray, List.set_cons_zero, List.set_cons_succ]
                refine wpAnyH_ready (rs := [10]) (by kernel_rfl) (by simp) ?_
                refine AllReadyH.cons rfl (fun K hK => ?_) AllReadyH.nil
                refine stepApp E37 (by decide) _ (by rfl) _ _ (by rfl) w3.heap.size j (.slice (some ⟨g, 0, none⟩) j cap) _ _ (by rfl) (by rfl) (by exact hown5.alloc _) (by exact heap_alloc_new _ _) (by rfl) (by simp [Value.oneCell']) (by omega) (by decide) (by exact (hb5.alloc hb5.size (.cells #[.string rn, .slice xa ll xc] 70)).size) ?_
                intro g2 cap2 w6 hown6 hgr6 hat6 hlt6
                have hb6 : Below w3.heap.size w3 w6 := (hb5.alloc hb5.size (.cells #[.string rn, .slice xa ll xc] 70)).grown hgr6 (hb5.alloc hb5.size (.cells #[.string rn, .slice xa ll xc] 70)).size (fun b hb => by simp only [Value.ownBlock, Option.some.injEq] at hb; omega)
                have hgb6 : w3.heap.size ≤ g2 := by
                  have hsz6 := (hb5.alloc hb5.size (.cells #[.string rn, .slice xa ll xc] 70)).size
                  rcases hat6 with h | h
                  · simp only [Value.ownBlock, Option.some.injEq] at h; omega
                  · omega
                refine hK.out _ _ (by exact HSc.out _ hb6) (fun hHeld => ?_)
                clear hK K
                try simp only [Act.put, List.setIfInBounds_toArray]
                refine wpAnyH_take (i := 11) (v := ?v9) rfl (by kernel_rfl) (by kernel_rfl) (by kernel_rfl) (fun _ _ _ h => h) (Or.inl ⟨by rfl, ?hy9⟩) (by assumption) ?rest9
                case hy9 => (intro w hSw; (try dsimp only at hSw); go_simp; try (with_reducible rfl))
                try simp only [Act.put, List.getElem_toArray, List.getElem_cons_zero, List.getElem_cons_succ, List.setIfInBounds_toArray, List.set_cons_zero, List.set_cons_succ]
                refine wpAnyH_done (by kernel_rfl) ?_ _
                simp only [Exit.then]
                have hGM6 := HGM3.out.below hb6
                have hfz := hGM6.free 7
                have hcl := hGM6.cell 7
                simp only [List.getElem?_toArray, List.getElem?_cons_succ, List.getElem?_cons_zero] at hcl
                have hGL6 := HGL3.out.below hb6
                have hL6 := own_below How3.out hb6
                have hMl := HGM3.out.lt
                have hLl := HGL3.out.lt
                have HZ1 := Lib.hid (show Blk (w6.setCell ⟨bm, 7, none⟩ (.slice (some ⟨g2, 0, none⟩) (j + 1) cap2)) bl #[baseS, nilV, .slice ai 3 ci, .slice ad 2 cd, nilV, nilV, .slice a7 k c7, (.slice la kn lc), .slice a9 (min D.length 4) c9, .slice a10 (min O.length 4) c10] 41 from hGL6.other (p := ⟨bm, 7, none⟩) (by exact Hne.out) _)
                have HZ2 := Lib.hid (show Blk (w6.setCell ⟨bm, 7, none⟩ (.slice (some ⟨g2, 0, none⟩) (j + 1) cap2)) bm #[baseS, nilV, .slice ai 3 ci, .slice ad 2 cd, nilV, nilV, .slice a7 k c7, (.slice (some ⟨g2, 0, none⟩) (j + 1) cap2), .slice a9 (min D.length 4) c9, .slice a10 (min O.length 4) c10] 41 from hGM6.set 7 _)
                have HZ3 := Lib.hid (show Below w2.heap.size w2 (w6.setCell ⟨bm, 7, none⟩ (.slice (some ⟨g2, 0, none⟩) (j + 1) cap2)) from (Hb23.out.via hb6 Hb23.out.size).setCell (p := ⟨bm, 7, none⟩) (by exact hm1) _)
                have HZ4 := Lib.hid (ownsRow_setCell_below hL6 (a := ⟨bm, 7, none⟩) (by exact hm2) (.slice (some ⟨g2, 0, none⟩) (j + 1) cap2))
                have hSl6 : Sl w6 2 (.slice (some ⟨g2, 0, none⟩) (j + 1) cap2) ((RV.take (j + 1)).map _root_.Go.Proofs.Ytkphggmbimjhjaa.c2) := own_rows (by rw [Htk.out]; simpa [_root_.Go.Proofs.Ytkphggmbimjhjaa.c2] using hown6)
                have HZ5 := Lib.hid (hSl6.setCell (p := ⟨bm, 7, none⟩) (fun b hb => by simp only [Value.ownBlock, Option.some.injEq] at hb; show b ≠ bm; omega) (.slice (some ⟨g2, 0, none⟩) (j + 1) cap2))
                have HZ6 := Lib.hid (show (Value.slice la kn lc).ownBlock ≠ some g2 from fun h => by have := (How3.out.lt _ h).2; omega)
                have hz7 : w2.heap.size + 2 ≤ g2 := by omega
                have hz8 : w3.heap.size ≤ (w6.setCell ⟨bm, 7, none⟩ (.slice (some ⟨g2, 0, none⟩) (j + 1) cap2)).heap.size := by have := hb6.size; simpa using this
                have HZ8 := Lib.hid hz8
                clear hGL6 hL6 hSl6 hz8 hb6 hown6 hgr6 hGM6
                go_wp2_with fail
                go_meet
                exact ⟨rfl, g2, cap2, HZ3.out, HZ8.out, HZ1.out, HZ2.out, HZ4.out, HZ5.out, hz7, HZ6.out, by simpa using hlt6⟩
              · go_simp
                refine hK.out _ _ (by exact HSc.out _ (hbA.alloc hbA.size _)) (fun hHeld => ?_)
                clear hK K
                try simp only [Act.put, List.setIfInBounds_toArray, List.set_cons_zero, List.set_cons_succ]
                refine wpAnyH_ready (rs := [3]) (by kernel_rfl) (by simp) ?_
                refine AllReadyH.cons rfl (fun K hK => ?_) AllReadyH.nil
                have hbA9 : Below w3.heap.size w3 ((w3.drew.alloc (.cells #[] 70)).alloc (.cells #[.string rn, .slice xa ll xc] 70)) := hbA.alloc hbA.size _
                have hE : ((w3.drew.alloc (.cells #[] 70)).alloc (.cells #[.string rn, .slice xa ll xc] 70)).heap[w3.heap.size + 1]? = some (.cells #[.string rn, .slice xa ll xc] 70) := by
                  have h := heap_alloc_new (w3.drew.alloc (.cells #[] 70)) (.cells #[.string rn, .slice xa ll xc] 70)
                  simpa using h
                refine stepRows (by rfl) _ _ (by rfl) w3.heap.size w3.heap.size j bc ba ((RV.take j).map _root_.Go.Proofs.Ytkphggmbimjhjaa.c2) (by rfl) (by rfl) (by exact (World.ownsRow_made w3.drew #[] 0 (Nat.le_refl _) (by decide) (by simp)).alloc _) (by exact HSB3.out.mono hbA9) (fun r hr => by obtain ⟨x, _, rfl⟩ := List.mem_map.1 hr; rfl) Hone.out (by omega) (by simp <;> omega) (by simp <;> omega) ?_
                intro g cap w5 hown5 hgr5 hat5 hlt5
                have hb5 : Below w3.heap.size w3 w5 := (hbA9).grown hgr5 (by simp <;> omega) (fun b hb => by cases hb; omega)
                have hgb5 : w3.heap.size ≤ g := by rcases hat5 with h | h <;> (try simp at h) <;> omega
                have hE5 : w5.heap[w3.heap.size + 1]? = some (.cells #[.string rn, .slice xa ll xc] 70) := (hgr5.block _ (by simp <;> omega) (by simp)).trans hE
                refine hK.out _ _ (by exact HSc.out _ hb5) (fun hHeld => ?_)
                clear hK K
                try simp only [Act.put, List.setIfInBounds_toArray]
                refine wpAnyH_ready (rs := [10]) (by kernel_rfl) (by simp) ?_
                refine AllReadyH.cons rfl (fun K hK => ?_) AllReadyH.nil
                refine stepApp E37 (by decide) _ (by rfl) _ _ (by rfl) w3.heap.size j (.slice (some ⟨g, 0, none⟩) j cap) _ _ (by rfl) (by rfl) (by exact hown5) (by exact hE5) (by rfl) (by simp [Value.oneCell']) (by omega) (by decide) (by exact (hb5).size) ?_
                intro g2 cap2 w6 hown6 hgr6 hat6 hlt6
                have hb6 : Below w3.heap.size w3 w6 := (hb5).grown hgr6 (hb5).size (fun b hb => by simp only [Value.ownBlock, Option.some.injEq] at hb; omega)
                have hgb6 : w3.heap.size ≤ g2 := by
                  have hsz6 := (hb5).size
                  rcases hat6 with h | h
                  · simp only [Value.ownBlock, Option.some.injEq] at h; omega
                  · omega
                refine hK.out _ _ (by exact HSc.out _ hb6) (fun hHeld => ?_)
                clear hK K
                try simp only [Act.put]
                refine wpAnyH_take (i := 11) (v := ?v10) rfl (by kernel_rfl) (by kernel_rfl) (by kernel_rfl) (fun _ _ _ h => h) (Or.inl ⟨by rfl, ?hy10⟩) (by assumption) ?rest10
                case hy10 => (intro w hSw; (try dsimp only at hSw); go_simp; try (with_reducible rfl))
                try simp only [Act.put, List.getElem_toArray, List.getElem_cons_zero, List.getElem_cons_succ, List.setIfInBounds_toArray, List.set_cons_zero, List.set_cons_succ]
                refine wpAnyH_done (by kernel_rfl) ?_ _
                simp only [Exit.then]
                have hGM6 := HGM3.out.below hb6
                have hfz := hGM6.free 7
                have hcl := hGM6.cell 7
                simp only [List.getElem?_toArray, List.getElem?_cons_succ, List.getElem?_cons_zero] at hcl
                have hGL6 := HGL3.out.below hb6
                have hL6 := own_below How3.out hb6
                have hMl := HGM3.out.lt
                have hLl := HGL3.out.lt
                have HZ1 := Lib.hid (show Blk (w6.setCell ⟨bm, 7, none⟩ (.slice (some ⟨g2, 0, none⟩) (j + 1) cap2)) bl #[baseS, nilV, .slice ai 3 ci, .slice ad 2 cd, nilV, nilV, .slice a7 k c7, (.slice la kn lc), .slice a9 (min D.length 4) c9, .slice a10 (min O.length 4) c10] 41 from hGL6.other (p := ⟨bm, 7, none⟩) (by exact Hne.out) _)
                have HZ2 := Lib.hid (show Blk (w6.setCell ⟨bm, 7, none⟩ (.slice (some ⟨g2, 0, none⟩) (j + 1) cap2)) bm #[baseS, nilV, .slice ai 3 ci, .slice ad 2 cd, nilV, nilV, .slice a7 k c7, (.slice (some ⟨g2, 0, none⟩) (j + 1) cap2), .slice a9 (min D.length 4) c9, .slice a10 (min O.length 4) c10] 41 from hGM6.set 7 _)
                have HZ3 := Lib.hid (show Below w2.heap.size w2 (w6.setCell ⟨bm, 7, none⟩ (.slice (some ⟨g2, 0, none⟩) (j + 1) cap2)) from (Hb23.out.via hb6 Hb23.out.size).setCell (p := ⟨bm, 7, none⟩) (by exact hm1) _)
                have HZ4 := Lib.hid (ownsRow_setCell_below hL6 (a := ⟨bm, 7, none⟩) (by exact hm2) (.slice (some ⟨g2, 0, none⟩) (j + 1) cap2))
                have hSl6 : Sl w6 2 (.slice (some ⟨g2, 0, none⟩) (j + 1) cap2) ((RV.take (j + 1)).map _root_.Go.Proofs.Ytkphggmbimjhjaa.c2) := own_rows (by rw [Htk.out]; simpa [_root_.Go.Proofs.Ytkphggmbimjhjaa.c2] using hown6)
                have HZ5 := Lib.hid (hSl6.setCell (p := ⟨bm, 7, none⟩) (fun b hb => by simp only [Value.ownBlock, Option.some.injEq] at hb; show b ≠ bm; omega) (.slice (some ⟨g2, 0, none⟩) (j + 1) cap2))
                have HZ6 := Lib.hid (show (Value.slice la kn lc).ownBlock ≠ some g2 from fun h => by have := (How3.out.lt _ h).2; omega)
                have hz7 : w2.heap.size + 2 ≤ g2 := by omega
                have hz8 : w3.heap.size ≤ (w6.setCell ⟨bm, 7, none⟩ (.slice (some ⟨g2, 0, none⟩) (j + 1) cap2)).heap.size := by have := hb6.size; simpa using this
                have HZ8 := Lib.hid hz8
                clear hGL6 hL6 hSl6 hz8 hb6 hown6 hgr6 hGM6
                go_wp2_with fail
                go_meet
                exact ⟨rfl, g2, cap2, HZ3.out, HZ8.out, HZ1.out, HZ2.out, HZ4.out, HZ5.out, hz7, HZ6.out, by simpa using hlt6⟩
            · have hbE : Below w3.heap.size w3 (w3.drew.alloc (.cells #[.string rn, .slice xa ll xc] 70)) := (below1 w3 (.cells #[.string rn, .slice xa ll xc] 70)).dn 1
              go_simp
              refine hK.out _ _ (by exact HSc.out _ hbE) (fun hHeld => ?_)
              clear hK K
              try simp only [Act.put, List.setIfInBounds_toArray, List.set_cons_zero, List.set_cons_succ]
              refine wpAnyH_ready (rs := [0]) (by kernel_rfl) (by simp) ?_
              refine AllReadyH.cons rfl (fun K hK => ?_) AllReadyH.nil
              have hbA9 : Below w3.heap.size w3 ((w3.drew.alloc (.cells #[.string rn, .slice xa ll xc] 70)).alloc (.cells #[] 70)) := hbE.alloc hbE.size _
              have hE : ((w3.drew.alloc (.cells #[.string rn, .slice xa ll xc] 70)).alloc (.cells #[] 70)).heap[w3.heap.size]? = some (.cells #[.string rn, .slice xa ll xc] 70) := (Blk.new w3.drew #[.string rn, .slice xa ll xc] 70).old _
              have hown0 : ((w3.drew.alloc (.cells #[.string rn, .slice xa ll xc] 70)).alloc (.cells #[] 70)).ownsRow w3.heap.size 70 2 (.slice (some ⟨w3.heap.size + 1, 0, none⟩) 0 0) 0 [] := by
                have h := World.ownsRow_made (w3.drew.alloc (.cells #[.string rn, .slice xa ll xc] 70)) #[] 0 (base := w3.heap.size) (e := 70) (size := 2) (by simp) (by decide) (by simp)
                simpa using h
              go_simp
              refine hK.out _ _ (by exact HSc.out _ hbA9) (fun hHeld => ?_)
              clear hK K
              try simp only [Act.put, List.setIfInBounds_toArray, List.set_cons_zero, List.set_cons_succ]
              refine wpAnyH_ready (rs := [3]) (by kernel_rfl) (by simp) ?_
              refine AllReadyH.cons rfl (fun K hK => ?_) AllReadyH.nil
              refine stepRows (by rfl) _ _ (by rfl) w3.heap.size (w3.heap.size + 1) j bc ba ((RV.take j).map _root_.Go.Proofs.Ytkphggmbimjhjaa.c2) (by rfl) (by rfl) (by exact hown0) (by exact HSB3.out.mono hbA9) (fun r hr => by obtain ⟨x, _, rfl⟩ := List.mem_map.1 hr; rfl) Hone.out (by omega) (by simp <;> omega) (by simp <;> omega) ?_
              intro g cap w5 hown5 hgr5 hat5 hlt5
              have hb5 : Below w3.heap.size w3 w5 := (hbA9).grown hgr5 (by simp <;> omega) (fun b hb => by cases hb; omega)
              have hgb5 : w3.heap.size ≤ g := by rcases hat5 with h | h <;> (try simp at h) <;> omega
              have hE5 : w5.heap[w3.heap.size]? = some (.cells #[.string rn, .slice xa ll xc] 70) := (hgr5.block _ (by simp <;> omega) (by simp)).trans hE
              refine hK.out _ _ (by exact HSc.out _ hb5) (fun hHeld => ?_)
              clear hK K
              try simp only [Act.put, List.setIfInBounds_toArray]
              refine wpAnyH_ready (rs := [10]) (by kernel_rfl) (by simp) ?_
              refine AllReadyH.cons rfl (fun K hK => ?_) AllReadyH.nil
              refine stepApp E37 (by decide) _ (by rfl) _ _ (by rfl) w3.heap.size j (.slice (some ⟨g, 0, none⟩) j cap) _ _ (by rfl) (by rfl) (by exact hown5) (by exact hE5) (by rfl) (by simp [Value.oneCell']) (by omega) (by decide) (by exact (hb5).size) ?_
              intro g2 cap2 w6 hown6 hgr6 hat6 hlt6
              have hb6 : Below w3.heap.size w3 w6 := (hb5).grown hgr6 (hb5).size (fun b hb => by simp only [Value.ownBlock, Option.some.injEq] at hb; omega)
              have hgb6 : w3.heap.size ≤ g2 := by
                have hsz6 := (hb5).size
                rcases hat6 with h | h
                · simp only [Value.ownBlock, Option.some.injEq] at h; omega
                · omega
              refine hK.out _ _ (by exact HSc.out _ hb6) (fun hHeld => ?_)
              clear hK K
              try simp only [Act.put]
              refine wpAnyH_take (i := 11) (v := ?v11) rfl (by kernel_rfl) (by kernel_rfl) (by kernel_rfl) (fun _ _ _ h => h) (Or.inl ⟨by rfl, ?hy11⟩) (by assumption) ?rest11
              case hy11 => (intro w hSw; (try dsimp only at hSw); go_simp; try (with_reducible rfl))
              try simp only [Act.put, List.getElem_toArray, List.getElem_cons_zero, List.getElem_cons_succ, List.setIfInBounds_toArray, List.set_cons_zero, List.set_cons_succ]
              refine wpAnyH_done (by kernel_rfl) ?_ _
              simp only [Exit.then]
              have hGM6 := HGM3.out.below hb6
              have hfz := hGM6.free 7
              have hcl := hGM6.cell 7
              simp only [List.getElem?_toArray, List.getElem?_cons_succ, List.getElem?_cons_zero] at hcl
              have hGL6 := HGL3.out.below hb6
              have hL6 := own_below How3.out hb6
              have hMl := HGM3.out.lt
              have hLl := HGL3.out.lt
              have HZ1 := Lib.hid (show Blk (w6.setCell ⟨bm, 7, none⟩ (.slice (some ⟨g2, 0, none⟩) (j + 1) cap2)) bl #[baseS, nilV, .slice ai 3 ci, .slice ad 2 cd, nilV, nilV, .slice a7 k c7, (.slice la kn lc), .slice a9 (min D.length 4) c9, .slice a10 (min O.length 4) c10] 41 from hGL6.other (p := ⟨bm, 7, none⟩) (by exact Hne.out) _)
              have HZ2 := Lib.hid (show Blk (w6.setCell ⟨bm, 7, none⟩ (.slice (some ⟨g2, 0, none⟩) (j + 1) cap2)) bm #[baseS, nilV, .slice ai 3 ci, .slice ad 2 cd, nilV, nilV, .slice a7 k c7, (.slice (some ⟨g2, 0, none⟩) (j + 1) cap2), .slice a9 (min D.length 4) c9, .slice a10 (min O.length 4) c10] 41 from hGM6.set 7 _)
              have HZ3 := Lib.hid (show Below w2.heap.size w2 (w6.setCell ⟨bm, 7, none⟩ (.slice (some ⟨g2, 0, none⟩) (j + 1) cap2)) from (Hb23.out.via hb6 Hb23.out.size).setCell (p := ⟨bm, 7, none⟩) (by exact hm1) _)
              have HZ4 := Lib.hid (ownsRow_setCell_below hL6 (a := ⟨bm, 7, none⟩) (by exact hm2) (.slice (some ⟨g2, 0, none⟩) (j + 1) cap2))
              have hSl6 : Sl w6 2 (.slice (some ⟨g2, 0, none⟩) (j + 1) cap2) ((RV.take (j + 1)).map _root_.Go.Proofs.Ytkphggmbimjhjaa.c2) := own_rows (by rw [Htk.out]; simpa [_root_.Go.Proofs.Ytkphggmbimjhjaa.c2] using hown6)
              have HZ5 := Lib.hid (hSl6.setCell (p := ⟨bm, 7, none⟩) (fun b hb => by simp only [Value.ownBlock, Option.some.injEq] at hb; show b ≠ bm; omega) (.slice (some ⟨g2, 0, none⟩) (j + 1) cap2))
              have HZ6 := Lib.hid (show (Value.slice la kn lc).ownBlock ≠ some g2 from fun h => by have := (How3.out.lt _ h).2; omega)
              have hz7 : w2.heap.size + 2 ≤ g2 := by omega
              have hz8 : w3.heap.size ≤ (w6.setCell ⟨bm, 7, none⟩ (.slice (some ⟨g2, 0, none⟩) (j + 1) cap2)).heap.size := by have := hb6.size; simpa using this
              have HZ8 := Lib.hid hz8
              clear hGL6 hL6 hSl6 hz8 hb6 hown6 hgr6 hGM6
              go_wp2_with fail
              go_meet
              exact ⟨rfl, g2, cap2, HZ3.out, HZ8.out, HZ1.out, HZ2.out, HZ4.out, HZ5.out, hz7, HZ6.out, by simpa using hlt6⟩
          case rest =>
            obtain ⟨rfl, g, cap, hbz, hsz3, hGLz, hGMz, howz, hSz, hgz, hsepz, hglt⟩ := hcut
            rename World => wz
            clear q7 p7 pr0 pr1
            have hFM := HF.out wz (Hb2.out.via hbz Hb2.out.size)
            have hFB : Fam wz baseS nilV (.slice ai 3 ci) (.slice ad 2 cd) nilV nilV (.slice a7 k c7) (.slice (some ⟨g, 0, none⟩) (j + 1) cap) (.slice a9 (min D.length 4) c9) (.slice a10 (min O.length 4) c10) (optsTo k) (RS.take (j + 1)) _ _ 3 baseDims := ⟨hFM.insts, hFM.dims, hFM.opt, (take_row HRow.out (j + 1)).rules hbz hSz, hFM.grd, hFM.ovr, famOk_sub hFM.ok (List.take_sublist _ _)⟩
            have C1 := Lib.hid (count_ok _ _ _ _ _ _ _ _ _ _ (.slice none 0 0) _ _ _ _ _ _ [] wz hFB (by rw [Hol.out]; exact hk6) (Sl.nil wz 2) (by decide) (by rfl))
            rw [Hol.out] at C1
            have hvl := Hvl.out
            generalize hvm : (visL k [] (RS.take (j + 1))).length = vm at *
            obtain ⟨t0, t1, t2, t3, t4, t5, t6, t7, t8, t9, -⟩ := blk10 hGMz
            have hvm1 := hvl.1
            have hgt : ((vn : Int) < (vm : Int)) = False := by simp; omega
            have hgt1 : decide ((vn : Int) < (vm : Int)) = false := by simp; omega
            have hgt2 : decide ((vm : Int) > (vn : Int)) = false := by simp; omega
            clear hgt
            have Hvl2 := Lib.hid hvl.2
            have Hvm := Lib.hid hvm
            have Hbz := Lib.hid hbz
            have HGLz := Lib.hid hGLz
            have HGMz := Lib.hid hGMz
            have Howz := Lib.hid howz
            have HSz := Lib.hid hSz
            have Hsepz := Lib.hid hsepz
            clear hbz hGLz hGMz howz hSz hsepz hFM hFB hvl hvm
            go_wp2_with fail
            refine (C1.out).mono ?_
            rintro e2 w4 ⟨rfl, hb4⟩
            have Hb4 := Lib.hid (Hbz.out.via hb4 Hbz.out.size)
            have HGL4 := Lib.hid (HGLz.out.below hb4)
            have HGM4 := Lib.hid (HGMz.out.below hb4)
            have How4 := Lib.hid (own_below Howz.out hb4)
            have HS4 := Lib.hid (HSz.out.mono hb4)
            have hsz4 := hb4.size
            clear hb4 t0 t1 t2 t3 t4 t5 t6 t7 t8 t9
            have hp0 : (0 : Int) ≤ (p : Int) := Int.natCast_nonneg _
            have hp6 : (p : Int) ≤ 6 := by omega
            rcases hred : redB k RS j with _ | _
            · have hq2 := Hat.out.2 hred
              have Hred := Lib.hid hred
              have hvne : vm ≠ vn := fun h => by have := Hvl2.out.1 h; rw [Hred.out] at this; cases this
              have hme : ((vm : Int) == (vn : Int)) = false := by simp; omega
              clear hred hvne
              by_cases hpx : p < xl
              · obtain ⟨xb, xo, xi, hax, hxp, hxc⟩ := (show Ints w2 (.slice ax xl cx) X by first | exact Hxi.out | (have h := Hxi.out; rw [HXl.out] at h; exact h)).at Hb4.out (k := p) hpx
                cases hax
                have hxj := hq2 xi hxp
                have hxj2 : (xi == (j : Int)) = false := by simp; omega
                have hd1 : decide ((p : Int) < (xl : Int)) = true := by simp; omega
                have hd2 : (p : Int) < (xl : Int) := by omega
                have Hxj := Lib.hid hxj
                clear hq2 hxp hxj
                have Hk1 := Lib.hid (show keepTo (fun i => !redB k RS i) RV (j + 1) = keepTo (fun i => !redB k RS i) RV j ++ [(.string rn, .slice xa ll xc)] by rw [keepTo, if_pos (by rw [Hred.out]; rfl), Hxr.out]; rfl)
                have Hst := Lib.hid (show (redTo k RS (j + 1)).length = p by rw [Hstep.out, Hred.out, if_neg (by simp), List.append_nil, Hpp.out])
                have v7 := HGL4.out.cell 7
                simp only [List.getElem?_toArray, List.getElem?_cons_succ, List.getElem?_cons_zero] at v7
                obtain ⟨u7, ur0, ur1⟩ := HSe.out w4 Hb4.out
                have hsz44 := Hb4.out.size
                go_wp2_with fail
                refine wp_region_pop (S := (fun w' => w'.cell? ⟨bl, 7, none⟩ = some (.slice la kn lc) ∧ w'.cell? ⟨B, 7, none⟩ = some (.slice (some ⟨rb, ro, none⟩) m c8) ∧ w'.cell? ⟨rb, ro + j * 2, none⟩ = some (.string rn) ∧ w'.cell? ⟨rb, ro + j * 2 + 1, none⟩ = some (.slice xa ll xc))) 10 (by kernel_rfl) (by kernel_rfl) (by exact ⟨v7, u7, ur0, ur1⟩) (fun hHeld => ?_)
                simp only [List.take_succ_cons, List.take_zero, List.drop_succ_cons, List.drop_zero]
                refine wpAnyH_take (i := 0) (v := ?v12) rfl (by kernel_rfl) (by kernel_rfl) (by kernel_rfl) (fun _ _ _ h => h) (Or.inl ⟨by rfl, ?hy12⟩) (by assumption) ?rest12
                case hy12 => (intro w hSw; (try dsimp only at hSw); go_simp; try (with_reducible rfl))
                try simp only [Act.put, List.getElem_toArray, List.getElem_cons_zero, List.setIfInBounds_toArray, List.set_cons_zero, List.set_cons_succ]
                refine wpAnyH_take (i := 1) (v := ?v13) rfl (by kernel_rfl) (by kernel_rfl) (by kernel_rfl) (fun _ _ _ h => h) (Or.inl ⟨by rfl, ?hy13⟩) (by assumption) ?rest13
                case hy13 => (intro w hSw; (try dsimp only at hSw); go_simp; try (with_reducible rfl))
                try simp only [Act.put, List.getElem_toArray, List.getElem_cons_zero, List.getElem_cons_succ, List.setIfInBounds_toArray, List.set_cons_zero, List.set_cons_succ]
                refine wpAnyH_take (i := 2) (v := ?v14) rfl (by kernel_rfl) (by kernel_rfl) (by kernel_rfl) (fun _ _ _ h => h) (Or.inl ⟨by rfl, ?hy14⟩) (by assumption) ?rest14
                case hy14 => (intro w hSw; (try dsimp only at hSw); go_simp; try (with_reducible rfl))
                try simp only [Act.put, List.getElem_toArray, List.getElem_cons_zero, List.getElem_cons_succ, List.setIfInBounds_toArray, List.set_cons_zero, List.set_cons_succ]
                refine wpAnyH_take (i := 3) (v := ?v15) rfl (by kernel_rfl) (by kernel_rfl) (by kernel_rfl) (fun _ _ _ h => h) (Or.inl ⟨by rfl, ?hy15⟩) (by assumption) ?rest15
                case hy15 => (intro w hSw; (try dsimp only at hSw); go_simp; try (with_reducible rfl))
                try simp only [Act.put, List.getElem_toArray, List.getElem_cons_zero, List.getElem_cons_succ, List.setIfInBounds_toArray, List.set_cons_zero, List.set_cons_succ]
                refine wpAnyH_take (i := 4) (v := ?v16) rfl (by kernel_rfl) (by kernel_rfl) (by kernel_rfl) (fun _ _ _ h => h) (Or.inl ⟨by rfl, ?hy16⟩) (by assumption) ?rest16
                case hy16 => (intro w hSw; (try dsimp only at hSw); go_simp; try (with_reducible rfl))
                try simp only [Act.put, List.getElem_toArray, List.getElem_cons_zero, List.getElem_cons_succ, List.setIfInBounds_toArray, List.set_cons_zero, List.set_cons_succ]
                refine wpAnyH_take (i := 5) (v := ?v17) rfl (by kernel_rfl) (by kernel_rfl) (by kernel_rfl) (fun _ _ _ h => h) (Or.inl ⟨by rfl, ?hy17⟩) (by assumption) ?rest17
                case hy17 => (intro w hSw; (try dsimp only at hSw); go_simp; try (with_reducible rfl))
                try simp only [Act.put, List.getElem_toArray, List.getElem_cons_zero, List.getElem_cons_succ, List.setIfInBounds_toArray, List.set_cons_zero, List.set_cons_succ]
                refine wpAnyH_take (i := 6) (v := ?v18) rfl (by kernel_rfl) (by kernel_rfl) (by kernel_rfl) (fun _ _ _ h => h) (Or.inl ⟨by rfl, ?hy18⟩) (by assumption) ?rest18
                case hy18 => (intro w hSw; (try dsimp only at hSw); go_simp; try (with_reducible rfl))
                try simp only [Act.put, List.getElem_toArray, List.getElem_cons_zero, List.getElem_cons_succ, List.setIfInBounds_toArray, List.set_cons_zero, List.set_cons_succ]
                refine wpAnyH_ready (rs := [7]) (by kernel_rfl) (by simp) ?_
                refine AllReadyH.cons rfl (fun K hK => ?_) AllReadyH.nil
                go_simp
                refine hK.out _ _ (by exact ⟨cell_alloc v7, cell_alloc u7, cell_alloc ur0, cell_alloc ur1⟩) (fun hHeld => ?_)
                clear hK K
                try simp only [Act.put, List.setIfInBounds_toArray, List.set_cons_zero, List.set_cons_succ]
                refine wpAnyH_ready (rs := [8]) (by kernel_rfl) (by simp) ?_
                refine AllReadyH.cons rfl (fun K hK => ?_) AllReadyH.nil
                refine stepApp E37 (by decide) _ (by rfl) _ _ (by rfl) (w2.heap.size + 2) kn (.slice la kn lc) _ _ (by rfl) (by rfl) (by exact How4.out.alloc _) (by exact heap_alloc_new _ _) (by rfl) (by simp [Value.oneCell']) (by omega) (by decide) (by simp; omega) ?_
                intro g2 cap2 w5 hown2 hgr hat2 hlt2
                have hgw := grown1 (grown_undrew hgr)
                have hb5 := Hb4.out.grown hgw Hb4.out.size (fun b hb => by have := (How4.out.lt b hb).1; omega)
                have hGL5 := HGL4.out.grown hgw (fun h => by have := (How4.out.lt _ h).1; omega)
                have hGM5 := HGM4.out.grown hgw (fun h => by have := (How4.out.lt _ h).1; omega)
                have hS5 := Sl.grown HS4.out hgw (fun b hb => by simp only [Value.ownBlock, Option.some.injEq] at hb; subst hb; exact Hsepz.out)
                have hg2 : g2 ≠ g := by
                  rcases hat2 with h | h
                  · intro he; rw [he] at h; exact Hsepz.out h
                  · simp at h; omega
                obtain ⟨y7, yr0, yr1⟩ := HSe.out w5 hb5
                have z7 := hGL5.cell 7
                have zf := hGL5.free 7
                simp only [List.getElem?_toArray, List.getElem?_cons_succ, List.getElem?_cons_zero] at z7
                refine hK.out _ _ (by exact ⟨z7, y7, yr0, yr1⟩) (fun hHeld => ?_)
                clear hK K
                try simp only [Act.put, List.setIfInBounds_toArray]
                refine wpAnyH_take (i := 9) (v := ?v19) rfl (by kernel_rfl) (by kernel_rfl) (by kernel_rfl) (fun _ _ _ h => h) (Or.inl ⟨by rfl, ?hy19⟩) (by assumption) ?rest19
                case hy19 => (intro w hSw; (try dsimp only at hSw); go_simp; try (with_reducible rfl))
                try simp only [Act.put, List.getElem_toArray, List.getElem_cons_zero, List.getElem_cons_succ, List.setIfInBounds_toArray, List.set_cons_zero, List.set_cons_succ]
                refine wpAnyH_done (by kernel_rfl) ?_ _
                simp only [Exit.then]
                go_wp2_with fail
                go_roundw
                case rel =>
                  have Hk2 : (keepTo (fun i => !redB k RS i) RV (j + 1)).length = kn + 1 := by rw [Hk1.out, List.length_append, Hkn.out]; rfl
                  have hfin : ∀ V : Value, (w5.setCell ⟨bl, 7, none⟩ V).ownsRow (w2.heap.size + 2) 70 2 (.slice (some ⟨g2, 0, none⟩) (kn + 1) cap2) (kn + 1) ((keepTo (fun i => !redB k RS i) RV (j + 1)).map _root_.Go.Proofs.Ytkphggmbimjhjaa.c2).flatten := fun V => by
                    have := ownsRow_setCell_below hown2 (a := ⟨bl, 7, none⟩) (by exact hl2) V
                    rw [Hk1.out]
                    simpa [_root_.Go.Proofs.Ytkphggmbimjhjaa.c2] using this
                  refine ⟨j + 1, some ⟨g2, 0, none⟩, some ⟨g, 0, none⟩, cap2, cap, by omega, by go_num, by rw [Hst.out], hb5.setCell (p := ⟨bl, 7, none⟩) (by exact hl1) _, ?_, by rw [Hk2]; exact hGL5.set 7 _, hGM5.other (p := ⟨bl, 7, none⟩) (by exact hne2) _, by rw [Hk2]; exact hfin _, hS5.setCell (p := ⟨bl, 7, none⟩) (fun b hb => by simp only [Value.ownBlock, Option.some.injEq] at hb; show b ≠ bl; omega) _, fun b hb => ?_⟩
                  · have := hgw.size; simp; omega
                  · simp only [Value.ownBlock, Option.some.injEq] at hb; subst hb; exact ⟨hgz, fun h => by simp only [Value.ownBlock, Option.some.injEq] at h; exact hg2 h⟩
                case measure => simp [intOf]; omega
              · have hd1 : decide ((p : Int) < (xl : Int)) = false := by simp; omega
                clear hq2
                have Hk1 := Lib.hid (show keepTo (fun i => !redB k RS i) RV (j + 1) = keepTo (fun i => !redB k RS i) RV j ++ [(.string rn, .slice xa ll xc)] by rw [keepTo, if_pos (by rw [Hred.out]; rfl), Hxr.out]; rfl)
                have Hst := Lib.hid (show (redTo k RS (j + 1)).length = p by rw [Hstep.out, Hred.out, if_neg (by simp), List.append_nil, Hpp.out])
                have v7 := HGL4.out.cell 7
                simp only [List.getElem?_toArray, List.getElem?_cons_succ, List.getElem?_cons_zero] at v7
                obtain ⟨u7, ur0, ur1⟩ := HSe.out w4 Hb4.out
                have hsz44 := Hb4.out.size
                go_wp2_with fail
                refine wp_region_pop (S := (fun w' => w'.cell? ⟨bl, 7, none⟩ = some (.slice la kn lc) ∧ w'.cell? ⟨B, 7, none⟩ = some (.slice (some ⟨rb, ro, none⟩) m c8) ∧ w'.cell? ⟨rb, ro + j * 2, none⟩ = some (.string rn) ∧ w'.cell? ⟨rb, ro + j * 2 + 1, none⟩ = some (.slice xa ll xc))) 10 (by kernel_rfl) (by kernel_rfl) (by exact ⟨v7, u7, ur0, ur1⟩) (fun hHeld => ?_)
                simp only [List.take_succ_cons, List.take_zero, List.drop_succ_cons, List.drop_zero]
                refine wpAnyH_take (i := 0) (v := ?v20) rfl (by kernel_rfl) (by kernel_rfl) (by kernel_rfl) (fun _ _ _ h => h) (Or.inl ⟨by rfl, ?hy20⟩) (by assumption) ?rest20
                case hy20 => (intro w hSw; (try dsimp only at hSw); go_simp; try (with_reducible rfl))
                try simp only [Act.put, List.getElem_toArray, List.getElem_cons_zero, List.setIfInBounds_toArray, List.set_cons_zero, List.set_cons_succ]
                refine wpAnyH_take (i := 1) (v := ?v21) rfl (by kernel_rfl) (by kernel_rfl) (by kernel_rfl) (fun _ _ _ h => h) (Or.inl ⟨by rfl, ?hy21⟩) (by assumption) ?rest21
                case hy21 => (intro w hSw; (try dsimp only at hSw); go_simp; try (with_reducible rfl))
                try simp only [Act.put, List.getElem_toArray, List.getElem_cons_zero, List.getElem_cons_succ, List.setIfInBounds_toArray, List.set_cons_zero, List.set_cons_succ]
                refine wpAnyH_take (i := 2) (v := ?v22) rfl (by kernel_rfl) (by kernel_rfl) (by kernel_rfl) (fun _ _ _ h => h) (Or.inl ⟨by rfl, ?hy22⟩) (by assumption) ?rest22
                case hy22 => (intro w hSw; (try dsimp only at hSw); go_simp; try (with_reducible rfl))
                try simp only [Act.put, List.getElem_toArray, List.getElem_cons_zero, List.getElem_cons_succ, List.setIfInBounds_toArray, List.set_cons_zero, List.set_cons_succ]
                refine wpAnyH_take (i := 3) (v := ?v23) rfl (by kernel_rfl) (by kernel_rfl) (by kernel_rfl) (fun _ _ _ h => h) (Or.inl ⟨by rfl, ?hy23⟩) (by assumption) ?rest23
                case hy23 => (intro w hSw; (try dsimp only at hSw); go_simp; try (with_reducible rfl))
                try simp only [Act.put, List.getElem_toArray, List.getElem_cons_zero, List.getElem_cons_succ, List.setIfInBounds_toArray, List.set_cons_zero, List.set_cons_succ]
                refine wpAnyH_take (i := 4) (v := ?v24) rfl (by kernel_rfl) (by kernel_rfl) (by kernel_rfl) (fun _ _ _ h => h) (Or.inl ⟨by rfl, ?hy24⟩) (by assumption) ?rest24
                case hy24 => (intro w hSw; (try dsimp only at hSw); go_simp; try (with_reducible rfl))
                try simp only [Act.put, List.getElem_toArray, List.getElem_cons_zero, List.getElem_cons_succ, List.setIfInBounds_toArray, List.set_cons_zero, List.set_cons_succ]
                refine wpAnyH_take (i := 5) (v := ?v25) rfl (by kernel_rfl) (by kernel_rfl) (by kernel_rfl) (fun _ _ _ h => h) (Or.inl ⟨by rfl, ?hy25⟩) (by assumption) ?rest25
                case hy25 => (intro w hSw; (try dsimp only at hSw); go_simp; try (with_reducible rfl))
                try simp only [Act.put, List.getElem_toArray, List.getElem_cons_zero, List.getElem_cons_succ, List.setIfInBounds_toArray, List.set_cons_zero, List.set_cons_succ]
                refine wpAnyH_take (i := 6) (v := ?v26) rfl (by kernel_rfl) (by kernel_rfl) (by kernel_rfl) (fun _ _ _ h => h) (Or.inl ⟨by rfl, ?hy26⟩) (by assumption) ?rest26
                case hy26 => (intro w hSw; (try dsimp only at hSw); go_simp; try (with_reducible rfl))
                try simp only [Act.put, List.getElem_toArray, List.getElem_cons_zero, List.getElem_cons_succ, List.setIfInBounds_toArray, List.set_cons_zero, List.set_cons_succ]
                refine wpAnyH_ready (rs := [7]) (by kernel_rfl) (by simp) ?_
                refine AllReadyH.cons rfl (fun K hK => ?_) AllReadyH.nil
                go_simp
                refine hK.out _ _ (by exact ⟨cell_alloc v7, cell_alloc u7, cell_alloc ur0, cell_alloc ur1⟩) (fun hHeld => ?_)
                clear hK K
                try simp only [Act.put, List.setIfInBounds_toArray, List.set_cons_zero, List.set_cons_succ]
                refine wpAnyH_ready (rs := [8]) (by kernel_rfl) (by simp) ?_
                refine AllReadyH.cons rfl (fun K hK => ?_) AllReadyH.nil
                refine stepApp E37 (by decide) _ (by rfl) _ _ (by rfl) (w2.heap.size + 2) kn (.slice la kn lc) _ _ (by rfl) (by rfl) (by exact How4.out.alloc _) (by exact heap_alloc_new _ _) (by rfl) (by simp [Value.oneCell']) (by omega) (by decide) (by simp; omega) ?_
                intro g2 cap2 w5 hown2 hgr hat2 hlt2
                have hgw := grown1 (grown_undrew hgr)
                have hb5 := Hb4.out.grown hgw Hb4.out.size (fun b hb => by have := (How4.out.lt b hb).1; omega)
                have hGL5 := HGL4.out.grown hgw (fun h => by have := (How4.out.lt _ h).1; omega)
                have hGM5 := HGM4.out.grown hgw (fun h => by have := (How4.out.lt _ h).1; omega)
                have hS5 := Sl.grown HS4.out hgw (fun b hb => by simp only [Value.ownBlock, Option.some.injEq] at hb; subst hb; exact Hsepz.out)
                have hg2 : g2 ≠ g := by
                  rcases hat2 with h | h
                  · intro he; rw [he] at h; exact Hsepz.out h
                  · simp at h; omega
                obtain ⟨y7, yr0, yr1⟩ := HSe.out w5 hb5
                have z7 := hGL5.cell 7
                have zf := hGL5.free 7
                simp only [List.getElem?_toArray, List.getElem?_cons_succ, List.getElem?_cons_zero] at z7
                refine hK.out _ _ (by exact ⟨z7, y7, yr0, yr1⟩) (fun hHeld => ?_)
                clear hK K
                try simp only [Act.put, List.setIfInBounds_toArray]
                refine wpAnyH_take (i := 9) (v := ?v27) rfl (by kernel_rfl) (by kernel_rfl) (by kernel_rfl) (fun _ _ _ h => h) (Or.inl ⟨by rfl, ?hy27⟩) (by assumption) ?rest27
                case hy27 => (intro w hSw; (try dsimp only at hSw); go_simp; try (with_reducible rfl))
                try simp only [Act.put, List.getElem_toArray, List.getElem_cons_zero, List.getElem_cons_succ, List.setIfInBounds_toArray, List.set_cons_zero, List.set_cons_succ]
                refine wpAnyH_done (by kernel_rfl) ?_ _
                simp only [Exit.then]
                go_wp2_with fail
                go_roundw
                case rel =>
                  have Hk2 : (keepTo (fun i => !redB k RS i) RV (j + 1)).length = kn + 1 := by rw [Hk1.out, List.length_append, Hkn.out]; rfl
                  have hfin : ∀ V : Value, (w5.setCell ⟨bl, 7, none⟩ V).ownsRow (w2.heap.size + 2) 70 2 (.slice (some ⟨g2, 0, none⟩) (kn + 1) cap2) (kn + 1) ((keepTo (fun i => !redB k RS i) RV (j + 1)).map _root_.Go.Proofs.Ytkphggmbimjhjaa.c2).flatten := fun V => by
                    have := ownsRow_setCell_below hown2 (a := ⟨bl, 7, none⟩) (by exact hl2) V
                    rw [Hk1.out]
                    simpa [_root_.Go.Proofs.Ytkphggmbimjhjaa.c2] using this
                  refine ⟨j + 1, some ⟨g2, 0, none⟩, some ⟨g, 0, none⟩, cap2, cap, by omega, by go_num, by rw [Hst.out], hb5.setCell (p := ⟨bl, 7, none⟩) (by exact hl1) _, ?_, by rw [Hk2]; exact hGL5.set 7 _, hGM5.other (p := ⟨bl, 7, none⟩) (by exact hne2) _, by rw [Hk2]; exact hfin _, hS5.setCell (p := ⟨bl, 7, none⟩) (fun b hb => by simp only [Value.ownBlock, Option.some.injEq] at hb; show b ≠ bl; omega) _, fun b hb => ?_⟩
                  · have := hgw.size; simp; omega
                  · simp only [Value.ownBlock, Option.some.injEq] at hb; subst hb; exact ⟨hgz, fun h => by simp only [Value.ownBlock, Option.some.injEq] at h; exact hg2 h⟩
                case measure => simp [intOf]; omega
            · have hq := Hat.out.1 hred
              have Hred := Lib.hid hred
              have hpx : p < xl := by have := lt_of_get hq; rw [HXl.out] at this; exact this
              have hve := Hvl2.out.2 hred
              have hme : ((vm : Int) == (vn : Int)) = true := by simp; omega
              obtain ⟨xb, xo, xi, hax, hxp, hxc⟩ := (show Ints w2 (.slice ax xl cx) X by first | exact Hxi.out | (have h := Hxi.out; rw [HXl.out] at h; exact h)).at Hb4.out (k := p) hpx
              cases hax
              rw [hq] at hxp
              cases hxp
              have hd1 : decide ((p : Int) < (xl : Int)) = true := by simp; omega
              have hd2 : (p : Int) < (xl : Int) := by omega
              have hjj3 : ((j : Int) == (j : Int)) = true := by simp
              have Hk1 := Lib.hid (show keepTo (fun i => !redB k RS i) RV (j + 1) = keepTo (fun i => !redB k RS i) RV j by rw [keepTo, if_neg (by rw [Hred.out]; simp), List.append_nil])
              have Hst := Lib.hid (show (redTo k RS (j + 1)).length = p + 1 by rw [Hstep.out, Hred.out, if_pos rfl, List.length_append, Hpp.out]; rfl)
              have Hve := Lib.hid hve
              clear hred hq hve
              go_wp2_with fail
              go_roundw
              case rel =>
                refine ⟨j + 1, la, some ⟨g, 0, none⟩, lc, cap, by omega, by go_num, by rw [Hst.out]; go_num, Hb4.out, by omega, by rw [Hk1.out, Hkn.out]; exact HGL4.out, HGM4.out, by rw [Hk1.out, Hkn.out]; exact How4.out, HS4.out, fun b hb => ?_⟩
                simp only [Value.ownBlock, Option.some.injEq] at hb; subst hb; rw [Hk1.out, Hkn.out]; exact ⟨hgz, Hsepz.out⟩
              case measure => simp [intOf]; omega
        · obtain rfl : m = j := by omega
          rw [HXX.out, HXl.out]
          have hxx : ((xl : Int) == (xl : Int)) = true := by simp
          have hFM := HF.out wr (Hb2.out.via hbr Hb2.out.size)
          have hKR := keepTo_row HRow.out (fun i => !redB k RS i) m
          have hKl := hKR.1
          have hKL : (keepTo (fun i => !redB k RS i) RS m).length ≤ m := keepTo_len _ _ _
          have hFL : Fam wr baseS nilV (.slice ai 3 ci) (.slice ad 2 cd) nilV nilV (.slice a7 k c7) (.slice la (keepTo (fun i => !redB k RS i) RV m).length lc) (.slice a9 (min D.length 4) c9) (.slice a10 (min O.length 4) c10) (optsTo k) (keepTo (fun i => !redB k RS i) RS m) _ _ 3 baseDims := ⟨hFM.insts, hFM.dims, hFM.opt, hKR.rules hbr (own_rows how), hFM.grd, hFM.ovr, famOk_sub hFM.ok ((keepTo_sub _ _ _).trans (List.take_sublist _ _))⟩
          have hall1 := allowedL_nums (ch := []) k (by omega) (fun l hl => by simp at hl) Hlit.out
          have hall2 := allowedL_nums (ch := []) (rs := keepTo (fun i => !redB k RS i) RS m) k (by omega) (fun l hl => by simp at hl) (fun r hr => Hlit.out r (List.mem_of_mem_take ((keepTo_sub _ _ _).subset hr)))
          have hsame := less_same k RS m (by rw [Hrl.out]; exact Nat.le_refl _)
          rw [show RS.take m = RS by rw [← Hrl.out, List.take_length]] at hsame
          rw [hsame, ← hKl] at hall2
          rw [Hrl.out] at hall1
          have hz64 : ((okNums k [] RS).map (setN k)).length ≤ 64 := by rw [List.length_map]; exact okNums_len3 k hk6 _ _
          generalize hZ : (okNums k [] RS).map (setN k) = Z at *
          have H17a := Lib.hid (fun w' ov (h : Below wr.heap.size wr w') (ho : Bools w' ov (List.replicate (keepTo (fun i => !redB k RS i) RV m).length false)) => allowed_any baseS nilV (.slice ai 3 ci) (.slice ad 2 cd) nilV nilV (.slice a7 k c7) (.slice la (keepTo (fun i => !redB k RS i) RV m).length lc) (.slice a9 (min D.length 4) c9) (.slice a10 (min O.length 4) c10) ov (.slice none 0 0) a7 k c7 _ _ [] w' rfl hk6 (hFL.mono h).rul ho (Sl.nil w' 2) (rulesOk_of hFL.ok) (fun l hl => by simp at hl) (by decide) (by rw [List.length_replicate]; exact hKl) (by omega))
          have H17b := Lib.hid (fun w' ov (h : Below wr.heap.size wr w') (ho : Bools w' ov (List.replicate m false)) => allowed_any baseS nilV (.slice ai 3 ci) (.slice ad 2 cd) nilV nilV (.slice a7 k c7) (.slice a8 m c8) (.slice a9 (min D.length 4) c9) (.slice a10 (min O.length 4) c10) ov (.slice none 0 0) a7 k c7 _ _ [] w' rfl hk6 (hFM.mono h).rul ho (Sl.nil w' 2) (rulesOk_of hFM.ok) (fun l hl => by simp at hl) (by decide) (by rw [List.length_replicate]; exact Hrl.out.symm) (by rw [Hrl.out]; omega))
          rw [hall1] at H17b
          rw [hall2] at H17a
          have hkl9 : (keepTo (fun i => !redB k RS i) RV m).length ≤ m := keepTo_len _ _ _
          generalize (keepTo (fun i => !redB k RS i) RV m).length = kl at *
          generalize hzl : Z.length = zl at *
          have Hzl := Lib.hid hzl
          have HS24 := Lib.hid (fun w' (h : Below wr.heap.size wr w') => And.intro (blk10c (blk10 (hGL.below h))) (blk10c (HB.out w' ((Hb2.out.via hbr Hb2.out.size).via h (Hb2.out.via hbr Hb2.out.size).size))))
          obtain ⟨f0, f1, f2, f3, f4, f5, f6, f7, f8, f9, -⟩ := HB.out wr (Hb2.out.via hbr Hb2.out.size)
          have Hbr := Lib.hid hbr
          clear hFM hKR hFL hall1 hall2 hsame hZ hbr hGL hGM how hSB hsep hKl hKL hat hzl
          go_wp2_with fail
          refine wp_region_held_drew (S := (fun w' => (w'.cell? ⟨bl, 0, none⟩ = some baseS ∧ w'.cell? ⟨bl, 1, none⟩ = some nilV ∧ w'.cell? ⟨bl, 2, none⟩ = some (.slice ai 3 ci) ∧ w'.cell? ⟨bl, 3, none⟩ = some (.slice ad 2 cd) ∧ w'.cell? ⟨bl, 4, none⟩ = some nilV ∧ w'.cell? ⟨bl, 5, none⟩ = some nilV ∧ w'.cell? ⟨bl, 6, none⟩ = some (.slice a7 k c7) ∧ w'.cell? ⟨bl, 7, none⟩ = some (.slice la kl lc) ∧ w'.cell? ⟨bl, 8, none⟩ = some (.slice a9 (min D.length 4) c9) ∧ w'.cell? ⟨bl, 9, none⟩ = some (.slice a10 (min O.length 4) c10)) ∧ (w'.cell? ⟨B, 0, none⟩ = some baseS ∧ w'.cell? ⟨B, 1, none⟩ = some nilV ∧ w'.cell? ⟨B, 2, none⟩ = some (.slice ai 3 ci) ∧ w'.cell? ⟨B, 3, none⟩ = some (.slice ad 2 cd) ∧ w'.cell? ⟨B, 4, none⟩ = some nilV ∧ w'.cell? ⟨B, 5, none⟩ = some nilV ∧ w'.cell? ⟨B, 6, none⟩ = some (.slice a7 k c7) ∧ w'.cell? ⟨B, 7, none⟩ = some (.slice a8 m c8) ∧ w'.cell? ⟨B, 8, none⟩ = some (.slice a9 (min D.length 4) c9) ∧ w'.cell? ⟨B, 9, none⟩ = some (.slice a10 (min O.length 4) c10)))) (by kernel_rfl) (by exact HS24.out _ (Below.refl _ _).drew) (fun hHeld => ?_)
          refine wpAnyH_take (i := 0) (v := ?v28) rfl (by kernel_rfl) (by kernel_rfl) (by kernel_rfl) (fun _ _ _ h => h) (Or.inl ⟨by rfl, ?hy28⟩) (by assumption) ?rest28
          case hy28 => (intro w hSw; (try dsimp only at hSw); go_simp; try (with_reducible rfl))
          try simp only [Act.put, List.getElem_toArray, List.getElem_cons_zero, List.setIfInBounds_toArray, List.set_cons_zero, List.set_cons_succ]
          refine wpAnyH_take (i := 1) (v := ?v29) rfl (by kernel_rfl) (by kernel_rfl) (by kernel_rfl) (fun _ _ _ h => h) (Or.inl ⟨by rfl, ?hy29⟩) (by assumption) ?rest29
          case hy29 => (intro w hSw; (try dsimp only at hSw); go_simp; try (with_reducible rfl))
          try simp only [Act.put, List.getElem_toArray, List.getElem_cons_zero, List.getElem_cons_succ, List.setIfInBounds_toArray, List.set_cons_zero, List.set_cons_succ]
          refine wpAnyH_take (i := 2) (v := ?v30) rfl (by kernel_rfl) (by kernel_rfl) (by kernel_rfl) (fun _ _ _ h => h) (Or.inl ⟨by rfl, ?hy30⟩) (by assumption) ?rest30
          case hy30 => (intro w hSw; (try dsimp only at hSw); go_simp; try (with_reducible rfl))
          try simp only [Act.put, List.getElem_toArray, List.getElem_cons_zero, List.getElem_cons_succ, List.setIfInBounds_toArray, List.set_cons_zero, List.set_cons_succ]
          refine wpAnyH_take (i := 3) (v := ?v31) rfl (by kernel_rfl) (by kernel_rfl) (by kernel_rfl) (fun _ _ _ h => h) (Or.inl ⟨by rfl, ?hy31⟩) (by assumption) ?rest31
          case hy31 => (intro w hSw; (try dsimp only at hSw); go_simp; try (with_reducible rfl))
          try simp only [Act.put, List.getElem_toArray, List.getElem_cons_zero, List.getElem_cons_succ, List.setIfInBounds_toArray, List.set_cons_zero, List.set_cons_succ]
          refine wpAnyH_take (i := 4) (v := ?v32) rfl (by kernel_rfl) (by kernel_rfl) (by kernel_rfl) (fun _ _ _ h => h) (Or.inl ⟨by rfl, ?hy32⟩) (by assumption) ?rest32
          case hy32 => (intro w hSw; (try dsimp only at hSw); go_simp; try (with_reducible rfl))
          try simp only [Act.put, List.getElem_toArray, List.getElem_cons_zero, List.getElem_cons_succ, List.setIfInBounds_toArray, List.set_cons_zero, List.set_cons_succ]
          refine wpAnyH_take (i := 5) (v := ?v33) rfl (by kernel_rfl) (by kernel_rfl) (by kernel_rfl) (fun _ _ _ h => h) (Or.inl ⟨by rfl, ?hy33⟩) (by assumption) ?rest33
          case hy33 => (intro w hSw; (try dsimp only at hSw); go_simp; try (with_reducible rfl))
          try simp only [Act.put, List.getElem_toArray, List.getElem_cons_zero, List.getElem_cons_succ, List.setIfInBounds_toArray, List.set_cons_zero, List.set_cons_succ]
          refine wpAnyH_take (i := 6) (v := ?v34) rfl (by kernel_rfl) (by kernel_rfl) (by kernel_rfl) (fun _ _ _ h => h) (Or.inl ⟨by rfl, ?hy34⟩) (by assumption) ?rest34
          case hy34 => (intro w hSw; (try dsimp only at hSw); go_simp; try (with_reducible rfl))
          try simp only [Act.put, List.getElem_toArray, List.getElem_cons_zero, List.getElem_cons_succ, List.setIfInBounds_toArray, List.set_cons_zero, List.set_cons_succ]
          refine wpAnyH_take (i := 9) (v := ?v35) rfl (by kernel_rfl) (by kernel_rfl) (by kernel_rfl) (fun _ _ _ h => h) (Or.inl ⟨by rfl, ?hy35⟩) (by assumption) ?rest35
          case hy35 => (intro w hSw; (try dsimp only at hSw); go_simp; try (with_reducible rfl))
          try simp only [Act.put, List.getElem_toArray, List.getElem_cons_zero, List.getElem_cons_succ, List.setIfInBounds_toArray, List.set_cons_zero, List.set_cons_succ]
          refine wpAnyH_take (i := 10) (v := ?v36) rfl (by kernel_rfl) (by kernel_rfl) (by kernel_rfl) (fun _ _ _ h => h) (Or.inl ⟨by rfl, ?hy36⟩) (by assumption) ?rest36
          case hy36 => (intro w hSw; (try dsimp only at hSw); go_simp; try (with_reducible rfl))
          try simp only [Act.put, List.getElem_toArray, List.getElem_cons_zero, List.getElem_cons_succ, List.setIfInBounds_toArray, List.set_cons_zero, List.set_cons_succ]
          refine wpAnyH_ready (rs := [7]) (by kernel_rfl) (by simp) ?_
          refine AllReadyH.cons rfl (fun K hK => ?_) AllReadyH.nil
          go_simp
          go_at_call 18
          refine (none_any _ _ _ _ _ _ _ _ _ _ _ _ _ (by omega)).mono ?_
          rintro e2 wA ⟨ovA, rfl, hboA, hbA⟩
          obtain ⟨aoA, coA, rfl, -, -⟩ := hboA.open
          rw [List.length_replicate] at hboA
          have HboA := Lib.hid hboA
          have HbA := Lib.hid (show Below wr.heap.size wr wA from undrew hbA)
          clear hboA hbA
          refine hK.out _ _ (by exact HS24.out _ HbA.out) (fun hHeld => ?_)
          clear hK K
          try simp only [Act.put, List.setIfInBounds_toArray, List.set_cons_zero, List.set_cons_succ]
          refine wpAnyH_ready (rs := [8]) (by kernel_rfl) (by simp) ?_
          refine AllReadyH.cons rfl (fun K hK => ?_) AllReadyH.nil
          go_simp
          go_at_call 17
          refine (H17a.out _ _ HbA.out HboA.out).mono ?_
          rintro e2 wC ⟨lvC, rfl, hlC, hbC⟩
          obtain ⟨alC, clC, rfl, -, -⟩ := hlC.open
          rw [Hzl.out] at hlC
          rw [Hzl.out]
          have HlC := Lib.hid hlC
          have HbbC := Lib.hid hbC
          have HbC := Lib.hid (show Below wr.heap.size wr wC from HbA.out.via hbC HbA.out.size)
          clear hlC hbC
          refine hK.out _ _ (by exact HS24.out _ HbC.out) (fun hHeld => ?_)
          clear hK K
          try simp only [Act.put, List.setIfInBounds_toArray, List.set_cons_zero, List.set_cons_succ]
          refine wpAnyH_ready (rs := [11]) (by kernel_rfl) (by simp) ?_
          refine AllReadyH.cons rfl (fun K hK => ?_) AllReadyH.nil
          go_simp
          go_at_call 18
          refine (none_any _ _ _ _ _ _ _ _ _ _ _ _ _ (by omega)).mono ?_
          rintro e2 wE ⟨ovE, rfl, hboE, hbE⟩
          obtain ⟨aoE, coE, rfl, -, -⟩ := hboE.open
          rw [List.length_replicate] at hboE
          have HboE := Lib.hid hboE
          have HbE := Lib.hid (show Below wr.heap.size wr wE from HbC.out.via hbE HbC.out.size)
          have HbEC := Lib.hid hbE
          clear hboE hbE
          refine hK.out _ _ (by exact HS24.out _ HbE.out) (fun hHeld => ?_)
          clear hK K
          try simp only [Act.put, List.setIfInBounds_toArray, List.set_cons_zero, List.set_cons_succ]
          refine wpAnyH_ready (rs := [12]) (by kernel_rfl) (by simp) ?_
          refine AllReadyH.cons rfl (fun K hK => ?_) AllReadyH.nil
          go_simp
          go_at_call 17
          refine (H17b.out _ _ HbE.out HboE.out).mono ?_
          rintro e2 wG ⟨lvG, rfl, hlG, hbG⟩
          obtain ⟨alG, clG, rfl, -, -⟩ := hlG.open
          rw [Hzl.out] at hlG
          rw [Hzl.out]
          have HlG := Lib.hid hlG
          have HbbG := Lib.hid hbG
          have HbG := Lib.hid (show Below wr.heap.size wr wG from HbE.out.via hbG HbE.out.size)
          clear hlG hbG
          have HlCG := (HlC.out.mono HbEC.out).mono HbbG.out
          refine hK.out _ _ (by exact HS24.out _ HbG.out) (fun hHeld => ?_)
          clear hK K
          try simp only [Act.put, List.setIfInBounds_toArray, List.set_cons_zero, List.set_cons_succ]
          refine wpAnyH_ready (rs := [13]) (by kernel_rfl) (by simp) ?_
          refine AllReadyH.cons rfl (fun K hK => ?_) AllReadyH.nil
          go_simp
          go_at_call 25
          refine (sameInts_any _ _ _ _ _ (by exact HlCG) (by exact HlG.out) (by rw [Hzl.out]; omega)).mono ?_
          rintro e2 wH ⟨rfl, hbH⟩
          rw [decide_eq_true rfl]
          have HbH := Lib.hid (show Below wr.heap.size wr wH from HbG.out.via hbH HbG.out.size)
          clear hbH
          refine hK.out _ _ (by exact HS24.out _ HbH.out) (fun hHeld => ?_)
          clear hK K
          try simp only [Act.put, List.setIfInBounds_toArray, List.set_cons_zero, List.set_cons_succ]
          refine wpAnyH_take (i := 14) (v := ?v37) rfl (by kernel_rfl) (by kernel_rfl) (by kernel_rfl) (fun _ _ _ h => h) (Or.inl ⟨by rfl, ?hy37⟩) (by assumption) ?rest37
          case hy37 => (intro w hSw; (try dsimp only at hSw); go_simp; try (with_reducible rfl))
          try simp only [Act.put, List.getElem_toArray, List.getElem_cons_zero, List.getElem_cons_succ, List.setIfInBounds_toArray, List.set_cons_zero, List.set_cons_succ]
          refine wpAnyH_take (i := 15) (v := ?v38) rfl (by kernel_rfl) (by kernel_rfl) (by kernel_rfl) (fun _ _ _ h => h) (Or.inl ⟨by rfl, ?hy38⟩) (by assumption) ?rest38
          case hy38 => (intro w hSw; (try dsimp only at hSw); go_simp; try (with_reducible rfl))
          try simp only [Act.put, List.getElem_toArray, List.getElem_cons_zero, List.getElem_cons_succ, List.setIfInBounds_toArray, List.set_cons_zero, List.set_cons_succ]
          refine wpAnyH_done (by kernel_rfl) ?_ _
          simp only [Exit.then]
          go_wp2_with fail
          go_ret
          exact Ret.mk (Hbw.out.via (Hb2.out.via (Hbr.out.via HbH.out Hbr.out.size) Hb2.out.size) Hbw.out.size)

end Go.Proofs.Ytkphggmbimjhjaa
