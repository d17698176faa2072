/-
  VariantConflicts: the walk.
-/
import Derived.Test.YtkphggmbimjhjaaFat
import Derived.Test.YtkphggmbimjhjaaAll
import Derived.Test.YtkphggmbimjhjaaSame
import Derived.Test.YtkphggmbimjhjaaCf2
import Derived.Test.YtkphggmbimjhjaaDec
import Derived.Test.YtkphggmbimjhjaaCm
import Derived.Test.YtkphggmbimjhjaaCp
import Derived.Test.YtkphggmbimjhjaaCq
import Derived.Deep.CutBlock
import Derived.Deep.DeepCutAuto
namespace Go.Proofs.Ytkphggmbimjhjaa
open Go.RowKit

theorem okNums_len2 (k : Nat) (hk : k ≤ 6) (ch : List Lit1) (rs : List Rule1) : (okNums k ch rs).length ≤ 64 := by
  have h := List.length_filter_le (fun i => cOk ch rs (cfgN k i)) (List.range (2 ^ k))
  have h2 : (2 : Nat) ^ k ≤ 2 ^ 6 := Nat.pow_le_pow_right (by omega) hk
  unfold okNums
  rw [List.length_range] at h
  omega

set_option maxHeartbeats 8000000 in
set_option maxRecDepth 100000 in
theorem conflicts_any (N : Int) (R D O : List (List Int)) (a2 a3 a4 : Option Addr) (c2 c3 c4 : Nat) (a1 : Option Addr) (c : Nat) (code : List Int) (w : World) (h11 : Hid (∀ w, Calls Try.prog 11 #[] w (Ret (.bool true) w))) (hN0 : 0 ≤ N) (hN : N < 256)
    (hRr : ∀ r ∈ R, ∀ x ∈ r, -128 ≤ x ∧ x ≤ 127) (hDr : ∀ r ∈ D, ∀ x ∈ r, -128 ≤ x ∧ x ≤ 127) (hOr : ∀ r ∈ O, ∀ x ∈ r, -128 ≤ x ∧ x ≤ 127) (hR : M8 w (.slice a2 R.length c2) R) (hD : M8 w (.slice a3 D.length c3) D) (hO : M8 w (.slice a4 O.length c4) O) (hC : I8s w (.slice a1 code.length c) code) (hcr : ∀ x ∈ code, -128 ≤ x ∧ x ≤ 127) :
    Calls Try.prog 5 #[.agg #[.int .u8 N, .slice a2 R.length c2, .slice a3 D.length c3, .slice a4 O.length c4], .slice a1 code.length c] w (Ret (.bool true) w) := by
  have HFa0 := Lib.hid (fun w2 ai ci ad cd (h2 : Below w.heap.size w w2) (hdim : Dims w2 (.slice ad 2 cd) baseDims) => family_any N R D O (.slice a2 R.length c2) (.slice a3 D.length c3) (.slice a4 O.length c4) ai ci ad cd w2 hN0 hN hRr hDr hOr (hR.mono h2) (hD.mono h2) (hO.mono h2) hdim)
  obtain ⟨k, Hk, hk1, hk6⟩ : ∃ k : Nat, Hid ((1 + N % 6).toNat = k) ∧ 1 ≤ k ∧ k ≤ 6 := ⟨_, Lib.hid rfl, by omega, by omega⟩
  rw [Hk.out] at HFa0
  clear hRr hDr hOr hR hD hO hN0 hN Hk
  generalize hn2 : R.length = n2 at *
  generalize hn3 : D.length = n3 at *
  generalize hn4 : O.length = n4 at *
  have Hn2 := Lib.hid hn2
  have Hn3 := Lib.hid hn3
  have Hn4 := Lib.hid hn4
  clear hn2 hn3 hn4
  have HC := Lib.hid hC
  have Hcr := Lib.hid hcr
  generalize code.length = n at *
  clear hC hcr
  go_enter Try.func5, Try.ntmps5
  go_upto_region 4 with (go_at_call 11; refine (h11.out _).mono ?_; rintro e w1 ⟨rfl, hb1⟩)
  go_cut [5] (fun s5 wx => ∃ B ai ci ad cd a7 c7 a8 c8 a9 c9 a10 c10, s5 = .pointer (some ⟨B, 0, none⟩) ∧ FamAt wx B k R D O ai ci ad cd a7 c7 a8 c8 a9 c9 a10 c10 ∧ Below w.heap.size w wx)
  case first =>
    have hb0 := below1 w (.cells #[.int .u8 N, .slice a2 n2 c2, .slice a3 n3 c3, .slice a4 n4 c4] 24)
    have hbw : Below w.heap.size w w1 := hb0.via hb1 hb0.size
    have Hkin := Lib.hid (fun w' (h : Below w1.heap.size w1 w') => blk4 (((Blk.new w #[.int .u8 N, .slice a2 n2 c2, .slice a3 n3 c3, .slice a4 n4 c4] 24).below hb1).below h))
    have HFa := Lib.hid (fun w2 ai ci ad cd (h2 : Below w1.heap.size w1 w2) hdim => HFa0.out w2 ai ci ad cd (hbw.via h2 hbw.size) hdim)
    refine wp_region_pop (S := (fun w' => w'.cell? ⟨w.heap.size, 0, none⟩ = some (.int .u8 N) ∧ w'.cell? ⟨w.heap.size, 1, none⟩ = some (.slice a2 n2 c2) ∧ w'.cell? ⟨w.heap.size, 2, none⟩ = some (.slice a3 n3 c3) ∧ w'.cell? ⟨w.heap.size, 3, none⟩ = some (.slice a4 n4 c4))) 4 (by kernel_rfl) (by kernel_rfl) (by exact Hkin.out w1.drew (Below.refl _ _).drew) (fun hHeld => ?_)
    simp only [List.take_succ_cons, List.take_zero, List.drop_succ_cons, List.drop_zero]
    refine wpAnyH_take (i := 0) (v := ?v1) rfl (by kernel_rfl) (by kernel_rfl) (by kernel_rfl) (fun _ _ _ h => h) (Or.inl ⟨by rfl, ?hy1⟩) (by assumption) ?rest1
    case hy1 => (intro w hSw; (try dsimp only at hSw); go_simp; try (with_reducible rfl))
    try simp only [Act.put, List.getElem_toArray, List.getElem_cons_zero, List.setIfInBounds_toArray, List.set_cons_zero, List.set_cons_succ]
    refine wpAnyH_ready (rs := [1, 3]) (by kernel_rfl) (by simp) ?_
    refine AllReadyH.cons rfl (fun K hK => ?_) (AllReadyH.cons rfl (fun K hK => ?_) AllReadyH.nil)
    · go_simp
      go_at_call 13
      refine (plain_any _).mono ?_
      rintro e w2 ⟨ai, ci, ad, cd, rfl, hdim, hfr, hb2⟩
      have Hdim := Lib.hid hdim
      have Hfr := Lib.hid hfr
      clear hdim hfr
      have Hb2 := Lib.hid (show Below w1.heap.size w1 w2 from undrew hb2)
      have hk2 := Hkin.out w2 Hb2.out
      refine hK.out _ _ (by exact hk2) (fun hHeld => ?_)
      clear hK K
      try simp only [Act.put, List.setIfInBounds_toArray, List.set_cons_zero, List.set_cons_succ]
      refine wpAnyH_ready (rs := [2, 3]) (by kernel_rfl) (by simp) ?_
      refine AllReadyH.cons rfl (fun K hK => ?_) (AllReadyH.cons rfl (fun K hK => ?_) AllReadyH.nil)
      · go_simp
        go_at_call 12
        refine (HFa.out _ ai ci ad cd (by exact Hb2.out) (by exact Hdim.out)).mono ?_
        rintro e w3 ⟨a7, c7, a8, c8, a9, c9, a10, c10, rvk, rfl, hP⟩
        have HP := Lib.hid hP
        clear hP
        have Hb3 := Lib.hid (show Below w1.heap.size w1 w3 from (Hb2.out).via HP.out.below (Hb2.out).size)
        have hk3 := Hkin.out w3 Hb3.out
        refine hK.out _ _ (by exact hk3) (fun hHeld => ?_)
        clear hK K
        try simp only [Act.put, List.setIfInBounds_toArray, List.set_cons_zero, List.set_cons_succ]
        refine wpAnyH_ready (rs := [3]) (by kernel_rfl) (by simp) ?_
        refine AllReadyH.cons rfl (fun K hK => ?_) AllReadyH.nil
        go_simp
        refine hK.out _ _ (by exact Hkin.out _ (Hb3.out.alloc Hb3.out.size _)) (fun hHeld => ?_)
        clear hK K
        try simp only [Act.put, List.setIfInBounds_toArray, List.set_cons_zero, List.set_cons_succ]
        refine wpAnyH_done (by kernel_rfl) ?_ _
        simp only [Exit.then]
        go_wp2_with fail
        go_meet
        exact ⟨_, ai, ci, ad, cd, a7, c7, a8, c8, a9, c9, a10, c10, rfl, famAt_new HP.out hk6 Hdim.out, (hbw.via Hb3.out hbw.size).alloc (by have := hbw.size; have := Hb3.out.size; omega) _⟩
      · go_simp
        have HZ := Lib.hid (Blk.new w2 #[.string ⟨#[]⟩, .slice none 0 0, .slice none 0 0, .slice none 0 0, .slice none 0 0, .slice none 0 0, .slice none 0 0, .slice none 0 0, .slice none 0 0, .slice none 0 0] 41)
        refine hK.out _ _ (by exact Hkin.out _ (Hb2.out.alloc Hb2.out.size _)) (fun hHeld => ?_)
        clear hK K
        try simp only [Act.put, List.setIfInBounds_toArray, List.set_cons_zero, List.set_cons_succ]
        refine wpAnyH_ready (rs := [2]) (by kernel_rfl) (by simp) ?_
        refine AllReadyH.cons rfl (fun K hK => ?_) AllReadyH.nil
        go_simp
        go_at_call 12
        refine (HFa.out _ ai ci ad cd (by exact (Hb2.out.alloc Hb2.out.size _)) (by exact (Hdim.out.mono (below1 _ _)))).mono ?_
        rintro e w3 ⟨a7, c7, a8, c8, a9, c9, a10, c10, rvk, rfl, hP⟩
        have HP := Lib.hid hP
        clear hP
        have Hb3 := Lib.hid (show Below w1.heap.size w1 w3 from ((Hb2.out.alloc Hb2.out.size _)).via HP.out.below ((Hb2.out.alloc Hb2.out.size _)).size)
        have hk3 := Hkin.out w3 Hb3.out
        refine hK.out _ _ (by exact hk3) (fun hHeld => ?_)
        clear hK K
        try simp only [Act.put, List.setIfInBounds_toArray, List.set_cons_zero, List.set_cons_succ]
        refine wpAnyH_done (by kernel_rfl) ?_ _
        simp only [Exit.then]
        have HZ3 := Lib.hid (HZ.out.below HP.out.below)
        obtain ⟨z0, z1, z2, z3, z4, z5, z6, z7, z8, z9, r0, r1, r2, r3, r4, r5, r6, r7, r8, r9⟩ := blk10 HZ3.out
        go_wp2_with fail
        go_meet
        exact ⟨_, ai, ci, ad, cd, a7, c7, a8, c8, a9, c9, a10, c10, rfl, famAt_store HP.out hk6 HZ3.out (by simp) (Hdim.out.mono (below1 _ _)) (fun b hb => by have := dims_lt Hdim.out b hb; omega), below_set10 (hbw.via Hb3.out hbw.size) (by have := hbw.size; have := Hb2.out.size; omega) _ _ _ _ _ _ _ _ _ _⟩
    · go_simp
      have HZ1 := Lib.hid (Blk.new w1 #[.string ⟨#[]⟩, .slice none 0 0, .slice none 0 0, .slice none 0 0, .slice none 0 0, .slice none 0 0, .slice none 0 0, .slice none 0 0, .slice none 0 0, .slice none 0 0] 41)
      refine hK.out _ _ (by exact Hkin.out _ ((below1 w1 _).dn 1)) (fun hHeld => ?_)
      clear hK K
      try simp only [Act.put, List.setIfInBounds_toArray, List.set_cons_zero, List.set_cons_succ]
      refine wpAnyH_ready (rs := [1]) (by kernel_rfl) (by simp) ?_
      refine AllReadyH.cons rfl (fun K hK => ?_) AllReadyH.nil
      go_simp
      go_at_call 13
      refine (plain_any _).mono ?_
      rintro e w2 ⟨ai, ci, ad, cd, rfl, hdim, hfr, hb2⟩
      have Hdim := Lib.hid hdim
      have Hfr := Lib.hid hfr
      clear hdim hfr
      have Hb2 := Lib.hid (show Below w1.heap.size w1 w2 from (below1 w1 _).via (undrew hb2) (by simp))
      have hk2 := Hkin.out w2 Hb2.out
      refine hK.out _ _ (by exact hk2) (fun hHeld => ?_)
      clear hK K
      try simp only [Act.put, List.setIfInBounds_toArray, List.set_cons_zero, List.set_cons_succ]
      have HZ := Lib.hid (HZ1.out.below (undrew hb2))
      refine wpAnyH_ready (rs := [2]) (by kernel_rfl) (by simp) ?_
      refine AllReadyH.cons rfl (fun K hK => ?_) AllReadyH.nil
      go_simp
      go_at_call 12
      refine (HFa.out _ ai ci ad cd (by exact Hb2.out) (by exact Hdim.out)).mono ?_
      rintro e w3 ⟨a7, c7, a8, c8, a9, c9, a10, c10, rvk, rfl, hP⟩
      have HP := Lib.hid hP
      clear hP
      have Hb3 := Lib.hid (show Below w1.heap.size w1 w3 from (Hb2.out).via HP.out.below (Hb2.out).size)
      have hk3 := Hkin.out w3 Hb3.out
      refine hK.out _ _ (by exact hk3) (fun hHeld => ?_)
      clear hK K
      try simp only [Act.put, List.setIfInBounds_toArray, List.set_cons_zero, List.set_cons_succ]
      refine wpAnyH_done (by kernel_rfl) ?_ _
      simp only [Exit.then]
      have HZ3 := Lib.hid (HZ.out.below HP.out.below)
      obtain ⟨z0, z1, z2, z3, z4, z5, z6, z7, z8, z9, r0, r1, r2, r3, r4, r5, r6, r7, r8, r9⟩ := blk10 HZ3.out
      go_wp2_with fail
      go_meet
      exact ⟨_, ai, ci, ad, cd, a7, c7, a8, c8, a9, c9, a10, c10, rfl, famAt_store HP.out hk6 HZ3.out (by exact HZ.out.lt) Hdim.out (fun b hb => by have := Hfr.out b hb; simp at this; omega), below_set10 (hbw.via Hb3.out hbw.size) (by have := hbw.size; omega) _ _ _ _ _ _ _ _ _ _⟩
  case rest =>
    obtain ⟨B, ai, ci, ad, cd, a7, c7, a8, c8, a9, c9, a10, c10, rfl, hFA, hbw⟩ := hcut
    rename World => wx
    have HB := Lib.hid (fun w' (h : Below wx.heap.size wx w') => blk10 (hFA.blk.below h))
    have HF := Lib.hid (fun w' (h : Below wx.heap.size wx w') => hFA.fam.mono h)
    have HBc := Lib.hid (fun w' (h : Below wx.heap.size wx w') => (blk10c (HB.out w' h)))
    have hol : (optsTo k).length = k := optsTo_len k
    have hrl : (rulesTo k R (min R.length 6)).length = min R.length 6 := rulesTo_len _ _ _
    have hm6 : min R.length 6 < 1000 := by omega
    have Hbw := Lib.hid hbw
    clear hFA hbw
    have hlen : (decodeL k code).length ≤ k := decodeL_len k code
    have he : litErr k (decodeL k code) = 0 := decodeL_ok k code
    have H21 := Lib.hid (fun w' (h : Below wx.heap.size wx w') => decode_any k code (.slice a1 n c) w' hk1 hk6 ((HC.out.mono Hbw.out).mono h) Hcr.out)
    generalize hch : decodeL k code = ch at *
    clear hch
    obtain ⟨z0, z1, z2, z3, z4, z5, z6, z7, z8, z9, -⟩ := HB.out wx (Below.refl _ _)
    go_wp2_with fail
    refine (H21.out _ (Below.refl _ _)).mono ?_
    rintro e2 w2 ⟨v, rfl, hli, -, hb2⟩
    obtain ⟨av, cv, rfl, -, -⟩ := hli.open
    have Hb2 := Lib.hid hb2
    have HCx := Lib.hid (fun w' (h : Below w2.heap.size w2 w') => hli.mono h)
    clear hb2 hli
    have hlok : LitsOk k ch := litErr_ok he
    have hcl2 : ch.length < 1000 := by omega
    have hall := allowedL_nums k (by omega) hlok (rulesTo_lits (n := k) (R := R) (k := min R.length 6))
    have hvis := visL_nums k ch (rulesTo k R (min R.length 6))
    rw [hrl] at hall
    have H17 := Lib.hid (fun w' ov (h : Below w2.heap.size w2 w') (ho : Bools w' ov (List.replicate (min R.length 6) false)) => allowed_any baseS nilV (.slice ai 3 ci) (.slice ad 2 cd) nilV nilV (.slice a7 k c7) (.slice a8 (min R.length 6) c8) (.slice a9 (min D.length 4) c9) (.slice a10 (min O.length 4) c10) ov (.slice av ch.length cv) a7 k c7 _ _ ch w' rfl hk6 (HF.out w' (Hb2.out.via h Hb2.out.size)).rul ho (HCx.out w' h) (rulesOk_of (HF.out w' (Hb2.out.via h Hb2.out.size)).ok) (hlok.le (by omega)) hcl2 (by rw [hrl, List.length_replicate]) (by rw [hrl]; omega))
    rw [hall] at H17
    have HFx := Lib.hid (fun w' (h : Below w2.heap.size w2 w') => HF.out w' (Hb2.out.via h Hb2.out.size))
    have HBy := Lib.hid (fun w' (h : Below w2.heap.size w2 w') => HB.out w' (Hb2.out.via h Hb2.out.size))
    generalize hcn : ch.length = cn at *
    have Hcn := Lib.hid hcn
    clear hcn
    have hn64 : (okNums k ch (rulesTo k R (min R.length 6))).length ≤ 64 := okNums_len2 k hk6 _ _
    generalize hnums : okNums k ch (rulesTo k R (min R.length 6)) = nums at *
    cases nums with
    | cons i is =>
      have hne : (visL k ch (rulesTo k R (min R.length 6))).isEmpty = false := by rw [hvis]; rfl
      have H24 := Lib.hid (conflict_none _ _ _ _ _ _ _ _ _ _ _ _ _ _ _ _ _ ch w2 (HFx.out w2 (Below.refl _ _)) (by rw [hol]; exact hk6) (HCx.out w2 (Below.refl _ _)) (by rw [Hcn.out]; exact hcl2) (by rw [hol]; exact he) (by rw [hol]; exact hne))
      obtain ⟨m, Hm, hm1⟩ : ∃ m : Nat, Hid (is.length + 1 = m) ∧ 1 ≤ m := ⟨_, Lib.hid rfl, by omega⟩
      have Hlen := Lib.hid (show (List.map (setN k) (i :: is)).length = m by rw [List.length_map]; exact Hm.out)
      have hm0 : ((m : Int) == 0) = false := by simp; omega
      clear hvis hall he hlok hrl hol hnums hne
      obtain ⟨y0, y1, y2, y3, y4, y5, y6, y7, y8, y9, -⟩ := HBy.out w2 (Below.refl _ _)
      go_wp2_with fail
      refine (H24.out).mono ?_
      rintro e2 w3 ⟨rfl, hb3⟩
      have Hb23 := Lib.hid hb3
      have Hb3 := Lib.hid (Hb2.out.via hb3 Hb2.out.size)
      clear hb3
      obtain ⟨x0, x1, x2, x3, x4, x5, x6, x7, x8, x9, -⟩ := HB.out w3 Hb3.out
      go_wp2_with fail
      have HBx := Lib.hid (fun w' (h : Below w3.heap.size w3 w') => HBc.out w' (Hb3.out.via h Hb3.out.size))
      refine wp_region_held_drew (S := (fun w' => w'.cell? ⟨B, 0, none⟩ = some baseS ∧ w'.cell? ⟨B, 1, none⟩ = some nilV ∧ w'.cell? ⟨B, 2, none⟩ = some (.slice ai 3 ci) ∧ w'.cell? ⟨B, 3, none⟩ = some (.slice ad 2 cd) ∧ w'.cell? ⟨B, 4, none⟩ = some nilV ∧ w'.cell? ⟨B, 5, none⟩ = some nilV ∧ w'.cell? ⟨B, 6, none⟩ = some (.slice a7 k c7) ∧ w'.cell? ⟨B, 7, none⟩ = some (.slice a8 (min R.length 6) c8) ∧ w'.cell? ⟨B, 8, none⟩ = some (.slice a9 (min D.length 4) c9) ∧ w'.cell? ⟨B, 9, none⟩ = some (.slice a10 (min O.length 4) c10))) (by kernel_rfl) (by exact HBx.out _ (Below.refl _ _).drew) (fun hHeld => ?_)
      refine wpAnyH_take (i := 0) (v := ?v2) rfl (by kernel_rfl) (by kernel_rfl) (by kernel_rfl) (fun _ _ _ h => h) (Or.inl ⟨by rfl, ?hy2⟩) (by assumption) ?rest2
      case hy2 => (intro w hSw; (try dsimp only at hSw); go_simp; try (with_reducible rfl))
      try simp only [Act.put, List.getElem_toArray, List.getElem_cons_zero, List.setIfInBounds_toArray, List.set_cons_zero, List.set_cons_succ]
      refine wpAnyH_take (i := 1) (v := ?v3) rfl (by kernel_rfl) (by kernel_rfl) (by kernel_rfl) (fun _ _ _ h => h) (Or.inl ⟨by rfl, ?hy3⟩) (by assumption) ?rest3
      case hy3 => (intro w hSw; (try dsimp only at hSw); go_simp; try (with_reducible rfl))
      try simp only [Act.put, List.getElem_toArray, List.getElem_cons_zero, List.getElem_cons_succ, List.setIfInBounds_toArray, List.set_cons_zero, List.set_cons_succ]
      refine wpAnyH_take (i := 2) (v := ?v4) rfl (by kernel_rfl) (by kernel_rfl) (by kernel_rfl) (fun _ _ _ h => h) (Or.inl ⟨by rfl, ?hy4⟩) (by assumption) ?rest4
      case hy4 => (intro w hSw; (try dsimp only at hSw); go_simp; try (with_reducible rfl))
      try simp only [Act.put, List.getElem_toArray, List.getElem_cons_zero, List.getElem_cons_succ, List.setIfInBounds_toArray, List.set_cons_zero, List.set_cons_succ]
      refine wpAnyH_take (i := 3) (v := ?v5) rfl (by kernel_rfl) (by kernel_rfl) (by kernel_rfl) (fun _ _ _ h => h) (Or.inl ⟨by rfl, ?hy5⟩) (by assumption) ?rest5
      case hy5 => (intro w hSw; (try dsimp only at hSw); go_simp; try (with_reducible rfl))
      try simp only [Act.put, List.getElem_toArray, List.getElem_cons_zero, List.getElem_cons_succ, List.setIfInBounds_toArray, List.set_cons_zero, List.set_cons_succ]
      refine wpAnyH_take (i := 4) (v := ?v6) rfl (by kernel_rfl) (by kernel_rfl) (by kernel_rfl) (fun _ _ _ h => h) (Or.inl ⟨by rfl, ?hy6⟩) (by assumption) ?rest6
      case hy6 => (intro w hSw; (try dsimp only at hSw); go_simp; try (with_reducible rfl))
      try simp only [Act.put, List.getElem_toArray, List.getElem_cons_zero, List.getElem_cons_succ, List.setIfInBounds_toArray, List.set_cons_zero, List.set_cons_succ]
      refine wpAnyH_take (i := 5) (v := ?v7) rfl (by kernel_rfl) (by kernel_rfl) (by kernel_rfl) (fun _ _ _ h => h) (Or.inl ⟨by rfl, ?hy7⟩) (by assumption) ?rest7
      case hy7 => (intro w hSw; (try dsimp only at hSw); go_simp; try (with_reducible rfl))
      try simp only [Act.put, List.getElem_toArray, List.getElem_cons_zero, List.getElem_cons_succ, List.setIfInBounds_toArray, List.set_cons_zero, List.set_cons_succ]
      refine wpAnyH_take (i := 7) (v := ?v8) rfl (by kernel_rfl) (by kernel_rfl) (by kernel_rfl) (fun _ _ _ h => h) (Or.inl ⟨by rfl, ?hy8⟩) (by assumption) ?rest8
      case hy8 => (intro w hSw; (try dsimp only at hSw); go_simp; try (with_reducible rfl))
      try simp only [Act.put, List.getElem_toArray, List.getElem_cons_zero, List.getElem_cons_succ, List.setIfInBounds_toArray, List.set_cons_zero, List.set_cons_succ]
      refine wpAnyH_ready (rs := [6]) (by kernel_rfl) (by simp) ?_
      refine AllReadyH.cons rfl (fun K hK => ?_) AllReadyH.nil
      go_simp
      go_at_call 18
      refine (none_any _ _ _ _ _ _ _ _ _ _ _ _ _ (by omega)).mono ?_
      rintro e2 w5 ⟨ov, rfl, hbo, hb5⟩
      obtain ⟨ao, co, rfl, -, -⟩ := hbo.open
      rw [List.length_replicate] at hbo
      have Hbo := Lib.hid hbo
      have Hb25 := Lib.hid (show Below w2.heap.size w2 w5 from Hb23.out.via (undrew hb5) Hb23.out.size)
      have Hb35 := Lib.hid (undrew hb5)
      clear hbo hb5
      refine hK.out _ _ (by exact HBx.out _ Hb35.out) (fun hHeld => ?_)
      clear hK K
      try simp only [Act.put, List.setIfInBounds_toArray, List.set_cons_zero, List.set_cons_succ]
      refine wpAnyH_ready (rs := [8]) (by kernel_rfl) (by simp) ?_
      refine AllReadyH.cons rfl (fun K hK => ?_) AllReadyH.nil
      go_simp
      go_at_call 17
      refine (H17.out _ _ Hb25.out Hbo.out).mono ?_
      rintro e2 w6 ⟨lv, rfl, hl, hb6⟩
      obtain ⟨al, cl, rfl, -, -⟩ := hl.open
      rw [Hlen.out]
      have Hb36 := Lib.hid (show Below w3.heap.size w3 w6 from Hb35.out.via hb6 Hb35.out.size)
      clear hl hb6
      refine hK.out _ _ (by exact HBx.out _ Hb36.out) (fun hHeld => ?_)
      clear hK K
      try simp only [Act.put, List.setIfInBounds_toArray, List.set_cons_zero, List.set_cons_succ]
      refine wpAnyH_take (i := 9) (v := ?v9) rfl (by kernel_rfl) (by kernel_rfl) (by kernel_rfl) (fun _ _ _ h => h) (Or.inl ⟨by rfl, ?hy9⟩) (by assumption) ?rest9
      case hy9 => (intro w hSw; (try dsimp only at hSw); go_simp; try (with_reducible rfl))
      try simp only [Act.put, List.getElem_toArray, List.getElem_cons_zero, List.getElem_cons_succ, List.setIfInBounds_toArray, List.set_cons_zero, List.set_cons_succ]
      refine wpAnyH_take (i := 10) (v := ?v10) rfl (by kernel_rfl) (by kernel_rfl) (by kernel_rfl) (fun _ _ _ h => h) (Or.inl ⟨by rfl, ?hy10⟩) (by assumption) ?rest10
      case hy10 => (intro w hSw; (try dsimp only at hSw); go_simp; try (with_reducible rfl))
      try simp only [Act.put, List.getElem_toArray, List.getElem_cons_zero, List.getElem_cons_succ, List.setIfInBounds_toArray, List.set_cons_zero, List.set_cons_succ]
      refine wpAnyH_take (i := 11) (v := ?v11) rfl (by kernel_rfl) (by kernel_rfl) (by kernel_rfl) (fun _ _ _ h => h) (Or.inl ⟨by rfl, ?hy11⟩) (by assumption) ?rest11
      case hy11 => (intro w hSw; (try dsimp only at hSw); go_simp; try (with_reducible rfl))
      try simp only [Act.put, List.getElem_toArray, List.getElem_cons_zero, List.getElem_cons_succ, List.setIfInBounds_toArray, List.set_cons_zero, List.set_cons_succ]
      refine wpAnyH_take (i := 12) (v := ?v12) rfl (by kernel_rfl) (by kernel_rfl) (by kernel_rfl) (fun _ _ _ h => h) (Or.inl ⟨by rfl, ?hy12⟩) (by assumption) ?rest12
      case hy12 => (intro w hSw; (try dsimp only at hSw); go_simp; try (with_reducible rfl))
      try simp only [Act.put, List.getElem_toArray, List.getElem_cons_zero, List.getElem_cons_succ, List.setIfInBounds_toArray, List.set_cons_zero, List.set_cons_succ]
      refine wpAnyH_done (by kernel_rfl) ?_ _
      go_wp2_with fail
      go_ret
      exact Ret.mk (Hbw.out.via (Hb3.out.via Hb36.out Hb3.out.size) Hbw.out.size)
    | nil =>
      have hem : (visL k ch (rulesTo k R (min R.length 6))).isEmpty = true := by rw [hvis]; rfl
      have hvn : visL k ch (rulesTo k R (min R.length 6)) = [] := by rw [hvis]; rfl
      have hrok : ∀ r ∈ (rulesTo k R (min R.length 6)), LitsOk k r.2 := rulesTo_lits
      have H24 := Lib.hid (conflict_some _ _ _ _ _ _ _ _ _ _ _ _ _ _ _ _ _ ch w2 (HFx.out w2 (Below.refl _ _)) (by rw [hol]; exact hk6) (HCx.out w2 (Below.refl _ _)) (by rw [Hcn.out]; exact hcl2) (by rw [hol]; exact he) (by rw [hol]; exact hem))
      have H26 := Lib.hid (fun w' (h : Below w2.heap.size w2 w') => mconf_any _ _ _ _ _ _ _ _ _ _ _ _ _ _ _ _ _ ch w' (HFx.out w' h) (by rw [hol]; exact hk6) (HCx.out w' h) (by rw [Hcn.out]; exact hcl2) (by rw [hol]; exact he))
      have hmc := (mc_confl (n := k) (by omega) hlok hrok _ (Nat.le_refl _)).1
      rw [hol] at H24 H26
      rw [hmc] at H26
      have Hpair := Lib.hid (confl_pair (n := k) (ch := ch) (rs := (rulesTo k R (min R.length 6))) _ (Nat.le_refl _))
      have Hskip := Lib.hid (fun s hs => confl_skip hvn s hs)
      have HsubK := Lib.hid (confl_sub (n := k) (ch := ch) (rs := (rulesTo k R (min R.length 6))) _ (Nat.le_refl _))
      rw [List.take_length] at HsubK
      have hl6 := (conflTo_len (n := k) (ch := ch) (rs := (rulesTo k R (min R.length 6))) ((rulesTo k R (min R.length 6))).length).2
      rw [hrl] at H24 H26 Hpair Hskip hl6 HsubK
      generalize hK : (conflTo k ch (rulesTo k R (min R.length 6)) (min R.length 6)).1 = K at *
      generalize hX : (conflTo k ch (rulesTo k R (min R.length 6)) (min R.length 6)).2 = X at *
      rw [List.map_nil] at H17
      have Hol := Lib.hid hol
      have He := Lib.hid he
      clear hvis hall he hlok hrl hol hnums hem hvn hrok hmc hK hX
      obtain ⟨y0, y1, y2, y3, y4, y5, y6, y7, y8, y9, -⟩ := HBy.out w2 (Below.refl _ _)
      go_wp2_with fail
      refine (H24.out).mono ?_
      rintro e2 w3 ⟨v, rfl, hxi, hb3⟩
      have Hb23 := Lib.hid hb3
      have Hb3 := Lib.hid (Hb2.out.via hb3 Hb2.out.size)
      obtain ⟨ax, cx, rfl, -, -⟩ := hxi.open
      have Hxi := Lib.hid hxi
      generalize hxn : X.length = xn at *
      have Hxn := Lib.hid hxn
      clear hb3 hxi hxn
      obtain ⟨x0, x1, x2, x3, x4, x5, x6, x7, x8, x9, -⟩ := HB.out w3 Hb3.out
      go_wp2_with fail
      have HBx := Lib.hid (fun w' (h : Below w3.heap.size w3 w') => HBc.out w' (Hb3.out.via h Hb3.out.size))
      refine wp_region_held_drew (S := (fun w' => w'.cell? ⟨B, 0, none⟩ = some baseS ∧ w'.cell? ⟨B, 1, none⟩ = some nilV ∧ w'.cell? ⟨B, 2, none⟩ = some (.slice ai 3 ci) ∧ w'.cell? ⟨B, 3, none⟩ = some (.slice ad 2 cd) ∧ w'.cell? ⟨B, 4, none⟩ = some nilV ∧ w'.cell? ⟨B, 5, none⟩ = some nilV ∧ w'.cell? ⟨B, 6, none⟩ = some (.slice a7 k c7) ∧ w'.cell? ⟨B, 7, none⟩ = some (.slice a8 (min R.length 6) c8) ∧ w'.cell? ⟨B, 8, none⟩ = some (.slice a9 (min D.length 4) c9) ∧ w'.cell? ⟨B, 9, none⟩ = some (.slice a10 (min O.length 4) c10))) (by kernel_rfl) (by exact HBx.out _ (Below.refl _ _).drew) (fun hHeld => ?_)
      refine wpAnyH_take (i := 0) (v := ?v13) rfl (by kernel_rfl) (by kernel_rfl) (by kernel_rfl) (fun _ _ _ h => h) (Or.inl ⟨by rfl, ?hy13⟩) (by assumption) ?rest13
      case hy13 => (intro w hSw; (try dsimp only at hSw); go_simp; try (with_reducible rfl))
      try simp only [Act.put, List.getElem_toArray, List.getElem_cons_zero, List.setIfInBounds_toArray, List.set_cons_zero, List.set_cons_succ]
      refine wpAnyH_take (i := 1) (v := ?v14) rfl (by kernel_rfl) (by kernel_rfl) (by kernel_rfl) (fun _ _ _ h => h) (Or.inl ⟨by rfl, ?hy14⟩) (by assumption) ?rest14
      case hy14 => (intro w hSw; (try dsimp only at hSw); go_simp; try (with_reducible rfl))
      try simp only [Act.put, List.getElem_toArray, List.getElem_cons_zero, List.getElem_cons_succ, List.setIfInBounds_toArray, List.set_cons_zero, List.set_cons_succ]
      refine wpAnyH_take (i := 2) (v := ?v15) rfl (by kernel_rfl) (by kernel_rfl) (by kernel_rfl) (fun _ _ _ h => h) (Or.inl ⟨by rfl, ?hy15⟩) (by assumption) ?rest15
      case hy15 => (intro w hSw; (try dsimp only at hSw); go_simp; try (with_reducible rfl))
      try simp only [Act.put, List.getElem_toArray, List.getElem_cons_zero, List.getElem_cons_succ, List.setIfInBounds_toArray, List.set_cons_zero, List.set_cons_succ]
      refine wpAnyH_take (i := 3) (v := ?v16) rfl (by kernel_rfl) (by kernel_rfl) (by kernel_rfl) (fun _ _ _ h => h) (Or.inl ⟨by rfl, ?hy16⟩) (by assumption) ?rest16
      case hy16 => (intro w hSw; (try dsimp only at hSw); go_simp; try (with_reducible rfl))
      try simp only [Act.put, List.getElem_toArray, List.getElem_cons_zero, List.getElem_cons_succ, List.setIfInBounds_toArray, List.set_cons_zero, List.set_cons_succ]
      refine wpAnyH_take (i := 4) (v := ?v17) rfl (by kernel_rfl) (by kernel_rfl) (by kernel_rfl) (fun _ _ _ h => h) (Or.inl ⟨by rfl, ?hy17⟩) (by assumption) ?rest17
      case hy17 => (intro w hSw; (try dsimp only at hSw); go_simp; try (with_reducible rfl))
      try simp only [Act.put, List.getElem_toArray, List.getElem_cons_zero, List.getElem_cons_succ, List.setIfInBounds_toArray, List.set_cons_zero, List.set_cons_succ]
      refine wpAnyH_take (i := 5) (v := ?v18) rfl (by kernel_rfl) (by kernel_rfl) (by kernel_rfl) (fun _ _ _ h => h) (Or.inl ⟨by rfl, ?hy18⟩) (by assumption) ?rest18
      case hy18 => (intro w hSw; (try dsimp only at hSw); go_simp; try (with_reducible rfl))
      try simp only [Act.put, List.getElem_toArray, List.getElem_cons_zero, List.getElem_cons_succ, List.setIfInBounds_toArray, List.set_cons_zero, List.set_cons_succ]
      refine wpAnyH_take (i := 7) (v := ?v19) rfl (by kernel_rfl) (by kernel_rfl) (by kernel_rfl) (fun _ _ _ h => h) (Or.inl ⟨by rfl, ?hy19⟩) (by assumption) ?rest19
      case hy19 => (intro w hSw; (try dsimp only at hSw); go_simp; try (with_reducible rfl))
      try simp only [Act.put, List.getElem_toArray, List.getElem_cons_zero, List.getElem_cons_succ, List.setIfInBounds_toArray, List.set_cons_zero, List.set_cons_succ]
      refine wpAnyH_ready (rs := [6]) (by kernel_rfl) (by simp) ?_
      refine AllReadyH.cons rfl (fun K hK => ?_) AllReadyH.nil
      go_simp
      go_at_call 18
      refine (none_any _ _ _ _ _ _ _ _ _ _ _ _ _ (by omega)).mono ?_
      rintro e2 w5 ⟨ov, rfl, hbo, hb5⟩
      obtain ⟨ao, co, rfl, -, -⟩ := hbo.open
      rw [List.length_replicate] at hbo
      have Hbo := Lib.hid hbo
      have Hb25 := Lib.hid (show Below w2.heap.size w2 w5 from Hb23.out.via (undrew hb5) Hb23.out.size)
      have Hb35 := Lib.hid (undrew hb5)
      clear hbo hb5
      refine hK.out _ _ (by exact HBx.out _ Hb35.out) (fun hHeld => ?_)
      clear hK K
      try simp only [Act.put, List.setIfInBounds_toArray, List.set_cons_zero, List.set_cons_succ]
      refine wpAnyH_ready (rs := [8]) (by kernel_rfl) (by simp) ?_
      refine AllReadyH.cons rfl (fun K hK => ?_) AllReadyH.nil
      go_simp
      go_at_call 17
      refine (H17.out _ _ Hb25.out Hbo.out).mono ?_
      rintro e2 w6 ⟨lv, rfl, hl, hb6⟩
      obtain ⟨al, cl, rfl, -, -⟩ := hl.open
      have Hb36 := Lib.hid (show Below w3.heap.size w3 w6 from Hb35.out.via hb6 Hb35.out.size)
      clear hl hb6
      refine hK.out _ _ (by exact HBx.out _ Hb36.out) (fun hHeld => ?_)
      clear hK K
      try simp only [Act.put, List.setIfInBounds_toArray, List.set_cons_zero, List.set_cons_succ]
      refine wpAnyH_take (i := 9) (v := ?v20) rfl (by kernel_rfl) (by kernel_rfl) (by kernel_rfl) (fun _ _ _ h => h) (Or.inl ⟨by rfl, ?hy20⟩) (by assumption) ?rest20
      case hy20 => (intro w hSw; (try dsimp only at hSw); go_simp; try (with_reducible rfl))
      try simp only [Act.put, List.getElem_toArray, List.getElem_cons_zero, List.getElem_cons_succ, List.setIfInBounds_toArray, List.set_cons_zero, List.set_cons_succ]
      refine wpAnyH_take (i := 10) (v := ?v21) rfl (by kernel_rfl) (by kernel_rfl) (by kernel_rfl) (fun _ _ _ h => h) (Or.inl ⟨by rfl, ?hy21⟩) (by assumption) ?rest21
      case hy21 => (intro w hSw; (try dsimp only at hSw); go_simp; try (with_reducible rfl))
      try simp only [Act.put, List.getElem_toArray, List.getElem_cons_zero, List.getElem_cons_succ, List.setIfInBounds_toArray, List.set_cons_zero, List.set_cons_succ]
      refine wpAnyH_take (i := 11) (v := ?v22) rfl (by kernel_rfl) (by kernel_rfl) (by kernel_rfl) (fun _ _ _ h => h) (Or.inl ⟨by rfl, ?hy22⟩) (by assumption) ?rest22
      case hy22 => (intro w hSw; (try dsimp only at hSw); go_simp; try (with_reducible rfl))
      try simp only [Act.put, List.getElem_toArray, List.getElem_cons_zero, List.getElem_cons_succ, List.setIfInBounds_toArray, List.set_cons_zero, List.set_cons_succ]
      refine wpAnyH_take (i := 12) (v := ?v23) rfl (by kernel_rfl) (by kernel_rfl) (by kernel_rfl) (fun _ _ _ h => h) (Or.inl ⟨by rfl, ?hy23⟩) (by assumption) ?rest23
      case hy23 => (intro w hSw; (try dsimp only at hSw); go_simp; try (with_reducible rfl))
      try simp only [Act.put, List.getElem_toArray, List.getElem_cons_zero, List.getElem_cons_succ, List.setIfInBounds_toArray, List.set_cons_zero, List.set_cons_succ]
      refine wpAnyH_done (by kernel_rfl) ?_ _
      have Hb6 := Lib.hid (Hb3.out.via Hb36.out Hb3.out.size)
      obtain ⟨t0, t1, t2, t3, t4, t5, t6, t7, t8, t9, -⟩ := HB.out w6 Hb6.out
      go_wp2_with fail
      refine (H26.out _ (Hb23.out.via Hb36.out Hb23.out.size)).mono ?_
      rintro e2 w7 ⟨lv, rfl, hlx, hb7⟩
      have Hlx := Lib.hid hlx
      have Hb67 := Lib.hid hb7
      clear hlx hb7
      go_wp2_with fail
      refine (sameInts_any _ _ _ _ _ (by exact (Hxi.out.mono Hb36.out).mono Hb67.out) (by exact Hlx.out) (by rw [Hxn.out]; omega)).mono ?_
      rintro e2 w8 ⟨rfl, hb8⟩
      rw [decide_eq_true rfl]
      have Hb38 := Lib.hid (Hb36.out.via (Hb67.out.via hb8 Hb67.out.size) Hb36.out.size)
      have Hb8 := Lib.hid (Hb3.out.via Hb38.out Hb3.out.size)
      clear hb8
      obtain ⟨s0, s1, s2, s3, s4, s5, s6, s7, s8, s9, -⟩ := HB.out w8 Hb8.out
      have hGb := Blk.new w8 #[baseS, nilV, .slice ai 3 ci, .slice ad 2 cd, nilV, nilV, .slice a7 k c7, (.slice a8 (min R.length 6) c8), .slice a9 (min D.length 4) c9, .slice a10 (min O.length 4) c10] 41
      have hbG := below1 w8 (.cells #[baseS, nilV, .slice ai 3 ci, .slice ad 2 cd, nilV, nilV, .slice a7 k c7, (.slice a8 (min R.length 6) c8), .slice a9 (min D.length 4) c9, .slice a10 (min O.length 4) c10] 41)
      have HFw := Lib.hid (HF.out w8 Hb8.out)
      have hrl : (rulesTo k R (min R.length 6)).length = min R.length 6 := rulesTo_len _ _ _
      have hKl : K.length = X.length := Hpair.out.1.trans Hxn.out.symm
      obtain ⟨rv, RV, hSl, hrvl, hPar, hXr⟩ := rows_of (X := X) (K := K) HFw.out.rul hKl (by rw [hrl]; exact Hpair.out.2)
      rw [hrl] at hrvl hXr
      have hRVl : RV.length = xn := by rw [hPar.1, hKl, Hxn.out]
      have hKs : K.length = xn := by rw [hKl, Hxn.out]
      have hsubK := HsubK.out
      have HsubK2 := Lib.hid hsubK
      rw [hKs] at Hskip
      have HSl := Lib.hid hSl
      have HPar := Lib.hid hPar
      have HXr := Lib.hid hXr
      have Hrvl := Lib.hid hrvl
      have HRVl := Lib.hid hRVl
      have HKs := Lib.hid hKs
      have Hc8 := Lib.hid (HCx.out w8 (Hb23.out.via Hb38.out Hb23.out.size))
      have Hxi8 := Lib.hid (Hxi.out.mono Hb38.out)
      clear hSl hPar hXr hrvl hRVl hKs hrl hKl hsubK
      have hx64 : xn ≤ 6 := by omega
      go_wp2_with fail
      go_loopw [11] (fun i wr => ∃ (s : Nat) (sk : Int), s ≤ xn + 1 ∧ i = .int .i64 sk ∧ sk = (s : Int) - 1 ∧ Below w8.heap.size w8 wr ∧ ∃ gv, Blk wr w8.heap.size #[baseS, nilV, .slice ai 3 ci, .slice ad 2 cd, nilV, nilV, .slice a7 k c7, gv, .slice a9 (min D.length 4) c9, .slice a10 (min O.length 4) c10] 41) (fun i _ => ((xn : Int) - intOf i).toNat)
      case atStart => exact ⟨0, -1, Nat.zero_le _, rfl, rfl, hbG, _, hGb⟩
      case round =>
        clear hGb hbG
        obtain ⟨s, sk, hs, rfl, hsk, hbr, gv, hG⟩ := hrel
        have hsk1 : -1 ≤ sk := by omega
        have hsk2 : sk ≤ 6 := by omega
        by_cases hlt : sk < (xn : Int)
        · obtain ⟨g0, g1, g2, g3, g4, g5, g6, g7, g8, g9, -⟩ := blk10 hG
          have gf := hG.free 7
          have hGlt := hG.lt
          have HG := Lib.hid hG
          have Hbr := Lib.hid hbr
          have Hsk := Lib.hid hsk
          clear hG hbr hsk
          go_wp2_with fail
          go_loopw [12] (fun i w9 => ∃ (p : Nat) (ga : Option Addr) (gc : Nat), p ≤ xn ∧ i = .int .i64 p ∧ Below w8.heap.size w8 w9 ∧ Blk w9 w8.heap.size #[baseS, nilV, .slice ai 3 ci, .slice ad 2 cd, nilV, nilV, .slice a7 k c7, (.slice ga (selK RV s p).length gc), .slice a9 (min D.length 4) c9, .slice a10 (min O.length 4) c10] 41 ∧ w9.ownsRow (w8.heap.size + 1) 70 2 (.slice ga (selK RV s p).length gc) (selK RV s p).length ((selK RV s p).map _root_.Go.Proofs.Ytkphggmbimjhjaa.c2).flatten) (fun i _ => xn - (intOf i).toNat)
          case atStart => exact ⟨0, none, 0, Nat.zero_le _, rfl, Hbr.out.setCell (p := ⟨w8.heap.size, 7, none⟩) (Nat.le_refl _) _, HG.out.set 7 _, World.ownsRow_nil _ _ _ _⟩
          case round =>
            clear g0 g1 g2 g3 g4 g5 g6 g7 g8 g9 gf hGlt
            obtain ⟨p, ga, gc, hp, rfl, hb9, hG9, how⟩ := hrel
            rename World => w9
            by_cases hltp : p < xn
            · have hsl := selK_len RV s p
              by_cases hps : p + 1 = s
              · have hne : ((p : Int) != sk) = false := by have := Hsk.out; rw [bne_eq_false_iff_eq]; omega
                have S1 := Lib.hid (show selK RV s (p + 1) = selK RV s p by rw [selK, if_pos hps, List.append_nil])
                have HG9 := Lib.hid hG9
                have Hb9 := Lib.hid hb9
                have How := Lib.hid how
                clear hG9 hb9 how
                go_wp2_with fail
                go_roundw
                case rel => exact ⟨p + 1, ga, gc, by omega, by go_num, Hb9.out, by rw [S1.out]; exact HG9.out, by rw [S1.out]; exact How.out⟩
                case measure => simp [intOf]; omega
              · have hne : ((p : Int) != sk) = true := by have := Hsk.out; rw [bne_iff_ne]; omega
                obtain ⟨xb, xo, xi, rfl, hxp, hxc⟩ := Hxi8.out.at (Below.refl _ _) (k := p) hltp
                obtain ⟨mm, rfl, hmm, hrm⟩ := HXr.out p xi hxp
                obtain ⟨rb, ro, x, hra, hxr, r0, r1⟩ := Sl.at2 (n := min R.length 6) (by have := HSl.out; exact this) (Below.refl _ _) hmm
                cases hra
                have hrvp : RV[p]? = some x := hrm.trans hxr
                obtain ⟨kr, hkr⟩ : ∃ kr, K[p]? = some kr := ⟨K[p]'(by rw [HKs.out]; exact hltp), by simp⟩
                have hpx := HPar.out.2 p x kr hrvp hkr
                obtain ⟨x1, x2⟩ := x
                obtain ⟨hx1, hx2⟩ := hpx
                simp only at hx1 hx2 r0 r1
                obtain ⟨la, lc, rfl, -, -⟩ := hx2.open
                subst hx1
                generalize kr.1 = rn at *
                generalize kr.2.length = ll at *
                have S1 := Lib.hid (show selK RV s (p + 1) = selK RV s p ++ [(.string rn, .slice la ll lc)] by rw [selK, if_neg hps, hrvp]; rfl)
                have hxl := World.block_lt_of_cell? w8 _ hxc
                have hrl0 := World.block_lt_of_cell? w8 _ r0
                have hBB := HB.out w8 Hb8.out
                have hB7 := hBB.2.2.2.2.2.2.2.1
                have hBl := World.block_lt_of_cell? w8 _ hB7
                have HSc := Lib.hid (fun w' (h : Below w8.heap.size w8 w') => And.intro ((h.cell (p := ⟨B, 7, none⟩) hBl).trans hB7) (And.intro ((h.cell (p := ⟨xb, xo + p, none⟩) hxl).trans hxc) (And.intro ((h.cell (p := ⟨rb, ro + mm * 2, none⟩) hrl0).trans r0) ((h.cell (p := ⟨rb, ro + mm * 2 + 1, none⟩) hrl0).trans r1))))
                obtain ⟨u7, ux, ur0, ur1⟩ := HSc.out w9 hb9
                have v7 := hG9.cell 7
                simp only [List.getElem?_toArray, List.getElem?_cons_succ, List.getElem?_cons_zero] at v7
                have hp0 : (0 : Int) ≤ (p : Int) := Int.natCast_nonneg _
                have hp1 : (p : Int) < (xn : Int) := by omega
                have hm0 : (0 : Int) ≤ (mm : Int) := Int.natCast_nonneg _
                have hm1 : (mm : Int) < ((min R.length 6 : Nat) : Int) := by omega
                have HG9 := Lib.hid hG9
                have Hb9 := Lib.hid hb9
                have How := Lib.hid how
                have hb9s := hb9.size
                have hGw9 := hG9.lt
                have HneG := Lib.hid (show (Value.slice ga (selK RV s p).length gc).ownBlock ≠ some w8.heap.size from fun h => by have := (how.lt _ h).1; omega)
                clear hG9 hb9 how hxp hrm hxr hrvp hkr hx2 hxc r0 r1 hBB hB7
                generalize hsn : (selK RV s p).length = sn at *
                have Hsn := Lib.hid hsn
                clear hsn
                go_wp2_with fail
                refine wp_region_pop (S := (fun w' => w'.cell? ⟨w8.heap.size, 7, none⟩ = some (.slice ga sn gc) ∧ w'.cell? ⟨B, 7, none⟩ = some (.slice (some ⟨rb, ro, none⟩) (min R.length 6) c8) ∧ w'.cell? ⟨xb, xo + p, none⟩ = some (.int .i64 (mm : Int)) ∧ w'.cell? ⟨rb, ro + mm * 2, none⟩ = some (.string rn) ∧ w'.cell? ⟨rb, ro + mm * 2 + 1, none⟩ = some (.slice la ll lc))) 13 (by kernel_rfl) (by kernel_rfl) (by exact ⟨v7, u7, ux, ur0, ur1⟩) (fun hHeld => ?_)
                simp only [List.take_succ_cons, List.take_zero, List.drop_succ_cons, List.drop_zero]
                refine wpAnyH_take (i := 0) (v := ?v24) rfl (by kernel_rfl) (by kernel_rfl) (by kernel_rfl) (fun _ _ _ h => h) (Or.inl ⟨by rfl, ?hy24⟩) (by assumption) ?rest24
                case hy24 => (intro w hSw; (try dsimp only at hSw); go_simp; try (with_reducible rfl))
                try simp only [Act.put, List.getElem_toArray, List.getElem_cons_zero, List.setIfInBounds_toArray, List.set_cons_zero, List.set_cons_succ]
                refine wpAnyH_take (i := 1) (v := ?v25) rfl (by kernel_rfl) (by kernel_rfl) (by kernel_rfl) (fun _ _ _ h => h) (Or.inl ⟨by rfl, ?hy25⟩) (by assumption) ?rest25
                case hy25 => (intro w hSw; (try dsimp only at hSw); go_simp; try (with_reducible rfl))
                try simp only [Act.put, List.getElem_toArray, List.getElem_cons_zero, List.getElem_cons_succ, List.setIfInBounds_toArray, List.set_cons_zero, List.set_cons_succ]
                refine wpAnyH_take (i := 2) (v := ?v26) rfl (by kernel_rfl) (by kernel_rfl) (by kernel_rfl) (fun _ _ _ h => h) (Or.inl ⟨by rfl, ?hy26⟩) (by assumption) ?rest26
                case hy26 => (intro w hSw; (try dsimp only at hSw); go_simp; try (with_reducible rfl))
                try simp only [Act.put, List.getElem_toArray, List.getElem_cons_zero, List.getElem_cons_succ, List.setIfInBounds_toArray, List.set_cons_zero, List.set_cons_succ]
                refine wpAnyH_take (i := 3) (v := ?v27) rfl (by kernel_rfl) (by kernel_rfl) (by kernel_rfl) (fun _ _ _ h => h) (Or.inl ⟨by rfl, ?hy27⟩) (by assumption) ?rest27
                case hy27 => (intro w hSw; (try dsimp only at hSw); go_simp; try (with_reducible rfl))
                try simp only [Act.put, List.getElem_toArray, List.getElem_cons_zero, List.getElem_cons_succ, List.setIfInBounds_toArray, List.set_cons_zero, List.set_cons_succ]
                refine wpAnyH_take (i := 4) (v := ?v28) rfl (by kernel_rfl) (by kernel_rfl) (by kernel_rfl) (fun _ _ _ h => h) (Or.inl ⟨by rfl, ?hy28⟩) (by assumption) ?rest28
                case hy28 => (intro w hSw; (try dsimp only at hSw); go_simp; try (with_reducible rfl))
                try simp only [Act.put, List.getElem_toArray, List.getElem_cons_zero, List.getElem_cons_succ, List.setIfInBounds_toArray, List.set_cons_zero, List.set_cons_succ]
                refine wpAnyH_take (i := 5) (v := ?v29) rfl (by kernel_rfl) (by kernel_rfl) (by kernel_rfl) (fun _ _ _ h => h) (Or.inl ⟨by rfl, ?hy29⟩) (by assumption) ?rest29
                case hy29 => (intro w hSw; (try dsimp only at hSw); go_simp; try (with_reducible rfl))
                try simp only [Act.put, List.getElem_toArray, List.getElem_cons_zero, List.getElem_cons_succ, List.setIfInBounds_toArray, List.set_cons_zero, List.set_cons_succ]
                refine wpAnyH_take (i := 6) (v := ?v30) rfl (by kernel_rfl) (by kernel_rfl) (by kernel_rfl) (fun _ _ _ h => h) (Or.inl ⟨by rfl, ?hy30⟩) (by assumption) ?rest30
                case hy30 => (intro w hSw; (try dsimp only at hSw); go_simp; try (with_reducible rfl))
                try simp only [Act.put, List.getElem_toArray, List.getElem_cons_zero, List.getElem_cons_succ, List.setIfInBounds_toArray, List.set_cons_zero, List.set_cons_succ]
                refine wpAnyH_take (i := 7) (v := ?v31) rfl (by kernel_rfl) (by kernel_rfl) (by kernel_rfl) (fun _ _ _ h => h) (Or.inl ⟨by rfl, ?hy31⟩) (by assumption) ?rest31
                case hy31 => (intro w hSw; (try dsimp only at hSw); go_simp; try (with_reducible rfl))
                try simp only [Act.put, List.getElem_toArray, List.getElem_cons_zero, List.getElem_cons_succ, List.setIfInBounds_toArray, List.set_cons_zero, List.set_cons_succ]
                refine wpAnyH_take (i := 8) (v := ?v32) rfl (by kernel_rfl) (by kernel_rfl) (by kernel_rfl) (fun _ _ _ h => h) (Or.inl ⟨by rfl, ?hy32⟩) (by assumption) ?rest32
                case hy32 => (intro w hSw; (try dsimp only at hSw); go_simp; try (with_reducible rfl))
                try simp only [Act.put, List.getElem_toArray, List.getElem_cons_zero, List.getElem_cons_succ, List.setIfInBounds_toArray, List.set_cons_zero, List.set_cons_succ]
                refine wpAnyH_take (i := 9) (v := ?v33) rfl (by kernel_rfl) (by kernel_rfl) (by kernel_rfl) (fun _ _ _ h => h) (Or.inl ⟨by rfl, ?hy33⟩) (by assumption) ?rest33
                case hy33 => (intro w hSw; (try dsimp only at hSw); go_simp; try (with_reducible rfl))
                try simp only [Act.put, List.getElem_toArray, List.getElem_cons_zero, List.getElem_cons_succ, List.setIfInBounds_toArray, List.set_cons_zero, List.set_cons_succ]
                refine wpAnyH_ready (rs := [10]) (by kernel_rfl) (by simp) ?_
                refine AllReadyH.cons rfl (fun K hK => ?_) AllReadyH.nil
                go_simp
                refine hK.out _ _ (by exact ⟨cell_alloc v7, cell_alloc u7, cell_alloc ux, cell_alloc ur0, cell_alloc ur1⟩) (fun hHeld => ?_)
                clear hK K
                try simp only [Act.put, List.setIfInBounds_toArray, List.set_cons_zero, List.set_cons_succ]
                refine wpAnyH_ready (rs := [11]) (by kernel_rfl) (by simp) ?_
                refine AllReadyH.cons rfl (fun K hK => ?_) AllReadyH.nil
                refine stepApp E37 (by decide) _ (by rfl) _ _ (by rfl) (w8.heap.size + 1) sn (.slice ga sn gc) _ _ (by rfl) (by rfl) (by exact How.out.alloc _) (by exact heap_alloc_new _ _) (by rfl) (by simp [Value.oneCell']) (by omega) (by decide) (by simp; omega) ?_
                intro g cap w10 hown2 hgr hat hlt2
                have hgw := grown1 (grown_undrew hgr)
                have hG10 := HG9.out.grown hgw HneG.out
                have hb10 := Hb9.out.grown hgw Hb9.out.size (fun b hb => by have := (How.out.lt b hb).1; omega)
                obtain ⟨y7, yx, yr0, yr1⟩ := HSc.out w10 hb10
                have z7 := hG10.cell 7
                have zf := hG10.free 7
                simp only [List.getElem?_toArray, List.getElem?_cons_succ, List.getElem?_cons_zero] at z7
                refine hK.out _ _ (by exact ⟨z7, y7, yx, yr0, yr1⟩) (fun hHeld => ?_)
                clear hK K
                try simp only [Act.put, List.setIfInBounds_toArray]
                refine wpAnyH_take (i := 12) (v := ?v34) rfl (by kernel_rfl) (by kernel_rfl) (by kernel_rfl) (fun _ _ _ h => h) (Or.inl ⟨by rfl, ?hy34⟩) (by assumption) ?rest34
                case hy34 => (intro w hSw; (try dsimp only at hSw); go_simp; try (with_reducible rfl))
                try simp only [Act.put, List.getElem_toArray, List.getElem_cons_zero, List.getElem_cons_succ, List.setIfInBounds_toArray, List.set_cons_zero, List.set_cons_succ]
                refine wpAnyH_done (by kernel_rfl) ?_ _
                simp only [Exit.then]
                go_wp2_with fail
                go_roundw
                case rel =>
                  have hl1 : (selK RV s (p + 1)).length = sn + 1 := by rw [S1.out, List.length_append, Hsn.out]; rfl
                  refine ⟨p + 1, _, cap, by omega, by go_num, hb10.setCell (p := ⟨w8.heap.size, 7, none⟩) (Nat.le_refl _) _, by rw [hl1]; exact hG10.set 7 _, ?_⟩
                  rw [hl1]
                  have := ownsRow_setCell_below hown2 (a := ⟨w8.heap.size, 7, none⟩) (show w8.heap.size < w8.heap.size + 1 by omega) (.slice (some ⟨g, 0, none⟩) (sn + 1) cap)
                  rw [S1.out]
                  simpa [_root_.Go.Proofs.Ytkphggmbimjhjaa.c2] using this
                case measure => simp [intOf]; omega
            · obtain rfl : p = xn := by omega
              have hsl := selK_len RV s p
              have hrr := HPar.out.sel s p (by rw [HRVl.out]; exact Nat.le_refl _)
              have hrr9 : RulesRow w9 (selK RV s p) (selK K s p) := hrr.step fun x hx ls hl => hl.mono hb9
              have hrul : Rules w9 (.slice ga (selK RV s p).length gc) (selK K s p) := hrr9.rules (Below.refl _ _) (own_rows how)
              have hFM := HFw.out.mono hb9
              have hsub : (selK K s p).Sublist (rulesTo k R (min R.length 6)) := ((selK_sub K s p (by rw [HKs.out]; exact Nat.le_refl _)).trans (List.take_sublist _ _)).trans HsubK2.out
              have hFG : Fam w9 baseS nilV (.slice ai 3 ci) (.slice ad 2 cd) nilV nilV (.slice a7 k c7) (.slice ga (selK RV s p).length gc) (.slice a9 (min D.length 4) c9) (.slice a10 (min O.length 4) c10) (optsTo k) (selK K s p) _ _ 3 baseDims := ⟨hFM.insts, hFM.dims, hFM.opt, hrul, hFM.grd, hFM.ovr, famOk_sub hFM.ok hsub⟩
              have C0 := Lib.hid (count_ok _ _ _ _ _ _ _ _ _ _ _ _ _ _ _ _ _ ch w9 hFG (by rw [Hol.out]; exact hk6) (Hc8.out.mono hb9) (by rw [Hcn.out]; exact hcl2) (by rw [Hol.out]; exact He.out))
              rw [Hol.out] at C0
              have hsk0 := Hskip.out s (by have := Hsk.out; omega)
              have hv64 := visL_len hk6 ch (selK K s p)
              generalize hcnt : (visL k ch (selK K s p)).length = cnt at *
              obtain ⟨g0, g1, g2, g3, g4, g5, g6, g7, g8, g9, -⟩ := blk10 hG9
              have Hb9 := Lib.hid hb9
              have HG9 := Lib.hid hG9
              generalize (selK RV s p).length = sn at *
              have hskq := Hsk.out
              by_cases hs0 : s = 0
              · have e1 : ((cnt : Int) == 0) = true := by have := hsk0; simp [hs0] at this; simp; omega
                have e2 : decide (sk < 0) = true := by simp; omega
                clear hrr hrr9 hrul hFM hsub hFG hsk0 hcnt hb9 hG9 how hskq
                go_wp2_with fail
                refine (C0.out).mono ?_
                rintro e2 w10 ⟨rfl, hb10⟩
                go_wp2_with fail
                go_roundw
                case rel => exact ⟨s + 1, sk + 1, by have := Hsk.out; omega, rfl, by have := Hsk.out; omega, Hb9.out.via hb10 Hb9.out.size, _, HG9.out.below hb10⟩
                case measure => simp [intOf]; omega
              · have e1 : ((cnt : Int) == 0) = false := by have := hsk0; simp [hs0] at this; simp; omega
                have e2 : decide (sk < 0) = false := by simp; omega
                clear hrr hrr9 hrul hFM hsub hFG hsk0 hcnt hb9 hG9 how hskq
                go_wp2_with fail
                refine (C0.out).mono ?_
                rintro e2 w10 ⟨rfl, hb10⟩
                go_wp2_with fail
                go_roundw
                case rel => exact ⟨s + 1, sk + 1, by have := Hsk.out; omega, rfl, by have := Hsk.out; omega, Hb9.out.via hb10 Hb9.out.size, _, HG9.out.below hb10⟩
                case measure => simp [intOf]; omega
        · go_wp2_with fail
          go_ret
          exact Ret.mk (Hbw.out.via (Hb8.out.via hbr Hb8.out.size) Hbw.out.size)

end Go.Proofs.Ytkphggmbimjhjaa
