/-
  VariantDivides: the walk.
-/
import Derived.Test.YtkphggmbimjhjaaFat
import Derived.Test.YtkphggmbimjhjaaAll
import Derived.Test.YtkphggmbimjhjaaSame
import Derived.Test.YtkphggmbimjhjaaFor2
import Derived.Test.YtkphggmbimjhjaaDec
import Derived.Test.YtkphggmbimjhjaaUs
import Derived.Test.YtkphggmbimjhjaaDv
import Derived.Deep.CutBlock
import Derived.Deep.DeepCutAuto
namespace Go.Proofs.Ytkphggmbimjhjaa
open Go.RowKit

set_option maxHeartbeats 8000000 in
set_option maxRecDepth 100000 in
theorem divides_any (N : Int) (R D O : List (List Int)) (a2 a3 a4 : Option Addr) (c2 c3 c4 : Nat) (a1 : Option Addr) (c : Nat) (code : List Int) (o : Int) (w : World) (h11 : Hid (∀ w, Calls Try.prog 11 #[] w (Ret (.bool true) w))) (hN0 : 0 ≤ N) (hN : N < 256)
    (hRr : ∀ r ∈ R, ∀ x ∈ r, -128 ≤ x ∧ x ≤ 127) (hDr : ∀ r ∈ D, ∀ x ∈ r, -128 ≤ x ∧ x ≤ 127) (hOr : ∀ r ∈ O, ∀ x ∈ r, -128 ≤ x ∧ x ≤ 127) (hR : M8 w (.slice a2 R.length c2) R) (hD : M8 w (.slice a3 D.length c3) D) (hO : M8 w (.slice a4 O.length c4) O) (hC : I8s w (.slice a1 code.length c) code) (hcr : ∀ x ∈ code, -128 ≤ x ∧ x ≤ 127) (ho : (Lit.int .u8 o).wf = true) :
    Calls Try.prog 6 #[.agg #[.int .u8 N, .slice a2 R.length c2, .slice a3 D.length c3, .slice a4 O.length c4], .slice a1 code.length c, .int .u8 o] w (Ret (.bool true) w) := by
  have HFa0 := Lib.hid (fun w2 ai ci ad cd (h2 : Below w.heap.size w w2) (hdim : Dims w2 (.slice ad 2 cd) baseDims) => family_any N R D O (.slice a2 R.length c2) (.slice a3 D.length c3) (.slice a4 O.length c4) ai ci ad cd w2 hN0 hN hRr hDr hOr (hR.mono h2) (hD.mono h2) (hO.mono h2) hdim)
  obtain ⟨k, Hk, hk1, hk6⟩ : ∃ k : Nat, Hid ((1 + N % 6).toNat = k) ∧ 1 ≤ k ∧ k ≤ 6 := ⟨_, Lib.hid rfl, by omega, by omega⟩
  rw [Hk.out] at HFa0
  clear hRr hDr hOr hR hD hO hN0 hN Hk
  generalize hn2 : R.length = n2 at *
  generalize hn3 : D.length = n3 at *
  generalize hn4 : O.length = n4 at *
  have Hn2 := Lib.hid hn2
  have Hn3 := Lib.hid hn3
  have Hn4 := Lib.hid hn4
  clear hn2 hn3 hn4
  have HC := Lib.hid hC
  have Hcr := Lib.hid hcr
  generalize code.length = n at *
  clear hC hcr
  simp only [Lit.wf, Bool.and_eq_true, decide_eq_true_eq] at ho
  have m1 : IntKind.u8.min = 0 := rfl
  have m2 : IntKind.u8.max = 255 := rfl
  rw [m1, m2] at ho
  clear m1 m2
  obtain ⟨q, hq, hqk⟩ : ∃ q : Nat, o % (k : Int) = (q : Int) ∧ q < k := ⟨(o % (k : Int)).toNat, by have := Int.emod_nonneg o (show (k : Int) ≠ 0 by omega); omega, by have := Int.emod_nonneg o (show (k : Int) ≠ 0 by omega); have := Int.emod_lt_of_pos o (show (0 : Int) < (k : Int) by omega); omega⟩
  have hrem : o.tmod (k : Int) = (q : Int) := by rw [Int.tmod_eq_emod_of_nonneg ho.1, hq]
  have Hrem := Lib.hid hrem
  have hwo : IntKind.i64.wrap o = o := IntWalk.i64_in _ (by omega)
  have Hwo := Lib.hid hwo
  have hk0 : ((k : Int) == 0) = false := by simp; omega
  have Hk0 := Lib.hid hk0
  have Ho := Lib.hid ho
  clear hrem hwo hk0 hq ho
  go_enter Try.func6, Try.ntmps6
  go_upto_region 4 with (go_at_call 11; refine (h11.out _).mono ?_; rintro e w1 ⟨rfl, hb1⟩)
  go_cut [7] (fun s5 wx => ∃ B ai ci ad cd a7 c7 a8 c8 a9 c9 a10 c10, s5 = .pointer (some ⟨B, 0, none⟩) ∧ FamAt wx B k R D O ai ci ad cd a7 c7 a8 c8 a9 c9 a10 c10 ∧ Below w.heap.size w wx)
  case first =>
    have hb0 := below1 w (.cells #[.int .u8 N, .slice a2 n2 c2, .slice a3 n3 c3, .slice a4 n4 c4] 24)
    have hbw : Below w.heap.size w w1 := hb0.via hb1 hb0.size
    have Hkin := Lib.hid (fun w' (h : Below w1.heap.size w1 w') => blk4 (((Blk.new w #[.int .u8 N, .slice a2 n2 c2, .slice a3 n3 c3, .slice a4 n4 c4] 24).below hb1).below h))
    have HFa := Lib.hid (fun w2 ai ci ad cd (h2 : Below w1.heap.size w1 w2) hdim => HFa0.out w2 ai ci ad cd (hbw.via h2 hbw.size) hdim)
    refine wp_region_pop (S := (fun w' => w'.cell? ⟨w.heap.size, 0, none⟩ = some (.int .u8 N) ∧ w'.cell? ⟨w.heap.size, 1, none⟩ = some (.slice a2 n2 c2) ∧ w'.cell? ⟨w.heap.size, 2, none⟩ = some (.slice a3 n3 c3) ∧ w'.cell? ⟨w.heap.size, 3, none⟩ = some (.slice a4 n4 c4))) 4 (by kernel_rfl) (by kernel_rfl) (by exact Hkin.out w1.drew (Below.refl _ _).drew) (fun hHeld => ?_)
    simp only [List.take_succ_cons, List.take_zero, List.drop_succ_cons, List.drop_zero]
    refine wpAnyH_take (i := 0) (v := ?v1) rfl (by kernel_rfl) (by kernel_rfl) (by kernel_rfl) (fun _ _ _ h => h) (Or.inl ⟨by rfl, ?hy1⟩) (by assumption) ?rest1
    case hy1 => (intro w hSw; (try dsimp only at hSw); go_simp; try (with_reducible rfl))
    try simp only [Act.put, List.getElem_toArray, List.getElem_cons_zero, List.setIfInBounds_toArray, List.set_cons_zero, List.set_cons_succ]
    refine wpAnyH_ready (rs := [1, 3]) (by kernel_rfl) (by simp) ?_
    refine AllReadyH.cons rfl (fun K hK => ?_) (AllReadyH.cons rfl (fun K hK => ?_) AllReadyH.nil)
    · go_simp
      go_at_call 13
      refine (plain_any _).mono ?_
      rintro e w2 ⟨ai, ci, ad, cd, rfl, hdim, hfr, hb2⟩
      have Hdim := Lib.hid hdim
      have Hfr := Lib.hid hfr
      clear hdim hfr
      have Hb2 := Lib.hid (show Below w1.heap.size w1 w2 from undrew hb2)
      have hk2 := Hkin.out w2 Hb2.out
      refine hK.out _ _ (by exact hk2) (fun hHeld => ?_)
      clear hK K
      try simp only [Act.put, List.setIfInBounds_toArray, List.set_cons_zero, List.set_cons_succ]
      refine wpAnyH_ready (rs := [2, 3]) (by kernel_rfl) (by simp) ?_
      refine AllReadyH.cons rfl (fun K hK => ?_) (AllReadyH.cons rfl (fun K hK => ?_) AllReadyH.nil)
      · go_simp
        go_at_call 12
        refine (HFa.out _ ai ci ad cd (by exact Hb2.out) (by exact Hdim.out)).mono ?_
        rintro e w3 ⟨a7, c7, a8, c8, a9, c9, a10, c10, rvk, rfl, hP⟩
        have HP := Lib.hid hP
        clear hP
        have Hb3 := Lib.hid (show Below w1.heap.size w1 w3 from (Hb2.out).via HP.out.below (Hb2.out).size)
        have hk3 := Hkin.out w3 Hb3.out
        refine hK.out _ _ (by exact hk3) (fun hHeld => ?_)
        clear hK K
        try simp only [Act.put, List.setIfInBounds_toArray, List.set_cons_zero, List.set_cons_succ]
        refine wpAnyH_ready (rs := [3]) (by kernel_rfl) (by simp) ?_
        refine AllReadyH.cons rfl (fun K hK => ?_) AllReadyH.nil
        go_simp
        refine hK.out _ _ (by exact Hkin.out _ (Hb3.out.alloc Hb3.out.size _)) (fun hHeld => ?_)
        clear hK K
        try simp only [Act.put, List.setIfInBounds_toArray, List.set_cons_zero, List.set_cons_succ]
        refine wpAnyH_done (by kernel_rfl) ?_ _
        simp only [Exit.then]
        go_wp2_with fail
        go_meet
        exact ⟨_, ai, ci, ad, cd, a7, c7, a8, c8, a9, c9, a10, c10, rfl, famAt_new HP.out hk6 Hdim.out, (hbw.via Hb3.out hbw.size).alloc (by have := hbw.size; have := Hb3.out.size; omega) _⟩
      · go_simp
        have HZ := Lib.hid (Blk.new w2 #[.string ⟨#[]⟩, .slice none 0 0, .slice none 0 0, .slice none 0 0, .slice none 0 0, .slice none 0 0, .slice none 0 0, .slice none 0 0, .slice none 0 0, .slice none 0 0] 41)
        refine hK.out _ _ (by exact Hkin.out _ (Hb2.out.alloc Hb2.out.size _)) (fun hHeld => ?_)
        clear hK K
        try simp only [Act.put, List.setIfInBounds_toArray, List.set_cons_zero, List.set_cons_succ]
        refine wpAnyH_ready (rs := [2]) (by kernel_rfl) (by simp) ?_
        refine AllReadyH.cons rfl (fun K hK => ?_) AllReadyH.nil
        go_simp
        go_at_call 12
        refine (HFa.out _ ai ci ad cd (by exact (Hb2.out.alloc Hb2.out.size _)) (by exact (Hdim.out.mono (below1 _ _)))).mono ?_
        rintro e w3 ⟨a7, c7, a8, c8, a9, c9, a10, c10, rvk, rfl, hP⟩
        have HP := Lib.hid hP
        clear hP
        have Hb3 := Lib.hid (show Below w1.heap.size w1 w3 from ((Hb2.out.alloc Hb2.out.size _)).via HP.out.below ((Hb2.out.alloc Hb2.out.size _)).size)
        have hk3 := Hkin.out w3 Hb3.out
        refine hK.out _ _ (by exact hk3) (fun hHeld => ?_)
        clear hK K
        try simp only [Act.put, List.setIfInBounds_toArray, List.set_cons_zero, List.set_cons_succ]
        refine wpAnyH_done (by kernel_rfl) ?_ _
        simp only [Exit.then]
        have HZ3 := Lib.hid (HZ.out.below HP.out.below)
        obtain ⟨z0, z1, z2, z3, z4, z5, z6, z7, z8, z9, r0, r1, r2, r3, r4, r5, r6, r7, r8, r9⟩ := blk10 HZ3.out
        go_wp2_with fail
        go_meet
        exact ⟨_, ai, ci, ad, cd, a7, c7, a8, c8, a9, c9, a10, c10, rfl, famAt_store HP.out hk6 HZ3.out (by simp) (Hdim.out.mono (below1 _ _)) (fun b hb => by have := dims_lt Hdim.out b hb; omega), below_set10 (hbw.via Hb3.out hbw.size) (by have := hbw.size; have := Hb2.out.size; omega) _ _ _ _ _ _ _ _ _ _⟩
    · go_simp
      have HZ1 := Lib.hid (Blk.new w1 #[.string ⟨#[]⟩, .slice none 0 0, .slice none 0 0, .slice none 0 0, .slice none 0 0, .slice none 0 0, .slice none 0 0, .slice none 0 0, .slice none 0 0, .slice none 0 0] 41)
      refine hK.out _ _ (by exact Hkin.out _ ((below1 w1 _).dn 1)) (fun hHeld => ?_)
      clear hK K
      try simp only [Act.put, List.setIfInBounds_toArray, List.set_cons_zero, List.set_cons_succ]
      refine wpAnyH_ready (rs := [1]) (by kernel_rfl) (by simp) ?_
      refine AllReadyH.cons rfl (fun K hK => ?_) AllReadyH.nil
      go_simp
      go_at_call 13
      refine (plain_any _).mono ?_
      rintro e w2 ⟨ai, ci, ad, cd, rfl, hdim, hfr, hb2⟩
      have Hdim := Lib.hid hdim
      have Hfr := Lib.hid hfr
      clear hdim hfr
      have Hb2 := Lib.hid (show Below w1.heap.size w1 w2 from (below1 w1 _).via (undrew hb2) (by simp))
      have hk2 := Hkin.out w2 Hb2.out
      refine hK.out _ _ (by exact hk2) (fun hHeld => ?_)
      clear hK K
      try simp only [Act.put, List.setIfInBounds_toArray, List.set_cons_zero, List.set_cons_succ]
      have HZ := Lib.hid (HZ1.out.below (undrew hb2))
      refine wpAnyH_ready (rs := [2]) (by kernel_rfl) (by simp) ?_
      refine AllReadyH.cons rfl (fun K hK => ?_) AllReadyH.nil
      go_simp
      go_at_call 12
      refine (HFa.out _ ai ci ad cd (by exact Hb2.out) (by exact Hdim.out)).mono ?_
      rintro e w3 ⟨a7, c7, a8, c8, a9, c9, a10, c10, rvk, rfl, hP⟩
      have HP := Lib.hid hP
      clear hP
      have Hb3 := Lib.hid (show Below w1.heap.size w1 w3 from (Hb2.out).via HP.out.below (Hb2.out).size)
      have hk3 := Hkin.out w3 Hb3.out
      refine hK.out _ _ (by exact hk3) (fun hHeld => ?_)
      clear hK K
      try simp only [Act.put, List.setIfInBounds_toArray, List.set_cons_zero, List.set_cons_succ]
      refine wpAnyH_done (by kernel_rfl) ?_ _
      simp only [Exit.then]
      have HZ3 := Lib.hid (HZ.out.below HP.out.below)
      obtain ⟨z0, z1, z2, z3, z4, z5, z6, z7, z8, z9, r0, r1, r2, r3, r4, r5, r6, r7, r8, r9⟩ := blk10 HZ3.out
      go_wp2_with fail
      go_meet
      exact ⟨_, ai, ci, ad, cd, a7, c7, a8, c8, a9, c9, a10, c10, rfl, famAt_store HP.out hk6 HZ3.out (by exact HZ.out.lt) Hdim.out (fun b hb => by have := Hfr.out b hb; simp at this; omega), below_set10 (hbw.via Hb3.out hbw.size) (by have := hbw.size; omega) _ _ _ _ _ _ _ _ _ _⟩
  case rest =>
    obtain ⟨B, ai, ci, ad, cd, a7, c7, a8, c8, a9, c9, a10, c10, rfl, hFA, hbw⟩ := hcut
    rename World => wx
    have HB := Lib.hid (fun w' (h : Below wx.heap.size wx w') => blk10 (hFA.blk.below h))
    have HF := Lib.hid (fun w' (h : Below wx.heap.size wx w') => hFA.fam.mono h)
    have HBc := Lib.hid (fun w' (h : Below wx.heap.size wx w') => (blk10c (HB.out w' h)))
    have hol : (optsTo k).length = k := optsTo_len k
    have hrl : (rulesTo k R (min R.length 6)).length = min R.length 6 := rulesTo_len _ _ _
    have hm6 : min R.length 6 < 1000 := by omega
    have Hbw := Lib.hid hbw
    clear hFA hbw
    have hlen : (decodeL k code).length ≤ k := decodeL_len k code
    have he : litErr k (decodeL k code) = 0 := decodeL_ok k code
    have H21 := Lib.hid (fun w' (h : Below wx.heap.size wx w') => decode_any k code (.slice a1 n c) w' hk1 hk6 ((HC.out.mono Hbw.out).mono h) Hcr.out)
    generalize hch : decodeL k code = ch at *
    clear hch
    have hlok : LitsOk k ch := litErr_ok he
    have hpair := litErr_pair he
    obtain ⟨z0, z1, z2, z3, z4, z5, z6, z7, z8, z9, -⟩ := HB.out wx (Below.refl _ _)
    have hrem := Hrem.out
    have hwo := Hwo.out
    have hk0 := Hk0.out
    have hkz : k ≠ 0 := by omega
    have ho0 := Ho.out.1
    have ho1 := Ho.out.2
    go_wp2_with fail
    refine wp_region_held_drew (S := (fun _ => True)) (by kernel_rfl) trivial (fun hHeld => ?_)
    refine wpAnyH_take (i := 0) (v := ?v2) rfl (by kernel_rfl) (by kernel_rfl) (by kernel_rfl) (fun _ _ _ h => h) (Or.inl ⟨by rfl, ?hy2⟩) (by assumption) ?rest2
    case hy2 => (intro w hSw; (try dsimp only at hSw); go_simp; try (with_reducible rfl))
    try simp only [Act.put, List.getElem_toArray, List.getElem_cons_zero, List.setIfInBounds_toArray, List.set_cons_zero, List.set_cons_succ]
    refine wpAnyH_take (i := 1) (v := ?v3) rfl (by kernel_rfl) (by kernel_rfl) (by kernel_rfl) (fun _ _ _ h => h) (Or.inl ⟨by rfl, ?hy3⟩) (by assumption) ?rest3
    case hy3 => (intro w hSw; (try dsimp only at hSw); go_simp; try (with_reducible rfl))
    try simp only [Act.put, List.getElem_toArray, List.getElem_cons_zero, List.getElem_cons_succ, List.setIfInBounds_toArray, List.set_cons_zero, List.set_cons_succ]
    refine wpAnyH_take (i := 3) (v := ?v4) rfl (by kernel_rfl) (by kernel_rfl) (by kernel_rfl) (fun _ _ _ h => h) (Or.inl ⟨by rfl, ?hy4⟩) (by assumption) ?rest4
    case hy4 => (intro w hSw; (try dsimp only at hSw); go_simp; try (with_reducible rfl))
    try simp only [Act.put, List.getElem_toArray, List.getElem_cons_zero, List.getElem_cons_succ, List.setIfInBounds_toArray, List.set_cons_zero, List.set_cons_succ]
    refine wpAnyH_take (i := 4) (v := ?v5) rfl (by kernel_rfl) (by kernel_rfl) (by kernel_rfl) (fun _ _ _ h => h) (Or.inl ⟨by rfl, ?hy5⟩) (by assumption) ?rest5
    case hy5 => (intro w hSw; (try dsimp only at hSw); go_simp; try (with_reducible rfl))
    try simp only [Act.put, List.getElem_toArray, List.getElem_cons_zero, List.getElem_cons_succ, List.setIfInBounds_toArray, List.set_cons_zero, List.set_cons_succ]
    refine wpAnyH_take (i := 5) (v := ?v6) rfl (by kernel_rfl) (by kernel_rfl) (by kernel_rfl) (fun _ _ _ h => h) (Or.inl ⟨by rfl, ?hy6⟩) (by assumption) ?rest6
    case hy6 => (intro w hSw; (try dsimp only at hSw); go_simp; try (with_reducible rfl))
    try simp only [Act.put, List.getElem_toArray, List.getElem_cons_zero, List.getElem_cons_succ, List.setIfInBounds_toArray, List.set_cons_zero, List.set_cons_succ]
    refine wpAnyH_take (i := 6) (v := ?v7) rfl (by kernel_rfl) (by kernel_rfl) (by kernel_rfl) (fun _ _ _ h => h) (Or.inl ⟨by rfl, ?hy7⟩) (by assumption) ?rest7
    case hy7 => (intro w hSw; (try dsimp only at hSw); go_simp; try (with_reducible rfl))
    try simp only [Act.put, List.getElem_toArray, List.getElem_cons_zero, List.getElem_cons_succ, List.setIfInBounds_toArray, List.set_cons_zero, List.set_cons_succ]
    refine wpAnyH_ready (rs := [2]) (by kernel_rfl) (by simp) ?_
    refine AllReadyH.cons rfl (fun K hK => ?_) AllReadyH.nil
    go_simp
    go_at_call 21
    refine (H21.out _ (by exact (Below.refl _ _).drew)).mono ?_
    rintro e2 w2 ⟨v, rfl, hli, -, hb2⟩
    have Hb2 := Lib.hid (undrew hb2)
    obtain ⟨av, cv, rfl, -, -⟩ := hli.open
    have Hli := Lib.hid hli
    clear hb2 hli
    refine hK.out _ _ (by trivial) (fun hHeld => ?_)
    clear hK K
    try simp only [Act.put, List.setIfInBounds_toArray, List.set_cons_zero, List.set_cons_succ]
    refine wpAnyH_take (i := 7) (v := ?v8) rfl (by kernel_rfl) (by kernel_rfl) (by kernel_rfl) (fun _ _ _ h => h) (Or.inl ⟨by rfl, ?hy8⟩) (by assumption) ?rest8
    case hy8 => (intro w hSw; (try dsimp only at hSw); go_simp; try (with_reducible rfl))
    try simp only [Act.put, List.getElem_toArray, List.getElem_cons_zero, List.getElem_cons_succ, List.setIfInBounds_toArray, List.set_cons_zero, List.set_cons_succ]
    refine wpAnyH_take (i := 8) (v := ?v9) rfl (by kernel_rfl) (by kernel_rfl) (by kernel_rfl) (fun _ _ _ h => h) (Or.inl ⟨by rfl, ?hy9⟩) (by assumption) ?rest9
    case hy9 => (intro w hSw; (try dsimp only at hSw); go_simp; try (with_reducible rfl))
    try simp only [Act.put, List.getElem_toArray, List.getElem_cons_zero, List.getElem_cons_succ, List.setIfInBounds_toArray, List.set_cons_zero, List.set_cons_succ]
    refine wpAnyH_done (by kernel_rfl) ?_ _
    clear hrem hwo hk0 hkz ho0 ho1
    have Hment := Lib.hid (mentions_any ch (.slice av ch.length cv) (q : Int) w2 Hli.out (by omega))
    have HFx := Lib.hid (fun w' (h : Below w2.heap.size w2 w') => HF.out w' (Hb2.out.via h Hb2.out.size))
    have HBx := Lib.hid (fun w' (h : Below w2.heap.size w2 w') => HB.out w' (Hb2.out.via h Hb2.out.size))
    generalize hcn : ch.length = cn at *
    have Hcn := Lib.hid hcn
    clear hcn
    cases hm : mentB ch q
    · rw [hm] at Hment
      have hnq : ∀ l ∈ ch, l.1 ≠ (q : Int) := fun l hl e => by unfold mentB at hm; rw [List.any_eq_false] at hm; exact hm l hl (by simpa using e)
      have eOn := (litErr_onTo (n := k) (q := q) (b := true) hpair hnq (Nat.le_refl k)).1
      have eOff := (litErr_onTo (n := k) (q := q) (b := false) hpair hnq (Nat.le_refl k)).1
      have lOn := onTo_len (n := k) (q := q) (b := true) hpair
      have lOff := onTo_len (n := k) (q := q) (b := false) hpair
      have halves := visL_halves (rs := rulesTo k R (min R.length 6)) hlok hqk
      have Hnames := Lib.hid (forced_names (rs := rulesTo k R (min R.length 6)) hlok hqk)
      have HeOn := Lib.hid eOn
      have HeOff := Lib.hid eOff
      have HlOn := Lib.hid lOn
      have HlOff := Lib.hid lOff
      have Hhalf := Lib.hid halves
      have He := Lib.hid he
      have Hlok := Lib.hid hlok
      have Hpair := Lib.hid hpair
      have Hol := Lib.hid hol
      clear eOn eOff lOn lOff halves he hlok hpair hnq hm hol hrl
      go_wp2_with fail
      refine (Hment.out).mono ?_
      rintro e2 w3 ⟨rfl, hb3⟩
      have Hb23 := Lib.hid hb3
      have Hb3 := Lib.hid (Hb2.out.via hb3 Hb2.out.size)
      clear hb3
      go_wp2_with fail
      go_loopw [11, 12, 13] (fun u v i wr => ∃ j : Nat, j ≤ k ∧ i = .int .i64 j ∧ Duo w3 wr u v (onTo ch q true j) (onTo ch q false j)) (fun _ _ i _ => k - (intOf i).toNat)
      case atStart => exact ⟨0, Nat.zero_le _, rfl, Duo.start _⟩
      case round =>
        obtain ⟨j, hj, rfl, hduo⟩ := hrel
        have Hduo := Lib.hid hduo
        have lj1 := HlOn.out j
        have lj2 := HlOff.out j
        clear hduo
        by_cases hlt : j < k
        · go_wp2_with fail
          go_loopw [11, 12, 14] (fun u v i wr => ∃ p : Nat, p ≤ cn ∧ i = .int .i64 p ∧ Duo w3 wr u v (onTo ch q true j ++ (ch.take p).filter (fun l => l.1 == (j : Int))) (onTo ch q false j ++ (ch.take p).filter (fun l => l.1 == (j : Int)))) (fun _ _ i _ => cn - (intOf i).toNat)
          case atStart => exact ⟨0, Nat.zero_le _, rfl, by simpa using Hduo.out⟩
          case round =>
            obtain ⟨p, hp, rfl, hduo⟩ := hrel
            have hfl : ((ch.take p).filter (fun l => l.1 == (j : Int))).length ≤ p := filter_take_len _ _ _
            by_cases hltp : p < cn
            · obtain ⟨lb, lo, l, rfl, hlp, hlbt, l0, l1⟩ := Lits.at_lt Hli.out (Hb23.out.via hduo.below Hb23.out.size) (k := p) hltp
              have hlbt3 : lb < w3.heap.size := Nat.lt_of_lt_of_le hlbt Hb23.out.size
              have HLc := Lib.hid (fun w' (h : Below w3.heap.size w3 w') => And.intro ((h.cell (p := ⟨lb, lo + p * 2, none⟩) hlbt3).trans ((hduo.below.cell (p := ⟨lb, lo + p * 2, none⟩) hlbt3).symm.trans l0)) ((h.cell (p := ⟨lb, lo + p * 2 + 1, none⟩) hlbt3).trans ((hduo.below.cell (p := ⟨lb, lo + p * 2 + 1, none⟩) hlbt3).symm.trans l1)))
              have Hs := Lib.hid (filter_take_succ (fun l : Lit1 => l.1 == (j : Int)) hlp)
              have Hd := Lib.hid hduo
              have hwl := hduo.below.size
              clear hduo hlp
              generalize hxs : onTo ch q true j ++ (ch.take p).filter (fun l => l.1 == (j : Int)) = xs at *
              generalize hys : onTo ch q false j ++ (ch.take p).filter (fun l => l.1 == (j : Int)) = ys at *
              have hxl : xs.length < 1000 := by rw [← hxs, List.length_append]; omega
              have hyl : ys.length < 1000 := by rw [← hys, List.length_append]; omega
              have Hxs := Lib.hid hxs
              have Hys := Lib.hid hys
              clear hxs hys
              cases hh : l.1 == (j : Int)
              · have HH := Lib.hid hh
                go_wp2_with fail
                go_roundw
                case rel => exact ⟨p + 1, by omega, by go_num, by rw [Hs.out, if_neg (by rw [HH.out]; decide), List.append_nil, Hxs.out, Hys.out]; exact Hd.out⟩
                case measure => simp [intOf]; omega
              · have HH := Lib.hid hh
                have hj0 : (0 : Int) ≤ (p : Int) := Int.natCast_nonneg _
                have hp1 : (p : Int) < (cn : Int) := by omega
                go_wp2_with fail
                refine wp_region_held_drew (S := (fun w' => w'.cell? ⟨lb, lo + p * 2, none⟩ = some (.int .i64 l.1) ∧ w'.cell? ⟨lb, lo + p * 2 + 1, none⟩ = some (.bool l.2))) (by kernel_rfl) (by exact ⟨l0, l1⟩) (fun hHeld => ?_)
                refine wpAnyH_take (i := 0) (v := ?v10) rfl (by kernel_rfl) (by kernel_rfl) (by kernel_rfl) (fun _ _ _ h => h) (Or.inl ⟨by rfl, ?hy10⟩) (by assumption) ?rest10
                case hy10 => (intro w hSw; (try dsimp only at hSw); go_simp; try (with_reducible rfl))
                try simp only [Act.put, List.getElem_toArray, List.getElem_cons_zero, List.setIfInBounds_toArray, List.set_cons_zero, List.set_cons_succ]
                refine wpAnyH_take (i := 1) (v := ?v11) rfl (by kernel_rfl) (by kernel_rfl) (by kernel_rfl) (fun _ _ _ h => h) (Or.inl ⟨by rfl, ?hy11⟩) (by assumption) ?rest11
                case hy11 => (intro w hSw; (try dsimp only at hSw); go_simp; try (with_reducible rfl))
                try simp only [Act.put, List.getElem_toArray, List.getElem_cons_zero, List.getElem_cons_succ, List.setIfInBounds_toArray, List.set_cons_zero, List.set_cons_succ]
                refine wpAnyH_take (i := 2) (v := ?v12) rfl (by kernel_rfl) (by kernel_rfl) (by kernel_rfl) (fun _ _ _ h => h) (Or.inl ⟨by rfl, ?hy12⟩) (by assumption) ?rest12
                case hy12 => (intro w hSw; (try dsimp only at hSw); go_simp; try (with_reducible rfl))
                try simp only [Act.put, List.getElem_toArray, List.getElem_cons_zero, List.getElem_cons_succ, List.setIfInBounds_toArray, List.set_cons_zero, List.set_cons_succ]
                refine wpAnyH_take (i := 3) (v := ?v13) rfl (by kernel_rfl) (by kernel_rfl) (by kernel_rfl) (fun _ _ _ h => h) (Or.inl ⟨by rfl, ?hy13⟩) (by assumption) ?rest13
                case hy13 => (intro w hSw; (try dsimp only at hSw); go_simp; try (with_reducible rfl))
                try simp only [Act.put, List.getElem_toArray, List.getElem_cons_zero, List.getElem_cons_succ, List.setIfInBounds_toArray, List.set_cons_zero, List.set_cons_succ]
                refine wpAnyH_take (i := 4) (v := ?v14) rfl (by kernel_rfl) (by kernel_rfl) (by kernel_rfl) (fun _ _ _ h => h) (Or.inl ⟨by rfl, ?hy14⟩) (by assumption) ?rest14
                case hy14 => (intro w hSw; (try dsimp only at hSw); go_simp; try (with_reducible rfl))
                try simp only [Act.put, List.getElem_toArray, List.getElem_cons_zero, List.getElem_cons_succ, List.setIfInBounds_toArray, List.set_cons_zero, List.set_cons_succ]
                refine wpAnyH_take (i := 7) (v := ?v15) rfl (by kernel_rfl) (by kernel_rfl) (by kernel_rfl) (fun _ _ _ h => h) (Or.inl ⟨by rfl, ?hy15⟩) (by assumption) ?rest15
                case hy15 => (intro w hSw; (try dsimp only at hSw); go_simp; try (with_reducible rfl))
                try simp only [Act.put, List.getElem_toArray, List.getElem_cons_zero, List.getElem_cons_succ, List.setIfInBounds_toArray, List.set_cons_zero, List.set_cons_succ]
                refine wpAnyH_take (i := 8) (v := ?v16) rfl (by kernel_rfl) (by kernel_rfl) (by kernel_rfl) (fun _ _ _ h => h) (Or.inl ⟨by rfl, ?hy16⟩) (by assumption) ?rest16
                case hy16 => (intro w hSw; (try dsimp only at hSw); go_simp; try (with_reducible rfl))
                try simp only [Act.put, List.getElem_toArray, List.getElem_cons_zero, List.getElem_cons_succ, List.setIfInBounds_toArray, List.set_cons_zero, List.set_cons_succ]
                refine wpAnyH_take (i := 9) (v := ?v17) rfl (by kernel_rfl) (by kernel_rfl) (by kernel_rfl) (fun _ _ _ h => h) (Or.inl ⟨by rfl, ?hy17⟩) (by assumption) ?rest17
                case hy17 => (intro w hSw; (try dsimp only at hSw); go_simp; try (with_reducible rfl))
                try simp only [Act.put, List.getElem_toArray, List.getElem_cons_zero, List.getElem_cons_succ, List.setIfInBounds_toArray, List.set_cons_zero, List.set_cons_succ]
                refine wpAnyH_take (i := 10) (v := ?v18) rfl (by kernel_rfl) (by kernel_rfl) (by kernel_rfl) (fun _ _ _ h => h) (Or.inl ⟨by rfl, ?hy18⟩) (by assumption) ?rest18
                case hy18 => (intro w hSw; (try dsimp only at hSw); go_simp; try (with_reducible rfl))
                try simp only [Act.put, List.getElem_toArray, List.getElem_cons_zero, List.getElem_cons_succ, List.setIfInBounds_toArray, List.set_cons_zero, List.set_cons_succ]
                refine wpAnyH_take (i := 11) (v := ?v19) rfl (by kernel_rfl) (by kernel_rfl) (by kernel_rfl) (fun _ _ _ h => h) (Or.inl ⟨by rfl, ?hy19⟩) (by assumption) ?rest19
                case hy19 => (intro w hSw; (try dsimp only at hSw); go_simp; try (with_reducible rfl))
                try simp only [Act.put, List.getElem_toArray, List.getElem_cons_zero, List.getElem_cons_succ, List.setIfInBounds_toArray, List.set_cons_zero, List.set_cons_succ]
                refine wpAnyH_ready (rs := [5, 12]) (by kernel_rfl) (by simp) ?_
                refine AllReadyH.cons rfl (fun K hK => ?_) (AllReadyH.cons rfl (fun K hK => ?_) AllReadyH.nil)
                · go_simp
                  refine hK.out _ _ (by exact HLc.out _ (Hd.out.via ((below1 wr (.cells #[.int .i64 l.1, .bool l.2] 62)).dn 1)).below) (fun hHeld => ?_)
                  clear hK K
                  try simp only [Act.put, List.setIfInBounds_toArray, List.set_cons_zero, List.set_cons_succ]
                  refine wpAnyH_ready (rs := [6, 12]) (by kernel_rfl) (by simp) ?_
                  refine AllReadyH.cons rfl (fun K hK => ?_) (AllReadyH.cons rfl (fun K hK => ?_) AllReadyH.nil)
                  · refine stepApp E25 (by decide) [.int .i64 l.1, .bool l.2] (by rfl) _ _ (by rfl) w3.heap.size xs.length _ (litF xs) (wr.heap.size) (by rfl) (by rfl) (by exact (Hd.out.via ((below1 wr (.cells #[.int .i64 l.1, .bool l.2] 62)).dn 1)).on) (by exact heap_alloc_new wr _) (by rfl) (by simp [Value.oneCell']) (by omega) (by decide) (by exact (Hd.out.via ((below1 wr (.cells #[.int .i64 l.1, .bool l.2] 62)).dn 1)).below.size) ?_
                    intro g4 cap4 w4 hown4 hgr4 hat4 hlt4
                    have d4 := (Hd.out.via ((below1 wr (.cells #[.int .i64 l.1, .bool l.2] 62)).dn 1)).on_app hgr4 hown4 (hat4.elim .inl (fun h => .inr (by rw [h]; exact Nat.le_refl _)))
                    refine hK.out _ _ (by exact HLc.out _ d4.below) (fun hHeld => ?_)
                    clear hK K
                    try simp only [Act.put, List.setIfInBounds_toArray]
                    refine wpAnyH_ready (rs := [12]) (by kernel_rfl) (by simp) ?_
                    refine AllReadyH.cons rfl (fun K hK => ?_) AllReadyH.nil
                    go_simp
                    refine hK.out _ _ (by exact HLc.out _ (d4.via (below1 w4 _)).below) (fun hHeld => ?_)
                    clear hK K
                    try simp only [Act.put, List.setIfInBounds_toArray, List.set_cons_zero, List.set_cons_succ]
                    refine wpAnyH_ready (rs := [13]) (by kernel_rfl) (by simp) ?_
                    refine AllReadyH.cons rfl (fun K hK => ?_) AllReadyH.nil
                    refine stepApp E25 (by decide) [.int .i64 l.1, .bool l.2] (by rfl) _ _ (by rfl) w3.heap.size ys.length _ (litF ys) (w4.heap.size) (by rfl) (by rfl) (by exact (d4.via (below1 w4 (.cells #[.int .i64 l.1, .bool l.2] 62))).off) (by exact heap_alloc_new w4 _) (by rfl) (by simp [Value.oneCell']) (by omega) (by decide) (by exact (d4.via (below1 w4 (.cells #[.int .i64 l.1, .bool l.2] 62))).below.size) ?_
                    intro g5 cap5 w5 hown5 hgr5 hat5 hlt5
                    have d5 := (d4.via (below1 w4 (.cells #[.int .i64 l.1, .bool l.2] 62))).off_app hgr5 hown5 (hat5.elim .inl (fun h => .inr (by rw [h]; exact Nat.le_refl _)))
                    refine hK.out _ _ (by exact HLc.out _ d5.below) (fun hHeld => ?_)
                    clear hK K
                    try simp only [Act.put, List.setIfInBounds_toArray]
                    refine wpAnyH_take (i := 14) (v := ?v20) rfl (by kernel_rfl) (by kernel_rfl) (by kernel_rfl) (fun _ _ _ h => h) (Or.inl ⟨by rfl, ?hy20⟩) (by assumption) ?rest20
                    case hy20 => (intro w hSw; (try dsimp only at hSw); go_simp; try (with_reducible rfl))
                    try simp only [Act.put, List.getElem_toArray, List.getElem_cons_zero, List.getElem_cons_succ, List.setIfInBounds_toArray, List.set_cons_zero, List.set_cons_succ]
                    refine wpAnyH_take (i := 15) (v := ?v21) rfl (by kernel_rfl) (by kernel_rfl) (by kernel_rfl) (fun _ _ _ h => h) (Or.inl ⟨by rfl, ?hy21⟩) (by assumption) ?rest21
                    case hy21 => (intro w hSw; (try dsimp only at hSw); go_simp; try (with_reducible rfl))
                    try simp only [Act.put, List.getElem_toArray, List.getElem_cons_zero, List.getElem_cons_succ, List.setIfInBounds_toArray, List.set_cons_zero, List.set_cons_succ]
                    refine wpAnyH_done (by kernel_rfl) ?_ _
                    go_wp2_with fail
                    go_roundw
                    case rel => exact ⟨p + 1, by omega, by go_num, by rw [Hs.out, if_pos HH.out, ← List.append_assoc, ← List.append_assoc, Hxs.out, Hys.out]; exact d5⟩
                    case measure => simp [intOf]; omega
                  · go_simp
                    refine hK.out _ _ (by exact HLc.out _ (Hd.out.via ((below2 wr (.cells #[.int .i64 l.1, .bool l.2] 62) (.cells #[.int .i64 l.1, .bool l.2] 62)).dn 1)).below) (fun hHeld => ?_)
                    clear hK K
                    try simp only [Act.put, List.setIfInBounds_toArray, List.set_cons_zero, List.set_cons_succ]
                    refine wpAnyH_ready (rs := [6]) (by kernel_rfl) (by simp) ?_
                    refine AllReadyH.cons rfl (fun K hK => ?_) AllReadyH.nil
                    refine stepApp E25 (by decide) [.int .i64 l.1, .bool l.2] (by rfl) _ _ (by rfl) w3.heap.size xs.length _ (litF xs) (wr.heap.size) (by rfl) (by rfl) (by exact (Hd.out.via ((below2 wr (.cells #[.int .i64 l.1, .bool l.2] 62) (.cells #[.int .i64 l.1, .bool l.2] 62)).dn 1)).on) (by exact ((Blk.new wr #[.int .i64 l.1, .bool l.2] 62).old (.cells #[.int .i64 l.1, .bool l.2] 62))) (by rfl) (by simp [Value.oneCell']) (by omega) (by decide) (by exact (Hd.out.via ((below2 wr (.cells #[.int .i64 l.1, .bool l.2] 62) (.cells #[.int .i64 l.1, .bool l.2] 62)).dn 1)).below.size) ?_
                    intro g4 cap4 w4 hown4 hgr4 hat4 hlt4
                    have d4 := (Hd.out.via ((below2 wr (.cells #[.int .i64 l.1, .bool l.2] 62) (.cells #[.int .i64 l.1, .bool l.2] 62)).dn 1)).on_app hgr4 hown4 (hat4.elim .inl (fun h => .inr (by rw [h]; exact Nat.le_refl _)))
                    have hB2 : Blk w4 (wr.heap.size + 1) #[.int .i64 l.1, .bool l.2] 62 := Blk.grown (w := ((wr.alloc (.cells #[.int .i64 l.1, .bool l.2] 62)).alloc (.cells #[.int .i64 l.1, .bool l.2] 62)).drew) (blk_at wr (.cells #[.int .i64 l.1, .bool l.2] 62) (.cells #[.int .i64 l.1, .bool l.2] 62)) hgr4 (fun h => by have := (Hd.out.on.lt _ h).2; omega)
                    refine hK.out _ _ (by exact HLc.out _ d4.below) (fun hHeld => ?_)
                    clear hK K
                    try simp only [Act.put, List.setIfInBounds_toArray]
                    refine wpAnyH_ready (rs := [13]) (by kernel_rfl) (by simp) ?_
                    refine AllReadyH.cons rfl (fun K hK => ?_) AllReadyH.nil
                    refine stepApp E25 (by decide) [.int .i64 l.1, .bool l.2] (by rfl) _ _ (by rfl) w3.heap.size ys.length _ (litF ys) (wr.heap.size + 1) (by rfl) (by rfl) (by exact (d4).off) (by exact hB2) (by rfl) (by simp [Value.oneCell']) (by omega) (by decide) (by exact (d4).below.size) ?_
                    intro g5 cap5 w5 hown5 hgr5 hat5 hlt5
                    have d5 := (d4).off_app hgr5 hown5 (hat5.elim .inl (fun h => .inr (by rw [h]; exact Nat.le_refl _)))
                    refine hK.out _ _ (by exact HLc.out _ d5.below) (fun hHeld => ?_)
                    clear hK K
                    try simp only [Act.put]
                    refine wpAnyH_take (i := 14) (v := ?v22) rfl (by kernel_rfl) (by kernel_rfl) (by kernel_rfl) (fun _ _ _ h => h) (Or.inl ⟨by rfl, ?hy22⟩) (by assumption) ?rest22
                    case hy22 => (intro w hSw; (try dsimp only at hSw); go_simp; try (with_reducible rfl))
                    try simp only [Act.put, List.getElem_toArray, List.getElem_cons_zero, List.getElem_cons_succ, List.setIfInBounds_toArray, List.set_cons_zero, List.set_cons_succ]
                    refine wpAnyH_take (i := 15) (v := ?v23) rfl (by kernel_rfl) (by kernel_rfl) (by kernel_rfl) (fun _ _ _ h => h) (Or.inl ⟨by rfl, ?hy23⟩) (by assumption) ?rest23
                    case hy23 => (intro w hSw; (try dsimp only at hSw); go_simp; try (with_reducible rfl))
                    try simp only [Act.put, List.getElem_toArray, List.getElem_cons_zero, List.getElem_cons_succ, List.setIfInBounds_toArray, List.set_cons_zero, List.set_cons_succ]
                    refine wpAnyH_done (by kernel_rfl) ?_ _
                    go_wp2_with fail
                    go_roundw
                    case rel => exact ⟨p + 1, by omega, by go_num, by rw [Hs.out, if_pos HH.out, ← List.append_assoc, ← List.append_assoc, Hxs.out, Hys.out]; exact d5⟩
                    case measure => simp [intOf]; omega
                · go_simp
                  refine hK.out _ _ (by exact HLc.out _ (Hd.out.via ((below1 wr (.cells #[.int .i64 l.1, .bool l.2] 62)).dn 1)).below) (fun hHeld => ?_)
                  clear hK K
                  try simp only [Act.put, List.setIfInBounds_toArray, List.set_cons_zero, List.set_cons_succ]
                  refine wpAnyH_ready (rs := [5]) (by kernel_rfl) (by simp) ?_
                  refine AllReadyH.cons rfl (fun K hK => ?_) AllReadyH.nil
                  go_simp
                  refine hK.out _ _ (by exact HLc.out _ (Hd.out.via ((below2 wr (.cells #[.int .i64 l.1, .bool l.2] 62) (.cells #[.int .i64 l.1, .bool l.2] 62)).dn 1)).below) (fun hHeld => ?_)
                  clear hK K
                  try simp only [Act.put, List.setIfInBounds_toArray, List.set_cons_zero, List.set_cons_succ]
                  refine wpAnyH_ready (rs := [6]) (by kernel_rfl) (by simp) ?_
                  refine AllReadyH.cons rfl (fun K hK => ?_) AllReadyH.nil
                  refine stepApp E25 (by decide) [.int .i64 l.1, .bool l.2] (by rfl) _ _ (by rfl) w3.heap.size xs.length _ (litF xs) (wr.heap.size + 1) (by rfl) (by rfl) (by exact (Hd.out.via ((below2 wr (.cells #[.int .i64 l.1, .bool l.2] 62) (.cells #[.int .i64 l.1, .bool l.2] 62)).dn 1)).on) (by exact (blk_at wr (.cells #[.int .i64 l.1, .bool l.2] 62) (.cells #[.int .i64 l.1, .bool l.2] 62))) (by rfl) (by simp [Value.oneCell']) (by omega) (by decide) (by exact (Hd.out.via ((below2 wr (.cells #[.int .i64 l.1, .bool l.2] 62) (.cells #[.int .i64 l.1, .bool l.2] 62)).dn 1)).below.size) ?_
                  intro g4 cap4 w4 hown4 hgr4 hat4 hlt4
                  have d4 := (Hd.out.via ((below2 wr (.cells #[.int .i64 l.1, .bool l.2] 62) (.cells #[.int .i64 l.1, .bool l.2] 62)).dn 1)).on_app hgr4 hown4 (hat4.elim .inl (fun h => .inr (by rw [h]; exact Nat.le_refl _)))
                  have hB2 : Blk w4 (wr.heap.size) #[.int .i64 l.1, .bool l.2] 62 := Blk.grown (w := ((wr.alloc (.cells #[.int .i64 l.1, .bool l.2] 62)).alloc (.cells #[.int .i64 l.1, .bool l.2] 62)).drew) ((Blk.new wr #[.int .i64 l.1, .bool l.2] 62).old (.cells #[.int .i64 l.1, .bool l.2] 62)) hgr4 (fun h => by have := (Hd.out.on.lt _ h).2; omega)
                  refine hK.out _ _ (by exact HLc.out _ d4.below) (fun hHeld => ?_)
                  clear hK K
                  try simp only [Act.put, List.setIfInBounds_toArray]
                  refine wpAnyH_ready (rs := [13]) (by kernel_rfl) (by simp) ?_
                  refine AllReadyH.cons rfl (fun K hK => ?_) AllReadyH.nil
                  refine stepApp E25 (by decide) [.int .i64 l.1, .bool l.2] (by rfl) _ _ (by rfl) w3.heap.size ys.length _ (litF ys) (wr.heap.size) (by rfl) (by rfl) (by exact (d4).off) (by exact hB2) (by rfl) (by simp [Value.oneCell']) (by omega) (by decide) (by exact (d4).below.size) ?_
                  intro g5 cap5 w5 hown5 hgr5 hat5 hlt5
                  have d5 := (d4).off_app hgr5 hown5 (hat5.elim .inl (fun h => .inr (by rw [h]; exact Nat.le_refl _)))
                  refine hK.out _ _ (by exact HLc.out _ d5.below) (fun hHeld => ?_)
                  clear hK K
                  try simp only [Act.put]
                  refine wpAnyH_take (i := 14) (v := ?v24) rfl (by kernel_rfl) (by kernel_rfl) (by kernel_rfl) (fun _ _ _ h => h) (Or.inl ⟨by rfl, ?hy24⟩) (by assumption) ?rest24
                  case hy24 => (intro w hSw; (try dsimp only at hSw); go_simp; try (with_reducible rfl))
                  try simp only [Act.put, List.getElem_toArray, List.getElem_cons_zero, List.getElem_cons_succ, List.setIfInBounds_toArray, List.set_cons_zero, List.set_cons_succ]
                  refine wpAnyH_take (i := 15) (v := ?v25) rfl (by kernel_rfl) (by kernel_rfl) (by kernel_rfl) (fun _ _ _ h => h) (Or.inl ⟨by rfl, ?hy25⟩) (by assumption) ?rest25
                  case hy25 => (intro w hSw; (try dsimp only at hSw); go_simp; try (with_reducible rfl))
                  try simp only [Act.put, List.getElem_toArray, List.getElem_cons_zero, List.getElem_cons_succ, List.setIfInBounds_toArray, List.set_cons_zero, List.set_cons_succ]
                  refine wpAnyH_done (by kernel_rfl) ?_ _
                  go_wp2_with fail
                  go_roundw
                  case rel => exact ⟨p + 1, by omega, by go_num, by rw [Hs.out, if_pos HH.out, ← List.append_assoc, ← List.append_assoc, Hxs.out, Hys.out]; exact d5⟩
                  case measure => simp [intOf]; omega
            · obtain rfl : p = cn := by omega
              rw [List.take_of_length_le (Nat.le_of_eq Hcn.out)] at hduo hfl
              have Hd := Lib.hid hduo
              have hwl := hduo.below.size
              have hlen1 : (onTo ch q true j ++ ch.filter (fun l => l.1 == (j : Int))).length < 1000 := by rw [List.length_append]; omega
              have hlen2 : (onTo ch q false j ++ ch.filter (fun l => l.1 == (j : Int))).length < 1000 := by rw [List.length_append]; omega
              clear hduo hfl
              by_cases hjq : j = q
              · have hb : ((j : Int) == (q : Int)) = true := by simp [hjq]
                have S1 := Lib.hid (show onTo ch q true (j + 1) = onTo ch q true j ++ ch.filter (fun l => l.1 == (j : Int)) ++ [((j : Int), true)] by rw [onTo, if_pos hjq])
                have S2 := Lib.hid (show onTo ch q false (j + 1) = onTo ch q false j ++ ch.filter (fun l => l.1 == (j : Int)) ++ [((j : Int), false)] by rw [onTo, if_pos hjq])
                generalize onTo ch q true j ++ ch.filter (fun l => l.1 == (j : Int)) = xs at *
                generalize onTo ch q false j ++ ch.filter (fun l => l.1 == (j : Int)) = ys at *
                have HJ := Lib.hid hjq
                clear hjq
                go_wp2_with (first | (at_builtin; refine wpAppL E25 (by decide) [.int .i64 (j : Int), .bool true] rfl _ _ rfl w3.heap.size xs.length _ (litF xs) wr.heap.size rfl rfl (Hd.out.via (below1 wr _)).on (heap_alloc_new wr _) rfl (by simp [Value.oneCell']) (by omega) (by decide) (Hd.out.via (below1 wr _)).below.size ?_; intro g4 cap4 w4 hown4 hgr4 hat4 hlt4; have d4 := (Hd.out.via (below1 wr _)).on_app (l := ((j : Int), true)) hgr4 hown4 (hat4.elim .inl (fun h => .inr (by rw [h]; exact Nat.le_refl _)))) | (at_builtin; refine wpAppL E25 (by decide) [.int .i64 (j : Int), .bool false] rfl _ _ rfl w3.heap.size ys.length _ (litF ys) w4.heap.size rfl rfl (d4.via (below1 w4 _)).off (heap_alloc_new w4 _) rfl (by simp [Value.oneCell']) (by omega) (by decide) (d4.via (below1 w4 _)).below.size ?_; intro g5 cap5 w5 hown5 hgr5 hat5 hlt5; have d5 := (d4.via (below1 w4 _)).off_app (l := ((j : Int), false)) hgr5 hown5 (hat5.elim .inl (fun h => .inr (by rw [h]; exact Nat.le_refl _)))))
                go_roundw
                case rel => exact ⟨j + 1, by omega, by go_num, by rw [S1.out, S2.out]; exact d5⟩
                case measure => simp [intOf]; omega
              · have hb : ((j : Int) == (q : Int)) = false := by simp; omega
                have S1 := Lib.hid (show onTo ch q true (j + 1) = onTo ch q true j ++ ch.filter (fun l => l.1 == (j : Int)) by rw [onTo, if_neg hjq, List.append_nil])
                have S2 := Lib.hid (show onTo ch q false (j + 1) = onTo ch q false j ++ ch.filter (fun l => l.1 == (j : Int)) by rw [onTo, if_neg hjq, List.append_nil])
                go_wp2_with fail
                go_roundw
                case rel => exact ⟨j + 1, by omega, by go_num, by rw [S1.out, S2.out]; exact Hd.out⟩
                case measure => simp [intOf]; omega
        · obtain rfl : k = j := by omega
          have Hbr := Lib.hid Hduo.out.below
          have Hl := Lib.hid Hduo.out.lits
          have Hw := Lib.hid (Hb3.out.via Hbr.out Hb3.out.size)
          have HFr := Lib.hid (fun w' (h : Below wr.heap.size wr w') => HF.out w' (Hw.out.via h Hw.out.size))
          have HBr := Lib.hid (fun w' (h : Below wr.heap.size wr w') => HB.out w' (Hw.out.via h Hw.out.size))
          have Hch := Lib.hid (Hli.out.mono (Hb23.out.via Hbr.out Hb23.out.size))
          obtain ⟨ua, uc, rfl, -, -⟩ := Hl.out.1.open
          obtain ⟨va, vc, rfl, -, -⟩ := Hl.out.2.open
          have C0 := Lib.hid (fun w' (h : Below wr.heap.size wr w') => count_ok _ _ _ _ _ _ _ _ _ _ _ _ _ _ _ _ _ ch w' (HFr.out w' h) (by rw [Hol.out]; exact hk6) (Hch.out.mono h) (by rw [Hcn.out]; omega) (by rw [Hol.out]; exact He.out))
          have C1 := Lib.hid (fun w' (h : Below wr.heap.size wr w') => count_ok _ _ _ _ _ _ _ _ _ _ _ _ _ _ _ _ _ (onTo ch q true k) w' (HFr.out w' h) (by rw [Hol.out]; exact hk6) (Hl.out.1.mono h) (by omega) (by rw [Hol.out]; exact HeOn.out))
          have C2 := Lib.hid (fun w' (h : Below wr.heap.size wr w') => count_ok _ _ _ _ _ _ _ _ _ _ _ _ _ _ _ _ _ (onTo ch q false k) w' (HFr.out w' h) (by rw [Hol.out]; exact hk6) (Hl.out.2.mono h) (by omega) (by rw [Hol.out]; exact HeOff.out))
          have F0 := Lib.hid (fun (hv : (visL k ch (rulesTo k R (min R.length 6))).isEmpty = false) w' (h : Below wr.heap.size wr w') => forced_ok _ _ _ _ _ _ _ _ _ _ _ _ _ _ _ _ _ ch w' (HFr.out w' h) (by rw [Hol.out]; exact hk6) (Hch.out.mono h) (by rw [Hcn.out]; omega) (by rw [Hol.out]; exact He.out) (by rw [Hol.out]; exact hv))
          rw [Hol.out] at C0 C1 C2 F0
          have hb1 := visL_len hk6 (onTo ch q true k) (rulesTo k R (min R.length 6))
          have hb2 := visL_len hk6 (onTo ch q false k) (rulesTo k R (min R.length 6))
          have hne := Hnames.out
          have hhf := Hhalf.out
          generalize visL k ch (rulesTo k R (min R.length 6)) = X at *
          generalize (visL k (onTo ch q true k) (rulesTo k R (min R.length 6))).length = nb at *
          generalize (visL k (onTo ch q false k) (rulesTo k R (min R.length 6))).length = nd at *
          rw [hhf, show (((nb + nd : Nat)) : Int) = (nb : Int) + (nd : Int) from by omega] at C0
          generalize (onTo ch q true k).length = l1 at *
          generalize (onTo ch q false k).length = l2 at *
          obtain ⟨xb, hxb⟩ : ∃ xb : Int, (nb : Int) = xb := ⟨_, rfl⟩
          obtain ⟨xd, hxd⟩ : ∃ xd : Int, (nd : Int) = xd := ⟨_, rfl⟩
          rw [hxb, hxd] at C0
          rw [hxb] at C1
          rw [hxd] at C2
          have q1 : 0 ≤ xb := by omega
          have q2 : xb ≤ 64 := by omega
          have q3 : 0 ≤ xd := by omega
          have q4 : xd ≤ 64 := by omega
          obtain ⟨x0, x1, x2, x3, x4, x5, x6, x7, x8, x9, -⟩ := HBr.out wr (Below.refl _ _)
          by_cases hnb : nb = 0
          · by_cases hnd : nd = 0
            · have z1 : (xb == 0) = true := by rw [beq_iff_eq]; omega
              have z2 : (xd == 0) = true := by rw [beq_iff_eq]; omega
              have z3 : (xb + xd == 0) = true := by rw [beq_iff_eq]; omega
              clear hne hhf hxb hxd hb1 hb2 hnb hnd
              go_wp2_with fail
              refine (C0.out _ (Below.refl _ _)).mono ?_
              rintro e2 w4 ⟨rfl, hb4⟩
              obtain ⟨y0, y1, y2, y3, y4, y5, y6, y7, y8, y9, -⟩ := HBr.out w4 hb4
              go_wp2_with fail
              refine (C1.out _ hb4).mono ?_
              rintro e2 w5 ⟨rfl, hb5⟩
              have hb5 := hb4.via hb5 hb4.size
              obtain ⟨t0, t1, t2, t3, t4, t5, t6, t7, t8, t9, -⟩ := HBr.out w5 hb5
              go_wp2_with fail
              refine (C2.out _ hb5).mono ?_
              rintro e2 w6 ⟨rfl, hb6⟩
              have hb6 := hb5.via hb6 hb5.size
              obtain ⟨s0, s1, s2, s3, s4, s5, s6, s7, s8, s9, -⟩ := HBr.out w6 hb6
              go_wp2_with fail
              go_ret
              exact Ret.mk (Hbw.out.via (Hw.out.via hb6 Hw.out.size) Hbw.out.size)
            · have z1 : (xb == 0) = true := by rw [beq_iff_eq]; omega
              have z2 : (xd == 0) = false := by rw [beq_eq_false_iff_ne]; omega
              have z3 : (xb + xd == 0) = false := by rw [beq_eq_false_iff_ne]; omega
              have hX : X ≠ [] := fun e => by rw [e] at hhf; simp at hhf; omega
              have hmn := hne hX
              have hmv : mentB (forcedTo X k) q = true := by rw [hmn]; simp; omega
              have F1 := Lib.hid (F0.out (by cases X; exact absurd rfl hX; rfl))
              have Hmv := Lib.hid hmv
              have hfl := forcedTo_len X k
              clear hne hhf hxb hxd hb1 hb2 hX hmn hmv hnb hnd
              go_wp2_with fail
              refine (C0.out _ (Below.refl _ _)).mono ?_
              rintro e2 w4 ⟨rfl, hb4⟩
              obtain ⟨y0, y1, y2, y3, y4, y5, y6, y7, y8, y9, -⟩ := HBr.out w4 hb4
              go_wp2_with fail
              refine (C1.out _ hb4).mono ?_
              rintro e2 w5 ⟨rfl, hb5⟩
              have hb5 := hb4.via hb5 hb4.size
              obtain ⟨t0, t1, t2, t3, t4, t5, t6, t7, t8, t9, -⟩ := HBr.out w5 hb5
              go_wp2_with fail
              refine (C2.out _ hb5).mono ?_
              rintro e2 w6 ⟨rfl, hb6⟩
              have hb6 := hb5.via hb6 hb5.size
              obtain ⟨s0, s1, s2, s3, s4, s5, s6, s7, s8, s9, -⟩ := HBr.out w6 hb6
              go_wp2_with fail
              refine (F1.out _ hb6).mono ?_
              rintro e2 w7 ⟨v, rfl, hfo, hb7⟩
              have hb7 := hb6.via hb7 hb6.size
              obtain ⟨fa, fc, rfl, -, -⟩ := hfo.open
              have HM2 := Lib.hid (mentions_any (forcedTo X k) _ (q : Int) w7 hfo (by omega))
              rw [Hmv.out] at HM2
              generalize (forcedTo X k).length = fl at *
              clear hfo
              go_wp2_with fail
              refine (HM2.out).mono ?_
              rintro e2 w8 ⟨rfl, hb8⟩
              have hb8 := hb7.via hb8 hb7.size
              go_wp2_with fail
              go_ret
              exact Ret.mk (Hbw.out.via (Hw.out.via hb8 Hw.out.size) Hbw.out.size)
          · by_cases hnd : nd = 0
            · have z1 : (xb == 0) = false := by rw [beq_eq_false_iff_ne]; omega
              have z2 : (xd == 0) = true := by rw [beq_iff_eq]; omega
              have z3 : (xb + xd == 0) = false := by rw [beq_eq_false_iff_ne]; omega
              have hX : X ≠ [] := fun e => by rw [e] at hhf; simp at hhf; omega
              have hmn := hne hX
              have hmv : mentB (forcedTo X k) q = true := by rw [hmn]; simp; omega
              have F1 := Lib.hid (F0.out (by cases X; exact absurd rfl hX; rfl))
              have Hmv := Lib.hid hmv
              have hfl := forcedTo_len X k
              clear hne hhf hxb hxd hb1 hb2 hX hmn hmv hnb hnd
              go_wp2_with fail
              refine (C0.out _ (Below.refl _ _)).mono ?_
              rintro e2 w4 ⟨rfl, hb4⟩
              obtain ⟨y0, y1, y2, y3, y4, y5, y6, y7, y8, y9, -⟩ := HBr.out w4 hb4
              go_wp2_with fail
              refine (C1.out _ hb4).mono ?_
              rintro e2 w5 ⟨rfl, hb5⟩
              have hb5 := hb4.via hb5 hb4.size
              obtain ⟨t0, t1, t2, t3, t4, t5, t6, t7, t8, t9, -⟩ := HBr.out w5 hb5
              go_wp2_with fail
              refine (C2.out _ hb5).mono ?_
              rintro e2 w6 ⟨rfl, hb6⟩
              have hb6 := hb5.via hb6 hb5.size
              obtain ⟨s0, s1, s2, s3, s4, s5, s6, s7, s8, s9, -⟩ := HBr.out w6 hb6
              go_wp2_with fail
              refine (F1.out _ hb6).mono ?_
              rintro e2 w7 ⟨v, rfl, hfo, hb7⟩
              have hb7 := hb6.via hb7 hb6.size
              obtain ⟨fa, fc, rfl, -, -⟩ := hfo.open
              have HM2 := Lib.hid (mentions_any (forcedTo X k) _ (q : Int) w7 hfo (by omega))
              rw [Hmv.out] at HM2
              generalize (forcedTo X k).length = fl at *
              clear hfo
              go_wp2_with fail
              refine (HM2.out).mono ?_
              rintro e2 w8 ⟨rfl, hb8⟩
              have hb8 := hb7.via hb8 hb7.size
              go_wp2_with fail
              go_ret
              exact Ret.mk (Hbw.out.via (Hw.out.via hb8 Hw.out.size) Hbw.out.size)
            · have z1 : (xb == 0) = false := by rw [beq_eq_false_iff_ne]; omega
              have z2 : (xd == 0) = false := by rw [beq_eq_false_iff_ne]; omega
              have z3 : (xb + xd == 0) = false := by rw [beq_eq_false_iff_ne]; omega
              have hX : X ≠ [] := fun e => by rw [e] at hhf; simp at hhf; omega
              have hmn := hne hX
              have hmv : mentB (forcedTo X k) q = false := by rw [hmn]; simp; omega
              have F1 := Lib.hid (F0.out (by cases X; exact absurd rfl hX; rfl))
              have Hmv := Lib.hid hmv
              have hfl := forcedTo_len X k
              clear hne hhf hxb hxd hb1 hb2 hX hmn hmv hnb hnd
              go_wp2_with fail
              refine (C0.out _ (Below.refl _ _)).mono ?_
              rintro e2 w4 ⟨rfl, hb4⟩
              obtain ⟨y0, y1, y2, y3, y4, y5, y6, y7, y8, y9, -⟩ := HBr.out w4 hb4
              go_wp2_with fail
              refine (C1.out _ hb4).mono ?_
              rintro e2 w5 ⟨rfl, hb5⟩
              have hb5 := hb4.via hb5 hb4.size
              obtain ⟨t0, t1, t2, t3, t4, t5, t6, t7, t8, t9, -⟩ := HBr.out w5 hb5
              go_wp2_with fail
              refine (C2.out _ hb5).mono ?_
              rintro e2 w6 ⟨rfl, hb6⟩
              have hb6 := hb5.via hb6 hb5.size
              obtain ⟨s0, s1, s2, s3, s4, s5, s6, s7, s8, s9, -⟩ := HBr.out w6 hb6
              go_wp2_with fail
              refine (F1.out _ hb6).mono ?_
              rintro e2 w7 ⟨v, rfl, hfo, hb7⟩
              have hb7 := hb6.via hb7 hb6.size
              obtain ⟨fa, fc, rfl, -, -⟩ := hfo.open
              have HM2 := Lib.hid (mentions_any (forcedTo X k) _ (q : Int) w7 hfo (by omega))
              rw [Hmv.out] at HM2
              generalize (forcedTo X k).length = fl at *
              clear hfo
              go_wp2_with fail
              refine (HM2.out).mono ?_
              rintro e2 w8 ⟨rfl, hb8⟩
              have hb8 := hb7.via hb8 hb7.size
              go_wp2_with fail
              go_ret
              exact Ret.mk (Hbw.out.via (Hw.out.via hb8 Hw.out.size) Hbw.out.size)
    · rw [hm] at Hment
      clear hm
      go_wp2_with fail
      refine (Hment.out).mono ?_
      rintro e2 w3 ⟨rfl, hb3⟩
      go_wp2_with fail
      go_ret
      have hb3 := Hb2.out.via hb3 Hb2.out.size
      exact Ret.mk (Hbw.out.via hb3 Hbw.out.size)

end Go.Proofs.Ytkphggmbimjhjaa
