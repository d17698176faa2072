/-
  VariantForces: the walk.
-/
import Derived.Test.YtkphggmbimjhjaaFat
import Derived.Test.YtkphggmbimjhjaaAll
import Derived.Test.YtkphggmbimjhjaaSame
import Derived.Test.YtkphggmbimjhjaaFor2
import Derived.Test.YtkphggmbimjhjaaDec
import Derived.Deep.CutBlock
import Derived.Deep.DeepCutAuto
namespace Go.Proofs.Ytkphggmbimjhjaa
open Go.RowKit

theorem okNums_len (k : Nat) (hk : k ≤ 6) (ch : List Lit1) (rs : List Rule1) : (okNums k ch rs).length ≤ 64 := by
  have h := List.length_filter_le (fun i => cOk ch rs (cfgN k i)) (List.range (2 ^ k))
  have h2 : (2 : Nat) ^ k ≤ 2 ^ 6 := Nat.pow_le_pow_right (by omega) hk
  unfold okNums
  rw [List.length_range] at h
  omega

theorem own_lits {w : World} {B n : Nat} {v : Value} {ls : List Lit1} (h : w.ownsRow B 62 2 v n ((ls.map litV).map c2).flatten) : Lits w v ls :=
  Sl.own h (fun r hr => by obtain ⟨x, _, rfl⟩ := List.mem_map.1 hr; rfl) (by decide)

theorem any_all_split (b : Nat → Bool) (i : Nat) (is : List Nat) : ((i :: is).any b == (i :: is).all b) = ((i :: is).all b || (i :: is).all fun x => !b x) := by
  cases h1 : (i :: is).all b
  · rw [Bool.false_or]
    cases h2 : (i :: is).all fun x => !b x
    · rw [List.all_eq_false] at h2
      obtain ⟨x, hx, hb⟩ := h2
      have : (i :: is).any b = true := List.any_eq_true.2 ⟨x, hx, by simpa using hb⟩
      rw [this]; rfl
    · rw [List.all_eq_true] at h2
      have : (i :: is).any b = false := List.any_eq_false.2 fun x hx => by have := h2 x hx; simpa using this
      rw [this]; rfl
  · rw [List.all_eq_true] at h1
    have : (i :: is).any b = true := List.any_eq_true.2 ⟨i, by simp, h1 i (by simp)⟩
    rw [this]; rfl

theorem forced_step (k : Nat) (hk : k ≤ 12) (i : Nat) (is : List Nat) (j : Nat) (hj : j < k) : forcedTo ((i :: is).map (cfgN k)) (j + 1) = forcedTo ((i :: is).map (cfgN k)) j ++
    (if (((i :: is).map (setN k)).all fun s => setB s j) || (((i :: is).map (setN k)).all fun s => !setB s j) then [((j : Int), ((i :: is).map (setN k)).all fun s => setB s j)] else []) := by
  have e1 : (((i :: is).map (setN k)).all fun s => setB s j) = (i :: is).all fun x => bitB (cfgN k x) j := by
    rw [List.all_map]; congr 1; funext x; exact bits_agree k x hk j hj
  have e2 : (((i :: is).map (setN k)).all fun s => !setB s j) = (i :: is).all fun x => !bitB (cfgN k x) j := by
    rw [List.all_map]; congr 1; funext x; show (!setB (setN k x) j) = _; rw [bits_agree k x hk j hj]
  have e3 : (((i :: is).map (cfgN k)).any fun c => bitB c j) = (i :: is).any fun x => bitB (cfgN k x) j := by rw [List.any_map]; rfl
  have e4 : (((i :: is).map (cfgN k)).all fun c => bitB c j) = (i :: is).all fun x => bitB (cfgN k x) j := by rw [List.all_map]; rfl
  rw [forcedTo, e1, e2, e3, e4, any_all_split]

set_option maxHeartbeats 8000000 in
set_option maxRecDepth 100000 in
theorem forces_any (N : Int) (R D O : List (List Int)) (a2 a3 a4 : Option Addr) (c2 c3 c4 : Nat) (a1 : Option Addr) (c : Nat) (code : List Int) (w : World) (h11 : Hid (∀ w, Calls Try.prog 11 #[] w (Ret (.bool true) w))) (hN0 : 0 ≤ N) (hN : N < 256)
    (hRr : ∀ r ∈ R, ∀ x ∈ r, -128 ≤ x ∧ x ≤ 127) (hDr : ∀ r ∈ D, ∀ x ∈ r, -128 ≤ x ∧ x ≤ 127) (hOr : ∀ r ∈ O, ∀ x ∈ r, -128 ≤ x ∧ x ≤ 127) (hR : M8 w (.slice a2 R.length c2) R) (hD : M8 w (.slice a3 D.length c3) D) (hO : M8 w (.slice a4 O.length c4) O) (hC : I8s w (.slice a1 code.length c) code) (hcr : ∀ x ∈ code, -128 ≤ x ∧ x ≤ 127) :
    Calls Try.prog 4 #[.agg #[.int .u8 N, .slice a2 R.length c2, .slice a3 D.length c3, .slice a4 O.length c4], .slice a1 code.length c] w (Ret (.bool true) w) := by
  have HFa0 := Lib.hid (fun w2 ai ci ad cd (h2 : Below w.heap.size w w2) (hdim : Dims w2 (.slice ad 2 cd) baseDims) => family_any N R D O (.slice a2 R.length c2) (.slice a3 D.length c3) (.slice a4 O.length c4) ai ci ad cd w2 hN0 hN hRr hDr hOr (hR.mono h2) (hD.mono h2) (hO.mono h2) hdim)
  obtain ⟨k, Hk, hk1, hk6⟩ : ∃ k : Nat, Hid ((1 + N % 6).toNat = k) ∧ 1 ≤ k ∧ k ≤ 6 := ⟨_, Lib.hid rfl, by omega, by omega⟩
  rw [Hk.out] at HFa0
  clear hRr hDr hOr hR hD hO hN0 hN Hk
  generalize hn2 : R.length = n2 at *
  generalize hn3 : D.length = n3 at *
  generalize hn4 : O.length = n4 at *
  have Hn2 := Lib.hid hn2
  have Hn3 := Lib.hid hn3
  have Hn4 := Lib.hid hn4
  clear hn2 hn3 hn4
  have HC := Lib.hid hC
  have Hcr := Lib.hid hcr
  generalize code.length = n at *
  clear hC hcr
  go_enter Try.func4, Try.ntmps4
  go_upto_region 4 with (go_at_call 11; refine (h11.out _).mono ?_; rintro e w1 ⟨rfl, hb1⟩)
  go_cut [5] (fun s5 wx => ∃ B ai ci ad cd a7 c7 a8 c8 a9 c9 a10 c10, s5 = .pointer (some ⟨B, 0, none⟩) ∧ FamAt wx B k R D O ai ci ad cd a7 c7 a8 c8 a9 c9 a10 c10 ∧ Below w.heap.size w wx)
  case first =>
    have hb0 := below1 w (.cells #[.int .u8 N, .slice a2 n2 c2, .slice a3 n3 c3, .slice a4 n4 c4] 24)
    have hbw : Below w.heap.size w w1 := hb0.via hb1 hb0.size
    have Hkin := Lib.hid (fun w' (h : Below w1.heap.size w1 w') => blk4 (((Blk.new w #[.int .u8 N, .slice a2 n2 c2, .slice a3 n3 c3, .slice a4 n4 c4] 24).below hb1).below h))
    have HFa := Lib.hid (fun w2 ai ci ad cd (h2 : Below w1.heap.size w1 w2) hdim => HFa0.out w2 ai ci ad cd (hbw.via h2 hbw.size) hdim)
    refine wp_region_pop (S := (fun w' => w'.cell? ⟨w.heap.size, 0, none⟩ = some (.int .u8 N) ∧ w'.cell? ⟨w.heap.size, 1, none⟩ = some (.slice a2 n2 c2) ∧ w'.cell? ⟨w.heap.size, 2, none⟩ = some (.slice a3 n3 c3) ∧ w'.cell? ⟨w.heap.size, 3, none⟩ = some (.slice a4 n4 c4))) 4 (by kernel_rfl) (by kernel_rfl) (by exact Hkin.out w1.drew (Below.refl _ _).drew) (fun hHeld => ?_)
    simp only [List.take_succ_cons, List.take_zero, List.drop_succ_cons, List.drop_zero]
    refine wpAnyH_take (i := 0) (v := ?v1) rfl (by kernel_rfl) (by kernel_rfl) (by kernel_rfl) (fun _ _ _ h => h) (Or.inl ⟨by rfl, ?hy1⟩) (by assumption) ?rest1
    case hy1 => (intro w hSw; (try dsimp only at hSw); go_simp; try (with_reducible rfl))
    try simp only [Act.put, List.getElem_toArray, List.getElem_cons_zero, List.setIfInBounds_toArray, List.set_cons_zero, List.set_cons_succ]
    refine wpAnyH_ready (rs := [1, 3]) (by kernel_rfl) (by simp) ?_
    refine AllReadyH.cons rfl (fun K hK => ?_) (AllReadyH.cons rfl (fun K hK => ?_) AllReadyH.nil)
    · go_simp
      go_at_call 13
      refine (plain_any _).mono ?_
      rintro e w2 ⟨ai, ci, ad, cd, rfl, hdim, hfr, hb2⟩
      have Hdim := Lib.hid hdim
      have Hfr := Lib.hid hfr
      clear hdim hfr
      have Hb2 := Lib.hid (show Below w1.heap.size w1 w2 from undrew hb2)
      have hk2 := Hkin.out w2 Hb2.out
      refine hK.out _ _ (by exact hk2) (fun hHeld => ?_)
      clear hK K
      try simp only [Act.put, List.setIfInBounds_toArray, List.set_cons_zero, List.set_cons_succ]
      refine wpAnyH_ready (rs := [2, 3]) (by kernel_rfl) (by simp) ?_
      refine AllReadyH.cons rfl (fun K hK => ?_) (AllReadyH.cons rfl (fun K hK => ?_) AllReadyH.nil)
      · go_simp
        go_at_call 12
        refine (HFa.out _ ai ci ad cd (by exact Hb2.out) (by exact Hdim.out)).mono ?_
        rintro e w3 ⟨a7, c7, a8, c8, a9, c9, a10, c10, rvk, rfl, hP⟩
        have HP := Lib.hid hP
        clear hP
        have Hb3 := Lib.hid (show Below w1.heap.size w1 w3 from (Hb2.out).via HP.out.below (Hb2.out).size)
        have hk3 := Hkin.out w3 Hb3.out
        refine hK.out _ _ (by exact hk3) (fun hHeld => ?_)
        clear hK K
        try simp only [Act.put, List.setIfInBounds_toArray, List.set_cons_zero, List.set_cons_succ]
        refine wpAnyH_ready (rs := [3]) (by kernel_rfl) (by simp) ?_
        refine AllReadyH.cons rfl (fun K hK => ?_) AllReadyH.nil
        go_simp
        refine hK.out _ _ (by exact Hkin.out _ (Hb3.out.alloc Hb3.out.size _)) (fun hHeld => ?_)
        clear hK K
        try simp only [Act.put, List.setIfInBounds_toArray, List.set_cons_zero, List.set_cons_succ]
        refine wpAnyH_done (by kernel_rfl) ?_ _
        simp only [Exit.then]
        go_wp2_with fail
        go_meet
        exact ⟨_, ai, ci, ad, cd, a7, c7, a8, c8, a9, c9, a10, c10, rfl, famAt_new HP.out hk6 Hdim.out, (hbw.via Hb3.out hbw.size).alloc (by have := hbw.size; have := Hb3.out.size; omega) _⟩
      · go_simp
        have HZ := Lib.hid (Blk.new w2 #[.string ⟨#[]⟩, .slice none 0 0, .slice none 0 0, .slice none 0 0, .slice none 0 0, .slice none 0 0, .slice none 0 0, .slice none 0 0, .slice none 0 0, .slice none 0 0] 41)
        refine hK.out _ _ (by exact Hkin.out _ (Hb2.out.alloc Hb2.out.size _)) (fun hHeld => ?_)
        clear hK K
        try simp only [Act.put, List.setIfInBounds_toArray, List.set_cons_zero, List.set_cons_succ]
        refine wpAnyH_ready (rs := [2]) (by kernel_rfl) (by simp) ?_
        refine AllReadyH.cons rfl (fun K hK => ?_) AllReadyH.nil
        go_simp
        go_at_call 12
        refine (HFa.out _ ai ci ad cd (by exact (Hb2.out.alloc Hb2.out.size _)) (by exact (Hdim.out.mono (below1 _ _)))).mono ?_
        rintro e w3 ⟨a7, c7, a8, c8, a9, c9, a10, c10, rvk, rfl, hP⟩
        have HP := Lib.hid hP
        clear hP
        have Hb3 := Lib.hid (show Below w1.heap.size w1 w3 from ((Hb2.out.alloc Hb2.out.size _)).via HP.out.below ((Hb2.out.alloc Hb2.out.size _)).size)
        have hk3 := Hkin.out w3 Hb3.out
        refine hK.out _ _ (by exact hk3) (fun hHeld => ?_)
        clear hK K
        try simp only [Act.put, List.setIfInBounds_toArray, List.set_cons_zero, List.set_cons_succ]
        refine wpAnyH_done (by kernel_rfl) ?_ _
        simp only [Exit.then]
        have HZ3 := Lib.hid (HZ.out.below HP.out.below)
        obtain ⟨z0, z1, z2, z3, z4, z5, z6, z7, z8, z9, r0, r1, r2, r3, r4, r5, r6, r7, r8, r9⟩ := blk10 HZ3.out
        go_wp2_with fail
        go_meet
        exact ⟨_, ai, ci, ad, cd, a7, c7, a8, c8, a9, c9, a10, c10, rfl, famAt_store HP.out hk6 HZ3.out (by simp) (Hdim.out.mono (below1 _ _)) (fun b hb => by have := dims_lt Hdim.out b hb; omega), below_set10 (hbw.via Hb3.out hbw.size) (by have := hbw.size; have := Hb2.out.size; omega) _ _ _ _ _ _ _ _ _ _⟩
    · go_simp
      have HZ1 := Lib.hid (Blk.new w1 #[.string ⟨#[]⟩, .slice none 0 0, .slice none 0 0, .slice none 0 0, .slice none 0 0, .slice none 0 0, .slice none 0 0, .slice none 0 0, .slice none 0 0, .slice none 0 0] 41)
      refine hK.out _ _ (by exact Hkin.out _ ((below1 w1 _).dn 1)) (fun hHeld => ?_)
      clear hK K
      try simp only [Act.put, List.setIfInBounds_toArray, List.set_cons_zero, List.set_cons_succ]
      refine wpAnyH_ready (rs := [1]) (by kernel_rfl) (by simp) ?_
      refine AllReadyH.cons rfl (fun K hK => ?_) AllReadyH.nil
      go_simp
      go_at_call 13
      refine (plain_any _).mono ?_
      rintro e w2 ⟨ai, ci, ad, cd, rfl, hdim, hfr, hb2⟩
      have Hdim := Lib.hid hdim
      have Hfr := Lib.hid hfr
      clear hdim hfr
      have Hb2 := Lib.hid (show Below w1.heap.size w1 w2 from (below1 w1 _).via (undrew hb2) (by simp))
      have hk2 := Hkin.out w2 Hb2.out
      refine hK.out _ _ (by exact hk2) (fun hHeld => ?_)
      clear hK K
      try simp only [Act.put, List.setIfInBounds_toArray, List.set_cons_zero, List.set_cons_succ]
      have HZ := Lib.hid (HZ1.out.below (undrew hb2))
      refine wpAnyH_ready (rs := [2]) (by kernel_rfl) (by simp) ?_
      refine AllReadyH.cons rfl (fun K hK => ?_) AllReadyH.nil
      go_simp
      go_at_call 12
      refine (HFa.out _ ai ci ad cd (by exact Hb2.out) (by exact Hdim.out)).mono ?_
      rintro e w3 ⟨a7, c7, a8, c8, a9, c9, a10, c10, rvk, rfl, hP⟩
      have HP := Lib.hid hP
      clear hP
      have Hb3 := Lib.hid (show Below w1.heap.size w1 w3 from (Hb2.out).via HP.out.below (Hb2.out).size)
      have hk3 := Hkin.out w3 Hb3.out
      refine hK.out _ _ (by exact hk3) (fun hHeld => ?_)
      clear hK K
      try simp only [Act.put, List.setIfInBounds_toArray, List.set_cons_zero, List.set_cons_succ]
      refine wpAnyH_done (by kernel_rfl) ?_ _
      simp only [Exit.then]
      have HZ3 := Lib.hid (HZ.out.below HP.out.below)
      obtain ⟨z0, z1, z2, z3, z4, z5, z6, z7, z8, z9, r0, r1, r2, r3, r4, r5, r6, r7, r8, r9⟩ := blk10 HZ3.out
      go_wp2_with fail
      go_meet
      exact ⟨_, ai, ci, ad, cd, a7, c7, a8, c8, a9, c9, a10, c10, rfl, famAt_store HP.out hk6 HZ3.out (by exact HZ.out.lt) Hdim.out (fun b hb => by have := Hfr.out b hb; simp at this; omega), below_set10 (hbw.via Hb3.out hbw.size) (by have := hbw.size; omega) _ _ _ _ _ _ _ _ _ _⟩
  case rest =>
    obtain ⟨B, ai, ci, ad, cd, a7, c7, a8, c8, a9, c9, a10, c10, rfl, hFA, hbw⟩ := hcut
    rename World => wx
    have HB := Lib.hid (fun w' (h : Below wx.heap.size wx w') => blk10 (hFA.blk.below h))
    have HF := Lib.hid (fun w' (h : Below wx.heap.size wx w') => hFA.fam.mono h)
    have HBc := Lib.hid (fun w' (h : Below wx.heap.size wx w') => (blk10c (HB.out w' h)))
    have hol : (optsTo k).length = k := optsTo_len k
    have hrl : (rulesTo k R (min R.length 6)).length = min R.length 6 := rulesTo_len _ _ _
    have hm6 : min R.length 6 < 1000 := by omega
    have Hbw := Lib.hid hbw
    clear hFA hbw
    have hlen : (decodeL k code).length ≤ k := decodeL_len k code
    have he : litErr k (decodeL k code) = 0 := decodeL_ok k code
    have H21 := Lib.hid (fun w' (h : Below wx.heap.size wx w') => decode_any k code (.slice a1 n c) w' hk1 hk6 ((HC.out.mono Hbw.out).mono h) Hcr.out)
    generalize hch : decodeL k code = ch at *
    clear hch
    obtain ⟨z0, z1, z2, z3, z4, z5, z6, z7, z8, z9, -⟩ := HB.out wx (Below.refl _ _)
    go_wp2_with fail
    refine (H21.out _ (Below.refl _ _)).mono ?_
    rintro e2 w2 ⟨v, rfl, hli, -, hb2⟩
    obtain ⟨av, cv, rfl, -, -⟩ := hli.open
    have Hb2 := Lib.hid hb2
    have HCx := Lib.hid (fun w' (h : Below w2.heap.size w2 w') => hli.mono h)
    clear hb2 hli
    have hlok : LitsOk k ch := litErr_ok he
    have hcl2 : ch.length < 1000 := by omega
    have hall := allowedL_nums k (by omega) hlok (rulesTo_lits (n := k) (R := R) (k := min R.length 6))
    have hvis := visL_nums k ch (rulesTo k R (min R.length 6))
    rw [hrl] at hall
    have H17 := Lib.hid (fun w' ov (h : Below w2.heap.size w2 w') (ho : Bools w' ov (List.replicate (min R.length 6) false)) => allowed_any baseS nilV (.slice ai 3 ci) (.slice ad 2 cd) nilV nilV (.slice a7 k c7) (.slice a8 (min R.length 6) c8) (.slice a9 (min D.length 4) c9) (.slice a10 (min O.length 4) c10) ov (.slice av ch.length cv) a7 k c7 _ _ ch w' rfl hk6 (HF.out w' (Hb2.out.via h Hb2.out.size)).rul ho (HCx.out w' h) (rulesOk_of (HF.out w' (Hb2.out.via h Hb2.out.size)).ok) (hlok.le (by omega)) hcl2 (by rw [hrl, List.length_replicate]) (by rw [hrl]; omega))
    rw [hall] at H17
    have HFx := Lib.hid (fun w' (h : Below w2.heap.size w2 w') => HF.out w' (Hb2.out.via h Hb2.out.size))
    generalize hcn : ch.length = cn at *
    have Hcn := Lib.hid hcn
    clear hcn
    generalize hnums : okNums k ch (rulesTo k R (min R.length 6)) = nums at *
    have hn64 : nums.length ≤ 64 := by rw [← hnums]; exact okNums_len k hk6 _ _
    cases nums with
    | nil =>
      rw [List.map_nil] at hvis H17
      have H22 := Lib.hid (fun w' (h : Below w2.heap.size w2 w') => forced_inf _ _ _ _ _ _ _ _ _ _ _ _ _ _ _ _ _ ch w' (HFx.out w' h) (by rw [hol]; exact hk6) (HCx.out w' h) (by rw [Hcn.out]; exact hcl2) (by rw [hol]; exact he) (by rw [hol, hvis]; rfl))
      clear hvis hall he hlok hrl hol hnums
      obtain ⟨y0, y1, y2, y3, y4, y5, y6, y7, y8, y9, -⟩ := HB.out w2 Hb2.out
      go_wp2_with fail
      have HBx := Lib.hid (fun w' (h : Below w2.heap.size w2 w') => HBc.out w' (Hb2.out.via h Hb2.out.size))
      refine wp_region_held_drew (S := (fun w' => w'.cell? ⟨B, 0, none⟩ = some baseS ∧ w'.cell? ⟨B, 1, none⟩ = some nilV ∧ w'.cell? ⟨B, 2, none⟩ = some (.slice ai 3 ci) ∧ w'.cell? ⟨B, 3, none⟩ = some (.slice ad 2 cd) ∧ w'.cell? ⟨B, 4, none⟩ = some nilV ∧ w'.cell? ⟨B, 5, none⟩ = some nilV ∧ w'.cell? ⟨B, 6, none⟩ = some (.slice a7 k c7) ∧ w'.cell? ⟨B, 7, none⟩ = some (.slice a8 (min R.length 6) c8) ∧ w'.cell? ⟨B, 8, none⟩ = some (.slice a9 (min D.length 4) c9) ∧ w'.cell? ⟨B, 9, none⟩ = some (.slice a10 (min O.length 4) c10))) (by kernel_rfl) (by exact HBx.out _ (Below.refl _ _).drew) (fun hHeld => ?_)
      refine wpAnyH_take (i := 0) (v := ?v2) rfl (by kernel_rfl) (by kernel_rfl) (by kernel_rfl) (fun _ _ _ h => h) (Or.inl ⟨by rfl, ?hy2⟩) (by assumption) ?rest2
      case hy2 => (intro w hSw; (try dsimp only at hSw); go_simp; try (with_reducible rfl))
      try simp only [Act.put, List.getElem_toArray, List.getElem_cons_zero, List.setIfInBounds_toArray, List.set_cons_zero, List.set_cons_succ]
      refine wpAnyH_take (i := 1) (v := ?v3) rfl (by kernel_rfl) (by kernel_rfl) (by kernel_rfl) (fun _ _ _ h => h) (Or.inl ⟨by rfl, ?hy3⟩) (by assumption) ?rest3
      case hy3 => (intro w hSw; (try dsimp only at hSw); go_simp; try (with_reducible rfl))
      try simp only [Act.put, List.getElem_toArray, List.getElem_cons_zero, List.getElem_cons_succ, List.setIfInBounds_toArray, List.set_cons_zero, List.set_cons_succ]
      refine wpAnyH_take (i := 3) (v := ?v4) rfl (by kernel_rfl) (by kernel_rfl) (by kernel_rfl) (fun _ _ _ h => h) (Or.inl ⟨by rfl, ?hy4⟩) (by assumption) ?rest4
      case hy4 => (intro w hSw; (try dsimp only at hSw); go_simp; try (with_reducible rfl))
      try simp only [Act.put, List.getElem_toArray, List.getElem_cons_zero, List.getElem_cons_succ, List.setIfInBounds_toArray, List.set_cons_zero, List.set_cons_succ]
      refine wpAnyH_ready (rs := [2]) (by kernel_rfl) (by simp) ?_
      refine AllReadyH.cons rfl (fun K hK => ?_) AllReadyH.nil
      go_simp
      go_at_call 18
      refine (none_any _ _ _ _ _ _ _ _ _ _ _ _ _ (by omega)).mono ?_
      rintro e2 w5 ⟨ov, rfl, hbo, hb5⟩
      obtain ⟨ao, co, rfl, -, -⟩ := hbo.open
      rw [List.length_replicate] at hbo
      have Hbo := Lib.hid hbo
      have Hb5 := Lib.hid (show Below wx.heap.size wx w5 from Hb2.out.via (undrew hb5) Hb2.out.size)
      have Hb54 := Lib.hid (undrew hb5)
      clear hbo hb5
      refine hK.out _ _ (by exact HBx.out _ Hb54.out) (fun hHeld => ?_)
      clear hK K
      try simp only [Act.put, List.setIfInBounds_toArray, List.set_cons_zero, List.set_cons_succ]
      refine wpAnyH_ready (rs := [4]) (by kernel_rfl) (by simp) ?_
      refine AllReadyH.cons rfl (fun K hK => ?_) AllReadyH.nil
      go_simp
      go_at_call 17
      refine (H17.out _ _ Hb54.out Hbo.out).mono ?_
      rintro e2 w6 ⟨lv, rfl, hl, hb6⟩
      obtain ⟨al, cl, rfl, -, -⟩ := hl.open
      have Hl := Lib.hid hl
      have Hb6 := Lib.hid (show Below wx.heap.size wx w6 from Hb5.out.via hb6 Hb5.out.size)
      have Hb64 := Lib.hid (show Below w2.heap.size w2 w6 from Hb54.out.via hb6 Hb54.out.size)
      clear hl
      refine hK.out _ _ (by exact HBx.out _ Hb64.out) (fun hHeld => ?_)
      clear hK K
      try simp only [Act.put, List.setIfInBounds_toArray, List.set_cons_zero, List.set_cons_succ]
      refine wpAnyH_take (i := 5) (v := ?v5) rfl (by kernel_rfl) (by kernel_rfl) (by kernel_rfl) (fun _ _ _ h => h) (Or.inl ⟨by rfl, ?hy5⟩) (by assumption) ?rest5
      case hy5 => (intro w hSw; (try dsimp only at hSw); go_simp; try (with_reducible rfl))
      try simp only [Act.put, List.getElem_toArray, List.getElem_cons_zero, List.getElem_cons_succ, List.setIfInBounds_toArray, List.set_cons_zero, List.set_cons_succ]
      refine wpAnyH_done (by kernel_rfl) ?_ _
      have hb6 := Hb6.out
      obtain ⟨x0, x1, x2, x3, x4, x5, x6, x7, x8, x9, -⟩ := HB.out w6 hb6
      go_wp2_with fail
      refine (H22.out _ Hb64.out).mono ?_
      rintro e2 w7 ⟨rfl, hb7⟩
      have hb7 := hb6.via hb7 hb6.size
      go_wp2_with fail
      go_ret
      exact Ret.mk (Hbw.out.via hb7 Hbw.out.size)
    | cons i is =>
      rw [List.map_cons] at hvis
      have H22 := Lib.hid (fun w' (h : Below w2.heap.size w2 w') => forced_ok _ _ _ _ _ _ _ _ _ _ _ _ _ _ _ _ _ ch w' (HFx.out w' h) (by rw [hol]; exact hk6) (HCx.out w' h) (by rw [Hcn.out]; exact hcl2) (by rw [hol]; exact he) (by rw [hol, hvis]; rfl))
      rw [hol, hvis] at H22
      obtain ⟨m, Hm, hm1⟩ : ∃ m : Nat, Hid (is.length + 1 = m) ∧ 1 ≤ m := ⟨_, Lib.hid rfl, by omega⟩
      have hm64 : m ≤ 64 := by rw [← Hm.out]; simpa using hn64
      have Hlen := Lib.hid (show (List.map (setN k) (i :: is)).length = m by rw [List.length_map]; exact Hm.out)
      have Hstep := Lib.hid (fun j (hj : j < k) => forced_step k (by omega) i is j hj)
      have Hsr := Lib.hid (show ∀ s ∈ (i :: is).map (setN k), 0 ≤ s ∧ s < 4096 from fun s hs => by obtain ⟨y, _, rfl⟩ := List.mem_map.1 hs; exact ⟨Int.natCast_nonneg _, setN_lt k y hk6⟩)
      rw [← List.map_cons] at H22
      generalize hX : (i :: is).map (cfgN k) = X at *
      generalize hS : (i :: is).map (setN k) = S at *
      clear hvis hall he hlok hrl hol hnums hX hS
      obtain ⟨y0, y1, y2, y3, y4, y5, y6, y7, y8, y9, -⟩ := HB.out w2 Hb2.out
      go_wp2_with fail
      have HBx := Lib.hid (fun w' (h : Below w2.heap.size w2 w') => HBc.out w' (Hb2.out.via h Hb2.out.size))
      refine wp_region_held_drew (S := (fun w' => w'.cell? ⟨B, 0, none⟩ = some baseS ∧ w'.cell? ⟨B, 1, none⟩ = some nilV ∧ w'.cell? ⟨B, 2, none⟩ = some (.slice ai 3 ci) ∧ w'.cell? ⟨B, 3, none⟩ = some (.slice ad 2 cd) ∧ w'.cell? ⟨B, 4, none⟩ = some nilV ∧ w'.cell? ⟨B, 5, none⟩ = some nilV ∧ w'.cell? ⟨B, 6, none⟩ = some (.slice a7 k c7) ∧ w'.cell? ⟨B, 7, none⟩ = some (.slice a8 (min R.length 6) c8) ∧ w'.cell? ⟨B, 8, none⟩ = some (.slice a9 (min D.length 4) c9) ∧ w'.cell? ⟨B, 9, none⟩ = some (.slice a10 (min O.length 4) c10))) (by kernel_rfl) (by exact HBx.out _ (Below.refl _ _).drew) (fun hHeld => ?_)
      refine wpAnyH_take (i := 0) (v := ?v6) rfl (by kernel_rfl) (by kernel_rfl) (by kernel_rfl) (fun _ _ _ h => h) (Or.inl ⟨by rfl, ?hy6⟩) (by assumption) ?rest6
      case hy6 => (intro w hSw; (try dsimp only at hSw); go_simp; try (with_reducible rfl))
      try simp only [Act.put, List.getElem_toArray, List.getElem_cons_zero, List.setIfInBounds_toArray, List.set_cons_zero, List.set_cons_succ]
      refine wpAnyH_take (i := 1) (v := ?v7) rfl (by kernel_rfl) (by kernel_rfl) (by kernel_rfl) (fun _ _ _ h => h) (Or.inl ⟨by rfl, ?hy7⟩) (by assumption) ?rest7
      case hy7 => (intro w hSw; (try dsimp only at hSw); go_simp; try (with_reducible rfl))
      try simp only [Act.put, List.getElem_toArray, List.getElem_cons_zero, List.getElem_cons_succ, List.setIfInBounds_toArray, List.set_cons_zero, List.set_cons_succ]
      refine wpAnyH_take (i := 3) (v := ?v8) rfl (by kernel_rfl) (by kernel_rfl) (by kernel_rfl) (fun _ _ _ h => h) (Or.inl ⟨by rfl, ?hy8⟩) (by assumption) ?rest8
      case hy8 => (intro w hSw; (try dsimp only at hSw); go_simp; try (with_reducible rfl))
      try simp only [Act.put, List.getElem_toArray, List.getElem_cons_zero, List.getElem_cons_succ, List.setIfInBounds_toArray, List.set_cons_zero, List.set_cons_succ]
      refine wpAnyH_ready (rs := [2]) (by kernel_rfl) (by simp) ?_
      refine AllReadyH.cons rfl (fun K hK => ?_) AllReadyH.nil
      go_simp
      go_at_call 18
      refine (none_any _ _ _ _ _ _ _ _ _ _ _ _ _ (by omega)).mono ?_
      rintro e2 w5 ⟨ov, rfl, hbo, hb5⟩
      obtain ⟨ao, co, rfl, -, -⟩ := hbo.open
      rw [List.length_replicate] at hbo
      have Hbo := Lib.hid hbo
      have Hb5 := Lib.hid (show Below wx.heap.size wx w5 from Hb2.out.via (undrew hb5) Hb2.out.size)
      have Hb54 := Lib.hid (undrew hb5)
      clear hbo hb5
      refine hK.out _ _ (by exact HBx.out _ Hb54.out) (fun hHeld => ?_)
      clear hK K
      try simp only [Act.put, List.setIfInBounds_toArray, List.set_cons_zero, List.set_cons_succ]
      refine wpAnyH_ready (rs := [4]) (by kernel_rfl) (by simp) ?_
      refine AllReadyH.cons rfl (fun K hK => ?_) AllReadyH.nil
      go_simp
      go_at_call 17
      refine (H17.out _ _ Hb54.out Hbo.out).mono ?_
      rintro e2 w6 ⟨lv, rfl, hl, hb6⟩
      obtain ⟨al, cl, rfl, -, -⟩ := hl.open
      rw [Hlen.out] at hl
      rw [Hlen.out]
      have Hl := Lib.hid hl
      have Hb6 := Lib.hid (show Below wx.heap.size wx w6 from Hb5.out.via hb6 Hb5.out.size)
      have Hb64 := Lib.hid (show Below w2.heap.size w2 w6 from Hb54.out.via hb6 Hb54.out.size)
      clear hl
      refine hK.out _ _ (by exact HBx.out _ Hb64.out) (fun hHeld => ?_)
      clear hK K
      try simp only [Act.put, List.setIfInBounds_toArray, List.set_cons_zero, List.set_cons_succ]
      refine wpAnyH_take (i := 5) (v := ?v9) rfl (by kernel_rfl) (by kernel_rfl) (by kernel_rfl) (fun _ _ _ h => h) (Or.inl ⟨by rfl, ?hy9⟩) (by assumption) ?rest9
      case hy9 => (intro w hSw; (try dsimp only at hSw); go_simp; try (with_reducible rfl))
      try simp only [Act.put, List.getElem_toArray, List.getElem_cons_zero, List.getElem_cons_succ, List.setIfInBounds_toArray, List.set_cons_zero, List.set_cons_succ]
      refine wpAnyH_done (by kernel_rfl) ?_ _
      have hb6 := Hb6.out
      obtain ⟨x0, x1, x2, x3, x4, x5, x6, x7, x8, x9, -⟩ := HB.out w6 hb6
      go_wp2_with fail
      refine (H22.out _ Hb64.out).mono ?_
      rintro e2 w7 ⟨v, rfl, hfo, hb7⟩
      obtain ⟨af, cf, rfl, -, -⟩ := hfo.open
      have Hfl := Lib.hid (show (forcedTo X k).length = (forcedTo X k).length from rfl)
      have hfl1 := forcedTo_len X k
      generalize hfn : (forcedTo X k).length = fn at *
      have Hfn := Lib.hid hfn
      have Hfo := Lib.hid hfo
      have Hb67 := Lib.hid hb7
      have Hb7 := Lib.hid (hb6.via hb7 hb6.size)
      have hm0 : (0 : Int) < (m : Int) := by omega
      have hm0' : ((m : Int) == 0) = false := by simp; omega
      clear hb6 hb7 hfo hfn Hfl x0 x1 x2 x3 x4 x5 x6 x7 x8 x9
      go_wp2_with fail
      go_loopw [11, 12] (fun v i wr => ∃ j : Nat, j ≤ k ∧ i = .int .i64 j ∧ Below w7.heap.size w7 wr ∧ wr.ownsRow w7.heap.size 62 2 v (forcedTo X j).length ((((forcedTo X j).map litV).map _root_.Go.Proofs.Ytkphggmbimjhjaa.c2).flatten)) (fun _ i _ => k - (intOf i).toNat)
      case atStart => exact ⟨0, Nat.zero_le _, rfl, Below.refl _ _, World.ownsRow_nil _ _ _ _⟩
      case round =>
        obtain ⟨j, hj, rfl, hbr, hown⟩ := hrel
        have Hbr := Lib.hid hbr
        have Hown := Lib.hid hown
        have hownlen := forcedTo_len X j
        have hbrs := hbr.size
        clear hbr hown
        by_cases hlt : j < k
        · go_wp2_with fail
          go_loop [13, 14, 15] (fun p r q => ∃ q' : Nat, q' ≤ m ∧ q = .int .i64 q' ∧ p = .bool ((S.take q').all fun s => setB s j) ∧ r = .bool ((S.take q').all fun s => !setB s j)) (fun _ _ q => m - (intOf q).toNat)
          case atStart => exact ⟨0, Nat.zero_le _, rfl, rfl, rfl⟩
          case round =>
            obtain ⟨q', hq', rfl, rfl, rfl⟩ := hrel
            by_cases hltq : q' < m
            · obtain ⟨lb, lo, s, rfl, hsq, hcell⟩ := Hl.out.at (Hb67.out.via Hbr.out Hb67.out.size) (k := q') hltq
              have hs := Hsr.out s (List.mem_of_getElem? hsq)
              have hp : (0 : Int) < 2 ^ j := Int.pow_pos (by omega)
              have e := and_one_i64 (s / 2 ^ j) (Int.ediv_nonneg hs.1 (by omega)) (Int.le_trans (Int.ediv_le_self _ hs.1) (by omega))
              have es : setB s j = (s / 2 ^ j % 2 == 1) := rfl
              have e2 : (S.take (q' + 1)).all (fun s => setB s j) = ((S.take q').all (fun s => setB s j) && setB s j) := by rw [List.take_add_one, hsq]; simp
              have e3 : (S.take (q' + 1)).all (fun s => !setB s j) = ((S.take q').all (fun s => !setB s j) && !setB s j) := by rw [List.take_add_one, hsq]; simp
              have E2 := Lib.hid e2
              have E3 := Lib.hid e3
              generalize hP : (S.take q').all (fun s => setB s j) = P at *
              generalize hQ : (S.take q').all (fun s => !setB s j) = Q at *
              clear e2 e3 hP hQ hsq
              have hs0 := hs.1
              have hs1 := hs.2
              clear hs
              cases hh : setB s j
              · have ef : (bits .and .i64 (s / 2 ^ j) 1 == 1) = false := by rw [e, ← es, hh]
                have ef2 : (bits .and .i64 (s / 2 ^ j) 1 == 0) = true := by rw [e, beq_iff_eq]; rw [hh] at es; have := beq_eq_false_iff_ne.1 es.symm; omega
                have HH := Lib.hid hh
                clear e es hp hh
                cases P <;> cases Q
                all_goals go_wp2_with fail
                all_goals
                  go_round
                  case rel => exact ⟨q' + 1, by omega, by go_num, by rw [E2.out, HH.out]; rfl, by rw [E3.out, HH.out]; rfl⟩
                  case measure => simp [intOf]; omega
              · have ef : (bits .and .i64 (s / 2 ^ j) 1 == 1) = true := by rw [e, ← es, hh]
                have ef2 : (bits .and .i64 (s / 2 ^ j) 1 == 0) = false := by rw [e, beq_eq_false_iff_ne]; rw [hh] at es; have := beq_iff_eq.1 es.symm; omega
                have HH := Lib.hid hh
                clear e es hp hh
                cases P <;> cases Q
                all_goals go_wp2_with fail
                all_goals
                  go_round
                  case rel => exact ⟨q' + 1, by omega, by go_num, by rw [E2.out, HH.out]; rfl, by rw [E3.out, HH.out]; rfl⟩
                  case measure => simp [intOf]; omega
            · obtain rfl : q' = m := by omega
              rw [List.take_of_length_le (Nat.le_of_eq Hlen.out)]
              have HS := Lib.hid (Hstep.out j hlt)
              generalize hP : S.all (fun s => setB s j) = P at *
              generalize hQ : S.all (fun s => !setB s j) = Q at *
              clear hP hQ
              have hown := Hown.out
              cases P <;> cases Q
              · go_wp2_with fail
                go_roundw
                case rel => exact ⟨j + 1, by omega, by go_num, Hbr.out, by rw [HS.out]; simpa using hown⟩
                case measure => simp [intOf]; omega
              all_goals
                go_wp2_with (at_builtin; refine wpApp E25 (by decide) [.int .i64 (j : Int), .bool _] rfl _ _ rfl w7.heap.size _ _ _ rfl rfl hown rfl (one2 _ _ rfl rfl) (by omega) (by decide) Hbr.out.size ?_; intro v' w8 hown' hg'; have hbw8 := below_app Hbr.out hown hg' Hbr.out.size)
                go_roundw
                case rel => exact ⟨j + 1, by omega, by go_num, hbw8, by rw [HS.out]; simpa [litV, _root_.Go.Proofs.Ytkphggmbimjhjaa.c2] using hown'⟩
                case measure => simp [intOf]; omega
        · obtain rfl : j = k := by omega
          go_wp2_with fail
          have hlw := own_lits Hown.out
          refine (sameLits_any _ _ _ _ _ (by exact Hfo.out.mono Hbr.out) (by exact hlw) (by omega)).mono ?_
          rintro e2 w8 ⟨rfl, hb8⟩
          rw [decide_eq_true rfl]
          have hb8 := Hb7.out.via (Hbr.out.via hb8 Hbr.out.size) Hb7.out.size
          go_wp2_with fail
          go_ret
          exact Ret.mk (Hbw.out.via hb8 Hbw.out.size)

end Go.Proofs.Ytkphggmbimjhjaa
