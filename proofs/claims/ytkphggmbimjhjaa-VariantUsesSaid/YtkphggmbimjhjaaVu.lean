/-
  VariantUses: the walk.
-/
import Derived.Test.YtkphggmbimjhjaaFat
import Derived.Test.YtkphggmbimjhjaaAll
import Derived.Test.YtkphggmbimjhjaaSame
import Derived.Test.YtkphggmbimjhjaaUs
import Derived.Deep.CutBlock
import Derived.Deep.DeepCutAuto
namespace Go.Proofs.Ytkphggmbimjhjaa
open Go.RowKit

set_option maxHeartbeats 8000000 in
set_option maxRecDepth 100000 in
theorem uses_any (N : Int) (R D O : List (List Int)) (a2 a3 a4 : Option Addr) (c2 c3 c4 : Nat) (o : Int) (w : World) (h11 : Hid (∀ w, Calls Try.prog 11 #[] w (Ret (.bool true) w))) (hN0 : 0 ≤ N) (hN : N < 256)
    (hRr : ∀ r ∈ R, ∀ x ∈ r, -128 ≤ x ∧ x ≤ 127) (hDr : ∀ r ∈ D, ∀ x ∈ r, -128 ≤ x ∧ x ≤ 127) (hOr : ∀ r ∈ O, ∀ x ∈ r, -128 ≤ x ∧ x ≤ 127) (hR : M8 w (.slice a2 R.length c2) R) (hD : M8 w (.slice a3 D.length c3) D) (hO : M8 w (.slice a4 O.length c4) O) (ho : (Lit.int .i64 o).wf = true) :
    Calls Try.prog 8 #[.agg #[.int .u8 N, .slice a2 R.length c2, .slice a3 D.length c3, .slice a4 O.length c4], .int .i64 o] w (Ret (.bool true) w) := by
  have HFa0 := Lib.hid (fun w2 ai ci ad cd (h2 : Below w.heap.size w w2) (hdim : Dims w2 (.slice ad 2 cd) baseDims) => family_any N R D O (.slice a2 R.length c2) (.slice a3 D.length c3) (.slice a4 O.length c4) ai ci ad cd w2 hN0 hN hRr hDr hOr (hR.mono h2) (hD.mono h2) (hO.mono h2) hdim)
  obtain ⟨k, Hk, hk1, hk6⟩ : ∃ k : Nat, Hid ((1 + N % 6).toNat = k) ∧ 1 ≤ k ∧ k ≤ 6 := ⟨_, Lib.hid rfl, by omega, by omega⟩
  rw [Hk.out] at HFa0
  clear hRr hDr hOr hR hD hO hN0 hN Hk
  generalize hn2 : R.length = n2 at *
  generalize hn3 : D.length = n3 at *
  generalize hn4 : O.length = n4 at *
  have Hn2 := Lib.hid hn2
  have Hn3 := Lib.hid hn3
  have Hn4 := Lib.hid hn4
  clear hn2 hn3 hn4
  simp only [Lit.wf, Bool.and_eq_true, decide_eq_true_eq] at ho
  have m1 : IntKind.i64.min = -9223372036854775808 := rfl
  have m2 : IntKind.i64.max = 9223372036854775807 := rfl
  rw [m1, m2] at ho
  clear m1 m2
  have ho1 := ho.1
  have ho2 := ho.2
  have Ho := Lib.hid ho
  clear ho ho1 ho2
  go_enter Try.func8, Try.ntmps8
  go_upto_region 4 with (go_at_call 11; refine (h11.out _).mono ?_; rintro e w1 ⟨rfl, hb1⟩)
  go_cut [5] (fun s5 wx => ∃ B ai ci ad cd a7 c7 a8 c8 a9 c9 a10 c10, s5 = .pointer (some ⟨B, 0, none⟩) ∧ FamAt wx B k R D O ai ci ad cd a7 c7 a8 c8 a9 c9 a10 c10 ∧ Below w.heap.size w wx)
  case first =>
    have hb0 := below1 w (.cells #[.int .u8 N, .slice a2 n2 c2, .slice a3 n3 c3, .slice a4 n4 c4] 24)
    have hbw : Below w.heap.size w w1 := hb0.via hb1 hb0.size
    have Hkin := Lib.hid (fun w' (h : Below w1.heap.size w1 w') => blk4 (((Blk.new w #[.int .u8 N, .slice a2 n2 c2, .slice a3 n3 c3, .slice a4 n4 c4] 24).below hb1).below h))
    have HFa := Lib.hid (fun w2 ai ci ad cd (h2 : Below w1.heap.size w1 w2) hdim => HFa0.out w2 ai ci ad cd (hbw.via h2 hbw.size) hdim)
    refine wp_region_pop (S := (fun w' => w'.cell? ⟨w.heap.size, 0, none⟩ = some (.int .u8 N) ∧ w'.cell? ⟨w.heap.size, 1, none⟩ = some (.slice a2 n2 c2) ∧ w'.cell? ⟨w.heap.size, 2, none⟩ = some (.slice a3 n3 c3) ∧ w'.cell? ⟨w.heap.size, 3, none⟩ = some (.slice a4 n4 c4))) 4 (by kernel_rfl) (by kernel_rfl) (by exact Hkin.out w1.drew (Below.refl _ _).drew) (fun hHeld => ?_)
    simp only [List.take_succ_cons, List.take_zero, List.drop_succ_cons, List.drop_zero]
    refine wpAnyH_take (i := 0) (v := ?v1) rfl (by kernel_rfl) (by kernel_rfl) (by kernel_rfl) (fun _ _ _ h => h) (Or.inl ⟨by rfl, ?hy1⟩) (by assumption) ?rest1
    case hy1 => (intro w hSw; (try dsimp only at hSw); go_simp; try (with_reducible rfl))
    try simp only [Act.put, List.getElem_toArray, List.getElem_cons_zero, List.setIfInBounds_toArray, List.set_cons_zero, List.set_cons_succ]
    refine wpAnyH_ready (rs := [1, 3]) (by kernel_rfl) (by simp) ?_
    refine AllReadyH.cons rfl (fun K hK => ?_) (AllReadyH.cons rfl (fun K hK => ?_) AllReadyH.nil)
    · go_simp
      go_at_call 13
      refine (plain_any _).mono ?_
      rintro e w2 ⟨ai, ci, ad, cd, rfl, hdim, hfr, hb2⟩
      have Hdim := Lib.hid hdim
      have Hfr := Lib.hid hfr
      clear hdim hfr
      have Hb2 := Lib.hid (show Below w1.heap.size w1 w2 from undrew hb2)
      have hk2 := Hkin.out w2 Hb2.out
      refine hK.out _ _ (by exact hk2) (fun hHeld => ?_)
      clear hK K
      try simp only [Act.put, List.setIfInBounds_toArray, List.set_cons_zero, List.set_cons_succ]
      refine wpAnyH_ready (rs := [2, 3]) (by kernel_rfl) (by simp) ?_
      refine AllReadyH.cons rfl (fun K hK => ?_) (AllReadyH.cons rfl (fun K hK => ?_) AllReadyH.nil)
      · go_simp
        go_at_call 12
        refine (HFa.out _ ai ci ad cd (by exact Hb2.out) (by exact Hdim.out)).mono ?_
        rintro e w3 ⟨a7, c7, a8, c8, a9, c9, a10, c10, rvk, rfl, hP⟩
        have HP := Lib.hid hP
        clear hP
        have Hb3 := Lib.hid (show Below w1.heap.size w1 w3 from (Hb2.out).via HP.out.below (Hb2.out).size)
        have hk3 := Hkin.out w3 Hb3.out
        refine hK.out _ _ (by exact hk3) (fun hHeld => ?_)
        clear hK K
        try simp only [Act.put, List.setIfInBounds_toArray, List.set_cons_zero, List.set_cons_succ]
        refine wpAnyH_ready (rs := [3]) (by kernel_rfl) (by simp) ?_
        refine AllReadyH.cons rfl (fun K hK => ?_) AllReadyH.nil
        go_simp
        refine hK.out _ _ (by exact Hkin.out _ (Hb3.out.alloc Hb3.out.size _)) (fun hHeld => ?_)
        clear hK K
        try simp only [Act.put, List.setIfInBounds_toArray, List.set_cons_zero, List.set_cons_succ]
        refine wpAnyH_done (by kernel_rfl) ?_ _
        simp only [Exit.then]
        go_wp2_with fail
        go_meet
        exact ⟨_, ai, ci, ad, cd, a7, c7, a8, c8, a9, c9, a10, c10, rfl, famAt_new HP.out hk6 Hdim.out, (hbw.via Hb3.out hbw.size).alloc (by have := hbw.size; have := Hb3.out.size; omega) _⟩
      · go_simp
        have HZ := Lib.hid (Blk.new w2 #[.string ⟨#[]⟩, .slice none 0 0, .slice none 0 0, .slice none 0 0, .slice none 0 0, .slice none 0 0, .slice none 0 0, .slice none 0 0, .slice none 0 0, .slice none 0 0] 41)
        refine hK.out _ _ (by exact Hkin.out _ (Hb2.out.alloc Hb2.out.size _)) (fun hHeld => ?_)
        clear hK K
        try simp only [Act.put, List.setIfInBounds_toArray, List.set_cons_zero, List.set_cons_succ]
        refine wpAnyH_ready (rs := [2]) (by kernel_rfl) (by simp) ?_
        refine AllReadyH.cons rfl (fun K hK => ?_) AllReadyH.nil
        go_simp
        go_at_call 12
        refine (HFa.out _ ai ci ad cd (by exact (Hb2.out.alloc Hb2.out.size _)) (by exact (Hdim.out.mono (below1 _ _)))).mono ?_
        rintro e w3 ⟨a7, c7, a8, c8, a9, c9, a10, c10, rvk, rfl, hP⟩
        have HP := Lib.hid hP
        clear hP
        have Hb3 := Lib.hid (show Below w1.heap.size w1 w3 from ((Hb2.out.alloc Hb2.out.size _)).via HP.out.below ((Hb2.out.alloc Hb2.out.size _)).size)
        have hk3 := Hkin.out w3 Hb3.out
        refine hK.out _ _ (by exact hk3) (fun hHeld => ?_)
        clear hK K
        try simp only [Act.put, List.setIfInBounds_toArray, List.set_cons_zero, List.set_cons_succ]
        refine wpAnyH_done (by kernel_rfl) ?_ _
        simp only [Exit.then]
        have HZ3 := Lib.hid (HZ.out.below HP.out.below)
        obtain ⟨z0, z1, z2, z3, z4, z5, z6, z7, z8, z9, r0, r1, r2, r3, r4, r5, r6, r7, r8, r9⟩ := blk10 HZ3.out
        go_wp2_with fail
        go_meet
        exact ⟨_, ai, ci, ad, cd, a7, c7, a8, c8, a9, c9, a10, c10, rfl, famAt_store HP.out hk6 HZ3.out (by simp) (Hdim.out.mono (below1 _ _)) (fun b hb => by have := dims_lt Hdim.out b hb; omega), below_set10 (hbw.via Hb3.out hbw.size) (by have := hbw.size; have := Hb2.out.size; omega) _ _ _ _ _ _ _ _ _ _⟩
    · go_simp
      have HZ1 := Lib.hid (Blk.new w1 #[.string ⟨#[]⟩, .slice none 0 0, .slice none 0 0, .slice none 0 0, .slice none 0 0, .slice none 0 0, .slice none 0 0, .slice none 0 0, .slice none 0 0, .slice none 0 0] 41)
      refine hK.out _ _ (by exact Hkin.out _ ((below1 w1 _).dn 1)) (fun hHeld => ?_)
      clear hK K
      try simp only [Act.put, List.setIfInBounds_toArray, List.set_cons_zero, List.set_cons_succ]
      refine wpAnyH_ready (rs := [1]) (by kernel_rfl) (by simp) ?_
      refine AllReadyH.cons rfl (fun K hK => ?_) AllReadyH.nil
      go_simp
      go_at_call 13
      refine (plain_any _).mono ?_
      rintro e w2 ⟨ai, ci, ad, cd, rfl, hdim, hfr, hb2⟩
      have Hdim := Lib.hid hdim
      have Hfr := Lib.hid hfr
      clear hdim hfr
      have Hb2 := Lib.hid (show Below w1.heap.size w1 w2 from (below1 w1 _).via (undrew hb2) (by simp))
      have hk2 := Hkin.out w2 Hb2.out
      refine hK.out _ _ (by exact hk2) (fun hHeld => ?_)
      clear hK K
      try simp only [Act.put, List.setIfInBounds_toArray, List.set_cons_zero, List.set_cons_succ]
      have HZ := Lib.hid (HZ1.out.below (undrew hb2))
      refine wpAnyH_ready (rs := [2]) (by kernel_rfl) (by simp) ?_
      refine AllReadyH.cons rfl (fun K hK => ?_) AllReadyH.nil
      go_simp
      go_at_call 12
      refine (HFa.out _ ai ci ad cd (by exact Hb2.out) (by exact Hdim.out)).mono ?_
      rintro e w3 ⟨a7, c7, a8, c8, a9, c9, a10, c10, rvk, rfl, hP⟩
      have HP := Lib.hid hP
      clear hP
      have Hb3 := Lib.hid (show Below w1.heap.size w1 w3 from (Hb2.out).via HP.out.below (Hb2.out).size)
      have hk3 := Hkin.out w3 Hb3.out
      refine hK.out _ _ (by exact hk3) (fun hHeld => ?_)
      clear hK K
      try simp only [Act.put, List.setIfInBounds_toArray, List.set_cons_zero, List.set_cons_succ]
      refine wpAnyH_done (by kernel_rfl) ?_ _
      simp only [Exit.then]
      have HZ3 := Lib.hid (HZ.out.below HP.out.below)
      obtain ⟨z0, z1, z2, z3, z4, z5, z6, z7, z8, z9, r0, r1, r2, r3, r4, r5, r6, r7, r8, r9⟩ := blk10 HZ3.out
      go_wp2_with fail
      go_meet
      exact ⟨_, ai, ci, ad, cd, a7, c7, a8, c8, a9, c9, a10, c10, rfl, famAt_store HP.out hk6 HZ3.out (by exact HZ.out.lt) Hdim.out (fun b hb => by have := Hfr.out b hb; simp at this; omega), below_set10 (hbw.via Hb3.out hbw.size) (by have := hbw.size; omega) _ _ _ _ _ _ _ _ _ _⟩
  case rest =>
    obtain ⟨B, ai, ci, ad, cd, a7, c7, a8, c8, a9, c9, a10, c10, rfl, hFA, hbw⟩ := hcut
    rename World => wx
    have HB := Lib.hid (fun w' (h : Below wx.heap.size wx w') => blk10 (hFA.blk.below h))
    have HF := Lib.hid (fun w' (h : Below wx.heap.size wx w') => hFA.fam.mono h)
    have HBc := Lib.hid (fun w' (h : Below wx.heap.size wx w') => (blk10c (HB.out w' h)))
    have hol : (optsTo k).length = k := optsTo_len k
    have hrl : (rulesTo k R (min R.length 6)).length = min R.length 6 := rulesTo_len _ _ _
    have hm6 : min R.length 6 < 1000 := by omega
    have Hbw := Lib.hid hbw
    clear hFA hbw
    obtain ⟨z0, z1, z2, z3, z4, z5, z6, z7, z8, z9, -⟩ := HB.out wx (Below.refl _ _)
    by_cases h0 : o < 0
    · have H29 := Lib.hid (used_bad _ _ _ _ _ _ _ _ _ _ _ _ _ _ _ _ o wx (HF.out wx (Below.refl _ _)) (by rw [hol]; omega))
      clear hol hrl
      go_wp2_with fail
      refine (H29.out).mono ?_
      rintro e2 w2 ⟨rfl, hb2⟩
      obtain ⟨y0, y1, y2, y3, y4, y5, y6, y7, y8, y9, -⟩ := HB.out w2 hb2
      go_wp2_with fail
      go_ret
      exact Ret.mk (Hbw.out.via hb2 Hbw.out.size)
    · by_cases h1 : (k : Int) ≤ o
      · have H29 := Lib.hid (used_bad _ _ _ _ _ _ _ _ _ _ _ _ _ _ _ _ o wx (HF.out wx (Below.refl _ _)) (by rw [hol]; omega))
        clear hol hrl
        go_wp2_with fail
        refine (H29.out).mono ?_
        rintro e2 w2 ⟨rfl, hb2⟩
        obtain ⟨y0, y1, y2, y3, y4, y5, y6, y7, y8, y9, -⟩ := HB.out w2 hb2
        go_wp2_with fail
        go_ret
        exact Ret.mk (Hbw.out.via hb2 Hbw.out.size)
      · have hgl : (guardsTo k D (min D.length 4)).length = min D.length 4 := guardsTo_len _ _ _
        have hvl : (ovsTo k O (min O.length 4)).length = min O.length 4 := ovsTo_len _ _ _
        have H29 := Lib.hid (used_ok _ _ _ _ _ _ _ _ _ _ _ _ _ _ _ _ o wx (HF.out wx (Below.refl _ _)) (by omega) (by rw [hol]; omega))
        rw [hgl, hvl] at H29
        have hD4 : min D.length 4 ≤ 4 := by omega
        have hO4 : min O.length 4 ≤ 4 := by omega
        generalize hG : guardsTo k D (min D.length 4) = gs at *
        generalize hV : ovsTo k O (min O.length 4) = os at *
        generalize hgm : min D.length 4 = gn at *
        generalize hom : min O.length 4 = on at *
        have Hgl := Lib.hid hgl
        have Hvl := Lib.hid hvl
        have HGl := Lib.hid (show ∀ g ∈ gs, g.2.length < 1000 from fun g hg => ((HF.out wx (Below.refl _ _)).ok.gsLit g hg).2)
        have HOl := Lib.hid (show ∀ g ∈ os, g.1.length < 1000 from fun g hg => ((HF.out wx (Below.refl _ _)).ok.osLit g hg).2)
        clear hol hrl hG hV hgm hom hgl hvl
        go_wp2_with fail
        refine (H29.out).mono ?_
        rintro e2 w2 ⟨gv, ov, rfl, hgi, hoi, hb2⟩
        obtain ⟨ga, gc, rfl, -, -⟩ := hgi.open
        obtain ⟨oa, oc, rfl, -, -⟩ := hoi.open
        have hml1 := mTo_len (gs.map (·.2)) o gn
        have hml2 := mTo_len (os.map (·.1)) o on
        have Hgi := Lib.hid hgi
        have Hoi := Lib.hid hoi
        have Hb2 := Lib.hid hb2
        have HNm := Lib.hid (fun w' ls v (hL : Lits w' v ls) (hl : ls.length < 1000) => mentions_any ls v o w' hL hl)
        generalize hm1 : (mTo (gs.map (·.2)) o gn).length = l1 at *
        generalize hm2 : (mTo (os.map (·.1)) o on).length = l2 at *
        have Hm1 := Lib.hid hm1
        have Hm2 := Lib.hid hm2
        clear hgi hoi hm1 hm2
        obtain ⟨y0, y1, y2, y3, y4, y5, y6, y7, y8, y9, -⟩ := HB.out w2 hb2
        clear hb2
        go_wp2_with fail
        go_loopw [9, 11] (fun v i wr => ∃ j : Nat, j ≤ gn ∧ i = .int .i64 j ∧ Below w2.heap.size w2 wr ∧ wr.ownsRow w2.heap.size 3 1 v (mTo (gs.map (·.2)) o j).length ((mTo (gs.map (·.2)) o j).map (Value.int .i64))) (fun _ i _ => gn - (intOf i).toNat)
        case atStart => exact ⟨0, Nat.zero_le _, rfl, Below.refl _ _, World.ownsRow_nil _ _ _ _⟩
        case round =>
          obtain ⟨j, hj, rfl, hbr, hown⟩ := hrel
          have hml := mTo_len (gs.map (·.2)) o j
          obtain ⟨x0, x1, x2, x3, x4, x5, x6, x7, x8, x9, -⟩ := HB.out wr (Hb2.out.via hbr Hb2.out.size)
          by_cases hlt : j < gn
          · obtain ⟨b, off, av, g, rfl, hg, g0, g1, hL⟩ := (HF.out wx (Below.refl _ _)).grd.at (Hb2.out.via hbr Hb2.out.size) hlt
            have hgl : (gs.map (·.2))[j]? = some g.2 := by rw [List.getElem?_map, hg]; rfl
            have Hs := Lib.hid (mTo_succ (o := o) hgl)
            have hlen := HGl.out g (List.mem_of_getElem? hg)
            obtain ⟨aa, ac, rfl, -, -⟩ := hL.open
            have HNq := Lib.hid (HNm.out wr g.2 _ hL hlen)
            have Hbr := Lib.hid hbr
            have Hown := Lib.hid hown
            generalize mentB g.2 o = mb at *
            generalize g.2.length = gl at *
            have hbrs := hbr.size
            clear hbr hown hL hgl hg
            cases mb
            · go_wp2_with (go_at_call 27; refine (HNq.out).mono ?_; rintro e w3 ⟨rfl, hb3⟩)
              go_roundw
              case rel => exact ⟨j + 1, by omega, by go_num, Hbr.out.via hb3 Hbr.out.size, by rw [Hs.out]; simpa using own_below Hown.out hb3⟩
              case measure => simp [intOf]; omega
            · go_wp2_with (first | (go_at_call 27; refine (HNq.out).mono ?_; rintro e w3 ⟨rfl, hb3⟩; have hown3 := own_below Hown.out hb3; have hbw3 := Hbr.out.via hb3 Hbr.out.size) | (at_builtin; refine wpApp E50 (by decide) [.int .i64 (j : Int)] rfl _ _ rfl w2.heap.size _ _ _ rfl rfl hown3 rfl (one1 _ rfl) (by omega) (by decide) hbw3.size ?_; intro v' w4 hown' hg'; have hbw4 := below_app hbw3 hown3 hg' hbw3.size))
              go_roundw
              case rel => exact ⟨j + 1, by omega, by go_num, hbw4, by rw [Hs.out]; simpa using hown'⟩
              case measure => simp [intOf]; omega
          · obtain rfl : j = gn := by omega
            have Hg9 := Lib.hid (show Ints wr u9 (mTo (gs.map (·.2)) o j) from Sl.own1 hown)
            have Hb23 := Lib.hid hbr
            have Hb3 := Lib.hid (Hb2.out.via hbr Hb2.out.size)
            clear hbr hown hml
            go_wp2_with fail
            rename World => wy
            go_loopw [10, 12] (fun v i wr => ∃ j : Nat, j ≤ on ∧ i = .int .i64 j ∧ Below wy.heap.size wy wr ∧ wr.ownsRow wy.heap.size 3 1 v (mTo (os.map (·.1)) o j).length ((mTo (os.map (·.1)) o j).map (Value.int .i64))) (fun _ i _ => on - (intOf i).toNat)
            case atStart => exact ⟨0, Nat.zero_le _, rfl, Below.refl _ _, World.ownsRow_nil _ _ _ _⟩
            case round =>
              obtain ⟨j', hj', rfl, hbr, hown⟩ := hrel
              have hml := mTo_len (os.map (·.1)) o j'
              obtain ⟨t0, t1, t2, t3, t4, t5, t6, t7, t8, t9, -⟩ := HB.out wr (Hb3.out.via hbr Hb3.out.size)
              by_cases hlt : j' < on
              · obtain ⟨b, off, av, g, rfl, hg, g0, g1, g2, g3, g4, g5, hL⟩ := (HF.out wx (Below.refl _ _)).ovr.at (Hb3.out.via hbr Hb3.out.size) hlt
                have hgl : (os.map (·.1))[j']? = some g.1 := by rw [List.getElem?_map, hg]; rfl
                have Hs := Lib.hid (mTo_succ (o := o) hgl)
                have hlen := HOl.out g (List.mem_of_getElem? hg)
                obtain ⟨aa, ac, rfl, -, -⟩ := hL.open
                have HNq := Lib.hid (HNm.out wr g.1 _ hL hlen)
                have Hbr := Lib.hid hbr
                have Hown := Lib.hid hown
                generalize mentB g.1 o = mb at *
                generalize g.1.length = gl at *
                have hbrs := hbr.size
                clear hbr hown hL hgl hg
                cases mb
                · go_wp2_with (go_at_call 27; refine (HNq.out).mono ?_; rintro e w3 ⟨rfl, hb3⟩)
                  go_roundw
                  case rel => exact ⟨j' + 1, by omega, by go_num, Hbr.out.via hb3 Hbr.out.size, by rw [Hs.out]; simpa using own_below Hown.out hb3⟩
                  case measure => simp [intOf]; omega
                · go_wp2_with (first | (go_at_call 27; refine (HNq.out).mono ?_; rintro e w3 ⟨rfl, hb3⟩; have hown3 := own_below Hown.out hb3; have hbw3 := Hbr.out.via hb3 Hbr.out.size) | (at_builtin; refine wpApp E50 (by decide) [.int .i64 (j' : Int)] rfl _ _ rfl wy.heap.size _ _ _ rfl rfl hown3 rfl (one1 _ rfl) (by omega) (by decide) hbw3.size ?_; intro v' w4 hown' hg'; have hbw4 := below_app hbw3 hown3 hg' hbw3.size))
                  go_roundw
                  case rel => exact ⟨j' + 1, by omega, by go_num, hbw4, by rw [Hs.out]; simpa using hown'⟩
                  case measure => simp [intOf]; omega
              · obtain rfl : j' = on := by omega
                have Ho10 := Lib.hid (show Ints wr u10 (mTo (os.map (·.1)) o j') from Sl.own1 hown)
                have Hbr := Lib.hid hbr
                clear hbr hown
                go_wp2_with fail
                refine (sameInts_any _ _ _ _ _ (by exact (Hgi.out.mono Hb23.out).mono Hbr.out) (by exact Hg9.out.mono Hbr.out) (by rw [Hm1.out]; omega)).mono ?_
                rintro e2 w5 ⟨rfl, hb5⟩
                rw [decide_eq_true rfl]
                go_wp2_with fail
                refine (sameInts_any _ _ _ _ _ (by exact ((Hoi.out.mono Hb23.out).mono Hbr.out).mono hb5) (by exact Ho10.out.mono hb5) (by rw [Hm2.out]; omega)).mono ?_
                rintro e2 w6 ⟨rfl, hb6⟩
                rw [decide_eq_true rfl]
                have hb7 := Hb3.out.via (Hbr.out.via (hb5.via hb6 hb5.size) Hbr.out.size) Hb3.out.size
                go_wp2_with fail
                go_ret
                exact Ret.mk (Hbw.out.via hb7 Hbw.out.size)

end Go.Proofs.Ytkphggmbimjhjaa
