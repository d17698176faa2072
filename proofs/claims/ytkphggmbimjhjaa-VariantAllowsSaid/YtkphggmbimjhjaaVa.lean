/-
  VariantAllows: the walk.
-/
import Derived.Test.YtkphggmbimjhjaaFat
import Derived.Test.YtkphggmbimjhjaaAll
import Derived.Test.YtkphggmbimjhjaaSame
import Derived.Test.YtkphggmbimjhjaaPc
import Derived.Deep.CutBlock
import Derived.Deep.DeepCutAuto
namespace Go.Proofs.Ytkphggmbimjhjaa
open Go.RowKit

theorem names_broken {k i : Nat} (hk : k ≤ 6) (hi : i < 2 ^ k) {rs : List Rule1} (hl : ∀ r ∈ rs, LitsOk k r.2) :
    cBroken (pCfg (optsTo k) (sel (fun o => setB (setN k i) o) (optsTo k)) (sel (fun o => setB (setN k i) o) (optsTo k)).length : Int) rs = mBroken (setN k i) (List.replicate rs.length false) rs := by
  obtain ⟨h1, h2⟩ := names_read k hk i hi
  rw [← p_broken (optsTo_len k) (by omega) h1 hl]
  exact mBroken_same h2 hl

theorem setsL_get {k i : Nat} (hi : i < 2 ^ k) : (setsL k)[i]? = some (setN k i) := by
  unfold setsL setsTo setN
  rw [List.getElem?_map, List.getElem?_range hi]; rfl
theorem setN_range {k : Nat} (hk : k ≤ 6) (i : Nat) : 0 ≤ setN k i ∧ setN k i < 4096 := by
  have h := revTo_lt k (2 ^ k - 1 - i) k
  have h2 : (2 : Nat) ^ k ≤ 2 ^ 6 := Nat.pow_le_pow_right (by omega) hk
  unfold setN rev
  omega
theorem sel_sub {α : Type} (p : Nat → Bool) (xs : List α) : ∀ x ∈ sel p xs, x ∈ xs := by
  unfold sel
  generalize 0 = k
  induction xs generalizing k with
  | nil => intro x hx; simp [selFrom] at hx
  | cons y ys ih =>
    intro x hx
    simp only [selFrom] at hx
    split at hx
    · rcases List.mem_cons.1 hx with rfl | h
      · simp
      · exact List.mem_cons_of_mem _ (ih _ _ h)
    · exact List.mem_cons_of_mem _ (ih _ _ hx)

set_option maxHeartbeats 8000000 in
set_option maxRecDepth 100000 in
theorem allows_any (N : Int) (R D O : List (List Int)) (a2 a3 a4 : Option Addr) (c2 c3 c4 : Nat) (a1 : Option Addr) (c : Nat) (ss : List ByteArray) (w : World) (h11 : Hid (∀ w, Calls Try.prog 11 #[] w (Ret (.bool true) w))) (hN0 : 0 ≤ N) (hN : N < 256)
    (hRr : ∀ r ∈ R, ∀ x ∈ r, -128 ≤ x ∧ x ≤ 127) (hDr : ∀ r ∈ D, ∀ x ∈ r, -128 ≤ x ∧ x ≤ 127) (hOr : ∀ r ∈ O, ∀ x ∈ r, -128 ≤ x ∧ x ≤ 127) (hR : M8 w (.slice a2 R.length c2) R) (hD : M8 w (.slice a3 D.length c3) D) (hO : M8 w (.slice a4 O.length c4) O) (hS : Strs w (.slice a1 ss.length c) ss) :
    Calls Try.prog 9 #[.agg #[.int .u8 N, .slice a2 R.length c2, .slice a3 D.length c3, .slice a4 O.length c4], .slice a1 ss.length c] w (Ret (.bool true) w) := by
  have HFa0 := Lib.hid (fun w2 ai ci ad cd (h2 : Below w.heap.size w w2) (hdim : Dims w2 (.slice ad 2 cd) baseDims) => family_any N R D O (.slice a2 R.length c2) (.slice a3 D.length c3) (.slice a4 O.length c4) ai ci ad cd w2 hN0 hN hRr hDr hOr (hR.mono h2) (hD.mono h2) (hO.mono h2) hdim)
  obtain ⟨k, Hk, hk1, hk6⟩ : ∃ k : Nat, Hid ((1 + N % 6).toNat = k) ∧ 1 ≤ k ∧ k ≤ 6 := ⟨_, Lib.hid rfl, by omega, by omega⟩
  rw [Hk.out] at HFa0
  clear hRr hDr hOr hR hD hO hN0 hN Hk
  generalize hn2 : R.length = n2 at *
  generalize hn3 : D.length = n3 at *
  generalize hn4 : O.length = n4 at *
  have Hn2 := Lib.hid hn2
  have Hn3 := Lib.hid hn3
  have Hn4 := Lib.hid hn4
  clear hn2 hn3 hn4
  have HS := Lib.hid hS
  obtain ⟨_, _, hq, _, hcap⟩ := hS.open
  cases hq
  generalize hsn : ss.length = n at *
  have Hsn := Lib.hid hsn
  unfold maxLen at hcap
  have HSw := Lib.hid (fun wr (h : Below w.heap.size w wr) j (hj : j < n) => hS.at h hj)
  clear hsn hS
  go_enter Try.func9, Try.ntmps9
  by_cases h8 : 8 < n
  · have h8d : (8 : Int) < (n : Int) := by omega
    have hbx := below1 w (.cells #[.int .u8 N, .slice a2 n2 c2, .slice a3 n3 c3, .slice a4 n4 c4] 24)
    go_wp2_with (go_at_call 11; refine (h11.out _).mono ?_; rintro e w1 ⟨rfl, hb1⟩; have hbx := hbx.via hb1 hbx.size)
    go_ret
    exact Ret.mk hbx
  · have h8d : ¬ (8 : Int) < (n : Int) := by omega
    go_wp2_with (go_at_call 11; refine (h11.out _).mono ?_; rintro e w1 ⟨rfl, hb1⟩)
    have Hb1 := Lib.hid (show Below (w.alloc (.cells #[.int .u8 N, .slice a2 n2 c2, .slice a3 n3 c3, .slice a4 n4 c4] 24)).heap.size (w.alloc (.cells #[.int .u8 N, .slice a2 n2 c2, .slice a3 n3 c3, .slice a4 n4 c4] 24)) w1 from hb1)
    clear hb1
    have Hbw1 := Lib.hid (show Below w.heap.size w w1 from (below1 w (.cells #[.int .u8 N, .slice a2 n2 c2, .slice a3 n3 c3, .slice a4 n4 c4] 24)).via Hb1.out (by simp))
    go_loopw [5] (fun i wr => ∃ j : Nat, j ≤ n ∧ i = .int .i64 j ∧ Below w1.heap.size w1 wr ∧ Hid (∀ s ∈ ss.take j, s.size ≤ 80)) (fun i _ => n - (intOf i).toNat)
    case atStart => exact ⟨0, Nat.zero_le _, rfl, Below.refl _ _, by intro s hs; simp at hs⟩
    case round =>
      obtain ⟨j, hj, rfl, hbr, hpre⟩ := hrel
      by_cases hlt : j < n
      · obtain ⟨b, off, s, rfl, hsk, c0⟩ := HSw.out wr (Hbw1.out.via hbr Hbw1.out.size) j hlt
        have Hsk := Lib.hid hsk
        clear hsk
        by_cases h80 : 80 < s.size
        · have h80d : (80 : Int) < (s.size : Int) := by omega
          go_wp2_with fail
          go_ret
          exact Ret.mk (Hbw1.out.via hbr Hbw1.out.size)
        · have h80d : ¬ (80 : Int) < (s.size : Int) := by omega
          go_wp2_with fail
          go_roundw
          case rel => exact ⟨j + 1, by omega, by go_num, hbr, take_succ_all hpre.out Hsk.out (by omega)⟩
          case measure => simp [intOf]; omega
      · obtain rfl : j = n := by omega
        have Hsz := Lib.hid (show ∀ s ∈ ss, s.size ≤ maxLen from fun s hs => by have := take_all hpre.out (by have := Hsn.out; omega) s hs; unfold maxLen; omega)
        have hbw1 := Hb1.out.via hbr Hb1.out.size
        have HbW := Lib.hid hbw1
        clear hbr hpre HSw hbw1
        go_upto_region 9 with fail
        go_cut [6] (fun s5 wx => ∃ B ai ci ad cd a7 c7 a8 c8 a9 c9 a10 c10, s5 = .pointer (some ⟨B, 0, none⟩) ∧ FamAt wx B k R D O ai ci ad cd a7 c7 a8 c8 a9 c9 a10 c10 ∧ Below w.heap.size w wx)
        case first =>
          have hb0 := below1 w (.cells #[.int .u8 N, .slice a2 n2 c2, .slice a3 n3 c3, .slice a4 n4 c4] 24)
          have hb1 := HbW.out
          have hbw : Below w.heap.size w wr := hb0.via hb1 hb0.size
          have Hkin := Lib.hid (fun w' (h : Below wr.heap.size wr w') => blk4 (((Blk.new w #[.int .u8 N, .slice a2 n2 c2, .slice a3 n3 c3, .slice a4 n4 c4] 24).below hb1).below h))
          have HFa := Lib.hid (fun w2 ai ci ad cd (h2 : Below wr.heap.size wr w2) hdim => HFa0.out w2 ai ci ad cd (hbw.via h2 hbw.size) hdim)
          refine wp_region_pop (S := (fun w' => w'.cell? ⟨w.heap.size, 0, none⟩ = some (.int .u8 N) ∧ w'.cell? ⟨w.heap.size, 1, none⟩ = some (.slice a2 n2 c2) ∧ w'.cell? ⟨w.heap.size, 2, none⟩ = some (.slice a3 n3 c3) ∧ w'.cell? ⟨w.heap.size, 3, none⟩ = some (.slice a4 n4 c4))) 4 (by kernel_rfl) (by kernel_rfl) (by exact Hkin.out wr.drew (Below.refl _ _).drew) (fun hHeld => ?_)
          simp only [List.take_succ_cons, List.take_zero, List.drop_succ_cons, List.drop_zero]
          refine wpAnyH_take (i := 0) (v := ?v1) rfl (by kernel_rfl) (by kernel_rfl) (by kernel_rfl) (fun _ _ _ h => h) (Or.inl ⟨by rfl, ?hy1⟩) (by assumption) ?rest1
          case hy1 => (intro w hSw; (try dsimp only at hSw); go_simp; try (with_reducible rfl))
          try simp only [Act.put, List.getElem_toArray, List.getElem_cons_zero, List.setIfInBounds_toArray, List.set_cons_zero, List.set_cons_succ]
          refine wpAnyH_ready (rs := [1, 3]) (by kernel_rfl) (by simp) ?_
          refine AllReadyH.cons rfl (fun K hK => ?_) (AllReadyH.cons rfl (fun K hK => ?_) AllReadyH.nil)
          · go_simp
            go_at_call 13
            refine (plain_any _).mono ?_
            rintro e w2 ⟨ai, ci, ad, cd, rfl, hdim, hfr, hb2⟩
            have Hdim := Lib.hid hdim
            have Hfr := Lib.hid hfr
            clear hdim hfr
            have Hb2 := Lib.hid (show Below wr.heap.size wr w2 from undrew hb2)
            have hk2 := Hkin.out w2 Hb2.out
            refine hK.out _ _ (by exact hk2) (fun hHeld => ?_)
            clear hK K
            try simp only [Act.put, List.setIfInBounds_toArray, List.set_cons_zero, List.set_cons_succ]
            refine wpAnyH_ready (rs := [2, 3]) (by kernel_rfl) (by simp) ?_
            refine AllReadyH.cons rfl (fun K hK => ?_) (AllReadyH.cons rfl (fun K hK => ?_) AllReadyH.nil)
            · go_simp
              go_at_call 12
              refine (HFa.out _ ai ci ad cd (by exact Hb2.out) (by exact Hdim.out)).mono ?_
              rintro e w3 ⟨a7, c7, a8, c8, a9, c9, a10, c10, rvk, rfl, hP⟩
              have HP := Lib.hid hP
              clear hP
              have Hb3 := Lib.hid (show Below wr.heap.size wr w3 from (Hb2.out).via HP.out.below (Hb2.out).size)
              have hk3 := Hkin.out w3 Hb3.out
              refine hK.out _ _ (by exact hk3) (fun hHeld => ?_)
              clear hK K
              try simp only [Act.put, List.setIfInBounds_toArray, List.set_cons_zero, List.set_cons_succ]
              refine wpAnyH_ready (rs := [3]) (by kernel_rfl) (by simp) ?_
              refine AllReadyH.cons rfl (fun K hK => ?_) AllReadyH.nil
              go_simp
              refine hK.out _ _ (by exact Hkin.out _ (Hb3.out.alloc Hb3.out.size _)) (fun hHeld => ?_)
              clear hK K
              try simp only [Act.put, List.setIfInBounds_toArray, List.set_cons_zero, List.set_cons_succ]
              refine wpAnyH_done (by kernel_rfl) ?_ _
              simp only [Exit.then]
              go_wp2_with fail
              go_meet
              exact ⟨_, ai, ci, ad, cd, a7, c7, a8, c8, a9, c9, a10, c10, rfl, famAt_new HP.out hk6 Hdim.out, (hbw.via Hb3.out hbw.size).alloc (by have := hbw.size; have := Hb3.out.size; omega) _⟩
            · go_simp
              have HZ := Lib.hid (Blk.new w2 #[.string ⟨#[]⟩, .slice none 0 0, .slice none 0 0, .slice none 0 0, .slice none 0 0, .slice none 0 0, .slice none 0 0, .slice none 0 0, .slice none 0 0, .slice none 0 0] 41)
              refine hK.out _ _ (by exact Hkin.out _ (Hb2.out.alloc Hb2.out.size _)) (fun hHeld => ?_)
              clear hK K
              try simp only [Act.put, List.setIfInBounds_toArray, List.set_cons_zero, List.set_cons_succ]
              refine wpAnyH_ready (rs := [2]) (by kernel_rfl) (by simp) ?_
              refine AllReadyH.cons rfl (fun K hK => ?_) AllReadyH.nil
              go_simp
              go_at_call 12
              refine (HFa.out _ ai ci ad cd (by exact (Hb2.out.alloc Hb2.out.size _)) (by exact (Hdim.out.mono (below1 _ _)))).mono ?_
              rintro e w3 ⟨a7, c7, a8, c8, a9, c9, a10, c10, rvk, rfl, hP⟩
              have HP := Lib.hid hP
              clear hP
              have Hb3 := Lib.hid (show Below wr.heap.size wr w3 from ((Hb2.out.alloc Hb2.out.size _)).via HP.out.below ((Hb2.out.alloc Hb2.out.size _)).size)
              have hk3 := Hkin.out w3 Hb3.out
              refine hK.out _ _ (by exact hk3) (fun hHeld => ?_)
              clear hK K
              try simp only [Act.put, List.setIfInBounds_toArray, List.set_cons_zero, List.set_cons_succ]
              refine wpAnyH_done (by kernel_rfl) ?_ _
              simp only [Exit.then]
              have HZ3 := Lib.hid (HZ.out.below HP.out.below)
              obtain ⟨z0, z1, z2, z3, z4, z5, z6, z7, z8, z9, r0, r1, r2, r3, r4, r5, r6, r7, r8, r9⟩ := blk10 HZ3.out
              go_wp2_with fail
              go_meet
              exact ⟨_, ai, ci, ad, cd, a7, c7, a8, c8, a9, c9, a10, c10, rfl, famAt_store HP.out hk6 HZ3.out (by simp) (Hdim.out.mono (below1 _ _)) (fun b hb => by have := dims_lt Hdim.out b hb; omega), below_set10 (hbw.via Hb3.out hbw.size) (by have := hbw.size; have := Hb2.out.size; omega) _ _ _ _ _ _ _ _ _ _⟩
          · go_simp
            have HZ1 := Lib.hid (Blk.new wr #[.string ⟨#[]⟩, .slice none 0 0, .slice none 0 0, .slice none 0 0, .slice none 0 0, .slice none 0 0, .slice none 0 0, .slice none 0 0, .slice none 0 0, .slice none 0 0] 41)
            refine hK.out _ _ (by exact Hkin.out _ ((below1 wr _).dn 1)) (fun hHeld => ?_)
            clear hK K
            try simp only [Act.put, List.setIfInBounds_toArray, List.set_cons_zero, List.set_cons_succ]
            refine wpAnyH_ready (rs := [1]) (by kernel_rfl) (by simp) ?_
            refine AllReadyH.cons rfl (fun K hK => ?_) AllReadyH.nil
            go_simp
            go_at_call 13
            refine (plain_any _).mono ?_
            rintro e w2 ⟨ai, ci, ad, cd, rfl, hdim, hfr, hb2⟩
            have Hdim := Lib.hid hdim
            have Hfr := Lib.hid hfr
            clear hdim hfr
            have Hb2 := Lib.hid (show Below wr.heap.size wr w2 from (below1 wr _).via (undrew hb2) (by simp))
            have hk2 := Hkin.out w2 Hb2.out
            refine hK.out _ _ (by exact hk2) (fun hHeld => ?_)
            clear hK K
            try simp only [Act.put, List.setIfInBounds_toArray, List.set_cons_zero, List.set_cons_succ]
            have HZ := Lib.hid (HZ1.out.below (undrew hb2))
            refine wpAnyH_ready (rs := [2]) (by kernel_rfl) (by simp) ?_
            refine AllReadyH.cons rfl (fun K hK => ?_) AllReadyH.nil
            go_simp
            go_at_call 12
            refine (HFa.out _ ai ci ad cd (by exact Hb2.out) (by exact Hdim.out)).mono ?_
            rintro e w3 ⟨a7, c7, a8, c8, a9, c9, a10, c10, rvk, rfl, hP⟩
            have HP := Lib.hid hP
            clear hP
            have Hb3 := Lib.hid (show Below wr.heap.size wr w3 from (Hb2.out).via HP.out.below (Hb2.out).size)
            have hk3 := Hkin.out w3 Hb3.out
            refine hK.out _ _ (by exact hk3) (fun hHeld => ?_)
            clear hK K
            try simp only [Act.put, List.setIfInBounds_toArray, List.set_cons_zero, List.set_cons_succ]
            refine wpAnyH_done (by kernel_rfl) ?_ _
            simp only [Exit.then]
            have HZ3 := Lib.hid (HZ.out.below HP.out.below)
            obtain ⟨z0, z1, z2, z3, z4, z5, z6, z7, z8, z9, r0, r1, r2, r3, r4, r5, r6, r7, r8, r9⟩ := blk10 HZ3.out
            go_wp2_with fail
            go_meet
            exact ⟨_, ai, ci, ad, cd, a7, c7, a8, c8, a9, c9, a10, c10, rfl, famAt_store HP.out hk6 HZ3.out (by exact HZ.out.lt) Hdim.out (fun b hb => by have := Hfr.out b hb; simp at this; omega), below_set10 (hbw.via Hb3.out hbw.size) (by have := hbw.size; omega) _ _ _ _ _ _ _ _ _ _⟩
        case rest =>
          obtain ⟨B, ai, ci, ad, cd, a7, c7, a8, c8, a9, c9, a10, c10, rfl, hFA, hbw⟩ := hcut
          rename World => wx
          have HB := Lib.hid (fun w' (h : Below wx.heap.size wx w') => blk10 (hFA.blk.below h))
          have HF := Lib.hid (fun w' (h : Below wx.heap.size wx w') => hFA.fam.mono h)
          have HBc := Lib.hid (fun w' (h : Below wx.heap.size wx w') => (blk10c (HB.out w' h)))
          have hol : (optsTo k).length = k := optsTo_len k
          have hrl : (rulesTo k R (min R.length 6)).length = min R.length 6 := rulesTo_len _ _ _
          have hm6 : min R.length 6 < 1000 := by omega
          have Hbw := Lib.hid hbw
          clear hFA hbw
          have HSx := Lib.hid (fun w' (h : Below wx.heap.size wx w') => HS.out.mono (Hbw.out.via h Hbw.out.size))
          have Hlit := Lib.hid (show ∀ r ∈ rulesTo k R (min R.length 6), LitsOk k r.2 from rulesTo_lits)
          have HNB := Lib.hid (fun (i : Nat) (hi : i < 2 ^ k) => names_broken hk6 hi Hlit.out)
          have HNR := Lib.hid (fun (i : Nat) (hi : i < 2 ^ k) => (names_read k hk6 i hi).1)
          have HPB := Lib.hid (fun (h : pErr (optsTo k) ss = 0) => p_broken (optsTo_len k) (show k ≤ 12 by omega) h Hlit.out)
          rw [hrl] at HNB HPB
          have hps := pSet_lt (optsTo k) ss 12 (by omega) (by rw [hol]; omega) ss.length
          rw [Hsn.out] at hps HPB
          have hm66 : min R.length 6 ≤ 6 := Nat.min_le_right _ _
          have H30 := Lib.hid (fun w' (h : Below wx.heap.size wx w') => parse_any baseS nilV (.slice ai 3 ci) (.slice ad 2 cd) nilV nilV (.slice a7 k c7) (.slice a8 (min R.length 6) c8) (.slice a9 (min D.length 4) c9) (.slice a10 (min O.length 4) c10) (.slice a1 j c) (optsTo k) ss w' (HF.out w' h).opt (HSx.out w' h) (by rw [hol]; omega) (by rw [Hsn.out]; omega))
          have H31 := Lib.hid (fun w' (h : Below wx.heap.size wx w') on sv (hsv : Strs w' sv on) (hl : on.length < 1000) (hz : ∀ o ∈ on, o.size ≤ maxLen) X E hE hX hB => allow_any _ _ _ _ _ _ _ _ _ _ sv (optsTo k) on _ _ _ _ _ w' (HF.out w' h) hsv hl hz X E hE hX hB)
          have H32 := Lib.hid (fun w' ov s (h : Below wx.heap.size wx w') (ho : Bools w' ov (List.replicate (min R.length 6) false)) (h1 : 0 ≤ s) (h2 : s < 4096) => broken_any s baseS nilV (.slice ai 3 ci) (.slice ad 2 cd) nilV nilV (.slice a7 k c7) (.slice a8 (min R.length 6) c8) (.slice a9 (min D.length 4) c9) (.slice a10 (min O.length 4) c10) ov (rulesTo k R (min R.length 6)) (List.replicate (min R.length 6) false) w' (HF.out w' h).rul ho (rulesOk_of (HF.out w' h).ok) (by rw [List.length_replicate, hrl]) (by omega) h1 h2)
          have H20 := Lib.hid (fun w' s (h : Below wx.heap.size wx w') (h1 : 0 ≤ s) (h2 : s < 4096) => names20 s baseS nilV (.slice ai 3 ci) (.slice ad 2 cd) nilV nilV (.slice a7 k c7) (.slice a8 (min R.length 6) c8) (.slice a9 (min D.length 4) c9) (.slice a10 (min O.length 4) c10) (optsTo k) w' (HF.out w' h).opt (by rw [hol]; omega) h1 h2)
          have HON := Lib.hid (show ∀ o ∈ optsTo k, o.size ≤ maxLen from fun o ho => maxLen_name ((HF.out wx (Below.refl _ _)).ok.optName o ho))
          have hsl := sel_len (α := ByteArray) (xs := optsTo k)
          rw [hol] at hsl
          have Hsl := Lib.hid hsl
          rw [Hsn.out] at H30
          obtain ⟨E, HE⟩ : ∃ E, Hid (pErr (optsTo k) ss = E) := ⟨_, rfl⟩
          rw [HE.out] at H30 HPB
          obtain ⟨S0, HS0⟩ : ∃ S0 : Int, Hid ((pSet (optsTo k) ss j : Int) = S0) := ⟨_, rfl⟩
          have hs0 : 0 ≤ S0 := by rw [← HS0.out]; omega
          have hs1 : S0 < 4096 := by rw [← HS0.out]; omega
          rw [HS0.out] at H30 HPB
          generalize rulesTo k R (min R.length 6) = RS at *
          generalize min R.length 6 = m at *
          clear hrl hol hsl hps
          obtain ⟨z0, z1, z2, z3, z4, z5, z6, z7, z8, z9, -⟩ := HB.out wx (Below.refl _ _)
          by_cases hE : E = 0
          · subst hE
            obtain ⟨X, HX⟩ : ∃ X, Hid (cBroken (pCfg (optsTo k) ss j : Int) RS = X) := ⟨_, rfl⟩
            have HPX := Lib.hid ((HPB.out rfl).trans HX.out)
            have H31b := Lib.hid (fun w' (h : Below wx.heap.size wx w') => H31.out w' h ss (.slice a1 j c) (HSx.out w' h) (by rw [Hsn.out]; omega) Hsz.out X 0 HE.out (fun _ => by rw [Hsn.out]; exact HX.out) (fun h => absurd rfl h))
            simp only [if_true] at H30 H31b
            go_wp2_with (first | (go_at_call 30; refine (H30.out _ (Below.refl _ _)).mono ?_; rintro e w2 ⟨rfl, hb2⟩; obtain ⟨y0, y1, y2, y3, y4, y5, y6, y7, y8, y9, -⟩ := HB.out w2 hb2) | (go_at_call 31; refine (H31b.out _ hb2).mono ?_; rintro e w3 ⟨rfl, hb3⟩))
            have Hb3 := Lib.hid (hb2.via hb3 hb2.size)
            clear hb2 hb3 y0 y1 y2 y3 y4 y5 y6 y7 y8 y9 z0 z1 z2 z3 z4 z5 z6 z7 z8 z9
            have HBx := Lib.hid (fun w' (h : Below w3.heap.size w3 w') => HBc.out w' (Hb3.out.via h Hb3.out.size))
            refine wp_region_held_drew (S := (fun w' => w'.cell? ⟨B, 0, none⟩ = some baseS ∧ w'.cell? ⟨B, 1, none⟩ = some nilV ∧ w'.cell? ⟨B, 2, none⟩ = some (.slice ai 3 ci) ∧ w'.cell? ⟨B, 3, none⟩ = some (.slice ad 2 cd) ∧ w'.cell? ⟨B, 4, none⟩ = some nilV ∧ w'.cell? ⟨B, 5, none⟩ = some nilV ∧ w'.cell? ⟨B, 6, none⟩ = some (.slice a7 k c7) ∧ w'.cell? ⟨B, 7, none⟩ = some (.slice a8 m c8) ∧ w'.cell? ⟨B, 8, none⟩ = some (.slice a9 (min D.length 4) c9) ∧ w'.cell? ⟨B, 9, none⟩ = some (.slice a10 (min O.length 4) c10))) (by kernel_rfl) (by exact HBx.out _ (Below.refl _ _).drew) (fun hHeld => ?_)
            refine wpAnyH_take (i := 0) (v := ?v2) rfl (by kernel_rfl) (by kernel_rfl) (by kernel_rfl) (fun _ _ _ h => h) (Or.inl ⟨by rfl, ?hy2⟩) (by assumption) ?rest2
            case hy2 => (intro w hSw; (try dsimp only at hSw); go_simp; try (with_reducible rfl))
            try simp only [Act.put, List.getElem_toArray, List.getElem_cons_zero, List.setIfInBounds_toArray, List.set_cons_zero, List.set_cons_succ]
            refine wpAnyH_take (i := 1) (v := ?v3) rfl (by kernel_rfl) (by kernel_rfl) (by kernel_rfl) (fun _ _ _ h => h) (Or.inl ⟨by rfl, ?hy3⟩) (by assumption) ?rest3
            case hy3 => (intro w hSw; (try dsimp only at hSw); go_simp; try (with_reducible rfl))
            try simp only [Act.put, List.getElem_toArray, List.getElem_cons_zero, List.getElem_cons_succ, List.setIfInBounds_toArray, List.set_cons_zero, List.set_cons_succ]
            refine wpAnyH_take (i := 3) (v := ?v4) rfl (by kernel_rfl) (by kernel_rfl) (by kernel_rfl) (fun _ _ _ h => h) (Or.inl ⟨by rfl, ?hy4⟩) (by assumption) ?rest4
            case hy4 => (intro w hSw; (try dsimp only at hSw); go_simp; try (with_reducible rfl))
            try simp only [Act.put, List.getElem_toArray, List.getElem_cons_zero, List.getElem_cons_succ, List.setIfInBounds_toArray, List.set_cons_zero, List.set_cons_succ]
            refine wpAnyH_ready (rs := [2]) (by kernel_rfl) (by simp) ?_
            refine AllReadyH.cons rfl (fun K hK => ?_) AllReadyH.nil
            go_simp
            go_at_call 18
            refine (none_any _ _ _ _ _ _ _ _ _ _ _ _ _ (by omega)).mono ?_
            rintro e2 w5 ⟨ov, rfl, hbo, hb5⟩
            obtain ⟨ao, co, rfl, -, -⟩ := hbo.open
            rw [List.length_replicate] at hbo
            have Hbo := Lib.hid hbo
            have Hb5 := Lib.hid (show Below wx.heap.size wx w5 from Hb3.out.via (undrew hb5) Hb3.out.size)
            have Hb54 := Lib.hid (undrew hb5)
            clear hbo hb5
            refine hK.out _ _ (by exact HBx.out _ Hb54.out) (fun hHeld => ?_)
            clear hK K
            try simp only [Act.put, List.setIfInBounds_toArray, List.set_cons_zero, List.set_cons_succ]
            refine wpAnyH_ready (rs := [4]) (by kernel_rfl) (by simp) ?_
            refine AllReadyH.cons rfl (fun K hK => ?_) AllReadyH.nil
            go_simp
            go_at_call 32
            refine (H32.out _ _ S0 Hb5.out Hbo.out hs0 hs1).mono ?_
            rintro e2 w6 ⟨rfl, hb6⟩
            rw [HPX.out]
            have Hb6 := Lib.hid (show Below wx.heap.size wx w6 from Hb5.out.via hb6 Hb5.out.size)
            have Hb64 := Lib.hid (show Below w3.heap.size w3 w6 from Hb54.out.via hb6 Hb54.out.size)
            clear hb6
            refine hK.out _ _ (by exact HBx.out _ Hb64.out) (fun hHeld => ?_)
            clear hK K
            try simp only [Act.put, List.setIfInBounds_toArray, List.set_cons_zero, List.set_cons_succ]
            refine wpAnyH_take (i := 5) (v := ?v5) rfl (by kernel_rfl) (by kernel_rfl) (by kernel_rfl) (fun _ _ _ h => h) (Or.inl ⟨by rfl, ?hy5⟩) (by assumption) ?rest5
            case hy5 => (intro w hSw; (try dsimp only at hSw); go_simp; try (with_reducible rfl))
            try simp only [Act.put, List.getElem_toArray, List.getElem_cons_zero, List.getElem_cons_succ, List.setIfInBounds_toArray, List.set_cons_zero, List.set_cons_succ]
            refine wpAnyH_done (by kernel_rfl) ?_ _
            simp only [Exit.then]
            have hX1 : (decide (X < 0) != decide (X < 0)) = false := by simp
            have hX2 : (X != X) = false := by simp
            clear H30 H31b HPX HX HPB hs0 hs1
            obtain ⟨y0, y1, y2, y3, y4, y5, y6, y7, y8, y9, -⟩ := HB.out w6 Hb6.out
            obtain ⟨N2, hN2⟩ : ∃ N2, 2 ^ k = N2 := ⟨_, rfl⟩
            have HN2 := Lib.hid hN2
            rw [hN2] at HNB HNR
            have hN264 : N2 ≤ 64 := by rw [← hN2]; exact Nat.pow_le_pow_right (show 0 < 2 by omega) hk6
            have H33 := Lib.hid (fun w' => sets_any k w' hk6)
            clear hN2
            go_wp2_with (go_at_call 33; refine (H33.out _).mono ?_; rintro e w7 ⟨sv, rfl, hsv, hb7⟩; obtain ⟨sa, sc, rfl, -, -⟩ := hsv.open; rw [setsL_len, HN2.out] at hsv; rw [setsL_len, HN2.out]; have HSV := Lib.hid hsv)
            have Hb7 := Lib.hid (Hb6.out.via hb7 Hb6.out.size)
            clear hb7 hsv y0 y1 y2 y3 y4 y5 y6 y7 y8 y9 H33
            go_loopw [14, 15, 16, 17, 18] (fun i u15 u16 u17 u18 wr => ∃ j : Nat, j ≤ N2 ∧ i = .int .i64 j ∧ Below w7.heap.size w7 wr) (fun i _ _ _ _ _ => N2 - (intOf i).toNat)
            case atStart => exact ⟨0, Nat.zero_le _, rfl, Below.refl _ _⟩
            case round =>
              obtain ⟨i, hi, rfl, hbr⟩ := hrel
              by_cases hlt2 : i < N2
              · obtain ⟨sb, so, x, rfl, hx, s0⟩ := (show Ints w7 (.slice sa N2 sc) (setsL k) from HSV.out).at hbr hlt2
                have hxx : x = setN k i := by rw [setsL_get (by rw [HN2.out]; exact hlt2)] at hx; exact (Option.some.inj hx).symm
                have hx0 : 0 ≤ x := by rw [hxx]; exact (setN_range hk6 i).1
                have hx1 : x < 4096 := by rw [hxx]; exact (setN_range hk6 i).2
                have HNBi := Lib.hid (HNB.out i hlt2)
                have HNRi := Lib.hid (HNR.out i hlt2)
                rw [← hxx] at HNBi HNRi
                clear hx hxx
                obtain ⟨Y, HY⟩ : ∃ Y, Hid (mBroken x (List.replicate m false) RS = Y) := ⟨_, rfl⟩
                rw [HY.out] at HNBi
                have hsb := World.block_lt_of_cell? _ _ s0
                have Hbr := Lib.hid (Hb7.out.via hbr Hb7.out.size)
                have Hbr7 := Lib.hid hbr
                have HBy := Lib.hid (fun w' (h : Below wr.heap.size wr w') => And.intro (HBc.out w' (Hbr.out.via h Hbr.out.size)) ((h.cell (p := ⟨sb, so + i, none⟩) hsb).trans s0))
                have hii0 : (0 : Int) ≤ (i : Int) := Int.natCast_nonneg _
                have hii1 : (i : Int) < (N2 : Int) := by omega
                clear hbr
                go_wp2_with fail
                refine wp_region_held_drew (S := (fun w' => (w'.cell? ⟨B, 0, none⟩ = some baseS ∧ w'.cell? ⟨B, 1, none⟩ = some nilV ∧ w'.cell? ⟨B, 2, none⟩ = some (.slice ai 3 ci) ∧ w'.cell? ⟨B, 3, none⟩ = some (.slice ad 2 cd) ∧ w'.cell? ⟨B, 4, none⟩ = some nilV ∧ w'.cell? ⟨B, 5, none⟩ = some nilV ∧ w'.cell? ⟨B, 6, none⟩ = some (.slice a7 k c7) ∧ w'.cell? ⟨B, 7, none⟩ = some (.slice a8 m c8) ∧ w'.cell? ⟨B, 8, none⟩ = some (.slice a9 (min D.length 4) c9) ∧ w'.cell? ⟨B, 9, none⟩ = some (.slice a10 (min O.length 4) c10)) ∧ w'.cell? ⟨sb, so + i, none⟩ = some (.int .i64 x))) (by kernel_rfl) (by exact HBy.out _ (Below.refl _ _).drew) (fun hHeld => ?_)
                refine wpAnyH_take (i := 0) (v := ?v6) rfl (by kernel_rfl) (by kernel_rfl) (by kernel_rfl) (fun _ _ _ h => h) (Or.inl ⟨by rfl, ?hy6⟩) (by assumption) ?rest6
                case hy6 => (intro w hSw; (try dsimp only at hSw); go_simp; try (with_reducible rfl))
                try simp only [Act.put, List.getElem_toArray, List.getElem_cons_zero, List.setIfInBounds_toArray, List.set_cons_zero, List.set_cons_succ]
                refine wpAnyH_take (i := 1) (v := ?v7) rfl (by kernel_rfl) (by kernel_rfl) (by kernel_rfl) (fun _ _ _ h => h) (Or.inl ⟨by rfl, ?hy7⟩) (by assumption) ?rest7
                case hy7 => (intro w hSw; (try dsimp only at hSw); go_simp; try (with_reducible rfl))
                try simp only [Act.put, List.getElem_toArray, List.getElem_cons_zero, List.getElem_cons_succ, List.setIfInBounds_toArray, List.set_cons_zero, List.set_cons_succ]
                refine wpAnyH_take (i := 3) (v := ?v8) rfl (by kernel_rfl) (by kernel_rfl) (by kernel_rfl) (fun _ _ _ h => h) (Or.inl ⟨by rfl, ?hy8⟩) (by assumption) ?rest8
                case hy8 => (intro w hSw; (try dsimp only at hSw); go_simp; try (with_reducible rfl))
                try simp only [Act.put, List.getElem_toArray, List.getElem_cons_zero, List.getElem_cons_succ, List.setIfInBounds_toArray, List.set_cons_zero, List.set_cons_succ]
                refine wpAnyH_take (i := 4) (v := ?v9) rfl (by kernel_rfl) (by kernel_rfl) (by kernel_rfl) (fun _ _ _ h => h) (Or.inl ⟨by rfl, ?hy9⟩) (by assumption) ?rest9
                case hy9 => (intro w hSw; (try dsimp only at hSw); go_simp; try (with_reducible rfl))
                try simp only [Act.put, List.getElem_toArray, List.getElem_cons_zero, List.getElem_cons_succ, List.setIfInBounds_toArray, List.set_cons_zero, List.set_cons_succ]
                refine wpAnyH_take (i := 5) (v := ?v10) rfl (by kernel_rfl) (by kernel_rfl) (by kernel_rfl) (fun _ _ _ h => h) (Or.inl ⟨by rfl, ?hy10⟩) (by assumption) ?rest10
                case hy10 => (intro w hSw; (try dsimp only at hSw); go_simp; try (with_reducible rfl))
                try simp only [Act.put, List.getElem_toArray, List.getElem_cons_zero, List.getElem_cons_succ, List.setIfInBounds_toArray, List.set_cons_zero, List.set_cons_succ]
                refine wpAnyH_take (i := 6) (v := ?v11) rfl (by kernel_rfl) (by kernel_rfl) (by kernel_rfl) (fun _ _ _ h => h) (Or.inl ⟨by rfl, ?hy11⟩) (by assumption) ?rest11
                case hy11 => (intro w hSw; (try dsimp only at hSw); go_simp; try (with_reducible rfl))
                try simp only [Act.put, List.getElem_toArray, List.getElem_cons_zero, List.getElem_cons_succ, List.setIfInBounds_toArray, List.set_cons_zero, List.set_cons_succ]
                refine wpAnyH_ready (rs := [2]) (by kernel_rfl) (by simp) ?_
                refine AllReadyH.cons rfl (fun K hK => ?_) AllReadyH.nil
                go_simp
                go_at_call 18
                refine (none_any _ _ _ _ _ _ _ _ _ _ _ _ _ (by omega)).mono ?_
                rintro e2 w5 ⟨ov, rfl, hbo, hb5⟩
                obtain ⟨ao, co, rfl, -, -⟩ := hbo.open
                rw [List.length_replicate] at hbo
                have Hbo := Lib.hid hbo
                have Hb5 := Lib.hid (show Below wx.heap.size wx w5 from Hbr.out.via (undrew hb5) Hbr.out.size)
                have Hb54 := Lib.hid (undrew hb5)
                clear hbo hb5
                refine hK.out _ _ (by exact HBy.out _ Hb54.out) (fun hHeld => ?_)
                clear hK K
                try simp only [Act.put, List.setIfInBounds_toArray, List.set_cons_zero, List.set_cons_succ]
                refine wpAnyH_ready (rs := [7]) (by kernel_rfl) (by simp) ?_
                refine AllReadyH.cons rfl (fun K hK => ?_) AllReadyH.nil
                go_simp
                go_at_call 32
                refine (H32.out _ _ x Hb5.out Hbo.out hx0 hx1).mono ?_
                rintro e2 w6 ⟨rfl, hb6⟩
                rw [HY.out]
                have Hb6 := Lib.hid (show Below wx.heap.size wx w6 from Hb5.out.via hb6 Hb5.out.size)
                have Hb64 := Lib.hid (show Below wr.heap.size wr w6 from Hb54.out.via hb6 Hb54.out.size)
                clear hb6
                refine hK.out _ _ (by exact HBy.out _ Hb64.out) (fun hHeld => ?_)
                clear hK K
                try simp only [Act.put, List.setIfInBounds_toArray, List.set_cons_zero, List.set_cons_succ]
                refine wpAnyH_take (i := 8) (v := ?v12) rfl (by kernel_rfl) (by kernel_rfl) (by kernel_rfl) (fun _ _ _ h => h) (Or.inl ⟨by rfl, ?hy12⟩) (by assumption) ?rest12
                case hy12 => (intro w hSw; (try dsimp only at hSw); go_simp; try (with_reducible rfl))
                try simp only [Act.put, List.getElem_toArray, List.getElem_cons_zero, List.getElem_cons_succ, List.setIfInBounds_toArray, List.set_cons_zero, List.set_cons_succ]
                refine wpAnyH_done (by kernel_rfl) ?_ _
                simp only [Exit.then]
                have HBz := Lib.hid (fun w' (h : Below w6.heap.size w6 w') => HBy.out w' (Hb64.out.via h Hb64.out.size))
                go_wp2_with fail
                refine wp_region_held_drew (S := (fun w' => (w'.cell? ⟨B, 0, none⟩ = some baseS ∧ w'.cell? ⟨B, 1, none⟩ = some nilV ∧ w'.cell? ⟨B, 2, none⟩ = some (.slice ai 3 ci) ∧ w'.cell? ⟨B, 3, none⟩ = some (.slice ad 2 cd) ∧ w'.cell? ⟨B, 4, none⟩ = some nilV ∧ w'.cell? ⟨B, 5, none⟩ = some nilV ∧ w'.cell? ⟨B, 6, none⟩ = some (.slice a7 k c7) ∧ w'.cell? ⟨B, 7, none⟩ = some (.slice a8 m c8) ∧ w'.cell? ⟨B, 8, none⟩ = some (.slice a9 (min D.length 4) c9) ∧ w'.cell? ⟨B, 9, none⟩ = some (.slice a10 (min O.length 4) c10)) ∧ w'.cell? ⟨sb, so + i, none⟩ = some (.int .i64 x))) (by kernel_rfl) (by exact HBz.out _ (Below.refl _ _).drew) (fun hHeld => ?_)
                refine wpAnyH_take (i := 0) (v := ?v13) rfl (by kernel_rfl) (by kernel_rfl) (by kernel_rfl) (fun _ _ _ h => h) (Or.inl ⟨by rfl, ?hy13⟩) (by assumption) ?rest13
                case hy13 => (intro w hSw; (try dsimp only at hSw); go_simp; try (with_reducible rfl))
                try simp only [Act.put, List.getElem_toArray, List.getElem_cons_zero, List.setIfInBounds_toArray, List.set_cons_zero, List.set_cons_succ]
                refine wpAnyH_take (i := 1) (v := ?v14) rfl (by kernel_rfl) (by kernel_rfl) (by kernel_rfl) (fun _ _ _ h => h) (Or.inl ⟨by rfl, ?hy14⟩) (by assumption) ?rest14
                case hy14 => (intro w hSw; (try dsimp only at hSw); go_simp; try (with_reducible rfl))
                try simp only [Act.put, List.getElem_toArray, List.getElem_cons_zero, List.getElem_cons_succ, List.setIfInBounds_toArray, List.set_cons_zero, List.set_cons_succ]
                refine wpAnyH_take (i := 2) (v := ?v15) rfl (by kernel_rfl) (by kernel_rfl) (by kernel_rfl) (fun _ _ _ h => h) (Or.inl ⟨by rfl, ?hy15⟩) (by assumption) ?rest15
                case hy15 => (intro w hSw; (try dsimp only at hSw); go_simp; try (with_reducible rfl))
                try simp only [Act.put, List.getElem_toArray, List.getElem_cons_zero, List.getElem_cons_succ, List.setIfInBounds_toArray, List.set_cons_zero, List.set_cons_succ]
                refine wpAnyH_take (i := 3) (v := ?v16) rfl (by kernel_rfl) (by kernel_rfl) (by kernel_rfl) (fun _ _ _ h => h) (Or.inl ⟨by rfl, ?hy16⟩) (by assumption) ?rest16
                case hy16 => (intro w hSw; (try dsimp only at hSw); go_simp; try (with_reducible rfl))
                try simp only [Act.put, List.getElem_toArray, List.getElem_cons_zero, List.getElem_cons_succ, List.setIfInBounds_toArray, List.set_cons_zero, List.set_cons_succ]
                refine wpAnyH_take (i := 4) (v := ?v17) rfl (by kernel_rfl) (by kernel_rfl) (by kernel_rfl) (fun _ _ _ h => h) (Or.inl ⟨by rfl, ?hy17⟩) (by assumption) ?rest17
                case hy17 => (intro w hSw; (try dsimp only at hSw); go_simp; try (with_reducible rfl))
                try simp only [Act.put, List.getElem_toArray, List.getElem_cons_zero, List.getElem_cons_succ, List.setIfInBounds_toArray, List.set_cons_zero, List.set_cons_succ]
                refine wpAnyH_take (i := 5) (v := ?v18) rfl (by kernel_rfl) (by kernel_rfl) (by kernel_rfl) (fun _ _ _ h => h) (Or.inl ⟨by rfl, ?hy18⟩) (by assumption) ?rest18
                case hy18 => (intro w hSw; (try dsimp only at hSw); go_simp; try (with_reducible rfl))
                try simp only [Act.put, List.getElem_toArray, List.getElem_cons_zero, List.getElem_cons_succ, List.setIfInBounds_toArray, List.set_cons_zero, List.set_cons_succ]
                refine wpAnyH_ready (rs := [6]) (by kernel_rfl) (by simp) ?_
                refine AllReadyH.cons rfl (fun K hK => ?_) AllReadyH.nil
                go_simp
                go_at_call 20
                refine (H20.out _ x (Hb6.out.dn 1) hx0 hx1).mono ?_
                rintro e2 w8 ⟨nv, rfl, hnv, hb8⟩
                have Hnv := Lib.hid hnv
                have Hb8 := Lib.hid (show Below wx.heap.size wx w8 from Hb6.out.via (undrew hb8) Hb6.out.size)
                have Hb86 := Lib.hid (undrew hb8)
                clear hnv hb8
                refine hK.out _ _ (by exact HBz.out _ Hb86.out) (fun hHeld => ?_)
                clear hK K
                try simp only [Act.put, List.setIfInBounds_toArray, List.set_cons_zero, List.set_cons_succ]
                refine wpAnyH_ready (rs := [7]) (by kernel_rfl) (by simp) ?_
                refine AllReadyH.cons rfl (fun K hK => ?_) AllReadyH.nil
                go_simp
                go_at_call 31
                refine (H31.out _ Hb8.out _ _ Hnv.out (by have := Hsl.out (fun o => setB x o); omega) (fun o ho => HON.out o (sel_sub _ _ o ho)) Y 0 HNRi.out (fun _ => HNBi.out) (fun h => absurd rfl h)).mono ?_
                rintro e2 w9 ⟨rfl, hb9⟩
                simp only [if_true]
                have Hb9 := Lib.hid (show Below wx.heap.size wx w9 from Hb8.out.via hb9 Hb8.out.size)
                have Hb96 := Lib.hid (show Below w6.heap.size w6 w9 from Hb86.out.via hb9 Hb86.out.size)
                clear hb9
                refine hK.out _ _ (by exact HBz.out _ Hb96.out) (fun hHeld => ?_)
                clear hK K
                try simp only [Act.put, List.setIfInBounds_toArray, List.set_cons_zero, List.set_cons_succ]
                refine wpAnyH_take (i := 8) (v := ?v19) rfl (by kernel_rfl) (by kernel_rfl) (by kernel_rfl) (fun _ _ _ h => h) (Or.inl ⟨by rfl, ?hy19⟩) (by assumption) ?rest19
                case hy19 => (intro w hSw; (try dsimp only at hSw); go_simp; try (with_reducible rfl))
                try simp only [Act.put, List.getElem_toArray, List.getElem_cons_zero, List.getElem_cons_succ, List.setIfInBounds_toArray, List.set_cons_zero, List.set_cons_succ]
                refine wpAnyH_take (i := 9) (v := ?v20) rfl (by kernel_rfl) (by kernel_rfl) (by kernel_rfl) (fun _ _ _ h => h) (Or.inl ⟨by rfl, ?hy20⟩) (by assumption) ?rest20
                case hy20 => (intro w hSw; (try dsimp only at hSw); go_simp; try (with_reducible rfl))
                try simp only [Act.put, List.getElem_toArray, List.getElem_cons_zero, List.getElem_cons_succ, List.setIfInBounds_toArray, List.set_cons_zero, List.set_cons_succ]
                refine wpAnyH_take (i := 10) (v := ?v21) rfl (by kernel_rfl) (by kernel_rfl) (by kernel_rfl) (fun _ _ _ h => h) (Or.inl ⟨by rfl, ?hy21⟩) (by assumption) ?rest21
                case hy21 => (intro w hSw; (try dsimp only at hSw); go_simp; try (with_reducible rfl))
                try simp only [Act.put, List.getElem_toArray, List.getElem_cons_zero, List.getElem_cons_succ, List.setIfInBounds_toArray, List.set_cons_zero, List.set_cons_succ]
                refine wpAnyH_take (i := 11) (v := ?v22) rfl (by kernel_rfl) (by kernel_rfl) (by kernel_rfl) (fun _ _ _ h => h) (Or.inl ⟨by rfl, ?hy22⟩) (by assumption) ?rest22
                case hy22 => (intro w hSw; (try dsimp only at hSw); go_simp; try (with_reducible rfl))
                try simp only [Act.put, List.getElem_toArray, List.getElem_cons_zero, List.getElem_cons_succ, List.setIfInBounds_toArray, List.set_cons_zero, List.set_cons_succ]
                refine wpAnyH_take (i := 12) (v := ?v23) rfl (by kernel_rfl) (by kernel_rfl) (by kernel_rfl) (fun _ _ _ h => h) (Or.inl ⟨by rfl, ?hy23⟩) (by assumption) ?rest23
                case hy23 => (intro w hSw; (try dsimp only at hSw); go_simp; try (with_reducible rfl))
                try simp only [Act.put, List.getElem_toArray, List.getElem_cons_zero, List.getElem_cons_succ, List.setIfInBounds_toArray, List.set_cons_zero, List.set_cons_succ]
                refine wpAnyH_take (i := 13) (v := ?v24) rfl (by kernel_rfl) (by kernel_rfl) (by kernel_rfl) (fun _ _ _ h => h) (Or.inl ⟨by rfl, ?hy24⟩) (by assumption) ?rest24
                case hy24 => (intro w hSw; (try dsimp only at hSw); go_simp; try (with_reducible rfl))
                try simp only [Act.put, List.getElem_toArray, List.getElem_cons_zero, List.getElem_cons_succ, List.setIfInBounds_toArray, List.set_cons_zero, List.set_cons_succ]
                refine wpAnyH_take (i := 14) (v := ?v25) rfl (by kernel_rfl) (by kernel_rfl) (by kernel_rfl) (fun _ _ _ h => h) (Or.inl ⟨by rfl, ?hy25⟩) (by assumption) ?rest25
                case hy25 => (intro w hSw; (try dsimp only at hSw); go_simp; try (with_reducible rfl))
                try simp only [Act.put, List.getElem_toArray, List.getElem_cons_zero, List.getElem_cons_succ, List.setIfInBounds_toArray, List.set_cons_zero, List.set_cons_succ]
                refine wpAnyH_done (by kernel_rfl) ?_ _
                simp only [Exit.then]
                have hY1 : (decide (Y < 0) != decide (Y < 0)) = false := by simp
                have hY2 : (Y != Y) = false := by simp
                have hb97 := Hbr7.out.via (Hb64.out.via Hb96.out Hb64.out.size) Hbr7.out.size
                go_wp2_with fail
                go_roundw
                case rel => exact ⟨i + 1, by omega, by go_num, hb97⟩
                case measure => simp [intOf]; omega
              · have Hbr := Lib.hid (Hb7.out.via hbr Hb7.out.size)
                clear hbr
                go_wp2_with fail
                go_ret
                exact Ret.mk (Hbw.out.via Hbr.out Hbw.out.size)
          · have H31b := Lib.hid (fun w' (h : Below wx.heap.size wx w') => H31.out w' h ss (.slice a1 j c) (HSx.out w' h) (by rw [Hsn.out]; omega) Hsz.out 0 E HE.out (fun h => absurd h hE) (fun _ => rfl))
            rw [if_neg hE] at H30 H31b
            have hE1 : (E != 0) = true := by simpa using hE
            have hE2 : (E == E) = true := by simp
            go_wp2_with (first | (go_at_call 30; refine (H30.out _ (Below.refl _ _)).mono ?_; rintro e w2 ⟨rfl, hb2⟩; obtain ⟨y0, y1, y2, y3, y4, y5, y6, y7, y8, y9, -⟩ := HB.out w2 hb2) | (go_at_call 31; refine (H31b.out _ hb2).mono ?_; rintro e w3 ⟨rfl, hb3⟩))
            go_ret
            exact Ret.mk (Hbw.out.via (hb2.via hb3 hb2.size) Hbw.out.size)

end Go.Proofs.Ytkphggmbimjhjaa
