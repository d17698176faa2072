/-
  Parts of the proof: Has.
-/
import Derived.Test.YtacihodamichhaaGreatDoorT42
namespace Go.Proofs.YtacihodamichhaaGreatDoor
open Go.RowKit
theorem toP_n0 (n : ByteArray) : toP ⟨0, n, 0⟩ = ⟨0, n, -1⟩ := rfl
theorem toP_n1 (n : ByteArray) : toP ⟨0, n, 1⟩ = ⟨0, n, 1⟩ := rfl
set_option maxHeartbeats 16000000 in
set_option maxRecDepth 10000 in
theorem rhas_any (v : Value) (xs : List Iv) (n : ByteArray) (w : World) (h : Ivs w v xs) (hs : ∀ x ∈ xs, x.short) (he : ∀ x ∈ xs, ivErr x = 0) (hlen : xs.length < 100000) (hn : n.size ≤ 60) (hr : errL n.data.toList = 0) :
  Calls Tryz.prog 41 #[v, .string n] w (Ret (.bool (hasB xs n)) w) := by
 obtain ⟨a, c, rfl, hc1, hc2⟩ := h.open
 unfold maxLen at hc2
 have HX := hI h
 have Hsh := hI hs
 have Her := hI he
 have hn0 : RokC ⟨0, n, 0⟩ := .inl ⟨rfl, hn, hr, (by show (0 : Int) ≤ 0; decide), (by show (0 : Int) ≤ 1; decide)⟩
 have hn1 : RokC ⟨0, n, 1⟩ := .inl ⟨rfl, hn, hr, (by show (0 : Int) ≤ 1; decide), (by show (1 : Int) ≤ 1; decide)⟩
 have HNr := hI (And.intro hn0 hn1)
 obtain ⟨E, hE⟩ : ∃ E, hasB xs n = E := ⟨_, rfl⟩
 have HE := hI hE
 rw [hE]
 clear h hs he hE hn hr hn0 hn1
 generalize hln : xs.length = N at *
 have Hln := hI hln
 clear hln
 have HL := hI (fun s k w' => lower_c s k w')
 have HU := hI (fun s k w' => upper_c s k w')
 go_enter Tryz.func41, Tryz.ntmps41
 go_wp2_with fail
 go_loopw [5] (fun i wr => ∃ k : Nat, k ≤ N ∧ i = .int .i64 (k : Int) ∧ Below w.heap.size w wr ∧ Hid (hasB (xs.take k) n = false)) (fun i _ => N - (intOf i).toNat)
 case atStart => exact ⟨0, by omega, rfl, Below.refl _ _, rfl⟩
 case round =>
  obtain ⟨k, hk, rfl, hbw, hpre⟩ := hrel
  have Hbw := hI hbw
  have Hpre := hI hpre.out
  rcases Nat.lt_or_ge k N with hlt | hge
  ·obtain ⟨b, off, x, rfl, hx, c0, c1, c2, c3⟩ := HX.out.at hbw hlt
   have hkn : (k : Int) < (N : Int) := by omega
   have hk0 : (0 : Int) ≤ (k : Int) := Int.natCast_nonneg _
   have hkw : IntKind.i64.wrap ((k : Int) + 1) = (k : Int) + 1 := IntWalk.i64_in _ (by omega)
   have hxm := List.mem_of_getElem? hx
   obtain ⟨ra, rb, ta, tb⟩ := iv_rok (Hsh.out x hxm) (Her.out x hxm)
   have H99 := hI (fun w' => order_c _ _ w' ra HNr.out.1)
   have H98 := hI (fun w' => order_c _ _ w' HNr.out.2 rb)
   rw [ta, toP_n0] at H99
   rw [tb, toP_n1] at H98
   unfold rcA rcut at H99 H98
   dsimp only at H99 H98
   have Hx := hI hx
   have hin : inP x.cuts ⟨0, n, -1⟩ ⟨0, n, 1⟩ = (decide (cmpG x.low ⟨0, n, -1⟩ ≤ 0) && decide (cmpG ⟨0, n, 1⟩ x.high ≤ 0)) := rfl
   have Hin := hI hin
   have Hcell := hI (fun w' (hb : Below wr.heap.size wr w') => And.intro ((hb.cell (p := ⟨b, off + k * 4, none⟩) (World.block_lt_of_cell? _ _ c0)).trans c0) (And.intro ((hb.cell (p := ⟨b, off + k * 4 + 1, none⟩) (World.block_lt_of_cell? _ _ c1)).trans c1) (And.intro ((hb.cell (p := ⟨b, off + k * 4 + 2, none⟩) (World.block_lt_of_cell? _ _ c2)).trans c2) ((hb.cell (p := ⟨b, off + k * 4 + 3, none⟩) (World.block_lt_of_cell? _ _ c3)).trans c3))))
   have HLx := hI (fun w' => HL.out x.lo x.le w')
   have HUx := hI (fun w' => HU.out x.hi x.he w')
   unfold rcA rcut at HLx HUx
   have Hnt := hI (show hasB (xs.take (k + 1)) n = inP x.cuts ⟨0, n, -1⟩ ⟨0, n, 1⟩ by
    have h1 := Hpre.out
    unfold hasB at h1 ⊢
    obtain ⟨hi, he⟩ := List.getElem?_eq_some_iff.1 hx
    rw [List.take_succ_eq_append_getElem hi, he, List.map_append, List.any_append, h1, List.map_cons, List.map_nil, List.any_cons, List.any_nil, Bool.false_or, Bool.or_false])
   clear ra rb ta tb HL HU hx hxm hbw hpre hin
   generalize loC x.lo x.le = lc at *
   generalize upC x.hi x.he = uc at *
   go_upto_region 4 with fail
   go_cut [6, 7] from 8 to 47 (fun a6 a7 wx => ∃ b6 b7 : Nat, a6 = .pointer (some ⟨b6, 0, none⟩) ∧ a7 = .pointer (some ⟨b7, 0, none⟩) ∧ Below wr.heap.size wr wx ∧ Blk wx b6 #[.int .i64 lc.b, .string lc.s, .int .i64 lc.d] 116 ∧ Blk wx b7 #[.int .i64 uc.b, .string uc.s, .int .i64 uc.d] 116)
   case first =>
    refine wp_region_held_drew (S := (fun w' => w'.cell? ⟨b, off + k * 4, none⟩ = some (.string x.lo) ∧ w'.cell? ⟨b, off + k * 4 + 1, none⟩ = some (.string x.hi) ∧ w'.cell? ⟨b, off + k * 4 + 2, none⟩ = some (.int .i64 x.le) ∧ w'.cell? ⟨b, off + k * 4 + 3, none⟩ = some (.int .i64 x.he))) (by kernel_rfl) (by exact Hcell.out _ (bw_via (bwR wr) (bwD _))) (fun hHeld => ?_)
    refine' tk 0 ?_; (try simp only [tkS]); refine' tk 1 ?_; (try simp only [tkS]); refine' tk 2 ?_; (try simp only [tkS]); refine' tk 3 ?_; (try simp only [tkS]); refine' tk 4 ?_; (try simp only [tkS]); refine' tk 5 ?_; (try simp only [tkS]); refine' tk 6 ?_; (try simp only [tkS]); refine' tk 7 ?_; (try simp only [tkS]); refine' tk 8 ?_; (try simp only [tkS]); refine' tk 9 ?_; (try simp only [tkS]); refine' tk 11 ?_; (try simp only [tkS]); refine' tk 12 ?_; (try simp only [tkS]); refine' tk 13 ?_; (try simp only [tkS]); refine' tk 14 ?_; (try simp only [tkS]); refine' tk 15 ?_; (try simp only [tkS]); refine' tk 16 ?_; (try simp only [tkS]); refine' tk 17 ?_; (try simp only [tkS]); refine' tk 18 ?_; (try simp only [tkS]); refine' tk 19 ?_; (try simp only [tkS]); refine' tk 20 ?_; (try simp only [tkS])
    have hbD : Below wr.heap.size wr wr.drew := bw_via (bwR wr) (bwD _)
    clear hHeld
    generalize wr.drew = wD at *
    have Hy := hI hbD
    clear hbD
    refine wpAnyH_ready (rs := [10, 22, 23]) (by kernel_rfl) (by simp) ?_
    refine AllReadyH.cons rfl (fun K hK => ?_) (AllReadyH.cons rfl (fun K hK => ?_) (AllReadyH.cons rfl (fun K hK => ?_) AllReadyH.nil))
    ·go_simp
     go_at_call 89
     refine (HLx.out _).mono ?_
     rintro e5 x1 ⟨rfl, hb⟩
     have H1 := stC Hy hb
     clear hb
     refine hK.out _ _ (by exact Hcell.out _ H1.out) (fun hHeld => ?_)
     clear hK K; (try simp only [tkS])
     refine wpAnyH_ready (rs := [21, 22, 23]) (by kernel_rfl) (by simp) ?_
     refine AllReadyH.cons rfl (fun K hK => ?_) (AllReadyH.cons rfl (fun K hK => ?_) (AllReadyH.cons rfl (fun K hK => ?_) AllReadyH.nil))
     ·go_simp
      go_at_call 90
      refine (HUx.out _).mono ?_
      rintro e5 x2 ⟨rfl, hb⟩
      have H2 := stC H1 hb
      clear hb
      refine hK.out _ _ (by exact Hcell.out _ H2.out) (fun hHeld => ?_)
      clear hK K; (try simp only [tkS])
      refine wpAnyH_ready (rs := [22, 23]) (by kernel_rfl) (by simp) ?_
      refine AllReadyH.cons rfl (fun K hK => ?_) (AllReadyH.cons rfl (fun K hK => ?_) AllReadyH.nil)
      ·go_simp
       refine hK.out _ _ (by exact Hcell.out _ (bwA H2.out _)) (fun hHeld => ?_)
       clear hK K; (try simp only [tkS])
       obtain ⟨x3, bA, ew, eb, H3, A3, GA⟩ := stA #[.int .i64 0, .string ⟨#[]⟩, .int .i64 0] 116 H2
       rw [ew, eb]
       clear ew eb hHeld
       refine tk1 23 (fun K hK => ?_)
       go_simp
       refine hK.out _ _ (by exact Hcell.out _ (bwA H3.out _)) (fun hHeld => ?_)
       clear hK K; (try simp only [tkS])
       obtain ⟨x4, bB, ew, eb, H4, B4, GB, A4, hN⟩ := stA2 #[.int .i64 0, .string ⟨#[]⟩, .int .i64 0] 116 H3 A3
       rw [ew, eb]
       clear ew eb hHeld
       refine tk1 24 (fun K hK => ?_)
       obtain ⟨⟨z0, z1, z2⟩, f0, f1, f2⟩ := blk3v A4.out
       go_simp
       refine hK.out _ _ (by exact Hcell.out _ (below_put3 _ _ _ H4.out GA.out)) (fun hHeld => ?_)
       clear hK K; (try simp only [tkS])
       obtain ⟨x5, ew, H5, A5, B5⟩ := stS (.int .i64 lc.b) (.string lc.s) (.int .i64 lc.d) H4 A4 GA B4 (hN.out.symm)
       rw [ew]
       clear z0 z1 z2 f0 f1 f2 ew hHeld
       refine tk1 25 (fun K hK => ?_)
       obtain ⟨⟨z0, z1, z2⟩, f0, f1, f2⟩ := blk3v B5.out
       go_simp
       refine hK.out _ _ (by exact Hcell.out _ (below_put3 _ _ _ H5.out GB.out)) (fun hHeld => ?_)
       clear hK K; (try simp only [tkS])
       obtain ⟨x6, ew, H6, B6, A6⟩ := stS (.int .i64 uc.b) (.string uc.s) (.int .i64 uc.d) H5 B5 GB A5 (hN.out)
       rw [ew]
       clear z0 z1 z2 f0 f1 f2 ew hHeld
       refine tkD ?_ _
       go_wp2_with fail
       go_meet
       exact ⟨bA, bB, rfl, rfl, H6.out, A6.out, B6.out⟩
      ·go_simp
       refine hK.out _ _ (by exact Hcell.out _ (bwA H2.out _)) (fun hHeld => ?_)
       clear hK K; (try simp only [tkS])
       obtain ⟨x7, bB, ew, eb, H7, B7, GB⟩ := stA #[.int .i64 0, .string ⟨#[]⟩, .int .i64 0] 116 H2
       rw [ew, eb]
       clear ew eb hHeld
       refine tk1 22 (fun K hK => ?_)
       go_simp
       refine hK.out _ _ (by exact Hcell.out _ (bwA H7.out _)) (fun hHeld => ?_)
       clear hK K; (try simp only [tkS])
       obtain ⟨x8, bA, ew, eb, H8, A8, GA, B8, hN⟩ := stA2 #[.int .i64 0, .string ⟨#[]⟩, .int .i64 0] 116 H7 B7
       rw [ew, eb]
       clear ew eb hHeld
       refine tk1 24 (fun K hK => ?_)
       obtain ⟨⟨z0, z1, z2⟩, f0, f1, f2⟩ := blk3v A8.out
       go_simp
       refine hK.out _ _ (by exact Hcell.out _ (below_put3 _ _ _ H8.out GA.out)) (fun hHeld => ?_)
       clear hK K; (try simp only [tkS])
       obtain ⟨x9, ew, H9, A9, B9⟩ := stS (.int .i64 lc.b) (.string lc.s) (.int .i64 lc.d) H8 A8 GA B8 (hN.out)
       rw [ew]
       clear z0 z1 z2 f0 f1 f2 ew hHeld
       refine tk1 25 (fun K hK => ?_)
       obtain ⟨⟨z0, z1, z2⟩, f0, f1, f2⟩ := blk3v B9.out
       go_simp
       refine hK.out _ _ (by exact Hcell.out _ (below_put3 _ _ _ H9.out GB.out)) (fun hHeld => ?_)
       clear hK K; (try simp only [tkS])
       obtain ⟨x10, ew, H10, B10, A10⟩ := stS (.int .i64 uc.b) (.string uc.s) (.int .i64 uc.d) H9 B9 GB A9 (hN.out.symm)
       rw [ew]
       clear z0 z1 z2 f0 f1 f2 ew hHeld
       refine tkD ?_ _
       go_wp2_with fail
       go_meet
       exact ⟨bA, bB, rfl, rfl, H10.out, A10.out, B10.out⟩
     ·go_simp
      refine hK.out _ _ (by exact Hcell.out _ (bwA H1.out _)) (fun hHeld => ?_)
      clear hK K; (try simp only [tkS])
      obtain ⟨x11, bA, ew, eb, H11, A11, GA⟩ := stA #[.int .i64 0, .string ⟨#[]⟩, .int .i64 0] 116 H1
      rw [ew, eb]
      clear ew eb hHeld
      refine wpAnyH_ready (rs := [21, 23]) (by kernel_rfl) (by simp) ?_
      refine AllReadyH.cons rfl (fun K hK => ?_) (AllReadyH.cons rfl (fun K hK => ?_) AllReadyH.nil)
      ·go_simp
       go_at_call 90
       refine (HUx.out _).mono ?_
       rintro e5 x12 ⟨rfl, hb⟩
       have H12 := stC H11 hb
       have A12 := stB A11 hb
       clear hb
       refine hK.out _ _ (by exact Hcell.out _ H12.out) (fun hHeld => ?_)
       clear hK K; (try simp only [tkS])
       refine tk1 23 (fun K hK => ?_)
       go_simp
       refine hK.out _ _ (by exact Hcell.out _ (bwA H12.out _)) (fun hHeld => ?_)
       clear hK K; (try simp only [tkS])
       obtain ⟨x13, bB, ew, eb, H13, B13, GB, A13, hN⟩ := stA2 #[.int .i64 0, .string ⟨#[]⟩, .int .i64 0] 116 H12 A12
       rw [ew, eb]
       clear ew eb hHeld
       refine tk1 24 (fun K hK => ?_)
       obtain ⟨⟨z0, z1, z2⟩, f0, f1, f2⟩ := blk3v A13.out
       go_simp
       refine hK.out _ _ (by exact Hcell.out _ (below_put3 _ _ _ H13.out GA.out)) (fun hHeld => ?_)
       clear hK K; (try simp only [tkS])
       obtain ⟨x14, ew, H14, A14, B14⟩ := stS (.int .i64 lc.b) (.string lc.s) (.int .i64 lc.d) H13 A13 GA B13 (hN.out.symm)
       rw [ew]
       clear z0 z1 z2 f0 f1 f2 ew hHeld
       refine tk1 25 (fun K hK => ?_)
       obtain ⟨⟨z0, z1, z2⟩, f0, f1, f2⟩ := blk3v B14.out
       go_simp
       refine hK.out _ _ (by exact Hcell.out _ (below_put3 _ _ _ H14.out GB.out)) (fun hHeld => ?_)
       clear hK K; (try simp only [tkS])
       obtain ⟨x15, ew, H15, B15, A15⟩ := stS (.int .i64 uc.b) (.string uc.s) (.int .i64 uc.d) H14 B14 GB A14 (hN.out)
       rw [ew]
       clear z0 z1 z2 f0 f1 f2 ew hHeld
       refine tkD ?_ _
       go_wp2_with fail
       go_meet
       exact ⟨bA, bB, rfl, rfl, H15.out, A15.out, B15.out⟩
      ·go_simp
       refine hK.out _ _ (by exact Hcell.out _ (bwA H11.out _)) (fun hHeld => ?_)
       clear hK K; (try simp only [tkS])
       obtain ⟨x16, bB, ew, eb, H16, B16, GB, A16, hN⟩ := stA2 #[.int .i64 0, .string ⟨#[]⟩, .int .i64 0] 116 H11 A11
       rw [ew, eb]
       clear ew eb hHeld
       refine tk1 21 (fun K hK => ?_)
       go_simp
       go_at_call 90
       refine (HUx.out _).mono ?_
       rintro e5 x17 ⟨rfl, hb⟩
       have H17 := stC H16 hb
       have A17 := stB A16 hb
       have B17 := stB B16 hb
       clear hb
       refine hK.out _ _ (by exact Hcell.out _ H17.out) (fun hHeld => ?_)
       clear hK K; (try simp only [tkS])
       refine tk1 24 (fun K hK => ?_)
       obtain ⟨⟨z0, z1, z2⟩, f0, f1, f2⟩ := blk3v A17.out
       go_simp
       refine hK.out _ _ (by exact Hcell.out _ (below_put3 _ _ _ H17.out GA.out)) (fun hHeld => ?_)
       clear hK K; (try simp only [tkS])
       obtain ⟨x18, ew, H18, A18, B18⟩ := stS (.int .i64 lc.b) (.string lc.s) (.int .i64 lc.d) H17 A17 GA B17 (hN.out.symm)
       rw [ew]
       clear z0 z1 z2 f0 f1 f2 ew hHeld
       refine tk1 25 (fun K hK => ?_)
       obtain ⟨⟨z0, z1, z2⟩, f0, f1, f2⟩ := blk3v B18.out
       go_simp
       refine hK.out _ _ (by exact Hcell.out _ (below_put3 _ _ _ H18.out GB.out)) (fun hHeld => ?_)
       clear hK K; (try simp only [tkS])
       obtain ⟨x19, ew, H19, B19, A19⟩ := stS (.int .i64 uc.b) (.string uc.s) (.int .i64 uc.d) H18 B18 GB A18 (hN.out)
       rw [ew]
       clear z0 z1 z2 f0 f1 f2 ew hHeld
       refine tkD ?_ _
       go_wp2_with fail
       go_meet
       exact ⟨bA, bB, rfl, rfl, H19.out, A19.out, B19.out⟩
     ·go_simp
      refine hK.out _ _ (by exact Hcell.out _ (bwA H1.out _)) (fun hHeld => ?_)
      clear hK K; (try simp only [tkS])
      obtain ⟨x20, bB, ew, eb, H20, B20, GB⟩ := stA #[.int .i64 0, .string ⟨#[]⟩, .int .i64 0] 116 H1
      rw [ew, eb]
      clear ew eb hHeld
      refine wpAnyH_ready (rs := [21, 22]) (by kernel_rfl) (by simp) ?_
      refine AllReadyH.cons rfl (fun K hK => ?_) (AllReadyH.cons rfl (fun K hK => ?_) AllReadyH.nil)
      ·go_simp
       go_at_call 90
       refine (HUx.out _).mono ?_
       rintro e5 x21 ⟨rfl, hb⟩
       have H21 := stC H20 hb
       have B21 := stB B20 hb
       clear hb
       refine hK.out _ _ (by exact Hcell.out _ H21.out) (fun hHeld => ?_)
       clear hK K; (try simp only [tkS])
       refine tk1 22 (fun K hK => ?_)
       go_simp
       refine hK.out _ _ (by exact Hcell.out _ (bwA H21.out _)) (fun hHeld => ?_)
       clear hK K; (try simp only [tkS])
       obtain ⟨x22, bA, ew, eb, H22, A22, GA, B22, hN⟩ := stA2 #[.int .i64 0, .string ⟨#[]⟩, .int .i64 0] 116 H21 B21
       rw [ew, eb]
       clear ew eb hHeld
       refine tk1 24 (fun K hK => ?_)
       obtain ⟨⟨z0, z1, z2⟩, f0, f1, f2⟩ := blk3v A22.out
       go_simp
       refine hK.out _ _ (by exact Hcell.out _ (below_put3 _ _ _ H22.out GA.out)) (fun hHeld => ?_)
       clear hK K; (try simp only [tkS])
       obtain ⟨x23, ew, H23, A23, B23⟩ := stS (.int .i64 lc.b) (.string lc.s) (.int .i64 lc.d) H22 A22 GA B22 (hN.out)
       rw [ew]
       clear z0 z1 z2 f0 f1 f2 ew hHeld
       refine tk1 25 (fun K hK => ?_)
       obtain ⟨⟨z0, z1, z2⟩, f0, f1, f2⟩ := blk3v B23.out
       go_simp
       refine hK.out _ _ (by exact Hcell.out _ (below_put3 _ _ _ H23.out GB.out)) (fun hHeld => ?_)
       clear hK K; (try simp only [tkS])
       obtain ⟨x24, ew, H24, B24, A24⟩ := stS (.int .i64 uc.b) (.string uc.s) (.int .i64 uc.d) H23 B23 GB A23 (hN.out.symm)
       rw [ew]
       clear z0 z1 z2 f0 f1 f2 ew hHeld
       refine tkD ?_ _
       go_wp2_with fail
       go_meet
       exact ⟨bA, bB, rfl, rfl, H24.out, A24.out, B24.out⟩
      ·go_simp
       refine hK.out _ _ (by exact Hcell.out _ (bwA H20.out _)) (fun hHeld => ?_)
       clear hK K; (try simp only [tkS])
       obtain ⟨x25, bA, ew, eb, H25, A25, GA, B25, hN⟩ := stA2 #[.int .i64 0, .string ⟨#[]⟩, .int .i64 0] 116 H20 B20
       rw [ew, eb]
       clear ew eb hHeld
       refine tk1 21 (fun K hK => ?_)
       go_simp
       go_at_call 90
       refine (HUx.out _).mono ?_
       rintro e5 x26 ⟨rfl, hb⟩
       have H26 := stC H25 hb
       have B26 := stB B25 hb
       have A26 := stB A25 hb
       clear hb
       refine hK.out _ _ (by exact Hcell.out _ H26.out) (fun hHeld => ?_)
       clear hK K; (try simp only [tkS])
       refine tk1 24 (fun K hK => ?_)
       obtain ⟨⟨z0, z1, z2⟩, f0, f1, f2⟩ := blk3v A26.out
       go_simp
       refine hK.out _ _ (by exact Hcell.out _ (below_put3 _ _ _ H26.out GA.out)) (fun hHeld => ?_)
       clear hK K; (try simp only [tkS])
       obtain ⟨x27, ew, H27, A27, B27⟩ := stS (.int .i64 lc.b) (.string lc.s) (.int .i64 lc.d) H26 A26 GA B26 (hN.out)
       rw [ew]
       clear z0 z1 z2 f0 f1 f2 ew hHeld
       refine tk1 25 (fun K hK => ?_)
       obtain ⟨⟨z0, z1, z2⟩, f0, f1, f2⟩ := blk3v B27.out
       go_simp
       refine hK.out _ _ (by exact Hcell.out _ (below_put3 _ _ _ H27.out GB.out)) (fun hHeld => ?_)
       clear hK K; (try simp only [tkS])
       obtain ⟨x28, ew, H28, B28, A28⟩ := stS (.int .i64 uc.b) (.string uc.s) (.int .i64 uc.d) H27 B27 GB A27 (hN.out.symm)
       rw [ew]
       clear z0 z1 z2 f0 f1 f2 ew hHeld
       refine tkD ?_ _
       go_wp2_with fail
       go_meet
       exact ⟨bA, bB, rfl, rfl, H28.out, A28.out, B28.out⟩
    ·go_simp
     refine hK.out _ _ (by exact Hcell.out _ (bwA Hy.out _)) (fun hHeld => ?_)
     clear hK K; (try simp only [tkS])
     obtain ⟨x29, bA, ew, eb, H29, A29, GA⟩ := stA #[.int .i64 0, .string ⟨#[]⟩, .int .i64 0] 116 Hy
     rw [ew, eb]
     clear ew eb hHeld
     refine wpAnyH_ready (rs := [10, 23]) (by kernel_rfl) (by simp) ?_
     refine AllReadyH.cons rfl (fun K hK => ?_) (AllReadyH.cons rfl (fun K hK => ?_) AllReadyH.nil)
     ·go_simp
      go_at_call 89
      refine (HLx.out _).mono ?_
      rintro e5 x30 ⟨rfl, hb⟩
      have H30 := stC H29 hb
      have A30 := stB A29 hb
      clear hb
      refine hK.out _ _ (by exact Hcell.out _ H30.out) (fun hHeld => ?_)
      clear hK K; (try simp only [tkS])
      refine wpAnyH_ready (rs := [21, 23]) (by kernel_rfl) (by simp) ?_
      refine AllReadyH.cons rfl (fun K hK => ?_) (AllReadyH.cons rfl (fun K hK => ?_) AllReadyH.nil)
      ·go_simp
       go_at_call 90
       refine (HUx.out _).mono ?_
       rintro e5 x31 ⟨rfl, hb⟩
       have H31 := stC H30 hb
       have A31 := stB A30 hb
       clear hb
       refine hK.out _ _ (by exact Hcell.out _ H31.out) (fun hHeld => ?_)
       clear hK K; (try simp only [tkS])
       refine tk1 23 (fun K hK => ?_)
       go_simp
       refine hK.out _ _ (by exact Hcell.out _ (bwA H31.out _)) (fun hHeld => ?_)
       clear hK K; (try simp only [tkS])
       obtain ⟨x32, bB, ew, eb, H32, B32, GB, A32, hN⟩ := stA2 #[.int .i64 0, .string ⟨#[]⟩, .int .i64 0] 116 H31 A31
       rw [ew, eb]
       clear ew eb hHeld
       refine tk1 24 (fun K hK => ?_)
       obtain ⟨⟨z0, z1, z2⟩, f0, f1, f2⟩ := blk3v A32.out
       go_simp
       refine hK.out _ _ (by exact Hcell.out _ (below_put3 _ _ _ H32.out GA.out)) (fun hHeld => ?_)
       clear hK K; (try simp only [tkS])
       obtain ⟨x33, ew, H33, A33, B33⟩ := stS (.int .i64 lc.b) (.string lc.s) (.int .i64 lc.d) H32 A32 GA B32 (hN.out.symm)
       rw [ew]
       clear z0 z1 z2 f0 f1 f2 ew hHeld
       refine tk1 25 (fun K hK => ?_)
       obtain ⟨⟨z0, z1, z2⟩, f0, f1, f2⟩ := blk3v B33.out
       go_simp
       refine hK.out _ _ (by exact Hcell.out _ (below_put3 _ _ _ H33.out GB.out)) (fun hHeld => ?_)
       clear hK K; (try simp only [tkS])
       obtain ⟨x34, ew, H34, B34, A34⟩ := stS (.int .i64 uc.b) (.string uc.s) (.int .i64 uc.d) H33 B33 GB A33 (hN.out)
       rw [ew]
       clear z0 z1 z2 f0 f1 f2 ew hHeld
       refine tkD ?_ _
       go_wp2_with fail
       go_meet
       exact ⟨bA, bB, rfl, rfl, H34.out, A34.out, B34.out⟩
      ·go_simp
       refine hK.out _ _ (by exact Hcell.out _ (bwA H30.out _)) (fun hHeld => ?_)
       clear hK K; (try simp only [tkS])
       obtain ⟨x35, bB, ew, eb, H35, B35, GB, A35, hN⟩ := stA2 #[.int .i64 0, .string ⟨#[]⟩, .int .i64 0] 116 H30 A30
       rw [ew, eb]
       clear ew eb hHeld
       refine tk1 21 (fun K hK => ?_)
       go_simp
       go_at_call 90
       refine (HUx.out _).mono ?_
       rintro e5 x36 ⟨rfl, hb⟩
       have H36 := stC H35 hb
       have A36 := stB A35 hb
       have B36 := stB B35 hb
       clear hb
       refine hK.out _ _ (by exact Hcell.out _ H36.out) (fun hHeld => ?_)
       clear hK K; (try simp only [tkS])
       refine tk1 24 (fun K hK => ?_)
       obtain ⟨⟨z0, z1, z2⟩, f0, f1, f2⟩ := blk3v A36.out
       go_simp
       refine hK.out _ _ (by exact Hcell.out _ (below_put3 _ _ _ H36.out GA.out)) (fun hHeld => ?_)
       clear hK K; (try simp only [tkS])
       obtain ⟨x37, ew, H37, A37, B37⟩ := stS (.int .i64 lc.b) (.string lc.s) (.int .i64 lc.d) H36 A36 GA B36 (hN.out.symm)
       rw [ew]
       clear z0 z1 z2 f0 f1 f2 ew hHeld
       refine tk1 25 (fun K hK => ?_)
       obtain ⟨⟨z0, z1, z2⟩, f0, f1, f2⟩ := blk3v B37.out
       go_simp
       refine hK.out _ _ (by exact Hcell.out _ (below_put3 _ _ _ H37.out GB.out)) (fun hHeld => ?_)
       clear hK K; (try simp only [tkS])
       obtain ⟨x38, ew, H38, B38, A38⟩ := stS (.int .i64 uc.b) (.string uc.s) (.int .i64 uc.d) H37 B37 GB A37 (hN.out)
       rw [ew]
       clear z0 z1 z2 f0 f1 f2 ew hHeld
       refine tkD ?_ _
       go_wp2_with fail
       go_meet
       exact ⟨bA, bB, rfl, rfl, H38.out, A38.out, B38.out⟩
     ·go_simp
      refine hK.out _ _ (by exact Hcell.out _ (bwA H29.out _)) (fun hHeld => ?_)
      clear hK K; (try simp only [tkS])
      obtain ⟨x39, bB, ew, eb, H39, B39, GB, A39, hN⟩ := stA2 #[.int .i64 0, .string ⟨#[]⟩, .int .i64 0] 116 H29 A29
      rw [ew, eb]
      clear ew eb hHeld
      refine tk1 10 (fun K hK => ?_)
      go_simp
      go_at_call 89
      refine (HLx.out _).mono ?_
      rintro e5 x40 ⟨rfl, hb⟩
      have H40 := stC H39 hb
      have A40 := stB A39 hb
      have B40 := stB B39 hb
      clear hb
      refine hK.out _ _ (by exact Hcell.out _ H40.out) (fun hHeld => ?_)
      clear hK K; (try simp only [tkS])
      refine tk1 21 (fun K hK => ?_)
      go_simp
      go_at_call 90
      refine (HUx.out _).mono ?_
      rintro e5 x41 ⟨rfl, hb⟩
      have H41 := stC H40 hb
      have A41 := stB A40 hb
      have B41 := stB B40 hb
      clear hb
      refine hK.out _ _ (by exact Hcell.out _ H41.out) (fun hHeld => ?_)
      clear hK K; (try simp only [tkS])
      refine tk1 24 (fun K hK => ?_)
      obtain ⟨⟨z0, z1, z2⟩, f0, f1, f2⟩ := blk3v A41.out
      go_simp
      refine hK.out _ _ (by exact Hcell.out _ (below_put3 _ _ _ H41.out GA.out)) (fun hHeld => ?_)
      clear hK K; (try simp only [tkS])
      obtain ⟨x42, ew, H42, A42, B42⟩ := stS (.int .i64 lc.b) (.string lc.s) (.int .i64 lc.d) H41 A41 GA B41 (hN.out.symm)
      rw [ew]
      clear z0 z1 z2 f0 f1 f2 ew hHeld
      refine tk1 25 (fun K hK => ?_)
      obtain ⟨⟨z0, z1, z2⟩, f0, f1, f2⟩ := blk3v B42.out
      go_simp
      refine hK.out _ _ (by exact Hcell.out _ (below_put3 _ _ _ H42.out GB.out)) (fun hHeld => ?_)
      clear hK K; (try simp only [tkS])
      obtain ⟨x43, ew, H43, B43, A43⟩ := stS (.int .i64 uc.b) (.string uc.s) (.int .i64 uc.d) H42 B42 GB A42 (hN.out)
      rw [ew]
      clear z0 z1 z2 f0 f1 f2 ew hHeld
      refine tkD ?_ _
      go_wp2_with fail
      go_meet
      exact ⟨bA, bB, rfl, rfl, H43.out, A43.out, B43.out⟩
    ·go_simp
     refine hK.out _ _ (by exact Hcell.out _ (bwA Hy.out _)) (fun hHeld => ?_)
     clear hK K; (try simp only [tkS])
     obtain ⟨x44, bB, ew, eb, H44, B44, GB⟩ := stA #[.int .i64 0, .string ⟨#[]⟩, .int .i64 0] 116 Hy
     rw [ew, eb]
     clear ew eb hHeld
     refine wpAnyH_ready (rs := [10, 22]) (by kernel_rfl) (by simp) ?_
     refine AllReadyH.cons rfl (fun K hK => ?_) (AllReadyH.cons rfl (fun K hK => ?_) AllReadyH.nil)
     ·go_simp
      go_at_call 89
      refine (HLx.out _).mono ?_
      rintro e5 x45 ⟨rfl, hb⟩
      have H45 := stC H44 hb
      have B45 := stB B44 hb
      clear hb
      refine hK.out _ _ (by exact Hcell.out _ H45.out) (fun hHeld => ?_)
      clear hK K; (try simp only [tkS])
      refine wpAnyH_ready (rs := [21, 22]) (by kernel_rfl) (by simp) ?_
      refine AllReadyH.cons rfl (fun K hK => ?_) (AllReadyH.cons rfl (fun K hK => ?_) AllReadyH.nil)
      ·go_simp
       go_at_call 90
       refine (HUx.out _).mono ?_
       rintro e5 x46 ⟨rfl, hb⟩
       have H46 := stC H45 hb
       have B46 := stB B45 hb
       clear hb
       refine hK.out _ _ (by exact Hcell.out _ H46.out) (fun hHeld => ?_)
       clear hK K; (try simp only [tkS])
       refine tk1 22 (fun K hK => ?_)
       go_simp
       refine hK.out _ _ (by exact Hcell.out _ (bwA H46.out _)) (fun hHeld => ?_)
       clear hK K; (try simp only [tkS])
       obtain ⟨x47, bA, ew, eb, H47, A47, GA, B47, hN⟩ := stA2 #[.int .i64 0, .string ⟨#[]⟩, .int .i64 0] 116 H46 B46
       rw [ew, eb]
       clear ew eb hHeld
       refine tk1 24 (fun K hK => ?_)
       obtain ⟨⟨z0, z1, z2⟩, f0, f1, f2⟩ := blk3v A47.out
       go_simp
       refine hK.out _ _ (by exact Hcell.out _ (below_put3 _ _ _ H47.out GA.out)) (fun hHeld => ?_)
       clear hK K; (try simp only [tkS])
       obtain ⟨x48, ew, H48, A48, B48⟩ := stS (.int .i64 lc.b) (.string lc.s) (.int .i64 lc.d) H47 A47 GA B47 (hN.out)
       rw [ew]
       clear z0 z1 z2 f0 f1 f2 ew hHeld
       refine tk1 25 (fun K hK => ?_)
       obtain ⟨⟨z0, z1, z2⟩, f0, f1, f2⟩ := blk3v B48.out
       go_simp
       refine hK.out _ _ (by exact Hcell.out _ (below_put3 _ _ _ H48.out GB.out)) (fun hHeld => ?_)
       clear hK K; (try simp only [tkS])
       obtain ⟨x49, ew, H49, B49, A49⟩ := stS (.int .i64 uc.b) (.string uc.s) (.int .i64 uc.d) H48 B48 GB A48 (hN.out.symm)
       rw [ew]
       clear z0 z1 z2 f0 f1 f2 ew hHeld
       refine tkD ?_ _
       go_wp2_with fail
       go_meet
       exact ⟨bA, bB, rfl, rfl, H49.out, A49.out, B49.out⟩
      ·go_simp
       refine hK.out _ _ (by exact Hcell.out _ (bwA H45.out _)) (fun hHeld => ?_)
       clear hK K; (try simp only [tkS])
       obtain ⟨x50, bA, ew, eb, H50, A50, GA, B50, hN⟩ := stA2 #[.int .i64 0, .string ⟨#[]⟩, .int .i64 0] 116 H45 B45
       rw [ew, eb]
       clear ew eb hHeld
       refine tk1 21 (fun K hK => ?_)
       go_simp
       go_at_call 90
       refine (HUx.out _).mono ?_
       rintro e5 x51 ⟨rfl, hb⟩
       have H51 := stC H50 hb
       have B51 := stB B50 hb
       have A51 := stB A50 hb
       clear hb
       refine hK.out _ _ (by exact Hcell.out _ H51.out) (fun hHeld => ?_)
       clear hK K; (try simp only [tkS])
       refine tk1 24 (fun K hK => ?_)
       obtain ⟨⟨z0, z1, z2⟩, f0, f1, f2⟩ := blk3v A51.out
       go_simp
       refine hK.out _ _ (by exact Hcell.out _ (below_put3 _ _ _ H51.out GA.out)) (fun hHeld => ?_)
       clear hK K; (try simp only [tkS])
       obtain ⟨x52, ew, H52, A52, B52⟩ := stS (.int .i64 lc.b) (.string lc.s) (.int .i64 lc.d) H51 A51 GA B51 (hN.out)
       rw [ew]
       clear z0 z1 z2 f0 f1 f2 ew hHeld
       refine tk1 25 (fun K hK => ?_)
       obtain ⟨⟨z0, z1, z2⟩, f0, f1, f2⟩ := blk3v B52.out
       go_simp
       refine hK.out _ _ (by exact Hcell.out _ (below_put3 _ _ _ H52.out GB.out)) (fun hHeld => ?_)
       clear hK K; (try simp only [tkS])
       obtain ⟨x53, ew, H53, B53, A53⟩ := stS (.int .i64 uc.b) (.string uc.s) (.int .i64 uc.d) H52 B52 GB A52 (hN.out.symm)
       rw [ew]
       clear z0 z1 z2 f0 f1 f2 ew hHeld
       refine tkD ?_ _
       go_wp2_with fail
       go_meet
       exact ⟨bA, bB, rfl, rfl, H53.out, A53.out, B53.out⟩
     ·go_simp
      refine hK.out _ _ (by exact Hcell.out _ (bwA H44.out _)) (fun hHeld => ?_)
      clear hK K; (try simp only [tkS])
      obtain ⟨x54, bA, ew, eb, H54, A54, GA, B54, hN⟩ := stA2 #[.int .i64 0, .string ⟨#[]⟩, .int .i64 0] 116 H44 B44
      rw [ew, eb]
      clear ew eb hHeld
      refine tk1 10 (fun K hK => ?_)
      go_simp
      go_at_call 89
      refine (HLx.out _).mono ?_
      rintro e5 x55 ⟨rfl, hb⟩
      have H55 := stC H54 hb
      have B55 := stB B54 hb
      have A55 := stB A54 hb
      clear hb
      refine hK.out _ _ (by exact Hcell.out _ H55.out) (fun hHeld => ?_)
      clear hK K; (try simp only [tkS])
      refine tk1 21 (fun K hK => ?_)
      go_simp
      go_at_call 90
      refine (HUx.out _).mono ?_
      rintro e5 x56 ⟨rfl, hb⟩
      have H56 := stC H55 hb
      have B56 := stB B55 hb
      have A56 := stB A55 hb
      clear hb
      refine hK.out _ _ (by exact Hcell.out _ H56.out) (fun hHeld => ?_)
      clear hK K; (try simp only [tkS])
      refine tk1 24 (fun K hK => ?_)
      obtain ⟨⟨z0, z1, z2⟩, f0, f1, f2⟩ := blk3v A56.out
      go_simp
      refine hK.out _ _ (by exact Hcell.out _ (below_put3 _ _ _ H56.out GA.out)) (fun hHeld => ?_)
      clear hK K; (try simp only [tkS])
      obtain ⟨x57, ew, H57, A57, B57⟩ := stS (.int .i64 lc.b) (.string lc.s) (.int .i64 lc.d) H56 A56 GA B56 (hN.out)
      rw [ew]
      clear z0 z1 z2 f0 f1 f2 ew hHeld
      refine tk1 25 (fun K hK => ?_)
      obtain ⟨⟨z0, z1, z2⟩, f0, f1, f2⟩ := blk3v B57.out
      go_simp
      refine hK.out _ _ (by exact Hcell.out _ (below_put3 _ _ _ H57.out GB.out)) (fun hHeld => ?_)
      clear hK K; (try simp only [tkS])
      obtain ⟨x58, ew, H58, B58, A58⟩ := stS (.int .i64 uc.b) (.string uc.s) (.int .i64 uc.d) H57 B57 GB A57 (hN.out.symm)
      rw [ew]
      clear z0 z1 z2 f0 f1 f2 ew hHeld
      refine tkD ?_ _
      go_wp2_with fail
      go_meet
      exact ⟨bA, bB, rfl, rfl, H58.out, A58.out, B58.out⟩
   case rest =>
    obtain ⟨b6, b7, rfl, rfl, hbx, hB6, hB7⟩ := hcut
    rename World => wx
    have HbX := hI hbx
    have HB7 := hI hB7
    obtain ⟨⟨g0, g1, g2⟩, -⟩ := blk3v hB6
    obtain ⟨⟨h0, h1, h2⟩, -⟩ := blk3v hB7
    clear hbx hB6 hB7
    generalize hR : cmpG x.low ⟨0, n, -1⟩ = R at *
    generalize hQ : cmpG ⟨0, n, 1⟩ x.high = Q at *
    clear hR hQ
    by_cases hRs : R ≤ 0
    ·have hRd : decide (R ≤ 0) = true := decide_eq_true hRs
     by_cases hQs : Q ≤ 0
     ·have Hfin := hI (show E = true by
       rw [← HE.out]
       unfold hasB
       rw [List.any_eq_true]
       exact ⟨x.cuts, List.mem_map.2 ⟨x, List.mem_of_getElem? Hx.out, rfl⟩, by rw [Hin.out, decide_eq_true hRs, decide_eq_true hQs]; rfl⟩)
      go_wp2_with (first
       | (have _t := Hb2; clear _t; go_at_call 99; refine (H98.out _).mono ?_; rintro e w3 ⟨rfl, hb3⟩; have Hb3 := hI (bw_via Hb2.out hb3); clear hb3)
       | (go_at_call 99; refine (H99.out _).mono ?_; rintro e w2 ⟨rfl, hb2⟩; have Hb2 := hI (bw_via HbX.out hb2); obtain ⟨⟨h0, h1, h2⟩, -⟩ := blk3v (HB7.out.below hb2); clear hb2))
      go_ret
      exact ⟨by rw [Hfin.out]; rfl, Hbw.out.via Hb3.out Hbw.out.size⟩
     ·have hQ2 : ¬ Q ≤ 0 := hQs
      have Hnx := hI (show hasB (xs.take (k + 1)) n = false by rw [Hnt.out, Hin.out, decide_eq_false hQs, Bool.and_false])
      clear hQs
      go_wp2_with (first
       | (have _t := Hb2; clear _t; go_at_call 99; refine (H98.out _).mono ?_; rintro e w3 ⟨rfl, hb3⟩; have Hb3 := hI (bw_via Hb2.out hb3); clear hb3)
       | (go_at_call 99; refine (H99.out _).mono ?_; rintro e w2 ⟨rfl, hb2⟩; have Hb2 := hI (bw_via HbX.out hb2); obtain ⟨⟨h0, h1, h2⟩, -⟩ := blk3v (HB7.out.below hb2); clear hb2))
      go_roundw
      case rel => exact ⟨k + 1, by omega, by go_num, Hbw.out.via Hb3.out Hbw.out.size, Hnx.out⟩
      case measure => simp [intOf] <;> omega
    ·have hR2 : ¬ R ≤ 0 := hRs
     have Hnx := hI (show hasB (xs.take (k + 1)) n = false by rw [Hnt.out, Hin.out, decide_eq_false hRs, Bool.false_and])
     have hRd : decide (R ≤ 0) = false := decide_eq_false hRs
     clear hRs
     go_wp2_with (go_at_call 99; refine (H99.out _).mono ?_; rintro e w2 ⟨rfl, hb2⟩; have Hb2 := hI (bw_via HbX.out hb2); clear hb2)
     go_roundw
     case rel => exact ⟨k + 1, by omega, by go_num, Hbw.out.via Hb2.out Hbw.out.size, Hnx.out⟩
     case measure => simp [intOf] <;> omega
  ·obtain rfl : k = N := by omega
   have hkn : ¬ (k : Int) < (k : Int) := by omega
   have Hfin := hI (show E = false by
    have := Hpre.out
    rw [List.take_of_length_le (by rw [Hln.out]; exact Nat.le_refl _)] at this
    rw [← HE.out]; exact this)
   go_wp2_with fail
   go_ret
   exact ⟨by rw [Hfin.out]; rfl, Hbw.out⟩
end Go.Proofs.YtacihodamichhaaGreatDoor
