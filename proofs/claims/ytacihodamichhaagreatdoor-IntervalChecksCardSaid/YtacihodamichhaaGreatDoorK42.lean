/-
  Parts of the proof: Rch.
-/
import Derived.Test.YtacihodamichhaaGreatDoorK39
import Derived.Test.YtacihodamichhaaGreatDoorK40
import Derived.Test.YtacihodamichhaaGreatDoorK41
import Derived.Test.YtacihodamichhaaGreatDoorK02
namespace Go.Proofs.YtacihodamichhaaGreatDoor
open Go.RowKit
def loC (n : ByteArray) (kind : Int) : Cut := if kind = 2 then ⟨-1, ⟨#[]⟩, 0⟩ else if kind = 0 then ⟨0, n, 1⟩ else ⟨0, n, 0⟩
def upC (n : ByteArray) (kind : Int) : Cut := if kind = 2 then ⟨1, ⟨#[]⟩, 0⟩ else if kind = 0 then ⟨0, n, 0⟩ else ⟨0, n, 1⟩
def rcA (c : Cut) : Value := rcut c.b c.s c.d
theorem loR_eq (n : ByteArray) (kind : Int) : loR n kind = rcA (loC n kind) := by
  unfold loR loC rcA
  split
  · rfl
  · split <;> rfl
theorem upR_eq (n : ByteArray) (kind : Int) : upR n kind = rcA (upC n kind) := by
  unfold upR upC rcA
  split
  · rfl
  · split <;> rfl
theorem lower_c (n : ByteArray) (kind : Int) (w : World) : Calls Tryz.prog 89 #[.string n, .int .i64 kind] w (Ret (rcA (loC n kind)) w) := by
  have := rlower_any n kind w
  rwa [loR_eq] at this
theorem upper_c (n : ByteArray) (kind : Int) (w : World) : Calls Tryz.prog 90 #[.string n, .int .i64 kind] w (Ret (rcA (upC n kind)) w) := by
  have := rupper_any n kind w
  rwa [upR_eq] at this
def toP (r : Cut) : Cut := ⟨r.b, r.s, if r.b = 0 then 2 * r.d - 1 else 0⟩
def RokC (r : Cut) : Prop := (r.b = 0 ∧ r.s.size ≤ 60 ∧ errL r.s.data.toList = 0 ∧ 0 ≤ r.d ∧ r.d ≤ 1) ∨ ((r.b = 1 ∨ r.b = -1) ∧ r.s = ⟨#[]⟩ ∧ r.d = 0)
def ordC (x y : Cut) : Int := ordR x.b x.s x.d y.b y.s y.d
theorem same_toP {r : Cut} (h : RokC r) : SamePl r.b r.s r.d (toP r) := by
  refine ⟨rfl, rfl, fun h0 => ?_, fun h0 => ?_⟩
  · unfold toP; dsimp only; rw [if_pos h0]
  · rcases h with ⟨h1, _⟩ | ⟨_, h2, _⟩
    · exact absurd h1 h0
    · refine ⟨h2, ?_⟩
      unfold toP; dsimp only; rw [if_neg h0]
theorem ord_toP {x y : Cut} (h : RokC x) (k : RokC y) : ordC x y = cmpG (toP x) (toP y) := ord_cmp (same_toP h) (same_toP k)
theorem order_c (x y : Cut) (w : World) (h : RokC x) (k : RokC y) : Calls Tryz.prog 99 #[rcA x, rcA y] w (Ret (.int .i64 (cmpG (toP x) (toP y))) w) := by
  rw [← ord_toP h k]
  refine order4_any x.b x.d y.b y.d x.s y.s w ?_ ?_ ?_ ?_ ?_
  · rcases h with h | h <;> omega
  · rcases k with h | h <;> omega
  · rcases h with h | h <;> omega
  · rcases k with h | h <;> omega
  · intro h0 k0
    rcases h with ⟨_, h1, h2, _⟩ | h
    · rcases k with ⟨_, k1, k2, _⟩ | k
      · exact ⟨h1, k1, h2, k2⟩
      · omega
    · omega
theorem order_first (y : Cut) (w : World) (k : RokC y) : Calls Tryz.prog 99 #[.agg #[.int .i64 (-2), .string ⟨#[]⟩, .int .i64 0], rcA y] w (Ret (.int .i64 (-1)) w) := by
  have h := order4_any (-2) 0 y.b y.d ⟨#[]⟩ y.s w (by decide) (by rcases k with h | h <;> omega) (by decide) (by rcases k with h | h <;> omega) (fun h => absurd h (by decide))
  rw [show ordR (-2) ⟨#[]⟩ 0 y.b y.s y.d = -1 by
    unfold ordR
    rw [if_pos (by rcases k with h | h <;> omega)]
    exact Int.sign_eq_neg_one_of_neg (by rcases k with h | h <;> omega)] at h
  exact h
theorem end_rok {n : ByteArray} {kind : Int} (hk : 0 ≤ kind ∧ kind ≤ 2) (hn : n.size ≤ 60) (h : endErr n kind = 0) : RokC (loC n kind) ∧ RokC (upC n kind) ∧ toP (loC n kind) = cutOf n kind 1 ∧ toP (upC n kind) = cutOf n kind (-1) := by
  unfold endErr at h
  unfold loC upC cutOf toP
  by_cases h2 : kind = 2
  · subst h2
    exact ⟨.inr ⟨.inr rfl, rfl, rfl⟩, .inr ⟨.inl rfl, rfl, rfl⟩, rfl, rfl⟩
  · rw [if_neg h2] at h
    rw [if_neg h2, if_neg h2, if_neg h2, if_neg h2]
    by_cases h0 : kind = 0
    · subst h0
      exact ⟨.inl ⟨rfl, hn, h, (by show (0 : Int) ≤ 1; decide), (by show (1 : Int) ≤ 1; decide)⟩, .inl ⟨rfl, hn, h, (by show (0 : Int) ≤ 0; decide), (by show (0 : Int) ≤ 1; decide)⟩, rfl, rfl⟩
    · rw [if_neg h0, if_neg h0]
      obtain rfl : kind = 1 := by omega
      exact ⟨.inl ⟨rfl, hn, h, (by show (0 : Int) ≤ 0; decide), (by show (0 : Int) ≤ 1; decide)⟩, .inl ⟨rfl, hn, h, (by show (0 : Int) ≤ 1; decide), (by show (1 : Int) ≤ 1; decide)⟩, rfl, rfl⟩
theorem iv_rok {x : Iv} (hs : x.short) (h : ivErr x = 0) : RokC (loC x.lo x.le) ∧ RokC (upC x.hi x.he) ∧ toP (loC x.lo x.le) = x.low ∧ toP (upC x.hi x.he) = x.high := by
  unfold ivErr at h
  split at h
  · cases h
  rename_i hk
  split at h
  · rename_i h1; exact absurd h h1
  rename_i h1
  obtain ⟨a, _, b, _⟩ := end_rok (kind := x.le) (by omega) hs.1 (by simpa using h1)
  obtain ⟨_, c, _, d⟩ := end_rok (kind := x.he) (by omega) hs.2 h
  exact ⟨a, c, b, d⟩
set_option maxHeartbeats 1000000 in
theorem rcheck_long (v : Value) (xs : List Iv) (w : World) (h : Ivs w v xs) (hn : 256 < xs.length) : Calls Tryz.prog 54 #[v] w (Ret (.int .i64 6) w) := by
  obtain ⟨a, c, rfl, hc1, hc2⟩ := h.open
  clear h
  generalize xs.length = n at *
  have hn2 : (256 : Int) < (n : Int) := by omega
  go_enter Tryz.func54, Tryz.ntmps54
  go_wp2_with fail
  go_ret
  exact ⟨rfl, Below.refl _ _⟩
set_option maxHeartbeats 16000000 in
set_option maxRecDepth 10000 in
theorem rcheck_short (v : Value) (xs : List Iv) (w : World) (h : Ivs w v xs) (hs : ∀ x ∈ xs, x.short) (hn : xs.length ≤ 256) : Calls Tryz.prog 54 #[v] w (Ret (.int .i64 (setErr xs)) w) := by
  obtain ⟨a, c, rfl, hc1, hc2⟩ := h.open
  unfold maxLen at hc2
  have HX := hI h
  have Hsh := hI hs
  have HE := hI (show setErr xs = errFrom none xs by unfold setErr; rw [if_neg (by omega)])
  obtain ⟨E, hE⟩ : ∃ E, setErr xs = E := ⟨_, rfl⟩
  rw [hE] at HE ⊢
  clear h hs hE
  generalize hln : xs.length = n at *
  have Hln := hI hln
  clear hln
  have hn2 : ¬ (256 : Int) < (n : Int) := by omega
  have HL := hI (fun s k w' => lower_c s k w')
  have HU := hI (fun s k w' => upper_c s k w')
  go_enter Tryz.func54, Tryz.ntmps54
  go_wp2_with fail
  go_loopw [4] (fun i wr => ∃ (k : Nat) (c : Cut), k ≤ n ∧ i = .int .i64 (k : Int) ∧ Below w.heap.size w wr ∧ Blk wr w.heap.size #[.int .i64 c.b, .string c.s, .int .i64 c.d] 116 ∧ w.heap.size < wr.heap.size ∧ Hid (E = errFrom (lastCut xs k) (xs.drop k) ∧ ((k = 0 ∧ c = ⟨-2, ⟨#[]⟩, 0⟩) ∨ (0 < k ∧ RokC c ∧ lastCut xs k = some (toP c))))) (fun i _ => n - (intOf i).toNat)
  case atStart => exact ⟨0, ⟨-2, ⟨#[]⟩, 0⟩, by omega, rfl, below1 w _, Blk.new w _ _, by simp, HE.out, .inl ⟨rfl, rfl⟩⟩
  case round =>
    obtain ⟨k, c, hk, rfl, hbw, hB3, hsz, hpre⟩ := hrel
    have HB3 := hI hB3
    have Hbw := hI hbw
    have Hsz := hI hsz
    rcases Nat.lt_or_ge k n with hlt | hge
    · obtain ⟨b, off, x, rfl, hx, c0, c1, c2, c3⟩ := HX.out.at hbw hlt
      have hkn : (k : Int) < (n : Int) := by omega
      have hk0 : (0 : Int) ≤ (k : Int) := Int.natCast_nonneg _
      have hkw : IntKind.i64.wrap ((k : Int) + 1) = (k : Int) + 1 := IntWalk.i64_in _ (by omega)
      have hxs : x.short := Hsh.out x (List.mem_of_getElem? hx)
      have H1 := hI (fun w' => qshape_any x w' hxs)
      have hse := hpre.out.1
      rw [drop_nexti hx] at hse
      have Hse := hI hse
      have Hx := hI hx
      have Hst := hI hpre.out.2
      have Hxs := hI hxs
      have Hcell := hI (fun w' (hb : Below wr.heap.size wr w') => And.intro ((hb.cell (p := ⟨b, off + k * 4, none⟩) (World.block_lt_of_cell? _ _ c0)).trans c0) (And.intro ((hb.cell (p := ⟨b, off + k * 4 + 1, none⟩) (World.block_lt_of_cell? _ _ c1)).trans c1) (And.intro ((hb.cell (p := ⟨b, off + k * 4 + 2, none⟩) (World.block_lt_of_cell? _ _ c2)).trans c2) ((hb.cell (p := ⟨b, off + k * 4 + 3, none⟩) (World.block_lt_of_cell? _ _ c3)).trans c3))))
      unfold Iv.agg at H1
      clear hx hbw hse hB3 hsz hpre hxs
      by_cases hiv : ivErr x = 0
      · rw [hiv] at H1
        obtain ⟨ra, rb, ta, tb⟩ := iv_rok Hxs.out hiv
        have HR := hI (And.intro ra (And.intro rb (And.intro ta (And.intro tb hiv))))
        have HLx := hI (fun w' => HL.out x.lo x.le w')
        have HUx := hI (fun w' => HU.out x.hi x.he w')
        have H99 := hI (fun w' => order_c _ _ w' ra rb)
        have H98 := hI (fun w' => order_first _ w' ra)
        rw [ta, tb] at H99
        unfold rcA rcut at HLx HUx H99 H98
        clear ra rb ta tb hiv HL HU
        generalize hlc : loC x.lo x.le = lc at *
        generalize huc : upC x.hi x.he = uc at *
        have Hnm := hI (And.intro hlc huc)
        clear hlc huc
        go_upto_region 10 with (go_at_call 77; refine (H1.out _).mono ?_; rintro e w1 ⟨rfl, hb1⟩; have Hb1 := hI hb1; obtain ⟨c0, c1, c2, c3⟩ := Hcell.out _ hb1; clear hb1)
        go_cut [6, 7] from 12 to 57 (fun a6 a7 wx => ∃ b6 b7 : Nat, a6 = .pointer (some ⟨b6, 0, none⟩) ∧ a7 = .pointer (some ⟨b7, 0, none⟩) ∧ Below wr.heap.size wr wx ∧ Blk wx b6 #[.int .i64 lc.b, .string lc.s, .int .i64 lc.d] 116 ∧ Blk wx b7 #[.int .i64 uc.b, .string uc.s, .int .i64 uc.d] 116)
        case first =>
          refine wp_region_held_drew (S := (fun w' => w'.cell? ⟨b, off + k * 4, none⟩ = some (.string x.lo) ∧ w'.cell? ⟨b, off + k * 4 + 1, none⟩ = some (.string x.hi) ∧ w'.cell? ⟨b, off + k * 4 + 2, none⟩ = some (.int .i64 x.le) ∧ w'.cell? ⟨b, off + k * 4 + 3, none⟩ = some (.int .i64 x.he))) (by kernel_rfl) (by exact Hcell.out _ (bw_via Hb1.out (bwD _))) (fun hHeld => ?_)
          refine' tk 0 ?_
          try simp only [tkS]
          refine' tk 1 ?_
          try simp only [tkS]
          refine' tk 2 ?_
          try simp only [tkS]
          refine' tk 3 ?_
          try simp only [tkS]
          refine' tk 4 ?_
          try simp only [tkS]
          refine' tk 5 ?_
          try simp only [tkS]
          refine' tk 6 ?_
          try simp only [tkS]
          refine' tk 7 ?_
          try simp only [tkS]
          refine' tk 8 ?_
          try simp only [tkS]
          refine' tk 9 ?_
          try simp only [tkS]
          refine' tk 11 ?_
          try simp only [tkS]
          refine' tk 12 ?_
          try simp only [tkS]
          refine' tk 13 ?_
          try simp only [tkS]
          refine' tk 14 ?_
          try simp only [tkS]
          refine' tk 15 ?_
          try simp only [tkS]
          refine' tk 16 ?_
          try simp only [tkS]
          refine' tk 17 ?_
          try simp only [tkS]
          refine' tk 18 ?_
          try simp only [tkS]
          refine' tk 19 ?_
          try simp only [tkS]
          refine' tk 20 ?_
          try simp only [tkS]
          have hbD : Below wr.heap.size wr w1.drew := bw_via Hb1.out (bwD _)
          generalize w1.drew = wD at *
          have HbD := hI hbD
          clear hbD
          refine wpAnyH_ready (rs := [10, 22, 23]) (by kernel_rfl) (by simp) ?_
          refine AllReadyH.cons rfl (fun K hK => ?_) (AllReadyH.cons rfl (fun K hK => ?_) (AllReadyH.cons rfl (fun K hK => ?_) AllReadyH.nil))
          · go_simp
            go_at_call 89
            refine (HLx.out _).mono ?_
            rintro e5 wx1 ⟨rfl, hbx1⟩
            have Hx1 := hI (bw_via HbD.out hbx1)
            clear hbx1
            refine hK.out _ _ (by exact Hcell.out _ Hx1.out) (fun hHeld => ?_)
            clear hK K
            try simp only [tkS]
            refine wpAnyH_ready (rs := [21, 22, 23]) (by kernel_rfl) (by simp) ?_
            refine AllReadyH.cons rfl (fun K hK => ?_) (AllReadyH.cons rfl (fun K hK => ?_) (AllReadyH.cons rfl (fun K hK => ?_) AllReadyH.nil))
            · go_simp
              go_at_call 90
              refine (HUx.out _).mono ?_
              rintro e5 wx2 ⟨rfl, hbx2⟩
              have Hx2 := hI (bw_via Hx1.out hbx2)
              clear hbx2
              refine hK.out _ _ (by exact Hcell.out _ Hx2.out) (fun hHeld => ?_)
              clear hK K
              try simp only [tkS]
              refine wpAnyH_ready (rs := [22, 23]) (by kernel_rfl) (by simp) ?_
              refine AllReadyH.cons rfl (fun K hK => ?_) (AllReadyH.cons rfl (fun K hK => ?_) AllReadyH.nil)
              · go_simp
                refine hK.out _ _ (by exact Hcell.out _ (bwA Hx2.out (.cells #[.int .i64 0, .string ⟨#[]⟩, .int .i64 0] 116))) (fun hHeld => ?_)
                clear hK K
                try simp only [tkS]
                have hy := bwA Hx2.out (.cells #[.int .i64 0, .string ⟨#[]⟩, .int .i64 0] 116)
                have hB : Blk (wx2.alloc (.cells #[.int .i64 0, .string ⟨#[]⟩, .int .i64 0] 116)) wx2.heap.size #[.int .i64 0, .string ⟨#[]⟩, .int .i64 0] 116 := Blk.new wx2 _ _
                have hG : wr.heap.size ≤ wx2.heap.size := Hx2.out.size
                generalize wx2.alloc (.cells #[.int .i64 0, .string ⟨#[]⟩, .int .i64 0] 116) = wx3 at *
                generalize hbs3 : wx2.heap.size = BA3 at *
                clear hbs3
                have Hx3 := hI hy
                have HBA3 := hI hB
                have HG3 := hI hG
                clear hy hB hG
                refine tk1 23 (fun K hK => ?_)
                go_simp
                refine hK.out _ _ (by exact Hcell.out _ (bwA Hx3.out (.cells #[.int .i64 0, .string ⟨#[]⟩, .int .i64 0] 116))) (fun hHeld => ?_)
                clear hK K
                try simp only [tkS]
                have hy := bwA Hx3.out (.cells #[.int .i64 0, .string ⟨#[]⟩, .int .i64 0] 116)
                have hB : Blk (wx3.alloc (.cells #[.int .i64 0, .string ⟨#[]⟩, .int .i64 0] 116)) wx3.heap.size #[.int .i64 0, .string ⟨#[]⟩, .int .i64 0] 116 := Blk.new wx3 _ _
                have hG : wr.heap.size ≤ wx3.heap.size := Hx3.out.size
                have hN : BA3 ≠ wx3.heap.size := Nat.ne_of_lt HBA3.out.lt
                have hO := HBA3.out.old (.cells #[.int .i64 0, .string ⟨#[]⟩, .int .i64 0] 116)
                generalize wx3.alloc (.cells #[.int .i64 0, .string ⟨#[]⟩, .int .i64 0] 116) = wx4 at *
                generalize hbs4 : wx3.heap.size = BB4 at *
                clear hbs4
                have Hx4 := hI hy
                have HBB4 := hI hB
                have HG4 := hI hG
                have HN4 := hI hN
                have HBA4 := hI hO
                clear hN hO
                clear hy hB hG
                refine tk1 24 (fun K hK => ?_)
                obtain ⟨⟨z0, z1, z2⟩, f0, f1, f2⟩ := blk3v HBA4.out
                go_simp
                refine hK.out _ _ (by exact Hcell.out _ (below_put3 _ _ _ Hx4.out HG3.out)) (fun hHeld => ?_)
                clear hK K
                try simp only [tkS]
                have hy := below_put3 (.int .i64 lc.b) (.string lc.s) (.int .i64 lc.d) Hx4.out HG3.out
                have hB := Blk.put3 (.int .i64 lc.b) (.string lc.s) (.int .i64 lc.d) HBA4.out
                have hO := Blk.off3 (.int .i64 lc.b) (.string lc.s) (.int .i64 lc.d) HBB4.out (HN4.out.symm)
                clear z0 z1 z2 f0 f1 f2
                generalize ((wx4.setCell ⟨BA3, 0, none⟩ (.int .i64 lc.b)).setCell ⟨BA3, 1, none⟩ (.string lc.s)).setCell ⟨BA3, 2, none⟩ (.int .i64 lc.d) = wx5 at *
                have Hx5 := hI hy
                have HBA5 := hI hB
                have HBB5 := hI hO
                clear hy hB hO
                refine tk1 25 (fun K hK => ?_)
                obtain ⟨⟨z0, z1, z2⟩, f0, f1, f2⟩ := blk3v HBB5.out
                go_simp
                refine hK.out _ _ (by exact Hcell.out _ (below_put3 _ _ _ Hx5.out HG4.out)) (fun hHeld => ?_)
                clear hK K
                try simp only [tkS]
                have hy := below_put3 (.int .i64 uc.b) (.string uc.s) (.int .i64 uc.d) Hx5.out HG4.out
                have hB := Blk.put3 (.int .i64 uc.b) (.string uc.s) (.int .i64 uc.d) HBB5.out
                have hO := Blk.off3 (.int .i64 uc.b) (.string uc.s) (.int .i64 uc.d) HBA5.out (HN4.out)
                clear z0 z1 z2 f0 f1 f2
                generalize ((wx5.setCell ⟨BB4, 0, none⟩ (.int .i64 uc.b)).setCell ⟨BB4, 1, none⟩ (.string uc.s)).setCell ⟨BB4, 2, none⟩ (.int .i64 uc.d) = wx6 at *
                have Hx6 := hI hy
                have HBB6 := hI hB
                have HBA6 := hI hO
                clear hy hB hO
                refine tkD ?_ _
                go_wp2_with fail
                go_meet
                exact ⟨BA3, BB4, rfl, rfl, Hx6.out, HBA6.out, HBB6.out⟩
              · go_simp
                refine hK.out _ _ (by exact Hcell.out _ (bwA Hx2.out (.cells #[.int .i64 0, .string ⟨#[]⟩, .int .i64 0] 116))) (fun hHeld => ?_)
                clear hK K
                try simp only [tkS]
                have hy := bwA Hx2.out (.cells #[.int .i64 0, .string ⟨#[]⟩, .int .i64 0] 116)
                have hB : Blk (wx2.alloc (.cells #[.int .i64 0, .string ⟨#[]⟩, .int .i64 0] 116)) wx2.heap.size #[.int .i64 0, .string ⟨#[]⟩, .int .i64 0] 116 := Blk.new wx2 _ _
                have hG : wr.heap.size ≤ wx2.heap.size := Hx2.out.size
                generalize wx2.alloc (.cells #[.int .i64 0, .string ⟨#[]⟩, .int .i64 0] 116) = wx7 at *
                generalize hbs7 : wx2.heap.size = BB7 at *
                clear hbs7
                have Hx7 := hI hy
                have HBB7 := hI hB
                have HG7 := hI hG
                clear hy hB hG
                refine tk1 22 (fun K hK => ?_)
                go_simp
                refine hK.out _ _ (by exact Hcell.out _ (bwA Hx7.out (.cells #[.int .i64 0, .string ⟨#[]⟩, .int .i64 0] 116))) (fun hHeld => ?_)
                clear hK K
                try simp only [tkS]
                have hy := bwA Hx7.out (.cells #[.int .i64 0, .string ⟨#[]⟩, .int .i64 0] 116)
                have hB : Blk (wx7.alloc (.cells #[.int .i64 0, .string ⟨#[]⟩, .int .i64 0] 116)) wx7.heap.size #[.int .i64 0, .string ⟨#[]⟩, .int .i64 0] 116 := Blk.new wx7 _ _
                have hG : wr.heap.size ≤ wx7.heap.size := Hx7.out.size
                have hN : BB7 ≠ wx7.heap.size := Nat.ne_of_lt HBB7.out.lt
                have hO := HBB7.out.old (.cells #[.int .i64 0, .string ⟨#[]⟩, .int .i64 0] 116)
                generalize wx7.alloc (.cells #[.int .i64 0, .string ⟨#[]⟩, .int .i64 0] 116) = wx8 at *
                generalize hbs8 : wx7.heap.size = BA8 at *
                clear hbs8
                have Hx8 := hI hy
                have HBA8 := hI hB
                have HG8 := hI hG
                have HN8 := hI hN
                have HBB8 := hI hO
                clear hN hO
                clear hy hB hG
                refine tk1 24 (fun K hK => ?_)
                obtain ⟨⟨z0, z1, z2⟩, f0, f1, f2⟩ := blk3v HBA8.out
                go_simp
                refine hK.out _ _ (by exact Hcell.out _ (below_put3 _ _ _ Hx8.out HG8.out)) (fun hHeld => ?_)
                clear hK K
                try simp only [tkS]
                have hy := below_put3 (.int .i64 lc.b) (.string lc.s) (.int .i64 lc.d) Hx8.out HG8.out
                have hB := Blk.put3 (.int .i64 lc.b) (.string lc.s) (.int .i64 lc.d) HBA8.out
                have hO := Blk.off3 (.int .i64 lc.b) (.string lc.s) (.int .i64 lc.d) HBB8.out (HN8.out)
                clear z0 z1 z2 f0 f1 f2
                generalize ((wx8.setCell ⟨BA8, 0, none⟩ (.int .i64 lc.b)).setCell ⟨BA8, 1, none⟩ (.string lc.s)).setCell ⟨BA8, 2, none⟩ (.int .i64 lc.d) = wx9 at *
                have Hx9 := hI hy
                have HBA9 := hI hB
                have HBB9 := hI hO
                clear hy hB hO
                refine tk1 25 (fun K hK => ?_)
                obtain ⟨⟨z0, z1, z2⟩, f0, f1, f2⟩ := blk3v HBB9.out
                go_simp
                refine hK.out _ _ (by exact Hcell.out _ (below_put3 _ _ _ Hx9.out HG7.out)) (fun hHeld => ?_)
                clear hK K
                try simp only [tkS]
                have hy := below_put3 (.int .i64 uc.b) (.string uc.s) (.int .i64 uc.d) Hx9.out HG7.out
                have hB := Blk.put3 (.int .i64 uc.b) (.string uc.s) (.int .i64 uc.d) HBB9.out
                have hO := Blk.off3 (.int .i64 uc.b) (.string uc.s) (.int .i64 uc.d) HBA9.out (HN8.out.symm)
                clear z0 z1 z2 f0 f1 f2
                generalize ((wx9.setCell ⟨BB7, 0, none⟩ (.int .i64 uc.b)).setCell ⟨BB7, 1, none⟩ (.string uc.s)).setCell ⟨BB7, 2, none⟩ (.int .i64 uc.d) = wx10 at *
                have Hx10 := hI hy
                have HBB10 := hI hB
                have HBA10 := hI hO
                clear hy hB hO
                refine tkD ?_ _
                go_wp2_with fail
                go_meet
                exact ⟨BA8, BB7, rfl, rfl, Hx10.out, HBA10.out, HBB10.out⟩
            · go_simp
              refine hK.out _ _ (by exact Hcell.out _ (bwA Hx1.out (.cells #[.int .i64 0, .string ⟨#[]⟩, .int .i64 0] 116))) (fun hHeld => ?_)
              clear hK K
              try simp only [tkS]
              have hy := bwA Hx1.out (.cells #[.int .i64 0, .string ⟨#[]⟩, .int .i64 0] 116)
              have hB : Blk (wx1.alloc (.cells #[.int .i64 0, .string ⟨#[]⟩, .int .i64 0] 116)) wx1.heap.size #[.int .i64 0, .string ⟨#[]⟩, .int .i64 0] 116 := Blk.new wx1 _ _
              have hG : wr.heap.size ≤ wx1.heap.size := Hx1.out.size
              generalize wx1.alloc (.cells #[.int .i64 0, .string ⟨#[]⟩, .int .i64 0] 116) = wx11 at *
              generalize hbs11 : wx1.heap.size = BA11 at *
              clear hbs11
              have Hx11 := hI hy
              have HBA11 := hI hB
              have HG11 := hI hG
              clear hy hB hG
              refine wpAnyH_ready (rs := [21, 23]) (by kernel_rfl) (by simp) ?_
              refine AllReadyH.cons rfl (fun K hK => ?_) (AllReadyH.cons rfl (fun K hK => ?_) AllReadyH.nil)
              · go_simp
                go_at_call 90
                refine (HUx.out _).mono ?_
                rintro e5 wx12 ⟨rfl, hbx12⟩
                have Hx12 := hI (bw_via Hx11.out hbx12)
                have HBA12 := hI (HBA11.out.below hbx12)
                clear hbx12
                refine hK.out _ _ (by exact Hcell.out _ Hx12.out) (fun hHeld => ?_)
                clear hK K
                try simp only [tkS]
                refine tk1 23 (fun K hK => ?_)
                go_simp
                refine hK.out _ _ (by exact Hcell.out _ (bwA Hx12.out (.cells #[.int .i64 0, .string ⟨#[]⟩, .int .i64 0] 116))) (fun hHeld => ?_)
                clear hK K
                try simp only [tkS]
                have hy := bwA Hx12.out (.cells #[.int .i64 0, .string ⟨#[]⟩, .int .i64 0] 116)
                have hB : Blk (wx12.alloc (.cells #[.int .i64 0, .string ⟨#[]⟩, .int .i64 0] 116)) wx12.heap.size #[.int .i64 0, .string ⟨#[]⟩, .int .i64 0] 116 := Blk.new wx12 _ _
                have hG : wr.heap.size ≤ wx12.heap.size := Hx12.out.size
                have hN : BA11 ≠ wx12.heap.size := Nat.ne_of_lt HBA12.out.lt
                have hO := HBA12.out.old (.cells #[.int .i64 0, .string ⟨#[]⟩, .int .i64 0] 116)
                generalize wx12.alloc (.cells #[.int .i64 0, .string ⟨#[]⟩, .int .i64 0] 116) = wx13 at *
                generalize hbs13 : wx12.heap.size = BB13 at *
                clear hbs13
                have Hx13 := hI hy
                have HBB13 := hI hB
                have HG13 := hI hG
                have HN13 := hI hN
                have HBA13 := hI hO
                clear hN hO
                clear hy hB hG
                refine tk1 24 (fun K hK => ?_)
                obtain ⟨⟨z0, z1, z2⟩, f0, f1, f2⟩ := blk3v HBA13.out
                go_simp
                refine hK.out _ _ (by exact Hcell.out _ (below_put3 _ _ _ Hx13.out HG11.out)) (fun hHeld => ?_)
                clear hK K
                try simp only [tkS]
                have hy := below_put3 (.int .i64 lc.b) (.string lc.s) (.int .i64 lc.d) Hx13.out HG11.out
                have hB := Blk.put3 (.int .i64 lc.b) (.string lc.s) (.int .i64 lc.d) HBA13.out
                have hO := Blk.off3 (.int .i64 lc.b) (.string lc.s) (.int .i64 lc.d) HBB13.out (HN13.out.symm)
                clear z0 z1 z2 f0 f1 f2
                generalize ((wx13.setCell ⟨BA11, 0, none⟩ (.int .i64 lc.b)).setCell ⟨BA11, 1, none⟩ (.string lc.s)).setCell ⟨BA11, 2, none⟩ (.int .i64 lc.d) = wx14 at *
                have Hx14 := hI hy
                have HBA14 := hI hB
                have HBB14 := hI hO
                clear hy hB hO
                refine tk1 25 (fun K hK => ?_)
                obtain ⟨⟨z0, z1, z2⟩, f0, f1, f2⟩ := blk3v HBB14.out
                go_simp
                refine hK.out _ _ (by exact Hcell.out _ (below_put3 _ _ _ Hx14.out HG13.out)) (fun hHeld => ?_)
                clear hK K
                try simp only [tkS]
                have hy := below_put3 (.int .i64 uc.b) (.string uc.s) (.int .i64 uc.d) Hx14.out HG13.out
                have hB := Blk.put3 (.int .i64 uc.b) (.string uc.s) (.int .i64 uc.d) HBB14.out
                have hO := Blk.off3 (.int .i64 uc.b) (.string uc.s) (.int .i64 uc.d) HBA14.out (HN13.out)
                clear z0 z1 z2 f0 f1 f2
                generalize ((wx14.setCell ⟨BB13, 0, none⟩ (.int .i64 uc.b)).setCell ⟨BB13, 1, none⟩ (.string uc.s)).setCell ⟨BB13, 2, none⟩ (.int .i64 uc.d) = wx15 at *
                have Hx15 := hI hy
                have HBB15 := hI hB
                have HBA15 := hI hO
                clear hy hB hO
                refine tkD ?_ _
                go_wp2_with fail
                go_meet
                exact ⟨BA11, BB13, rfl, rfl, Hx15.out, HBA15.out, HBB15.out⟩
              · go_simp
                refine hK.out _ _ (by exact Hcell.out _ (bwA Hx11.out (.cells #[.int .i64 0, .string ⟨#[]⟩, .int .i64 0] 116))) (fun hHeld => ?_)
                clear hK K
                try simp only [tkS]
                have hy := bwA Hx11.out (.cells #[.int .i64 0, .string ⟨#[]⟩, .int .i64 0] 116)
                have hB : Blk (wx11.alloc (.cells #[.int .i64 0, .string ⟨#[]⟩, .int .i64 0] 116)) wx11.heap.size #[.int .i64 0, .string ⟨#[]⟩, .int .i64 0] 116 := Blk.new wx11 _ _
                have hG : wr.heap.size ≤ wx11.heap.size := Hx11.out.size
                have hN : BA11 ≠ wx11.heap.size := Nat.ne_of_lt HBA11.out.lt
                have hO := HBA11.out.old (.cells #[.int .i64 0, .string ⟨#[]⟩, .int .i64 0] 116)
                generalize wx11.alloc (.cells #[.int .i64 0, .string ⟨#[]⟩, .int .i64 0] 116) = wx16 at *
                generalize hbs16 : wx11.heap.size = BB16 at *
                clear hbs16
                have Hx16 := hI hy
                have HBB16 := hI hB
                have HG16 := hI hG
                have HN16 := hI hN
                have HBA16 := hI hO
                clear hN hO
                clear hy hB hG
                refine tk1 21 (fun K hK => ?_)
                go_simp
                go_at_call 90
                refine (HUx.out _).mono ?_
                rintro e5 wx17 ⟨rfl, hbx17⟩
                have Hx17 := hI (bw_via Hx16.out hbx17)
                have HBA17 := hI (HBA16.out.below hbx17)
                have HBB17 := hI (HBB16.out.below hbx17)
                clear hbx17
                refine hK.out _ _ (by exact Hcell.out _ Hx17.out) (fun hHeld => ?_)
                clear hK K
                try simp only [tkS]
                refine tk1 24 (fun K hK => ?_)
                obtain ⟨⟨z0, z1, z2⟩, f0, f1, f2⟩ := blk3v HBA17.out
                go_simp
                refine hK.out _ _ (by exact Hcell.out _ (below_put3 _ _ _ Hx17.out HG11.out)) (fun hHeld => ?_)
                clear hK K
                try simp only [tkS]
                have hy := below_put3 (.int .i64 lc.b) (.string lc.s) (.int .i64 lc.d) Hx17.out HG11.out
                have hB := Blk.put3 (.int .i64 lc.b) (.string lc.s) (.int .i64 lc.d) HBA17.out
                have hO := Blk.off3 (.int .i64 lc.b) (.string lc.s) (.int .i64 lc.d) HBB17.out (HN16.out.symm)
                clear z0 z1 z2 f0 f1 f2
                generalize ((wx17.setCell ⟨BA11, 0, none⟩ (.int .i64 lc.b)).setCell ⟨BA11, 1, none⟩ (.string lc.s)).setCell ⟨BA11, 2, none⟩ (.int .i64 lc.d) = wx18 at *
                have Hx18 := hI hy
                have HBA18 := hI hB
                have HBB18 := hI hO
                clear hy hB hO
                refine tk1 25 (fun K hK => ?_)
                obtain ⟨⟨z0, z1, z2⟩, f0, f1, f2⟩ := blk3v HBB18.out
                go_simp
                refine hK.out _ _ (by exact Hcell.out _ (below_put3 _ _ _ Hx18.out HG16.out)) (fun hHeld => ?_)
                clear hK K
                try simp only [tkS]
                have hy := below_put3 (.int .i64 uc.b) (.string uc.s) (.int .i64 uc.d) Hx18.out HG16.out
                have hB := Blk.put3 (.int .i64 uc.b) (.string uc.s) (.int .i64 uc.d) HBB18.out
                have hO := Blk.off3 (.int .i64 uc.b) (.string uc.s) (.int .i64 uc.d) HBA18.out (HN16.out)
                clear z0 z1 z2 f0 f1 f2
                generalize ((wx18.setCell ⟨BB16, 0, none⟩ (.int .i64 uc.b)).setCell ⟨BB16, 1, none⟩ (.string uc.s)).setCell ⟨BB16, 2, none⟩ (.int .i64 uc.d) = wx19 at *
                have Hx19 := hI hy
                have HBB19 := hI hB
                have HBA19 := hI hO
                clear hy hB hO
                refine tkD ?_ _
                go_wp2_with fail
                go_meet
                exact ⟨BA11, BB16, rfl, rfl, Hx19.out, HBA19.out, HBB19.out⟩
            · go_simp
              refine hK.out _ _ (by exact Hcell.out _ (bwA Hx1.out (.cells #[.int .i64 0, .string ⟨#[]⟩, .int .i64 0] 116))) (fun hHeld => ?_)
              clear hK K
              try simp only [tkS]
              have hy := bwA Hx1.out (.cells #[.int .i64 0, .string ⟨#[]⟩, .int .i64 0] 116)
              have hB : Blk (wx1.alloc (.cells #[.int .i64 0, .string ⟨#[]⟩, .int .i64 0] 116)) wx1.heap.size #[.int .i64 0, .string ⟨#[]⟩, .int .i64 0] 116 := Blk.new wx1 _ _
              have hG : wr.heap.size ≤ wx1.heap.size := Hx1.out.size
              generalize wx1.alloc (.cells #[.int .i64 0, .string ⟨#[]⟩, .int .i64 0] 116) = wx20 at *
              generalize hbs20 : wx1.heap.size = BB20 at *
              clear hbs20
              have Hx20 := hI hy
              have HBB20 := hI hB
              have HG20 := hI hG
              clear hy hB hG
              refine wpAnyH_ready (rs := [21, 22]) (by kernel_rfl) (by simp) ?_
              refine AllReadyH.cons rfl (fun K hK => ?_) (AllReadyH.cons rfl (fun K hK => ?_) AllReadyH.nil)
              · go_simp
                go_at_call 90
                refine (HUx.out _).mono ?_
                rintro e5 wx21 ⟨rfl, hbx21⟩
                have Hx21 := hI (bw_via Hx20.out hbx21)
                have HBB21 := hI (HBB20.out.below hbx21)
                clear hbx21
                refine hK.out _ _ (by exact Hcell.out _ Hx21.out) (fun hHeld => ?_)
                clear hK K
                try simp only [tkS]
                refine tk1 22 (fun K hK => ?_)
                go_simp
                refine hK.out _ _ (by exact Hcell.out _ (bwA Hx21.out (.cells #[.int .i64 0, .string ⟨#[]⟩, .int .i64 0] 116))) (fun hHeld => ?_)
                clear hK K
                try simp only [tkS]
                have hy := bwA Hx21.out (.cells #[.int .i64 0, .string ⟨#[]⟩, .int .i64 0] 116)
                have hB : Blk (wx21.alloc (.cells #[.int .i64 0, .string ⟨#[]⟩, .int .i64 0] 116)) wx21.heap.size #[.int .i64 0, .string ⟨#[]⟩, .int .i64 0] 116 := Blk.new wx21 _ _
                have hG : wr.heap.size ≤ wx21.heap.size := Hx21.out.size
                have hN : BB20 ≠ wx21.heap.size := Nat.ne_of_lt HBB21.out.lt
                have hO := HBB21.out.old (.cells #[.int .i64 0, .string ⟨#[]⟩, .int .i64 0] 116)
                generalize wx21.alloc (.cells #[.int .i64 0, .string ⟨#[]⟩, .int .i64 0] 116) = wx22 at *
                generalize hbs22 : wx21.heap.size = BA22 at *
                clear hbs22
                have Hx22 := hI hy
                have HBA22 := hI hB
                have HG22 := hI hG
                have HN22 := hI hN
                have HBB22 := hI hO
                clear hN hO
                clear hy hB hG
                refine tk1 24 (fun K hK => ?_)
                obtain ⟨⟨z0, z1, z2⟩, f0, f1, f2⟩ := blk3v HBA22.out
                go_simp
                refine hK.out _ _ (by exact Hcell.out _ (below_put3 _ _ _ Hx22.out HG22.out)) (fun hHeld => ?_)
                clear hK K
                try simp only [tkS]
                have hy := below_put3 (.int .i64 lc.b) (.string lc.s) (.int .i64 lc.d) Hx22.out HG22.out
                have hB := Blk.put3 (.int .i64 lc.b) (.string lc.s) (.int .i64 lc.d) HBA22.out
                have hO := Blk.off3 (.int .i64 lc.b) (.string lc.s) (.int .i64 lc.d) HBB22.out (HN22.out)
                clear z0 z1 z2 f0 f1 f2
                generalize ((wx22.setCell ⟨BA22, 0, none⟩ (.int .i64 lc.b)).setCell ⟨BA22, 1, none⟩ (.string lc.s)).setCell ⟨BA22, 2, none⟩ (.int .i64 lc.d) = wx23 at *
                have Hx23 := hI hy
                have HBA23 := hI hB
                have HBB23 := hI hO
                clear hy hB hO
                refine tk1 25 (fun K hK => ?_)
                obtain ⟨⟨z0, z1, z2⟩, f0, f1, f2⟩ := blk3v HBB23.out
                go_simp
                refine hK.out _ _ (by exact Hcell.out _ (below_put3 _ _ _ Hx23.out HG20.out)) (fun hHeld => ?_)
                clear hK K
                try simp only [tkS]
                have hy := below_put3 (.int .i64 uc.b) (.string uc.s) (.int .i64 uc.d) Hx23.out HG20.out
                have hB := Blk.put3 (.int .i64 uc.b) (.string uc.s) (.int .i64 uc.d) HBB23.out
                have hO := Blk.off3 (.int .i64 uc.b) (.string uc.s) (.int .i64 uc.d) HBA23.out (HN22.out.symm)
                clear z0 z1 z2 f0 f1 f2
                generalize ((wx23.setCell ⟨BB20, 0, none⟩ (.int .i64 uc.b)).setCell ⟨BB20, 1, none⟩ (.string uc.s)).setCell ⟨BB20, 2, none⟩ (.int .i64 uc.d) = wx24 at *
                have Hx24 := hI hy
                have HBB24 := hI hB
                have HBA24 := hI hO
                clear hy hB hO
                refine tkD ?_ _
                go_wp2_with fail
                go_meet
                exact ⟨BA22, BB20, rfl, rfl, Hx24.out, HBA24.out, HBB24.out⟩
              · go_simp
                refine hK.out _ _ (by exact Hcell.out _ (bwA Hx20.out (.cells #[.int .i64 0, .string ⟨#[]⟩, .int .i64 0] 116))) (fun hHeld => ?_)
                clear hK K
                try simp only [tkS]
                have hy := bwA Hx20.out (.cells #[.int .i64 0, .string ⟨#[]⟩, .int .i64 0] 116)
                have hB : Blk (wx20.alloc (.cells #[.int .i64 0, .string ⟨#[]⟩, .int .i64 0] 116)) wx20.heap.size #[.int .i64 0, .string ⟨#[]⟩, .int .i64 0] 116 := Blk.new wx20 _ _
                have hG : wr.heap.size ≤ wx20.heap.size := Hx20.out.size
                have hN : BB20 ≠ wx20.heap.size := Nat.ne_of_lt HBB20.out.lt
                have hO := HBB20.out.old (.cells #[.int .i64 0, .string ⟨#[]⟩, .int .i64 0] 116)
                generalize wx20.alloc (.cells #[.int .i64 0, .string ⟨#[]⟩, .int .i64 0] 116) = wx25 at *
                generalize hbs25 : wx20.heap.size = BA25 at *
                clear hbs25
                have Hx25 := hI hy
                have HBA25 := hI hB
                have HG25 := hI hG
                have HN25 := hI hN
                have HBB25 := hI hO
                clear hN hO
                clear hy hB hG
                refine tk1 21 (fun K hK => ?_)
                go_simp
                go_at_call 90
                refine (HUx.out _).mono ?_
                rintro e5 wx26 ⟨rfl, hbx26⟩
                have Hx26 := hI (bw_via Hx25.out hbx26)
                have HBB26 := hI (HBB25.out.below hbx26)
                have HBA26 := hI (HBA25.out.below hbx26)
                clear hbx26
                refine hK.out _ _ (by exact Hcell.out _ Hx26.out) (fun hHeld => ?_)
                clear hK K
                try simp only [tkS]
                refine tk1 24 (fun K hK => ?_)
                obtain ⟨⟨z0, z1, z2⟩, f0, f1, f2⟩ := blk3v HBA26.out
                go_simp
                refine hK.out _ _ (by exact Hcell.out _ (below_put3 _ _ _ Hx26.out HG25.out)) (fun hHeld => ?_)
                clear hK K
                try simp only [tkS]
                have hy := below_put3 (.int .i64 lc.b) (.string lc.s) (.int .i64 lc.d) Hx26.out HG25.out
                have hB := Blk.put3 (.int .i64 lc.b) (.string lc.s) (.int .i64 lc.d) HBA26.out
                have hO := Blk.off3 (.int .i64 lc.b) (.string lc.s) (.int .i64 lc.d) HBB26.out (HN25.out)
                clear z0 z1 z2 f0 f1 f2
                generalize ((wx26.setCell ⟨BA25, 0, none⟩ (.int .i64 lc.b)).setCell ⟨BA25, 1, none⟩ (.string lc.s)).setCell ⟨BA25, 2, none⟩ (.int .i64 lc.d) = wx27 at *
                have Hx27 := hI hy
                have HBA27 := hI hB
                have HBB27 := hI hO
                clear hy hB hO
                refine tk1 25 (fun K hK => ?_)
                obtain ⟨⟨z0, z1, z2⟩, f0, f1, f2⟩ := blk3v HBB27.out
                go_simp
                refine hK.out _ _ (by exact Hcell.out _ (below_put3 _ _ _ Hx27.out HG20.out)) (fun hHeld => ?_)
                clear hK K
                try simp only [tkS]
                have hy := below_put3 (.int .i64 uc.b) (.string uc.s) (.int .i64 uc.d) Hx27.out HG20.out
                have hB := Blk.put3 (.int .i64 uc.b) (.string uc.s) (.int .i64 uc.d) HBB27.out
                have hO := Blk.off3 (.int .i64 uc.b) (.string uc.s) (.int .i64 uc.d) HBA27.out (HN25.out.symm)
                clear z0 z1 z2 f0 f1 f2
                generalize ((wx27.setCell ⟨BB20, 0, none⟩ (.int .i64 uc.b)).setCell ⟨BB20, 1, none⟩ (.string uc.s)).setCell ⟨BB20, 2, none⟩ (.int .i64 uc.d) = wx28 at *
                have Hx28 := hI hy
                have HBB28 := hI hB
                have HBA28 := hI hO
                clear hy hB hO
                refine tkD ?_ _
                go_wp2_with fail
                go_meet
                exact ⟨BA25, BB20, rfl, rfl, Hx28.out, HBA28.out, HBB28.out⟩
          · go_simp
            refine hK.out _ _ (by exact Hcell.out _ (bwA HbD.out (.cells #[.int .i64 0, .string ⟨#[]⟩, .int .i64 0] 116))) (fun hHeld => ?_)
            clear hK K
            try simp only [tkS]
            have hy := bwA HbD.out (.cells #[.int .i64 0, .string ⟨#[]⟩, .int .i64 0] 116)
            have hB : Blk (wD.alloc (.cells #[.int .i64 0, .string ⟨#[]⟩, .int .i64 0] 116)) wD.heap.size #[.int .i64 0, .string ⟨#[]⟩, .int .i64 0] 116 := Blk.new wD _ _
            have hG : wr.heap.size ≤ wD.heap.size := HbD.out.size
            generalize wD.alloc (.cells #[.int .i64 0, .string ⟨#[]⟩, .int .i64 0] 116) = wx29 at *
            generalize hbs29 : wD.heap.size = BA29 at *
            clear hbs29
            have Hx29 := hI hy
            have HBA29 := hI hB
            have HG29 := hI hG
            clear hy hB hG
            refine wpAnyH_ready (rs := [10, 23]) (by kernel_rfl) (by simp) ?_
            refine AllReadyH.cons rfl (fun K hK => ?_) (AllReadyH.cons rfl (fun K hK => ?_) AllReadyH.nil)
            · go_simp
              go_at_call 89
              refine (HLx.out _).mono ?_
              rintro e5 wx30 ⟨rfl, hbx30⟩
              have Hx30 := hI (bw_via Hx29.out hbx30)
              have HBA30 := hI (HBA29.out.below hbx30)
              clear hbx30
              refine hK.out _ _ (by exact Hcell.out _ Hx30.out) (fun hHeld => ?_)
              clear hK K
              try simp only [tkS]
              refine wpAnyH_ready (rs := [21, 23]) (by kernel_rfl) (by simp) ?_
              refine AllReadyH.cons rfl (fun K hK => ?_) (AllReadyH.cons rfl (fun K hK => ?_) AllReadyH.nil)
              · go_simp
                go_at_call 90
                refine (HUx.out _).mono ?_
                rintro e5 wx31 ⟨rfl, hbx31⟩
                have Hx31 := hI (bw_via Hx30.out hbx31)
                have HBA31 := hI (HBA30.out.below hbx31)
                clear hbx31
                refine hK.out _ _ (by exact Hcell.out _ Hx31.out) (fun hHeld => ?_)
                clear hK K
                try simp only [tkS]
                refine tk1 23 (fun K hK => ?_)
                go_simp
                refine hK.out _ _ (by exact Hcell.out _ (bwA Hx31.out (.cells #[.int .i64 0, .string ⟨#[]⟩, .int .i64 0] 116))) (fun hHeld => ?_)
                clear hK K
                try simp only [tkS]
                have hy := bwA Hx31.out (.cells #[.int .i64 0, .string ⟨#[]⟩, .int .i64 0] 116)
                have hB : Blk (wx31.alloc (.cells #[.int .i64 0, .string ⟨#[]⟩, .int .i64 0] 116)) wx31.heap.size #[.int .i64 0, .string ⟨#[]⟩, .int .i64 0] 116 := Blk.new wx31 _ _
                have hG : wr.heap.size ≤ wx31.heap.size := Hx31.out.size
                have hN : BA29 ≠ wx31.heap.size := Nat.ne_of_lt HBA31.out.lt
                have hO := HBA31.out.old (.cells #[.int .i64 0, .string ⟨#[]⟩, .int .i64 0] 116)
                generalize wx31.alloc (.cells #[.int .i64 0, .string ⟨#[]⟩, .int .i64 0] 116) = wx32 at *
                generalize hbs32 : wx31.heap.size = BB32 at *
                clear hbs32
                have Hx32 := hI hy
                have HBB32 := hI hB
                have HG32 := hI hG
                have HN32 := hI hN
                have HBA32 := hI hO
                clear hN hO
                clear hy hB hG
                refine tk1 24 (fun K hK => ?_)
                obtain ⟨⟨z0, z1, z2⟩, f0, f1, f2⟩ := blk3v HBA32.out
                go_simp
                refine hK.out _ _ (by exact Hcell.out _ (below_put3 _ _ _ Hx32.out HG29.out)) (fun hHeld => ?_)
                clear hK K
                try simp only [tkS]
                have hy := below_put3 (.int .i64 lc.b) (.string lc.s) (.int .i64 lc.d) Hx32.out HG29.out
                have hB := Blk.put3 (.int .i64 lc.b) (.string lc.s) (.int .i64 lc.d) HBA32.out
                have hO := Blk.off3 (.int .i64 lc.b) (.string lc.s) (.int .i64 lc.d) HBB32.out (HN32.out.symm)
                clear z0 z1 z2 f0 f1 f2
                generalize ((wx32.setCell ⟨BA29, 0, none⟩ (.int .i64 lc.b)).setCell ⟨BA29, 1, none⟩ (.string lc.s)).setCell ⟨BA29, 2, none⟩ (.int .i64 lc.d) = wx33 at *
                have Hx33 := hI hy
                have HBA33 := hI hB
                have HBB33 := hI hO
                clear hy hB hO
                refine tk1 25 (fun K hK => ?_)
                obtain ⟨⟨z0, z1, z2⟩, f0, f1, f2⟩ := blk3v HBB33.out
                go_simp
                refine hK.out _ _ (by exact Hcell.out _ (below_put3 _ _ _ Hx33.out HG32.out)) (fun hHeld => ?_)
                clear hK K
                try simp only [tkS]
                have hy := below_put3 (.int .i64 uc.b) (.string uc.s) (.int .i64 uc.d) Hx33.out HG32.out
                have hB := Blk.put3 (.int .i64 uc.b) (.string uc.s) (.int .i64 uc.d) HBB33.out
                have hO := Blk.off3 (.int .i64 uc.b) (.string uc.s) (.int .i64 uc.d) HBA33.out (HN32.out)
                clear z0 z1 z2 f0 f1 f2
                generalize ((wx33.setCell ⟨BB32, 0, none⟩ (.int .i64 uc.b)).setCell ⟨BB32, 1, none⟩ (.string uc.s)).setCell ⟨BB32, 2, none⟩ (.int .i64 uc.d) = wx34 at *
                have Hx34 := hI hy
                have HBB34 := hI hB
                have HBA34 := hI hO
                clear hy hB hO
                refine tkD ?_ _
                go_wp2_with fail
                go_meet
                exact ⟨BA29, BB32, rfl, rfl, Hx34.out, HBA34.out, HBB34.out⟩
              · go_simp
                refine hK.out _ _ (by exact Hcell.out _ (bwA Hx30.out (.cells #[.int .i64 0, .string ⟨#[]⟩, .int .i64 0] 116))) (fun hHeld => ?_)
                clear hK K
                try simp only [tkS]
                have hy := bwA Hx30.out (.cells #[.int .i64 0, .string ⟨#[]⟩, .int .i64 0] 116)
                have hB : Blk (wx30.alloc (.cells #[.int .i64 0, .string ⟨#[]⟩, .int .i64 0] 116)) wx30.heap.size #[.int .i64 0, .string ⟨#[]⟩, .int .i64 0] 116 := Blk.new wx30 _ _
                have hG : wr.heap.size ≤ wx30.heap.size := Hx30.out.size
                have hN : BA29 ≠ wx30.heap.size := Nat.ne_of_lt HBA30.out.lt
                have hO := HBA30.out.old (.cells #[.int .i64 0, .string ⟨#[]⟩, .int .i64 0] 116)
                generalize wx30.alloc (.cells #[.int .i64 0, .string ⟨#[]⟩, .int .i64 0] 116) = wx35 at *
                generalize hbs35 : wx30.heap.size = BB35 at *
                clear hbs35
                have Hx35 := hI hy
                have HBB35 := hI hB
                have HG35 := hI hG
                have HN35 := hI hN
                have HBA35 := hI hO
                clear hN hO
                clear hy hB hG
                refine tk1 21 (fun K hK => ?_)
                go_simp
                go_at_call 90
                refine (HUx.out _).mono ?_
                rintro e5 wx36 ⟨rfl, hbx36⟩
                have Hx36 := hI (bw_via Hx35.out hbx36)
                have HBA36 := hI (HBA35.out.below hbx36)
                have HBB36 := hI (HBB35.out.below hbx36)
                clear hbx36
                refine hK.out _ _ (by exact Hcell.out _ Hx36.out) (fun hHeld => ?_)
                clear hK K
                try simp only [tkS]
                refine tk1 24 (fun K hK => ?_)
                obtain ⟨⟨z0, z1, z2⟩, f0, f1, f2⟩ := blk3v HBA36.out
                go_simp
                refine hK.out _ _ (by exact Hcell.out _ (below_put3 _ _ _ Hx36.out HG29.out)) (fun hHeld => ?_)
                clear hK K
                try simp only [tkS]
                have hy := below_put3 (.int .i64 lc.b) (.string lc.s) (.int .i64 lc.d) Hx36.out HG29.out
                have hB := Blk.put3 (.int .i64 lc.b) (.string lc.s) (.int .i64 lc.d) HBA36.out
                have hO := Blk.off3 (.int .i64 lc.b) (.string lc.s) (.int .i64 lc.d) HBB36.out (HN35.out.symm)
                clear z0 z1 z2 f0 f1 f2
                generalize ((wx36.setCell ⟨BA29, 0, none⟩ (.int .i64 lc.b)).setCell ⟨BA29, 1, none⟩ (.string lc.s)).setCell ⟨BA29, 2, none⟩ (.int .i64 lc.d) = wx37 at *
                have Hx37 := hI hy
                have HBA37 := hI hB
                have HBB37 := hI hO
                clear hy hB hO
                refine tk1 25 (fun K hK => ?_)
                obtain ⟨⟨z0, z1, z2⟩, f0, f1, f2⟩ := blk3v HBB37.out
                go_simp
                refine hK.out _ _ (by exact Hcell.out _ (below_put3 _ _ _ Hx37.out HG35.out)) (fun hHeld => ?_)
                clear hK K
                try simp only [tkS]
                have hy := below_put3 (.int .i64 uc.b) (.string uc.s) (.int .i64 uc.d) Hx37.out HG35.out
                have hB := Blk.put3 (.int .i64 uc.b) (.string uc.s) (.int .i64 uc.d) HBB37.out
                have hO := Blk.off3 (.int .i64 uc.b) (.string uc.s) (.int .i64 uc.d) HBA37.out (HN35.out)
                clear z0 z1 z2 f0 f1 f2
                generalize ((wx37.setCell ⟨BB35, 0, none⟩ (.int .i64 uc.b)).setCell ⟨BB35, 1, none⟩ (.string uc.s)).setCell ⟨BB35, 2, none⟩ (.int .i64 uc.d) = wx38 at *
                have Hx38 := hI hy
                have HBB38 := hI hB
                have HBA38 := hI hO
                clear hy hB hO
                refine tkD ?_ _
                go_wp2_with fail
                go_meet
                exact ⟨BA29, BB35, rfl, rfl, Hx38.out, HBA38.out, HBB38.out⟩
            · go_simp
              refine hK.out _ _ (by exact Hcell.out _ (bwA Hx29.out (.cells #[.int .i64 0, .string ⟨#[]⟩, .int .i64 0] 116))) (fun hHeld => ?_)
              clear hK K
              try simp only [tkS]
              have hy := bwA Hx29.out (.cells #[.int .i64 0, .string ⟨#[]⟩, .int .i64 0] 116)
              have hB : Blk (wx29.alloc (.cells #[.int .i64 0, .string ⟨#[]⟩, .int .i64 0] 116)) wx29.heap.size #[.int .i64 0, .string ⟨#[]⟩, .int .i64 0] 116 := Blk.new wx29 _ _
              have hG : wr.heap.size ≤ wx29.heap.size := Hx29.out.size
              have hN : BA29 ≠ wx29.heap.size := Nat.ne_of_lt HBA29.out.lt
              have hO := HBA29.out.old (.cells #[.int .i64 0, .string ⟨#[]⟩, .int .i64 0] 116)
              generalize wx29.alloc (.cells #[.int .i64 0, .string ⟨#[]⟩, .int .i64 0] 116) = wx39 at *
              generalize hbs39 : wx29.heap.size = BB39 at *
              clear hbs39
              have Hx39 := hI hy
              have HBB39 := hI hB
              have HG39 := hI hG
              have HN39 := hI hN
              have HBA39 := hI hO
              clear hN hO
              clear hy hB hG
              refine tk1 10 (fun K hK => ?_)
              go_simp
              go_at_call 89
              refine (HLx.out _).mono ?_
              rintro e5 wx40 ⟨rfl, hbx40⟩
              have Hx40 := hI (bw_via Hx39.out hbx40)
              have HBA40 := hI (HBA39.out.below hbx40)
              have HBB40 := hI (HBB39.out.below hbx40)
              clear hbx40
              refine hK.out _ _ (by exact Hcell.out _ Hx40.out) (fun hHeld => ?_)
              clear hK K
              try simp only [tkS]
              refine tk1 21 (fun K hK => ?_)
              go_simp
              go_at_call 90
              refine (HUx.out _).mono ?_
              rintro e5 wx41 ⟨rfl, hbx41⟩
              have Hx41 := hI (bw_via Hx40.out hbx41)
              have HBA41 := hI (HBA40.out.below hbx41)
              have HBB41 := hI (HBB40.out.below hbx41)
              clear hbx41
              refine hK.out _ _ (by exact Hcell.out _ Hx41.out) (fun hHeld => ?_)
              clear hK K
              try simp only [tkS]
              refine tk1 24 (fun K hK => ?_)
              obtain ⟨⟨z0, z1, z2⟩, f0, f1, f2⟩ := blk3v HBA41.out
              go_simp
              refine hK.out _ _ (by exact Hcell.out _ (below_put3 _ _ _ Hx41.out HG29.out)) (fun hHeld => ?_)
              clear hK K
              try simp only [tkS]
              have hy := below_put3 (.int .i64 lc.b) (.string lc.s) (.int .i64 lc.d) Hx41.out HG29.out
              have hB := Blk.put3 (.int .i64 lc.b) (.string lc.s) (.int .i64 lc.d) HBA41.out
              have hO := Blk.off3 (.int .i64 lc.b) (.string lc.s) (.int .i64 lc.d) HBB41.out (HN39.out.symm)
              clear z0 z1 z2 f0 f1 f2
              generalize ((wx41.setCell ⟨BA29, 0, none⟩ (.int .i64 lc.b)).setCell ⟨BA29, 1, none⟩ (.string lc.s)).setCell ⟨BA29, 2, none⟩ (.int .i64 lc.d) = wx42 at *
              have Hx42 := hI hy
              have HBA42 := hI hB
              have HBB42 := hI hO
              clear hy hB hO
              refine tk1 25 (fun K hK => ?_)
              obtain ⟨⟨z0, z1, z2⟩, f0, f1, f2⟩ := blk3v HBB42.out
              go_simp
              refine hK.out _ _ (by exact Hcell.out _ (below_put3 _ _ _ Hx42.out HG39.out)) (fun hHeld => ?_)
              clear hK K
              try simp only [tkS]
              have hy := below_put3 (.int .i64 uc.b) (.string uc.s) (.int .i64 uc.d) Hx42.out HG39.out
              have hB := Blk.put3 (.int .i64 uc.b) (.string uc.s) (.int .i64 uc.d) HBB42.out
              have hO := Blk.off3 (.int .i64 uc.b) (.string uc.s) (.int .i64 uc.d) HBA42.out (HN39.out)
              clear z0 z1 z2 f0 f1 f2
              generalize ((wx42.setCell ⟨BB39, 0, none⟩ (.int .i64 uc.b)).setCell ⟨BB39, 1, none⟩ (.string uc.s)).setCell ⟨BB39, 2, none⟩ (.int .i64 uc.d) = wx43 at *
              have Hx43 := hI hy
              have HBB43 := hI hB
              have HBA43 := hI hO
              clear hy hB hO
              refine tkD ?_ _
              go_wp2_with fail
              go_meet
              exact ⟨BA29, BB39, rfl, rfl, Hx43.out, HBA43.out, HBB43.out⟩
          · go_simp
            refine hK.out _ _ (by exact Hcell.out _ (bwA HbD.out (.cells #[.int .i64 0, .string ⟨#[]⟩, .int .i64 0] 116))) (fun hHeld => ?_)
            clear hK K
            try simp only [tkS]
            have hy := bwA HbD.out (.cells #[.int .i64 0, .string ⟨#[]⟩, .int .i64 0] 116)
            have hB : Blk (wD.alloc (.cells #[.int .i64 0, .string ⟨#[]⟩, .int .i64 0] 116)) wD.heap.size #[.int .i64 0, .string ⟨#[]⟩, .int .i64 0] 116 := Blk.new wD _ _
            have hG : wr.heap.size ≤ wD.heap.size := HbD.out.size
            generalize wD.alloc (.cells #[.int .i64 0, .string ⟨#[]⟩, .int .i64 0] 116) = wx44 at *
            generalize hbs44 : wD.heap.size = BB44 at *
            clear hbs44
            have Hx44 := hI hy
            have HBB44 := hI hB
            have HG44 := hI hG
            clear hy hB hG
            refine wpAnyH_ready (rs := [10, 22]) (by kernel_rfl) (by simp) ?_
            refine AllReadyH.cons rfl (fun K hK => ?_) (AllReadyH.cons rfl (fun K hK => ?_) AllReadyH.nil)
            · go_simp
              go_at_call 89
              refine (HLx.out _).mono ?_
              rintro e5 wx45 ⟨rfl, hbx45⟩
              have Hx45 := hI (bw_via Hx44.out hbx45)
              have HBB45 := hI (HBB44.out.below hbx45)
              clear hbx45
              refine hK.out _ _ (by exact Hcell.out _ Hx45.out) (fun hHeld => ?_)
              clear hK K
              try simp only [tkS]
              refine wpAnyH_ready (rs := [21, 22]) (by kernel_rfl) (by simp) ?_
              refine AllReadyH.cons rfl (fun K hK => ?_) (AllReadyH.cons rfl (fun K hK => ?_) AllReadyH.nil)
              · go_simp
                go_at_call 90
                refine (HUx.out _).mono ?_
                rintro e5 wx46 ⟨rfl, hbx46⟩
                have Hx46 := hI (bw_via Hx45.out hbx46)
                have HBB46 := hI (HBB45.out.below hbx46)
                clear hbx46
                refine hK.out _ _ (by exact Hcell.out _ Hx46.out) (fun hHeld => ?_)
                clear hK K
                try simp only [tkS]
                refine tk1 22 (fun K hK => ?_)
                go_simp
                refine hK.out _ _ (by exact Hcell.out _ (bwA Hx46.out (.cells #[.int .i64 0, .string ⟨#[]⟩, .int .i64 0] 116))) (fun hHeld => ?_)
                clear hK K
                try simp only [tkS]
                have hy := bwA Hx46.out (.cells #[.int .i64 0, .string ⟨#[]⟩, .int .i64 0] 116)
                have hB : Blk (wx46.alloc (.cells #[.int .i64 0, .string ⟨#[]⟩, .int .i64 0] 116)) wx46.heap.size #[.int .i64 0, .string ⟨#[]⟩, .int .i64 0] 116 := Blk.new wx46 _ _
                have hG : wr.heap.size ≤ wx46.heap.size := Hx46.out.size
                have hN : BB44 ≠ wx46.heap.size := Nat.ne_of_lt HBB46.out.lt
                have hO := HBB46.out.old (.cells #[.int .i64 0, .string ⟨#[]⟩, .int .i64 0] 116)
                generalize wx46.alloc (.cells #[.int .i64 0, .string ⟨#[]⟩, .int .i64 0] 116) = wx47 at *
                generalize hbs47 : wx46.heap.size = BA47 at *
                clear hbs47
                have Hx47 := hI hy
                have HBA47 := hI hB
                have HG47 := hI hG
                have HN47 := hI hN
                have HBB47 := hI hO
                clear hN hO
                clear hy hB hG
                refine tk1 24 (fun K hK => ?_)
                obtain ⟨⟨z0, z1, z2⟩, f0, f1, f2⟩ := blk3v HBA47.out
                go_simp
                refine hK.out _ _ (by exact Hcell.out _ (below_put3 _ _ _ Hx47.out HG47.out)) (fun hHeld => ?_)
                clear hK K
                try simp only [tkS]
                have hy := below_put3 (.int .i64 lc.b) (.string lc.s) (.int .i64 lc.d) Hx47.out HG47.out
                have hB := Blk.put3 (.int .i64 lc.b) (.string lc.s) (.int .i64 lc.d) HBA47.out
                have hO := Blk.off3 (.int .i64 lc.b) (.string lc.s) (.int .i64 lc.d) HBB47.out (HN47.out)
                clear z0 z1 z2 f0 f1 f2
                generalize ((wx47.setCell ⟨BA47, 0, none⟩ (.int .i64 lc.b)).setCell ⟨BA47, 1, none⟩ (.string lc.s)).setCell ⟨BA47, 2, none⟩ (.int .i64 lc.d) = wx48 at *
                have Hx48 := hI hy
                have HBA48 := hI hB
                have HBB48 := hI hO
                clear hy hB hO
                refine tk1 25 (fun K hK => ?_)
                obtain ⟨⟨z0, z1, z2⟩, f0, f1, f2⟩ := blk3v HBB48.out
                go_simp
                refine hK.out _ _ (by exact Hcell.out _ (below_put3 _ _ _ Hx48.out HG44.out)) (fun hHeld => ?_)
                clear hK K
                try simp only [tkS]
                have hy := below_put3 (.int .i64 uc.b) (.string uc.s) (.int .i64 uc.d) Hx48.out HG44.out
                have hB := Blk.put3 (.int .i64 uc.b) (.string uc.s) (.int .i64 uc.d) HBB48.out
                have hO := Blk.off3 (.int .i64 uc.b) (.string uc.s) (.int .i64 uc.d) HBA48.out (HN47.out.symm)
                clear z0 z1 z2 f0 f1 f2
                generalize ((wx48.setCell ⟨BB44, 0, none⟩ (.int .i64 uc.b)).setCell ⟨BB44, 1, none⟩ (.string uc.s)).setCell ⟨BB44, 2, none⟩ (.int .i64 uc.d) = wx49 at *
                have Hx49 := hI hy
                have HBB49 := hI hB
                have HBA49 := hI hO
                clear hy hB hO
                refine tkD ?_ _
                go_wp2_with fail
                go_meet
                exact ⟨BA47, BB44, rfl, rfl, Hx49.out, HBA49.out, HBB49.out⟩
              · go_simp
                refine hK.out _ _ (by exact Hcell.out _ (bwA Hx45.out (.cells #[.int .i64 0, .string ⟨#[]⟩, .int .i64 0] 116))) (fun hHeld => ?_)
                clear hK K
                try simp only [tkS]
                have hy := bwA Hx45.out (.cells #[.int .i64 0, .string ⟨#[]⟩, .int .i64 0] 116)
                have hB : Blk (wx45.alloc (.cells #[.int .i64 0, .string ⟨#[]⟩, .int .i64 0] 116)) wx45.heap.size #[.int .i64 0, .string ⟨#[]⟩, .int .i64 0] 116 := Blk.new wx45 _ _
                have hG : wr.heap.size ≤ wx45.heap.size := Hx45.out.size
                have hN : BB44 ≠ wx45.heap.size := Nat.ne_of_lt HBB45.out.lt
                have hO := HBB45.out.old (.cells #[.int .i64 0, .string ⟨#[]⟩, .int .i64 0] 116)
                generalize wx45.alloc (.cells #[.int .i64 0, .string ⟨#[]⟩, .int .i64 0] 116) = wx50 at *
                generalize hbs50 : wx45.heap.size = BA50 at *
                clear hbs50
                have Hx50 := hI hy
                have HBA50 := hI hB
                have HG50 := hI hG
                have HN50 := hI hN
                have HBB50 := hI hO
                clear hN hO
                clear hy hB hG
                refine tk1 21 (fun K hK => ?_)
                go_simp
                go_at_call 90
                refine (HUx.out _).mono ?_
                rintro e5 wx51 ⟨rfl, hbx51⟩
                have Hx51 := hI (bw_via Hx50.out hbx51)
                have HBB51 := hI (HBB50.out.below hbx51)
                have HBA51 := hI (HBA50.out.below hbx51)
                clear hbx51
                refine hK.out _ _ (by exact Hcell.out _ Hx51.out) (fun hHeld => ?_)
                clear hK K
                try simp only [tkS]
                refine tk1 24 (fun K hK => ?_)
                obtain ⟨⟨z0, z1, z2⟩, f0, f1, f2⟩ := blk3v HBA51.out
                go_simp
                refine hK.out _ _ (by exact Hcell.out _ (below_put3 _ _ _ Hx51.out HG50.out)) (fun hHeld => ?_)
                clear hK K
                try simp only [tkS]
                have hy := below_put3 (.int .i64 lc.b) (.string lc.s) (.int .i64 lc.d) Hx51.out HG50.out
                have hB := Blk.put3 (.int .i64 lc.b) (.string lc.s) (.int .i64 lc.d) HBA51.out
                have hO := Blk.off3 (.int .i64 lc.b) (.string lc.s) (.int .i64 lc.d) HBB51.out (HN50.out)
                clear z0 z1 z2 f0 f1 f2
                generalize ((wx51.setCell ⟨BA50, 0, none⟩ (.int .i64 lc.b)).setCell ⟨BA50, 1, none⟩ (.string lc.s)).setCell ⟨BA50, 2, none⟩ (.int .i64 lc.d) = wx52 at *
                have Hx52 := hI hy
                have HBA52 := hI hB
                have HBB52 := hI hO
                clear hy hB hO
                refine tk1 25 (fun K hK => ?_)
                obtain ⟨⟨z0, z1, z2⟩, f0, f1, f2⟩ := blk3v HBB52.out
                go_simp
                refine hK.out _ _ (by exact Hcell.out _ (below_put3 _ _ _ Hx52.out HG44.out)) (fun hHeld => ?_)
                clear hK K
                try simp only [tkS]
                have hy := below_put3 (.int .i64 uc.b) (.string uc.s) (.int .i64 uc.d) Hx52.out HG44.out
                have hB := Blk.put3 (.int .i64 uc.b) (.string uc.s) (.int .i64 uc.d) HBB52.out
                have hO := Blk.off3 (.int .i64 uc.b) (.string uc.s) (.int .i64 uc.d) HBA52.out (HN50.out.symm)
                clear z0 z1 z2 f0 f1 f2
                generalize ((wx52.setCell ⟨BB44, 0, none⟩ (.int .i64 uc.b)).setCell ⟨BB44, 1, none⟩ (.string uc.s)).setCell ⟨BB44, 2, none⟩ (.int .i64 uc.d) = wx53 at *
                have Hx53 := hI hy
                have HBB53 := hI hB
                have HBA53 := hI hO
                clear hy hB hO
                refine tkD ?_ _
                go_wp2_with fail
                go_meet
                exact ⟨BA50, BB44, rfl, rfl, Hx53.out, HBA53.out, HBB53.out⟩
            · go_simp
              refine hK.out _ _ (by exact Hcell.out _ (bwA Hx44.out (.cells #[.int .i64 0, .string ⟨#[]⟩, .int .i64 0] 116))) (fun hHeld => ?_)
              clear hK K
              try simp only [tkS]
              have hy := bwA Hx44.out (.cells #[.int .i64 0, .string ⟨#[]⟩, .int .i64 0] 116)
              have hB : Blk (wx44.alloc (.cells #[.int .i64 0, .string ⟨#[]⟩, .int .i64 0] 116)) wx44.heap.size #[.int .i64 0, .string ⟨#[]⟩, .int .i64 0] 116 := Blk.new wx44 _ _
              have hG : wr.heap.size ≤ wx44.heap.size := Hx44.out.size
              have hN : BB44 ≠ wx44.heap.size := Nat.ne_of_lt HBB44.out.lt
              have hO := HBB44.out.old (.cells #[.int .i64 0, .string ⟨#[]⟩, .int .i64 0] 116)
              generalize wx44.alloc (.cells #[.int .i64 0, .string ⟨#[]⟩, .int .i64 0] 116) = wx54 at *
              generalize hbs54 : wx44.heap.size = BA54 at *
              clear hbs54
              have Hx54 := hI hy
              have HBA54 := hI hB
              have HG54 := hI hG
              have HN54 := hI hN
              have HBB54 := hI hO
              clear hN hO
              clear hy hB hG
              refine tk1 10 (fun K hK => ?_)
              go_simp
              go_at_call 89
              refine (HLx.out _).mono ?_
              rintro e5 wx55 ⟨rfl, hbx55⟩
              have Hx55 := hI (bw_via Hx54.out hbx55)
              have HBB55 := hI (HBB54.out.below hbx55)
              have HBA55 := hI (HBA54.out.below hbx55)
              clear hbx55
              refine hK.out _ _ (by exact Hcell.out _ Hx55.out) (fun hHeld => ?_)
              clear hK K
              try simp only [tkS]
              refine tk1 21 (fun K hK => ?_)
              go_simp
              go_at_call 90
              refine (HUx.out _).mono ?_
              rintro e5 wx56 ⟨rfl, hbx56⟩
              have Hx56 := hI (bw_via Hx55.out hbx56)
              have HBB56 := hI (HBB55.out.below hbx56)
              have HBA56 := hI (HBA55.out.below hbx56)
              clear hbx56
              refine hK.out _ _ (by exact Hcell.out _ Hx56.out) (fun hHeld => ?_)
              clear hK K
              try simp only [tkS]
              refine tk1 24 (fun K hK => ?_)
              obtain ⟨⟨z0, z1, z2⟩, f0, f1, f2⟩ := blk3v HBA56.out
              go_simp
              refine hK.out _ _ (by exact Hcell.out _ (below_put3 _ _ _ Hx56.out HG54.out)) (fun hHeld => ?_)
              clear hK K
              try simp only [tkS]
              have hy := below_put3 (.int .i64 lc.b) (.string lc.s) (.int .i64 lc.d) Hx56.out HG54.out
              have hB := Blk.put3 (.int .i64 lc.b) (.string lc.s) (.int .i64 lc.d) HBA56.out
              have hO := Blk.off3 (.int .i64 lc.b) (.string lc.s) (.int .i64 lc.d) HBB56.out (HN54.out)
              clear z0 z1 z2 f0 f1 f2
              generalize ((wx56.setCell ⟨BA54, 0, none⟩ (.int .i64 lc.b)).setCell ⟨BA54, 1, none⟩ (.string lc.s)).setCell ⟨BA54, 2, none⟩ (.int .i64 lc.d) = wx57 at *
              have Hx57 := hI hy
              have HBA57 := hI hB
              have HBB57 := hI hO
              clear hy hB hO
              refine tk1 25 (fun K hK => ?_)
              obtain ⟨⟨z0, z1, z2⟩, f0, f1, f2⟩ := blk3v HBB57.out
              go_simp
              refine hK.out _ _ (by exact Hcell.out _ (below_put3 _ _ _ Hx57.out HG44.out)) (fun hHeld => ?_)
              clear hK K
              try simp only [tkS]
              have hy := below_put3 (.int .i64 uc.b) (.string uc.s) (.int .i64 uc.d) Hx57.out HG44.out
              have hB := Blk.put3 (.int .i64 uc.b) (.string uc.s) (.int .i64 uc.d) HBB57.out
              have hO := Blk.off3 (.int .i64 uc.b) (.string uc.s) (.int .i64 uc.d) HBA57.out (HN54.out.symm)
              clear z0 z1 z2 f0 f1 f2
              generalize ((wx57.setCell ⟨BB44, 0, none⟩ (.int .i64 uc.b)).setCell ⟨BB44, 1, none⟩ (.string uc.s)).setCell ⟨BB44, 2, none⟩ (.int .i64 uc.d) = wx58 at *
              have Hx58 := hI hy
              have HBB58 := hI hB
              have HBA58 := hI hO
              clear hy hB hO
              refine tkD ?_ _
              go_wp2_with fail
              go_meet
              exact ⟨BA54, BB44, rfl, rfl, Hx58.out, HBA58.out, HBB58.out⟩
        case rest =>
          obtain ⟨b6, b7, rfl, rfl, hbx, hB6, hB7⟩ := hcut
          have HbX := hI hbx
          have HB6 := hI hB6
          have HB7 := hI hB7
          obtain ⟨⟨g0, g1, g2⟩, -⟩ := blk3v hB6
          obtain ⟨⟨h0, h1, h2⟩, -⟩ := blk3v hB7
          clear hbx hB6 hB7
          generalize hR : cmpG x.low x.high = R at *
          have HRR := hI hR
          clear hR
          by_cases hRs : 0 ≤ R
          · have Hres := hI (show E = 7 by rw [Hse.out, errFrom_empty HR.out.2.2.2.2 (by rw [HRR.out]; exact hRs)])
            go_wp2_with (go_at_call 99; refine (H99.out _).mono ?_; rintro e w2 ⟨rfl, hb2⟩)
            go_ret
            exact ⟨by rw [Hres.out]; rfl, Hbw.out.via (bw_via HbX.out hb2) Hbw.out.size⟩
          · have hR2 : ¬ 0 ≤ R := hRs
            clear hRs
            rcases Hst.out with ⟨hk0', hc⟩ | ⟨hk0', hcok, hlast⟩
            · subst hc
              have HNX := hI (show E = errFrom (lastCut xs (k + 1)) (xs.drop (k + 1)) by
                rw [Hse.out]
                obtain rfl : k = 0 := hk0'
                show errFrom none _ = _
                rw [errFrom_first HR.out.2.2.2.2 (by rw [HRR.out]; exact hR2)]
                show _ = errFrom (xs[0]?.map Iv.high) _
                rw [Hx.out]; rfl)
              have HB37 := hI (fun w' (hb : Below wr.heap.size wr w') => HB3.out.below hb)
              clear hk0' Hst
              go_upto_region 13 with (go_at_call 99; refine (H99.out _).mono ?_; rintro e w2 ⟨rfl, hb2⟩; have Hb2 := hI (bw_via HbX.out hb2); obtain ⟨⟨g0, g1, g2⟩, -⟩ := blk3v (HB6.out.below hb2); obtain ⟨⟨h0, h1, h2⟩, -⟩ := blk3v (HB7.out.below hb2); have HB7 := hI (HB7.out.below hb2); obtain ⟨⟨q0, q1, q2⟩, -⟩ := blk3v (HB37.out _ Hb2.out); clear hb2)
              go_wp2_with (go_at_call 99; refine (H98.out _).mono ?_; rintro e w3 ⟨rfl, hb3⟩; have HbZ := hI (bw_via Hb2.out hb3); obtain ⟨⟨h0, h1, h2⟩, -⟩ := blk3v (HB7.out.below hb3); have HZ3 := hI (HB37.out _ HbZ.out); obtain ⟨⟨q0, q1, q2⟩, f0, f1, f2⟩ := blk3v HZ3.out; clear hb3)
              go_roundw
              case rel =>
                refine ⟨k + 1, uc, by omega, by go_num, below_put3 _ _ _ (Hbw.out.via HbZ.out Hbw.out.size) (Nat.le_refl _), Blk.put3 _ _ _ HZ3.out, by show w.heap.size < (((World.setCell w3 _ _).setCell _ _).setCell _ _).heap.size; simp only [World.size_setCell]; exact Nat.lt_of_lt_of_le Hsz.out HbZ.out.size, HNX.out, .inr ⟨by omega, HR.out.2.1, ?_⟩⟩
                show (xs[k]?).map Iv.high = _
                rw [Hx.out, HR.out.2.2.2.1]; rfl
              case measure => simp [intOf] <;> omega
            · have H97 := hI (fun w' => order_c c lc w' hcok HR.out.1)
              unfold rcA rcut at H97
              rw [HR.out.2.2.1] at H97
              generalize hQ : cmpG (toP c) x.low = Q at *
              have HQ := hI hQ
              clear hQ
              have HB37 := hI (fun w' (hb : Below wr.heap.size wr w') => HB3.out.below hb)
              have Hk0 := hI hk0'
              have Hlast := hI hlast
              clear Hst hk0' hcok hlast
              by_cases hQs : 0 ≤ Q
              · have Hres := hI (show E = 8 by
                  rw [Hse.out, Hlast.out, errFrom_order HR.out.2.2.2.2 (by rw [HRR.out]; exact hR2) (by rw [HQ.out]; exact hQs)])
                go_upto_region 13 with (go_at_call 99; refine (H99.out _).mono ?_; rintro e w2 ⟨rfl, hb2⟩; have Hb2 := hI (bw_via HbX.out hb2); obtain ⟨⟨g0, g1, g2⟩, -⟩ := blk3v (HB6.out.below hb2); obtain ⟨⟨h0, h1, h2⟩, -⟩ := blk3v (HB7.out.below hb2); have HB7 := hI (HB7.out.below hb2); obtain ⟨⟨q0, q1, q2⟩, -⟩ := blk3v (HB37.out _ Hb2.out); clear hb2)
                go_wp2_with (go_at_call 99; refine (H97.out _).mono ?_; rintro e w3 ⟨rfl, hb3⟩)
                go_ret
                exact ⟨by rw [Hres.out]; rfl, Hbw.out.via (bw_via Hb2.out hb3) Hbw.out.size⟩
              · have hQ2 : ¬ 0 ≤ Q := hQs
                have HNX := hI (show E = errFrom (lastCut xs (k + 1)) (xs.drop (k + 1)) by
                  rw [Hse.out, Hlast.out, errFrom_next HR.out.2.2.2.2 (by rw [HRR.out]; exact hR2) (by rw [HQ.out]; exact hQ2)]
                  show _ = errFrom (xs[k]?.map Iv.high) _
                  rw [Hx.out]; rfl)
                clear hQs
                go_upto_region 13 with (go_at_call 99; refine (H99.out _).mono ?_; rintro e w2 ⟨rfl, hb2⟩; have Hb2 := hI (bw_via HbX.out hb2); obtain ⟨⟨g0, g1, g2⟩, -⟩ := blk3v (HB6.out.below hb2); obtain ⟨⟨h0, h1, h2⟩, -⟩ := blk3v (HB7.out.below hb2); have HB7 := hI (HB7.out.below hb2); obtain ⟨⟨q0, q1, q2⟩, -⟩ := blk3v (HB37.out _ Hb2.out); clear hb2)
                go_wp2_with (go_at_call 99; refine (H97.out _).mono ?_; rintro e w3 ⟨rfl, hb3⟩; have HbZ := hI (bw_via Hb2.out hb3); obtain ⟨⟨h0, h1, h2⟩, -⟩ := blk3v (HB7.out.below hb3); have HZ3 := hI (HB37.out _ HbZ.out); obtain ⟨⟨q0, q1, q2⟩, f0, f1, f2⟩ := blk3v HZ3.out; clear hb3)
                go_roundw
                case rel =>
                  refine ⟨k + 1, uc, by omega, by go_num, below_put3 _ _ _ (Hbw.out.via HbZ.out Hbw.out.size) (Nat.le_refl _), Blk.put3 _ _ _ HZ3.out, by show w.heap.size < (((World.setCell w3 _ _).setCell _ _).setCell _ _).heap.size; simp only [World.size_setCell]; exact Nat.lt_of_lt_of_le Hsz.out HbZ.out.size, HNX.out, .inr ⟨by omega, HR.out.2.1, ?_⟩⟩
                  show (xs[k]?).map Iv.high = _
                  rw [Hx.out, HR.out.2.2.2.1]; rfl
                case measure => simp [intOf] <;> omega
      · have hcode : (ivErr x != 0) = true := by rw [bne_iff_ne]; exact hiv
        have Hres := hI (show E = ivErr x by rw [Hse.out, errFrom_bad hiv])
        generalize ivErr x = code at *
        clear hiv
        go_wp2_with (go_at_call 77; refine (H1.out _).mono ?_; rintro e w1 ⟨rfl, hb1⟩)
        go_ret
        exact ⟨by rw [Hres.out]; rfl, Hbw.out.via hb1 Hbw.out.size⟩
    · obtain rfl : k = n := by omega
      have hkn : ¬ (k : Int) < (k : Int) := by omega
      have Hres := hI (show E = 0 by rw [hpre.out.1, List.drop_of_length_le (by rw [Hln.out]; exact Nat.le_refl _)]; cases lastCut xs k <;> rfl)
      go_wp2_with fail
      go_ret
      exact ⟨by rw [Hres.out]; rfl, Hbw.out⟩
end Go.Proofs.YtacihodamichhaaGreatDoor
