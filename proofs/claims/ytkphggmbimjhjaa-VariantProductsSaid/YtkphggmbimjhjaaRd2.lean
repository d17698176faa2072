/-
  Redundant, walked.
-/
import Derived.Test.YtkphggmbimjhjaaRd
import Derived.Test.YtkphggmbimjhjaaFat
namespace Go.Proofs.Ytkphggmbimjhjaa
open Go.RowKit

set_option maxHeartbeats 4000000 in
set_option maxRecDepth 100000 in
theorem redundant_any (q1 q2 q3 q4 q5 q6 q7 q8 q9 q10 : Value) (opts : List ByteArray) (rs : List Rule1) (gs : List Guard1) (os : List Ov1) (mI : Nat) (ds : List Dim1) (w : World)
    (hF : Fam w q1 q2 q3 q4 q5 q6 q7 q8 q9 q10 opts rs gs os mI ds) (hn6 : opts.length ≤ 6) :
    Calls Try.prog 28 #[.agg #[q1, q2, q3, q4, q5, q6, q7, q8, q9, q10]] w (fun e w' => ∃ v, e = .returned (.tuple #[v, .int .i64 0]) ∧ Ints w' v (redTo opts.length rs rs.length) ∧ Below w.heap.size w w') := by
  obtain ⟨ai, ci, rfl⟩ := hF.insts
  obtain ⟨a7, p7, rfl, -, x7⟩ := hF.opt.open
  obtain ⟨a8, p8, rfl, hp8, x8⟩ := hF.rul.open
  have hb0 := below1 w (.cells #[q1, q2, .slice ai mI ci, q4, q5, q6, .slice a7 opts.length p7, .slice a8 rs.length p8, q9, q10] 41)
  have hM := hF.mono hb0
  have H1 := Lib.hid (check_any q1 q2 (.slice ai mI ci) q4 q5 q6 (.slice a7 opts.length p7) (.slice a8 rs.length p8) q9 q10 opts rs gs os ai mI ci ds _ rfl hM.opt hM.rul hM.grd hM.ovr hM.dims hM.ok)
  have B0 := Lib.hid (Blk.new w #[q1, q2, .slice ai mI ci, q4, q5, q6, .slice a7 opts.length p7, .slice a8 rs.length p8, q9, q10] 41)
  have hr48 := hF.ok.rs48
  have hrok := rulesOk_of hF.ok
  have Hrok := Lib.hid hrok
  have HM := Lib.hid hM
  have Hb0 := Lib.hid hb0
  clear hM hF hb0 hrok
  generalize hn : opts.length = n at *
  generalize hm : rs.length = m at *
  have Hm := Lib.hid hm
  clear hn hm
  unfold maxLen at x8
  go_enter Try.func28, Try.ntmps28
  go_wp2_with (go_at_call 51; refine (H1.out).mono ?_; rintro e w1 ⟨rfl, hb1⟩; obtain ⟨c0, c1, c2', c3, c4, c5, c6, c7, c8, c9, -⟩ := blk10 (B0.out.below hb1))
  have Hb1 := Lib.hid (Hb0.out.via hb1 Hb0.out.size)
  have HBx := Lib.hid (fun w' (h : Below w1.heap.size w1 w') => blk10c (blk10 ((B0.out.below hb1).below h)))
  have HRx := Lib.hid (fun w' (h : Below w1.heap.size w1 w') => (HM.out.rul.mono hb1).mono h)
  clear hb1 c0 c1 c2' c3 c4 c5 c6 c7 c8 c9 H1 HM B0
  go_loopw [5, 17] (fun v i wr => ∃ j : Nat, j ≤ m ∧ i = .int .i64 j ∧ Below w1.heap.size w1 wr ∧ wr.ownsRow w1.heap.size 3 1 v (redTo n rs j).length ((redTo n rs j).map (Value.int .i64))) (fun _ i _ => m - (intOf i).toNat)
  case atStart => exact ⟨0, Nat.zero_le _, rfl, Below.refl _ _, World.ownsRow_nil _ _ _ _⟩
  case round =>
    obtain ⟨j, hj, rfl, hbr, hown⟩ := hrel
    have hml := redTo_len n rs j
    by_cases hlt : j < m
    · obtain ⟨b, off, av, r, rfl, hr, r0, r1, hL⟩ := (HRx.out _ hbr).at (Below.refl _ _) hlt
      obtain ⟨la, lc, rfl, -, -⟩ := hL.open
      have Hs := Lib.hid (redTo_succ (n := n) hr)
      have hrm := Hrok.out r (List.mem_of_getElem? hr)
      have hrt := (HRx.out _ hbr).take (k := j) (by omega)
      have hblt := World.block_lt_of_cell? _ _ r0
      obtain ⟨rn, rl⟩ := r
      simp only at r0 r1 hL Hs hrm
      have hb2 := below2 wr (.cells #[.string rn, .slice la rl.length lc] 70) (.cells #[.bool true] 4)
      have hB1 : Blk ((wr.alloc (.cells #[.string rn, .slice la rl.length lc] 70)).alloc (.cells #[.bool true] 4)) wr.heap.size #[.string rn, .slice la rl.length lc] 70 := (Blk.new wr _ 70).old _
      have hB2 : Box ((wr.alloc (.cells #[.string rn, .slice la rl.length lc] 70)).alloc (.cells #[.bool true] 4)) (wr.heap.size + 1) 4 (.bool true) := by
        have := Box.new (wr.alloc (.cells #[.string rn, .slice la rl.length lc] 70)) 4 (.bool true)
        simpa using this
      have hsz2 : ((wr.alloc (.cells #[.string rn, .slice la rl.length lc] 70)).alloc (.cells #[.bool true] 4)).drew.heap.size = wr.heap.size + 2 := by
        show ((wr.alloc (.cells #[.string rn, .slice la rl.length lc] 70)).alloc (.cells #[.bool true] 4)).heap.size = wr.heap.size + 2
        simp
      have HV := Lib.hid (red_visit q1 q2 (.slice ai mI ci) q4 q5 q6 (.slice (some ⟨b, off, none⟩) m p8) q9 q10 (.slice (some ⟨b, off, none⟩) j p8) (.slice la rl.length lc) a7 n p7 (rs.take j) rl rn wr ((wr.alloc (.cells #[.string rn, .slice la rl.length lc] 70)).alloc (.cells #[.bool true] 4)).drew
        hn6 hrt (fun x hx => Hrok.out x (List.mem_of_mem_take hx)) (by rw [List.length_take]; omega) hL hrm.1 (by have := hrm.2; omega) (hb2.dn 1) (Nat.le_of_eq hsz2.symm) ⟨hB1, hB2⟩)
      generalize hvs : (visL n [] (rs.take j)).all (fun c => cSat c rl) = vs at *
      obtain ⟨f0, f1, f2, f3, f4, f5, f6, f7, f8, f9⟩ := HBx.out wr hbr
      have hfb := World.block_lt_of_cell? _ _ f0
      have HBy := Lib.hid (fun w' (h : Below wr.heap.size wr w') => HBx.out w' (hbr.via h hbr.size))
      have Hbr := Lib.hid hbr
      have Hown := Lib.hid hown
      have hbrs := hbr.size
      have hjj0 : (0 : Int) ≤ (j : Int) := Int.natCast_nonneg _
      have hjj1 : (j : Int) ≤ (p8 : Int) := by omega
      have hjj2 : (j : Int) ≤ (m : Int) := by omega
      generalize rl.length = ll at *
      clear hbr hown hL hr hrm hrt hvs hB1 hB2
      go_wp2_with fail
      refine wp_region_held_drew (S := (fun w' => w'.cell? ⟨w.heap.size, 0, none⟩ = some q1 ∧ w'.cell? ⟨w.heap.size, 1, none⟩ = some q2 ∧ w'.cell? ⟨w.heap.size, 2, none⟩ = some (.slice ai mI ci) ∧ w'.cell? ⟨w.heap.size, 3, none⟩ = some q4 ∧ w'.cell? ⟨w.heap.size, 4, none⟩ = some q5 ∧ w'.cell? ⟨w.heap.size, 5, none⟩ = some q6 ∧ w'.cell? ⟨w.heap.size, 6, none⟩ = some (.slice a7 n p7) ∧ w'.cell? ⟨w.heap.size, 7, none⟩ = some (.slice (some ⟨b, off, none⟩) m p8) ∧ w'.cell? ⟨w.heap.size, 8, none⟩ = some q9 ∧ w'.cell? ⟨w.heap.size, 9, none⟩ = some q10)) (by kernel_rfl) (by exact HBy.out _ (hb2.dn 1)) (fun hHeld => ?_)
      refine wpAnyH_take (i := 0) (v := ?v1) rfl (by kernel_rfl) (by kernel_rfl) (by kernel_rfl) (fun _ _ _ h => h) (Or.inl ⟨by rfl, ?hy1⟩) (by assumption) ?rest1
      case hy1 => (intro w hSw; (try dsimp only at hSw); go_simp; try (with_reducible rfl))
      try simp only [Act.put, List.getElem_toArray, List.getElem_cons_zero, List.setIfInBounds_toArray, List.set_cons_zero, List.set_cons_succ]
      refine wpAnyH_take (i := 1) (v := ?v2) rfl (by kernel_rfl) (by kernel_rfl) (by kernel_rfl) (fun _ _ _ h => h) (Or.inl ⟨by rfl, ?hy2⟩) (by assumption) ?rest2
      case hy2 => (intro w hSw; (try dsimp only at hSw); go_simp; try (with_reducible rfl))
      try simp only [Act.put, List.getElem_toArray, List.getElem_cons_zero, List.getElem_cons_succ, List.setIfInBounds_toArray, List.set_cons_zero, List.set_cons_succ]
      refine wpAnyH_take (i := 2) (v := ?v3) rfl (by kernel_rfl) (by kernel_rfl) (by kernel_rfl) (fun _ _ _ h => h) (Or.inl ⟨by rfl, ?hy3⟩) (by assumption) ?rest3
      case hy3 => (intro w hSw; (try dsimp only at hSw); go_simp; try (with_reducible rfl))
      try simp only [Act.put, List.getElem_toArray, List.getElem_cons_zero, List.getElem_cons_succ, List.setIfInBounds_toArray, List.set_cons_zero, List.set_cons_succ]
      refine wpAnyH_take (i := 3) (v := ?v4) rfl (by kernel_rfl) (by kernel_rfl) (by kernel_rfl) (fun _ _ _ h => h) (Or.inl ⟨by rfl, ?hy4⟩) (by assumption) ?rest4
      case hy4 => (intro w hSw; (try dsimp only at hSw); go_simp; try (with_reducible rfl))
      try simp only [Act.put, List.getElem_toArray, List.getElem_cons_zero, List.getElem_cons_succ, List.setIfInBounds_toArray, List.set_cons_zero, List.set_cons_succ]
      refine wpAnyH_take (i := 4) (v := ?v5) rfl (by kernel_rfl) (by kernel_rfl) (by kernel_rfl) (fun _ _ _ h => h) (Or.inl ⟨by rfl, ?hy5⟩) (by assumption) ?rest5
      case hy5 => (intro w hSw; (try dsimp only at hSw); go_simp; try (with_reducible rfl))
      try simp only [Act.put, List.getElem_toArray, List.getElem_cons_zero, List.getElem_cons_succ, List.setIfInBounds_toArray, List.set_cons_zero, List.set_cons_succ]
      refine wpAnyH_take (i := 5) (v := ?v6) rfl (by kernel_rfl) (by kernel_rfl) (by kernel_rfl) (fun _ _ _ h => h) (Or.inl ⟨by rfl, ?hy6⟩) (by assumption) ?rest6
      case hy6 => (intro w hSw; (try dsimp only at hSw); go_simp; try (with_reducible rfl))
      try simp only [Act.put, List.getElem_toArray, List.getElem_cons_zero, List.getElem_cons_succ, List.setIfInBounds_toArray, List.set_cons_zero, List.set_cons_succ]
      refine wpAnyH_ready (rs := [6]) (by kernel_rfl) (by simp) ?_
      refine AllReadyH.cons rfl (fun K hK => ?_) AllReadyH.nil
      go_simp
      go_at_call 39
      refine (HV.out).mono ?_
      rintro e w4 ⟨rfl, hmid, hbox⟩
      have hb4 : Below wr.heap.size wr w4 := Mid.below (hb2.dn 1) hmid (by exact (hb2.dn 1).size)
      have gfl := cell_of_one hbox
      refine hK.out _ _ (by exact HBy.out _ hb4) (fun hHeld => ?_)
      clear hK K
      try simp only [Act.put, List.setIfInBounds_toArray, List.set_cons_zero, List.set_cons_succ]
      refine wpAnyH_done (by kernel_rfl) ?_ _
      have hown4 := own_below Hown.out hb4
      have hbw4 := Hbr.out.via hb4 Hbr.out.size
      have gfb := World.block_lt_of_cell? _ _ gfl
      have HB2 := Lib.hid hb2
      clear hb2 hmid hbox
      cases vs
      · go_wp2_with fail
        go_roundw
        case rel => exact ⟨j + 1, by omega, by go_num, hbw4, by rw [Hs.out]; simpa using hown4⟩
        case measure => simp [intOf]; omega
      · go_wp2_with (at_builtin; refine wpApp E50 (by decide) [.int .i64 (j : Int)] rfl _ _ rfl w1.heap.size _ _ _ rfl rfl hown4 rfl (one1 _ rfl) (by omega) (by decide) hbw4.size ?_; intro v' w5 hown' hg'; have hbw5 := below_app hbw4 hown4 hg' hbw4.size)
        go_roundw
        case rel => exact ⟨j + 1, by omega, by go_num, hbw5, by rw [Hs.out]; simpa using hown'⟩
        case measure => simp [intOf]; omega
    · obtain rfl : j = m := by omega
      have Hu := Lib.hid (Sl.own1 hown)
      have Hbr := Lib.hid hbr
      clear hown hbr
      go_wp2_with fail
      go_ret2
      exact ⟨_, rfl, Hu.out, Hb1.out.via Hbr.out Hb1.out.size⟩

end Go.Proofs.Ytkphggmbimjhjaa
