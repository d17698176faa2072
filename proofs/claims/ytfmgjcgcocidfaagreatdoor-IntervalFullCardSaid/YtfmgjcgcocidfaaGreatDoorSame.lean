/-
  Single numbers, and the reference's comparison.
-/
import Derived.Test.YtfmgjcgcocidfaaGreatDoorRef
import Derived.Test.YtfmgjcgcocidfaaGreatDoorComb
namespace Go.Proofs.YtfmgjcgcocidfaaGreatDoor
open Go.RowKit

theorem wt_refB : ∀ n < 1000, wtB (refL n) (refL n) n false = true := by decide +kernel
theorem wt_ref {n : Nat} (h : n < 1000) : WT ⟨(refL n).toArray⟩ (val ⟨(refL n).toArray⟩) ∧ val ⟨(refL n).toArray⟩ = n := by
  have hb := wt_refB n h
  have hv : val ⟨(refL n).toArray⟩ = n := by
    have := (wtB_spec hb).2.2.2.2.2.2.2.2.2.2.2
    simpa [val] using this
  exact ⟨⟨refL n, n, false, hb, by rw [hv]; rfl⟩, hv⟩
theorem wt_m2 : WT ⟨#[45, 50]⟩ (val ⟨#[45, 50]⟩) := ⟨[50], 2, true, by decide +kernel, by decide +kernel⟩

set_option maxHeartbeats 2000000 in
theorem between_any (lo hi : ByteArray) (le he : Int) (w : World) : Calls Tryz.prog 9 #[.string lo, .string hi, .int .i64 le, .int .i64 he] w (Ret (.agg #[.string lo, .string hi, .int .i64 le, .int .i64 he]) w) := by
  go_enter Tryz.func9, Tryz.ntmps9
  go_wp2_with fail
  exact bodyPost_ret (v := .agg #[.string lo, .string hi, .int .i64 le, .int .i64 he]) (by simp [results, Tryz.results9, go_sem]) rfl ⟨rfl, below1 w _⟩

/-- The interval of one number. -/
def sing (n : Nat) : Iv := ⟨⟨(refL n).toArray⟩, ⟨(refL n).toArray⟩, 1, 1⟩
set_option maxHeartbeats 2000000 in
theorem single_any (n : Nat) (w : World) (hn : n < 1000) : Calls Tryz.prog 5 #[.int .i64 (n : Int)] w (Ret (sing n).agg w) := by
  unfold sing Iv.agg
  dsimp only
  have H := Lib.hid (fun w' => from_ref2 n w' hn)
  generalize (⟨(refL n).toArray⟩ : ByteArray) = D at *
  have H2 := Lib.hid (fun w' => between_any D D 1 1 w')
  have HR := Lib.hid (Blk.new w #[.string ⟨#[]⟩, .string ⟨#[]⟩, .int .i64 0, .int .i64 0] 27)
  clear hn
  go_enter Tryz.func5, Tryz.ntmps5
  go_wp2_with (first
    | (go_at_call 14; refine (H.out _).mono ?_; rintro e w1 ⟨rfl, hb1⟩; have Hb1 := Lib.hid hb1; clear hb1)
    | (go_at_call 9; refine (H2.out _).mono ?_; rintro e w2 ⟨rfl, hb2⟩; have Hb2 := Lib.hid (bw_via Hb1.out hb2); have hr := HR.out.below (bw_via Hb1.out hb2); obtain ⟨⟨r0, r1, r2, r3⟩, f0, f1, f2, f3⟩ := blk4v hr; have hb7 := setN_blk hr [.string D, .string D, .int .i64 1, .int .i64 1] rfl; have hbel := setN_below (b := w.heap.size) (Nat.le_refl _) [.string D, .string D, .int .i64 1, .int .i64 1] 0 _ ((below1 w (.cells #[.string ⟨#[]⟩, .string ⟨#[]⟩, .int .i64 0, .int .i64 0] 27)).via Hb2.out (below1 w _).size); simp only [setN, Nat.zero_add, Nat.reduceAdd] at hb7 hbel; have Hb7 := Lib.hid hb7; have Hbel := Lib.hid hbel; clear hb2 hr hb7 hbel))
  obtain ⟨⟨q0, q1, q2, q3⟩, -⟩ := blk4v Hb7.out
  exact bodyPost_ret (v := .agg #[.string D, .string D, .int .i64 1, .int .i64 1]) (by simp [results, Tryz.results5, go_sem, q0, q1, q2, q3]) rfl ⟨rfl, Hbel.out⟩

set_option maxHeartbeats 4000000 in
theorem same_true (u v : Value) (xs : List Iv) (w : World) (hx : Ivs w u xs) (hy : Ivs w v xs) (hn : xs.length ≤ 1000) : Calls Tryz.prog 7 #[u, v] w (Ret (.bool true) w) := by
  obtain ⟨a, c, rfl, hc1, hc2⟩ := hx.open
  obtain ⟨a', c', rfl, hc1', hc2'⟩ := hy.open
  unfold maxLen at hc2 hc2'
  have HX := Lib.hid hx
  have HY := Lib.hid hy
  clear hx hy
  generalize hln : xs.length = n at *
  clear hln
  go_enter Tryz.func7, Tryz.ntmps7
  go_wp2_with fail
  go_loopw [5] (fun i wr => ∃ k : Nat, k ≤ n ∧ i = .int .i64 (k : Int) ∧ Below w.heap.size w wr) (fun i _ => n - (intOf i).toNat)
  case atStart => exact ⟨0, by omega, rfl, Below.refl _ _⟩
  case round =>
    obtain ⟨k, hk, rfl, hbw⟩ := hrel
    rcases Nat.lt_or_ge k n with hlt | hge
    · obtain ⟨b, off, x, rfl, hxk, c0, c1, c2, c3⟩ := HX.out.at hbw hlt
      obtain ⟨b', off', x', rfl, hyk, d0, d1, d2, d3⟩ := HY.out.at hbw hlt
      rw [hxk] at hyk
      cases hyk
      have hkn : (k : Int) < (n : Int) := by omega
      have hik : IntKind.i64.wrap ((k : Int) + 1) = (k : Int) + 1 := IntWalk.i64_in _ (by omega)
      have HSx := Lib.hid (fun w' (hb : Below wr.heap.size wr w') => show w'.cell? ⟨b, off + k * 4, none⟩ = some (.string x.lo) ∧ w'.cell? ⟨b, off + k * 4 + 1, none⟩ = some (.string x.hi) ∧ w'.cell? ⟨b, off + k * 4 + 2, none⟩ = some (.int .i64 x.le) ∧ w'.cell? ⟨b, off + k * 4 + 3, none⟩ = some (.int .i64 x.he) ∧ w'.cell? ⟨b', off' + k * 4, none⟩ = some (.string x.lo) ∧ w'.cell? ⟨b', off' + k * 4 + 1, none⟩ = some (.string x.hi) ∧ w'.cell? ⟨b', off' + k * 4 + 2, none⟩ = some (.int .i64 x.le) ∧ w'.cell? ⟨b', off' + k * 4 + 3, none⟩ = some (.int .i64 x.he) from ⟨cell_keep hb c0, cell_keep hb c1, cell_keep hb c2, cell_keep hb c3, cell_keep hb d0, cell_keep hb d1, cell_keep hb d2, cell_keep hb d3⟩)
      have Hbw := Lib.hid hbw
      clear hbw hxk c0 c1 c2 c3 d0 d1 d2 d3
      go_upto_region 6 with fail
      refine wp_region_held_drew (S := (fun w' => w'.cell? ⟨b, off + k * 4, none⟩ = some (.string x.lo) ∧ w'.cell? ⟨b, off + k * 4 + 1, none⟩ = some (.string x.hi) ∧ w'.cell? ⟨b, off + k * 4 + 2, none⟩ = some (.int .i64 x.le) ∧ w'.cell? ⟨b, off + k * 4 + 3, none⟩ = some (.int .i64 x.he) ∧ w'.cell? ⟨b', off' + k * 4, none⟩ = some (.string x.lo) ∧ w'.cell? ⟨b', off' + k * 4 + 1, none⟩ = some (.string x.hi) ∧ w'.cell? ⟨b', off' + k * 4 + 2, none⟩ = some (.int .i64 x.le) ∧ w'.cell? ⟨b', off' + k * 4 + 3, none⟩ = some (.int .i64 x.he))) (by kernel_rfl) (by exact HSx.out _ (bw_dn wr)) (fun hHeld => ?_)
      refine wpAnyH_take (i := 0) (v := ?v1) rfl (by kernel_rfl) (by kernel_rfl) (by kernel_rfl) (fun _ _ _ h => h) (Or.inl ⟨by rfl, ?hy1⟩) (by assumption) ?rest1
      case hy1 => (intro w hSw; (try dsimp only at hSw); go_simp; try (with_reducible rfl))
      try simp only [Act.put, List.getElem_toArray, List.getElem_cons_zero, List.getElem_cons_succ, List.setIfInBounds_toArray, List.set_cons_zero, List.set_cons_succ]
      refine wpAnyH_take (i := 1) (v := ?v2) rfl (by kernel_rfl) (by kernel_rfl) (by kernel_rfl) (fun _ _ _ h => h) (Or.inl ⟨by rfl, ?hy2⟩) (by assumption) ?rest2
      case hy2 => (intro w hSw; (try dsimp only at hSw); go_simp; try (with_reducible rfl))
      try simp only [Act.put, List.getElem_toArray, List.getElem_cons_zero, List.getElem_cons_succ, List.setIfInBounds_toArray, List.set_cons_zero, List.set_cons_succ]
      refine wpAnyH_take (i := 2) (v := ?v3) rfl (by kernel_rfl) (by kernel_rfl) (by kernel_rfl) (fun _ _ _ h => h) (Or.inl ⟨by rfl, ?hy3⟩) (by assumption) ?rest3
      case hy3 => (intro w hSw; (try dsimp only at hSw); go_simp; try (with_reducible rfl))
      try simp only [Act.put, List.getElem_toArray, List.getElem_cons_zero, List.getElem_cons_succ, List.setIfInBounds_toArray, List.set_cons_zero, List.set_cons_succ]
      refine wpAnyH_take (i := 3) (v := ?v4) rfl (by kernel_rfl) (by kernel_rfl) (by kernel_rfl) (fun _ _ _ h => h) (Or.inl ⟨by rfl, ?hy4⟩) (by assumption) ?rest4
      case hy4 => (intro w hSw; (try dsimp only at hSw); go_simp; try (with_reducible rfl))
      try simp only [Act.put, List.getElem_toArray, List.getElem_cons_zero, List.getElem_cons_succ, List.setIfInBounds_toArray, List.set_cons_zero, List.set_cons_succ]
      refine wpAnyH_take (i := 4) (v := ?v5) rfl (by kernel_rfl) (by kernel_rfl) (by kernel_rfl) (fun _ _ _ h => h) (Or.inl ⟨by rfl, ?hy5⟩) (by assumption) ?rest5
      case hy5 => (intro w hSw; (try dsimp only at hSw); go_simp; try (with_reducible rfl))
      try simp only [Act.put, List.getElem_toArray, List.getElem_cons_zero, List.getElem_cons_succ, List.setIfInBounds_toArray, List.set_cons_zero, List.set_cons_succ]
      refine wpAnyH_take (i := 5) (v := ?v6) rfl (by kernel_rfl) (by kernel_rfl) (by kernel_rfl) (fun _ _ _ h => h) (Or.inl ⟨by rfl, ?hy6⟩) (by assumption) ?rest6
      case hy6 => (intro w hSw; (try dsimp only at hSw); go_simp; try (with_reducible rfl))
      try simp only [Act.put, List.getElem_toArray, List.getElem_cons_zero, List.getElem_cons_succ, List.setIfInBounds_toArray, List.set_cons_zero, List.set_cons_succ]
      refine wpAnyH_take (i := 6) (v := ?v7) rfl (by kernel_rfl) (by kernel_rfl) (by kernel_rfl) (fun _ _ _ h => h) (Or.inl ⟨by rfl, ?hy7⟩) (by assumption) ?rest7
      case hy7 => (intro w hSw; (try dsimp only at hSw); go_simp; try (with_reducible rfl))
      try simp only [Act.put, List.getElem_toArray, List.getElem_cons_zero, List.getElem_cons_succ, List.setIfInBounds_toArray, List.set_cons_zero, List.set_cons_succ]
      refine wpAnyH_take (i := 7) (v := ?v8) rfl (by kernel_rfl) (by kernel_rfl) (by kernel_rfl) (fun _ _ _ h => h) (Or.inl ⟨by rfl, ?hy8⟩) (by assumption) ?rest8
      case hy8 => (intro w hSw; (try dsimp only at hSw); go_simp; try (with_reducible rfl))
      try simp only [Act.put, List.getElem_toArray, List.getElem_cons_zero, List.getElem_cons_succ, List.setIfInBounds_toArray, List.set_cons_zero, List.set_cons_succ]
      refine wpAnyH_take (i := 8) (v := ?v9) rfl (by kernel_rfl) (by kernel_rfl) (by kernel_rfl) (fun _ _ _ h => h) (Or.inl ⟨by rfl, ?hy9⟩) (by assumption) ?rest9
      case hy9 => (intro w hSw; (try dsimp only at hSw); go_simp; try (with_reducible rfl))
      try simp only [Act.put, List.getElem_toArray, List.getElem_cons_zero, List.getElem_cons_succ, List.setIfInBounds_toArray, List.set_cons_zero, List.set_cons_succ]
      refine wpAnyH_done (by kernel_rfl) ?_ _
      go_wp2_with fail
      go_roundw
      case rel => exact ⟨k + 1, by omega, by go_num, Hbw.out.dn 1⟩
      case measure => simp [intOf] <;> omega
    · obtain rfl : k = n := by omega
      have hkn : ¬ (k : Int) < (k : Int) := by omega
      go_wp2_with fail
      go_ret
      exact ⟨rfl, hbw⟩

end Go.Proofs.YtfmgjcgcocidfaaGreatDoor
