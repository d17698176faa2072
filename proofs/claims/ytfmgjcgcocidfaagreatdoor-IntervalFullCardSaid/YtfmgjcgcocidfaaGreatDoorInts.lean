/-
  The intervals of parts.
-/
import Derived.Test.YtfmgjcgcocidfaaGreatDoorParts
namespace Go.Proofs.YtfmgjcgcocidfaaGreatDoor
open Go.RowKit

/-- The interval of a part. -/
def PP.iv (p : PP) : Iv := ⟨p.l.c.s, p.h.c.s, kindOf p.l.c 1, kindOf p.h.c (-1)⟩

set_option maxHeartbeats 16000000 in
set_option maxRecDepth 10000 in
theorem intervals_any (v : Value) (ps : List PP) (w : World) (h : Parts w v ps) (hn : ps.length ≤ 1000) :
    Calls Tryz.prog 22 #[v] w (RetP (fun v w' => ∃ a c, v = .slice a ps.length c ∧ Ivs w' (.slice a ps.length c) (ps.map PP.iv)) w) := by
  obtain ⟨a, c, rfl, hc1, hc2⟩ := h.open
  unfold maxLen at hc2
  have HX := Lib.hid h
  clear h
  generalize hln : ps.length = n at *
  have Hln := Lib.hid hln
  clear hln
  have HN := Lib.hid (fun W : World => World.ownsRow_nil W w.heap.size 27 4)
  go_enter Tryz.func22, Tryz.ntmps22
  go_wp2_with fail
  go_loopw [9, 3] (fun i out wr => ∃ k : Nat, k ≤ n ∧ i = .int .i64 (k : Int) ∧ Below w.heap.size w wr ∧ wr.ownsRow w.heap.size 27 4 out k ((((ps.take k).map PP.iv).map Iv.row).flatten)) (fun i _ _ => n - (intOf i).toNat)
  case atStart => exact ⟨0, by omega, rfl, Below.refl _ _, HN.out _⟩
  case round =>
    obtain ⟨k, hk, rfl, hbw, hown⟩ := hrel
    rcases Nat.lt_or_ge k n with hlt | hge
    · obtain ⟨b, off, p, rfl, hx, -, cells⟩ := HX.out.at hbw hlt
      obtain ⟨e0, e1, e2, e3, e4, e5, e6, e7, e8, e9, e10, e11, e12, e13⟩ := cells
      have hkn : (k : Int) < (n : Int) := by omega
      have hik : IntKind.i64.wrap ((k : Int) + 1) = (k : Int) + 1 := IntWalk.i64_in _ (by omega)
      have Htk := Lib.hid (show ((((ps.take k).map PP.iv).map Iv.row).flatten) ++ Iv.row p.iv = ((((ps.take (k + 1)).map PP.iv).map Iv.row).flatten) by rw [geti hx]; simp)
      have Hbw := Lib.hid hbw
      have Hown := Lib.hid hown
      have hPB : Blk ((wr.alloc (.cells #[.int .i64 p.l.c.b, .string p.l.c.s, .int .i64 p.l.c.d, .bool p.l.x, .slice p.l.a p.l.n p.l.cap, .bool false, .slice none 0 0, .int .i64 p.h.c.b, .string p.h.c.s, .int .i64 p.h.c.d, .bool p.h.x, .slice p.h.a p.h.n p.h.cap, .bool false, .slice none 0 0] 54)).alloc (.cells #[.string p.l.c.s, .string p.h.c.s, .int .i64 0, .int .i64 0] 27)) wr.heap.size #[.int .i64 p.l.c.b, .string p.l.c.s, .int .i64 p.l.c.d, .bool p.l.x, .slice p.l.a p.l.n p.l.cap, .bool false, .slice none 0 0, .int .i64 p.h.c.b, .string p.h.c.s, .int .i64 p.h.c.d, .bool p.h.x, .slice p.h.a p.h.n p.h.cap, .bool false, .slice none 0 0] 54 := (Blk.new wr _ _).old _
      have hXB : Blk ((wr.alloc (.cells #[.int .i64 p.l.c.b, .string p.l.c.s, .int .i64 p.l.c.d, .bool p.l.x, .slice p.l.a p.l.n p.l.cap, .bool false, .slice none 0 0, .int .i64 p.h.c.b, .string p.h.c.s, .int .i64 p.h.c.d, .bool p.h.x, .slice p.h.a p.h.n p.h.cap, .bool false, .slice none 0 0] 54)).alloc (.cells #[.string p.l.c.s, .string p.h.c.s, .int .i64 0, .int .i64 0] 27)) (wr.heap.size + 1) #[.string p.l.c.s, .string p.h.c.s, .int .i64 0, .int .i64 0] 27 := by
        have h := Blk.new (wr.alloc (.cells #[.int .i64 p.l.c.b, .string p.l.c.s, .int .i64 p.l.c.d, .bool p.l.x, .slice p.l.a p.l.n p.l.cap, .bool false, .slice none 0 0, .int .i64 p.h.c.b, .string p.h.c.s, .int .i64 p.h.c.d, .bool p.h.x, .slice p.h.a p.h.n p.h.cap, .bool false, .slice none 0 0] 54)) #[.string p.l.c.s, .string p.h.c.s, .int .i64 0, .int .i64 0] 27
        simpa using h
      have HPB := Lib.hid hPB
      have HXB := Lib.hid hXB
      have HK2 := Lib.hid (below2 wr (.cells #[.int .i64 p.l.c.b, .string p.l.c.s, .int .i64 p.l.c.d, .bool p.l.x, .slice p.l.a p.l.n p.l.cap, .bool false, .slice none 0 0, .int .i64 p.h.c.b, .string p.h.c.s, .int .i64 p.h.c.d, .bool p.h.x, .slice p.h.a p.h.n p.h.cap, .bool false, .slice none 0 0] 54) (.cells #[.string p.l.c.s, .string p.h.c.s, .int .i64 0, .int .i64 0] 27))
      have HS := Lib.hid (fun w' (hb : Below ((wr.alloc (.cells #[.int .i64 p.l.c.b, .string p.l.c.s, .int .i64 p.l.c.d, .bool p.l.x, .slice p.l.a p.l.n p.l.cap, .bool false, .slice none 0 0, .int .i64 p.h.c.b, .string p.h.c.s, .int .i64 p.h.c.d, .bool p.h.x, .slice p.h.a p.h.n p.h.cap, .bool false, .slice none 0 0] 54)).alloc (.cells #[.string p.l.c.s, .string p.h.c.s, .int .i64 0, .int .i64 0] 27)).heap.size ((wr.alloc (.cells #[.int .i64 p.l.c.b, .string p.l.c.s, .int .i64 p.l.c.d, .bool p.l.x, .slice p.l.a p.l.n p.l.cap, .bool false, .slice none 0 0, .int .i64 p.h.c.b, .string p.h.c.s, .int .i64 p.h.c.d, .bool p.h.x, .slice p.h.a p.h.n p.h.cap, .bool false, .slice none 0 0] 54)).alloc (.cells #[.string p.l.c.s, .string p.h.c.s, .int .i64 0, .int .i64 0] 27)) w') => cells14 hPB hb)
      have H1 := Lib.hid (fun w' => kind_any p.l 1 w')
      have H2 := Lib.hid (fun w' => kind_any p.h (-1) w')
      have Hiv := Lib.hid (show p.iv = ⟨p.l.c.s, p.h.c.s, kindOf p.l.c 1, kindOf p.h.c (-1)⟩ from rfl)
      generalize kindOf p.l.c 1 = K1 at *
      generalize kindOf p.h.c (-1) = K2 at *
      unfold CC.agg at H1 H2
      clear hx hbw hown hPB hXB
      go_wp2_with fail
      refine wp_region_pop (S := (fun w' => w'.cell? ⟨wr.heap.size, 0, none⟩ = some (.int .i64 p.l.c.b) ∧ w'.cell? ⟨wr.heap.size, 1, none⟩ = some (.string p.l.c.s) ∧ w'.cell? ⟨wr.heap.size, 2, none⟩ = some (.int .i64 p.l.c.d) ∧ w'.cell? ⟨wr.heap.size, 3, none⟩ = some (.bool p.l.x) ∧ w'.cell? ⟨wr.heap.size, 4, none⟩ = some (.slice p.l.a p.l.n p.l.cap) ∧ w'.cell? ⟨wr.heap.size, 5, none⟩ = some (.bool false) ∧ w'.cell? ⟨wr.heap.size, 6, none⟩ = some (.slice none 0 0) ∧ w'.cell? ⟨wr.heap.size, 7, none⟩ = some (.int .i64 p.h.c.b) ∧ w'.cell? ⟨wr.heap.size, 8, none⟩ = some (.string p.h.c.s) ∧ w'.cell? ⟨wr.heap.size, 9, none⟩ = some (.int .i64 p.h.c.d) ∧ w'.cell? ⟨wr.heap.size, 10, none⟩ = some (.bool p.h.x) ∧ w'.cell? ⟨wr.heap.size, 11, none⟩ = some (.slice p.h.a p.h.n p.h.cap) ∧ w'.cell? ⟨wr.heap.size, 12, none⟩ = some (.bool false) ∧ w'.cell? ⟨wr.heap.size, 13, none⟩ = some (.slice none 0 0))) 9 (by kernel_rfl) (by kernel_rfl) (by exact HS.out _ ((Below.refl _ _).dn 1)) (fun hHeld => ?_)
      simp only [List.take_succ_cons, List.take_zero, List.drop_succ_cons, List.drop_zero]
      refine wpAnyH_take (i := 0) (v := ?v1) rfl (by kernel_rfl) (by kernel_rfl) (by kernel_rfl) (fun _ _ _ h => h) (Or.inl ⟨by rfl, ?hy1⟩) (by assumption) ?rest1
      case hy1 => (intro w hSw; (try dsimp only at hSw); go_simp; try (with_reducible rfl))
      try simp only [Act.put, List.getElem_toArray, List.getElem_cons_zero, List.getElem_cons_succ, List.setIfInBounds_toArray, List.set_cons_zero, List.set_cons_succ]
      refine wpAnyH_take (i := 1) (v := ?v2) rfl (by kernel_rfl) (by kernel_rfl) (by kernel_rfl) (fun _ _ _ h => h) (Or.inl ⟨by rfl, ?hy2⟩) (by assumption) ?rest2
      case hy2 => (intro w hSw; (try dsimp only at hSw); go_simp; try (with_reducible rfl))
      try simp only [Act.put, List.getElem_toArray, List.getElem_cons_zero, List.getElem_cons_succ, List.setIfInBounds_toArray, List.set_cons_zero, List.set_cons_succ]
      refine wpAnyH_take (i := 3) (v := ?v3) rfl (by kernel_rfl) (by kernel_rfl) (by kernel_rfl) (fun _ _ _ h => h) (Or.inl ⟨by rfl, ?hy3⟩) (by assumption) ?rest3
      case hy3 => (intro w hSw; (try dsimp only at hSw); go_simp; try (with_reducible rfl))
      try simp only [Act.put, List.getElem_toArray, List.getElem_cons_zero, List.getElem_cons_succ, List.setIfInBounds_toArray, List.set_cons_zero, List.set_cons_succ]
      refine wpAnyH_take (i := 4) (v := ?v4) rfl (by kernel_rfl) (by kernel_rfl) (by kernel_rfl) (fun _ _ _ h => h) (Or.inl ⟨by rfl, ?hy4⟩) (by assumption) ?rest4
      case hy4 => (intro w hSw; (try dsimp only at hSw); go_simp; try (with_reducible rfl))
      try simp only [Act.put, List.getElem_toArray, List.getElem_cons_zero, List.getElem_cons_succ, List.setIfInBounds_toArray, List.set_cons_zero, List.set_cons_succ]
      refine wpAnyH_ready (rs := [2]) (by kernel_rfl) (by simp) ?_
      refine AllReadyH.cons rfl (fun K hK => ?_) AllReadyH.nil
      go_simp
      go_at_call 47
      refine (H1.out _).mono ?_
      rintro e5 w2 ⟨rfl, hb2⟩
      have Hb2 := Lib.hid (bw_via ((Below.refl _ _).dn 1) hb2)
      clear hb2
      refine hK.out _ _ (by exact HS.out _ (Hb2.out)) (fun hHeld => ?_)
      clear hK K
      try simp only [Act.put, List.setIfInBounds_toArray, List.set_cons_zero, List.set_cons_succ]
      refine wpAnyH_take (i := 6) (v := ?v5) rfl (by kernel_rfl) (by kernel_rfl) (by kernel_rfl) (fun _ _ _ h => h) (Or.inl ⟨by rfl, ?hy5⟩) (by assumption) ?rest5
      case hy5 => (intro w hSw; (try dsimp only at hSw); go_simp; try (with_reducible rfl))
      try simp only [Act.put, List.getElem_toArray, List.getElem_cons_zero, List.getElem_cons_succ, List.setIfInBounds_toArray, List.set_cons_zero, List.set_cons_succ]
      refine wpAnyH_ready (rs := [5]) (by kernel_rfl) (by simp) ?_
      refine AllReadyH.cons rfl (fun K hK => ?_) AllReadyH.nil
      go_simp
      go_at_call 47
      refine (H2.out _).mono ?_
      rintro e5 w5 ⟨rfl, hb5⟩
      have Hb5 := Lib.hid (bw_via (Hb2.out) hb5)
      clear hb5
      refine hK.out _ _ (by exact HS.out _ (Hb5.out)) (fun hHeld => ?_)
      clear hK K
      try simp only [Act.put, List.setIfInBounds_toArray, List.set_cons_zero, List.set_cons_succ]
      refine wpAnyH_ready (rs := [7]) (by kernel_rfl) (by simp) ?_
      refine AllReadyH.cons rfl (fun K hK => ?_) AllReadyH.nil
      have Hbk := Lib.hid (Hb5.out)
      have hX8 := HXB.out.below Hbk.out
      have HX9 := hX8.set 2 (.int .i64 K1)
      have HX10 := HX9.set 3 (.int .i64 K2)
      simp at HX9 HX10
      have g0 := hX8.free 2
      have g1 := hX8.free 3
      have s2 := hX8.cell 2
      have s3 := hX8.cell 3
      have z2 := HX9.cell 3
      have z3 := HX9.free 3
      simp only [List.getElem?_toArray, List.getElem?_cons_succ, List.getElem?_cons_zero] at s2 s3 z2
      have HX11 := Lib.hid HX10
      have HS9 := Lib.hid (HS.out _ Hbk.out)
      have Hbk2 := Lib.hid ((Hbw.out.via (bw_via HK2.out Hbk.out) Hbw.out.size))
      clear hX8 HX9 HX10
      go_simp
      refine hK.out _ _ (by exact ⟨cell_far HS9.out.1 (show wr.heap.size + 1 ≠ wr.heap.size by omega), cell_far HS9.out.2.1 (show wr.heap.size + 1 ≠ wr.heap.size by omega), cell_far HS9.out.2.2.1 (show wr.heap.size + 1 ≠ wr.heap.size by omega), cell_far HS9.out.2.2.2.1 (show wr.heap.size + 1 ≠ wr.heap.size by omega), cell_far HS9.out.2.2.2.2.1 (show wr.heap.size + 1 ≠ wr.heap.size by omega), cell_far HS9.out.2.2.2.2.2.1 (show wr.heap.size + 1 ≠ wr.heap.size by omega), cell_far HS9.out.2.2.2.2.2.2.1 (show wr.heap.size + 1 ≠ wr.heap.size by omega), cell_far HS9.out.2.2.2.2.2.2.2.1 (show wr.heap.size + 1 ≠ wr.heap.size by omega), cell_far HS9.out.2.2.2.2.2.2.2.2.1 (show wr.heap.size + 1 ≠ wr.heap.size by omega), cell_far HS9.out.2.2.2.2.2.2.2.2.2.1 (show wr.heap.size + 1 ≠ wr.heap.size by omega), cell_far HS9.out.2.2.2.2.2.2.2.2.2.2.1 (show wr.heap.size + 1 ≠ wr.heap.size by omega), cell_far HS9.out.2.2.2.2.2.2.2.2.2.2.2.1 (show wr.heap.size + 1 ≠ wr.heap.size by omega), cell_far HS9.out.2.2.2.2.2.2.2.2.2.2.2.2.1 (show wr.heap.size + 1 ≠ wr.heap.size by omega), cell_far HS9.out.2.2.2.2.2.2.2.2.2.2.2.2.2 (show wr.heap.size + 1 ≠ wr.heap.size by omega)⟩) (fun hHeld => ?_)
      clear hK K
      try simp only [Act.put, List.setIfInBounds_toArray, List.set_cons_zero, List.set_cons_succ]
      refine wpAnyH_take (i := 8) (v := ?v6) rfl (by kernel_rfl) (by kernel_rfl) (by kernel_rfl) (fun _ _ _ h => h) (Or.inl ⟨by rfl, ?hy6⟩) (by assumption) ?rest6
      case hy6 => (intro w hSw; (try dsimp only at hSw); go_simp; try (with_reducible rfl))
      try simp only [Act.put, List.getElem_toArray, List.getElem_cons_zero, List.getElem_cons_succ, List.setIfInBounds_toArray, List.set_cons_zero, List.set_cons_succ]
      refine wpAnyH_done (by kernel_rfl) ?_ _
      simp only [Exit.then]
      have Hb8 := Lib.hid ((Hbk2.out.setCell (p := ⟨wr.heap.size + 1, 2, none⟩) (Nat.le_trans Hbw.out.size (Nat.le_succ _)) (.int .i64 K1)).setCell (p := ⟨wr.heap.size + 1, 3, none⟩) (Nat.le_trans Hbw.out.size (Nat.le_succ _)) (.int .i64 K2))
      have Hb9 := Lib.hid (((HK2.out.via Hbk.out HK2.out.size).setCell (p := ⟨wr.heap.size + 1, 2, none⟩) (Nat.le_succ _) (.int .i64 K1)).setCell (p := ⟨wr.heap.size + 1, 3, none⟩) (Nat.le_succ _) (.int .i64 K2))
      have Hown4 := Lib.hid (own_below Hown.out Hb9.out)
      obtain ⟨y0, y1, y2, y3⟩ := cells4 HX11.out (Below.refl _ _)
      have hszz : ((w5.setCell ⟨wr.heap.size + 1, 2, none⟩ (.int .i64 K1)).setCell ⟨wr.heap.size + 1, 3, none⟩ (.int .i64 K2)).heap.size = w5.heap.size := by simp
      have Hblk := Lib.hid (show (((w5.setCell ⟨wr.heap.size + 1, 2, none⟩ (.int .i64 K1)).setCell ⟨wr.heap.size + 1, 3, none⟩ (.int .i64 K2)).alloc (.cells (Iv.row (⟨p.l.c.s, p.h.c.s, K1, K2⟩ : Iv)).toArray 27)).heap[w5.heap.size]? = some (.cells (Iv.row (⟨p.l.c.s, p.h.c.s, K1, K2⟩ : Iv)).toArray 27 (0, 0)) by have h := Blk.new ((w5.setCell ⟨wr.heap.size + 1, 2, none⟩ (.int .i64 K1)).setCell ⟨wr.heap.size + 1, 3, none⟩ (.int .i64 K2)) (Iv.row (⟨p.l.c.s, p.h.c.s, K1, K2⟩ : Iv)).toArray 27; unfold Blk at h; rw [hszz] at h; exact h)
      have Hown4a := Lib.hid (own_below Hown4.out (below1 _ (.cells (Iv.row (⟨p.l.c.s, p.h.c.s, K1, K2⟩ : Iv)).toArray 27)))
      clear hszz
      go_wp2_with (at_builtin; refine wpAppL EI (by decide) (Iv.row (⟨p.l.c.s, p.h.c.s, K1, K2⟩ : Iv)) rfl _ _ rfl w.heap.size _ _ _ _ rfl rfl Hown4a.out Hblk.out rfl (one4 _) (by omega) (by decide) (Nat.le_trans Hb8.out.size (below1 _ _).size) ?_; intro gg cap' w6 hown' hg' _ _; have Hbw3 := Lib.hid (below_app Hb8.out Hown4.out hg' Hb8.out.size); have Hown5 := Lib.hid hown'; clear hown' hg')
      go_roundw
      case rel => exact ⟨k + 1, by omega, by go_num, Hbw3.out, by have := Hown5.out; rw [← Hiv.out, Htk.out] at this; exact this⟩
      case measure => simp [intOf] <;> omega
    · obtain rfl : k = n := by omega
      have hkn : ¬ (k : Int) < (k : Int) := by omega
      obtain ⟨aa, cap, rfl, -, -⟩ := own_open hown
      have hprt := own_ivs hown
      rw [List.take_of_length_le (by rw [Hln.out]; exact Nat.le_refl _)] at hprt
      have Hprt := Lib.hid hprt
      have Hbw := Lib.hid hbw
      clear hown hprt hbw
      go_wp2_with fail
      go_ret
      exact ⟨_, rfl, ⟨aa, cap, rfl, Hprt.out⟩, Hbw.out⟩

end Go.Proofs.YtfmgjcgcocidfaaGreatDoor
