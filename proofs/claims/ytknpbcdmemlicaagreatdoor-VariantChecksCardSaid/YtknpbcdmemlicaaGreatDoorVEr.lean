/-
  The other functions where Check errs.
-/
import Derived.Test.YtknpbcdmemlicaaGreatDoorVCg
import Derived.Test.YtknpbcdmemlicaaGreatDoorVPln
namespace Go.Proofs.YtknpbcdmemlicaaGreatDoor
open Go.RowKit

/-- Check answers e at every later world. -/
def CkE (w : World) (F : Array Value) (e : Int) : Prop := ∀ w2, Below w.heap.size w w2 → Calls Tryz.prog 6 #[.agg F] w2 (Ret (.int .i64 e) w2)
theorem CkE.mono {w w' : World} {F : Array Value} {e : Int} (h : CkE w F e) (hb : Below w.heap.size w w') : CkE w' F e := fun w2 h2 => h w2 (hb.via h2 hb.size)

set_option maxHeartbeats 1000000 in
theorem asked_err (q1 q2 q3 q4 q5 q6 q7 q8 q9 q10 cv : Value) (e : Int) (he : e ≠ 0) (w : World) (HC : CkE w #[q1, q2, q3, q4, q5, q6, q7, q8, q9, q10] e) : Calls Tryz.prog 29 #[.agg #[q1, q2, q3, q4, q5, q6, q7, q8, q9, q10], cv] w (Ret (.int .i64 e) w) := by
  have hb0 := below1 w (.cells #[q1, q2, q3, q4, q5, q6, q7, q8, q9, q10] 36)
  have H1 := Lib.hid (HC _ hb0)
  have hne' : (e != 0) = true := by simpa using he
  clear HC he
  go_enter Tryz.func29, Tryz.ntmps29
  go_wp2_with (go_at_call 6; refine (H1.out).mono ?_; rintro e w1 ⟨rfl, hb1⟩)
  go_ret
  exact Ret.mk (hb0.via hb1 hb0.size)

set_option maxHeartbeats 1000000 in
theorem conf_err (q1 q2 q3 q4 q5 q6 q7 q8 q9 q10 cv : Value) (e : Int) (he : e ≠ 0) (w : World) (HC : CkE w #[q1, q2, q3, q4, q5, q6, q7, q8, q9, q10] e) : Calls Tryz.prog 27 #[.agg #[q1, q2, q3, q4, q5, q6, q7, q8, q9, q10], cv] w (Ret (.tuple #[.int .u64 0, .int .i64 e]) w) := by
  have hb0 := below1 w (.cells #[q1, q2, q3, q4, q5, q6, q7, q8, q9, q10] 36)
  have H1 := Lib.hid (HC _ hb0)
  have hne' : (e != 0) = true := by simpa using he
  clear HC he
  go_enter Tryz.func27, Tryz.ntmps27
  go_wp2_with (go_at_call 6; refine (H1.out).mono ?_; rintro e w1 ⟨rfl, hb1⟩)
  go_ret2
  exact Ret.mk (hb0.via hb1 hb0.size)

set_option maxHeartbeats 1000000 in
theorem allowed_err (q1 q2 q3 q4 q5 q6 q7 q8 q9 q10 cv : Value) (e : Int) (he : e ≠ 0) (w : World) (HC : CkE w #[q1, q2, q3, q4, q5, q6, q7, q8, q9, q10] e) : Calls Tryz.prog 7 #[.agg #[q1, q2, q3, q4, q5, q6, q7, q8, q9, q10], cv] w (Ret (.tuple #[.bool false, .int .i64 0, .int .i64 e]) w) := by
  have hb0 := below1 w (.cells #[q1, q2, q3, q4, q5, q6, q7, q8, q9, q10] 36)
  have H1 := Lib.hid (conf_err q1 q2 q3 q4 q5 q6 q7 q8 q9 q10 cv e he _ (HC.mono hb0))
  have hne' : (e != 0) = true := by simpa using he
  clear HC he
  go_enter Tryz.func7, Tryz.ntmps7
  go_wp2_with (go_at_call 27; refine (H1.out).mono ?_; rintro e w1 ⟨rfl, hb1⟩)
  go_ret3
  exact Ret.mk (hb0.via hb1 hb0.size)

set_option maxHeartbeats 1000000 in
theorem count_err (q1 q2 q3 q4 q5 q6 q7 q8 q9 q10 cv : Value) (e : Int) (he : e ≠ 0) (w : World) (HC : CkE w #[q1, q2, q3, q4, q5, q6, q7, q8, q9, q10] e) : Calls Tryz.prog 8 #[.agg #[q1, q2, q3, q4, q5, q6, q7, q8, q9, q10], cv] w (Ret (.tuple #[.int .i64 0, .int .i64 e]) w) := by
  have hb0 := below1 w (.cells #[q1, q2, q3, q4, q5, q6, q7, q8, q9, q10] 36)
  have H1 := Lib.hid (asked_err q1 q2 q3 q4 q5 q6 q7 q8 q9 q10 cv e he _ (HC.mono hb0))
  have hne' : (e != 0) = true := by simpa using he
  clear HC he
  go_enter Tryz.func8, Tryz.ntmps8
  go_wp2_with (go_at_call 29; refine (H1.out).mono ?_; rintro e w1 ⟨rfl, hb1⟩)
  go_ret2
  exact Ret.mk (hb0.via hb1 hb0.size)

set_option maxHeartbeats 1000000 in
theorem forced_err (q1 q2 q3 q4 q5 q6 q7 q8 q9 q10 cv : Value) (e : Int) (he : e ≠ 0) (w : World) (HC : CkE w #[q1, q2, q3, q4, q5, q6, q7, q8, q9, q10] e) : Calls Tryz.prog 10 #[.agg #[q1, q2, q3, q4, q5, q6, q7, q8, q9, q10], cv] w (Ret (.tuple #[.slice none 0 0, .int .i64 e]) w) := by
  have hb0 := below1 w (.cells #[q1, q2, q3, q4, q5, q6, q7, q8, q9, q10] 36)
  have H1 := Lib.hid (asked_err q1 q2 q3 q4 q5 q6 q7 q8 q9 q10 cv e he _ (HC.mono hb0))
  have hne' : (e != 0) = true := by simpa using he
  clear HC he
  go_enter Tryz.func10, Tryz.ntmps10
  go_wp2_with (go_at_call 29; refine (H1.out).mono ?_; rintro e w1 ⟨rfl, hb1⟩)
  go_ret2
  exact Ret.mk (hb0.via hb1 hb0.size)

set_option maxHeartbeats 1000000 in
theorem conflict_err (q1 q2 q3 q4 q5 q6 q7 q8 q9 q10 cv : Value) (e : Int) (he : e ≠ 0) (w : World) (HC : CkE w #[q1, q2, q3, q4, q5, q6, q7, q8, q9, q10] e) : Calls Tryz.prog 11 #[.agg #[q1, q2, q3, q4, q5, q6, q7, q8, q9, q10], cv] w (Ret (.tuple #[.slice none 0 0, .bool false, .int .i64 e]) w) := by
  have hb0 := below1 w (.cells #[q1, q2, q3, q4, q5, q6, q7, q8, q9, q10] 36)
  have H1 := Lib.hid (asked_err q1 q2 q3 q4 q5 q6 q7 q8 q9 q10 cv e he _ (HC.mono hb0))
  have hne' : (e != 0) = true := by simpa using he
  clear HC he
  go_enter Tryz.func11, Tryz.ntmps11
  go_wp2_with (go_at_call 29; refine (H1.out).mono ?_; rintro e w1 ⟨rfl, hb1⟩)
  go_ret3
  exact Ret.mk (hb0.via hb1 hb0.size)

set_option maxHeartbeats 1000000 in
theorem build_err (q1 q2 q3 q4 q5 q6 q7 q8 q9 q10 cv : Value) (e : Int) (he : e ≠ 0) (w : World) (HC : CkE w #[q1, q2, q3, q4, q5, q6, q7, q8, q9, q10] e) : Calls Tryz.prog 13 #[.agg #[q1, q2, q3, q4, q5, q6, q7, q8, q9, q10], cv] w (Ret (.tuple #[.slice none 0 0, .int .i64 e]) w) := by
  have hb0 := below1 w (.cells #[q1, q2, q3, q4, q5, q6, q7, q8, q9, q10] 36)
  have H1 := Lib.hid (count_err q1 q2 q3 q4 q5 q6 q7 q8 q9 q10 cv e he _ (HC.mono hb0))
  have hne' : (e != 0) = true := by simpa using he
  clear HC he
  go_enter Tryz.func13, Tryz.ntmps13
  go_wp2_with (go_at_call 8; refine (H1.out).mono ?_; rintro e w1 ⟨rfl, hb1⟩)
  go_ret2
  exact Ret.mk (hb0.via hb1 hb0.size)

set_option maxHeartbeats 1000000 in
theorem redund_err (q1 q2 q3 q4 q5 q6 q7 q8 q9 q10 : Value) (e : Int) (he : e ≠ 0) (w : World) (HC : CkE w #[q1, q2, q3, q4, q5, q6, q7, q8, q9, q10] e) : Calls Tryz.prog 14 #[.agg #[q1, q2, q3, q4, q5, q6, q7, q8, q9, q10]] w (Ret (.tuple #[.slice none 0 0, .int .i64 e]) w) := by
  have hb0 := below1 w (.cells #[q1, q2, q3, q4, q5, q6, q7, q8, q9, q10] 36)
  have H1 := Lib.hid (HC _ hb0)
  have hne' : (e != 0) = true := by simpa using he
  clear HC he
  go_enter Tryz.func14, Tryz.ntmps14
  go_wp2_with (go_at_call 6; refine (H1.out).mono ?_; rintro e w1 ⟨rfl, hb1⟩)
  go_ret2
  exact Ret.mk (hb0.via hb1 hb0.size)

set_option maxHeartbeats 1000000 in
theorem used_err (q1 q2 q3 q4 q5 q6 q7 q8 q9 q10 : Value) (e o : Int) (he : e ≠ 0) (w : World) (HC : CkE w #[q1, q2, q3, q4, q5, q6, q7, q8, q9, q10] e) : Calls Tryz.prog 15 #[.agg #[q1, q2, q3, q4, q5, q6, q7, q8, q9, q10], .int .i64 o] w (Ret (.tuple #[.slice none 0 0, .slice none 0 0, .int .i64 e]) w) := by
  have hb0 := below2 w (.cells #[q1, q2, q3, q4, q5, q6, q7, q8, q9, q10] 36) (.cells #[.int .i64 o] 3)
  have H1 := Lib.hid (HC _ hb0)
  have hne' : (e != 0) = true := by simpa using he
  clear HC he
  go_enter Tryz.func15, Tryz.ntmps15
  go_wp2_with (go_at_call 6; refine (H1.out).mono ?_; rintro e w1 ⟨rfl, hb1⟩)
  go_ret3
  exact Ret.mk (hb0.via hb1 hb0.size)

set_option maxHeartbeats 1000000 in
theorem first_err (q1 q2 q3 q4 q5 q6 q7 q8 q9 q10 cv : Value) (e : Int) (he : e ≠ 0) (w : World) (HC : CkE w #[q1, q2, q3, q4, q5, q6, q7, q8, q9, q10] e) : Calls Tryz.prog 9 #[.agg #[q1, q2, q3, q4, q5, q6, q7, q8, q9, q10], cv] w (Ret (.tuple #[.slice none 0 0, .bool false, .int .i64 e]) w) := by
  have hb0 := below3 w (.cells #[q1, q2, q3, q4, q5, q6, q7, q8, q9, q10] 36) (.cells #[.slice none 0 0] 31) (.cells #[.bool false] 4)
  have H1 := Lib.hid (asked_err q1 q2 q3 q4 q5 q6 q7 q8 q9 q10 cv e he _ (HC.mono hb0))
  have hne' : (e != 0) = true := by simpa using he
  have b1 : Box (((w.alloc (.cells #[q1, q2, q3, q4, q5, q6, q7, q8, q9, q10] 36)).alloc (.cells #[.slice none 0 0] 31)).alloc (.cells #[.bool false] 4)) (w.heap.size + 1) 31 (.slice none 0 0) := by
    have := (Box.new (w.alloc (.cells #[q1, q2, q3, q4, q5, q6, q7, q8, q9, q10] 36)) 31 (.slice none 0 0)).old (.cells #[.bool false] 4); simpa using this
  have b2 : Box (((w.alloc (.cells #[q1, q2, q3, q4, q5, q6, q7, q8, q9, q10] 36)).alloc (.cells #[.slice none 0 0] 31)).alloc (.cells #[.bool false] 4)) (w.heap.size + 2) 4 (.bool false) := by
    have := Box.new ((w.alloc (.cells #[q1, q2, q3, q4, q5, q6, q7, q8, q9, q10] 36)).alloc (.cells #[.slice none 0 0] 31)) 4 (.bool false); simpa using this
  have B1 := Lib.hid b1
  have B2 := Lib.hid b2
  clear HC he b1 b2
  go_enter Tryz.func9, Tryz.ntmps9
  go_wp2_with (go_at_call 29; refine (H1.out).mono ?_; rintro e w1 ⟨rfl, hb1⟩; have e1 := B1.out.below hb1; have e2 := B2.out.below hb1; have g1 := cell_of_one e1; have g2 := cell_of_one e2; have k1 := free_of_one e1; have k2 := free_of_one e2)
  have r1 : Box ((w1.setCell ⟨w.heap.size + 1, 0, none⟩ (.slice none 0 0)).setCell ⟨w.heap.size + 2, 0, none⟩ (.bool false)) (w.heap.size + 1) 31 (.slice none 0 0) := Box.other (one_setCell e1) (p := ⟨w.heap.size + 2, 0, none⟩) (show w.heap.size + 1 ≠ w.heap.size + 2 by omega) _
  have r2 : Box ((w1.setCell ⟨w.heap.size + 1, 0, none⟩ (.slice none 0 0)).setCell ⟨w.heap.size + 2, 0, none⟩ (.bool false)) (w.heap.size + 2) 4 (.bool false) := one_setCell (e2.other (p := ⟨w.heap.size + 1, 0, none⟩) (show w.heap.size + 2 ≠ w.heap.size + 1 by omega) _)
  refine bodyPost_ret (v := .tuple #[.slice none 0 0, .bool false, .int .i64 e]) (by simp [results, Tryz.results9, go_sem, cell_of_one r1, cell_of_one r2]) rfl (Ret.mk ?_)
  exact ((hb0.via hb1 hb0.size).setCell (p := ⟨w.heap.size + 1, 0, none⟩) (show w.heap.size ≤ w.heap.size + 1 by omega) _).setCell (p := ⟨w.heap.size + 2, 0, none⟩) (show w.heap.size ≤ w.heap.size + 2 by omega) _

set_option maxHeartbeats 2000000 in
theorem product_err (q1 q2 q3 q4 q5 q6 q7 q8 q9 q10 cv : Value) (e : Int) (he : e ≠ 0) (w : World) (HC : CkE w #[q1, q2, q3, q4, q5, q6, q7, q8, q9, q10] e) : Calls Tryz.prog 12 #[.agg #[q1, q2, q3, q4, q5, q6, q7, q8, q9, q10], cv] w (Ret (.tuple #[.agg #[.string ⟨#[]⟩, .slice none 0 0, .slice none 0 0, .slice none 0 0, .slice none 0 0, .slice none 0 0], .int .i64 e]) w) := by
  have K2 := below2 w (.cells #[q1, q2, q3, q4, q5, q6, q7, q8, q9, q10] 36) (.cells #[.string ⟨#[]⟩, .slice none 0 0, .slice none 0 0, .slice none 0 0, .slice none 0 0, .slice none 0 0] 30)
  have hBR : Blk ((w.alloc (.cells #[q1, q2, q3, q4, q5, q6, q7, q8, q9, q10] 36)).alloc (.cells #[.string ⟨#[]⟩, .slice none 0 0, .slice none 0 0, .slice none 0 0, .slice none 0 0, .slice none 0 0] 30)) (w.heap.size + 1) #[.string ⟨#[]⟩, .slice none 0 0, .slice none 0 0, .slice none 0 0, .slice none 0 0, .slice none 0 0] 30 := by
    have h := Blk.new (w.alloc (.cells #[q1, q2, q3, q4, q5, q6, q7, q8, q9, q10] 36)) #[.string ⟨#[]⟩, .slice none 0 0, .slice none 0 0, .slice none 0 0, .slice none 0 0, .slice none 0 0] 30
    simpa using h
  have H1 := Lib.hid (conf_err q1 q2 q3 q4 q5 q6 q7 q8 q9 q10 cv e he _ (HC.mono K2))
  have hne' : (e != 0) = true := by simpa using he
  have HBR := Lib.hid hBR
  clear HC he hBR
  go_enter Tryz.func12, Tryz.ntmps12
  go_wp2_with (go_at_call 27; refine (H1.out).mono ?_; rintro e w1 ⟨rfl, hb1⟩; have hr2 := HBR.out.below hb1; obtain ⟨⟨x0, x1, x2, x3, x4, x5⟩, ⟨y0, y1, y2, y3, y4, y5⟩⟩ := blk6 hr2)
  have hz := Blk.set6 (.string ⟨#[]⟩) (.slice none 0 0) (.slice none 0 0) (.slice none 0 0) (.slice none 0 0) (.slice none 0 0) hr2
  have hbel := below_set6 (b := w.heap.size + 1) (.string ⟨#[]⟩) (.slice none 0 0) (.slice none 0 0) (.slice none 0 0) (.slice none 0 0) (.slice none 0 0) (K2.via hb1 K2.size) (by omega)
  obtain ⟨⟨r0, r1, r2, r3, r4, r5⟩, -⟩ := blk6 hz
  exact bodyPost_ret (v := .tuple #[.agg #[.string ⟨#[]⟩, .slice none 0 0, .slice none 0 0, .slice none 0 0, .slice none 0 0, .slice none 0 0], .int .i64 e]) (by simp [results, Tryz.results12, go_sem, r0, r1, r2, r3, r4, r5]) rfl ⟨rfl, hbel⟩

set_option maxRecDepth 100000 in
set_option maxHeartbeats 4000000 in
theorem same_zero (w : World) : Calls Tryz.prog 16 #[.agg #[.string ⟨#[]⟩, .slice none 0 0, .slice none 0 0, .slice none 0 0, .slice none 0 0, .slice none 0 0], .agg #[.string ⟨#[]⟩, .slice none 0 0, .slice none 0 0, .slice none 0 0, .slice none 0 0, .slice none 0 0]] w (Ret (.bool true) w) := by
  go_enter Tryz.func16, Tryz.ntmps16
  go_wp2
  have hb0 := below2 w (.cells #[.string ⟨#[]⟩, .slice none 0 0, .slice none 0 0, .slice none 0 0, .slice none 0 0, .slice none 0 0] 30) (.cells #[.string ⟨#[]⟩, .slice none 0 0, .slice none 0 0, .slice none 0 0, .slice none 0 0, .slice none 0 0] 30)
  have h1 : Blk ((w.alloc (.cells #[.string ⟨#[]⟩, .slice none 0 0, .slice none 0 0, .slice none 0 0, .slice none 0 0, .slice none 0 0] 30)).alloc (.cells #[.string ⟨#[]⟩, .slice none 0 0, .slice none 0 0, .slice none 0 0, .slice none 0 0, .slice none 0 0] 30)) w.heap.size #[.string ⟨#[]⟩, .slice none 0 0, .slice none 0 0, .slice none 0 0, .slice none 0 0, .slice none 0 0] 30 := (Blk.new w _ 30).old _
  have h2 : Blk ((w.alloc (.cells #[.string ⟨#[]⟩, .slice none 0 0, .slice none 0 0, .slice none 0 0, .slice none 0 0, .slice none 0 0] 30)).alloc (.cells #[.string ⟨#[]⟩, .slice none 0 0, .slice none 0 0, .slice none 0 0, .slice none 0 0, .slice none 0 0] 30)) (w.heap.size + 1) #[.string ⟨#[]⟩, .slice none 0 0, .slice none 0 0, .slice none 0 0, .slice none 0 0, .slice none 0 0] 30 := by
    have h := Blk.new (w.alloc (.cells #[.string ⟨#[]⟩, .slice none 0 0, .slice none 0 0, .slice none 0 0, .slice none 0 0, .slice none 0 0] 30)) #[.string ⟨#[]⟩, .slice none 0 0, .slice none 0 0, .slice none 0 0, .slice none 0 0, .slice none 0 0] 30
    simpa using h
  generalize (w.alloc (.cells #[.string ⟨#[]⟩, .slice none 0 0, .slice none 0 0, .slice none 0 0, .slice none 0 0, .slice none 0 0] 30)).alloc (.cells #[.string ⟨#[]⟩, .slice none 0 0, .slice none 0 0, .slice none 0 0, .slice none 0 0, .slice none 0 0] 30) = W at *
  obtain ⟨⟨a0, a1, a2, a3, a4, a5⟩, -⟩ := blk6 h1
  obtain ⟨⟨c0, c1, c2, c3, c4, c5⟩, -⟩ := blk6 h2
  clear h1 h2
  go_loopw [5] (fun i wr => i = .int .i64 0 ∧ wr = W) (fun _ _ => 0)
  case atStart => exact ⟨rfl, rfl⟩
  case round =>
    obtain ⟨rfl, rfl⟩ := hrel
    go_wp2
    go_loopw [6] (fun i wq => i = .int .i64 0 ∧ wq = wr) (fun _ _ => 0)
    case atStart => exact ⟨rfl, rfl⟩
    case round =>
      obtain ⟨rfl, rfl⟩ := hrel
      go_wp2
      go_loopw [7] (fun i wp => i = .int .i64 0 ∧ wp = wr) (fun _ _ => 0)
      case atStart => exact ⟨rfl, rfl⟩
      case round =>
        obtain ⟨rfl, rfl⟩ := hrel
        go_wp2
        go_ret
        exact ⟨rfl, hb0⟩

end Go.Proofs.YtknpbcdmemlicaaGreatDoor
