/-
  The error of what is asked.
-/
import Derived.Test.YtknpbcdmemlicaaGreatDoorVChk
namespace Go.Proofs.YtknpbcdmemlicaaGreatDoor
open Go.RowKit

set_option maxHeartbeats 1000000 in
theorem asked_any (q1 q2 q3 q4 q5 q6 q7 q8 q9 q10 cv : Value) (opts : List ByteArray) (rs : List Rule1) (gs : List Guard1) (os : List Ov1) (mI : Nat) (ds : List Dim1) (ch : List Lit1) (w : World)
    (hF : Fam w q1 q2 q3 q4 q5 q6 q7 q8 q9 q10 opts rs gs os mI ds) (hC : Lits w cv ch) (hcl : ch.length < 1000) :
    Calls Tryz.prog 29 #[.agg #[q1, q2, q3, q4, q5, q6, q7, q8, q9, q10], cv] w (Ret (.int .i64 (litErr opts.length ch)) w) := by
  obtain ⟨ai, ci, rfl⟩ := hF.insts
  have hb0 := below1 w (.cells #[q1, q2, .slice ai mI ci, q4, q5, q6, q7, q8, q9, q10] 36)
  have hF0 := hF.mono hb0
  have H1 := Lib.hid (check_any q1 q2 _ q4 q5 q6 q7 q8 q9 q10 opts rs gs os ai mI ci ds _ rfl hF0.opt hF0.rul hF0.grd hF0.ovr hF0.dims hF0.ok)
  obtain ⟨ao, po, hq7, -, -⟩ := hF.opt.open
  subst hq7
  generalize hn : opts.length = n at *
  have H2 : Hid (∀ w2, Below w.heap.size w w2 → Calls Tryz.prog 26 #[cv, .int .i64 (n : Int)] w2 (Ret (.int .i64 (litErr (n : Int) ch)) w2)) := fun w2 h2 => check61 (n : Int) ch cv w2 (hC.mono h2) hcl
  clear hF hF0 hC hn
  have z6 : (w.alloc (.cells #[q1, q2, .slice ai mI ci, q4, q5, q6, .slice ao n po, q8, q9, q10] 36)).cell? ⟨w.heap.size, 6, none⟩ = some (.slice ao n po) := by simp
  go_enter Tryz.func29, Tryz.ntmps29
  go_wp2_with (first | (go_at_call 6; refine (H1.out).mono ?_; rintro e w1 ⟨rfl, hb1⟩; have y6 := (hb1.cell (p := ⟨w.heap.size, 6, none⟩) (by simp)).trans z6; have hw1 := hb0.via hb1 hb0.size) | (go_at_call 26; refine (H2.out _ hw1).mono ?_; rintro e w2 ⟨rfl, hb2⟩))
  go_ret
  exact Ret.mk (hw1.via hb2 hw1.size)

end Go.Proofs.YtknpbcdmemlicaaGreatDoor
