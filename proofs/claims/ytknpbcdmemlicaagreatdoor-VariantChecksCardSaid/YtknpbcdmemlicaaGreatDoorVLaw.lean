/-
  VariantChecks: the walk.
-/
import Derived.Test.YtknpbcdmemlicaaGreatDoorVEr
import Derived.Test.YtknpbcdmemlicaaGreatDoorVMc
import Derived.Test.YtknpbcdmemlicaaGreatDoorVKn
namespace Go.Proofs.YtknpbcdmemlicaaGreatDoor
open Go.RowKit

set_option maxRecDepth 100000 in
set_option maxHeartbeats 16000000 in
theorem checks_any (q0 q1 dv q4 q5 ov rv gv vv : Value) (ai : Option Addr) (mI ci : Nat) (ds : List Dim1) (opts : List ByteArray) (rs : List Rule1) (gs : List Guard1) (os : List Ov1) (w : World) (_hi1 : mI ≤ ci) (_hi2 : ci ≤ maxLen)
    (hD : Dims w dv ds) (hO : Strs w ov opts) (hR : Rules w rv rs) (hG : Gds w gv gs) (hV : Ovs w vv os) :
    Calls Tryz.prog 3 #[.agg #[q0, q1, .slice ai mI ci, dv, q4, q5, ov, rv, gv, vv]] w (Ret (.bool true) w) := by
  obtain ⟨a1, p1, rfl, y1, x1⟩ := hO.open
  obtain ⟨a2, p2, rfl, y2, x2⟩ := hR.open
  obtain ⟨a3, p3, rfl, y3, x3⟩ := hG.open
  obtain ⟨a4, p4, rfl, y4, x4⟩ := hV.open
  obtain ⟨a5, p5, rfl, y5, x5⟩ := hD.open
  unfold maxLen at x1 x2 x3 x4 x5
  have HK := Lib.hid (fun w => known_any w)
  have HM0 := Lib.hid (fun (hos : ∀ o ∈ opts, o.size < 1000) (hns : ∀ r ∈ rs, r.1.size < 1000) w' (h : Below w.heap.size w w') => check_m q0 q1 _ _ q4 q5 _ _ _ _ opts rs gs os ai mI ci ds w' rfl (hO.mono h) (hR.mono h) (hG.mono h) (hV.mono h) (hD.mono h) hos hns)
  have HG0 := Lib.hid (fun (hns : ∀ r ∈ rs, r.1.size ≤ maxLen) w' (h : Below w.heap.size w w') => check_g q0 q1 _ _ q4 q5 _ _ _ _ opts rs gs os ai mI ci ds w' rfl (hO.mono h) (hR.mono h) (hG.mono h) (hV.mono h) (hD.mono h) hns)
  generalize famErr opts rs gs os mI ds = E at HM0 HG0
  generalize hn1 : opts.length = n1 at *
  generalize hn2 : rs.length = n2 at *
  generalize hn3 : gs.length = n3 at *
  generalize hn4 : os.length = n4 at *
  generalize hn5 : ds.length = n5 at *
  have Hn1 := Lib.hid hn1
  have Hn2 := Lib.hid hn2
  have HO := Lib.hid (fun wr (h : Below w.heap.size w wr) j (hj : j < n1) => hO.at h hj)
  have HR := Lib.hid (fun wr (h : Below w.heap.size w wr) j (hj : j < n2) => hR.at h hj)
  clear hn1 hn2 hn3 hn4 hn5 hO hR hG hV hD
  have HB0 := Lib.hid (below1 w (.cells #[q0, q1, .slice ai mI ci, .slice a5 n5 p5, q4, q5, .slice a1 n1 p1, .slice a2 n2 p2, .slice a3 n3 p3, .slice a4 n4 p4] 36))
  have HC := Lib.hid (fun w' (hb : Below (w.alloc (.cells #[q0, q1, .slice ai mI ci, .slice a5 n5 p5, q4, q5, .slice a1 n1 p1, .slice a2 n2 p2, .slice a3 n3 p3, .slice a4 n4 p4] 36)).heap.size (w.alloc (.cells #[q0, q1, .slice ai mI ci, .slice a5 n5 p5, q4, q5, .slice a1 n1 p1, .slice a2 n2 p2, .slice a3 n3 p3, .slice a4 n4 p4] 36)) w') => box10 (hb.mono (by simp)))
  go_enter Tryz.func3, Tryz.ntmps3
  go_wp2_with fail
  generalize w.alloc (.cells #[q0, q1, .slice ai mI ci, .slice a5 n5 p5, q4, q5, .slice a1 n1 p1, .slice a2 n2 p2, .slice a3 n3 p3, .slice a4 n4 p4] 36) = W at *
  have hbx := Below.refl W.heap.size W
  have Hbw := Lib.hid (fun w' (hb : Below W.heap.size W w') => HB0.out.via hb HB0.out.size)
  by_cases l1 : (14 : Int) < (n1 : Int)
  · go_wp2_with (go_at_call 4; refine (HK.out _).mono ?_; rintro e w1 ⟨rfl, hb1⟩; have hbx := hbx.via hb1 hbx.size; obtain ⟨hB, f0, f1, f2, f3, f4, f5, f6, f7, f8, f9⟩ := HC.out _ hbx)
    go_ret
    exact Ret.mk (Hbw.out _ hbx)
  by_cases l2 : (50 : Int) < (n2 : Int)
  · go_wp2_with (go_at_call 4; refine (HK.out _).mono ?_; rintro e w1 ⟨rfl, hb1⟩; have hbx := hbx.via hb1 hbx.size; obtain ⟨hB, f0, f1, f2, f3, f4, f5, f6, f7, f8, f9⟩ := HC.out _ hbx)
    go_ret
    exact Ret.mk (Hbw.out _ hbx)
  by_cases l3 : (50 : Int) < (n3 : Int)
  · go_wp2_with (go_at_call 4; refine (HK.out _).mono ?_; rintro e w1 ⟨rfl, hb1⟩; have hbx := hbx.via hb1 hbx.size; obtain ⟨hB, f0, f1, f2, f3, f4, f5, f6, f7, f8, f9⟩ := HC.out _ hbx)
    go_ret
    exact Ret.mk (Hbw.out _ hbx)
  by_cases l4 : (50 : Int) < (n4 : Int)
  · go_wp2_with (go_at_call 4; refine (HK.out _).mono ?_; rintro e w1 ⟨rfl, hb1⟩; have hbx := hbx.via hb1 hbx.size; obtain ⟨hB, f0, f1, f2, f3, f4, f5, f6, f7, f8, f9⟩ := HC.out _ hbx)
    go_ret
    exact Ret.mk (Hbw.out _ hbx)
  by_cases l5 : (6 : Int) < (mI : Int)
  · go_wp2_with (go_at_call 4; refine (HK.out _).mono ?_; rintro e w1 ⟨rfl, hb1⟩; have hbx := hbx.via hb1 hbx.size; obtain ⟨hB, f0, f1, f2, f3, f4, f5, f6, f7, f8, f9⟩ := HC.out _ hbx)
    go_ret
    exact Ret.mk (Hbw.out _ hbx)
  by_cases l6 : (6 : Int) < (n5 : Int)
  · go_wp2_with (go_at_call 4; refine (HK.out _).mono ?_; rintro e w1 ⟨rfl, hb1⟩; have hbx := hbx.via hb1 hbx.size; obtain ⟨hB, f0, f1, f2, f3, f4, f5, f6, f7, f8, f9⟩ := HC.out _ hbx)
    go_ret
    exact Ret.mk (Hbw.out _ hbx)
  have l1n : n1 ≤ 14 := by omega
  have l2n : n2 ≤ 50 := by omega
  go_wp2_with (go_at_call 4; refine (HK.out _).mono ?_; rintro e w1 ⟨rfl, hb1⟩; have hbx := hbx.via hb1 hbx.size; obtain ⟨hB, f0, f1, f2, f3, f4, f5, f6, f7, f8, f9⟩ := HC.out _ hbx)
  clear f0 f1 f2 f3 f4 f5 f6 f7 f8 f9 l1 l2 l3 l4 l5 l6
  go_loopw [3] (fun i wr => ∃ j : Nat, j ≤ n1 ∧ i = .int .i64 j ∧ Below W.heap.size W wr ∧ Hid (∀ s ∈ opts.take j, s.size ≤ 80)) (fun i _ => n1 - (intOf i).toNat)
  case atStart => exact ⟨0, Nat.zero_le _, rfl, hbx, by intro s hs; simp at hs⟩
  case round =>
    obtain ⟨j, hj, rfl, hbx, hpre⟩ := hrel
    by_cases hlt : j < n1
    · obtain ⟨b, off, s, rfl, hsk, c0⟩ := HO.out wr (Hbw.out _ hbx) j hlt
      have Hsk := Lib.hid hsk
      clear hsk
      obtain ⟨hB, f0, f1, f2, f3, f4, f5, f6, f7, f8, f9⟩ := HC.out _ hbx
      clear f0 f1 f2 f3 f4 f5 f7 f8 f9
      by_cases h80 : 80 < s.size
      · have h80d : (80 : Int) < (s.size : Int) := by omega
        go_wp2_with fail
        go_ret
        exact Ret.mk (Hbw.out _ hbx)
      · have h80d : ¬ (80 : Int) < (s.size : Int) := by omega
        go_wp2_with fail
        go_roundw
        case rel => exact ⟨j + 1, by omega, by go_num, hbx, take_succ_all hpre.out Hsk.out (by omega)⟩
        case measure => simp [intOf]; omega
    · have Hos := Lib.hid (show ∀ o ∈ opts, o.size < 1000 from fun s hs => by have := take_all hpre.out (by have := Hn1.out; omega) s hs; omega)
      clear hpre
      obtain ⟨hB, f0, f1, f2, f3, f4, f5, f6, f7, f8, f9⟩ := HC.out _ hbx
      clear f0 f1 f2 f3 f4 f5 f7 f8 f9
      go_wp2_with fail
      clear f6 hlt hj
      go_loopw [4] (fun i wr => ∃ j : Nat, j ≤ n2 ∧ i = .int .i64 j ∧ Below W.heap.size W wr ∧ Hid (∀ r ∈ rs.take j, r.1.size ≤ 80)) (fun i _ => n2 - (intOf i).toNat)
      case atStart => exact ⟨0, Nat.zero_le _, rfl, hbx, by intro s hs; simp at hs⟩
      case round =>
        obtain ⟨j, hj, rfl, hbx, hpre⟩ := hrel
        by_cases hlt : j < n2
        · obtain ⟨b, off, av, r, rfl, hsk, c0, c1, hL⟩ := HR.out wr (Hbw.out _ hbx) j hlt
          obtain ⟨aa, ac, rfl, -, -⟩ := hL.open
          have Hsk := Lib.hid hsk
          clear hsk hL
          generalize r.2.length = rl at *
          obtain ⟨hB, f0, f1, f2, f3, f4, f5, f6, f7, f8, f9⟩ := HC.out _ hbx
          clear f0 f1 f2 f3 f4 f5 f6 f8 f9
          by_cases h80 : 80 < r.1.size
          · have h80d : (80 : Int) < (r.1.size : Int) := by omega
            go_wp2_with fail
            go_ret
            exact Ret.mk (Hbw.out _ hbx)
          · have h80d : ¬ (80 : Int) < (r.1.size : Int) := by omega
            by_cases h6 : (6 : Int) < (rl : Int)
            · go_wp2_with fail
              go_ret
              exact Ret.mk (Hbw.out _ hbx)
            · go_wp2_with fail
              go_roundw
              case rel => exact ⟨j + 1, by omega, by go_num, hbx, take_succ_all hpre.out Hsk.out (by omega)⟩
              case measure => simp [intOf]; omega
        · have hns := show ∀ r ∈ rs, r.1.size ≤ 80 from fun s hs => take_all hpre.out (by have := Hn2.out; omega) s hs
          have HM := Lib.hid (HM0.out Hos.out (fun r hr => by have := hns r hr; omega))
          have HG := Lib.hid (HG0.out (fun r hr => by have := hns r hr; unfold maxLen; omega))
          clear hpre hns HM0 HG0 HO HR
          obtain ⟨hB, f0, f1, f2, f3, f4, f5, f6, f7, f8, f9⟩ := HC.out _ hbx
          have MARM := HM.out
          by_cases hE : E = 0
          · subst hE
            go_wp2_with (first
              | (go_at_call 5; refine (HM.out _ (Hbw.out _ hbx)).mono ?_; rintro e w1 ⟨rfl, hb1⟩; have hbx := hbx.via hb1 hbx.size; obtain ⟨hB, f0, f1, f2, f3, f4, f5, f6, f7, f8, f9⟩ := HC.out _ hbx)
              | (go_at_call 6; refine (HG.out _ (Hbw.out _ hbx)).mono ?_; rintro e w2 ⟨rfl, hb2⟩; have hbx := hbx.via hb2 hbx.size))
            go_ret
            exact Ret.mk (Hbw.out _ hbx)
          · have HE := Lib.hid hE
            have hEb : (E == 0) = false := by simpa using hE
            have HCk : Hid (∀ w', Below W.heap.size W w' → CkE w' #[q0, q1, .slice ai mI ci, .slice a5 n5 p5, q4, q5, .slice a1 n1 p1, .slice a2 n2 p2, .slice a3 n3 p3, .slice a4 n4 p4] E) := fun w' hb w2 h2 => HG.out w2 (Hbw.out _ (hb.via h2 hb.size))
            have HS := Lib.hid (fun w => same_zero w)
            clear MARM hE
            have H0 := Lib.hid (fun w' (hb : Below W.heap.size W w') => allowed_err q0 q1 (.slice ai mI ci) (.slice a5 n5 p5) q4 q5 (.slice a1 n1 p1) (.slice a2 n2 p2) (.slice a3 n3 p3) (.slice a4 n4 p4) (.slice none 0 0) E HE.out w' (HCk.out _ hb))
            have H1 := Lib.hid (fun w' (hb : Below W.heap.size W w') => count_err q0 q1 (.slice ai mI ci) (.slice a5 n5 p5) q4 q5 (.slice a1 n1 p1) (.slice a2 n2 p2) (.slice a3 n3 p3) (.slice a4 n4 p4) (.slice none 0 0) E HE.out w' (HCk.out _ hb))
            have H2 := Lib.hid (fun w' (hb : Below W.heap.size W w') => first_err q0 q1 (.slice ai mI ci) (.slice a5 n5 p5) q4 q5 (.slice a1 n1 p1) (.slice a2 n2 p2) (.slice a3 n3 p3) (.slice a4 n4 p4) (.slice none 0 0) E HE.out w' (HCk.out _ hb))
            have H3 := Lib.hid (fun w' (hb : Below W.heap.size W w') => forced_err q0 q1 (.slice ai mI ci) (.slice a5 n5 p5) q4 q5 (.slice a1 n1 p1) (.slice a2 n2 p2) (.slice a3 n3 p3) (.slice a4 n4 p4) (.slice none 0 0) E HE.out w' (HCk.out _ hb))
            have H4 := Lib.hid (fun w' (hb : Below W.heap.size W w') => conflict_err q0 q1 (.slice ai mI ci) (.slice a5 n5 p5) q4 q5 (.slice a1 n1 p1) (.slice a2 n2 p2) (.slice a3 n3 p3) (.slice a4 n4 p4) (.slice none 0 0) E HE.out w' (HCk.out _ hb))
            have H5 := Lib.hid (fun w' (hb : Below W.heap.size W w') => product_err q0 q1 (.slice ai mI ci) (.slice a5 n5 p5) q4 q5 (.slice a1 n1 p1) (.slice a2 n2 p2) (.slice a3 n3 p3) (.slice a4 n4 p4) (.slice none 0 0) E HE.out w' (HCk.out _ hb))
            have H6 := Lib.hid (fun w' (hb : Below W.heap.size W w') => build_err q0 q1 (.slice ai mI ci) (.slice a5 n5 p5) q4 q5 (.slice a1 n1 p1) (.slice a2 n2 p2) (.slice a3 n3 p3) (.slice a4 n4 p4) (.slice none 0 0) E HE.out w' (HCk.out _ hb))
            have H7 := Lib.hid (fun w' (hb : Below W.heap.size W w') => redund_err q0 q1 (.slice ai mI ci) (.slice a5 n5 p5) q4 q5 (.slice a1 n1 p1) (.slice a2 n2 p2) (.slice a3 n3 p3) (.slice a4 n4 p4) E HE.out w' (HCk.out _ hb))
            have H8 := Lib.hid (fun w' (hb : Below W.heap.size W w') => used_err q0 q1 (.slice ai mI ci) (.slice a5 n5 p5) q4 q5 (.slice a1 n1 p1) (.slice a2 n2 p2) (.slice a3 n3 p3) (.slice a4 n4 p4) E 0 HE.out w' (HCk.out _ hb))
            go_wp2_with (first
              | (go_at_call 5; refine (HM.out _ (Hbw.out _ hbx)).mono ?_; rintro e w1 ⟨rfl, hb1⟩; have hbx := hbx.via hb1 hbx.size; obtain ⟨hB, f0, f1, f2, f3, f4, f5, f6, f7, f8, f9⟩ := HC.out _ hbx)
              | (go_at_call 6; refine (HG.out _ (Hbw.out _ hbx)).mono ?_; rintro e w2 ⟨rfl, hb2⟩; have hbx := hbx.via hb2 hbx.size; obtain ⟨hB, f0, f1, f2, f3, f4, f5, f6, f7, f8, f9⟩ := HC.out _ hbx)
              | (go_at_call 7; refine (H0.out _ hbx).mono ?_; rintro e wa0 ⟨rfl, hb3⟩; have hbx := hbx.via hb3 hbx.size; obtain ⟨hB, f0, f1, f2, f3, f4, f5, f6, f7, f8, f9⟩ := HC.out _ hbx)
              | (go_at_call 8; refine (H1.out _ hbx).mono ?_; rintro e wa1 ⟨rfl, hb4⟩; have hbx := hbx.via hb4 hbx.size; obtain ⟨hB, f0, f1, f2, f3, f4, f5, f6, f7, f8, f9⟩ := HC.out _ hbx)
              | (go_at_call 9; refine (H2.out _ hbx).mono ?_; rintro e wa2 ⟨rfl, hb5⟩; have hbx := hbx.via hb5 hbx.size; obtain ⟨hB, f0, f1, f2, f3, f4, f5, f6, f7, f8, f9⟩ := HC.out _ hbx)
              | (go_at_call 10; refine (H3.out _ hbx).mono ?_; rintro e wa3 ⟨rfl, hb6⟩; have hbx := hbx.via hb6 hbx.size; obtain ⟨hB, f0, f1, f2, f3, f4, f5, f6, f7, f8, f9⟩ := HC.out _ hbx)
              | (go_at_call 11; refine (H4.out _ hbx).mono ?_; rintro e wa4 ⟨rfl, hb7⟩; have hbx := hbx.via hb7 hbx.size; obtain ⟨hB, f0, f1, f2, f3, f4, f5, f6, f7, f8, f9⟩ := HC.out _ hbx)
              | (go_at_call 12; refine (H5.out _ hbx).mono ?_; rintro e wa5 ⟨rfl, hb8⟩; have hbx := hbx.via hb8 hbx.size; have hbx := hbx.via (below1 wa5 (.cells #[.string ⟨#[]⟩, .slice none 0 0, .slice none 0 0, .slice none 0 0, .slice none 0 0, .slice none 0 0] 30)) hbx.size; have hZ := Blk.new wa5 #[.string ⟨#[]⟩, .slice none 0 0, .slice none 0 0, .slice none 0 0, .slice none 0 0, .slice none 0 0] 30; obtain ⟨hB, f0, f1, f2, f3, f4, f5, f6, f7, f8, f9⟩ := HC.out _ hbx)
              | (go_at_call 13; refine (H6.out _ hbx).mono ?_; rintro e wa6 ⟨rfl, hb9⟩; have hbx := hbx.via hb9 hbx.size; have hZ := hZ.below hb9; obtain ⟨hB, f0, f1, f2, f3, f4, f5, f6, f7, f8, f9⟩ := HC.out _ hbx)
              | (go_at_call 14; refine (H7.out _ hbx).mono ?_; rintro e wa7 ⟨rfl, hb10⟩; have hbx := hbx.via hb10 hbx.size; have hZ := hZ.below hb10; obtain ⟨hB, f0, f1, f2, f3, f4, f5, f6, f7, f8, f9⟩ := HC.out _ hbx)
              | (go_at_call 15; refine (H8.out _ hbx).mono ?_; rintro e wa8 ⟨rfl, hb11⟩; have hbx := hbx.via hb11 hbx.size; have hZ := hZ.below hb11; obtain ⟨⟨z0, z1, z2, z3, z4, z5⟩, -⟩ := blk6 hZ)
              | (go_at_call 16; refine (HS.out _).mono ?_; rintro e wl ⟨rfl, hbl⟩; have hbx := hbx.via hbl hbx.size))
            go_ret
            exact Ret.mk (Hbw.out _ hbx)

end Go.Proofs.YtknpbcdmemlicaaGreatDoor
