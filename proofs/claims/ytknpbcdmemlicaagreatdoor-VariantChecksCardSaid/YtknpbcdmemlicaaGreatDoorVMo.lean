/-
  The model's overrides of any family.
-/
import Derived.Test.YtknpbcdmemlicaaGreatDoorVFe
import Derived.Test.YtknpbcdmemlicaaGreatDoorVLit
namespace Go.Proofs.YtknpbcdmemlicaaGreatDoor
open Go.RowKit

set_option maxRecDepth 100000 in
set_option maxHeartbeats 8000000 in
theorem overrides_m (q0 q1 iv dv q4 q5 ov rv gv vv : Value) (opts : List ByteArray) (os : List Ov1) (ds : List Dim1) (w : World)
    (hO : Strs w ov opts) (hV : Ovs w vv os) (hD : Dims w dv ds) :
    Calls Tryz.prog 24 #[.agg #[q0, q1, iv, dv, q4, q5, ov, rv, gv, vv]] w (Ret (.int .i64 (ovrErr opts.length ds os)) w) := by
  obtain ⟨a1, p1, rfl, y1, x1⟩ := hO.open
  obtain ⟨a4, p4, rfl, y4, x4⟩ := hV.open
  obtain ⟨a5, p5, rfl, y5, x5⟩ := hD.open
  unfold maxLen at x1 x4 x5
  generalize hE : ovrErr opts.length ds os = E
  have HEo := Lib.hid hE
  clear hE
  generalize hn1 : opts.length = n1 at *
  generalize hn4 : os.length = n4 at *
  generalize hn5 : ds.length = n5 at *
  have Hn1 := Lib.hid hn1
  have Hn4 := Lib.hid hn4
  have Hn5 := Lib.hid hn5
  clear hn1 hn4 hn5
  go_enter Tryz.func24, Tryz.ntmps24
  go_wp2
  have hb0 := below1 w (.cells #[q0, q1, iv, .slice a5 n5 p5, q4, q5, .slice a1 n1 p1, rv, gv, .slice a4 n4 p4] 36)
  have hbx := box10 (Below.refl (w.heap.size + 1) (w.alloc (.cells #[q0, q1, iv, .slice a5 n5 p5, q4, q5, .slice a1 n1 p1, rv, gv, .slice a4 n4 p4] 36)))
  obtain ⟨hB, -, -, -, g3, -, -, g6, -, -, g9⟩ := hbx
  have hO := hO.mono hb0
  have hV := hV.mono hb0
  have hD := hD.mono hb0
  generalize w.alloc (.cells #[q0, q1, iv, .slice a5 n5 p5, q4, q5, .slice a1 n1 p1, rv, gv, .slice a4 n4 p4] 36) = W at *
  go_loopw [3] (fun i wr => ∃ k : Nat, k ≤ n4 ∧ i = .int .i64 k ∧ Below W.heap.size W wr ∧ Hid (OvrPre n1 ds os k)) (fun i _ => n4 - (intOf i).toNat)
  case atStart => exact ⟨0, Nat.zero_le _, rfl, Below.refl _ _, rfl⟩
  case round =>
    obtain ⟨k, hk, rfl, hbw, HP⟩ := hrel
    have f9 := (hbw.cell (p := ⟨w.heap.size, 9, none⟩) hB).trans g9
    by_cases hlt2 : k < n4
    · have f6 := (hbw.cell (p := ⟨w.heap.size, 6, none⟩) hB).trans g6
      have f3 := (hbw.cell (p := ⟨w.heap.size, 3, none⟩) hB).trans g3
      have hB2 := Nat.lt_of_lt_of_le hB hbw.size
      obtain ⟨b, off, av, o, rfl, hrk, c0, c1, c2, c3, c4, c5, hL⟩ := hV.at hbw hlt2
      have Hrk := Lib.hid hrk
      obtain ⟨aa, ac, rfl, -, -⟩ := hL.open
      generalize hrl : o.1.length = rl at *
      generalize hle : litErr (n1 : Int) o.1 = le
      have Hle := Lib.hid hle
      have Hc : Hid (∀ w2, Below wr.heap.size wr w2 → Calls Tryz.prog 23 #[.int .i64 (n1 : Int), .slice aa rl ac] w2 (Ret (.int .i64 le) w2)) := fun w2 h2 => by
        have := literals_g (n1 : Int) o.1 _ w2 (hL.mono h2)
        rw [Hle.out] at this
        exact this
      clear hrk g3 g6 g9 hL hrl hle
      by_cases hl0 : le = 0
      · subst hl0
        by_cases hi0 : o.2.1 < 0
        · have z1 : (wr.alloc (.cells #[.slice aa rl ac, .int .i64 o.2.1, .string o.2.2.1, .int .i64 o.2.2.2.1, .int .i64 o.2.2.2.2.1, .int .i64 o.2.2.2.2.2] 86)).cell? ⟨wr.heap.size, 1, none⟩ = some (.int .i64 o.2.1) := by simp
          go_wp2_with (go_at_call 23; refine (Hc.out _ (below1 _ _)).mono ?_; rintro e w4 ⟨rfl, hb4⟩; have hwr4 := (below1 wr (.cells #[.slice aa rl ac, .int .i64 o.2.1, .string o.2.2.1, .int .i64 o.2.2.2.1, .int .i64 o.2.2.2.2.1, .int .i64 o.2.2.2.2.2] 86)).via hb4 (by simp); have hbw4 := hbw.via hwr4 hbw.size; have y1 := (hb4.cell (p := ⟨wr.heap.size, 1, none⟩) (by simp)).trans z1)
          go_ret
          exact ⟨ret_int (((errRun_hit Hrk.out HP.out (by rw [ovrF_10 Hle.out (.inl hi0)]; decide)).trans (ovrF_10 Hle.out (.inl hi0))).symm.trans HEo.out), hb0.via hbw4 hb0.size⟩
        by_cases hi1 : (n5 : Int) ≤ o.2.1
        · have z1 : (wr.alloc (.cells #[.slice aa rl ac, .int .i64 o.2.1, .string o.2.2.1, .int .i64 o.2.2.2.1, .int .i64 o.2.2.2.2.1, .int .i64 o.2.2.2.2.2] 86)).cell? ⟨wr.heap.size, 1, none⟩ = some (.int .i64 o.2.1) := by simp
          have hi1' : Hid ((ds.length : Int) ≤ o.2.1) := by rw [Hn5.out]; exact hi1
          go_wp2_with (go_at_call 23; refine (Hc.out _ (below1 _ _)).mono ?_; rintro e w4 ⟨rfl, hb4⟩; have hwr4 := (below1 wr (.cells #[.slice aa rl ac, .int .i64 o.2.1, .string o.2.2.1, .int .i64 o.2.2.2.1, .int .i64 o.2.2.2.2.1, .int .i64 o.2.2.2.2.2] 86)).via hb4 (by simp); have hbw4 := hbw.via hwr4 hbw.size; have y1 := (hb4.cell (p := ⟨wr.heap.size, 1, none⟩) (by simp)).trans z1; have f3' := (hwr4.cell (p := ⟨w.heap.size, 3, none⟩) hB2).trans f3)
          go_ret
          exact ⟨ret_int (((errRun_hit Hrk.out HP.out (by rw [ovrF_10 Hle.out (.inr hi1'.out)]; decide)).trans (ovrF_10 Hle.out (.inr hi1'.out))).symm.trans HEo.out), hb0.via hbw4 hb0.size⟩
        obtain ⟨dk, hdk⟩ : ∃ dk : Nat, o.2.1 = (dk : Int) := ⟨o.2.1.toNat, by omega⟩
        have hdl : dk < n5 := by omega
        obtain ⟨b', off', d', rfl, hd', hbl, e0, -, -, -⟩ := hD.at hbw hdl
        rw [hdk] at c1
        have Hdk := Lib.hid hdk
        have Hd' := Lib.hid hd'
        clear hd' hdk hi0 hi1
        have z1 : (wr.alloc (.cells #[.slice aa rl ac, .int .i64 (dk : Int), .string o.2.2.1, .int .i64 o.2.2.2.1, .int .i64 o.2.2.2.2.1, .int .i64 o.2.2.2.2.2] 86)).cell? ⟨wr.heap.size, 1, none⟩ = some (.int .i64 (dk : Int)) := by simp
        have z2 : (wr.alloc (.cells #[.slice aa rl ac, .int .i64 (dk : Int), .string o.2.2.1, .int .i64 o.2.2.2.1, .int .i64 o.2.2.2.2.1, .int .i64 o.2.2.2.2.2] 86)).cell? ⟨wr.heap.size, 2, none⟩ = some (.string o.2.2.1) := by simp
        have hbl2 := Nat.lt_of_lt_of_le hbl hbw.size
        by_cases hdn : d'.1 = o.2.2.1
        · rw [hdn] at e0
          have Hdn := Lib.hid hdn
          clear hdn
          go_wp2_with (go_at_call 23; refine (Hc.out _ (below1 _ _)).mono ?_; rintro e w4 ⟨rfl, hb4⟩; have hwr4 := (below1 wr (.cells #[.slice aa rl ac, .int .i64 (dk : Int), .string o.2.2.1, .int .i64 o.2.2.2.1, .int .i64 o.2.2.2.2.1, .int .i64 o.2.2.2.2.2] 86)).via hb4 (by simp); have hbw4 := hbw.via hwr4 hbw.size; have y1 := (hb4.cell (p := ⟨wr.heap.size, 1, none⟩) (by simp)).trans z1; have y2 := (hb4.cell (p := ⟨wr.heap.size, 2, none⟩) (by simp)).trans z2; have f3' := (hwr4.cell (p := ⟨w.heap.size, 3, none⟩) hB2).trans f3; have e0' := (hwr4.cell (p := ⟨b', _, none⟩) hbl2).trans e0)
          go_quiet (fail)
          go_wp2
          go_roundw
          case rel => exact ⟨k + 1, by omega, by go_num, hbw4.dn _, errRun_step Hrk.out HP.out (ovrF_0 Hle.out Hdk.out Hd'.out Hdn.out)⟩
          case measure => simp [intOf]; omega
        · have hdn2 : (o.2.2.1.toList == d'.1.toList) = false := beq_eq_false_iff_ne.2 fun h => hdn (bytes_inj h).symm
          go_wp2_with (go_at_call 23; refine (Hc.out _ (below1 _ _)).mono ?_; rintro e w4 ⟨rfl, hb4⟩; have hwr4 := (below1 wr (.cells #[.slice aa rl ac, .int .i64 (dk : Int), .string o.2.2.1, .int .i64 o.2.2.2.1, .int .i64 o.2.2.2.2.1, .int .i64 o.2.2.2.2.2] 86)).via hb4 (by simp); have hbw4 := hbw.via hwr4 hbw.size; have y1 := (hb4.cell (p := ⟨wr.heap.size, 1, none⟩) (by simp)).trans z1; have y2 := (hb4.cell (p := ⟨wr.heap.size, 2, none⟩) (by simp)).trans z2; have f3' := (hwr4.cell (p := ⟨w.heap.size, 3, none⟩) hB2).trans f3; have e0' := (hwr4.cell (p := ⟨b', _, none⟩) hbl2).trans e0)
          go_quiet (fail)
          go_wp2
          go_ret
          exact ⟨ret_int (((errRun_hit Hrk.out HP.out (by rw [ovrF_17 Hle.out Hdk.out Hd'.out hdn]; decide)).trans (ovrF_17 Hle.out Hdk.out Hd'.out hdn)).symm.trans HEo.out), hb0.via (hbw4.dn _) hb0.size⟩
      · go_wp2_with (go_at_call 23; refine (Hc.out _ (below1 _ _)).mono ?_; rintro e w4 ⟨rfl, hb4⟩; have hbw4 := hbw.via ((below1 wr _).via hb4 (by simp)) hbw.size)
        go_ret
        exact ⟨ret_int (((errRun_hit Hrk.out HP.out (by rw [ovrF_lit (by rw [Hle.out]; exact hl0), Hle.out]; exact hl0)).trans ((ovrF_lit (by rw [Hle.out]; exact hl0)).trans Hle.out)).symm.trans HEo.out), hb0.via hbw4 hb0.size⟩
    · go_wp2
      go_ret
      exact ⟨ret_int ((errRun_end (by have := Hn4.out; omega) HP.out).symm.trans HEo.out), hb0.via hbw hb0.size⟩

end Go.Proofs.YtknpbcdmemlicaaGreatDoor
