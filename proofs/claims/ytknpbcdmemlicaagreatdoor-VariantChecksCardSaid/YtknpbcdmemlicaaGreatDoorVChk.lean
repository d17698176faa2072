/-
  Check finds nothing in a family that is right.
-/
import Derived.Test.YtknpbcdmemlicaaGreatDoorVMem
import Derived.Test.YtknpbcdmemlicaaGreatDoorVName
import Derived.Test.YtknpbcdmemlicaaGreatDoorVLit
namespace Go.Proofs.YtknpbcdmemlicaaGreatDoor
open Go.RowKit

set_option maxRecDepth 100000 in
set_option maxHeartbeats 4000000 in
theorem check_any (q0 q1 iv dv q4 q5 ov rv gv vv : Value) (opts : List ByteArray) (rs : List Rule1) (gs : List Guard1) (os : List Ov1) (ai : Option Addr) (mI ci : Nat) (ds : List Dim1) (w : World) (hi : iv = .slice ai mI ci)
    (hO : Strs w ov opts) (hR : Rules w rv rs) (hG : Gds w gv gs) (hV : Ovs w vv os) (hD : Dims w dv ds) (F : FamOk opts rs gs os mI ds) :
    Calls Tryz.prog 6 #[.agg #[q0, q1, iv, dv, q4, q5, ov, rv, gv, vv]] w (Ret (.int .i64 0) w) := by
  subst hi
  obtain ⟨a1, p1, rfl, -, x1⟩ := hO.open
  obtain ⟨a2, p2, rfl, -, x2⟩ := hR.open
  obtain ⟨a3, p3, rfl, -, x3⟩ := hG.open
  obtain ⟨a4, p4, rfl, -, x4⟩ := hV.open
  obtain ⟨a5, p5, rfl, -, x5⟩ := hD.open
  unfold maxLen at x1 x2 x3 x4 x5
  have o12 := F.opts12
  have r48 := F.rs48
  have g48 := F.gs48
  have v48 := F.os48
  have HF := Lib.hid F
  clear F
  generalize hn1 : opts.length = n1 at *
  generalize hn2 : rs.length = n2 at *
  generalize hn3 : gs.length = n3 at *
  generalize hn4 : os.length = n4 at *
  generalize hn5 : ds.length = n5 at *
  have Hn1 := Lib.hid hn1
  clear hn1 hn2 hn3 hn4
  obtain ⟨mx, hmx, hmx48⟩ : ∃ mx : Int, (∀ ts t w', (Builtin.max_ ts t #[.int .i64 (n2 : Int), .int .i64 (n3 : Int), .int .i64 (n4 : Int)]).run Tryz.prog w' = .ok (.int .i64 mx) w') ∧ mx ≤ 48 :=
    ⟨_, fun ts t w' => run_max_int3 _ ts t _ _ _ _ _ _, by split <;> split <;> omega⟩
  go_enter Tryz.func6, Tryz.ntmps6
  go_wp2
  have hb0 := below1 w (.cells #[q0, q1, .slice ai mI ci, .slice a5 n5 p5, q4, q5, .slice a1 n1 p1, .slice a2 n2 p2, .slice a3 n3 p3, .slice a4 n4 p4] 36)
  have hbx := box10 (Below.refl (w.heap.size + 1) (w.alloc (.cells #[q0, q1, .slice ai mI ci, .slice a5 n5 p5, q4, q5, .slice a1 n1 p1, .slice a2 n2 p2, .slice a3 n3 p3, .slice a4 n4 p4] 36)))
  obtain ⟨hB, -, -, g2, g3, -, -, g6, g7, g8, g9⟩ := hbx
  have hO := hO.mono hb0
  have hR := hR.mono hb0
  have hG := hG.mono hb0
  have hV := hV.mono hb0
  have hD := hD.mono hb0
  clear hmx
  generalize w.alloc (.cells #[q0, q1, .slice ai mI ci, .slice a5 n5 p5, q4, q5, .slice a1 n1 p1, .slice a2 n2 p2, .slice a3 n3 p3, .slice a4 n4 p4] 36) = W at *
  go_loopw [35] (fun i wr => ∃ k : Nat, k ≤ n1 ∧ i = .int .i64 k ∧ Below W.heap.size W wr) (fun i _ => n1 - (intOf i).toNat)
  case atStart => exact ⟨0, Nat.zero_le _, rfl, Below.refl _ _⟩
  case round =>
    obtain ⟨k, hk, rfl, hbw⟩ := hrel
    have f6 := (hbw.cell (p := ⟨w.heap.size, 6, none⟩) hB).trans g6
    by_cases hlt2 : k < n1
    · obtain ⟨b, off, s, rfl, hsk, c0⟩ := hO.at hbw hlt2
      have Hn := Lib.hid (fun w => isName_any s w (HF.out.optName s (List.mem_of_getElem? hsk)))
      have Hsk := Lib.hid hsk
      clear hsk
      have hB2 := Nat.lt_of_lt_of_le hB hbw.size
      have hbl : b < wr.heap.size := World.block_lt_of_cell? _ _ c0
      clear g2 g3 g6 g7 g8 g9
      rcases k with _ | j
      · simp only [Nat.add_zero] at c0
        go_wp2_with (go_at_call 25; refine (Hn.out _).mono ?_; rintro e w' ⟨rfl, hb'⟩)
        go_roundw
        case rel => exact ⟨1, by omega, rfl, hbw.via hb' hbw.size⟩
        case measure => simp [intOf]; omega
      · obtain ⟨b', off', s', hq, hsk', d0⟩ := hO.at hbw (show j < n1 by omega)
        obtain ⟨rfl, rfl⟩ : b = b' ∧ off = off' := by simpa using hq
        clear hq
        have hle := HF.out.optUp j s' s hsk' Hsk.out
        clear hsk'
        have e1 : ((((j + 1 : Nat) : Int) - 1)) = (j : Int) := by omega
        have hjm : (j : Int) < (n1 : Int) := by omega
        have ew : IntKind.i64.wrap (j : Int) = j := IntWalk.i64_in _ (by omega)
        go_wp2_with (go_at_call 25; refine (Hn.out _).mono ?_; rintro e w' ⟨rfl, hb'⟩; have d0' := (hb'.cell (p := ⟨b, _, none⟩) hbl).trans d0; have f6' := (hb'.cell (p := ⟨w.heap.size, 6, none⟩) hB2).trans f6)
        go_roundw
        case rel => exact ⟨j + 1 + 1, by omega, by go_num, hbw.via hb' hbw.size⟩
        case measure => simp [intOf]; omega
    · have hmm := @run_makeMap Tryz.prog
      have hbw1 := hbw.alloc hbw.size (.map #[] 0)
      have f7 := (hbw1.cell (p := ⟨w.heap.size, 7, none⟩) hB).trans g7
      go_wp2
      clear hmm f6 f7
      have hM := BMap.made wr
      have hWr := hbw.size
      generalize hmb : wr.heap.size = mb at *
      clear hmb hk hlt2
      generalize wr.alloc (.map #[] 0) = W2 at *
      go_loopw [62] (fun i wr => ∃ k : Nat, k ≤ n2 ∧ i = .int .i64 k ∧ Below W.heap.size W wr ∧ BMap wr mb k ((rs.take k).map (·.1)).reverse) (fun i _ => n2 - (intOf i).toNat)
      case atStart => exact ⟨0, Nat.zero_le _, rfl, hbw1, hM⟩
      case round =>
        obtain ⟨k, hk, rfl, hbw, hmap⟩ := hrel
        have f6 := (hbw.cell (p := ⟨w.heap.size, 6, none⟩) hB).trans g6
        by_cases hlt2 : k < n2
        · obtain ⟨b, off, av, r, rfl, hrk, c0, c1, hL⟩ := hR.atO hbw hlt2
          have hrm := List.mem_of_getElem? hrk
          have Hn := Lib.hid (fun w => isName_any r.1 w (HF.out.rsName r hrm))
          have hns := (HF.out.rsName r hrm).2.2
          have hns2 : r.1.size ≤ maxLen := by unfold maxLen; omega
          have Hno := Lib.hid (seen_no HF.out.rsUniq hrk)
          have Hnx := Lib.hid (seen_next hrk)
          have Hl := Lib.hid (HF.out.rsLit r hrm)
          obtain ⟨aa, ac, rfl, -, -⟩ := hL.open
          have hr1000 := Hl.out.2
          generalize hrl : r.2.length = rl at *
          have Hc : Hid (∀ w2, Below W.heap.size W w2 → Calls Tryz.prog 26 #[.slice aa rl ac, .int .i64 (n1 : Int)] w2 (Ret (.int .i64 0) w2)) := fun w2 h2 => by
            have := check61 (opts.length : Int) r.2 _ w2 (hL.mono h2) (by omega)
            rw [Hl.out.1, Hn1.out] at this
            exact this
          have hmbw := hmap.lt
          clear hrk hrm g2 g3 g6 g7 g8 g9 hM hL hns hrl
          have z0 : (wr.alloc (.cells #[.string r.1, .slice aa rl ac] 40)).cell? ⟨wr.heap.size, 0, none⟩ = some (.string r.1) := by simp
          have z1 : (wr.alloc (.cells #[.string r.1, .slice aa rl ac] 40)).cell? ⟨wr.heap.size, 1, none⟩ = some (.slice aa rl ac) := by simp
          have ne1 : wr.heap.size ≠ mb := by omega
          have ne2 : w.heap.size ≠ mb := by omega
          have hmap1 := hmap.mono (below1 wr (.cells #[.string r.1, .slice aa rl ac] 40))
          go_wp2_with (first | (go_at_call 25; refine (Hn.out _).mono ?_; rintro e w' ⟨rfl, hb'⟩; have hmap2 := hmap1.mono hb'; have h0' := (hb'.cell (p := ⟨wr.heap.size, 0, none⟩) (by simp)).trans z0; have h1' := (hb'.cell (p := ⟨wr.heap.size, 1, none⟩) (by simp)).trans z1; have hw1 := (below1 wr (.cells #[.string r.1, .slice aa rl ac] 40)).via hb' (by simp); have f6' := (hw1.cell (p := ⟨w.heap.size, 6, none⟩) (Nat.lt_of_lt_of_le hB hbw.size)).trans f6) | (at_lookup; go_loud (refine wpLookB rfl _ _ rfl mb _ _ _ rfl rfl hmap2 hns2 false Hno.out ?_)) | (at_mapUpdate; go_loud (refine wpPutB rfl _ _ _ rfl mb _ _ _ rfl rfl rfl hmap2 (by unfold maxLen; omega) hns2 ?_); intro w3 hmap3 hg3; have h1'' := grown_cell hg3 h1' ne1; have f6'' := grown_cell hg3 f6' ne2; have hbw3 := (hbw.via hw1 hbw.size).grown hg3 (Nat.le_trans hbw.size hw1.size) (fun k hk => by cases hk; exact hWr)) | (go_at_call 26; refine (Hc.out _ hbw3).mono ?_; rintro e w4 ⟨rfl, hb4⟩; have hmap4 := hmap3.mono hb4; have hbw4 := hbw3.via hb4 hbw3.size))
          go_roundw
          case rel => exact ⟨k + 1, by omega, by go_num, hbw4, by rw [← Hnx.out]; exact hmap4⟩
          case measure => simp [intOf]; omega
        · have f8 := (hbw.cell (p := ⟨w.heap.size, 8, none⟩) hB).trans g8
          go_wp2
          clear hmap f6 f8 hM hWr hbw1 hlt2 hk
          go_loopw [92] (fun i wr => ∃ k : Nat, k ≤ n3 ∧ i = .int .i64 k ∧ Below W.heap.size W wr) (fun i _ => n3 - (intOf i).toNat)
          case atStart => exact ⟨0, Nat.zero_le _, rfl, hbw⟩
          case round =>
            obtain ⟨k, hk, rfl, hbw⟩ := hrel
            by_cases hlt2 : k < n3
            · have f6 := (hbw.cell (p := ⟨w.heap.size, 6, none⟩) hB).trans g6
              have f2 := (hbw.cell (p := ⟨w.heap.size, 2, none⟩) hB).trans g2
              have hB2 := Nat.lt_of_lt_of_le hB hbw.size
              obtain ⟨b, off, av, g, rfl, hrk, c0, c1, hL⟩ := hG.at hbw hlt2
              have hrm := List.mem_of_getElem? hrk
              obtain ⟨hi0, hi1⟩ := HF.out.gsInst g hrm
              have Hl := Lib.hid (HF.out.gsLit g hrm)
              obtain ⟨aa, ac, rfl, -, -⟩ := hL.open
              have hr1000 := Hl.out.2
              generalize hrl : g.2.length = rl at *
              have Hc : Hid (∀ w2, Below wr.heap.size wr w2 → Calls Tryz.prog 26 #[.slice aa rl ac, .int .i64 (n1 : Int)] w2 (Ret (.int .i64 0) w2)) := fun w2 h2 => by
                have := check61 (opts.length : Int) g.2 _ w2 (hL.mono h2) (by omega)
                rw [Hl.out.1, Hn1.out] at this
                exact this
              clear hrk hrm g2 g3 g6 g7 g8 g9 hL hrl
              go_wp2_with (go_at_call 26; refine (Hc.out _ (below1 _ _)).mono ?_; rintro e w4 ⟨rfl, hb4⟩; have hbw4 := hbw.via ((below1 wr _).via hb4 (by simp)) hbw.size)
              go_roundw
              case rel => exact ⟨k + 1, by omega, by go_num, hbw4⟩
              case measure => simp [intOf]; omega
            · have f9 := (hbw.cell (p := ⟨w.heap.size, 9, none⟩) hB).trans g9
              go_wp2
              clear f9 hlt2 hk
              go_loopw [122] (fun i wr => ∃ k : Nat, k ≤ n4 ∧ i = .int .i64 k ∧ Below W.heap.size W wr) (fun i _ => n4 - (intOf i).toNat)
              case atStart => exact ⟨0, Nat.zero_le _, rfl, hbw⟩
              case round =>
                obtain ⟨k, hk, rfl, hbw⟩ := hrel
                by_cases hlt2 : k < n4
                · have f6 := (hbw.cell (p := ⟨w.heap.size, 6, none⟩) hB).trans g6
                  have f3 := (hbw.cell (p := ⟨w.heap.size, 3, none⟩) hB).trans g3
                  have hB2 := Nat.lt_of_lt_of_le hB hbw.size
                  obtain ⟨b, off, av, o, rfl, hrk, c0, c1, c2, c3, c4, c5, hL⟩ := hV.at hbw hlt2
                  have hrm := List.mem_of_getElem? hrk
                  obtain ⟨dk, d, hdk, hd, hdn⟩ := HF.out.osDim o hrm
                  have hdl : dk < n5 := by have := lt_of_get hd; omega
                  have Hl := Lib.hid (HF.out.osLit o hrm)
                  obtain ⟨aa, ac, rfl, -, -⟩ := hL.open
                  have hr1000 := Hl.out.2
                  generalize hrl : o.1.length = rl at *
                  have Hc : Hid (∀ w2, Below wr.heap.size wr w2 → Calls Tryz.prog 26 #[.slice aa rl ac, .int .i64 (n1 : Int)] w2 (Ret (.int .i64 0) w2)) := fun w2 h2 => by
                    have := check61 (opts.length : Int) o.1 _ w2 (hL.mono h2) (by omega)
                    rw [Hl.out.1, Hn1.out] at this
                    exact this
                  obtain ⟨b', off', d', rfl, hd', hbl, e0, -, -, -⟩ := hD.at hbw hdl
                  rw [hd] at hd'
                  obtain rfl : d = d' := by simpa using hd'
                  rw [hdn] at e0
                  rw [hdk] at c1
                  clear hrk hrm g2 g3 g6 g7 g8 g9 hL hrl hd hd' hdk hdn
                  have z1 : (wr.alloc (.cells #[.slice aa rl ac, .int .i64 (dk : Int), .string o.2.2.1, .int .i64 o.2.2.2.1, .int .i64 o.2.2.2.2.1, .int .i64 o.2.2.2.2.2] 86)).cell? ⟨wr.heap.size, 1, none⟩ = some (.int .i64 (dk : Int)) := by simp
                  have z2 : (wr.alloc (.cells #[.slice aa rl ac, .int .i64 (dk : Int), .string o.2.2.1, .int .i64 o.2.2.2.1, .int .i64 o.2.2.2.2.1, .int .i64 o.2.2.2.2.2] 86)).cell? ⟨wr.heap.size, 2, none⟩ = some (.string o.2.2.1) := by simp
                  have hbl2 := Nat.lt_of_lt_of_le hbl hbw.size
                  go_wp2_with (go_at_call 26; refine (Hc.out _ (below1 _ _)).mono ?_; rintro e w4 ⟨rfl, hb4⟩; have hwr4 := (below1 wr (.cells #[.slice aa rl ac, .int .i64 (dk : Int), .string o.2.2.1, .int .i64 o.2.2.2.1, .int .i64 o.2.2.2.2.1, .int .i64 o.2.2.2.2.2] 86)).via hb4 (by simp); have hbw4 := hbw.via hwr4 hbw.size; have y1 := (hb4.cell (p := ⟨wr.heap.size, 1, none⟩) (by simp)).trans z1; have y2 := (hb4.cell (p := ⟨wr.heap.size, 2, none⟩) (by simp)).trans z2; have f3' := (hwr4.cell (p := ⟨w.heap.size, 3, none⟩) hB2).trans f3; have e0' := (hwr4.cell (p := ⟨b', _, none⟩) hbl2).trans e0)
                  go_quiet (fail)
                  go_wp2
                  go_roundw
                  case rel => exact ⟨k + 1, by omega, by go_num, hbw4.dn _⟩
                  case measure => simp [intOf]; omega
                · go_wp2
                  go_ret
                  exact ⟨rfl, hb0.via hbw hb0.size⟩


end Go.Proofs.YtknpbcdmemlicaaGreatDoor
