/-
  The model's check of any family.
-/
import Derived.Test.YtknpbcdmemlicaaGreatDoorVMo
import Derived.Test.YtknpbcdmemlicaaGreatDoorVMn
namespace Go.Proofs.YtknpbcdmemlicaaGreatDoor
open Go.RowKit

theorem memB_cons (s y : ByteArray) (l : List ByteArray) : memB s (y :: l) = (decide (y = s) || memB s l) := rfl
theorem memB_seen {rs : List Rule1} {i k : Nat} {r : Rule1} (h : rs[i]? = some r) (hi : i < k) : memB r.1 (seenR rs k) = true := by
  unfold memB seenR
  rw [List.any_eq_true]
  refine ⟨r.1, ?_, by simp⟩
  rw [List.mem_reverse, List.mem_map]
  exact ⟨r, List.mem_iff_getElem?.2 ⟨i, by rw [List.getElem?_take_of_lt hi]; exact h⟩, rfl⟩
theorem memB_next {rs : List Rule1} {i : Nat} {r' : Rule1} {s : ByteArray} (h : rs[i]? = some r') (hp : memB s (seenR rs i) = false) (hne : r'.1 ≠ s) : memB s (seenR rs (i + 1)) = false := by
  rw [← seenR_succ h, memB_cons, hp, decide_eq_false hne]; rfl

set_option maxRecDepth 100000 in
set_option maxHeartbeats 8000000 in
theorem check_m (q0 q1 iv dv q4 q5 ov rv gv vv : Value) (opts : List ByteArray) (rs : List Rule1) (gs : List Guard1) (os : List Ov1) (ai : Option Addr) (mI ci : Nat) (ds : List Dim1) (w : World) (hi : iv = .slice ai mI ci)
    (hO : Strs w ov opts) (hR : Rules w rv rs) (hG : Gds w gv gs) (hV : Ovs w vv os) (hD : Dims w dv ds) (hos : ∀ o ∈ opts, o.size < 1000) (hns : ∀ r ∈ rs, r.1.size < 1000) :
    Calls Tryz.prog 5 #[.agg #[q0, q1, iv, dv, q4, q5, ov, rv, gv, vv]] w (Ret (.int .i64 (famErr opts rs gs os mI ds)) w) := by
  subst hi
  obtain ⟨a1, p1, rfl, y1, x1⟩ := hO.open
  obtain ⟨a2, p2, rfl, y2, x2⟩ := hR.open
  obtain ⟨a3, p3, rfl, y3, x3⟩ := hG.open
  obtain ⟨a4, p4, rfl, y4, x4⟩ := hV.open
  unfold maxLen at x1 x2 x3 x4
  have HN := Lib.hid hns
  have HOs := Lib.hid hos
  clear hns hos
  generalize hE : famErr opts rs gs os mI ds = E
  have HE := Lib.hid hE
  have HL := Lib.hid (@limB_iff opts rs gs os)
  have HL0 := Lib.hid (@limB_not opts rs gs os)
  have HFl := Lib.hid (fun h => (@fam_lim opts rs gs os mI ds h).symm.trans hE)
  clear hE
  generalize hn1 : opts.length = n1 at *
  generalize hn2 : rs.length = n2 at *
  generalize hn3 : gs.length = n3 at *
  generalize hn4 : os.length = n4 at *
  have Hn1 := Lib.hid hn1
  have Hn2 := Lib.hid hn2
  have Hn3 := Lib.hid hn3
  have Hn4 := Lib.hid hn4
  clear hn1 hn2 hn3 hn4
  by_cases l1 : 12 < n1
  · go_enter Tryz.func5, Tryz.ntmps5
    go_wp2
    go_ret
    exact ⟨ret_int (HFl.out (HL.out.2 (.inl l1))), below1 _ _⟩
  have l1' : n1 ≤ 12 := by omega
  by_cases l2 : 48 < n2
  · go_enter Tryz.func5, Tryz.ntmps5
    go_wp2
    go_ret
    exact ⟨ret_int (HFl.out (HL.out.2 (.inr (.inl l2)))), below1 _ _⟩
  have l2' : n2 ≤ 48 := by omega
  by_cases l3 : 48 < n3
  · go_enter Tryz.func5, Tryz.ntmps5
    go_wp2
    go_ret
    exact ⟨ret_int (HFl.out (HL.out.2 (.inr (.inr (.inl l3))))), below1 _ _⟩
  have l3' : n3 ≤ 48 := by omega
  by_cases l4 : 48 < n4
  · go_enter Tryz.func5, Tryz.ntmps5
    go_wp2
    go_ret
    exact ⟨ret_int (HFl.out (HL.out.2 (.inr (.inr (.inr l4))))), below1 _ _⟩
  have l4' : n4 ≤ 48 := by omega
  have Hlim := Lib.hid (HL0.out.2 ⟨l1', l2', l3', l4'⟩)
  have HOv : Hid (∀ w2, Below w.heap.size w w2 → Calls Tryz.prog 24 #[.agg #[q0, q1, .slice ai mI ci, dv, q4, q5, .slice a1 n1 p1, .slice a2 n2 p2, .slice a3 n3 p3, .slice a4 n4 p4]] w2 (Ret (.int .i64 (ovrErr opts.length ds os)) w2)) := fun w2 h2 =>
    overrides_m q0 q1 (.slice ai mI ci) dv q4 q5 _ (.slice a2 n2 p2) (.slice a3 n3 p3) _ opts os ds w2 (hO.mono h2) (hV.mono h2) (hD.mono h2)
  clear l1 l2 l3 l4 HL HL0 HFl hV hD
  go_enter Tryz.func5, Tryz.ntmps5
  go_wp2
  have hb0 := below1 w (.cells #[q0, q1, .slice ai mI ci, dv, q4, q5, .slice a1 n1 p1, .slice a2 n2 p2, .slice a3 n3 p3, .slice a4 n4 p4] 36)
  have hbx := box10 (Below.refl (w.heap.size + 1) (w.alloc (.cells #[q0, q1, .slice ai mI ci, dv, q4, q5, .slice a1 n1 p1, .slice a2 n2 p2, .slice a3 n3 p3, .slice a4 n4 p4] 36)))
  obtain ⟨hB, g0, g1, g2, g3, g4, g5, g6, g7, g8, g9⟩ := hbx
  have hO := hO.mono hb0
  have hR := hR.mono hb0
  have hG := hG.mono hb0
  generalize w.alloc (.cells #[q0, q1, .slice ai mI ci, dv, q4, q5, .slice a1 n1 p1, .slice a2 n2 p2, .slice a3 n3 p3, .slice a4 n4 p4] 36) = W at *
  have G0 := Lib.hid g0
  have G1 := Lib.hid g1
  have G2 := Lib.hid g2
  have G3 := Lib.hid g3
  have G4 := Lib.hid g4
  have G5 := Lib.hid g5
  have G6 := Lib.hid g6
  have G7 := Lib.hid g7
  have G8 := Lib.hid g8
  have G9 := Lib.hid g9
  clear g0 g1 g2 g3 g4 g5 g6 g7 g8 g9
  go_loopw [4] (fun i wr => ∃ k : Nat, k ≤ n1 ∧ i = .int .i64 k ∧ Below W.heap.size W wr ∧ Hid (OptPre opts k)) (fun i _ => n1 - (intOf i).toNat)
  case atStart => exact ⟨0, Nat.zero_le _, rfl, Below.refl _ _, rfl⟩
  case round =>
    obtain ⟨k, hk, rfl, hbw, HP⟩ := hrel
    by_cases hlt2 : k < n1
    · have f6 := (hbw.cell (p := ⟨w.heap.size, 6, none⟩) hB).trans G6.out
      obtain ⟨b, off, s, rfl, hsk, c0⟩ := hO.at hbw hlt2
      have Hn := Lib.hid (fun w => name_m s w (HOs.out s (List.mem_of_getElem? hsk)))
      have Hsk := Lib.hid hsk
      clear hsk
      have hB2 := Nat.lt_of_lt_of_le hB hbw.size
      have hbl : b < wr.heap.size := World.block_lt_of_cell? _ _ c0
      cases hnm : nameB s with
      | false =>
        rw [hnm] at Hn
        have HNm := Lib.hid hnm
        clear hnm
        go_wp2_with (go_at_call 22; refine (Hn.out _).mono ?_; rintro e w' ⟨rfl, hb'⟩)
        go_ret
        exact ⟨ret_int ((fam_opt Hlim.out ((errRun_hit Hsk.out HP.out (by rw [optF_name HNm.out]; decide)).trans (optF_name HNm.out)) (by decide)).symm.trans HE.out), hb0.via (hbw.via hb' hbw.size) hb0.size⟩
      | true =>
        rw [hnm] at Hn
        have HNm := Lib.hid hnm
        clear hnm
        rcases k with _ | j
        · simp only [Nat.add_zero] at c0
          go_wp2_with (go_at_call 22; refine (Hn.out _).mono ?_; rintro e w' ⟨rfl, hb'⟩; have d0' := (hb'.cell (p := ⟨b, _, none⟩) hbl).trans c0; have f6' := (hb'.cell (p := ⟨w.heap.size, 6, none⟩) hB2).trans f6)
          go_quiet (fail)
          go_wp2
          go_roundw
          case rel => exact ⟨1, by omega, rfl, (hbw.via hb' hbw.size).dn _, optPre_step Hsk.out HP.out (optF_ok0 HNm.out)⟩
          case measure => simp [intOf]; omega
        · obtain ⟨b', off', s', hq, hsk', d0⟩ := hO.at hbw (show j < n1 by omega)
          obtain ⟨rfl, rfl⟩ : b = b' ∧ off = off' := by simpa using hq
          clear hq
          have Hsk' := Lib.hid hsk'
          clear hsk'
          have e1 : ((((j + 1 : Nat) : Int) - 1)) = (j : Int) := by omega
          have hjm : (j : Int) < (n1 : Int) := by omega
          have ew : IntKind.i64.wrap (j : Int) = j := IntWalk.i64_in _ (by omega)
          have HQ : Hid (prevO opts (j + 1) = some s') := Hsk'.out
          cases hle : (Op.bytesLess s.toList s'.toList || s.toList == s'.toList) with
          | true =>
            go_wp2_with (go_at_call 22; refine (Hn.out _).mono ?_; rintro e w' ⟨rfl, hb'⟩; have c0' := (hb'.cell (p := ⟨b, _, none⟩) hbl).trans c0; have d0' := (hb'.cell (p := ⟨b, _, none⟩) hbl).trans d0; have f6' := (hb'.cell (p := ⟨w.heap.size, 6, none⟩) hB2).trans f6)
            go_quiet (fail)
            go_wp2
            go_ret
            exact ⟨ret_int ((fam_opt Hlim.out ((errRun_hit Hsk.out HP.out (by rw [HQ.out, optF_le HNm.out hle]; decide)).trans (by rw [HQ.out, optF_le HNm.out hle])) (by decide)).symm.trans HE.out), hb0.via ((hbw.via hb' hbw.size).dn _) hb0.size⟩
          | false =>
            go_wp2_with (go_at_call 22; refine (Hn.out _).mono ?_; rintro e w' ⟨rfl, hb'⟩; have c0' := (hb'.cell (p := ⟨b, _, none⟩) hbl).trans c0; have d0' := (hb'.cell (p := ⟨b, _, none⟩) hbl).trans d0; have f6' := (hb'.cell (p := ⟨w.heap.size, 6, none⟩) hB2).trans f6)
            go_quiet (fail)
            go_wp2
            go_roundw
            case rel => exact ⟨j + 1 + 1, by omega, by go_num, (hbw.via hb' hbw.size).dn _, optPre_step Hsk.out HP.out (by rw [HQ.out, optF_ok HNm.out hle])⟩
            case measure => simp [intOf]; omega
    · have HOE : Hid (optErr opts = 0) := errRun_end (by have := Hn1.out; omega) HP.out
      clear HP
      go_wp2
      clear hk hlt2
      go_loopw [5] (fun i wr => ∃ k : Nat, k ≤ n2 ∧ i = .int .i64 k ∧ Below W.heap.size W wr ∧ Hid (RulPre opts.length rs k)) (fun i _ => n2 - (intOf i).toNat)
      case atStart => exact ⟨0, Nat.zero_le _, rfl, hbw, rfl⟩
      case round =>
        obtain ⟨k, hk, rfl, hbw, HP⟩ := hrel
        have f7 := (hbw.cell (p := ⟨w.heap.size, 7, none⟩) hB).trans G7.out
        by_cases hlt2 : k < n2
        · obtain ⟨b, off, av, r, rfl, hrk, c0, c1, hL⟩ := hR.at hbw hlt2
          have Hrk := Lib.hid hrk
          have Hn := Lib.hid (fun w => name_m r.1 w (HN.out r (List.mem_of_getElem? hrk)))
          obtain ⟨aa, ac, rfl, -, -⟩ := hL.open
          generalize hrl : r.2.length = rl at *
          generalize hle : litErr (opts.length : Int) r.2 = le
          have Hle := Lib.hid hle
          have Hc : Hid (∀ w2, Below wr.heap.size wr w2 → Calls Tryz.prog 23 #[.int .i64 (n1 : Int), .slice aa rl ac] w2 (Ret (.int .i64 le) w2)) := fun w2 h2 => by
            have := literals_g (opts.length : Int) r.2 _ w2 (hL.mono h2)
            rw [Hle.out, Hn1.out] at this
            exact this
          have hB2 := Nat.lt_of_lt_of_le hB hbw.size
          have hbl : b < wr.heap.size := World.block_lt_of_cell? _ _ c0
          clear hrk hL hrl hle
          cases hnm : nameB r.1 with
          | false =>
            rw [hnm] at Hn
            have HNm := Lib.hid hnm
            clear hnm
            go_wp2_with (go_at_call 22; refine (Hn.out _).mono ?_; rintro e w' ⟨rfl, hb'⟩)
            go_ret
            exact ⟨ret_int ((fam_rul Hlim.out HOE.out ((errRun_hit Hrk.out HP.out (by rw [rulF_name HNm.out]; decide)).trans (rulF_name HNm.out)) (by decide)).symm.trans HE.out), hb0.via (hbw.via hb' hbw.size) hb0.size⟩
          | true =>
            rw [hnm] at Hn
            have HNm := Lib.hid hnm
            clear hnm
            go_wp2_with (go_at_call 22; refine (Hn.out _).mono ?_; rintro e w' ⟨rfl, hb'⟩)
            have hbw0 := hbw
            clear f7
            go_loopw [6] (fun i wi => ∃ j : Nat, j ≤ k ∧ i = .int .i64 j ∧ Below wr.heap.size wr wi ∧ Hid (memB r.1 (seenR rs j) = false)) (fun i _ => k - (intOf i).toNat)
            case atStart => exact ⟨0, Nat.zero_le _, rfl, hb', rfl⟩
            case round =>
              obtain ⟨j, hj, rfl, hbi, HM⟩ := hrel
              have hbwi := hbw0.via hbi hbw0.size
              have f7 := (hbwi.cell (p := ⟨w.heap.size, 7, none⟩) hB).trans G7.out
              have c0' := (hbi.cell (p := ⟨b, _, none⟩) hbl).trans c0
              by_cases hjk : j < k
              · obtain ⟨b', off', av', r', hq, hrj, d0, -, -⟩ := hR.at hbwi (show j < n2 by omega)
                obtain ⟨rfl, rfl⟩ : b = b' ∧ off = off' := by simpa using hq
                clear hq
                have Hrj := Lib.hid hrj
                clear hrj
                cases hd : (r'.1.toList == r.1.toList) with
                | true =>
                  have Hs : Hid (memB r.1 (seenR rs k) = true) := by
                    have e : r'.1 = r.1 := bytes_inj (beq_iff_eq.1 hd)
                    have := memB_seen Hrj.out hjk
                    rw [e] at this; exact this
                  go_wp2
                  go_quiet (fail)
                  go_wp2
                  go_ret
                  exact ⟨ret_int ((fam_rul Hlim.out HOE.out ((errRun_hit Hrk.out HP.out (by rw [rulF_dup HNm.out Hs.out]; decide)).trans (rulF_dup HNm.out Hs.out)) (by decide)).symm.trans HE.out), hb0.via (hbwi.dn _) hb0.size⟩
                | false =>
                  have Hs : Hid (memB r.1 (seenR rs (j + 1)) = false) := memB_next Hrj.out HM.out fun e => by rw [e] at hd; simp at hd
                  go_wp2
                  go_quiet (fail)
                  go_wp2
                  go_roundw
                  case rel => exact ⟨j + 1, by omega, by go_num, hbi.dn _, Hs⟩
                  case measure => simp [intOf]; omega
              · obtain rfl : j = k := by omega
                have c1' := (hbi.cell (p := ⟨b, _, none⟩) hbl).trans c1
                by_cases hl0 : le = 0
                · subst hl0
                  go_wp2_with (go_at_call 23; refine (Hc.out _ hbi).mono ?_; rintro e w4 ⟨rfl, hb4⟩)
                  go_roundw
                  case rel => exact ⟨j + 1, by omega, by go_num, hbwi.via hb4 hbwi.size, rulPre_step Hrk.out HP.out ((rulF_lit HNm.out HM.out).trans Hle.out)⟩
                  case measure => simp [intOf]; omega
                · go_wp2_with (go_at_call 23; refine (Hc.out _ hbi).mono ?_; rintro e w4 ⟨rfl, hb4⟩)
                  go_ret
                  exact ⟨ret_int ((fam_rul Hlim.out HOE.out ((errRun_hit Hrk.out HP.out (by rw [rulF_lit HNm.out HM.out, Hle.out]; exact hl0)).trans ((rulF_lit HNm.out HM.out).trans Hle.out)) hl0).symm.trans HE.out), hb0.via (hbwi.via hb4 hbwi.size) hb0.size⟩
        · have HRE : Hid (rulErr opts.length rs = 0) := errRun_end (by have := Hn2.out; omega) HP.out
          clear HP
          go_wp2
          clear f7 hlt2 hk
          go_loopw [8] (fun i wr => ∃ k : Nat, k ≤ n3 ∧ i = .int .i64 k ∧ Below W.heap.size W wr ∧ Hid (GrdPre opts.length mI gs k)) (fun i _ => n3 - (intOf i).toNat)
          case atStart => exact ⟨0, Nat.zero_le _, rfl, hbw, rfl⟩
          case round =>
            obtain ⟨k, hk, rfl, hbw, HP⟩ := hrel
            have f8 := (hbw.cell (p := ⟨w.heap.size, 8, none⟩) hB).trans G8.out
            by_cases hlt2 : k < n3
            · have f2 := (hbw.cell (p := ⟨w.heap.size, 2, none⟩) hB).trans G2.out
              have hB2 := Nat.lt_of_lt_of_le hB hbw.size
              obtain ⟨b, off, av, g, rfl, hrk, c0, c1, hL⟩ := hG.at hbw hlt2
              have Hrk := Lib.hid hrk
              obtain ⟨aa, ac, rfl, -, -⟩ := hL.open
              generalize hrl : g.2.length = rl at *
              generalize hle : litErr (opts.length : Int) g.2 = le
              have Hle := Lib.hid hle
              have Hc : Hid (∀ w2, Below wr.heap.size wr w2 → Calls Tryz.prog 23 #[.int .i64 (n1 : Int), .slice aa rl ac] w2 (Ret (.int .i64 le) w2)) := fun w2 h2 => by
                have := literals_g (opts.length : Int) g.2 _ w2 (hL.mono h2)
                rw [Hle.out, Hn1.out] at this
                exact this
              clear hrk hL hrl hle
              by_cases hi0 : g.1 < 0
              · go_wp2
                go_ret
                exact ⟨ret_int ((fam_grd Hlim.out HOE.out HRE.out ((errRun_hit Hrk.out HP.out (by rw [grdF_bad (.inl hi0)]; decide)).trans (grdF_bad (.inl hi0))) (by decide)).symm.trans HE.out), hb0.via hbw hb0.size⟩
              by_cases hi1 : (mI : Int) ≤ g.1
              · go_wp2
                go_ret
                exact ⟨ret_int ((fam_grd Hlim.out HOE.out HRE.out ((errRun_hit Hrk.out HP.out (by rw [grdF_bad (.inr hi1)]; decide)).trans (grdF_bad (.inr hi1))) (by decide)).symm.trans HE.out), hb0.via hbw hb0.size⟩
              have Hgl := Lib.hid (grdF_lit (n := opts.length) (show 0 ≤ g.1 by omega) (show g.1 < (mI : Int) by omega))
              by_cases hl0 : le = 0
              · subst hl0
                go_wp2_with (go_at_call 23; refine (Hc.out _ (Below.refl _ _)).mono ?_; rintro e w4 ⟨rfl, hb4⟩)
                go_roundw
                case rel => exact ⟨k + 1, by omega, by go_num, hbw.via hb4 hbw.size, errRun_step Hrk.out HP.out (Hgl.out.trans Hle.out)⟩
                case measure => simp [intOf]; omega
              · go_wp2_with (go_at_call 23; refine (Hc.out _ (Below.refl _ _)).mono ?_; rintro e w4 ⟨rfl, hb4⟩)
                go_ret
                exact ⟨ret_int ((fam_grd Hlim.out HOE.out HRE.out ((errRun_hit Hrk.out HP.out (by rw [Hgl.out, Hle.out]; exact hl0)).trans (Hgl.out.trans Hle.out)) hl0).symm.trans HE.out), hb0.via (hbw.via hb4 hbw.size) hb0.size⟩
            · have HGE : Hid (grdErr opts.length mI gs = 0) := errRun_end (by have := Hn3.out; omega) HP.out
              clear HP
              have HEo : Hid (ovrErr opts.length ds os = E) := (fam_ovr Hlim.out HOE.out HRE.out HGE.out).symm.trans HE.out
              have e0 := (hbw.cell (p := ⟨w.heap.size, 0, none⟩) hB).trans G0.out
              have e1 := (hbw.cell (p := ⟨w.heap.size, 1, none⟩) hB).trans G1.out
              have e2 := (hbw.cell (p := ⟨w.heap.size, 2, none⟩) hB).trans G2.out
              have e3 := (hbw.cell (p := ⟨w.heap.size, 3, none⟩) hB).trans G3.out
              have e4 := (hbw.cell (p := ⟨w.heap.size, 4, none⟩) hB).trans G4.out
              have e5 := (hbw.cell (p := ⟨w.heap.size, 5, none⟩) hB).trans G5.out
              have e6 := (hbw.cell (p := ⟨w.heap.size, 6, none⟩) hB).trans G6.out
              have e7 := (hbw.cell (p := ⟨w.heap.size, 7, none⟩) hB).trans G7.out
              have e9 := (hbw.cell (p := ⟨w.heap.size, 9, none⟩) hB).trans G9.out
              go_wp2_with (go_at_call 24; refine (HOv.out _ (hb0.via hbw hb0.size)).mono ?_; rintro e w4 ⟨rfl, hb4⟩)
              go_ret
              exact ⟨ret_int HEo.out, hb0.via (hbw.via hb4 hbw.size) hb0.size⟩

end Go.Proofs.YtknpbcdmemlicaaGreatDoor
