/-
  variant.Check of any family: its first error.
-/
import Derived.Test.YtknpbcdmemlicaaGreatDoorVFe
import Derived.Test.YtknpbcdmemlicaaGreatDoorVNg
import Derived.Test.YtknpbcdmemlicaaGreatDoorVLit
namespace Go.Proofs.YtknpbcdmemlicaaGreatDoor
open Go.RowKit

set_option maxRecDepth 100000 in
set_option maxHeartbeats 8000000 in
theorem check_g (q0 q1 iv dv q4 q5 ov rv gv vv : Value) (opts : List ByteArray) (rs : List Rule1) (gs : List Guard1) (os : List Ov1) (ai : Option Addr) (mI ci : Nat) (ds : List Dim1) (w : World) (hi : iv = .slice ai mI ci)
    (hO : Strs w ov opts) (hR : Rules w rv rs) (hG : Gds w gv gs) (hV : Ovs w vv os) (hD : Dims w dv ds) (hns : ∀ r ∈ rs, r.1.size ≤ maxLen) :
    Calls Tryz.prog 6 #[.agg #[q0, q1, iv, dv, q4, q5, ov, rv, gv, vv]] w (Ret (.int .i64 (famErr opts rs gs os mI ds)) w) := by
  subst hi
  obtain ⟨a1, p1, rfl, y1, x1⟩ := hO.open
  obtain ⟨a2, p2, rfl, y2, x2⟩ := hR.open
  obtain ⟨a3, p3, rfl, y3, x3⟩ := hG.open
  obtain ⟨a4, p4, rfl, y4, x4⟩ := hV.open
  obtain ⟨a5, p5, rfl, -, x5⟩ := hD.open
  unfold maxLen at x1 x2 x3 x4 x5
  have HN := Lib.hid hns
  clear hns
  have HL := Lib.hid (@limB_iff opts rs gs os)
  have HL0 := Lib.hid (@limB_not opts rs gs os)
  generalize hn1 : opts.length = n1 at *
  generalize hn2 : rs.length = n2 at *
  generalize hn3 : gs.length = n3 at *
  generalize hn4 : os.length = n4 at *
  generalize hn5 : ds.length = n5 at *
  have Hn1 := Lib.hid hn1
  have Hn2 := Lib.hid hn2
  have Hn3 := Lib.hid hn3
  have Hn4 := Lib.hid hn4
  have Hn5 := Lib.hid hn5
  clear hn1 hn2 hn3 hn4 hn5
  obtain ⟨mx, hmx, hmx48⟩ : ∃ mx : Int, (∀ ts t w', (Builtin.max_ ts t #[.int .i64 (n2 : Int), .int .i64 (n3 : Int), .int .i64 (n4 : Int)]).run Tryz.prog w' = .ok (.int .i64 mx) w') ∧ (mx ≤ 48 ↔ n2 ≤ 48 ∧ n3 ≤ 48 ∧ n4 ≤ 48) :=
    ⟨_, fun ts t w' => run_max_int3 _ ts t _ _ _ _ _ _, by split <;> split <;> omega⟩
  have Hmx48 := Lib.hid hmx48
  clear hmx48
  by_cases hl12 : 12 < n1
  · clear hmx
    go_enter Tryz.func6, Tryz.ntmps6
    go_wp2
    go_ret
    exact ⟨ret_int (fam_lim (HL.out.2 (.inl hl12))).symm, below1 _ _⟩
  by_cases hl48 : 48 < mx
  · have hl12' : n1 ≤ 12 := by omega
    go_enter Tryz.func6, Tryz.ntmps6
    go_wp2
    go_ret
    refine ⟨ret_int (fam_lim (HL.out.2 (.inr ?_))).symm, below1 _ _⟩
    have := Hmx48.out
    by_cases a : 48 < n2
    · exact .inl a
    by_cases b : 48 < n3
    · exact .inr (.inl b)
    exact .inr (.inr (by omega))
  have Hlim := Lib.hid (HL0.out.2 (by have := Hmx48.out; omega))
  have h12 : n1 ≤ 12 := by omega
  have hmx48 : mx ≤ 48 := by omega
  obtain ⟨h248, h348, h448⟩ := Hmx48.out.1 hmx48
  clear hl12 hl48 HL HL0 Hmx48
  generalize hE : famErr opts rs gs os mI ds = E
  have HE := Lib.hid hE
  clear hE
  go_enter Tryz.func6, Tryz.ntmps6
  go_wp2
  have hb0 := below1 w (.cells #[q0, q1, .slice ai mI ci, .slice a5 n5 p5, q4, q5, .slice a1 n1 p1, .slice a2 n2 p2, .slice a3 n3 p3, .slice a4 n4 p4] 36)
  have hbx := box10 (Below.refl (w.heap.size + 1) (w.alloc (.cells #[q0, q1, .slice ai mI ci, .slice a5 n5 p5, q4, q5, .slice a1 n1 p1, .slice a2 n2 p2, .slice a3 n3 p3, .slice a4 n4 p4] 36)))
  obtain ⟨hB, -, -, g2, g3, -, -, g6, g7, g8, g9⟩ := hbx
  have hO := hO.mono hb0
  have hR := hR.mono hb0
  have hG := hG.mono hb0
  have hV := hV.mono hb0
  have hD := hD.mono hb0
  clear hmx
  generalize w.alloc (.cells #[q0, q1, .slice ai mI ci, .slice a5 n5 p5, q4, q5, .slice a1 n1 p1, .slice a2 n2 p2, .slice a3 n3 p3, .slice a4 n4 p4] 36) = W at *
  go_loopw [35] (fun i wr => ∃ k : Nat, k ≤ n1 ∧ i = .int .i64 k ∧ Below W.heap.size W wr ∧ Hid (OptPre opts k)) (fun i _ => n1 - (intOf i).toNat)
  case atStart => exact ⟨0, Nat.zero_le _, rfl, Below.refl _ _, rfl⟩
  case round =>
    obtain ⟨k, hk, rfl, hbw, HP⟩ := hrel
    have f6 := (hbw.cell (p := ⟨w.heap.size, 6, none⟩) hB).trans g6
    by_cases hlt2 : k < n1
    · obtain ⟨b, off, s, rfl, hsk, c0⟩ := hO.at hbw hlt2
      have Hn := Lib.hid (fun w => isName_g s w)
      have Hsk := Lib.hid hsk
      clear hsk
      have hB2 := Nat.lt_of_lt_of_le hB hbw.size
      have hbl : b < wr.heap.size := World.block_lt_of_cell? _ _ c0
      clear g2 g3 g6 g7 g8 g9
      cases hnm : nameB s with
      | false =>
        rw [hnm] at Hn
        have HNm := Lib.hid hnm
        clear hnm
        go_wp2_with (go_at_call 25; refine (Hn.out _).mono ?_; rintro e w' ⟨rfl, hb'⟩)
        go_ret
        exact ⟨ret_int ((fam_opt Hlim.out ((errRun_hit Hsk.out HP.out (by rw [optF_name HNm.out]; decide)).trans (optF_name HNm.out)) (by decide)).symm.trans HE.out), hb0.via (hbw.via hb' hbw.size) hb0.size⟩
      | true =>
        rw [hnm] at Hn
        have HNm := Lib.hid hnm
        clear hnm
        rcases k with _ | j
        · simp only [Nat.add_zero] at c0
          go_wp2_with (go_at_call 25; refine (Hn.out _).mono ?_; rintro e w' ⟨rfl, hb'⟩)
          go_roundw
          case rel => exact ⟨1, by omega, rfl, hbw.via hb' hbw.size, optPre_step Hsk.out HP.out (optF_ok0 HNm.out)⟩
          case measure => simp [intOf]; omega
        · obtain ⟨b', off', s', hq, hsk', d0⟩ := hO.at hbw (show j < n1 by omega)
          obtain ⟨rfl, rfl⟩ : b = b' ∧ off = off' := by simpa using hq
          clear hq
          have Hsk' := Lib.hid hsk'
          clear hsk'
          have e1 : ((((j + 1 : Nat) : Int) - 1)) = (j : Int) := by omega
          have hjm : (j : Int) < (n1 : Int) := by omega
          have ew : IntKind.i64.wrap (j : Int) = j := IntWalk.i64_in _ (by omega)
          have HQ : Hid (prevO opts (j + 1) = some s') := Hsk'.out
          cases hle : (Op.bytesLess s.toList s'.toList || s.toList == s'.toList) with
          | true =>
            go_wp2_with (go_at_call 25; refine (Hn.out _).mono ?_; rintro e w' ⟨rfl, hb'⟩; have d0' := (hb'.cell (p := ⟨b, _, none⟩) hbl).trans d0; have f6' := (hb'.cell (p := ⟨w.heap.size, 6, none⟩) hB2).trans f6)
            go_ret
            exact ⟨ret_int ((fam_opt Hlim.out ((errRun_hit Hsk.out HP.out (by rw [HQ.out, optF_le HNm.out hle]; decide)).trans (by rw [HQ.out, optF_le HNm.out hle])) (by decide)).symm.trans HE.out), hb0.via (hbw.via hb' hbw.size) hb0.size⟩
          | false =>
            go_wp2_with (go_at_call 25; refine (Hn.out _).mono ?_; rintro e w' ⟨rfl, hb'⟩; have d0' := (hb'.cell (p := ⟨b, _, none⟩) hbl).trans d0; have f6' := (hb'.cell (p := ⟨w.heap.size, 6, none⟩) hB2).trans f6)
            go_roundw
            case rel => exact ⟨j + 1 + 1, by omega, by go_num, hbw.via hb' hbw.size, optPre_step Hsk.out HP.out (by rw [HQ.out, optF_ok HNm.out hle])⟩
            case measure => simp [intOf]; omega
    · have HOE : Hid (optErr opts = 0) := errRun_end (by have := Hn1.out; omega) HP.out
      clear HP
      have hmm := @run_makeMap Tryz.prog
      have hbw1 := hbw.alloc hbw.size (.map #[] 0)
      have f7 := (hbw1.cell (p := ⟨w.heap.size, 7, none⟩) hB).trans g7
      go_wp2
      clear hmm f6 f7
      have hM := BMap.made wr
      have hWr := hbw.size
      generalize hmb : wr.heap.size = mb at *
      clear hmb hk hlt2
      generalize wr.alloc (.map #[] 0) = W2 at *
      go_loopw [62] (fun i wr => ∃ k : Nat, k ≤ n2 ∧ i = .int .i64 k ∧ Below W.heap.size W wr ∧ BMap wr mb k (seenR rs k) ∧ Hid (RulPre opts.length rs k)) (fun i _ => n2 - (intOf i).toNat)
      case atStart => exact ⟨0, Nat.zero_le _, rfl, hbw1, hM, rfl⟩
      case round =>
        obtain ⟨k, hk, rfl, hbw, hmap, HP⟩ := hrel
        have f6 := (hbw.cell (p := ⟨w.heap.size, 6, none⟩) hB).trans g6
        by_cases hlt2 : k < n2
        · obtain ⟨b, off, av, r, rfl, hrk, c0, c1, hL⟩ := hR.atO hbw hlt2
          have hrm := List.mem_of_getElem? hrk
          have Hrk := Lib.hid hrk
          have Hn := Lib.hid (fun w => isName_g r.1 w)
          have hns2 : r.1.size ≤ maxLen := HN.out r hrm
          obtain ⟨aa, ac, rfl, -, -⟩ := hL.open
          generalize hrl : r.2.length = rl at *
          generalize hle : litErr (opts.length : Int) r.2 = le
          have Hle := Lib.hid hle
          have Hc : Hid (∀ w2, Below W.heap.size W w2 → Calls Tryz.prog 26 #[.slice aa rl ac, .int .i64 (n1 : Int)] w2 (Ret (.int .i64 le) w2)) := fun w2 h2 => by
            have := check61g (opts.length : Int) r.2 _ w2 (hL.mono h2)
            rw [Hle.out, Hn1.out] at this
            exact this
          have hmbw := hmap.lt
          have Hns2 := Lib.hid hns2
          clear hrk hrm g2 g3 g6 g7 g8 g9 hM hL hrl hle hns2
          have z0 : (wr.alloc (.cells #[.string r.1, .slice aa rl ac] 40)).cell? ⟨wr.heap.size, 0, none⟩ = some (.string r.1) := by simp
          have z1 : (wr.alloc (.cells #[.string r.1, .slice aa rl ac] 40)).cell? ⟨wr.heap.size, 1, none⟩ = some (.slice aa rl ac) := by simp
          have ne1 : wr.heap.size ≠ mb := by omega
          have ne2 : w.heap.size ≠ mb := by omega
          have hmap1 := hmap.mono (below1 wr (.cells #[.string r.1, .slice aa rl ac] 40))
          cases hnm : nameB r.1 with
          | false =>
            rw [hnm] at Hn
            have HNm := Lib.hid hnm
            clear hnm
            go_wp2_with (go_at_call 25; refine (Hn.out _).mono ?_; rintro e w' ⟨rfl, hb'⟩; have hw1 := (below1 wr (.cells #[.string r.1, .slice aa rl ac] 40)).via hb' (by simp))
            go_ret
            exact ⟨ret_int ((fam_rul Hlim.out HOE.out ((errRun_hit Hrk.out HP.out (by rw [rulF_name HNm.out]; decide)).trans (rulF_name HNm.out)) (by decide)).symm.trans HE.out), hb0.via (hbw.via hw1 hbw.size) hb0.size⟩
          | true =>
            rw [hnm] at Hn
            have HNm := Lib.hid hnm
            clear hnm
            cases hsn : memB r.1 (seenR rs k) with
            | true =>
              have Hsn := Lib.hid hsn
              clear hsn
              go_wp2_with (first | (go_at_call 25; refine (Hn.out _).mono ?_; rintro e w' ⟨rfl, hb'⟩; have hmap2 := hmap1.mono hb'; have h0' := (hb'.cell (p := ⟨wr.heap.size, 0, none⟩) (by simp)).trans z0; have hw1 := (below1 wr (.cells #[.string r.1, .slice aa rl ac] 40)).via hb' (by simp)) | (at_lookup; go_loud (refine wpLookB rfl _ _ rfl mb _ _ _ rfl rfl hmap2 Hns2.out true Hsn.out ?_)))
              go_ret
              exact ⟨ret_int ((fam_rul Hlim.out HOE.out ((errRun_hit Hrk.out HP.out (by rw [rulF_dup HNm.out Hsn.out]; decide)).trans (rulF_dup HNm.out Hsn.out)) (by decide)).symm.trans HE.out), hb0.via (hbw.via hw1 hbw.size) hb0.size⟩
            | false =>
              have Hsn := Lib.hid hsn
              clear hsn
              by_cases hl0 : le = 0
              · subst hl0
                go_wp2_with (first | (go_at_call 25; refine (Hn.out _).mono ?_; rintro e w' ⟨rfl, hb'⟩; have hmap2 := hmap1.mono hb'; have h0' := (hb'.cell (p := ⟨wr.heap.size, 0, none⟩) (by simp)).trans z0; have h1' := (hb'.cell (p := ⟨wr.heap.size, 1, none⟩) (by simp)).trans z1; have hw1 := (below1 wr (.cells #[.string r.1, .slice aa rl ac] 40)).via hb' (by simp); have f6' := (hw1.cell (p := ⟨w.heap.size, 6, none⟩) (Nat.lt_of_lt_of_le hB hbw.size)).trans f6) | (at_lookup; go_loud (refine wpLookB rfl _ _ rfl mb _ _ _ rfl rfl hmap2 Hns2.out false Hsn.out ?_)) | (at_mapUpdate; go_loud (refine wpPutB rfl _ _ _ rfl mb _ _ _ rfl rfl rfl hmap2 (by unfold maxLen; omega) Hns2.out ?_); intro w3 hmap3 hg3; have h1'' := grown_cell hg3 h1' ne1; have f6'' := grown_cell hg3 f6' ne2; have hbw3 := (hbw.via hw1 hbw.size).grown hg3 (Nat.le_trans hbw.size hw1.size) (fun k hk => by cases hk; exact hWr)) | (go_at_call 26; refine (Hc.out _ hbw3).mono ?_; rintro e w4 ⟨rfl, hb4⟩; have hmap4 := hmap3.mono hb4; have hbw4 := hbw3.via hb4 hbw3.size))
                go_roundw
                case rel => exact ⟨k + 1, by omega, by go_num, hbw4, by rw [← seenR_succ Hrk.out]; exact hmap4, rulPre_step Hrk.out HP.out ((rulF_lit HNm.out Hsn.out).trans Hle.out)⟩
                case measure => simp [intOf]; omega
              · go_wp2_with (first | (go_at_call 25; refine (Hn.out _).mono ?_; rintro e w' ⟨rfl, hb'⟩; have hmap2 := hmap1.mono hb'; have h0' := (hb'.cell (p := ⟨wr.heap.size, 0, none⟩) (by simp)).trans z0; have h1' := (hb'.cell (p := ⟨wr.heap.size, 1, none⟩) (by simp)).trans z1; have hw1 := (below1 wr (.cells #[.string r.1, .slice aa rl ac] 40)).via hb' (by simp); have f6' := (hw1.cell (p := ⟨w.heap.size, 6, none⟩) (Nat.lt_of_lt_of_le hB hbw.size)).trans f6) | (at_lookup; go_loud (refine wpLookB rfl _ _ rfl mb _ _ _ rfl rfl hmap2 Hns2.out false Hsn.out ?_)) | (at_mapUpdate; go_loud (refine wpPutB rfl _ _ _ rfl mb _ _ _ rfl rfl rfl hmap2 (by unfold maxLen; omega) Hns2.out ?_); intro w3 hmap3 hg3; have h1'' := grown_cell hg3 h1' ne1; have f6'' := grown_cell hg3 f6' ne2; have hbw3 := (hbw.via hw1 hbw.size).grown hg3 (Nat.le_trans hbw.size hw1.size) (fun k hk => by cases hk; exact hWr)) | (go_at_call 26; refine (Hc.out _ hbw3).mono ?_; rintro e w4 ⟨rfl, hb4⟩; have hmap4 := hmap3.mono hb4; have hbw4 := hbw3.via hb4 hbw3.size))
                go_ret
                exact ⟨ret_int ((fam_rul Hlim.out HOE.out ((errRun_hit Hrk.out HP.out (by rw [rulF_lit HNm.out Hsn.out, Hle.out]; exact hl0)).trans ((rulF_lit HNm.out Hsn.out).trans Hle.out)) hl0).symm.trans HE.out), hb0.via hbw4 hb0.size⟩
        · have HRE : Hid (rulErr opts.length rs = 0) := errRun_end (by have := Hn2.out; omega) HP.out
          clear HP
          have f8 := (hbw.cell (p := ⟨w.heap.size, 8, none⟩) hB).trans g8
          go_wp2
          clear hmap f6 f8 hM hWr hbw1 hlt2 hk
          go_loopw [92] (fun i wr => ∃ k : Nat, k ≤ n3 ∧ i = .int .i64 k ∧ Below W.heap.size W wr ∧ Hid (GrdPre opts.length mI gs k)) (fun i _ => n3 - (intOf i).toNat)
          case atStart => exact ⟨0, Nat.zero_le _, rfl, hbw, rfl⟩
          case round =>
            obtain ⟨k, hk, rfl, hbw, HP⟩ := hrel
            by_cases hlt2 : k < n3
            · have f6 := (hbw.cell (p := ⟨w.heap.size, 6, none⟩) hB).trans g6
              have f2 := (hbw.cell (p := ⟨w.heap.size, 2, none⟩) hB).trans g2
              have hB2 := Nat.lt_of_lt_of_le hB hbw.size
              obtain ⟨b, off, av, g, rfl, hrk, c0, c1, hL⟩ := hG.at hbw hlt2
              have Hrk := Lib.hid hrk
              obtain ⟨aa, ac, rfl, -, -⟩ := hL.open
              generalize hrl : g.2.length = rl at *
              generalize hle : litErr (opts.length : Int) g.2 = le
              have Hle := Lib.hid hle
              have Hc : Hid (∀ w2, Below wr.heap.size wr w2 → Calls Tryz.prog 26 #[.slice aa rl ac, .int .i64 (n1 : Int)] w2 (Ret (.int .i64 le) w2)) := fun w2 h2 => by
                have := check61g (opts.length : Int) g.2 _ w2 (hL.mono h2)
                rw [Hle.out, Hn1.out] at this
                exact this
              clear hrk g2 g3 g6 g7 g8 g9 hL hrl hle
              by_cases hi0 : g.1 < 0
              · go_wp2
                go_ret
                exact ⟨ret_int ((fam_grd Hlim.out HOE.out HRE.out ((errRun_hit Hrk.out HP.out (by rw [grdF_bad (.inl hi0)]; decide)).trans (grdF_bad (.inl hi0))) (by decide)).symm.trans HE.out), hb0.via (hbw.alloc hbw.size _) hb0.size⟩
              by_cases hi1 : (mI : Int) ≤ g.1
              · go_wp2
                go_ret
                exact ⟨ret_int ((fam_grd Hlim.out HOE.out HRE.out ((errRun_hit Hrk.out HP.out (by rw [grdF_bad (.inr hi1)]; decide)).trans (grdF_bad (.inr hi1))) (by decide)).symm.trans HE.out), hb0.via (hbw.alloc hbw.size _) hb0.size⟩
              have Hgl := Lib.hid (grdF_lit (n := opts.length) (show 0 ≤ g.1 by omega) (show g.1 < (mI : Int) by omega))
              by_cases hl0 : le = 0
              · subst hl0
                go_wp2_with (go_at_call 26; refine (Hc.out _ (below1 _ _)).mono ?_; rintro e w4 ⟨rfl, hb4⟩; have hbw4 := hbw.via ((below1 wr _).via hb4 (by simp)) hbw.size)
                go_roundw
                case rel => exact ⟨k + 1, by omega, by go_num, hbw4, errRun_step Hrk.out HP.out (Hgl.out.trans Hle.out)⟩
                case measure => simp [intOf]; omega
              · go_wp2_with (go_at_call 26; refine (Hc.out _ (below1 _ _)).mono ?_; rintro e w4 ⟨rfl, hb4⟩; have hbw4 := hbw.via ((below1 wr _).via hb4 (by simp)) hbw.size)
                go_ret
                exact ⟨ret_int ((fam_grd Hlim.out HOE.out HRE.out ((errRun_hit Hrk.out HP.out (by rw [Hgl.out, Hle.out]; exact hl0)).trans (Hgl.out.trans Hle.out)) hl0).symm.trans HE.out), hb0.via hbw4 hb0.size⟩
            · have HGE : Hid (grdErr opts.length mI gs = 0) := errRun_end (by have := Hn3.out; omega) HP.out
              clear HP
              have HEo : Hid (ovrErr opts.length ds os = E) := (fam_ovr Hlim.out HOE.out HRE.out HGE.out).symm.trans HE.out
              have f9 := (hbw.cell (p := ⟨w.heap.size, 9, none⟩) hB).trans g9
              go_wp2
              clear f9 hlt2 hk
              go_loopw [122] (fun i wr => ∃ k : Nat, k ≤ n4 ∧ i = .int .i64 k ∧ Below W.heap.size W wr ∧ Hid (OvrPre opts.length ds os k)) (fun i _ => n4 - (intOf i).toNat)
              case atStart => exact ⟨0, Nat.zero_le _, rfl, hbw, rfl⟩
              case round =>
                obtain ⟨k, hk, rfl, hbw, HP⟩ := hrel
                by_cases hlt2 : k < n4
                · have f6 := (hbw.cell (p := ⟨w.heap.size, 6, none⟩) hB).trans g6
                  have f3 := (hbw.cell (p := ⟨w.heap.size, 3, none⟩) hB).trans g3
                  have hB2 := Nat.lt_of_lt_of_le hB hbw.size
                  obtain ⟨b, off, av, o, rfl, hrk, c0, c1, c2, c3, c4, c5, hL⟩ := hV.at hbw hlt2
                  have Hrk := Lib.hid hrk
                  obtain ⟨aa, ac, rfl, -, -⟩ := hL.open
                  generalize hrl : o.1.length = rl at *
                  generalize hle : litErr (opts.length : Int) o.1 = le
                  have Hle := Lib.hid hle
                  have Hc : Hid (∀ w2, Below wr.heap.size wr w2 → Calls Tryz.prog 26 #[.slice aa rl ac, .int .i64 (n1 : Int)] w2 (Ret (.int .i64 le) w2)) := fun w2 h2 => by
                    have := check61g (opts.length : Int) o.1 _ w2 (hL.mono h2)
                    rw [Hle.out, Hn1.out] at this
                    exact this
                  clear hrk g2 g3 g6 g7 g8 g9 hL hrl hle
                  by_cases hl0 : le = 0
                  · subst hl0
                    by_cases hi0 : o.2.1 < 0
                    · have z1 : (wr.alloc (.cells #[.slice aa rl ac, .int .i64 o.2.1, .string o.2.2.1, .int .i64 o.2.2.2.1, .int .i64 o.2.2.2.2.1, .int .i64 o.2.2.2.2.2] 86)).cell? ⟨wr.heap.size, 1, none⟩ = some (.int .i64 o.2.1) := by simp
                      go_wp2_with (go_at_call 26; refine (Hc.out _ (below1 _ _)).mono ?_; rintro e w4 ⟨rfl, hb4⟩; have hwr4 := (below1 wr (.cells #[.slice aa rl ac, .int .i64 o.2.1, .string o.2.2.1, .int .i64 o.2.2.2.1, .int .i64 o.2.2.2.2.1, .int .i64 o.2.2.2.2.2] 86)).via hb4 (by simp); have hbw4 := hbw.via hwr4 hbw.size; have y1 := (hb4.cell (p := ⟨wr.heap.size, 1, none⟩) (by simp)).trans z1)
                      go_ret
                      exact ⟨ret_int (((errRun_hit Hrk.out HP.out (by rw [ovrF_10 Hle.out (.inl hi0)]; decide)).trans (ovrF_10 Hle.out (.inl hi0))).symm.trans HEo.out), hb0.via hbw4 hb0.size⟩
                    by_cases hi1 : (n5 : Int) ≤ o.2.1
                    · have z1 : (wr.alloc (.cells #[.slice aa rl ac, .int .i64 o.2.1, .string o.2.2.1, .int .i64 o.2.2.2.1, .int .i64 o.2.2.2.2.1, .int .i64 o.2.2.2.2.2] 86)).cell? ⟨wr.heap.size, 1, none⟩ = some (.int .i64 o.2.1) := by simp
                      have hi1' : Hid ((ds.length : Int) ≤ o.2.1) := by rw [Hn5.out]; exact hi1
                      go_wp2_with (go_at_call 26; refine (Hc.out _ (below1 _ _)).mono ?_; rintro e w4 ⟨rfl, hb4⟩; have hwr4 := (below1 wr (.cells #[.slice aa rl ac, .int .i64 o.2.1, .string o.2.2.1, .int .i64 o.2.2.2.1, .int .i64 o.2.2.2.2.1, .int .i64 o.2.2.2.2.2] 86)).via hb4 (by simp); have hbw4 := hbw.via hwr4 hbw.size; have y1 := (hb4.cell (p := ⟨wr.heap.size, 1, none⟩) (by simp)).trans z1; have f3' := (hwr4.cell (p := ⟨w.heap.size, 3, none⟩) hB2).trans f3)
                      go_ret
                      exact ⟨ret_int (((errRun_hit Hrk.out HP.out (by rw [ovrF_10 Hle.out (.inr hi1'.out)]; decide)).trans (ovrF_10 Hle.out (.inr hi1'.out))).symm.trans HEo.out), hb0.via hbw4 hb0.size⟩
                    obtain ⟨dk, hdk⟩ : ∃ dk : Nat, o.2.1 = (dk : Int) := ⟨o.2.1.toNat, by omega⟩
                    have hdl : dk < n5 := by omega
                    obtain ⟨b', off', d', rfl, hd', hbl, e0, -, -, -⟩ := hD.at hbw hdl
                    rw [hdk] at c1
                    have Hdk := Lib.hid hdk
                    have Hd' := Lib.hid hd'
                    clear hd' hdk hi0 hi1
                    have z1 : (wr.alloc (.cells #[.slice aa rl ac, .int .i64 (dk : Int), .string o.2.2.1, .int .i64 o.2.2.2.1, .int .i64 o.2.2.2.2.1, .int .i64 o.2.2.2.2.2] 86)).cell? ⟨wr.heap.size, 1, none⟩ = some (.int .i64 (dk : Int)) := by simp
                    have z2 : (wr.alloc (.cells #[.slice aa rl ac, .int .i64 (dk : Int), .string o.2.2.1, .int .i64 o.2.2.2.1, .int .i64 o.2.2.2.2.1, .int .i64 o.2.2.2.2.2] 86)).cell? ⟨wr.heap.size, 2, none⟩ = some (.string o.2.2.1) := by simp
                    have hbl2 := Nat.lt_of_lt_of_le hbl hbw.size
                    by_cases hdn : d'.1 = o.2.2.1
                    · rw [hdn] at e0
                      have Hdn := Lib.hid hdn
                      clear hdn
                      go_wp2_with (go_at_call 26; refine (Hc.out _ (below1 _ _)).mono ?_; rintro e w4 ⟨rfl, hb4⟩; have hwr4 := (below1 wr (.cells #[.slice aa rl ac, .int .i64 (dk : Int), .string o.2.2.1, .int .i64 o.2.2.2.1, .int .i64 o.2.2.2.2.1, .int .i64 o.2.2.2.2.2] 86)).via hb4 (by simp); have hbw4 := hbw.via hwr4 hbw.size; have y1 := (hb4.cell (p := ⟨wr.heap.size, 1, none⟩) (by simp)).trans z1; have y2 := (hb4.cell (p := ⟨wr.heap.size, 2, none⟩) (by simp)).trans z2; have f3' := (hwr4.cell (p := ⟨w.heap.size, 3, none⟩) hB2).trans f3; have e0' := (hwr4.cell (p := ⟨b', _, none⟩) hbl2).trans e0)
                      go_quiet (fail)
                      go_wp2
                      go_roundw
                      case rel => exact ⟨k + 1, by omega, by go_num, hbw4.dn _, errRun_step Hrk.out HP.out (ovrF_0 Hle.out Hdk.out Hd'.out Hdn.out)⟩
                      case measure => simp [intOf]; omega
                    · have hdn2 : (o.2.2.1.toList == d'.1.toList) = false := beq_eq_false_iff_ne.2 fun h => hdn (bytes_inj h).symm
                      go_wp2_with (go_at_call 26; refine (Hc.out _ (below1 _ _)).mono ?_; rintro e w4 ⟨rfl, hb4⟩; have hwr4 := (below1 wr (.cells #[.slice aa rl ac, .int .i64 (dk : Int), .string o.2.2.1, .int .i64 o.2.2.2.1, .int .i64 o.2.2.2.2.1, .int .i64 o.2.2.2.2.2] 86)).via hb4 (by simp); have hbw4 := hbw.via hwr4 hbw.size; have y1 := (hb4.cell (p := ⟨wr.heap.size, 1, none⟩) (by simp)).trans z1; have y2 := (hb4.cell (p := ⟨wr.heap.size, 2, none⟩) (by simp)).trans z2; have f3' := (hwr4.cell (p := ⟨w.heap.size, 3, none⟩) hB2).trans f3; have e0' := (hwr4.cell (p := ⟨b', _, none⟩) hbl2).trans e0)
                      go_quiet (fail)
                      go_wp2
                      go_ret
                      exact ⟨ret_int (((errRun_hit Hrk.out HP.out (by rw [ovrF_17 Hle.out Hdk.out Hd'.out hdn]; decide)).trans (ovrF_17 Hle.out Hdk.out Hd'.out hdn)).symm.trans HEo.out), hb0.via (hbw4.dn _) hb0.size⟩
                  · go_wp2_with (go_at_call 26; refine (Hc.out _ (below1 _ _)).mono ?_; rintro e w4 ⟨rfl, hb4⟩; have hbw4 := hbw.via ((below1 wr _).via hb4 (by simp)) hbw.size)
                    go_ret
                    exact ⟨ret_int (((errRun_hit Hrk.out HP.out (by rw [ovrF_lit (by rw [Hle.out]; exact hl0), Hle.out]; exact hl0)).trans ((ovrF_lit (by rw [Hle.out]; exact hl0)).trans Hle.out)).symm.trans HEo.out), hb0.via hbw4 hb0.size⟩
                · go_wp2
                  go_ret
                  exact ⟨ret_int ((errRun_end (by have := Hn4.out; omega) HP.out).symm.trans HEo.out), hb0.via hbw hb0.size⟩

end Go.Proofs.YtknpbcdmemlicaaGreatDoor
