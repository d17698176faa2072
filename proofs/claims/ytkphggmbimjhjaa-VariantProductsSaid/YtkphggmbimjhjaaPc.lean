/-
  Names of options, read by the program.
-/
import Derived.Test.YtkphggmbimjhjaaPb
import Derived.Test.YtkphggmbimjhjaaCfg
import Derived.Test.YtkphggmbimjhjaaFat
namespace Go.Proofs.Ytkphggmbimjhjaa
open Go.RowKit

set_option maxHeartbeats 2000000 in
theorem read_any (q0 q1 q2 q3 q4 q5 ov q7 q8 q9 sv : Value) (opts on : List ByteArray) (w : World) (hO : Strs w ov opts) (hS : Strs w sv on) (h12 : opts.length ≤ 12) (hlen : on.length < 1000) (hso : ∀ o ∈ opts, o.size ≤ maxLen) (hss : ∀ o ∈ on, o.size ≤ maxLen) :
    Calls Try.prog 68 #[.agg #[q0, q1, q2, q3, q4, q5, ov, q7, q8, q9], sv] w (Ret (.tuple #[.int .u64 (if pErr opts on = 0 then (pCfg opts on on.length : Int) else 0), .int .i64 (pErr opts on)]) w) := by
  obtain ⟨a, cap, rfl, -, hcap⟩ := hO.open
  obtain ⟨a2, cap2, rfl, -, hcap2⟩ := hS.open
  unfold maxLen at hcap hcap2
  have Hat := Lib.hid (fun s => atTo_range opts s opts.length)
  have HK := Lib.hid (fun (i : Nat) (h1 : i < on.length) (h2 : pErrTo opts on i = 0) (h3 : pErrAt opts on i ≠ 0) => pErr_of h1 h2 h3)
  have HE := Lib.hid (show pErr opts on = pErrTo opts on on.length from rfl)
  have Hnx := Lib.hid (fun (i : Nat) (t : Int) (s : ByteArray) (hs : on[i]? = some s) (ht : atTo opts s opts.length = t) (h0 : 0 ≤ t) => cfg_next hs ht h0 h12)
  have Hpe := Lib.hid (fun i => show pErrAt opts on i = match on[i]? with | none => 0 | some s => if atTo opts s opts.length < 0 then 16 else if 0 < i ∧ leS s (on.getD (i - 1) ⟨#[]⟩) = true then 8 else 0 from rfl)
  obtain ⟨RE, HRE⟩ : ∃ RE, Hid ((if pErr opts on = 0 then (pCfg opts on on.length : Int) else 0) = RE) := ⟨_, rfl⟩
  rw [HRE.out]
  have Hso := Lib.hid hso
  have Hss := Lib.hid hss
  generalize hn : opts.length = n at *
  generalize hm : on.length = m at *
  have Hn := Lib.hid hn
  have Hm := Lib.hid hm
  clear hn hm hso hss
  have hmm := @run_makeMap Try.prog
  go_enter Try.func68, Try.ntmps68
  go_wp2
  clear hmm
  have hq : (w.alloc (.cells #[q0, q1, q2, q3, q4, q5, .slice a n cap, q7, q8, q9] 41)).cell? ⟨w.heap.size, 6, none⟩ = some (.slice a n cap) := by simp
  have hM := IMap.made (w.alloc (.cells #[q0, q1, q2, q3, q4, q5, .slice a n cap, q7, q8, q9] 41)) opts
  have hbW := below2 w (.cells #[q0, q1, q2, q3, q4, q5, .slice a n cap, q7, q8, q9] 41) (.map #[] 0)
  have hsz : (w.alloc (.cells #[q0, q1, q2, q3, q4, q5, .slice a n cap, q7, q8, q9] 41)).heap.size = w.heap.size + 1 := by simp
  rw [hsz] at hM
  clear hsz hq
  generalize (w.alloc (.cells #[q0, q1, q2, q3, q4, q5, .slice a n cap, q7, q8, q9] 41)).alloc (.map #[] 0) = W at *
  go_loopw [18] (fun i wr => ∃ k : Nat, k ≤ n ∧ i = .int .i64 k ∧ Below w.heap.size w wr ∧ IMap wr (w.heap.size + 1) k opts k) (fun i _ => n - (intOf i).toNat)
  case atStart => exact ⟨0, Nat.zero_le _, rfl, hbW, hM⟩
  case round =>
    obtain ⟨k, hk, rfl, hbw, hmap⟩ := hrel
    by_cases hlt2 : k < n
    · obtain ⟨b, off, o, rfl, hok, c0⟩ := hO.at hbw hlt2
      have hos := Hso.out o (List.mem_of_getElem? hok)
      have Hok := Lib.hid hok
      clear hok
      go_wp2_with (at_mapUpdate; go_loud (refine wpPutI rfl _ _ _ rfl (w.heap.size + 1) k k opts o rfl rfl rfl hmap (by unfold maxLen; omega) hos (by omega) Hok.out ?_); intro w3 hmap3 hg3; have hbw3 := hbw.grown hg3 hbw.size (fun k hk => by cases hk; omega))
      go_roundw
      case rel => exact ⟨k + 1, by omega, by go_num, hbw3, hmap3⟩
      case measure => simp [intOf]; omega
    · obtain rfl : k = n := by omega
      go_wp2
      go_loopw [9, 29] (fun st i wr => ∃ j : Nat, j ≤ m ∧ i = .int .i64 j ∧ st = .int .u64 (pCfg opts on j : Int) ∧ Below w.heap.size w wr ∧ IMap wr (w.heap.size + 1) k opts k ∧ Hid (pErrTo opts on j = 0)) (fun _ i _ => m - (intOf i).toNat)
      case atStart => exact ⟨0, Nat.zero_le _, rfl, rfl, hbw, hmap, rfl⟩
      case round =>
        clear hmap hbw
        obtain ⟨j, hj, rfl, rfl, hbw, hmap, hpre⟩ := hrel
        by_cases hlt3 : j < m
        · obtain ⟨b, off, s, rfl, hsk, c0⟩ := hS.at hbw hlt3
          have Hsk := Lib.hid hsk
          have hsz := Hss.out s (List.mem_of_getElem? hsk)
          clear hsk
          have HPS := Lib.hid (fun t => Hnx.out j t s Hsk.out)
          have hat := Hat.out s
          have HPE := Lib.hid (show pErrAt opts on j = if atTo opts s k < 0 then 16 else if 0 < j ∧ leS s (on.getD (j - 1) ⟨#[]⟩) = true then 8 else 0 by rw [Hpe.out, Hsk.out])
          have Hta := Lib.hid (show ∃ t, atTo opts s k = t from ⟨_, rfl⟩)
          obtain ⟨t, hta⟩ := Hta.out
          rw [hta] at HPE hat HPS
          generalize hps : (pCfg opts on j : Int) = ps at *
          by_cases ht : t < 0
          · have hR := HRE.out
            have hpe : pErr opts on = 16 := by
              have h1 : pErrAt opts on j = 16 := by rw [HPE.out, if_pos ht]
              rw [HK.out j hlt3 hpre.out (by rw [h1]; decide), h1]
            rw [hpe, if_neg (by decide)] at hR
            have hdt : decide (0 ≤ t) = false := by simp; omega
            have Hpe8 := Lib.hid hpe
            have HR8 := Lib.hid hR
            clear hpe hR
            go_wp2_with (at_lookup; go_loud (refine wpLookI rfl _ _ rfl (w.heap.size + 1) k k opts s rfl rfl hmap hsz t hta ?_); intro c hc; rw [hdt])
            go_ret2
            exact ⟨by rw [Hpe8.out, ← HR8.out]; rfl, hbw⟩
          · have ht0 : 0 ≤ t := by omega
            have ht12 : t < 12 := by omega
            have hdt : decide (0 ≤ t) = true := by simp; omega
            have Hor := Lib.hid (HPS.out t rfl ht0)
            rcases j with _ | i
            · have HPE0 := Lib.hid (show pErrAt opts on 0 = 0 by rw [HPE.out, if_neg ht, if_neg (by simp)])
              simp only [Nat.add_zero] at c0
              go_wp2_with (at_lookup; go_loud (refine wpLookI rfl _ _ rfl (w.heap.size + 1) k k opts s rfl rfl hmap hsz t hta ?_); intro c hc; rw [hdt, hc ht0])
              go_roundw
              case rel => exact ⟨1, by omega, by go_num, by rw [Hor.out], hbw, hmap, pErrTo_next hpre.out HPE0.out⟩
              case measure => simp [intOf]; omega
            · obtain ⟨b3, off3, s', hq3, hsk', d0⟩ := hS.at hbw (show i < m by omega)
              obtain ⟨rfl, rfl⟩ : b = b3 ∧ off = off3 := by simpa using hq3
              have hgd := get_getD hsk'
              clear hq3 hsk'
              have HPE1 := Lib.hid (show pErrAt opts on (i + 1) = if leS s s' = true then 8 else 0 by rw [HPE.out, if_neg ht, Nat.add_sub_cancel, hgd]; simp)
              clear hgd
              have hij : ((((i + 1 : Nat) : Int) - 1)) = (i : Int) := by omega
              have hi64 : IntKind.i64.wrap (i : Int) = i := IntWalk.i64_in _ (by omega)
              have him : (i : Int) < (m : Int) := by omega
              cases hle : (Op.bytesLess s.toList s'.toList || s.toList == s'.toList)
              · have HPE0 := Lib.hid (show pErrAt opts on (i + 1) = 0 by rw [HPE1.out]; rw [leS_of, hle]; rfl)
                go_wp2_with (at_lookup; go_loud (refine wpLookI rfl _ _ rfl (w.heap.size + 1) k k opts s rfl rfl hmap hsz t hta ?_); intro c hc; rw [hdt, hc ht0])
                go_roundw
                case rel => exact ⟨i + 1 + 1, by omega, by go_num, by rw [Hor.out], hbw, hmap, pErrTo_next hpre.out HPE0.out⟩
                case measure => simp [intOf]; omega
              · have hR := HRE.out
                have hpe : pErr opts on = 8 := by
                  have h1 : pErrAt opts on (i + 1) = 8 := by rw [HPE1.out]; rw [leS_of, hle]; rfl
                  rw [HK.out (i + 1) hlt3 hpre.out (by rw [h1]; decide), h1]
                rw [hpe, if_neg (by decide)] at hR
                have Hpe8 := Lib.hid hpe
                have HR8 := Lib.hid hR
                clear hpe hR
                go_wp2_with (at_lookup; go_loud (refine wpLookI rfl _ _ rfl (w.heap.size + 1) k k opts s rfl rfl hmap hsz t hta ?_); intro c hc; rw [hdt, hc ht0])
                go_ret2
                exact ⟨by rw [Hpe8.out, ← HR8.out]; rfl, hbw⟩
        · obtain rfl : j = m := by omega
          have he : pErr opts on = 0 := by rw [HE.out]; exact hpre.out
          have hR := HRE.out
          rw [if_pos he] at hR
          go_wp2_with fail
          go_ret2
          exact ⟨by rw [he, ← hR]; rfl, hbw⟩

theorem maxLen_name {o : ByteArray} (h : nameOk o) : o.size ≤ maxLen := by
  have := h.2.2
  unfold maxLen
  omega

set_option maxHeartbeats 2000000 in
theorem conf57 (q1 q2 q3 q4 q5 q6 q7 q8 q9 q10 sv : Value) (opts on : List ByteArray) (rs : List Rule1) (gs : List Guard1) (os : List Ov1) (mI : Nat) (ds : List Dim1) (w : World)
    (hF : Fam w q1 q2 q3 q4 q5 q6 q7 q8 q9 q10 opts rs gs os mI ds) (hS : Strs w sv on) (hlen : on.length < 1000) (hss : ∀ o ∈ on, o.size ≤ maxLen) :
    Calls Try.prog 57 #[.agg #[q1, q2, q3, q4, q5, q6, q7, q8, q9, q10], sv] w (Ret (.tuple #[.int .u64 (if pErr opts on = 0 then (pCfg opts on on.length : Int) else 0), .int .i64 (pErr opts on)]) w) := by
  obtain ⟨ai, ci, rfl⟩ := hF.insts
  have hb0 := below1 w (.cells #[q1, q2, .slice ai mI ci, q4, q5, q6, q7, q8, q9, q10] 41)
  have hM := hF.mono hb0
  have H1 := Lib.hid (check_any q1 q2 (.slice ai mI ci) q4 q5 q6 q7 q8 q9 q10 opts rs gs os ai mI ci ds _ rfl hM.opt hM.rul hM.grd hM.ovr hM.dims hM.ok)
  have B0 := Lib.hid (Blk.new w #[q1, q2, .slice ai mI ci, q4, q5, q6, q7, q8, q9, q10] 41)
  have H2 := Lib.hid (fun w' (h : Below w.heap.size w w') => read_any q1 q2 (.slice ai mI ci) q4 q5 q6 q7 q8 q9 q10 sv opts on w' (hF.opt.mono h) (hS.mono h) hF.ok.opts12 hlen (fun o ho => maxLen_name (hF.ok.optName o ho)) hss)
  generalize (if pErr opts on = 0 then (pCfg opts on on.length : Int) else 0) = R at *
  generalize pErr opts on = E at *
  have Hb0 := Lib.hid hb0
  clear hM hb0 hS hF
  go_enter Try.func57, Try.ntmps57
  go_wp2_with (first | (go_at_call 51; refine (H1.out).mono ?_; rintro e w1 ⟨rfl, hb1⟩; obtain ⟨c0, c1, c2', c3, c4, c5, c6, c7, c8, c9, -⟩ := blk10 (B0.out.below hb1)) | (go_at_call 68; refine (H2.out _ (Hb0.out.via hb1 Hb0.out.size)).mono ?_; rintro e w2 ⟨rfl, hb2⟩))
  go_ret2
  exact ⟨rfl, Hb0.out.via (hb1.via hb2 hb1.size) Hb0.out.size⟩

set_option maxHeartbeats 2000000 in
theorem allow_any (q1 q2 q3 q4 q5 q6 q7 q8 q9 q10 sv : Value) (opts on : List ByteArray) (rs : List Rule1) (gs : List Guard1) (os : List Ov1) (mI : Nat) (ds : List Dim1) (w : World)
    (hF : Fam w q1 q2 q3 q4 q5 q6 q7 q8 q9 q10 opts rs gs os mI ds) (hS : Strs w sv on) (hlen : on.length < 1000) (hss : ∀ o ∈ on, o.size ≤ maxLen) (X E : Int) (hE : pErr opts on = E) (hX : E = 0 → cBroken (pCfg opts on on.length : Int) rs = X) (hB : E ≠ 0 → X = 0) :
    Calls Try.prog 31 #[.agg #[q1, q2, q3, q4, q5, q6, q7, q8, q9, q10], sv] w (Ret (.tuple #[.bool (if E = 0 then decide (X < 0) else false), .int .i64 X, .int .i64 E]) w) := by
  have hb0 := below1 w (.cells #[q1, q2, q3, q4, q5, q6, q7, q8, q9, q10] 41)
  have B0 := Lib.hid (Blk.new w #[q1, q2, q3, q4, q5, q6, q7, q8, q9, q10] 41)
  have H1 := Lib.hid (conf57 q1 q2 q3 q4 q5 q6 q7 q8 q9 q10 sv opts on rs gs os mI ds _ (hF.mono hb0) (hS.mono hb0) hlen hss)
  have hr := hF.ok.rs48
  have hc := pCfg_lt opts on on.length
  have H2 := Lib.hid (fun w' (h : Below w.heap.size w w') => violated_any (pCfg opts on on.length : Int) rs q8 w' (hF.rul.mono h) (rulesOk_of hF.ok) (by omega) (by omega) (by omega))
  rw [hE] at H1
  have Hb0 := Lib.hid hb0
  clear hb0 hS hF hE
  rcases Decidable.em (E = 0) with rfl | h0
  · rw [hX rfl] at H2
    simp only [if_true] at H1 ⊢
    clear hX hB
    generalize (pCfg opts on on.length : Int) = c at *
    go_enter Try.func31, Try.ntmps31
    go_wp2_with (first | (go_at_call 57; refine (H1.out).mono ?_; rintro e w1 ⟨rfl, hb1⟩; obtain ⟨c0, c1, c2', c3, c4, c5, c6, c7, c8, c9, -⟩ := blk10 (B0.out.below hb1)) | (go_at_call 58; refine (H2.out _ (Hb0.out.via hb1 Hb0.out.size)).mono ?_; rintro e w2 ⟨rfl, hb2⟩))
    go_ret3
    exact ⟨rfl, Hb0.out.via (hb1.via hb2 hb1.size) Hb0.out.size⟩
  · rw [hB h0]
    rw [if_neg h0] at H1 ⊢
    have he : (E != 0) = true := by simpa using h0
    clear hX hB h0
    go_enter Try.func31, Try.ntmps31
    go_wp2_with (first | (go_at_call 57; refine (H1.out).mono ?_; rintro e w1 ⟨rfl, hb1⟩; obtain ⟨c0, c1, c2', c3, c4, c5, c6, c7, c8, c9, -⟩ := blk10 (B0.out.below hb1)))
    go_ret3
    exact ⟨rfl, Hb0.out.via hb1 Hb0.out.size⟩

end Go.Proofs.Ytkphggmbimjhjaa
