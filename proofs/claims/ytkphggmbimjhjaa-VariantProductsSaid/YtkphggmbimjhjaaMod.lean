/-
  The model: holds, all, one, broken.
-/
import Derived.Test.YtkphggmbimjhjaaBase
namespace Go.Proofs.Ytkphggmbimjhjaa
open Go.RowKit

set_option maxHeartbeats 400000 in
theorem mholds_any (s : Int) (i : Int) (b : Bool) (w : World) (h0 : 0 ≤ i) (h1 : i ≤ 63) (hc : 0 ≤ s) (hc2 : s ≤ 9223372036854775807) :
    Calls Try.prog 63 #[.agg #[.int .i64 i, .bool b], .int .i64 s] w (Ret (.bool (setB s i == b)) w) := by
  have hp : (0 : Int) < 2 ^ i.toNat := Int.pow_pos (by omega)
  have e := and_one_i64 (s / 2 ^ i.toNat) (Int.ediv_nonneg hc (by omega)) (Int.le_trans (Int.ediv_le_self _ hc) hc2)
  have E := Lib.hid e
  clear e hp
  unfold Ret
  go_enter Try.func63, Try.ntmps63
  go_wp2
  go_quiet (fail)
  go_wp2
  go_ret
  refine ⟨?_, ?_⟩
  · simp [E.out, setB]
  · exact ((Below.refl _ _).alloc (Nat.le_refl _) _).dn _

set_option maxHeartbeats 1000000 in
theorem mall_any (ls : List Lit1) (v : Value) (s : Int) (w : World) (hS : Lits w v ls) (hok : LitsOk 12 ls) (hlen : ls.length < 1000) (hc : 0 ≤ s) (hc2 : s < 4096) :
    Calls Try.prog 43 #[v, .int .i64 s] w (Ret (.bool (mHolds s ls)) w) := by
  obtain ⟨a, cap, rfl, -, -⟩ := hS.open
  generalize hn : ls.length = n at *
  have Hn := Lib.hid hn
  have Hok := Lib.hid hok
  clear hn hok
  go_enter Try.func43, Try.ntmps43
  go_wp2
  go_loopw [5] (fun i wr => ∃ k : Nat, k ≤ n ∧ i = .int .i64 k ∧ Below w.heap.size w wr ∧ Hid (∀ l ∈ ls.take k, (setB s l.1 == l.2) = true)) (fun i _ => n - (intOf i).toNat)
  case atStart => exact ⟨0, Nat.zero_le _, rfl, Below.refl _ _, by intro l hl; simp at hl⟩
  case round =>
    obtain ⟨k, hk, rfl, hbw, hpre⟩ := hrel
    by_cases hlt2 : k < n
    · obtain ⟨b, off, l, rfl, hlk, c0, c1⟩ := hS.at hbw hlt2
      have Hlk := Lib.hid hlk
      have hl2 := Hok.out l (List.mem_of_getElem? hlk)
      obtain ⟨hl0, hl1⟩ := hl2
      clear hlk
      cases hh : (setB s l.1 == l.2)
      all_goals
        have Hm := Lib.hid (fun w => mholds_any s l.1 l.2 w (by omega) (by omega) (by omega) (by omega))
        rw [hh] at Hm
        have Hh := Lib.hid hh
        clear hh
        go_wp2_with (go_at_call 63; refine (Hm.out _).mono ?_; rintro e w' ⟨rfl, hb'⟩)
        first
        | (go_ret
           refine ⟨ret_bool ?_, hbw.via hb' hbw.size⟩
           exact (all_false Hlk.out Hh.out).symm)
        | (go_roundw
           case rel => exact ⟨k + 1, by omega, by go_num, hbw.via hb' hbw.size, take_succ_all hpre.out Hlk.out Hh.out⟩
           case measure => simp [intOf]; omega)
    · go_wp2
      go_ret
      refine ⟨ret_bool ?_, hbw⟩
      have : k = n := by omega
      subst this
      exact (all_true hpre.out (by have := Hn.out; omega)).symm

set_option maxHeartbeats 1000000 in
theorem mone_any (ls : List Lit1) (v : Value) (s : Int) (w : World) (hS : Lits w v ls) (hok : LitsOk 12 ls) (hlen : ls.length < 1000) (hc : 0 ≤ s) (hc2 : s < 4096) :
    Calls Try.prog 59 #[v, .int .i64 s] w (Ret (.bool (mSat s ls)) w) := by
  obtain ⟨a, cap, rfl, -, -⟩ := hS.open
  generalize hn : ls.length = n at *
  have Hn := Lib.hid hn
  have Hok := Lib.hid hok
  clear hn hok
  go_enter Try.func59, Try.ntmps59
  go_wp2
  go_loopw [5] (fun i wr => ∃ k : Nat, k ≤ n ∧ i = .int .i64 k ∧ Below w.heap.size w wr ∧ Hid (∀ l ∈ ls.take k, (setB s l.1 == l.2) = false)) (fun i _ => n - (intOf i).toNat)
  case atStart => exact ⟨0, Nat.zero_le _, rfl, Below.refl _ _, by intro l hl; simp at hl⟩
  case round =>
    obtain ⟨k, hk, rfl, hbw, hpre⟩ := hrel
    by_cases hlt2 : k < n
    · obtain ⟨b, off, l, rfl, hlk, c0, c1⟩ := hS.at hbw hlt2
      have Hlk := Lib.hid hlk
      have hl2 := Hok.out l (List.mem_of_getElem? hlk)
      obtain ⟨hl0, hl1⟩ := hl2
      clear hlk
      cases hh : (setB s l.1 == l.2)
      all_goals
        have Hm := Lib.hid (fun w => mholds_any s l.1 l.2 w (by omega) (by omega) (by omega) (by omega))
        rw [hh] at Hm
        have Hh := Lib.hid hh
        clear hh
        go_wp2_with (go_at_call 63; refine (Hm.out _).mono ?_; rintro e w' ⟨rfl, hb'⟩)
        first
        | (go_ret
           refine ⟨ret_bool ?_, hbw.via hb' hbw.size⟩
           exact (any_true Hlk.out Hh.out).symm)
        | (go_roundw
           case rel => exact ⟨k + 1, by omega, by go_num, hbw.via hb' hbw.size, take_succ_all hpre.out Hlk.out Hh.out⟩
           case measure => simp [intOf]; omega)
    · go_wp2
      go_ret
      refine ⟨ret_bool ?_, hbw⟩
      have : k = n := by omega
      subst this
      exact (any_false hpre.out (by have := Hn.out; omega)).symm

set_option maxHeartbeats 1000000 in
theorem broken_any (s : Int) (q0 q1 q2 q3 q4 q5 q6 rv q8 q9 ov : Value) (rs : List Rule1) (outs : List Bool) (w : World) (hR : Rules w rv rs) (hO : Bools w ov outs) (hok : RulesOk 12 rs) (hlo : outs.length = rs.length) (hlen : rs.length < 1000) (hc : 0 ≤ s) (hc2 : s < 4096) :
    Calls Try.prog 32 #[.agg #[q0, q1, q2, q3, q4, q5, q6, rv, q8, q9], ov, .int .i64 s] w (Ret (.int .i64 (mBroken s outs rs)) w) := by
  obtain ⟨a, cap, rfl, -, hcap⟩ := hR.open
  obtain ⟨a2, cap2, rfl, -, hcap2⟩ := hO.open
  unfold maxLen at hcap hcap2
  rw [hlo] at hO ⊢
  generalize hn : rs.length = n at *
  have Hn := Lib.hid hn
  have Hlo := Lib.hid hlo
  have Hok := Lib.hid hok
  clear hn hok hlo
  go_enter Try.func32, Try.ntmps32
  go_wp2
  have hb0 := below1 w (.cells #[q0, q1, q2, q3, q4, q5, q6, .slice a n cap, q8, q9] 41)
  have hq : (w.alloc (.cells #[q0, q1, q2, q3, q4, q5, q6, .slice a n cap, q8, q9] 41)).cell? ⟨w.heap.size, 7, none⟩ = some (.slice a n cap) := by simp
  have hR := hR.mono hb0
  have hO := hO.mono hb0
  generalize w.alloc (.cells #[q0, q1, q2, q3, q4, q5, q6, .slice a n cap, q8, q9] 41) = W at *
  have hBW : w.heap.size < W.heap.size := World.block_lt_of_cell? W _ hq
  go_loopw [7] (fun i wr => ∃ k : Nat, k ≤ n ∧ i = .int .i64 k ∧ Below W.heap.size W wr ∧ Hid (∀ x ∈ (outs.zip rs).take k, (!x.1 && !mSat s x.2.2) = false)) (fun i _ => n - (intOf i).toNat)
  case atStart => exact ⟨0, Nat.zero_le _, rfl, Below.refl _ _, by intro l hl; simp at hl⟩
  case round =>
    obtain ⟨k, hk, rfl, hbw, hpre⟩ := hrel
    have hqr := (hbw.cell (p := ⟨w.heap.size, 7, none⟩) hBW).trans hq
    by_cases hlt2 : k < n
    · obtain ⟨b, off, av, r, rfl, hrk, c0, c1, hL⟩ := hR.at hbw hlt2
      obtain ⟨b', off', o, rfl, hok, d0⟩ := hO.at hbw hlt2
      have Hz : Hid ((outs.zip rs)[k]? = some (o, r)) := by unfold Hid; simp [List.getElem?_zip_eq_some, hok, hrk]
      obtain ⟨hl0, hl1⟩ := Hok.out r (List.mem_of_getElem? hrk)
      have H := Lib.hid (mone_any r.2 av s wr hL hl0 hl1 hc hc2)
      clear hrk hok hl0 hl1 hL hq
      cases o
      · cases hh : mSat s r.2
        all_goals
          rw [hh] at H
          have Hh := Lib.hid hh
          clear hh
          go_wp2_with (go_at_call 59; refine (H.out).mono ?_; rintro e w' ⟨rfl, hb'⟩)
          first
          | (go_ret
             refine ⟨ret_int ?_, hb0.via (hbw.via hb' hbw.size) hb0.size⟩
             exact (ixOf_some hpre.out Hz.out (by simp [Hh.out])).symm)
          | (go_roundw
             case rel => exact ⟨k + 1, by omega, by go_num, hbw.via hb' hbw.size, take_succ_all hpre.out Hz.out (by simp [Hh.out])⟩
             case measure => simp [intOf]; omega)
      · go_wp2
        go_roundw
        case rel => exact ⟨k + 1, by omega, by go_num, hbw, take_succ_all hpre.out Hz.out (by simp)⟩
        case measure => simp [intOf]; omega
    · go_wp2
      go_ret
      refine ⟨ret_int ?_, hb0.via hbw hb0.size⟩
      have : k = n := by omega
      subst this
      exact (ixOf_none (take_all hpre.out (by have := Hn.out; have := Hlo.out; simp; omega))).symm

end Go.Proofs.Ytkphggmbimjhjaa
