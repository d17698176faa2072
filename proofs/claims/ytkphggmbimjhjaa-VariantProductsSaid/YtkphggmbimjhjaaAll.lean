/-
  The model: none, names, allowed.
-/
import Derived.Test.YtkphggmbimjhjaaMod
import Derived.Test.YtkphggmbimjhjaaSets
namespace Go.Proofs.Ytkphggmbimjhjaa
open Go.RowKit

set_option maxHeartbeats 1000000 in
theorem none_any (q0 q1 q2 q3 q4 q5 q6 q8 q9 : Value) (a : Option Addr) (n cap : Nat) (w : World) (hlen : n < 1000) :
    Calls Try.prog 18 #[.agg #[q0, q1, q2, q3, q4, q5, q6, .slice a n cap, q8, q9]] w (RetP (fun v w' => Bools w' v (List.replicate n false)) w) := by
  have hi : (Try.prog.info? 4).map (fun i => (i.zero, i.size, i.bytes)) = some (some (.bool false), 1, 1) := by kernel_rfl
  obtain ⟨i4, hi4, hz0, hz1, hz2⟩ := info_parts hi
  clear hi
  go_enter Try.func18, Try.ntmps18
  go_wp2_with (at_make; refine wpList_make_full _ rfl (.tmp 5) (.tmp 5) 52 rfl (w.heap.size) 4 i4 (.bool false) 1 Try.underlying52 hi4 hz0 hz1 .i64 .i64 n n n rfl rfl rfl rfl (by rw [hz2]; omega) (by unfold maxLen; omega) (by simp) ?_; intro w1 hown hg)
  go_ret
  refine ⟨_, rfl, ?_, ((below1 w _).grown hg (by simp) (by simp))⟩
  have := Sl.own1 hown
  have e : (madeCells (Value.bool false).cells (n * 1)).toList = (List.replicate n false).map Value.bool := by
    simp only [madeCells, Value.cells, Nat.mul_one, List.map_replicate]
    apply List.ext_getElem <;> simp
    intro i hi
    simp [Nat.mod_one]
  rw [e] at this
  simpa [Bools] using this

set_option maxHeartbeats 1000000 in
theorem names20 (s : Int) (q0 q1 q2 q3 q4 q5 ov q7 q8 q9 : Value) (ss : List ByteArray) (w : World) (hS : Strs w ov ss) (hlen : ss.length ≤ 12) (hc : 0 ≤ s) (hc2 : s < 4096) :
    Calls Try.prog 20 #[.agg #[q0, q1, q2, q3, q4, q5, ov, q7, q8, q9], .int .i64 s] w (RetP (fun v w' => Strs w' v (sel (fun i => setB s i) ss)) w) := by
  obtain ⟨a, cp, rfl, -, -⟩ := hS.open
  generalize hn : ss.length = n at *
  have Hn := Lib.hid hn
  clear hn
  go_enter Try.func20, Try.ntmps20
  go_wp2
  have hb0 := below1 w (.cells #[q0, q1, q2, q3, q4, q5, .slice a n cp, q7, q8, q9] 41)
  have hq : (w.alloc (.cells #[q0, q1, q2, q3, q4, q5, .slice a n cp, q7, q8, q9] 41)).cell? ⟨w.heap.size, 6, none⟩ = some (.slice a n cp) := by simp
  have hS := hS.mono hb0
  generalize w.alloc (.cells #[q0, q1, q2, q3, q4, q5, .slice a n cp, q7, q8, q9] 41) = W at *
  have hBW : w.heap.size < W.heap.size := World.block_lt_of_cell? W _ hq
  go_loopw [5, 6] (fun v i wr => ∃ k : Nat, k ≤ n ∧ i = .int .i64 k ∧ Below W.heap.size W wr ∧ wr.ownsRow W.heap.size 9 1 v (sel (fun i => setB s i) (ss.take k)).length ((sel (fun i => setB s i) (ss.take k)).map Value.string)) (fun _ i _ => n - (intOf i).toNat)
  case atStart => exact ⟨0, Nat.zero_le _, rfl, Below.refl _ _, World.ownsRow_nil _ _ _ _⟩
  case round =>
    obtain ⟨k, hk, rfl, hbw, hown⟩ := hrel
    have hqr := (hbw.cell (p := ⟨w.heap.size, 6, none⟩) hBW).trans hq
    by_cases hlt2 : k < n
    · obtain ⟨b, off, x, rfl, hsk, c0⟩ := hS.at hbw hlt2
      have Hs := Lib.hid (sel_take_succ (fun i => setB s i) hsk)
      have hsl := sel_take_len (fun i => setB s i) ss k
      clear hsk hq
      have hp : (0 : Int) < 2 ^ k := Int.pow_pos (by omega)
      have e := and_one_i64 (s / 2 ^ k) (Int.ediv_nonneg hc (by omega)) (Int.le_trans (Int.ediv_le_self _ hc) (by omega))
      have es : setB s k = (s / 2 ^ k % 2 == 1) := rfl
      cases hh : setB s k
      · have ef : (bits .and .i64 (s / 2 ^ k) 1 == 1) = false := by rw [e, ← es, hh]
        clear e es hp
        go_wp2
        go_roundw
        case rel => exact ⟨k + 1, by omega, by go_num, hbw, by rw [Hs.out, hh]; simpa using hown⟩
        case measure => simp [intOf]; omega
      · have ef : (bits .and .i64 (s / 2 ^ k) 1 == 1) = true := by rw [e, ← es, hh]
        clear e es hp
        go_wp2_with (at_builtin; refine wpApp E36 (by decide) [.string x] rfl _ _ rfl W.heap.size _ _ _ rfl rfl hown rfl (one1 _ rfl) (by omega) (by decide) hbw.size ?_; intro v' w1 hown' hg'; have hbw3 := below_app hbw hown hg' hbw.size)
        go_roundw
        case rel => exact ⟨k + 1, by omega, by go_num, hbw3, by rw [Hs.out, hh]; simpa using hown'⟩
        case measure => simp [intOf]; omega
    · go_wp2
      go_ret
      have : k = n := by omega
      subst this
      refine ⟨_, rfl, ?_, hb0.via hbw hb0.size⟩
      have := Sl.own1 hown
      rwa [List.take_of_length_le (by have := Hn.out; omega)] at this

set_option maxHeartbeats 2000000 in
theorem allowed_any (q0 q1 q2 q3 q4 q5 q6 rv q8 q9 ov cv : Value) (a6 : Option Addr) (n cap6 : Nat) (rs : List Rule1) (outs : List Bool) (ch : List Lit1) (w : World) (h6 : q6 = .slice a6 n cap6) (hn : n ≤ 6)
    (hR : Rules w rv rs) (hO : Bools w ov outs) (hC : Lits w cv ch) (hok : RulesOk 12 rs) (hch : LitsOk 12 ch) (hcl : ch.length < 1000) (hlo : outs.length = rs.length) (hlen : rs.length < 1000) :
    Calls Try.prog 17 #[.agg #[q0, q1, q2, q3, q4, q5, q6, rv, q8, q9], ov, cv] w (RetP (fun v w' => Ints w' v (allowedL n outs rs ch)) w) := by
  subst h6
  have hb0 := below1 w (.cells #[q0, q1, q2, q3, q4, q5, .slice a6 n cap6, rv, q8, q9] 41)
  have Hs := Lib.hid (sets_any n (w.alloc (.cells #[q0, q1, q2, q3, q4, q5, .slice a6 n cap6, rv, q8, q9] 41)) hn)
  go_enter Try.func17, Try.ntmps17
  go_wp2_with (go_at_call 33; refine (Hs.out).mono ?_; rintro e w' ⟨sv, rfl, hSv, hb'⟩)
  obtain ⟨asv, cps, rfl, -, -⟩ := hSv.open
  have hsl := setsL_len n
  have hpn : 2 ^ n ≤ 64 := Nat.le_trans (Nat.pow_le_pow_right (by omega) hn) (Nat.le_of_eq rfl)
  have Hmem := Lib.hid (fun s (h : s ∈ setsL n) => setsL_mem h)
  have Hpn : Hid ((2 : Int) ^ n ≤ 64) := by
    unfold Hid; exact_mod_cast hpn
  generalize hm : (setsL n).length = m at *
  have hm64 : m ≤ 64 := by omega
  have Hm := Lib.hid hm
  clear hsl hm hpn
  have hbx := box10 (hb'.mono (by simp))
  have hbW := hb0.via hb' (by simp)
  have hR := hR.mono hbW
  have hO := hO.mono hbW
  have hC := hC.mono hbW
  clear hb' Hs hb0
  go_loopw [7, 9] (fun v i wr => ∃ k : Nat, k ≤ m ∧ i = .int .i64 k ∧ Below w'.heap.size w' wr ∧ wr.ownsRow w'.heap.size 3 1 v (((setsL n).take k).filter (okSet outs rs ch)).length ((((setsL n).take k).filter (okSet outs rs ch)).map (Value.int .i64))) (fun _ i _ => m - (intOf i).toNat)
  case atStart => exact ⟨0, Nat.zero_le _, rfl, Below.refl _ _, World.ownsRow_nil _ _ _ _⟩
  case round =>
    obtain ⟨k, hk, rfl, hbw, hown⟩ := hrel
    by_cases hlt2 : k < m
    · obtain ⟨b, off, s, rfl, hsk, c0⟩ := hSv.at hbw hlt2
      have Hf := Lib.hid (filter_take_succ (okSet outs rs ch) hsk)
      have hfl := filter_take_len (okSet outs rs ch) (setsL n) k
      obtain ⟨hs0, hs1⟩ := Hmem.out s (List.mem_of_getElem? hsk)
      have hs2 : s < 4096 := by have := Hpn.out; omega
      clear hsk hs1
      obtain ⟨hB, g0, g1, g2, g3, g4, g5, g6, g7, g8, g9⟩ := hbx
      have f0 := (hbw.cell (p := ⟨w.heap.size, 0, none⟩) hB).trans g0
      have f1 := (hbw.cell (p := ⟨w.heap.size, 1, none⟩) hB).trans g1
      have f2 := (hbw.cell (p := ⟨w.heap.size, 2, none⟩) hB).trans g2
      have f3 := (hbw.cell (p := ⟨w.heap.size, 3, none⟩) hB).trans g3
      have f4 := (hbw.cell (p := ⟨w.heap.size, 4, none⟩) hB).trans g4
      have f5 := (hbw.cell (p := ⟨w.heap.size, 5, none⟩) hB).trans g5
      have f6 := (hbw.cell (p := ⟨w.heap.size, 6, none⟩) hB).trans g6
      have f7 := (hbw.cell (p := ⟨w.heap.size, 7, none⟩) hB).trans g7
      have f8 := (hbw.cell (p := ⟨w.heap.size, 8, none⟩) hB).trans g8
      have f9 := (hbw.cell (p := ⟨w.heap.size, 9, none⟩) hB).trans g9
      clear g0 g1 g2 g3 g4 g5 g6 g7 g8 g9
      have hB2 := Nat.lt_of_lt_of_le hB hbw.size
      have hbl : b < wr.heap.size := World.block_lt_of_cell? _ _ c0
      have Ha : Hid (∀ w2, Below wr.heap.size wr w2 → Calls Try.prog 43 #[cv, .int .i64 s] w2 (Ret (.bool (mHolds s ch)) w2)) := fun w2 h2 => mall_any ch cv s w2 ((hC.mono hbw).mono h2) hch hcl hs0 hs2
      have Hb : Hid (∀ w2, Below wr.heap.size wr w2 → Calls Try.prog 32 #[.agg #[q0, q1, q2, q3, q4, q5, .slice a6 n cap6, rv, q8, q9], ov, .int .i64 s] w2 (Ret (.int .i64 (mBroken s outs rs)) w2)) := fun w2 h2 => broken_any s _ _ _ _ _ _ _ rv _ _ ov rs outs w2 ((hR.mono hbw).mono h2) ((hO.mono hbw).mono h2) hok hlo hlen hs0 hs2
      have Hq : Hid (okSet outs rs ch s = (mHolds s ch && decide (mBroken s outs rs < 0))) := rfl
      cases hh : mHolds s ch
      · rw [hh] at Ha Hq
        clear hh
        go_wp2
        refine wp_region_wld (by kernel_rfl) (by kernel_rfl) ?_
        have hw := @wld_cell wr
        repeat (go_big_quiet_step (first | (go_at_call 43; exact wld_call (Ha.out _ (Wld.below _))) | (go_at_call 32; exact wld_call (Hb.out _ (Wld.below _)))))
        refine wpQuiet_nil ?_
        intro _ hw'
        obtain ⟨x, hx⟩ := hw'
        subst hx
        clear hw
        go_wp2
        go_roundw
        case rel => exact ⟨k + 1, by omega, by go_num, hbw.via x.below hbw.size, by rw [Hf.out, Hq.out]; simpa using own_below hown x.below⟩
        case measure => simp [intOf]; omega
      · rw [hh] at Ha Hq
        clear hh
        by_cases hneg : mBroken s outs rs < 0
        · have Hn := Lib.hid (show okSet outs rs ch s = true by rw [Hq.out]; simp [hneg])
          go_wp2
          refine wp_region_wld (by kernel_rfl) (by kernel_rfl) ?_
          have hw := @wld_cell wr
          repeat (go_big_quiet_step (first | (go_at_call 43; exact wld_call (Ha.out _ (Wld.below _))) | (go_at_call 32; exact wld_call (Hb.out _ (Wld.below _)))))
          refine wpQuiet_nil ?_
          intro _ hw'
          obtain ⟨x, hx⟩ := hw'
          subst hx
          clear hw
          have hown2 := own_below hown x.below
          have hbw2 := hbw.via x.below hbw.size
          have e0 : x.w.cell? ⟨b, off + k, none⟩ = some (.int .i64 s) := (x.below.cell (p := ⟨b, _, none⟩) hbl).trans c0
          go_wp2_with (at_builtin; refine wpApp E50 (by decide) [.int .i64 s] rfl _ _ rfl w'.heap.size _ _ _ rfl rfl hown2 rfl (one1 _ rfl) (by omega) (by decide) hbw2.size ?_; intro v' w1 hown' hg'; have hbw3 := below_app hbw2 hown2 hg' hbw2.size)
          go_roundw
          case rel => exact ⟨k + 1, by omega, by go_num, hbw3, by rw [Hf.out, Hn.out]; simpa using hown'⟩
          case measure => simp [intOf]; omega
        · have Hn := Lib.hid (show okSet outs rs ch s = false by rw [Hq.out]; simp only [Bool.true_and, decide_eq_false_iff_not]; exact hneg)
          go_wp2
          refine wp_region_wld (by kernel_rfl) (by kernel_rfl) ?_
          have hw := @wld_cell wr
          repeat (go_big_quiet_step (first | (go_at_call 43; exact wld_call (Ha.out _ (Wld.below _))) | (go_at_call 32; exact wld_call (Hb.out _ (Wld.below _)))))
          refine wpQuiet_nil ?_
          intro _ hw'
          obtain ⟨x, hx⟩ := hw'
          subst hx
          clear hw
          have hown2 := own_below hown x.below
          have hbw2 := hbw.via x.below hbw.size
          go_wp2
          go_roundw
          case rel => exact ⟨k + 1, by omega, by go_num, hbw2, by rw [Hf.out, Hn.out]; simpa using hown2⟩
          case measure => simp [intOf]; omega
    · go_wp2
      go_ret
      have : k = m := by omega
      subst this
      refine ⟨_, rfl, ?_, hbW.via hbw hbW.size⟩
      have := Sl.own1 hown
      rwa [List.take_of_length_le (by have := Hm.out; omega)] at this

end Go.Proofs.Ytkphggmbimjhjaa
