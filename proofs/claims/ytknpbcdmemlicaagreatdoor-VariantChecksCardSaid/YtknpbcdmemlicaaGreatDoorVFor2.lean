/-
  Forced.
-/
import Derived.Test.YtknpbcdmemlicaaGreatDoorVFor
import Derived.Test.YtknpbcdmemlicaaGreatDoorVCfg
import Derived.Test.YtknpbcdmemlicaaGreatDoorVCf2
import Derived.Test.YtknpbcdmemlicaaGreatDoorVFst2
import Derived.Test.YtknpbcdmemlicaaGreatDoorVDec
namespace Go.Proofs.YtknpbcdmemlicaaGreatDoor
open Go.RowKit

set_option maxHeartbeats 1000000 in
theorem forced_bad (q1 q2 q3 q4 q5 q6 q7 q8 q9 q10 cv : Value) (opts : List ByteArray) (rs : List Rule1) (gs : List Guard1) (os : List Ov1) (mI : Nat) (ds : List Dim1) (ch : List Lit1) (w : World) (e : Int)
    (hF : Fam w q1 q2 q3 q4 q5 q6 q7 q8 q9 q10 opts rs gs os mI ds) (hC : Lits w cv ch) (hcl : ch.length < 1000) (he : litErr opts.length ch = e) (hne : e ≠ 0) :
    Calls Tryz.prog 10 #[.agg #[q1, q2, q3, q4, q5, q6, q7, q8, q9, q10], cv] w (Ret (.tuple #[.slice none 0 0, .int .i64 e]) w) := by
  have hb0 := below1 w (.cells #[q1, q2, q3, q4, q5, q6, q7, q8, q9, q10] 36)
  have H1 := Lib.hid (asked_any q1 q2 q3 q4 q5 q6 q7 q8 q9 q10 cv opts rs gs os mI ds ch _ (hF.mono hb0) (hC.mono hb0) hcl)
  rw [he] at H1
  have hne' : (e != 0) = true := by simpa using hne
  clear hF hC he hne
  go_enter Tryz.func10, Tryz.ntmps10
  go_wp2_with (go_at_call 29; refine (H1.out).mono ?_; rintro e w1 ⟨rfl, hb1⟩)
  go_ret2
  exact Ret.mk (hb0.via hb1 hb0.size)

theorem ForI.start (w : World) : ForI w.heap.size [] (((((w.alloc (.cells #[.int .u64 0] 88)).alloc (.cells #[.int .u64 18446744073709551615] 88))).alloc (.cells #[.bool false] 4))) := by
  refine ⟨?_, ?_, ?_⟩
  · exact ((Box.new w 88 (.int .u64 0)).old _).old _
  · show Box _ _ _ (.int .u64 18446744073709551615); have := (Box.new (w.alloc (.cells #[.int .u64 0] 88)) 88 (.int .u64 18446744073709551615)).old (.cells #[.bool false] 4); simpa using this
  · show Box _ _ _ (.bool false); have := Box.new ((w.alloc (.cells #[.int .u64 0] 88)).alloc (.cells #[.int .u64 18446744073709551615] 88)) 4 (.bool false); simpa using this

set_option maxHeartbeats 2000000 in
theorem forced_inf (q1 q2 q3 q4 q5 q6 q7 q8 q9 q10 cv : Value) (opts : List ByteArray) (rs : List Rule1) (gs : List Guard1) (os : List Ov1) (mI : Nat) (ds : List Dim1) (ch : List Lit1) (w : World)
    (hF : Fam w q1 q2 q3 q4 q5 q6 q7 q8 q9 q10 opts rs gs os mI ds) (hn : opts.length ≤ 6) (hC : Lits w cv ch) (hcl : ch.length < 1000) (he : litErr opts.length ch = 0) (hv : (visL opts.length ch rs).isEmpty = true) :
    Calls Tryz.prog 10 #[.agg #[q1, q2, q3, q4, q5, q6, q7, q8, q9, q10], cv] w (Ret (.tuple #[.slice none 0 0, .int .i64 21]) w) := by
  have hb0 := below1 w (.cells #[q1, q2, q3, q4, q5, q6, q7, q8, q9, q10] 36)
  have H1 := Lib.hid (asked_any q1 q2 q3 q4 q5 q6 q7 q8 q9 q10 cv opts rs gs os mI ds ch _ (hF.mono hb0) (hC.mono hb0) hcl)
  rw [he] at H1
  have hrok := rulesOk_of hF.ok
  have hr48 := hF.ok.rs48
  have hlok := (litErr_ok he).le (show (opts.length : Int) ≤ 12 by omega)
  obtain ⟨ao, po, hq7, -, -⟩ := hF.opt.open
  subst hq7
  have hR := hF.rul
  generalize hn0 : opts.length = n at *
  have Hv : Hid (∀ w1, Below (w.heap.size + 1) (w.alloc (.cells #[q1, q2, q3, q4, q5, q6, .slice ao n po, q8, q9, q10] 36)) w1 → Calls Tryz.prog 30 #[.agg #[q1, q2, q3, q4, q5, q6, .slice ao n po, q8, q9, q10], cv, q8, .func (.func 34) #[] #[.pointer (some ⟨w1.heap.size, 0, none⟩), .pointer (some ⟨w1.heap.size + 1, 0, none⟩), .pointer (some ⟨w1.heap.size + 2, 0, none⟩)]]
      ((((w1.alloc (.cells #[.int .u64 0] 88)).alloc (.cells #[.int .u64 18446744073709551615] 88))).alloc (.cells #[.bool false] 4))
      (fun e w' => e = .returned (.tuple #[]) ∧ Below (w.heap.size + 1) (w.alloc (.cells #[q1, q2, q3, q4, q5, q6, .slice ao n po, q8, q9, q10] 36)) w' ∧ w1.heap.size + 3 ≤ w'.heap.size ∧ ForI w1.heap.size (visL n ch rs) w')) := by
    intro w1 hA
    have e0 : (w.alloc (.cells #[q1, q2, q3, q4, q5, q6, .slice ao n po, q8, q9, q10] 36)).heap.size = w.heap.size + 1 := by simp
    have hsz := hA.size
    have h3 := below3 w1 (.cells #[.int .u64 0] 88) (.cells #[.int .u64 18446744073709551615] 88) (.cells #[.bool false] 4)
    have hA3 := hA.via h3 (by omega)
    have := forced_visit q1 q2 q3 q4 q5 q6 q8 q9 q10 cv ao n po ch rs w1.heap.size (w.alloc (.cells #[q1, q2, q3, q4, q5, q6, .slice ao n po, q8, q9, q10] 36)) _
      hn (hC.mono hb0) (hR.mono hb0) hrok hlok hcl (by omega) hsz (by rw [e0]; exact hA3) (by simp) (ForI.start w1)
    refine this.mono fun e w' ⟨h1, h2, h4⟩ => ⟨h1, ?_, ?_, h4⟩
    · rw [e0] at h2
      exact h2.below hA3 (by simp; omega)
    · have := h2.size
      simpa using this
  clear hF hC he hR hrok hlok
  have Hvis := Lib.hid hv
  clear hv
  go_enter Tryz.func10, Tryz.ntmps10
  go_wp2_with (first | (go_at_call 29; refine (H1.out).mono ?_; rintro e w1 ⟨rfl, hb1⟩; have hb1 := hb1.mono (show w.heap.size + 1 ≤ _ by simp); obtain ⟨f, f0, f1, f2, f3, f4, f5, f6, f7, f8, f9⟩ := box10 hb1; have fA : w.heap.size < w1.heap.size + 1 := Nat.lt_succ_of_lt f; have fB : w.heap.size < w1.heap.size + 1 + 1 := Nat.lt_succ_of_lt fA) | (go_at_call 30; refine (Hv.out _ hb1).mono ?_; rintro e w2 ⟨rfl, hb2, hs2, hI⟩; have g1 := cell_of_one hI.1; have g2 := cell_of_one hI.2.1; have g3 := cell_of_one hI.2.2; rw [Hvis.out] at g3))
  go_ret2
  exact Ret.mk ((below1 w _).trans (hb2.mono (by simp)))

set_option maxHeartbeats 2000000 in
theorem forced_ok (q1 q2 q3 q4 q5 q6 q7 q8 q9 q10 cv : Value) (opts : List ByteArray) (rs : List Rule1) (gs : List Guard1) (os : List Ov1) (mI : Nat) (ds : List Dim1) (ch : List Lit1) (w : World)
    (hF : Fam w q1 q2 q3 q4 q5 q6 q7 q8 q9 q10 opts rs gs os mI ds) (hn : opts.length ≤ 6) (hC : Lits w cv ch) (hcl : ch.length < 1000) (he : litErr opts.length ch = 0) (hv : (visL opts.length ch rs).isEmpty = false) :
    Calls Tryz.prog 10 #[.agg #[q1, q2, q3, q4, q5, q6, q7, q8, q9, q10], cv] w (fun e w' => ∃ v, e = .returned (.tuple #[v, .int .i64 0]) ∧ Lits w' v (forcedTo (visL opts.length ch rs) opts.length) ∧ Below w.heap.size w w') := by
  have hb0 := below1 w (.cells #[q1, q2, q3, q4, q5, q6, q7, q8, q9, q10] 36)
  have H1 := Lib.hid (asked_any q1 q2 q3 q4 q5 q6 q7 q8 q9 q10 cv opts rs gs os mI ds ch _ (hF.mono hb0) (hC.mono hb0) hcl)
  rw [he] at H1
  have hrok := rulesOk_of hF.ok
  have hr48 := hF.ok.rs48
  have hlok := (litErr_ok he).le (show (opts.length : Int) ≤ 12 by omega)
  obtain ⟨ao, po, hq7, -, hpo⟩ := hF.opt.open
  subst hq7
  have hR := hF.rul
  generalize hn0 : opts.length = n at *
  have Hv : Hid (∀ w1, Below (w.heap.size + 1) (w.alloc (.cells #[q1, q2, q3, q4, q5, q6, .slice ao n po, q8, q9, q10] 36)) w1 → Calls Tryz.prog 30 #[.agg #[q1, q2, q3, q4, q5, q6, .slice ao n po, q8, q9, q10], cv, q8, .func (.func 34) #[] #[.pointer (some ⟨w1.heap.size, 0, none⟩), .pointer (some ⟨w1.heap.size + 1, 0, none⟩), .pointer (some ⟨w1.heap.size + 2, 0, none⟩)]]
      ((((w1.alloc (.cells #[.int .u64 0] 88)).alloc (.cells #[.int .u64 18446744073709551615] 88))).alloc (.cells #[.bool false] 4))
      (fun e w' => e = .returned (.tuple #[]) ∧ Below (w.heap.size + 1) (w.alloc (.cells #[q1, q2, q3, q4, q5, q6, .slice ao n po, q8, q9, q10] 36)) w' ∧ w1.heap.size + 3 ≤ w'.heap.size ∧ ForI w1.heap.size (visL n ch rs) w')) := by
    intro w1 hA
    have e0 : (w.alloc (.cells #[q1, q2, q3, q4, q5, q6, .slice ao n po, q8, q9, q10] 36)).heap.size = w.heap.size + 1 := by simp
    have hsz := hA.size
    have h3 := below3 w1 (.cells #[.int .u64 0] 88) (.cells #[.int .u64 18446744073709551615] 88) (.cells #[.bool false] 4)
    have hA3 := hA.via h3 (by omega)
    have := forced_visit q1 q2 q3 q4 q5 q6 q8 q9 q10 cv ao n po ch rs w1.heap.size (w.alloc (.cells #[q1, q2, q3, q4, q5, q6, .slice ao n po, q8, q9, q10] 36)) _
      hn (hC.mono hb0) (hR.mono hb0) hrok hlok hcl (by omega) hsz (by rw [e0]; exact hA3) (by simp) (ForI.start w1)
    refine this.mono fun e w' ⟨h1, h2, h4⟩ => ⟨h1, ?_, ?_, h4⟩
    · rw [e0] at h2
      exact h2.below hA3 (by simp; omega)
    · have := h2.size
      simpa using this
  have hmem : ∀ c ∈ visL n ch rs, 0 ≤ c ∧ c < 4096 := fun c hc => visL_head_mem (by omega) hc
  obtain ⟨hx0, hx1, hx2⟩ := someL_bit hmem
  obtain ⟨hy0, hy1, hy2⟩ := everyL_bit hmem
  clear hF hC he hR hrok hlok hmem
  have Hvis := Lib.hid hv
  clear hv
  generalize hxs : visL n ch rs = xs at *
  generalize hX : someL xs = X at *
  generalize hY : everyL xs = Y at *
  have HX := Lib.hid hX
  have HY := Lib.hid hY
  have HX2 := Lib.hid hx2
  have HY2 := Lib.hid hy2
  clear hX hY hxs hx2 hy2
  go_enter Tryz.func10, Tryz.ntmps10
  go_wp2_with (first | (go_at_call 29; refine (H1.out).mono ?_; rintro e w1 ⟨rfl, hb1⟩; have hb1 := hb1.mono (show w.heap.size + 1 ≤ _ by simp); have hs1 := hb1.size; obtain ⟨f, f0, f1, f2, f3, f4, f5, f6, f7, f8, f9⟩ := box10 hb1; have fA : w.heap.size < w1.heap.size + 1 := Nat.lt_succ_of_lt f; have fB : w.heap.size < w1.heap.size + 1 + 1 := Nat.lt_succ_of_lt fA) | (go_at_call 30; refine (Hv.out _ hb1).mono ?_; rintro e w2 ⟨rfl, hb2, hs2, hI⟩; have g1 := cell_of_one hI.1; have g2 := cell_of_one hI.2.1; have g3 := cell_of_one hI.2.2; rw [Hvis.out] at g3; rw [HX.out] at g1; rw [HY.out] at g2; have fb := box10 hb2))
  clear f0 f1 f2 f3 f4 f5 f6 f7 f8 f9
  obtain ⟨f, f0, f1, f2, f3, f4, f5, f6, f7, f8, f9⟩ := fb
  clear hI g3 H1 Hv
  generalize hA : w1.heap.size = A at *
  go_loopw [10, 29] (fun v i wr => ∃ k : Nat, k ≤ n ∧ i = .int .i64 k ∧ Below w2.heap.size w2 wr ∧ wr.ownsRow w2.heap.size 73 2 v (forcedTo xs k).length (((forcedTo xs k).map litV).flatMap c2)) (fun _ i _ => n - (intOf i).toNat)
  case atStart => exact ⟨0, Nat.zero_le _, rfl, Below.refl _ _, World.ownsRow_nil _ _ _ _⟩
  case round =>
    obtain ⟨k, hk, rfl, hbw, hown⟩ := hrel
    by_cases hlt2 : k < n
    · have a1 : A < wr.heap.size := by have := hbw.size; omega
      have a2 : A + 1 < wr.heap.size := by have := hbw.size; omega
      have d1 : wr.cell? ⟨A, 0, none⟩ = some (.int .u64 X) := (hbw.cell (p := ⟨A, 0, none⟩) (show A < w2.heap.size by omega)).trans g1
      have d2 : wr.cell? ⟨A + 1, 0, none⟩ = some (.int .u64 Y) := (hbw.cell (p := ⟨A + 1, 0, none⟩) (show A + 1 < w2.heap.size by omega)).trans g2
      have hfl := forcedTo_len xs k
      have On : Hid (∀ c : Int, 0 ≤ c → c < 18446744073709551616 → ∀ w3, Calls Tryz.prog 35 #[.int .u64 c, .int .i64 (k : Int)] w3 (Ret (.bool (bitB c k)) w3)) := fun c h0 h1 w3 => on_any c k w3 (by omega) (by omega) h0 h1
      have Hq : Hid (forcedTo xs (k + 1) = forcedTo xs k ++ (if bitB X k == bitB Y k then [((k : Int), bitB Y k)] else [])) := by
        rw [HX2.out, HY2.out k (by omega) (by omega)]; rfl
      go_wp2
      refine wp_region_wld (by kernel_rfl) (by kernel_rfl) ?_
      have hw := @wld_cell wr
      repeat (go_big_quiet_step ((go_at_call 35; exact wld_call (On.out _ (by assumption) (by assumption) _))))
      refine wpQuiet_nil ?_
      intro _ hw'
      obtain ⟨x, hx⟩ := hw'
      subst hx
      clear hw
      have hown2 := own_below hown x.below
      have hbw2 := hbw.via x.below hbw.size
      have e2 : x.w.cell? ⟨A + 1, 0, none⟩ = some (.int .u64 Y) := (x.below.cell (p := ⟨A + 1, 0, none⟩) a2).trans d2
      cases hbb : (bitB X k == bitB Y k)
      · rw [hbb] at Hq
        clear hbb
        go_wp2
        go_roundw
        case rel => exact ⟨k + 1, by omega, by go_num, hbw2, by rw [Hq.out]; simpa using hown2⟩
        case measure => simp [intOf]; omega
      · rw [hbb] at Hq
        clear hbb
        go_wp2_with (first | (go_at_call 35; refine (On.out _ hy0 hy1 _).mono ?_; rintro e w3 ⟨rfl, hb3⟩; have hown3 := own_below hown2 hb3; have hbw3 := hbw2.via hb3 hbw2.size) | (at_builtin; refine wpApp E25 (by decide) [.int .i64 (k : Int), .bool (bitB Y k)] rfl _ _ rfl w2.heap.size _ _ _ rfl rfl hown3 rfl (one2 _ _ rfl rfl) (by omega) (by decide) hbw3.size ?_; intro v' w4 hown' hg'; have hbw4 := below_app hbw3 hown3 hg' hbw3.size))
        go_roundw
        case rel => exact ⟨k + 1, by omega, by go_num, hbw4, by rw [Hq.out]; simpa [List.flatMap_append, YtknpbcdmemlicaaGreatDoor.c2, litV] using hown'⟩
        case measure => simp [intOf]; omega
    · go_wp2
      go_ret2
      have : k = n := by omega
      subst this
      exact ⟨_, rfl, Sl.own2 hown, ((below1 w _).trans (hb2.mono (by simp))).via hbw (by omega)⟩

end Go.Proofs.YtknpbcdmemlicaaGreatDoor
