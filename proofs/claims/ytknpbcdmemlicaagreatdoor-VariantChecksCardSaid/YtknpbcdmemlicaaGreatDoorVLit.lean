/-
  Errors of a list of literals.
-/
import Derived.Test.YtknpbcdmemlicaaGreatDoorVBase
namespace Go.Proofs.YtknpbcdmemlicaaGreatDoor
open Go.RowKit

set_option maxHeartbeats 1000000 in
theorem literals_g (n : Int) (ls : List Lit1) (v : Value) (w : World) (hS : Lits w v ls) :
    Calls Tryz.prog 23 #[.int .i64 n, v] w (Ret (.int .i64 (litErr n ls)) w) := by
  obtain ⟨a, cap, rfl, hle, hmc⟩ := hS.open
  have hmx := Nat.le_trans hle hmc
  unfold maxLen at hmx
  clear hle hmc
  generalize hm : ls.length = m at *
  have Hm := Lib.hid hm
  clear hm
  go_enter Tryz.func23, Tryz.ntmps23
  go_wp2
  go_loopw [5] (fun i wr => ∃ k : Nat, k ≤ m ∧ i = .int .i64 k ∧ Below w.heap.size w wr ∧ Hid (litErrFrom n (prevOf ls k) (ls.drop k) = litErr n ls)) (fun i _ => m - (intOf i).toNat)
  case atStart => exact ⟨0, Nat.zero_le _, rfl, Below.refl _ _, rfl⟩
  case round =>
    obtain ⟨k, hk, rfl, hbw, hpre⟩ := hrel
    by_cases hlt2 : k < m
    · obtain ⟨b, off, l, rfl, hlk, c0, c1⟩ := hS.at hbw hlt2
      have Hlk := Lib.hid hlk
      clear hlk
      by_cases hr0 : l.1 < 0
      · go_wp2
        go_ret
        refine ⟨ret_int (litErr_10 Hlk.out (.inl hr0) hpre.out).symm, ?_⟩
        exact hbw
      · by_cases hr1 : n ≤ l.1
        · go_wp2
          go_ret
          refine ⟨ret_int (litErr_10 Hlk.out (.inr hr1) hpre.out).symm, ?_⟩
          exact hbw
        · rcases k with _ | j
          · simp only [Nat.zero_mul, Nat.add_zero] at c0 c1
            go_wp2
            go_quiet (fail)
            go_wp2
            go_roundw
            case rel => exact ⟨1, by omega, rfl, hbw.dn _, litErr_step Hlk.out (by omega) rfl hpre.out⟩
            case measure => simp [intOf]; omega
          · obtain ⟨b', off', l', hq, hlk', d0, d1⟩ := hS.at hbw (show j < m by omega)
            obtain ⟨rfl, rfl⟩ : b = b' ∧ off = off' := by simpa using hq
            clear hq
            have Hlk' := Lib.hid hlk'
            clear hlk'
            have e1 : ((((j + 1 : Nat) : Int) - 1)) = (j : Int) := by omega
            by_cases hr2 : l.1 ≤ l'.1
            · go_wp2
              go_quiet (fail)
              go_wp2
              go_ret
              refine ⟨ret_int (litErr_8 Hlk.out (by omega) (by simp [prevOf, Hlk'.out, hr2]) hpre.out).symm, ?_⟩
              exact hbw.dn _
            · go_wp2
              go_quiet (fail)
              go_wp2
              go_roundw
              case rel => exact ⟨j + 1 + 1, by omega, by go_num, hbw.dn _, litErr_step Hlk.out (by omega) (by simp [prevOf, Hlk'.out]; omega) hpre.out⟩
              case measure => simp [intOf]; omega
    · go_wp2
      go_ret
      exact ⟨ret_int (litErr_0 (by have := Hm.out; omega) hpre.out).symm, hbw⟩

set_option maxHeartbeats 1000000 in
theorem check61g (n : Int) (ls : List Lit1) (v : Value) (w : World) (hS : Lits w v ls) :
    Calls Tryz.prog 26 #[v, .int .i64 n] w (Ret (.int .i64 (litErr n ls)) w) := by
  obtain ⟨a, cap, rfl, hle, hmc⟩ := hS.open
  have hmx := Nat.le_trans hle hmc
  unfold maxLen at hmx
  clear hle hmc
  generalize hm : ls.length = m at *
  have Hm := Lib.hid hm
  clear hm
  go_enter Tryz.func26, Tryz.ntmps26
  go_wp2
  go_loopw [9] (fun i wr => ∃ k : Nat, k ≤ m ∧ i = .int .i64 k ∧ Below w.heap.size w wr ∧ Hid (litErrFrom n (prevOf ls k) (ls.drop k) = litErr n ls)) (fun i _ => m - (intOf i).toNat)
  case atStart => exact ⟨0, Nat.zero_le _, rfl, Below.refl _ _, rfl⟩
  case round =>
    obtain ⟨k, hk, rfl, hbw, hpre⟩ := hrel
    by_cases hlt2 : k < m
    · obtain ⟨b, off, l, rfl, hlk, c0, c1⟩ := hS.at hbw hlt2
      have Hlk := Lib.hid hlk
      clear hlk
      by_cases hr0 : l.1 < 0
      · go_wp2
        go_ret
        refine ⟨ret_int (litErr_10 Hlk.out (.inl hr0) hpre.out).symm, ?_⟩
        exact hbw.alloc hbw.size _
      · by_cases hr1 : n ≤ l.1
        · go_wp2
          go_ret
          refine ⟨ret_int (litErr_10 Hlk.out (.inr hr1) hpre.out).symm, ?_⟩
          exact hbw.alloc hbw.size _
        · rcases k with _ | j
          · simp only [Nat.zero_mul, Nat.add_zero] at c0 c1
            go_wp2
            go_quiet (fail)
            go_wp2
            go_roundw
            case rel => exact ⟨1, by omega, rfl, (hbw.alloc hbw.size _).dn _, litErr_step Hlk.out (by omega) rfl hpre.out⟩
            case measure => simp [intOf]; omega
          · obtain ⟨b', off', l', hq, hlk', d0, d1⟩ := hS.at hbw (show j < m by omega)
            obtain ⟨rfl, rfl⟩ : b = b' ∧ off = off' := by simpa using hq
            clear hq
            have Hlk' := Lib.hid hlk'
            clear hlk'
            have e1 : ((((j + 1 : Nat) : Int) - 1)) = (j : Int) := by omega
            have hjm : (j : Int) < (m : Int) := by omega
            have hbl : b < wr.heap.size := World.block_lt_of_cell? _ _ d0
            have ew : IntKind.i64.wrap (j : Int) = j := IntWalk.i64_in _ (by omega)
            by_cases hr2 : l.1 ≤ l'.1
            · go_wp2
              go_quiet (fail)
              go_wp2
              go_ret
              refine ⟨ret_int (litErr_8 Hlk.out (by omega) (by simp [prevOf, Hlk'.out, hr2]) hpre.out).symm, ?_⟩
              exact (hbw.alloc hbw.size _).dn _
            · go_wp2
              go_quiet (fail)
              go_wp2
              go_roundw
              case rel => exact ⟨j + 1 + 1, by omega, by go_num, (hbw.alloc hbw.size _).dn _, litErr_step Hlk.out (by omega) (by simp [prevOf, Hlk'.out]; omega) hpre.out⟩
              case measure => simp [intOf]; omega
    · go_wp2
      go_ret
      exact ⟨ret_int (litErr_0 (by have := Hm.out; omega) hpre.out).symm, hbw⟩

theorem literals_any (n : Int) (ls : List Lit1) (v : Value) (w : World) (hS : Lits w v ls) (_ : ls.length < 1000) :
    Calls Tryz.prog 23 #[.int .i64 n, v] w (Ret (.int .i64 (litErr n ls)) w) := literals_g n ls v w hS
theorem check61 (n : Int) (ls : List Lit1) (v : Value) (w : World) (hS : Lits w v ls) (_ : ls.length < 1000) :
    Calls Tryz.prog 26 #[v, .int .i64 n] w (Ret (.int .i64 (litErr n ls)) w) := check61g n ls v w hS

end Go.Proofs.YtknpbcdmemlicaaGreatDoor
