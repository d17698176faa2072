/-
  Errors of a list of literals.
-/
import Derived.Test.YtkphggmbimjhjaaBase
namespace Go.Proofs.Ytkphggmbimjhjaa
open Go.RowKit

set_option maxHeartbeats 1000000 in
theorem literals_any (n : Int) (ls : List Lit1) (v : Value) (w : World) (hS : Lits w v ls) (hlen : ls.length < 1000) :
    Calls Try.prog 14 #[.int .i64 n, v] w (Ret (.int .i64 (litErr n ls)) w) := by
  obtain ⟨a, cap, rfl, -, -⟩ := hS.open
  generalize hm : ls.length = m at *
  have Hm := Lib.hid hm
  clear hm
  go_enter Try.func14, Try.ntmps14
  go_wp2
  go_loopw [5] (fun i wr => ∃ k : Nat, k ≤ m ∧ i = .int .i64 k ∧ Below w.heap.size w wr ∧ Hid (litErrFrom n (prevOf ls k) (ls.drop k) = litErr n ls)) (fun i _ => m - (intOf i).toNat)
  case atStart => exact ⟨0, Nat.zero_le _, rfl, Below.refl _ _, rfl⟩
  case round =>
    obtain ⟨k, hk, rfl, hbw, hpre⟩ := hrel
    by_cases hlt2 : k < m
    · obtain ⟨b, off, l, rfl, hlk, c0, c1⟩ := hS.at hbw hlt2
      have Hlk := Lib.hid hlk
      clear hlk
      by_cases hr0 : l.1 < 0
      · go_wp2
        go_ret
        refine ⟨ret_int (litErr_10 Hlk.out (.inl hr0) hpre.out).symm, ?_⟩
        exact hbw
      · by_cases hr1 : n ≤ l.1
        · go_wp2
          go_ret
          refine ⟨ret_int (litErr_10 Hlk.out (.inr hr1) hpre.out).symm, ?_⟩
          exact hbw
        · rcases k with _ | j
          · simp only [Nat.zero_mul, Nat.add_zero] at c0 c1
            go_wp2
            go_quiet (fail)
            go_wp2
            go_roundw
            case rel => exact ⟨1, by omega, rfl, hbw.dn _, litErr_step Hlk.out (by omega) rfl hpre.out⟩
            case measure => simp [intOf]; omega
          · obtain ⟨b', off', l', hq, hlk', d0, d1⟩ := hS.at hbw (show j < m by omega)
            obtain ⟨rfl, rfl⟩ : b = b' ∧ off = off' := by simpa using hq
            clear hq
            have Hlk' := Lib.hid hlk'
            clear hlk'
            have e1 : ((((j + 1 : Nat) : Int) - 1)) = (j : Int) := by omega
            by_cases hr2 : l.1 ≤ l'.1
            · go_wp2
              go_quiet (fail)
              go_wp2
              go_ret
              refine ⟨ret_int (litErr_8 Hlk.out (by omega) (by simp [prevOf, Hlk'.out, hr2]) hpre.out).symm, ?_⟩
              exact hbw.dn _
            · go_wp2
              go_quiet (fail)
              go_wp2
              go_roundw
              case rel => exact ⟨j + 1 + 1, by omega, by go_num, hbw.dn _, litErr_step Hlk.out (by omega) (by simp [prevOf, Hlk'.out]; omega) hpre.out⟩
              case measure => simp [intOf]; omega
    · go_wp2
      go_ret
      exact ⟨ret_int (litErr_0 (by have := Hm.out; omega) hpre.out).symm, hbw⟩

set_option maxHeartbeats 1000000 in
theorem check61 (n : Int) (ls : List Lit1) (v : Value) (w : World) (hS : Lits w v ls) (hlen : ls.length < 1000) :
    Calls Try.prog 61 #[v, .int .i64 n] w (Ret (.int .i64 (litErr n ls)) w) := by
  obtain ⟨a, cap, rfl, -, -⟩ := hS.open
  generalize hm : ls.length = m at *
  have Hm := Lib.hid hm
  clear hm
  go_enter Try.func61, Try.ntmps61
  go_wp2
  go_loopw [9] (fun i wr => ∃ k : Nat, k ≤ m ∧ i = .int .i64 k ∧ Below w.heap.size w wr ∧ Hid (litErrFrom n (prevOf ls k) (ls.drop k) = litErr n ls)) (fun i _ => m - (intOf i).toNat)
  case atStart => exact ⟨0, Nat.zero_le _, rfl, Below.refl _ _, rfl⟩
  case round =>
    obtain ⟨k, hk, rfl, hbw, hpre⟩ := hrel
    by_cases hlt2 : k < m
    · obtain ⟨b, off, l, rfl, hlk, c0, c1⟩ := hS.at hbw hlt2
      have Hlk := Lib.hid hlk
      clear hlk
      by_cases hr0 : l.1 < 0
      · go_wp2
        go_ret
        refine ⟨ret_int (litErr_10 Hlk.out (.inl hr0) hpre.out).symm, ?_⟩
        exact hbw.alloc hbw.size _
      · by_cases hr1 : n ≤ l.1
        · go_wp2
          go_ret
          refine ⟨ret_int (litErr_10 Hlk.out (.inr hr1) hpre.out).symm, ?_⟩
          exact hbw.alloc hbw.size _
        · rcases k with _ | j
          · simp only [Nat.zero_mul, Nat.add_zero] at c0 c1
            go_wp2
            go_quiet (fail)
            go_wp2
            go_roundw
            case rel => exact ⟨1, by omega, rfl, (hbw.alloc hbw.size _).dn _, litErr_step Hlk.out (by omega) rfl hpre.out⟩
            case measure => simp [intOf]; omega
          · obtain ⟨b', off', l', hq, hlk', d0, d1⟩ := hS.at hbw (show j < m by omega)
            obtain ⟨rfl, rfl⟩ : b = b' ∧ off = off' := by simpa using hq
            clear hq
            have Hlk' := Lib.hid hlk'
            clear hlk'
            have e1 : ((((j + 1 : Nat) : Int) - 1)) = (j : Int) := by omega
            have hjm : (j : Int) < (m : Int) := by omega
            have hbl : b < wr.heap.size := World.block_lt_of_cell? _ _ d0
            have ew : IntKind.i64.wrap (j : Int) = j := IntWalk.i64_in _ (by omega)
            by_cases hr2 : l.1 ≤ l'.1
            · go_wp2
              go_quiet (fail)
              go_wp2
              go_ret
              refine ⟨ret_int (litErr_8 Hlk.out (by omega) (by simp [prevOf, Hlk'.out, hr2]) hpre.out).symm, ?_⟩
              exact (hbw.alloc hbw.size _).dn _
            · go_wp2
              go_quiet (fail)
              go_wp2
              go_roundw
              case rel => exact ⟨j + 1 + 1, by omega, by go_num, (hbw.alloc hbw.size _).dn _, litErr_step Hlk.out (by omega) (by simp [prevOf, Hlk'.out]; omega) hpre.out⟩
              case measure => simp [intOf]; omega
    · go_wp2
      go_ret
      exact ⟨ret_int (litErr_0 (by have := Hm.out; omega) hpre.out).symm, hbw⟩

end Go.Proofs.Ytkphggmbimjhjaa
