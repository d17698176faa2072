/-
  The model: sets.
-/
import Derived.Test.YtkphggmbimjhjaaMod
namespace Go.Proofs.Ytkphggmbimjhjaa
open Go.RowKit

set_option maxHeartbeats 1000000 in
theorem sets_any (n : Nat) (w : World) (hn : n ≤ 6) :
    Calls Try.prog 33 #[.int .i64 n] w (RetP (fun v w' => Ints w' v (setsL n)) w) := by
  have hp : (2 : Int) ^ n ≤ 64 := by
    have : (2 : Nat) ^ n ≤ 2 ^ 6 := Nat.pow_le_pow_right (by omega) hn
    exact_mod_cast this
  have hp0 : (1 : Int) ≤ 2 ^ n := by
    have : 1 ≤ (2 : Nat) ^ n := Nat.one_le_two_pow
    exact_mod_cast this
  have HN : Hid (((2 ^ n : Nat) : Int) = 2 ^ n) := by unfold Hid; exact_mod_cast rfl
  generalize hN : (2 ^ n : Nat) = N at *
  have HNN := Lib.hid hN
  clear hN
  go_enter Try.func33, Try.ntmps33
  go_wp2
  rw [← HN.out]
  rw [← HN.out] at hp hp0
  go_loopw [3, 4] (fun v kk wr => ∃ j : Nat, j ≤ N ∧ kk = .int .i64 ((N : Int) - 1 - j) ∧ Below w.heap.size w wr ∧ wr.ownsRow w.heap.size 3 1 v j ((setsTo n j).map (Value.int .i64))) (fun _ kk _ => (intOf kk + 1).toNat)
  case atStart => exact ⟨0, Nat.zero_le _, by simp, Below.refl _ _, World.ownsRow_nil _ _ _ _⟩
  case round =>
    obtain ⟨j, hj, rfl, hbw, hown⟩ := hrel
    by_cases hlt2 : j < N
    · go_wp2
      obtain ⟨K, hK⟩ : ∃ K : Nat, (N : Int) - 1 - j = K := ⟨N - 1 - j, by omega⟩
      rw [hK]
      have HK := Lib.hid hK
      have hKb : (K : Int) ≤ 64 := by omega
      clear hK
      go_loop [5, 6] (fun s i => ∃ t : Nat, t ≤ n ∧ i = .int .i64 t ∧ s = .int .i64 (revTo n K t)) (fun _ i => n - (intOf i).toNat)
      case atStart => exact ⟨0, Nat.zero_le _, rfl, rfl⟩
      case round =>
        obtain ⟨t, ht, rfl, rfl⟩ := hrel
        by_cases htn : t < n
        · go_wp2
          go_round
          case rel => exact ⟨t + 1, by omega, by go_num, congrArg _ (set_step n K t (by omega) (by have := HK.out; omega))⟩
          case measure => simp [intOf]; omega
        · have : t = n := by omega
          subst this
          have hr : Hid ((rev t K : Int) = (rev t (2 ^ t - 1 - j) : Int)) := by
            unfold Hid
            have := HK.out; have := HNN.out
            rw [show 2 ^ t - 1 - j = K from by omega]
          go_wp2_with (at_builtin; refine wpApp E50 (by decide) [.int .i64 (revTo t K t)] rfl _ _ rfl w.heap.size _ _ _ rfl rfl hown rfl (one1 _ rfl) (by omega) (by decide) hbw.size ?_; intro v' w1 hown' hg'; have hbw3 := below_app hbw hown hg' hbw.size)
          go_roundw
          case rel => exact ⟨j + 1, by omega, by have := HK.out; congr 1; omega, hbw3, by rw [setsTo_succ, ← hr.out]; simpa [rev] using hown'⟩
          case measure => have := HK.out; simp [intOf]; omega
    · go_wp2
      go_ret
      have : j = N := by omega
      subst this
      refine ⟨_, rfl, ?_, hbw⟩
      have := Sl.own1 hown
      unfold setsL
      rwa [HNN.out]

end Go.Proofs.Ytkphggmbimjhjaa
