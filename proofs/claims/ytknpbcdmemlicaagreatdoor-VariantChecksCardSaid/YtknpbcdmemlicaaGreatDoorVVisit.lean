/-
  The program's visit of all configurations.
-/
import Derived.Test.YtknpbcdmemlicaaGreatDoorVCfg
namespace Go.Proofs.YtknpbcdmemlicaaGreatDoor
open Go.RowKit

set_option maxHeartbeats 2000000 in
theorem visit_any (wA : World) (I : List Int → World → Prop) (p : Int → Bool) (g : Nat) (cap : Array Value) (q0 q1 q2 q3 q4 q5 q7 q8 q9 cv rv : Value) (a6 : Option Addr) (n cap6 : Nat) (ch : List Lit1) (rs : List Rule1) (w : World)
    (hn : n ≤ 6) (hC : Lits wA cv ch) (hR : Rules wA rv rs) (hbA : Below wA.heap.size wA w) (hok : RulesOk 12 rs) (hch : LitsOk 12 ch) (hcl : ch.length < 1000) (hlen : rs.length < 1000)
    (eg : ∀ args w, (callFunc g args).run Tryz.prog w = .ok (.enter g args) w)
    (hI : ∀ xs w1 w2, I xs w1 → Below w1.heap.size w1 w2 → I xs w2)
    (hdo : ∀ xs c w1, xs.length < 64 → Mid wA.heap.size w.heap.size w w1 → I xs w1 → c ∈ cfgsL n → cOk ch rs c = true → Calls Tryz.prog g (#[.int .u64 c] ++ cap) w1 (fun e w2 => e = .returned (.bool (p c)) ∧ Mid wA.heap.size w.heap.size w1 w2 ∧ I (xs ++ [c]) w2))
    (hst : I [] w) :
    Calls Tryz.prog 30 #[.agg #[q0, q1, q2, q3, q4, q5, .slice a6 n cap6, q7, q8, q9], cv, rv, .func (.func g) #[] cap] w
      (fun e w' => e = .returned (.tuple #[]) ∧ Mid wA.heap.size w.heap.size w w' ∧ I (upTo p ((cfgsL n).filter (cOk ch rs))) w') := by
  have hp : (2 : Int) ^ n ≤ 64 := by
    have : (2 : Nat) ^ n ≤ 2 ^ 6 := Nat.pow_le_pow_right (by omega) hn
    exact_mod_cast this
  have hp0 : (1 : Int) ≤ 2 ^ n := by
    have : 1 ≤ (2 : Nat) ^ n := Nat.one_le_two_pow
    exact_mod_cast this
  have HN : Hid (((2 ^ n : Nat) : Int) = 2 ^ n) := by unfold Hid; exact_mod_cast rfl
  generalize hN : (2 ^ n : Nat) = N at *
  have HNN := Lib.hid hN
  have HI := Lib.hid hI
  have Hdo := Lib.hid hdo
  have Hst := Lib.hid hst
  clear hN hI hdo hst
  go_enter Tryz.func30, Tryz.ntmps30
  go_wp2
  rw [← HN.out]
  rw [← HN.out] at hp hp0
  have hb0 := below1 w (.cells #[q0, q1, q2, q3, q4, q5, .slice a6 n cap6, q7, q8, q9] 36)
  have hA := hbA.size
  have hmid0 : Mid wA.heap.size w.heap.size w (w.alloc (.cells #[q0, q1, q2, q3, q4, q5, .slice a6 n cap6, q7, q8, q9] 36)) := .of_below hb0
  have hst0 := HI.out _ _ _ Hst.out hb0
  generalize w.alloc (.cells #[q0, q1, q2, q3, q4, q5, .slice a6 n cap6, q7, q8, q9] 36) = W at *
  go_loopw [9] (fun ix wr => ∃ (j : Nat) (xs : List Int), j ≤ N ∧ ix = .int .i64 ((N : Int) - 1 - j) ∧ Mid wA.heap.size w.heap.size w wr ∧ xs.length ≤ j ∧ Hid (I xs wr) ∧ Hid (upTo p ((cfgsL n).filter (cOk ch rs)) = xs ++ upTo p (((cfgsL n).drop j).filter (cOk ch rs)))) (fun ix _ => (intOf ix + 1).toNat)
  case atStart => exact ⟨0, [], Nat.zero_le _, by simp, hmid0, Nat.le_refl _, hst0, rfl⟩
  case round =>
    obtain ⟨j, xs, hj, rfl, hmid, hxl, hxs, hpre⟩ := hrel
    by_cases hlt2 : j < N
    · obtain ⟨K, hK⟩ : ∃ K : Nat, (N : Int) - 1 - j = K := ⟨N - 1 - j, by omega⟩
      rw [hK]
      have HK := Lib.hid hK
      have hKb : (K : Int) ≤ 64 := by omega
      obtain ⟨c, hce, hc0, hc1, hcm, hcd⟩ := cfg_step (n := n) (j := j) (K := K) (by omega) (by rw [HNN.out]; exact hlt2) (by rw [HNN.out]; omega)
      have Hcm := Lib.hid hcm
      rw [hcd] at hpre
      have hbr := hmid.below hbA hA
      have H1 := Lib.hid (holds_any c ch cv wr (hC.mono hbr) hch hcl hc0 (by omega))
      have H2 : Hid (∀ w2, Below wr.heap.size wr w2 → Calls Tryz.prog 28 #[.int .u64 c, rv] w2 (Ret (.int .i64 (cBroken c rs)) w2)) := fun w2 h2 => violated_any c rs rv w2 ((hR.mono hbr).mono h2) hok hlen hc0 (by omega)
      have Hq : Hid (cOk ch rs c = (cHolds c ch && decide (cBroken c rs < 0))) := rfl
      clear hK hcm hcd
      cases hh : cHolds c ch
      · rw [hh] at H1 Hq
        clear hh
        go_wp2_with (go_at_call 55; refine (H1.out).mono ?_; rintro e w' ⟨rfl, hb'⟩)
        go_roundw
        case rel => exact ⟨j + 1, xs, by omega, by have := HK.out; exact congrArg _ (by omega), hmid.trans (.of_below hb'), by omega, HI.out _ _ _ hxs.out hb', upTo_drop hpre.out (by rw [Hq.out]; rfl)⟩
        case measure => simp [intOf]
      · rw [hh] at H1 Hq
        clear hh
        by_cases hneg : cBroken c rs < 0
        · have Hn := Lib.hid (show cOk ch rs c = true by rw [Hq.out]; simp [hneg])
          cases hp : p c
          all_goals
            have H3 : Hid (∀ w1, Mid wA.heap.size w.heap.size w w1 → I xs w1 → Calls Tryz.prog g (#[.int .u64 c] ++ cap) w1 (fun e w2 => e = .returned (.bool (p c)) ∧ Mid wA.heap.size w.heap.size w1 w2 ∧ I (xs ++ [c]) w2)) := fun w1 h1 h2 => Hdo.out xs c w1 (by omega) h1 h2 Hcm.out Hn.out
            rw [hp] at H3
            have Hp := Lib.hid hp
            clear hp
            go_wp2_with (first | (go_at_call 55; refine (H1.out).mono ?_; rintro e w' ⟨rfl, hb'⟩) | (go_at_call 28; refine (H2.out _ hb').mono ?_; rintro e w2 ⟨rfl, hb2⟩; have hmid2 := hmid.trans (.of_below (hb'.via hb2 hb'.size)); have hx2 := Lib.hid (HI.out _ _ _ hxs.out (hb'.via hb2 hb'.size))) | (go_at_fn g; refine (H3.out _ hmid2 hx2.out).mono ?_; rintro e w3 ⟨rfl, hm3, hx3⟩; have Hx3 := Lib.hid hx3; clear hx3))
          · refine bodyPost_ret (results_none rfl _ _ _) rfl ?_
            exact ⟨rfl, hmid2.trans hm3, by rw [upTo_stop hpre.out Hn.out Hp.out]; exact Hx3.out⟩
          · go_roundw
            case rel => exact ⟨j + 1, xs ++ [c], by omega, by have := HK.out; exact congrArg _ (by omega), hmid2.trans hm3, by simp; omega, Hx3, upTo_go hpre.out Hn.out Hp.out⟩
            case measure => simp [intOf]
        · have Hn := Lib.hid (show cOk ch rs c = false by rw [Hq.out]; simp only [Bool.true_and, decide_eq_false_iff_not]; exact hneg)
          go_wp2_with (first | (go_at_call 55; refine (H1.out).mono ?_; rintro e w' ⟨rfl, hb'⟩) | (go_at_call 28; refine (H2.out _ hb').mono ?_; rintro e w2 ⟨rfl, hb2⟩; have hmid2 := hmid.trans (.of_below (hb'.via hb2 hb'.size)); have hx2 := Lib.hid (HI.out _ _ _ hxs.out (hb'.via hb2 hb'.size))))
          go_roundw
          case rel => exact ⟨j + 1, xs, by omega, by have := HK.out; exact congrArg _ (by omega), hmid2, by omega, hx2, upTo_drop hpre.out Hn.out⟩
          case measure => simp [intOf]
    · go_wp2
      go_end0
      have : j = N := by omega
      subst this
      have e : (cfgsL n).drop j = [] := List.drop_of_length_le (by rw [cfgsL_len, HNN.out]; exact Nat.le_refl _)
      have h := hpre.out
      rw [e] at h
      exact ⟨rfl, hmid, by rw [h]; simpa [upTo] using hxs.out⟩

end Go.Proofs.YtknpbcdmemlicaaGreatDoor
