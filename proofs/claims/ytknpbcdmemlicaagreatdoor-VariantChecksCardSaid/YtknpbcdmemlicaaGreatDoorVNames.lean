/-
  Names of the options of a configuration.
-/
import Derived.Test.YtknpbcdmemlicaaGreatDoorVCfg
namespace Go.Proofs.YtknpbcdmemlicaaGreatDoor
open Go.RowKit

set_option maxHeartbeats 1000000 in
theorem names42 (c : Int) (q0 q1 q2 q3 q4 q5 ov q7 q8 q9 : Value) (ss : List ByteArray) (w : World) (hS : Strs w ov ss) (hlen : ss.length ≤ 12) (hc : 0 ≤ c) (hc2 : c < 18446744073709551616) :
    Calls Tryz.prog 33 #[.int .u64 c, .agg #[q0, q1, q2, q3, q4, q5, ov, q7, q8, q9]] w (RetP (fun v w' => Strs w' v (sel (fun i => bitB c i) ss) ∧ FreshV w.heap.size v) w) := by
  obtain ⟨a, cp, rfl, -, -⟩ := hS.open
  generalize hn : ss.length = n at *
  have Hn := Lib.hid hn
  clear hn
  go_enter Tryz.func33, Tryz.ntmps33
  go_wp2
  have hb0 := below1 w (.cells #[q0, q1, q2, q3, q4, q5, .slice a n cp, q7, q8, q9] 36)
  have hS := hS.mono hb0
  generalize w.alloc (.cells #[q0, q1, q2, q3, q4, q5, .slice a n cp, q7, q8, q9] 36) = W at *
  go_loopw [5, 11] (fun v i wr => ∃ k : Nat, k ≤ n ∧ i = .int .i64 k ∧ Below W.heap.size W wr ∧ wr.ownsRow W.heap.size 9 1 v (sel (fun i => bitB c i) (ss.take k)).length ((sel (fun i => bitB c i) (ss.take k)).map Value.string)) (fun _ i _ => n - (intOf i).toNat)
  case atStart => exact ⟨0, Nat.zero_le _, rfl, Below.refl _ _, World.ownsRow_nil _ _ _ _⟩
  case round =>
    obtain ⟨k, hk, rfl, hbw, hown⟩ := hrel
    by_cases hlt2 : k < n
    · obtain ⟨b, off, s, rfl, hsk, c0⟩ := hS.at hbw hlt2
      have Hs := Lib.hid (sel_take_succ (fun i => bitB c i) hsk)
      have hsl := sel_take_len (fun i => bitB c i) ss k
      clear hsk
      have Hon := Lib.hid (on_any c k)
      cases hh : bitB c k
      · go_wp2_with (go_at_call 35; refine (Hon.out _ (by omega) (by omega) hc hc2).mono ?_; rintro e w' ⟨rfl, hb'⟩)
        go_roundw
        case rel => exact ⟨k + 1, by omega, by go_num, hbw.via hb' hbw.size, by rw [Hs.out, hh]; simpa using own_below hown hb'⟩
        case measure => simp [intOf]; omega
      · go_wp2_with (first | (go_at_call 35; refine (Hon.out _ (by omega) (by omega) hc hc2).mono ?_; rintro e w' ⟨rfl, hb'⟩; have hown2 := own_below hown hb'; have hbw2 := hbw.via hb' hbw.size) | (at_builtin; refine wpApp E36 (by decide) [.string s] rfl _ _ rfl W.heap.size _ _ _ rfl rfl hown2 rfl (one1 _ rfl) (by omega) (by decide) hbw2.size ?_; intro v' w1 hown' hg'; have hbw3 := below_app hbw2 hown2 hg' hbw2.size))
        go_roundw
        case rel => exact ⟨k + 1, by omega, by go_num, hbw3, by rw [Hs.out, hh]; simpa using hown'⟩
        case measure => simp [intOf]; omega
    · go_wp2
      go_ret
      have : k = n := by omega
      subst this
      refine ⟨_, rfl, ⟨?_, fun k hk => Nat.le_trans hb0.size (hown.lt k hk).1⟩, hb0.via hbw hb0.size⟩
      have := Sl.own1 hown
      rwa [List.take_of_length_le (by have := Hn.out; omega)] at this

end Go.Proofs.YtknpbcdmemlicaaGreatDoor
