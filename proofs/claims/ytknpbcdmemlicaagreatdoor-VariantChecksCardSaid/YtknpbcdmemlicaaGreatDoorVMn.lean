/-
  The model's name at every string.
-/
import Derived.Test.YtknpbcdmemlicaaGreatDoorVRn
import Derived.Test.YtknpbcdmemlicaaGreatDoorVBase
namespace Go.Proofs.YtknpbcdmemlicaaGreatDoor
open Go.RowKit

def okB (b : UInt8) : Bool := decide (33 ≤ b.toNat) && decide (b.toNat ≤ 126)
abbrev GoodPre (s : ByteArray) (k : Nat) : Prop := (s.data.toList.drop k).all okB = goodB s
theorem good_step {s : ByteArray} {k : Nat} (h : k < s.size) (hp : GoodPre s k) : (okB (s[k]'h) && (s.data.toList.drop (k + 1)).all okB) = goodB s := by
  have hl : k < s.data.toList.length := by rw [← Lib.size_eq]; exact h
  have hd : s.data.toList.drop k = s[k]'h :: s.data.toList.drop (k + 1) := List.drop_eq_getElem_cons hl
  unfold GoodPre at hp
  rw [hd, List.all_cons] at hp
  exact hp
theorem good_end {s : ByteArray} {k : Nat} (h : s.size ≤ k) (hp : GoodPre s k) : goodB s = true := by
  unfold GoodPre at hp
  rw [List.drop_of_length_le (by rw [← Lib.size_eq]; omega)] at hp
  exact hp.symm

set_option maxRecDepth 100000 in
set_option maxHeartbeats 2000000 in
theorem name_m (s : ByteArray) (w : World) (hs : s.size < 1000) : Calls Tryz.prog 22 #[.string s] w (Ret (.bool (nameB s)) w) := by
  go_enter Tryz.func22, Tryz.ntmps22
  go_wp2
  go_loopw [3] (fun i wr => ∃ k : Nat, k ≤ s.size ∧ i = .int .i64 k ∧ Below w.heap.size w wr ∧ Hid (GoodPre s k)) (fun i _ => s.size - (intOf i).toNat)
  case atStart => exact ⟨0, Nat.zero_le _, rfl, Below.refl _ _, rfl⟩
  case round =>
    obtain ⟨k, hk, rfl, hbw, HP⟩ := hrel
    by_cases hlt2 : k < s.size
    · have HS := Lib.hid (good_step hlt2 HP.out)
      have hix : ∀ w', (Instr.index 9 (.string s) (.int .i64 (k : Int))).run Tryz.prog w' = .ok (.int .u8 ((s[k]'hlt2).toNat : Int)) w' := fun w' => by
        rw [run_index_string w' 9 s .i64 k Tryz.underlying9, dif_pos (by omega)]
        simp only [Int.toNat_natCast]
      clear HP
      generalize hc : s[k]'hlt2 = c at *
      clear hc
      generalize hx : c.toNat = x at *
      by_cases h0 : x < 33
      · have a0 : (x : Int) < 33 := by omega
        have Hg : Hid (goodB s = false) := by rw [← HS.out]; unfold okB; rw [hx, decide_eq_false (by omega)]; rfl
        clear hx
        go_wp2
        go_ret
        exact ⟨by unfold nameB; rw [Hg.out]; rfl, hbw⟩
      · by_cases h1 : 126 < x
        · have a0 : ¬ (x : Int) < 33 := by omega
          have a1 : (126 : Int) < x := by omega
          have Hg : Hid (goodB s = false) := by rw [← HS.out]; unfold okB; rw [hx, decide_eq_false (show ¬ x ≤ 126 by omega), Bool.and_false, Bool.false_and]; rfl
          clear hx
          go_wp2
          go_ret
          exact ⟨by unfold nameB; rw [Hg.out]; rfl, hbw⟩
        · have a0 : ¬ (x : Int) < 33 := by omega
          have a1 : ¬ (126 : Int) < x := by omega
          have Hg : Hid (GoodPre s (k + 1)) := by
            unfold Hid GoodPre
            rw [← HS.out]; unfold okB; rw [hx, decide_eq_true (by omega), decide_eq_true (show x ≤ 126 by omega)]; rfl
          clear hx
          go_wp2
          go_roundw
          case rel => exact ⟨k + 1, by omega, by go_num, hbw, Hg⟩
          case measure => simp [intOf]; omega
    · have Hg := Lib.hid (good_end (by omega) HP.out)
      have hke : k = s.size := by omega
      clear HP
      by_cases h0 : s.size = 0
      · have a0 : ¬ (0 : Int) < s.size := by omega
        go_wp2
        go_ret
        exact ⟨by unfold nameB; rw [Hg.out, decide_eq_false (show ¬ 0 < s.size by omega)]; rfl, hbw⟩
      · have a0 : (0 : Int) < s.size := by omega
        by_cases h1 : s.size ≤ 40
        · have a1 : (s.size : Int) ≤ 40 := by omega
          go_wp2
          go_ret
          exact ⟨by unfold nameB; rw [Hg.out, decide_eq_true (show 0 < s.size by omega), decide_eq_true h1]; rfl, hbw⟩
        · have a1 : ¬ (s.size : Int) ≤ 40 := by omega
          go_wp2
          go_ret
          exact ⟨by unfold nameB; rw [Hg.out, decide_eq_true (show 0 < s.size by omega), decide_eq_false h1]; rfl, hbw⟩

end Go.Proofs.YtknpbcdmemlicaaGreatDoor
