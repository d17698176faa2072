/-
  Parts of the proof: Rck.
-/
import Derived.Test.YtacihodamichhaaGreatDoorU34
namespace Go.Proofs.YtacihodamichhaaGreatDoor
open Go.RowKit
theorem qcheck_any (l : List UInt8) (w : World) (hl : l.length ≤ 60) : Calls Tryz.prog 21 #[.string ⟨l.toArray⟩, .int .i64 65536] w (Ret (.int .i64 (errL l)) w) := by
 rw [← errR_eq]
 by_cases h1 : digB (absL (topL l)) = true
 ·have hne : topL l ≠ [] := by
   intro e
   rw [e] at h1
   exact absurd h1 (by decide)
  by_cases h2 : digB (denT l) = true
  ·by_cases h3 : zerB (denT l) = true
   ·have e : errR l = 19 := by unfold errR; simp [h1, h2, h3]
    rw [e]
    cases hneg : negB (topL l)
    ·exact chk3_pos l _ _ _ (divB l) w hl rfl rfl rfl rfl hneg hne h1 h2 h3
    ·exact chk3_neg l _ _ _ (divB l) w hl rfl rfl rfl rfl hneg h1 h2 h3
   ·simp only [Bool.not_eq_true] at h3
    by_cases hL : 1 < (absL (topL l)).length
    ·by_cases hp0 : (absL (topL l)).head? = some 48
     ·have e : errR l = 3 := by unfold errR; simp [h1, h2, h3, hL, hp0]
      rw [e]
      cases hneg : negB (topL l)
      ·exact chk4_pos l _ _ _ (divB l) w hl rfl rfl rfl rfl hneg hne h1 h2 h3 hL hp0
      ·exact chk4_neg l _ _ _ (divB l) w hl rfl rfl rfl rfl hneg h1 h2 h3 hL hp0
     ·have hm : (topL l == [45, 48]) = false := by
       rw [top_m0]
       cases hn : negB (topL l)
       ·rfl
       ·rw [Bool.true_and, beq_eq_false_iff_ne]
        intro e
        rw [e] at hL
        exact absurd hL (by decide)
      have h6 : badI (absL (topL l)) (negB (topL l)) = false := by
       unfold badI
       rw [Bool.and_eq_false_iff]
       exact .inl (by rw [beq_eq_false_iff_ne]; exact hp0)
      by_cases hb : (denT l).head? = some 48
      ·have e : errR l = 3 := by unfold errR; simp [h1, h2, h3, hb]
       rw [e]
       cases hneg : negB (topL l)
       ·exact chk6_pos_long l _ _ _ (divB l) w hl rfl rfl rfl rfl hneg hne h1 h2 h3 hL hp0 hm hb
       ·exact chk6_neg_long l _ _ _ (divB l) w hl rfl rfl rfl rfl hneg h1 h2 h3 hL hp0 hm hb
      ·cases h7 : divB l
       ·have e : errR l = 0 := by unfold errR; simp [h1, h2, h3, hp0, hm, hb, h7]
        rw [e]
        cases hneg : negB (topL l)
        ·exact chk7_pos_long l _ _ _ false w hl rfl rfl h7 rfl hneg hne h1 h2 h3 hL hp0 hm hb rfl
        ·exact chk7_neg_long l _ _ _ false w hl rfl rfl h7 rfl hneg h1 h2 h3 hL hp0 hm hb rfl
       ·cases h8 : (denT l == [49])
        ·by_cases h9 : Nat.gcd (valD (absL (topL l))) (valD (denT l)) = 1
         ·have e : errR l = 0 := by unfold errR; simp [h1, h2, h3, hp0, hm, hb, h7, h8, h9]
          rw [e]
          cases hneg : negB (topL l)
          ·exact chk10_pos_long l _ _ _ true w hl rfl rfl h7 rfl hneg hne h1 h2 h3 hL hp0 hm hb (hneg ▸ h6) rfl h8 h9
          ·exact chk10_neg_long l _ _ _ true w hl rfl rfl h7 rfl hneg h1 h2 h3 hL hp0 hm hb (hneg ▸ h6) rfl h8 h9
         ·have e : errR l = 3 := by unfold errR; simp [h1, h2, h3, hp0, hm, hb, h7, h8, h9]
          rw [e]
          cases hneg : negB (topL l)
          ·exact chk9_pos_long l _ _ _ true w hl rfl rfl h7 rfl hneg hne h1 h2 h3 hL hp0 hm hb (hneg ▸ h6) rfl h8 h9
          ·exact chk9_neg_long l _ _ _ true w hl rfl rfl h7 rfl hneg h1 h2 h3 hL hp0 hm hb (hneg ▸ h6) rfl h8 h9
        ·have e : errR l = 3 := by unfold errR; simp [h1, h2, h3, hp0, hm, hb, h7, h8]
         rw [e]
         cases hneg : negB (topL l)
         ·exact chk8_pos_long l _ _ _ true w hl rfl rfl h7 rfl hneg hne h1 h2 h3 hL hp0 hm hb rfl h8
         ·exact chk8_neg_long l _ _ _ true w hl rfl rfl h7 rfl hneg h1 h2 h3 hL hp0 hm hb rfl h8
    ·cases hm : (topL l == [45, 48])
     ·have h6 : badI (absL (topL l)) (negB (topL l)) = false := by
       rw [← bad_eq, ← top_m0, hm, decide_eq_false hL]
       rfl
      by_cases hb : (denT l).head? = some 48
      ·have e : errR l = 3 := by unfold errR; simp [h1, h2, h3, hb]
       rw [e]
       cases hneg : negB (topL l)
       ·exact chk6_pos_short l _ _ _ (divB l) w hl rfl rfl rfl rfl hneg hne h1 h2 h3 hL hm hb
       ·exact chk6_neg_short l _ _ _ (divB l) w hl rfl rfl rfl rfl hneg h1 h2 h3 hL hm hb
      ·cases h7 : divB l
       ·have e : errR l = 0 := by unfold errR; simp [h1, h2, h3, hL, hm, hb, h7]
        rw [e]
        cases hneg : negB (topL l)
        ·exact chk7_pos_short l _ _ _ false w hl rfl rfl h7 rfl hneg hne h1 h2 h3 hL hm hb rfl
        ·exact chk7_neg_short l _ _ _ false w hl rfl rfl h7 rfl hneg h1 h2 h3 hL hm hb rfl
       ·cases h8 : (denT l == [49])
        ·by_cases h9 : Nat.gcd (valD (absL (topL l))) (valD (denT l)) = 1
         ·have e : errR l = 0 := by unfold errR; simp [h1, h2, h3, hL, hm, hb, h7, h8, h9]
          rw [e]
          cases hneg : negB (topL l)
          ·exact chk10_pos_short l _ _ _ true w hl rfl rfl h7 rfl hneg hne h1 h2 h3 hL hm hb (hneg ▸ h6) rfl h8 h9
          ·exact chk10_neg_short l _ _ _ true w hl rfl rfl h7 rfl hneg h1 h2 h3 hL hm hb (hneg ▸ h6) rfl h8 h9
         ·have e : errR l = 3 := by unfold errR; simp [h1, h2, h3, hL, hm, hb, h7, h8, h9]
          rw [e]
          cases hneg : negB (topL l)
          ·exact chk9_pos_short l _ _ _ true w hl rfl rfl h7 rfl hneg hne h1 h2 h3 hL hm hb (hneg ▸ h6) rfl h8 h9
          ·exact chk9_neg_short l _ _ _ true w hl rfl rfl h7 rfl hneg h1 h2 h3 hL hm hb (hneg ▸ h6) rfl h8 h9
        ·have e : errR l = 3 := by unfold errR; simp [h1, h2, h3, hL, hm, hb, h7, h8]
         rw [e]
         cases hneg : negB (topL l)
         ·exact chk8_pos_short l _ _ _ true w hl rfl rfl h7 rfl hneg hne h1 h2 h3 hL hm hb rfl h8
         ·exact chk8_neg_short l _ _ _ true w hl rfl rfl h7 rfl hneg h1 h2 h3 hL hm hb rfl h8
     ·have e : errR l = 3 := by unfold errR; simp [h1, h2, h3, hm]
      rw [e]
      have hneg : negB (topL l) = true := by
       rw [top_m0, Bool.and_eq_true] at hm
       exact hm.1
      exact chk5_neg l _ _ _ (divB l) w hl rfl rfl rfl rfl hneg h1 h2 h3 hL hm
  ·simp only [Bool.not_eq_true] at h2
   have e : errR l = 14 := by unfold errR; simp [h1, h2]
   rw [e]
   cases hneg : negB (topL l)
   ·exact chk2_pos l _ _ _ (divB l) w hl rfl rfl rfl rfl hneg hne h1 h2
   ·exact chk2_neg l _ _ _ (divB l) w hl rfl rfl rfl rfl hneg h1 h2
 ·simp only [Bool.not_eq_true] at h1
  have e : errR l = 14 := by unfold errR; simp [h1]
  rw [e]
  cases hneg : negB (topL l)
  ·by_cases hne : topL l = []
   ·exact chk1_nil l _ _ _ (divB l) w hl rfl rfl rfl rfl hne h1
   ·exact chk1_pos l _ _ _ (divB l) w hl rfl rfl rfl rfl hneg hne h1
  ·exact chk1_neg l _ _ _ (divB l) w hl rfl rfl rfl rfl hneg h1
end Go.Proofs.YtacihodamichhaaGreatDoor
