/-
  One number moved.
-/
import Derived.Test.YtfmgjcgcocidfaaGreatDoorAll
namespace Go.Proofs.YtfmgjcgcocidfaaGreatDoor
open Go.RowKit

theorem dn1 (w : World) : Below w.heap.size w (w.drewN 1) := (Below.refl _ _).dn 1

set_option maxHeartbeats 8000000 in
set_option maxRecDepth 10000 in
theorem moved_any (K g : Nat) (s : ByteArray) (z p q m : Int) (x0 : Bool) (a0 : Option Addr) (n0 c0 : Nat) (x1 : Bool) (a1 : Option Addr) (n1 c1 : Nat) (w : World) (T : TypeId) (hK : Blk w K #[.slice (some ⟨g, 0, none⟩) 2 2] T) (hG : Blk w g #[.bool x0, .slice a0 n0 c0, .bool false, .slice none 0 0, .bool x1, .slice a1 n1 c1, .bool false, .slice none 0 0] 50) (h0 : RatV w (.agg #[.bool x0, .slice a0 n0 c0, .bool false, .slice none 0 0]) p 0) (h1 : RatV w (.agg #[.bool x1, .slice a1 n1 c1, .bool false, .slice none 0 0]) q 0) (hs : WT s z) (hne : s.toList.isEmpty = false)
    (hl1 : (limbs p.natAbs).length < 1000000) (hl2 : (limbs z.natAbs).length < 1000000) (hl3 : (limbs (p * z).natAbs).length < 1000000) (hl4 : (limbs q.natAbs).length < 1000000) (hm : p * z + q = m) (hm1 : m.natAbs < 100) (hm0 : m ≠ 0) :
    Calls Tryz.prog 34 #[.string s, .pointer (some ⟨K, 0, none⟩)] w (Ret (.string ⟨(textI m).toArray⟩) w) := by
  have HX := Lib.hid (And.intro hK (And.intro hG (And.intro h0 h1)))
  have HL := Lib.hid (And.intro hl1 (And.intro hl2 (And.intro hl3 hl4)))
  have HRd := Lib.hid (fun w' => read_w s z w' hs)
  have HNu := Lib.hid (fun v w' (hv : RatV w' v (p * z + q) 0) => show Calls Tryz.prog 31 #[v] w' (Ret (.string ⟨(textI m).toArray⟩) w') from number_w v m w' (by rw [← hm]; exact hv) hm1 hm0)
  clear hK hG h0 h1 hs hl1 hl2 hl3 hl4 hm hm1 hm0
  go_enter Tryz.func34, Tryz.ntmps34
  go_wp2_with (go_at_call 24; refine (HRd.out _).mono ?_; rintro e w2 ⟨v2, rfl, ⟨x2, a2, n2, c2, rfl, hrv, -⟩, hb2⟩; have Hrv := Lib.hid hrv; have Hb2 := Lib.hid hb2; clear hrv hb2)

  have HSx := Lib.hid (fun w' (hb : Below (w2.alloc (.cells #[.bool x2, .slice a2 n2 c2, .bool false, .slice none 0 0] 50)).heap.size (w2.alloc (.cells #[.bool x2, .slice a2 n2 c2, .bool false, .slice none 0 0] 50)) w') => show w'.cell? ⟨K, 0, none⟩ = some (.slice (some ⟨g, 0, none⟩) 2 2) ∧ w'.cell? ⟨g, 0, none⟩ = some (.bool x0) ∧ w'.cell? ⟨g, 1, none⟩ = some (.slice a0 n0 c0) ∧ w'.cell? ⟨g, 2, none⟩ = some (.bool false) ∧ w'.cell? ⟨g, 3, none⟩ = some (.slice none 0 0) ∧ w'.cell? ⟨g, 4, none⟩ = some (.bool x1) ∧ w'.cell? ⟨g, 5, none⟩ = some (.slice a1 n1 c1) ∧ w'.cell? ⟨g, 6, none⟩ = some (.bool false) ∧ w'.cell? ⟨g, 7, none⟩ = some (.slice none 0 0) ∧ w'.cell? ⟨w2.heap.size, 0, none⟩ = some (.bool x2) ∧ w'.cell? ⟨w2.heap.size, 1, none⟩ = some (.slice a2 n2 c2) ∧ w'.cell? ⟨w2.heap.size, 2, none⟩ = some (.bool false) ∧ w'.cell? ⟨w2.heap.size, 3, none⟩ = some (.slice none 0 0) from by
    have hb0 := bw_via (bw_via Hb2.out (below1 w2 _)) hb
    have hk := HX.out.1.below hb0
    obtain ⟨g0, g1, g2, g3, g4, g5, g6, g7⟩ := cells8 HX.out.2.1 hb0
    obtain ⟨e0, e1, e2, e3⟩ := cells4 (Blk.new w2 #[.bool x2, .slice a2 n2 c2, .bool false, .slice none 0 0] 50) hb
    exact ⟨by rw [hk.cell]; rfl, g0, g1, g2, g3, g4, g5, g6, g7, e0, e1, e2, e3⟩)
  have HM := Lib.hid (fun w' (hb : Below (w2.alloc (.cells #[.bool x2, .slice a2 n2 c2, .bool false, .slice none 0 0] 50)).heap.size (w2.alloc (.cells #[.bool x2, .slice a2 n2 c2, .bool false, .slice none 0 0] 50)) w') => rmul_w (.agg #[.bool x0, .slice a0 n0 c0, .bool false, .slice none 0 0]) (.agg #[.bool x2, .slice a2 n2 c2, .bool false, .slice none 0 0]) p z w' (HX.out.2.2.1.mono (bw_via (bw_via Hb2.out (below1 w2 _)) hb)) (Hrv.out.mono (bw_via (below1 w2 _) hb)) HL.out.1 HL.out.2.1)
  have HA := Lib.hid (fun v w' (hb : Below (w2.alloc (.cells #[.bool x2, .slice a2 n2 c2, .bool false, .slice none 0 0] 50)).heap.size (w2.alloc (.cells #[.bool x2, .slice a2 n2 c2, .bool false, .slice none 0 0] 50)) w') (hv : RatV w' v (p * z) 0) => radd_w v (.agg #[.bool x1, .slice a1 n1 c1, .bool false, .slice none 0 0]) (p * z) q w' hv (HX.out.2.2.2.mono (bw_via (bw_via Hb2.out (below1 w2 _)) hb)) HL.out.2.2.1 HL.out.2.2.2)
  refine wp_region_held_drew (S := (fun w' => w'.cell? ⟨K, 0, none⟩ = some (.slice (some ⟨g, 0, none⟩) 2 2) ∧ w'.cell? ⟨g, 0, none⟩ = some (.bool x0) ∧ w'.cell? ⟨g, 1, none⟩ = some (.slice a0 n0 c0) ∧ w'.cell? ⟨g, 2, none⟩ = some (.bool false) ∧ w'.cell? ⟨g, 3, none⟩ = some (.slice none 0 0) ∧ w'.cell? ⟨g, 4, none⟩ = some (.bool x1) ∧ w'.cell? ⟨g, 5, none⟩ = some (.slice a1 n1 c1) ∧ w'.cell? ⟨g, 6, none⟩ = some (.bool false) ∧ w'.cell? ⟨g, 7, none⟩ = some (.slice none 0 0) ∧ w'.cell? ⟨w2.heap.size, 0, none⟩ = some (.bool x2) ∧ w'.cell? ⟨w2.heap.size, 1, none⟩ = some (.slice a2 n2 c2) ∧ w'.cell? ⟨w2.heap.size, 2, none⟩ = some (.bool false) ∧ w'.cell? ⟨w2.heap.size, 3, none⟩ = some (.slice none 0 0))) (by kernel_rfl) (by exact HSx.out _ (dn1 (w2.alloc (.cells #[.bool x2, .slice a2 n2 c2, .bool false, .slice none 0 0] 50)))) (fun hHeld => ?_)
  refine wpAnyH_take (i := 0) (v := ?v1) rfl (by kernel_rfl) (by kernel_rfl) (by kernel_rfl) (fun _ _ _ h => h) (Or.inl ⟨by rfl, ?hy1⟩) (by assumption) ?rest1
  case hy1 => (intro w hSw; (try dsimp only at hSw); go_simp; try (with_reducible rfl))
  try simp only [Act.put, List.getElem_toArray, List.getElem_cons_zero, List.getElem_cons_succ, List.setIfInBounds_toArray, List.set_cons_zero, List.set_cons_succ]
  refine wpAnyH_take (i := 1) (v := ?v2) rfl (by kernel_rfl) (by kernel_rfl) (by kernel_rfl) (fun _ _ _ h => h) (Or.inl ⟨by rfl, ?hy2⟩) (by assumption) ?rest2
  case hy2 => (intro w hSw; (try dsimp only at hSw); go_simp; try (with_reducible rfl))
  try simp only [Act.put, List.getElem_toArray, List.getElem_cons_zero, List.getElem_cons_succ, List.setIfInBounds_toArray, List.set_cons_zero, List.set_cons_succ]
  refine wpAnyH_take (i := 2) (v := ?v3) rfl (by kernel_rfl) (by kernel_rfl) (by kernel_rfl) (fun _ _ _ h => h) (Or.inl ⟨by rfl, ?hy3⟩) (by assumption) ?rest3
  case hy3 => (intro w hSw; (try dsimp only at hSw); go_simp; try (with_reducible rfl))
  try simp only [Act.put, List.getElem_toArray, List.getElem_cons_zero, List.getElem_cons_succ, List.setIfInBounds_toArray, List.set_cons_zero, List.set_cons_succ]
  refine wpAnyH_take (i := 3) (v := ?v4) rfl (by kernel_rfl) (by kernel_rfl) (by kernel_rfl) (fun _ _ _ h => h) (Or.inl ⟨by rfl, ?hy4⟩) (by assumption) ?rest4
  case hy4 => (intro w hSw; (try dsimp only at hSw); go_simp; try (with_reducible rfl))
  try simp only [Act.put, List.getElem_toArray, List.getElem_cons_zero, List.getElem_cons_succ, List.setIfInBounds_toArray, List.set_cons_zero, List.set_cons_succ]
  refine wpAnyH_take (i := 5) (v := ?v5) rfl (by kernel_rfl) (by kernel_rfl) (by kernel_rfl) (fun _ _ _ h => h) (Or.inl ⟨by rfl, ?hy5⟩) (by assumption) ?rest5
  case hy5 => (intro w hSw; (try dsimp only at hSw); go_simp; try (with_reducible rfl))
  try simp only [Act.put, List.getElem_toArray, List.getElem_cons_zero, List.getElem_cons_succ, List.setIfInBounds_toArray, List.set_cons_zero, List.set_cons_succ]
  refine wpAnyH_take (i := 6) (v := ?v6) rfl (by kernel_rfl) (by kernel_rfl) (by kernel_rfl) (fun _ _ _ h => h) (Or.inl ⟨by rfl, ?hy6⟩) (by assumption) ?rest6
  case hy6 => (intro w hSw; (try dsimp only at hSw); go_simp; try (with_reducible rfl))
  try simp only [Act.put, List.getElem_toArray, List.getElem_cons_zero, List.getElem_cons_succ, List.setIfInBounds_toArray, List.set_cons_zero, List.set_cons_succ]
  refine wpAnyH_take (i := 7) (v := ?v7) rfl (by kernel_rfl) (by kernel_rfl) (by kernel_rfl) (fun _ _ _ h => h) (Or.inl ⟨by rfl, ?hy7⟩) (by assumption) ?rest7
  case hy7 => (intro w hSw; (try dsimp only at hSw); go_simp; try (with_reducible rfl))
  try simp only [Act.put, List.getElem_toArray, List.getElem_cons_zero, List.getElem_cons_succ, List.setIfInBounds_toArray, List.set_cons_zero, List.set_cons_succ]
  refine wpAnyH_ready (rs := [4]) (by kernel_rfl) (by simp) ?_
  refine AllReadyH.cons rfl (fun K hK => ?_) AllReadyH.nil
  go_simp
  go_at_call 35
  refine (HM.out _ (dn1 (w2.alloc (.cells #[.bool x2, .slice a2 n2 c2, .bool false, .slice none 0 0] 50)))).mono ?_
  rintro e5 w5 ⟨v5, rfl, hv5, hb5⟩
  have Hb5 := Lib.hid (bw_via (dn1 (w2.alloc (.cells #[.bool x2, .slice a2 n2 c2, .bool false, .slice none 0 0] 50))) hb5)
  have Hv5 := Lib.hid hv5
  clear hv5 hb5
  refine hK.out _ _ (by exact HSx.out _ (Hb5.out)) (fun hHeld => ?_)
  clear hK K
  try simp only [Act.put, List.setIfInBounds_toArray, List.set_cons_zero, List.set_cons_succ]
  refine wpAnyH_ready (rs := [8]) (by kernel_rfl) (by simp) ?_
  refine AllReadyH.cons rfl (fun K hK => ?_) AllReadyH.nil
  go_simp
  go_at_call 28
  refine (HA.out _ _ (Hb5.out) Hv5.out).mono ?_
  rintro e6 w6 ⟨v6, rfl, hv6, hb6⟩
  have Hb6 := Lib.hid (bw_via (Hb5.out) hb6)
  have Hv6 := Lib.hid hv6
  clear hv6 hb6
  refine hK.out _ _ (by exact HSx.out _ (Hb6.out)) (fun hHeld => ?_)
  clear hK K
  try simp only [Act.put, List.setIfInBounds_toArray, List.set_cons_zero, List.set_cons_succ]
  refine wpAnyH_ready (rs := [9]) (by kernel_rfl) (by simp) ?_
  refine AllReadyH.cons rfl (fun K hK => ?_) AllReadyH.nil
  go_simp
  go_at_call 31
  refine (HNu.out _ _ Hv6.out).mono ?_
  rintro e7 w7 ⟨rfl, hb7⟩
  have Hb7 := Lib.hid (bw_via (Hb6.out) hb7)
  clear hb7
  refine hK.out _ _ (by exact HSx.out _ (Hb7.out)) (fun hHeld => ?_)
  clear hK K
  try simp only [Act.put, List.setIfInBounds_toArray, List.set_cons_zero, List.set_cons_succ]
  refine wpAnyH_take (i := 10) (v := ?v8) rfl (by kernel_rfl) (by kernel_rfl) (by kernel_rfl) (fun _ _ _ h => h) (Or.inl ⟨by rfl, ?hy8⟩) (by assumption) ?rest8
  case hy8 => (intro w hSw; (try dsimp only at hSw); go_simp; try (with_reducible rfl))
  try simp only [Act.put, List.getElem_toArray, List.getElem_cons_zero, List.getElem_cons_succ, List.setIfInBounds_toArray, List.set_cons_zero, List.set_cons_succ]
  refine wpAnyH_done (by kernel_rfl) ?_ _
  go_wp2_with fail
  go_ret
  exact ⟨rfl, bw_via (bw_via Hb2.out (below1 w2 _)) (Hb7.out)⟩

end Go.Proofs.YtfmgjcgcocidfaaGreatDoor
