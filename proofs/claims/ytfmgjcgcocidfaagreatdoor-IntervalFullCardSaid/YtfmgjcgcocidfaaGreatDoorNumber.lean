/-
  Number: the text of a rational.
-/
import Derived.Test.YtfmgjcgcocidfaaGreatDoorText
namespace Go.Proofs.YtfmgjcgcocidfaaGreatDoor
open Go.RowKit

set_option maxHeartbeats 2000000 in
theorem number_w (v : Value) (p : Int) (w : World) (h : RatV w v p 0) (hz : p.natAbs < 100) (h0 : p ≠ 0) : Calls Tryz.prog 31 #[v] w (Ret (.string ⟨(textI p).toArray⟩) w) := by
  obtain ⟨x, a, n, c, x', a', n', c', rfl, h⟩ := h.open
  have hB := Blk.new w #[.bool x, .slice a n c, .bool x', .slice a' n' c'] 50
  have HS := Lib.hid (fun w' (hb : Below (w.alloc (.cells #[.bool x, .slice a n c, .bool x', .slice a' n' c'] 50)).heap.size (w.alloc (.cells #[.bool x, .slice a n c, .bool x', .slice a' n' c'] 50)) w') => cells4 hB hb)
  have HK := Lib.hid (below1 w (.cells #[.bool x, .slice a n c, .bool x', .slice a' n' c'] 50))
  have H1 := Lib.hid (fun w' (hb : Below w.heap.size w w') => (whole_d _ p w' (h.mono hb)).mono fun _ _ h => h.ret)
  have H2 := Lib.hid (fun w' (hb : Below w.heap.size w w') => text_w _ p w' (h.parts.1.mono hb) hz h0)
  generalize (⟨(textI p).toArray⟩ : ByteArray) = D at *
  clear h hB hz h0
  go_enter Tryz.func31, Tryz.ntmps31
  go_wp2_with (first
    | (go_at_call 49; refine (H1.out _ HK.out).mono ?_; rintro e1 w1 ⟨rfl, hb1⟩; obtain ⟨c0, c1, c2, c3⟩ := HS.out _ hb1)
    | (go_at_call 57; refine (H2.out _ (HK.out.via hb1 HK.out.size)).mono ?_; rintro e2 w2 ⟨rfl, hb2⟩))
  go_ret
  exact ⟨rfl, HK.out.via (bw_via hb1 hb2) HK.out.size⟩

theorem textI_len (z : Int) (h : z.natAbs < 100) : (textI z).length ≤ 20 := by
  have : ∀ M < 100, (Lib.decDigits M).length ≤ 2 := by
    intro M hM
    rw [Lib.decDigits]
    split
    · simp
    · rw [Lib.decDigits, dif_pos (by omega)]; simp
  have := this _ h
  unfold textI
  split <;> simp <;> omega
set_option maxHeartbeats 4000000 in
theorem number_q (v : Value) (p q : Int) (w : World) (h : RatV w v p q) (hz : p.natAbs < 100) (h0 : p ≠ 0) (hq : q.natAbs < 100) (hq1 : 1 < q) : Calls Tryz.prog 31 #[v] w (Ret (.string (⟨(textI p).toArray⟩ ++ ⟨#[47]⟩ ++ ⟨(textI q).toArray⟩)) w) := by
  obtain ⟨x, a, n, c, x', a', n', c', rfl, h⟩ := h.open
  have hB := Blk.new w #[.bool x, .slice a n c, .bool x', .slice a' n' c'] 50
  have HS := Lib.hid (fun w' (hb : Below (w.alloc (.cells #[.bool x, .slice a n c, .bool x', .slice a' n' c'] 50)).heap.size (w.alloc (.cells #[.bool x, .slice a n c, .bool x', .slice a' n' c'] 50)) w') => cells4 hB hb)
  have HK := Lib.hid (below1 w (.cells #[.bool x, .slice a n c, .bool x', .slice a' n' c'] 50))
  have H1 := Lib.hid (fun w' (hb : Below w.heap.size w w') => whole_q _ p q w' (h.mono hb) (by omega))
  rw [decide_eq_false (show ¬ q = 1 by omega)] at H1
  have H2 := Lib.hid (fun w' (hb : Below w.heap.size w w') => text_w _ p w' (h.parts.1.mono hb) hz h0)
  have H3 := Lib.hid (fun w' (hb : Below w.heap.size w w') => text_w _ q w' (h.parts.2.mono hb) hq (by omega))
  have hs1 : (⟨(textI p).toArray⟩ : ByteArray).size ≤ 20 := by rw [Lib.size_eq]; exact textI_len p hz
  have hs2 : (⟨(textI q).toArray⟩ : ByteArray).size ≤ 20 := by rw [Lib.size_eq]; exact textI_len q hq
  generalize (⟨(textI p).toArray⟩ : ByteArray) = D at *
  generalize (⟨(textI q).toArray⟩ : ByteArray) = E at *
  have hcat : ¬ 9223372036854775807 < D.size + 1 := by omega
  have hcat2 : ¬ 9223372036854775807 < D.size + 1 + E.size := by omega
  clear h hB hz h0 hq hq1 hs1 hs2
  go_enter Tryz.func31, Tryz.ntmps31
  go_wp2_with (go_at_call 49; refine (H1.out _ HK.out).mono ?_; rintro e1 w1 ⟨rfl, hb1⟩; have Hb1 := Lib.hid hb1; clear hb1)
  refine wp_region_held_drew (S := (fun w' => w'.cell? ⟨w.heap.size, 0, none⟩ = some (.bool x) ∧ w'.cell? ⟨w.heap.size, 1, none⟩ = some (.slice a n c) ∧ w'.cell? ⟨w.heap.size, 2, none⟩ = some (.bool x') ∧ w'.cell? ⟨w.heap.size, 3, none⟩ = some (.slice a' n' c'))) (by kernel_rfl) (by exact HS.out _ (bw_via Hb1.out ((Below.refl _ _).dn 1))) (fun hHeld => ?_)
  refine wpAnyH_take (i := 0) (v := ?v1) rfl (by kernel_rfl) (by kernel_rfl) (by kernel_rfl) (fun _ _ _ h => h) (Or.inl ⟨by rfl, ?hy1⟩) (by assumption) ?rest1
  case hy1 => (intro w hSw; (try dsimp only at hSw); go_simp; try (with_reducible rfl))
  try simp only [Act.put, List.getElem_toArray, List.getElem_cons_zero, List.getElem_cons_succ, List.setIfInBounds_toArray, List.set_cons_zero, List.set_cons_succ]
  refine wpAnyH_take (i := 1) (v := ?v2) rfl (by kernel_rfl) (by kernel_rfl) (by kernel_rfl) (fun _ _ _ h => h) (Or.inl ⟨by rfl, ?hy2⟩) (by assumption) ?rest2
  case hy2 => (intro w hSw; (try dsimp only at hSw); go_simp; try (with_reducible rfl))
  try simp only [Act.put, List.getElem_toArray, List.getElem_cons_zero, List.getElem_cons_succ, List.setIfInBounds_toArray, List.set_cons_zero, List.set_cons_succ]
  refine wpAnyH_take (i := 4) (v := ?v3) rfl (by kernel_rfl) (by kernel_rfl) (by kernel_rfl) (fun _ _ _ h => h) (Or.inl ⟨by rfl, ?hy3⟩) (by assumption) ?rest3
  case hy3 => (intro w hSw; (try dsimp only at hSw); go_simp; try (with_reducible rfl))
  try simp only [Act.put, List.getElem_toArray, List.getElem_cons_zero, List.getElem_cons_succ, List.setIfInBounds_toArray, List.set_cons_zero, List.set_cons_succ]
  refine wpAnyH_take (i := 5) (v := ?v4) rfl (by kernel_rfl) (by kernel_rfl) (by kernel_rfl) (fun _ _ _ h => h) (Or.inl ⟨by rfl, ?hy4⟩) (by assumption) ?rest4
  case hy4 => (intro w hSw; (try dsimp only at hSw); go_simp; try (with_reducible rfl))
  try simp only [Act.put, List.getElem_toArray, List.getElem_cons_zero, List.getElem_cons_succ, List.setIfInBounds_toArray, List.set_cons_zero, List.set_cons_succ]
  refine wpAnyH_ready (rs := [2]) (by kernel_rfl) (by simp) ?_
  refine AllReadyH.cons rfl (fun K hK => ?_) AllReadyH.nil
  go_simp
  go_at_call 57
  refine (H2.out _ (HK.out.via (bw_via Hb1.out ((Below.refl _ _).dn 1)) HK.out.size)).mono ?_
  rintro e5 w2 ⟨rfl, hb2⟩
  have Hb2 := Lib.hid (bw_via ((Below.refl _ _).dn 1) hb2)
  clear hb2
  refine hK.out _ _ (by exact HS.out _ (bw_via Hb1.out (Hb2.out))) (fun hHeld => ?_)
  clear hK K
  try simp only [Act.put, List.setIfInBounds_toArray, List.set_cons_zero, List.set_cons_succ]
  refine wpAnyH_take (i := 3) (v := ?v5) rfl (by kernel_rfl) (by kernel_rfl) (by kernel_rfl) (fun _ _ _ h => h) (Or.inl ⟨by rfl, ?hy5⟩) (by assumption) ?rest5
  case hy5 => (intro w hSw; (try dsimp only at hSw); go_simp; try (with_reducible rfl))
  try simp only [Act.put, List.getElem_toArray, List.getElem_cons_zero, List.getElem_cons_succ, List.setIfInBounds_toArray, List.set_cons_zero, List.set_cons_succ]
  refine wpAnyH_ready (rs := [6]) (by kernel_rfl) (by simp) ?_
  refine AllReadyH.cons rfl (fun K hK => ?_) AllReadyH.nil
  go_simp
  go_at_call 57
  refine (H3.out _ (HK.out.via (bw_via Hb1.out (Hb2.out)) HK.out.size)).mono ?_
  rintro e5 w6 ⟨rfl, hb6⟩
  have Hb6 := Lib.hid (bw_via (Hb2.out) hb6)
  clear hb6
  refine hK.out _ _ (by exact HS.out _ (bw_via Hb1.out (Hb6.out))) (fun hHeld => ?_)
  clear hK K
  try simp only [Act.put, List.setIfInBounds_toArray, List.set_cons_zero, List.set_cons_succ]
  refine wpAnyH_take (i := 7) (v := ?v6) rfl (by kernel_rfl) (by kernel_rfl) (by kernel_rfl) (fun _ _ _ h => h) (Or.inl ⟨by rfl, ?hy6⟩) (by assumption) ?rest6
  case hy6 => (intro w hSw; (try dsimp only at hSw); go_simp; try (with_reducible rfl))
  try simp only [Act.put, List.getElem_toArray, List.getElem_cons_zero, List.getElem_cons_succ, List.setIfInBounds_toArray, List.set_cons_zero, List.set_cons_succ]
  refine wpAnyH_take (i := 8) (v := ?v7) rfl (by kernel_rfl) (by kernel_rfl) (by kernel_rfl) (fun _ _ _ h => h) (Or.inl ⟨by rfl, ?hy7⟩) (by assumption) ?rest7
  case hy7 => (intro w hSw; (try dsimp only at hSw); go_simp; try (with_reducible rfl))
  try simp only [Act.put, List.getElem_toArray, List.getElem_cons_zero, List.getElem_cons_succ, List.setIfInBounds_toArray, List.set_cons_zero, List.set_cons_succ]
  refine wpAnyH_done (by kernel_rfl) ?_ _
  go_wp2_with fail
  go_ret
  exact ⟨rfl, HK.out.via (bw_via Hb1.out Hb6.out) HK.out.size⟩

end Go.Proofs.YtfmgjcgcocidfaaGreatDoor
