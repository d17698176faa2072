/-
  Integers: Sub.
-/
import Derived.Test.YtfmgjcgcocidfaaGreatDoorAdd
namespace Go.Proofs.YtfmgjcgcocidfaaGreatDoor
open Go.RowKit

set_option maxHeartbeats 4000000 in
theorem sub_any (u v : Value) (y z : Int) (w : World) (h : IntV w u y) (h' : IntV w v z) (hl1 : (limbs y.natAbs).length < 1000000) (hl2 : (limbs z.natAbs).length < 1000000) :
    Calls Tryz.prog 122 #[u, v] w (RetP (fun r w' => IntV w' r (y - z)) w) := by
  obtain ⟨x, a, k, c, rfl, h⟩ := h.open
  obtain ⟨x', a', k', c', rfl, h'⟩ := h'.open
  have hK := below3 w (.cells #[.bool x, .slice a k c] 48) (.cells #[.bool x', .slice a' k' c'] 48) (.cells #[.bool false, .slice none 0 0] 48)
  have hA : Blk (((w.alloc (.cells #[.bool x, .slice a k c] 48)).alloc (.cells #[.bool x', .slice a' k' c'] 48)).alloc (.cells #[.bool false, .slice none 0 0] 48)) w.heap.size #[.bool x, .slice a k c] 48 := ((Blk.new w _ _).old _).old _
  have hB : Blk (((w.alloc (.cells #[.bool x, .slice a k c] 48)).alloc (.cells #[.bool x', .slice a' k' c'] 48)).alloc (.cells #[.bool false, .slice none 0 0] 48)) (w.heap.size + 1) #[.bool x', .slice a' k' c'] 48 := by
    have h := (Blk.new (w.alloc (.cells #[.bool x, .slice a k c] 48)) #[.bool x', .slice a' k' c'] 48).old (.cells #[.bool false, .slice none 0 0] 48)
    simpa using h
  have hR : Blk (((w.alloc (.cells #[.bool x, .slice a k c] 48)).alloc (.cells #[.bool x', .slice a' k' c'] 48)).alloc (.cells #[.bool false, .slice none 0 0] 48)) (w.heap.size + 1 + 1) #[.bool false, .slice none 0 0] 48 := by
    have h := Blk.new ((w.alloc (.cells #[.bool x, .slice a k c] 48)).alloc (.cells #[.bool x', .slice a' k' c'] 48)) #[.bool false, .slice none 0 0] 48
    simpa using h
  have HL := Lib.hid (fun w' (hb : Below w.heap.size w w') => h.mono hb)
  have HN := Lib.hid (fun w' (hb : Below w.heap.size w w') => neg_any _ _ w' (h'.mono hb))
  have HD := Lib.hid (fun w' v' (hb : Below w.heap.size w w') (hv : IntV w' v' (-z)) => add_any _ v' y (-z) w' (h.mono hb) hv hl1 (by rw [Int.natAbs_neg]; exact hl2))
  have HK := Lib.hid hK
  have HSc := Lib.hid (fun w' (hb : Below (((w.alloc (.cells #[.bool x, .slice a k c] 48)).alloc (.cells #[.bool x', .slice a' k' c'] 48)).alloc (.cells #[.bool false, .slice none 0 0] 48)).heap.size (((w.alloc (.cells #[.bool x, .slice a k c] 48)).alloc (.cells #[.bool x', .slice a' k' c'] 48)).alloc (.cells #[.bool false, .slice none 0 0] 48)) w') => And.intro (hA.below hb |> blk2v).1.1 (And.intro (hA.below hb |> blk2v).1.2 (And.intro (hB.below hb |> blk2v).1.1 (hB.below hb |> blk2v).1.2)))
  have HR := Lib.hid hR
  clear h h' hK hA hB hR
  have hbs : Below (((w.alloc (.cells #[.bool x, .slice a k c] 48)).alloc (.cells #[.bool x', .slice a' k' c'] 48)).alloc (.cells #[.bool false, .slice none 0 0] 48)).heap.size (((w.alloc (.cells #[.bool x, .slice a k c] 48)).alloc (.cells #[.bool x', .slice a' k' c'] 48)).alloc (.cells #[.bool false, .slice none 0 0] 48)) (((w.alloc (.cells #[.bool x, .slice a k c] 48)).alloc (.cells #[.bool x', .slice a' k' c'] 48)).alloc (.cells #[.bool false, .slice none 0 0] 48)) := Below.refl _ _
  go_enter Tryz.func122, Tryz.ntmps122
  go_wp2_with fail
  refine wp_region_pop (S := (fun w' => w'.cell? ⟨w.heap.size, 0, none⟩ = some (.bool x) ∧ w'.cell? ⟨w.heap.size, 1, none⟩ = some (.slice a k c) ∧ w'.cell? ⟨w.heap.size + 1, 0, none⟩ = some (.bool x') ∧ w'.cell? ⟨w.heap.size + 1, 1, none⟩ = some (.slice a' k' c'))) 4 (by kernel_rfl) (by kernel_rfl) (by exact HSc.out _ (hbs.dn 1)) (fun hHeld => ?_)
  simp only [List.take_succ_cons, List.take_zero, List.drop_succ_cons, List.drop_zero]
  refine wpAnyH_take (i := 0) (v := ?v1) rfl (by kernel_rfl) (by kernel_rfl) (by kernel_rfl) (fun _ _ _ h => h) (Or.inl ⟨by rfl, ?hy1⟩) (by assumption) ?rest1
  case hy1 => (intro w hSw; (try dsimp only at hSw); go_simp; try (with_reducible rfl))
  try simp only [Act.put, List.getElem_toArray, List.getElem_cons_zero, List.getElem_cons_succ, List.setIfInBounds_toArray, List.set_cons_zero, List.set_cons_succ]
  refine wpAnyH_take (i := 1) (v := ?v2) rfl (by kernel_rfl) (by kernel_rfl) (by kernel_rfl) (fun _ _ _ h => h) (Or.inl ⟨by rfl, ?hy2⟩) (by assumption) ?rest2
  case hy2 => (intro w hSw; (try dsimp only at hSw); go_simp; try (with_reducible rfl))
  try simp only [Act.put, List.getElem_toArray, List.getElem_cons_zero, List.getElem_cons_succ, List.setIfInBounds_toArray, List.set_cons_zero, List.set_cons_succ]
  refine wpAnyH_ready (rs := [2]) (by kernel_rfl) (by simp) ?_
  refine AllReadyH.cons rfl (fun K hK => ?_) AllReadyH.nil
  go_simp
  go_at_call 85
  refine (HN.out _ (HK.out.via (hbs.dn 1) HK.out.size)).mono ?_
  rintro e2 w4 ⟨v4, rfl, hv4, hb4⟩
  have Hv4 := Lib.hid hv4
  have Hb4 := Lib.hid (hbs.via (undrew hb4) hbs.size)
  clear hv4 hb4
  refine hK.out _ _ (by exact HSc.out _ Hb4.out) (fun hHeld => ?_)
  clear hK K
  try simp only [Act.put, List.setIfInBounds_toArray, List.set_cons_zero, List.set_cons_succ]
  refine wpAnyH_ready (rs := [3]) (by kernel_rfl) (by simp) ?_
  refine AllReadyH.cons rfl (fun K hK => ?_) AllReadyH.nil
  go_simp
  go_at_call 54
  refine (HD.out _ _ (HK.out.via Hb4.out HK.out.size) Hv4.out).mono ?_
  rintro e2 w5 ⟨v5, rfl, hv5, hb5⟩
  obtain ⟨x5, a5, k5, c5, rfl, hv5⟩ := hv5.open
  have Hv5 := Lib.hid hv5
  have Hb5 := Lib.hid (Hb4.out.via hb5 Hb4.out.size)
  clear hv5 hb5
  refine hK.out _ _ (by exact HSc.out _ Hb5.out) (fun hHeld => ?_)
  clear hK K
  try simp only [Act.put, List.setIfInBounds_toArray, List.set_cons_zero, List.set_cons_succ]
  refine wpAnyH_done (by kernel_rfl) ?_ _
  simp only [Exit.then]
  have hr := HR.out.below Hb5.out
  obtain ⟨⟨r0, r1⟩, f0, f1⟩ := blk2v hr
  obtain ⟨hv6, hb6⟩ := IntV.put2 Hv5.out hr
  have Hv6 := Lib.hid hv6
  have Hb6 := Lib.hid hb6
  have hbel := ((HK.out.via Hb5.out HK.out.size).setCell (p := ⟨w.heap.size + 1 + 1, 0, none⟩) (by show w.heap.size ≤ w.heap.size + 1 + 1; omega) (.bool x5)).setCell (p := ⟨w.heap.size + 1 + 1, 1, none⟩) (by show w.heap.size ≤ w.heap.size + 1 + 1; omega) (.slice a5 k5 c5)
  have Hbel := Lib.hid hbel
  clear hr hv6 hb6 hbel
  go_wp2_with fail
  obtain ⟨⟨q0, q1⟩, -⟩ := blk2v Hb6.out
  refine bodyPost_ret (v := .agg #[.bool x5, .slice a5 k5 c5]) (by simp [results, Tryz.results122, go_sem, q0, q1]) rfl ⟨_, rfl, ?_, Hbel.out⟩
  rw [Int.sub_eq_add_neg]
  exact Hv6.out

end Go.Proofs.YtfmgjcgcocidfaaGreatDoor
