/-
  Rationals: Add, Mul at whole numbers; Den, reduced, Div.
-/
import Derived.Test.YtfmgjcgcocidfaaGreatDoorRat2
namespace Go.Proofs.YtfmgjcgcocidfaaGreatDoor
open Go.RowKit

set_option maxHeartbeats 4000000 in
theorem radd_w (u v : Value) (p q : Int) (w : World) (h : RatV w u p 0) (h' : RatV w v q 0) (hl1 : (limbs p.natAbs).length < 1000000) (hl2 : (limbs q.natAbs).length < 1000000) : Calls Tryz.prog 28 #[u, v] w (RetP (fun r w' => RatV w' r (p + q) 0) w) := by
  obtain ⟨x, a, n, c, x', a', n', c', rfl, h⟩ := h.open
  obtain ⟨y, e, m, k, y', e', m', k', rfl, h'⟩ := h'.open
  have hA : Blk (((w.alloc (.cells #[.bool x, .slice a n c, .bool x', .slice a' n' c'] 50)).alloc (.cells #[.bool y, .slice e m k, .bool y', .slice e' m' k'] 50)).alloc (.cells #[.bool false, .slice none 0 0, .bool false, .slice none 0 0] 50)) w.heap.size #[.bool x, .slice a n c, .bool x', .slice a' n' c'] 50 := ((Blk.new w _ _).old _).old _
  have hB : Blk (((w.alloc (.cells #[.bool x, .slice a n c, .bool x', .slice a' n' c'] 50)).alloc (.cells #[.bool y, .slice e m k, .bool y', .slice e' m' k'] 50)).alloc (.cells #[.bool false, .slice none 0 0, .bool false, .slice none 0 0] 50)) (w.heap.size + 1) #[.bool y, .slice e m k, .bool y', .slice e' m' k'] 50 := by
    have h := (Blk.new (w.alloc (.cells #[.bool x, .slice a n c, .bool x', .slice a' n' c'] 50)) #[.bool y, .slice e m k, .bool y', .slice e' m' k'] 50).old (.cells #[.bool false, .slice none 0 0, .bool false, .slice none 0 0] 50)
    simpa using h
  have hR : Blk (((w.alloc (.cells #[.bool x, .slice a n c, .bool x', .slice a' n' c'] 50)).alloc (.cells #[.bool y, .slice e m k, .bool y', .slice e' m' k'] 50)).alloc (.cells #[.bool false, .slice none 0 0, .bool false, .slice none 0 0] 50)) (w.heap.size + 1 + 1) #[.bool false, .slice none 0 0, .bool false, .slice none 0 0] 50 := by
    have h := Blk.new ((w.alloc (.cells #[.bool x, .slice a n c, .bool x', .slice a' n' c'] 50)).alloc (.cells #[.bool y, .slice e m k, .bool y', .slice e' m' k'] 50)) #[.bool false, .slice none 0 0, .bool false, .slice none 0 0] 50
    simpa using h
  have HA := Lib.hid (fun w' (hb : Below (((w.alloc (.cells #[.bool x, .slice a n c, .bool x', .slice a' n' c'] 50)).alloc (.cells #[.bool y, .slice e m k, .bool y', .slice e' m' k'] 50)).alloc (.cells #[.bool false, .slice none 0 0, .bool false, .slice none 0 0] 50)).heap.size (((w.alloc (.cells #[.bool x, .slice a n c, .bool x', .slice a' n' c'] 50)).alloc (.cells #[.bool y, .slice e m k, .bool y', .slice e' m' k'] 50)).alloc (.cells #[.bool false, .slice none 0 0, .bool false, .slice none 0 0] 50)) w') => cells4 hA hb)
  have HB := Lib.hid (fun w' (hb : Below (((w.alloc (.cells #[.bool x, .slice a n c, .bool x', .slice a' n' c'] 50)).alloc (.cells #[.bool y, .slice e m k, .bool y', .slice e' m' k'] 50)).alloc (.cells #[.bool false, .slice none 0 0, .bool false, .slice none 0 0] 50)).heap.size (((w.alloc (.cells #[.bool x, .slice a n c, .bool x', .slice a' n' c'] 50)).alloc (.cells #[.bool y, .slice e m k, .bool y', .slice e' m' k'] 50)).alloc (.cells #[.bool false, .slice none 0 0, .bool false, .slice none 0 0] 50)) w') => cells4 hB hb)
  have HR := Lib.hid hR
  have HK := Lib.hid (below3 w (.cells #[.bool x, .slice a n c, .bool x', .slice a' n' c'] 50) (.cells #[.bool y, .slice e m k, .bool y', .slice e' m' k'] 50) (.cells #[.bool false, .slice none 0 0, .bool false, .slice none 0 0] 50))
  have H1 := Lib.hid (fun w' (hb : Below w.heap.size w w') => (whole_d _ p w' (h.mono hb)).mono fun _ _ h => h.ret)
  have H2 := Lib.hid (fun w' (hb : Below w.heap.size w w') => (whole_d _ q w' (h'.mono hb)).mono fun _ _ h => h.ret)
  have H3 := Lib.hid (fun w' (hb : Below w.heap.size w w') => add_any _ _ p q w' (h.parts.1.mono hb) (h'.parts.1.mono hb) hl1 hl2)
  clear h h' hA hB hR hl1 hl2
  go_enter Tryz.func28, Tryz.ntmps28
  go_wp2_with (first
    | (go_at_call 49; refine (H2.out _ (HK.out.via hb1 HK.out.size)).mono ?_; rintro e2 w2 ⟨rfl, hb2⟩; obtain ⟨c0, c1, c2, c3⟩ := HA.out _ (bw_via hb1 hb2); obtain ⟨d0, d1, d2, d3⟩ := HB.out _ (bw_via hb1 hb2))
    | (go_at_call 49; refine (H1.out _ HK.out).mono ?_; rintro e1 w1 ⟨rfl, hb1⟩; obtain ⟨d0, d1, d2, d3⟩ := HB.out _ hb1)
    | (go_at_call 54; refine (H3.out _ (HK.out.via (bw_via hb1 hb2) HK.out.size)).mono ?_; rintro e3 w3 ⟨v5, rfl, hv, hb3⟩; obtain ⟨x5, a5, n5, c5, rfl, hv⟩ := hv.open; have hr := HR.out.below (bw_via hb1 (bw_via hb2 hb3)); obtain ⟨⟨r0, r1, r2, r3⟩, f0, f1, f2, f3⟩ := blk4v hr; obtain ⟨hv6, hb6⟩ := RatV.put4 (RatV.whole0 hv) hr; have Hv6 := Lib.hid hv6; have Hb6 := Lib.hid hb6; have Hbel := Lib.hid (put_below4 (b := w.heap.size + 1 + 1) (.bool x5) (.slice a5 n5 c5) (.bool false) (.slice none 0 0) (HK.out.via (bw_via hb1 (bw_via hb2 hb3)) HK.out.size) (by omega)); clear hv6 hb6; clear hv hr))
  obtain ⟨⟨q0, q1, q2, q3⟩, -⟩ := blk4v Hb6.out
  refine bodyPost_ret (v := .agg #[.bool x5, .slice a5 n5 c5, .bool false, .slice none 0 0]) (by simp [results, Tryz.results28, go_sem, q0, q1, q2, q3]) rfl ⟨_, rfl, ?_, Hbel.out⟩
  exact Hv6.out

set_option maxHeartbeats 4000000 in
theorem rmul_w (u v : Value) (p q : Int) (w : World) (h : RatV w u p 0) (h' : RatV w v q 0) (hl1 : (limbs p.natAbs).length < 1000000) (hl2 : (limbs q.natAbs).length < 1000000) : Calls Tryz.prog 35 #[u, v] w (RetP (fun r w' => RatV w' r (p * q) 0) w) := by
  obtain ⟨x, a, n, c, x', a', n', c', rfl, h⟩ := h.open
  obtain ⟨y, e, m, k, y', e', m', k', rfl, h'⟩ := h'.open
  have hA : Blk (((w.alloc (.cells #[.bool x, .slice a n c, .bool x', .slice a' n' c'] 50)).alloc (.cells #[.bool y, .slice e m k, .bool y', .slice e' m' k'] 50)).alloc (.cells #[.bool false, .slice none 0 0, .bool false, .slice none 0 0] 50)) w.heap.size #[.bool x, .slice a n c, .bool x', .slice a' n' c'] 50 := ((Blk.new w _ _).old _).old _
  have hB : Blk (((w.alloc (.cells #[.bool x, .slice a n c, .bool x', .slice a' n' c'] 50)).alloc (.cells #[.bool y, .slice e m k, .bool y', .slice e' m' k'] 50)).alloc (.cells #[.bool false, .slice none 0 0, .bool false, .slice none 0 0] 50)) (w.heap.size + 1) #[.bool y, .slice e m k, .bool y', .slice e' m' k'] 50 := by
    have h := (Blk.new (w.alloc (.cells #[.bool x, .slice a n c, .bool x', .slice a' n' c'] 50)) #[.bool y, .slice e m k, .bool y', .slice e' m' k'] 50).old (.cells #[.bool false, .slice none 0 0, .bool false, .slice none 0 0] 50)
    simpa using h
  have hR : Blk (((w.alloc (.cells #[.bool x, .slice a n c, .bool x', .slice a' n' c'] 50)).alloc (.cells #[.bool y, .slice e m k, .bool y', .slice e' m' k'] 50)).alloc (.cells #[.bool false, .slice none 0 0, .bool false, .slice none 0 0] 50)) (w.heap.size + 1 + 1) #[.bool false, .slice none 0 0, .bool false, .slice none 0 0] 50 := by
    have h := Blk.new ((w.alloc (.cells #[.bool x, .slice a n c, .bool x', .slice a' n' c'] 50)).alloc (.cells #[.bool y, .slice e m k, .bool y', .slice e' m' k'] 50)) #[.bool false, .slice none 0 0, .bool false, .slice none 0 0] 50
    simpa using h
  have HA := Lib.hid (fun w' (hb : Below (((w.alloc (.cells #[.bool x, .slice a n c, .bool x', .slice a' n' c'] 50)).alloc (.cells #[.bool y, .slice e m k, .bool y', .slice e' m' k'] 50)).alloc (.cells #[.bool false, .slice none 0 0, .bool false, .slice none 0 0] 50)).heap.size (((w.alloc (.cells #[.bool x, .slice a n c, .bool x', .slice a' n' c'] 50)).alloc (.cells #[.bool y, .slice e m k, .bool y', .slice e' m' k'] 50)).alloc (.cells #[.bool false, .slice none 0 0, .bool false, .slice none 0 0] 50)) w') => cells4 hA hb)
  have HB := Lib.hid (fun w' (hb : Below (((w.alloc (.cells #[.bool x, .slice a n c, .bool x', .slice a' n' c'] 50)).alloc (.cells #[.bool y, .slice e m k, .bool y', .slice e' m' k'] 50)).alloc (.cells #[.bool false, .slice none 0 0, .bool false, .slice none 0 0] 50)).heap.size (((w.alloc (.cells #[.bool x, .slice a n c, .bool x', .slice a' n' c'] 50)).alloc (.cells #[.bool y, .slice e m k, .bool y', .slice e' m' k'] 50)).alloc (.cells #[.bool false, .slice none 0 0, .bool false, .slice none 0 0] 50)) w') => cells4 hB hb)
  have HR := Lib.hid hR
  have HK := Lib.hid (below3 w (.cells #[.bool x, .slice a n c, .bool x', .slice a' n' c'] 50) (.cells #[.bool y, .slice e m k, .bool y', .slice e' m' k'] 50) (.cells #[.bool false, .slice none 0 0, .bool false, .slice none 0 0] 50))
  have H1 := Lib.hid (fun w' (hb : Below w.heap.size w w') => (whole_d _ p w' (h.mono hb)).mono fun _ _ h => h.ret)
  have H2 := Lib.hid (fun w' (hb : Below w.heap.size w w') => (whole_d _ q w' (h'.mono hb)).mono fun _ _ h => h.ret)
  have H3 := Lib.hid (fun w' (hb : Below w.heap.size w w') => mul_any _ _ p q w' (h.parts.1.mono hb) (h'.parts.1.mono hb) hl1 hl2)
  clear h h' hA hB hR hl1 hl2
  go_enter Tryz.func35, Tryz.ntmps35
  go_wp2_with (first
    | (go_at_call 49; refine (H2.out _ (HK.out.via hb1 HK.out.size)).mono ?_; rintro e2 w2 ⟨rfl, hb2⟩; obtain ⟨c0, c1, c2, c3⟩ := HA.out _ (bw_via hb1 hb2); obtain ⟨d0, d1, d2, d3⟩ := HB.out _ (bw_via hb1 hb2))
    | (go_at_call 49; refine (H1.out _ HK.out).mono ?_; rintro e1 w1 ⟨rfl, hb1⟩; obtain ⟨d0, d1, d2, d3⟩ := HB.out _ hb1)
    | (go_at_call 51; refine (H3.out _ (HK.out.via (bw_via hb1 hb2) HK.out.size)).mono ?_; rintro e3 w3 ⟨v5, rfl, hv, hb3⟩; obtain ⟨x5, a5, n5, c5, rfl, hv⟩ := hv.open; have hr := HR.out.below (bw_via hb1 (bw_via hb2 hb3)); obtain ⟨⟨r0, r1, r2, r3⟩, f0, f1, f2, f3⟩ := blk4v hr; obtain ⟨hv6, hb6⟩ := RatV.put4 (RatV.whole0 hv) hr; have Hv6 := Lib.hid hv6; have Hb6 := Lib.hid hb6; have Hbel := Lib.hid (put_below4 (b := w.heap.size + 1 + 1) (.bool x5) (.slice a5 n5 c5) (.bool false) (.slice none 0 0) (HK.out.via (bw_via hb1 (bw_via hb2 hb3)) HK.out.size) (by omega)); clear hv6 hb6; clear hv hr))
  obtain ⟨⟨q0, q1, q2, q3⟩, -⟩ := blk4v Hb6.out
  refine bodyPost_ret (v := .agg #[.bool x5, .slice a5 n5 c5, .bool false, .slice none 0 0]) (by simp [results, Tryz.results35, go_sem, q0, q1, q2, q3]) rfl ⟨_, rfl, ?_, Hbel.out⟩
  exact Hv6.out

set_option maxHeartbeats 2000000 in
theorem den0_any (v : Value) (p : Int) (w : World) (h : RatV w v p 0) : Calls Tryz.prog 52 #[v] w (RetP (fun r w' => IntV w' r 1) w) := by
  obtain ⟨x, a, n, c, x', a', n', c', rfl, h⟩ := h.open
  have hR : Blk ((w.alloc (.cells #[.bool x, .slice a n c, .bool x', .slice a' n' c'] 50)).alloc (.cells #[.bool false, .slice none 0 0] 48)) (w.heap.size + 1) #[.bool false, .slice none 0 0] 48 := by
    have h := Blk.new (w.alloc (.cells #[.bool x, .slice a n c, .bool x', .slice a' n' c'] 50)) #[.bool false, .slice none 0 0] 48
    simpa using h
  have HR := Lib.hid hR
  have HK := Lib.hid (below2 w (.cells #[.bool x, .slice a n c, .bool x', .slice a' n' c'] 50) (.cells #[.bool false, .slice none 0 0] 48))
  have H1 := Lib.hid (sign_any _ 0 ((w.alloc (.cells #[.bool x, .slice a n c, .bool x', .slice a' n' c'] 50)).alloc (.cells #[.bool false, .slice none 0 0] 48)) (h.parts.2.mono HK.out))
  rw [show Int.sign 0 = 0 from rfl] at H1
  have H2 := Lib.hid (fun w' => one_any w')
  clear h hR
  go_enter Tryz.func52, Tryz.ntmps52
  go_wp2_with (first
    | (go_at_call 59; refine (H1.out).mono ?_; rintro e1 w1 ⟨rfl, hb1⟩)
    | (go_at_call 79; refine (H2.out _).mono ?_; rintro e2 w2 ⟨v5, rfl, hv, hb2⟩; obtain ⟨x5, a5, k5, c5, rfl, hv⟩ := hv.open; have hr := HR.out.below (bw_via hb1 hb2); obtain ⟨⟨r0, r1⟩, f0, f1⟩ := blk2v hr; obtain ⟨hv6, hb6⟩ := IntV.put2 hv hr; have Hv6 := Lib.hid hv6; have Hb6 := Lib.hid hb6; have Hbel := Lib.hid (put_below (b := w.heap.size + 1) x5 a5 k5 c5 (HK.out.via (bw_via hb1 hb2) HK.out.size) (by omega)); clear hr hv6 hb6 hv))
  obtain ⟨⟨q0, q1⟩, -⟩ := blk2v Hb6.out
  exact bodyPost_ret (v := .agg #[.bool x5, .slice a5 k5 c5]) (by simp [results, Tryz.results52, go_sem, q0, q1]) rfl ⟨_, rfl, Hv6.out, Hbel.out⟩

end Go.Proofs.YtfmgjcgcocidfaaGreatDoor
