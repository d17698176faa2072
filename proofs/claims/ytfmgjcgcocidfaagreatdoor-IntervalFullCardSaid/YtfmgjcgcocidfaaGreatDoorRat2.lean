/-
  Rationals: From, Sign, Den, Neg, Compare, Add, Mul at whole numbers.
-/
import Derived.Test.YtfmgjcgcocidfaaGreatDoorRat
namespace Go.Proofs.YtfmgjcgcocidfaaGreatDoor
open Go.RowKit

theorem noU4 {x x' : Bool} {a a' : Option Addr} {n c n' c' : Nat} : NoU #[.bool x, .slice a n c, .bool x', .slice a' n' c'] := by
  intro v hv d
  simp at hv
  rcases hv with rfl | rfl | rfl | rfl <;> simp
theorem RatV.put {w : World} {v : Value} {p q : Int} (h : RatV w v p q) {R i : Nat} {cs : Array Value} {T : TypeId} (hB : Blk w R cs T) (hcs : NoU cs) (u : Value) : RatV (w.setCell ⟨R, i, none⟩ u) v p q := by
  obtain ⟨x, a, n, c, x', a', n', c', hv, h1, h2⟩ := h
  exact ⟨x, a, n, c, x', a', n', c', hv, h1.put hB hcs u, h2.put hB hcs u⟩
theorem RatV.put4 {w : World} {p q : Int} {R n c n' c' m k m' k' : Nat} {x x' y y' : Bool} {a a' e e' : Option Addr} {T : TypeId} (h : RatV w (.agg #[.bool x, .slice a n c, .bool x', .slice a' n' c']) p q) (hB : Blk w R #[.bool y, .slice e m k, .bool y', .slice e' m' k'] T) :
    RatV ((((w.setCell ⟨R, 0, none⟩ (.bool x)).setCell ⟨R, 1, none⟩ (.slice a n c)).setCell ⟨R, 2, none⟩ (.bool x')).setCell ⟨R, 3, none⟩ (.slice a' n' c')) (.agg #[.bool x, .slice a n c, .bool x', .slice a' n' c']) p q ∧
    Blk ((((w.setCell ⟨R, 0, none⟩ (.bool x)).setCell ⟨R, 1, none⟩ (.slice a n c)).setCell ⟨R, 2, none⟩ (.bool x')).setCell ⟨R, 3, none⟩ (.slice a' n' c')) R #[.bool x, .slice a n c, .bool x', .slice a' n' c'] T := by
  have h1 := hB.set 0 (.bool x)
  have h2 := h1.set 1 (.slice a n c)
  have h3 := h2.set 2 (.bool x')
  have h4 := h3.set 3 (.slice a' n' c')
  simp at h1 h2 h3 h4
  exact ⟨(((h.put hB noU4 _).put h1 noU4 _).put h2 noU4 _).put h3 noU4 _, h4⟩
theorem put_below4 {B b : Nat} {w w1 : World} (v0 v1 v2 v3 : Value) (h : Below B w w1) (hB : B ≤ b) : Below B w ((((w1.setCell ⟨b, 0, none⟩ v0).setCell ⟨b, 1, none⟩ v1).setCell ⟨b, 2, none⟩ v2).setCell ⟨b, 3, none⟩ v3) :=
  (((h.setCell (p := ⟨b, 0, none⟩) hB _).setCell (p := ⟨b, 1, none⟩) hB _).setCell (p := ⟨b, 2, none⟩) hB _).setCell (p := ⟨b, 3, none⟩) hB _
theorem blk4v {w : World} {b : Nat} {x0 x1 x2 x3 : Value} {T : TypeId} (h : Blk w b #[x0, x1, x2, x3] T) :
    (w.cell? ⟨b, 0, none⟩ = some x0 ∧ w.cell? ⟨b, 1, none⟩ = some x1 ∧ w.cell? ⟨b, 2, none⟩ = some x2 ∧ w.cell? ⟨b, 3, none⟩ = some x3) ∧ w.frozen? ⟨b, 0, none⟩ = false ∧ w.frozen? ⟨b, 1, none⟩ = false ∧ w.frozen? ⟨b, 2, none⟩ = false ∧ w.frozen? ⟨b, 3, none⟩ = false :=
  ⟨⟨by rw [h.cell]; rfl, by rw [h.cell]; rfl, by rw [h.cell]; rfl, by rw [h.cell]; rfl⟩, h.free 0, h.free 1, h.free 2, h.free 3⟩
theorem RatV.open {w : World} {v : Value} {p q : Int} (h : RatV w v p q) : ∃ x a n c x' a' n' c', v = .agg #[.bool x, .slice a n c, .bool x', .slice a' n' c'] ∧ RatV w (.agg #[.bool x, .slice a n c, .bool x', .slice a' n' c']) p q := by
  obtain ⟨x, a, n, c, x', a', n', c', rfl, h1, h2⟩ := h
  exact ⟨x, a, n, c, x', a', n', c', rfl, x, a, n, c, x', a', n', c', rfl, h1, h2⟩
theorem RatV.parts {w : World} {p q : Int} {n c n' c' : Nat} {x x' : Bool} {a a' : Option Addr} (h : RatV w (.agg #[.bool x, .slice a n c, .bool x', .slice a' n' c']) p q) : IntV w (.agg #[.bool x, .slice a n c]) p ∧ IntV w (.agg #[.bool x', .slice a' n' c']) q := by
  obtain ⟨x, a, n, c, x', a', n', c', hv, h1, h2⟩ := h
  cases hv
  exact ⟨h1, h2⟩
theorem RatV.whole0 {w : World} {p : Int} {n c : Nat} {x : Bool} {a : Option Addr} (h : IntV w (.agg #[.bool x, .slice a n c]) p) : RatV w (.agg #[.bool x, .slice a n c, .bool false, .slice none 0 0]) p 0 := ⟨x, a, n, c, _, _, _, _, rfl, h, IntV.zero w⟩
theorem RatV.zero (w : World) : RatV w (.agg #[.bool false, .slice none 0 0, .bool false, .slice none 0 0]) 0 0 := RatV.whole0 (IntV.zero w)

set_option maxHeartbeats 2000000 in
theorem rfrom_any (n : Int) (w : World) (h1 : -9223372036854775808 ≤ n) (h2 : n ≤ 9223372036854775807) :
    Calls Tryz.prog 27 #[.int .i64 n] w (RetP (fun v w' => RatV w' v n 0) w) := by
  have H := Lib.hid (fun w' => from_any n w' h1 h2)
  have HR := Lib.hid (Blk.new w #[.bool false, .slice none 0 0, .bool false, .slice none 0 0] 50)
  clear h1 h2
  go_enter Tryz.func27, Tryz.ntmps27
  go_wp2_with (go_at_call 53; refine (H.out _).mono ?_; rintro e w1 ⟨v, rfl, hv, hb⟩; obtain ⟨x5, a5, n5, c5, rfl, hv⟩ := hv.open; have hr := HR.out.below hb; obtain ⟨⟨r0, r1, r2, r3⟩, f0, f1, f2, f3⟩ := blk4v hr; obtain ⟨hv6, hb6⟩ := RatV.put4 (RatV.whole0 hv) hr; have Hv6 := Lib.hid hv6; have Hb6 := Lib.hid hb6; have Hbel := Lib.hid (put_below4 (b := w.heap.size) (.bool x5) (.slice a5 n5 c5) (.bool false) (.slice none 0 0) ((below1 w (.cells #[.bool false, .slice none 0 0, .bool false, .slice none 0 0] 50)).via hb (below1 w _).size) (by omega)); clear hv6 hb6; clear hv hb hr)
  obtain ⟨⟨q0, q1, q2, q3⟩, -⟩ := blk4v Hb6.out
  refine bodyPost_ret (v := .agg #[.bool x5, .slice a5 n5 c5, .bool false, .slice none 0 0]) (by simp [results, Tryz.results27, go_sem, q0, q1, q2, q3]) rfl ⟨_, rfl, ?_, Hbel.out⟩
  exact Hv6.out

set_option maxHeartbeats 2000000 in
theorem rsign_any (v : Value) (p q : Int) (w : World) (h : RatV w v p q) : Calls Tryz.prog 33 #[v] w (Ret (.int .i64 p.sign) w) := by
  obtain ⟨x, a, n, c, x', a', n', c', rfl, h1, -⟩ := h
  have hB := Blk.new w #[.bool x, .slice a n c, .bool x', .slice a' n' c'] 50
  have H := Lib.hid (sign_any _ p _ (h1.mono (below1 w (.cells #[.bool x, .slice a n c, .bool x', .slice a' n' c'] 50))))
  generalize p.sign = sg at *
  clear h1
  go_enter Tryz.func33, Tryz.ntmps33
  go_wp2_with (go_at_call 59; refine (H.out).mono ?_; rintro e w1 ⟨rfl, hb⟩)
  go_ret
  exact ⟨rfl, (below1 w _).via hb (below1 w _).size⟩

set_option maxHeartbeats 4000000 in
theorem rcmp_d (u v : Value) (p q : Int) (w : World) (h : RatV w u p 0) (h' : RatV w v q 0) : Calls Tryz.prog 25 #[u, v] w (RetD (.int .i64 (cmpZ p q)) w) := by
  obtain ⟨x, a, n, c, x', a', n', c', rfl, h⟩ := h.open
  obtain ⟨y, e, m, k, y', e', m', k', rfl, h'⟩ := h'.open
  have hA : Blk ((w.alloc (.cells #[.bool x, .slice a n c, .bool x', .slice a' n' c'] 50)).alloc (.cells #[.bool y, .slice e m k, .bool y', .slice e' m' k'] 50)) w.heap.size #[.bool x, .slice a n c, .bool x', .slice a' n' c'] 50 := (Blk.new w _ _).old _
  have hB : Blk ((w.alloc (.cells #[.bool x, .slice a n c, .bool x', .slice a' n' c'] 50)).alloc (.cells #[.bool y, .slice e m k, .bool y', .slice e' m' k'] 50)) (w.heap.size + 1) #[.bool y, .slice e m k, .bool y', .slice e' m' k'] 50 := by
    have h := Blk.new (w.alloc (.cells #[.bool x, .slice a n c, .bool x', .slice a' n' c'] 50)) #[.bool y, .slice e m k, .bool y', .slice e' m' k'] 50
    simpa using h
  have HA := Lib.hid (fun w' (hb : Below ((w.alloc (.cells #[.bool x, .slice a n c, .bool x', .slice a' n' c'] 50)).alloc (.cells #[.bool y, .slice e m k, .bool y', .slice e' m' k'] 50)).heap.size ((w.alloc (.cells #[.bool x, .slice a n c, .bool x', .slice a' n' c'] 50)).alloc (.cells #[.bool y, .slice e m k, .bool y', .slice e' m' k'] 50)) w') => cells4 hA hb)
  have HB := Lib.hid (fun w' (hb : Below ((w.alloc (.cells #[.bool x, .slice a n c, .bool x', .slice a' n' c'] 50)).alloc (.cells #[.bool y, .slice e m k, .bool y', .slice e' m' k'] 50)).heap.size ((w.alloc (.cells #[.bool x, .slice a n c, .bool x', .slice a' n' c'] 50)).alloc (.cells #[.bool y, .slice e m k, .bool y', .slice e' m' k'] 50)) w') => cells4 hB hb)
  have H1 := Lib.hid (fun w' (hb : BD w w') => whole_d _ p w' (h.mono hb.1))
  have H2 := Lib.hid (fun w' (hb : BD w w') => whole_d _ q w' (h'.mono hb.1))
  have H3 := Lib.hid (fun w' (hb : BD w w') => compare_d _ _ p q w' (h.parts.1.mono hb.1) (h'.parts.1.mono hb.1))
  clear h h' hA hB
  generalize cmpZ p q = R at *
  go_enter Tryz.func25, Tryz.ntmps25
  go_wp2_with (first
    | (go_at_call 49; refine (H2.out _ ((bd2 w _ _).via hb1)).mono ?_; rintro e2 w2 ⟨rfl, hb2⟩; obtain ⟨c0, c1, c2, c3⟩ := HA.out _ (hb1.via hb2).1; obtain ⟨d0, d1, d2, d3⟩ := HB.out _ (hb1.via hb2).1)
    | (go_at_call 49; refine (H1.out _ (bd2 w _ _)).mono ?_; rintro e1 w1 ⟨rfl, hb1⟩; obtain ⟨d0, d1, d2, d3⟩ := HB.out _ hb1.1)
    | (go_at_call 50; refine (H3.out _ ((bd2 w _ _).via (hb1.via hb2))).mono ?_; rintro e3 w3 ⟨rfl, hb3⟩))
  go_ret
  exact ⟨rfl, (bd2 w _ _).via ((hb1.via hb2).via hb3)⟩

end Go.Proofs.YtfmgjcgcocidfaaGreatDoor
