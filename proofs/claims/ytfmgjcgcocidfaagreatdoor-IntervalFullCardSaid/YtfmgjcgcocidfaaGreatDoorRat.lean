/-
  Rationals: one, From, whole, Den, Sign.
-/
import Derived.Test.YtfmgjcgcocidfaaGreatDoorDiv2
import Derived.Test.YtfmgjcgcocidfaaGreatDoorCut
namespace Go.Proofs.YtfmgjcgcocidfaaGreatDoor
open Go.RowKit

/-- A rational: its numerator, its denominator (0 counts as 1). -/
def RatV (w : World) (v : Value) (p q : Int) : Prop := ∃ x a n c x' a' n' c', v = .agg #[.bool x, .slice a n c, .bool x', .slice a' n' c'] ∧ IntV w (.agg #[.bool x, .slice a n c]) p ∧ IntV w (.agg #[.bool x', .slice a' n' c']) q
theorem RatV.mono {w w' : World} {v : Value} {p q : Int} (h : RatV w v p q) (hb : Below w.heap.size w w') : RatV w' v p q := by
  obtain ⟨x, a, n, c, x', a', n', c', hv, h1, h2⟩ := h
  exact ⟨x, a, n, c, x', a', n', c', hv, h1.mono hb, h2.mono hb⟩
theorem IntV.zero (w : World) : IntV w (.agg #[.bool false, .slice none 0 0]) 0 := by
  have h0 : limbs (Int.natAbs 0) = [] := limbs_zero
  exact ⟨none, 0, by rw [h0]; rfl, by rw [h0]; exact Ls.nil w⟩
/-- An integer stored into a result's variable. -/
theorem put_below {B b : Nat} {w w1 : World} (x : Bool) (a : Option Addr) (k c : Nat) (h : Below B w w1) (hB : B ≤ b) : Below B w ((w1.setCell ⟨b, 0, none⟩ (.bool x)).setCell ⟨b, 1, none⟩ (.slice a k c)) :=
  (h.setCell (p := ⟨b, 0, none⟩) hB _).setCell (p := ⟨b, 1, none⟩) hB _
theorem bw_via {a b c : World} (h : Below a.heap.size a b) (k : Below b.heap.size b c) : Below a.heap.size a c := h.via k h.size
theorem cells4 {w w' : World} {b : Nat} {x0 x1 x2 x3 : Value} {T : TypeId} (h : Blk w b #[x0, x1, x2, x3] T) (hb : Below w.heap.size w w') :
    w'.cell? ⟨b, 0, none⟩ = some x0 ∧ w'.cell? ⟨b, 1, none⟩ = some x1 ∧ w'.cell? ⟨b, 2, none⟩ = some x2 ∧ w'.cell? ⟨b, 3, none⟩ = some x3 := by
  have h' := h.below hb
  exact ⟨by rw [h'.cell]; rfl, by rw [h'.cell]; rfl, by rw [h'.cell]; rfl, by rw [h'.cell]; rfl⟩
/-- A cell that is kept. -/
theorem cell_keep {W W' : World} {p : Addr} {v : Value} (hb : Below W.heap.size W W') (h : W.cell? p = some v) : W'.cell? p = some v := by
  rcases p with ⟨b, o, x⟩
  have hlt : b < W.heap.size := World.block_lt_of_cell? W _ h
  have := hb.block b hlt
  unfold World.cell? at *
  simp only [this]
  exact h

set_option maxHeartbeats 1000000 in
theorem one_any (w : World) : Calls Tryz.prog 79 #[] w (RetP (fun v w' => IntV w' v 1) w) := by
  have H := Lib.hid (fun w' => from_any 1 w' (by decide) (by decide))
  have hR := Blk.new w #[.bool false, .slice none 0 0] 48
  have HR := Lib.hid hR
  clear hR
  go_enter Tryz.func79, Tryz.ntmps79
  go_wp2_with (go_at_call 53; refine (H.out _).mono ?_; rintro e w1 ⟨v, rfl, hv, hb⟩; obtain ⟨x, a, k, c, rfl, hv⟩ := hv.open; have hr := HR.out.below hb; obtain ⟨⟨r0, r1⟩, f0, f1⟩ := blk2v hr; obtain ⟨hv6, hb6⟩ := IntV.put2 hv hr; have Hv6 := Lib.hid hv6; have Hb6 := Lib.hid hb6; have Hbel := Lib.hid (put_below x a k c ((below1 w (.cells #[.bool false, .slice none 0 0] 48)).via hb (below1 w _).size) (Nat.le_refl w.heap.size)); clear hr hv6 hb6 hb hv)
  obtain ⟨⟨q0, q1⟩, -⟩ := blk2v Hb6.out
  exact bodyPost_ret (v := .agg #[.bool x, .slice a k c]) (by simp [results, Tryz.results79, go_sem, q0, q1]) rfl ⟨_, rfl, Hv6.out, Hbel.out⟩

set_option maxHeartbeats 2000000 in
theorem whole_d (v : Value) (p : Int) (w : World) (h : RatV w v p 0) : Calls Tryz.prog 49 #[v] w (RetD (.bool true) w) := by
  obtain ⟨x, a, n, c, x', a', n', c', rfl, h1, h2⟩ := h
  have hB := Blk.new w #[.bool x, .slice a n c, .bool x', .slice a' n' c'] 50
  have HS := Lib.hid (fun w' (hb : Below (w.alloc (.cells #[.bool x, .slice a n c, .bool x', .slice a' n' c'] 50)).heap.size (w.alloc (.cells #[.bool x, .slice a n c, .bool x', .slice a' n' c'] 50)) w') => cells4 hB hb)
  have HV := Lib.hid (fun w' (hb : Below (w.alloc (.cells #[.bool x, .slice a n c, .bool x', .slice a' n' c'] 50)).heap.size (w.alloc (.cells #[.bool x, .slice a n c, .bool x', .slice a' n' c'] 50)) w') => h2.mono ((below1 w _).via hb (below1 w _).size))
  have H1 := Lib.hid (fun w' (hb : BD (w.alloc (.cells #[.bool x, .slice a n c, .bool x', .slice a' n' c'] 50)) w') => sign_d _ 0 w' (HV.out _ hb.1))
  rw [show Int.sign 0 = 0 from rfl] at H1
  clear h1 h2 hB
  go_enter Tryz.func49, Tryz.ntmps49
  go_wp2_with fail
  refine wp_region_held_drew (S := (fun w' => w'.cell? ⟨w.heap.size, 0, none⟩ = some (.bool x) ∧ w'.cell? ⟨w.heap.size, 1, none⟩ = some (.slice a n c) ∧ w'.cell? ⟨w.heap.size, 2, none⟩ = some (.bool x') ∧ w'.cell? ⟨w.heap.size, 3, none⟩ = some (.slice a' n' c'))) (by kernel_rfl) (by exact HS.out _ ((BD.refl _).dn 1).1) (fun hHeld => ?_)
  refine wpAnyH_take (i := 0) (v := ?v1) rfl (by kernel_rfl) (by kernel_rfl) (by kernel_rfl) (fun _ _ _ h => h) (Or.inl ⟨by rfl, ?hy1⟩) (by assumption) ?rest1
  case hy1 => (intro w hSw; (try dsimp only at hSw); go_simp; try (with_reducible rfl))
  try simp only [Act.put, List.getElem_toArray, List.getElem_cons_zero, List.getElem_cons_succ, List.setIfInBounds_toArray, List.set_cons_zero, List.set_cons_succ]
  refine wpAnyH_take (i := 1) (v := ?v2) rfl (by kernel_rfl) (by kernel_rfl) (by kernel_rfl) (fun _ _ _ h => h) (Or.inl ⟨by rfl, ?hy2⟩) (by assumption) ?rest2
  case hy2 => (intro w hSw; (try dsimp only at hSw); go_simp; try (with_reducible rfl))
  try simp only [Act.put, List.getElem_toArray, List.getElem_cons_zero, List.getElem_cons_succ, List.setIfInBounds_toArray, List.set_cons_zero, List.set_cons_succ]
  refine wpAnyH_ready (rs := [2]) (by kernel_rfl) (by simp) ?_
  refine AllReadyH.cons rfl (fun K hK => ?_) AllReadyH.nil
  go_simp
  go_at_call 59
  refine (H1.out _ ((BD.refl _).dn 1)).mono ?_
  rintro e5 w2 ⟨rfl, hb2⟩
  have Hb2 := Lib.hid (((BD.refl _).dn 1).via hb2)
  clear hb2
  refine hK.out _ _ (by exact HS.out _ (Hb2.out).1) (fun hHeld => ?_)
  clear hK K
  try simp only [Act.put, List.setIfInBounds_toArray, List.set_cons_zero, List.set_cons_succ]
  refine wpAnyH_take (i := 3) (v := ?v3) rfl (by kernel_rfl) (by kernel_rfl) (by kernel_rfl) (fun _ _ _ h => h) (Or.inl ⟨by rfl, ?hy3⟩) (by assumption) ?rest3
  case hy3 => (intro w hSw; (try dsimp only at hSw); go_simp; try (with_reducible rfl))
  try simp only [Act.put, List.getElem_toArray, List.getElem_cons_zero, List.getElem_cons_succ, List.setIfInBounds_toArray, List.set_cons_zero, List.set_cons_succ]
  refine wpAnyH_take (i := 4) (v := ?v4) rfl (by kernel_rfl) (by kernel_rfl) (by kernel_rfl) (fun _ _ _ h => h) (Or.inl ⟨by rfl, ?hy4⟩) (by assumption) ?rest4
  case hy4 => (intro w hSw; (try dsimp only at hSw); go_simp; try (with_reducible rfl))
  try simp only [Act.put, List.getElem_toArray, List.getElem_cons_zero, List.getElem_cons_succ, List.setIfInBounds_toArray, List.set_cons_zero, List.set_cons_succ]
  refine wpAnyH_take (i := 5) (v := undef) rfl (by kernel_rfl) (by kernel_rfl) (by kernel_rfl) (fun _ _ _ h => h) (Or.inr ⟨by rfl, rfl⟩) (by assumption) ?_
  try simp only [Act.put, List.getElem_toArray, List.getElem_cons_zero, List.getElem_cons_succ, List.setIfInBounds_toArray, List.set_cons_zero, List.set_cons_succ]
  refine wpAnyH_take (i := 6) (v := undef) rfl (by kernel_rfl) (by kernel_rfl) (by kernel_rfl) (fun _ _ _ h => h) (Or.inr ⟨by rfl, rfl⟩) (by assumption) ?_
  try simp only [Act.put, List.getElem_toArray, List.getElem_cons_zero, List.getElem_cons_succ, List.setIfInBounds_toArray, List.set_cons_zero, List.set_cons_succ]
  refine wpAnyH_take (i := 7) (v := undef) rfl (by kernel_rfl) (by kernel_rfl) (by kernel_rfl) (fun _ _ _ h => h) (Or.inr ⟨by rfl, rfl⟩) (by assumption) ?_
  try simp only [Act.put, List.getElem_toArray, List.getElem_cons_zero, List.getElem_cons_succ, List.setIfInBounds_toArray, List.set_cons_zero, List.set_cons_succ]
  refine wpAnyH_take (i := 8) (v := undef) rfl (by kernel_rfl) (by kernel_rfl) (by kernel_rfl) (fun _ _ _ h => h) (Or.inr ⟨by rfl, rfl⟩) (by assumption) ?_
  try simp only [Act.put, List.getElem_toArray, List.getElem_cons_zero, List.getElem_cons_succ, List.setIfInBounds_toArray, List.set_cons_zero, List.set_cons_succ]
  refine wpAnyH_take (i := 9) (v := undef) rfl (by kernel_rfl) (by kernel_rfl) (by kernel_rfl) (fun _ _ _ h => h) (Or.inr ⟨by rfl, rfl⟩) (by assumption) ?_
  try simp only [Act.put, List.getElem_toArray, List.getElem_cons_zero, List.getElem_cons_succ, List.setIfInBounds_toArray, List.set_cons_zero, List.set_cons_succ]
  refine wpAnyH_take (i := 10) (v := ?v10) rfl (by kernel_rfl) (by kernel_rfl) (by kernel_rfl) (fun _ _ _ h => h) (Or.inl ⟨by rfl, ?hy10⟩) (by assumption) ?rest10
  case hy10 => (intro w hSw; (try dsimp only at hSw); go_simp; try (with_reducible rfl))
  try simp only [Act.put, List.getElem_toArray, List.getElem_cons_zero, List.getElem_cons_succ, List.setIfInBounds_toArray, List.set_cons_zero, List.set_cons_succ]
  refine wpAnyH_take (i := 11) (v := ?v11) rfl (by kernel_rfl) (by kernel_rfl) (by kernel_rfl) (fun _ _ _ h => h) (Or.inl ⟨by rfl, ?hy11⟩) (by assumption) ?rest11
  case hy11 => (intro w hSw; (try dsimp only at hSw); go_simp; try (with_reducible rfl))
  try simp only [Act.put, List.getElem_toArray, List.getElem_cons_zero, List.getElem_cons_succ, List.setIfInBounds_toArray, List.set_cons_zero, List.set_cons_succ]
  refine wpAnyH_done (by kernel_rfl) ?_ _
  go_wp2_with fail
  go_ret
  exact ⟨rfl, (bd1 w _).via Hb2.out⟩

set_option maxHeartbeats 2000000 in
theorem whole_q (v : Value) (p q : Int) (w : World) (h : RatV w v p q) (h0 : q ≠ 0) : Calls Tryz.prog 49 #[v] w (Ret (.bool (decide (q = 1))) w) := by
  obtain ⟨x, a, n, c, x', a', n', c', rfl, h1, h2⟩ := h
  have hB := Blk.new w #[.bool x, .slice a n c, .bool x', .slice a' n' c'] 50
  have HS := Lib.hid (fun w' (hb : Below (w.alloc (.cells #[.bool x, .slice a n c, .bool x', .slice a' n' c'] 50)).heap.size (w.alloc (.cells #[.bool x, .slice a n c, .bool x', .slice a' n' c'] 50)) w') => cells4 hB hb)
  have HV := Lib.hid (fun w' (hb : Below (w.alloc (.cells #[.bool x, .slice a n c, .bool x', .slice a' n' c'] 50)).heap.size (w.alloc (.cells #[.bool x, .slice a n c, .bool x', .slice a' n' c'] 50)) w') => h2.mono ((below1 w _).via hb (below1 w _).size))
  have hsg : ((q.sign : Int) == 0) = false := by simpa using h0
  have H1 := Lib.hid (fun w' (hb : Below (w.alloc (.cells #[.bool x, .slice a n c, .bool x', .slice a' n' c'] 50)).heap.size (w.alloc (.cells #[.bool x, .slice a n c, .bool x', .slice a' n' c'] 50)) w') => sign_any _ q w' (HV.out _ hb))
  have H2 := Lib.hid (fun w' => one_any w')
  have H3 := Lib.hid (fun w' u (hb : Below (w.alloc (.cells #[.bool x, .slice a n c, .bool x', .slice a' n' c'] 50)).heap.size (w.alloc (.cells #[.bool x, .slice a n c, .bool x', .slice a' n' c'] 50)) w') (hu : IntV w' u 1) => compare_any _ _ q 1 w' (HV.out _ hb) hu)
  have hc : (cmpZ q 1 == 0) = decide (q = 1) := by
    have := @cmpZ_eq q 1
    rw [Bool.eq_iff_iff]; simp [this]
  rw [← hc]
  generalize q.sign = sg at *
  generalize cmpZ q 1 = cz at *
  clear h1 h2 hB hc h0
  go_enter Tryz.func49, Tryz.ntmps49
  go_wp2_with fail
  refine wp_region_held_drew (S := (fun w' => w'.cell? ⟨w.heap.size, 0, none⟩ = some (.bool x) ∧ w'.cell? ⟨w.heap.size, 1, none⟩ = some (.slice a n c) ∧ w'.cell? ⟨w.heap.size, 2, none⟩ = some (.bool x') ∧ w'.cell? ⟨w.heap.size, 3, none⟩ = some (.slice a' n' c'))) (by kernel_rfl) (by exact HS.out _ ((Below.refl _ _).dn 1)) (fun hHeld => ?_)
  refine wpAnyH_take (i := 0) (v := ?v12) rfl (by kernel_rfl) (by kernel_rfl) (by kernel_rfl) (fun _ _ _ h => h) (Or.inl ⟨by rfl, ?hy12⟩) (by assumption) ?rest12
  case hy12 => (intro w hSw; (try dsimp only at hSw); go_simp; try (with_reducible rfl))
  try simp only [Act.put, List.getElem_toArray, List.getElem_cons_zero, List.getElem_cons_succ, List.setIfInBounds_toArray, List.set_cons_zero, List.set_cons_succ]
  refine wpAnyH_take (i := 1) (v := ?v13) rfl (by kernel_rfl) (by kernel_rfl) (by kernel_rfl) (fun _ _ _ h => h) (Or.inl ⟨by rfl, ?hy13⟩) (by assumption) ?rest13
  case hy13 => (intro w hSw; (try dsimp only at hSw); go_simp; try (with_reducible rfl))
  try simp only [Act.put, List.getElem_toArray, List.getElem_cons_zero, List.getElem_cons_succ, List.setIfInBounds_toArray, List.set_cons_zero, List.set_cons_succ]
  refine wpAnyH_ready (rs := [2]) (by kernel_rfl) (by simp) ?_
  refine AllReadyH.cons rfl (fun K hK => ?_) AllReadyH.nil
  go_simp
  go_at_call 59
  refine (H1.out _ ((Below.refl _ _).dn 1)).mono ?_
  rintro e5 w2 ⟨rfl, hb2⟩
  have Hb2 := Lib.hid (bw_via ((Below.refl _ _).dn 1) hb2)
  clear hb2
  refine hK.out _ _ (by exact HS.out _ (Hb2.out)) (fun hHeld => ?_)
  clear hK K
  try simp only [Act.put, List.setIfInBounds_toArray, List.set_cons_zero, List.set_cons_succ]
  refine wpAnyH_take (i := 3) (v := ?v14) rfl (by kernel_rfl) (by kernel_rfl) (by kernel_rfl) (fun _ _ _ h => h) (Or.inl ⟨by rfl, ?hy14⟩) (by assumption) ?rest14
  case hy14 => (intro w hSw; (try dsimp only at hSw); go_simp; try (with_reducible rfl))
  try simp only [Act.put, List.getElem_toArray, List.getElem_cons_zero, List.getElem_cons_succ, List.setIfInBounds_toArray, List.set_cons_zero, List.set_cons_succ]
  refine wpAnyH_take (i := 4) (v := ?v15) rfl (by kernel_rfl) (by kernel_rfl) (by kernel_rfl) (fun _ _ _ h => h) (Or.inl ⟨by rfl, ?hy15⟩) (by assumption) ?rest15
  case hy15 => (intro w hSw; (try dsimp only at hSw); go_simp; try (with_reducible rfl))
  try simp only [Act.put, List.getElem_toArray, List.getElem_cons_zero, List.getElem_cons_succ, List.setIfInBounds_toArray, List.set_cons_zero, List.set_cons_succ]
  refine wpAnyH_take (i := 5) (v := ?v16) rfl (by kernel_rfl) (by kernel_rfl) (by kernel_rfl) (fun _ _ _ h => h) (Or.inl ⟨by rfl, ?hy16⟩) (by assumption) ?rest16
  case hy16 => (intro w hSw; (try dsimp only at hSw); go_simp; try (with_reducible rfl))
  try simp only [Act.put, List.getElem_toArray, List.getElem_cons_zero, List.getElem_cons_succ, List.setIfInBounds_toArray, List.set_cons_zero, List.set_cons_succ]
  refine wpAnyH_take (i := 6) (v := ?v17) rfl (by kernel_rfl) (by kernel_rfl) (by kernel_rfl) (fun _ _ _ h => h) (Or.inl ⟨by rfl, ?hy17⟩) (by assumption) ?rest17
  case hy17 => (intro w hSw; (try dsimp only at hSw); go_simp; try (with_reducible rfl))
  try simp only [Act.put, List.getElem_toArray, List.getElem_cons_zero, List.getElem_cons_succ, List.setIfInBounds_toArray, List.set_cons_zero, List.set_cons_succ]
  refine wpAnyH_ready (rs := [7]) (by kernel_rfl) (by simp) ?_
  refine AllReadyH.cons rfl (fun K hK => ?_) AllReadyH.nil
  go_simp
  go_at_call 79
  refine (H2.out _).mono ?_
  rintro e5 w7 ⟨v7, rfl, hv7, hb7⟩
  have Hb7 := Lib.hid (bw_via (Hb2.out) hb7)
  have Hv7 := Lib.hid hv7
  clear hv7
  clear hb7
  refine hK.out _ _ (by exact HS.out _ (Hb7.out)) (fun hHeld => ?_)
  clear hK K
  try simp only [Act.put, List.setIfInBounds_toArray, List.set_cons_zero, List.set_cons_succ]
  refine wpAnyH_ready (rs := [8]) (by kernel_rfl) (by simp) ?_
  refine AllReadyH.cons rfl (fun K hK => ?_) AllReadyH.nil
  go_simp
  go_at_call 50
  refine (H3.out _ _ (Hb7.out) Hv7.out).mono ?_
  rintro e5 w8 ⟨rfl, hb8⟩
  have Hv7 := Lib.hid (Hv7.out.mono hb8)
  have Hb8 := Lib.hid (bw_via (Hb7.out) hb8)
  clear hb8
  refine hK.out _ _ (by exact HS.out _ (Hb8.out)) (fun hHeld => ?_)
  clear hK K
  try simp only [Act.put, List.setIfInBounds_toArray, List.set_cons_zero, List.set_cons_succ]
  refine wpAnyH_take (i := 9) (v := ?v18) rfl (by kernel_rfl) (by kernel_rfl) (by kernel_rfl) (fun _ _ _ h => h) (Or.inl ⟨by rfl, ?hy18⟩) (by assumption) ?rest18
  case hy18 => (intro w hSw; (try dsimp only at hSw); go_simp; try (with_reducible rfl))
  try simp only [Act.put, List.getElem_toArray, List.getElem_cons_zero, List.getElem_cons_succ, List.setIfInBounds_toArray, List.set_cons_zero, List.set_cons_succ]
  refine wpAnyH_take (i := 10) (v := ?v19) rfl (by kernel_rfl) (by kernel_rfl) (by kernel_rfl) (fun _ _ _ h => h) (Or.inl ⟨by rfl, ?hy19⟩) (by assumption) ?rest19
  case hy19 => (intro w hSw; (try dsimp only at hSw); go_simp; try (with_reducible rfl))
  try simp only [Act.put, List.getElem_toArray, List.getElem_cons_zero, List.getElem_cons_succ, List.setIfInBounds_toArray, List.set_cons_zero, List.set_cons_succ]
  refine wpAnyH_take (i := 11) (v := ?v20) rfl (by kernel_rfl) (by kernel_rfl) (by kernel_rfl) (fun _ _ _ h => h) (Or.inl ⟨by rfl, ?hy20⟩) (by assumption) ?rest20
  case hy20 => (intro w hSw; (try dsimp only at hSw); go_simp; try (with_reducible rfl))
  try simp only [Act.put, List.getElem_toArray, List.getElem_cons_zero, List.getElem_cons_succ, List.setIfInBounds_toArray, List.set_cons_zero, List.set_cons_succ]
  refine wpAnyH_done (by kernel_rfl) ?_ _
  go_wp2_with fail
  go_ret
  exact ⟨rfl, (below1 w _).via Hb8.out (below1 w _).size⟩

end Go.Proofs.YtfmgjcgcocidfaaGreatDoor
