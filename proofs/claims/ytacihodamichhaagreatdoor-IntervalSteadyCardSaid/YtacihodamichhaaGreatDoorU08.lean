/-
  Parts of the proof: Rat4, Parse.
-/
import Derived.Test.YtacihodamichhaaGreatDoorUShelf
import Derived.Shelf.Strings.SlTrimAscii
import Derived.Test.YtacihodamichhaaGreatDoorU07
namespace Go.Proofs.YtacihodamichhaaGreatDoor
open Go.RowKit
set_option maxHeartbeats 4000000 in
theorem reduced1 (u v : Value) (p q : Int) (w : World) (h : IntV w u p) (h' : IntV w v q) (hq : 0 < q) (hs : q.natAbs < 4294967296) (hl : (limbs p.natAbs).length < 1000000) (hg : Nat.gcd p.natAbs q.natAbs = 1) :
  Calls Tryz.prog 111 #[u, v] w (RetP (fun r w' => RatV w' r p q) w) := by
 obtain ⟨x, a, n, c, rfl, h⟩ := h.open
 obtain ⟨y, e, m, k, rfl, h'⟩ := h'.open
 have hA : Blk (((w.alloc (.cells #[.bool x, .slice a n c] 75)).alloc (.cells #[.bool y, .slice e m k] 75)).alloc (.cells #[.bool false, .slice none 0 0, .bool false, .slice none 0 0] 77)) w.heap.size #[.bool x, .slice a n c] 75 := ((Blk.new w _ _).old _).old _
 have hB : Blk (((w.alloc (.cells #[.bool x, .slice a n c] 75)).alloc (.cells #[.bool y, .slice e m k] 75)).alloc (.cells #[.bool false, .slice none 0 0, .bool false, .slice none 0 0] 77)) (w.heap.size + 1) #[.bool y, .slice e m k] 75 := by
  have h := (Blk.new (w.alloc (.cells #[.bool x, .slice a n c] 75)) #[.bool y, .slice e m k] 75).old (.cells #[.bool false, .slice none 0 0, .bool false, .slice none 0 0] 77)
  simpa using h
 have hR : Blk (((w.alloc (.cells #[.bool x, .slice a n c] 75)).alloc (.cells #[.bool y, .slice e m k] 75)).alloc (.cells #[.bool false, .slice none 0 0, .bool false, .slice none 0 0] 77)) (w.heap.size + 1 + 1) #[.bool false, .slice none 0 0, .bool false, .slice none 0 0] 77 := by
  have h := Blk.new ((w.alloc (.cells #[.bool x, .slice a n c] 75)).alloc (.cells #[.bool y, .slice e m k] 75)) #[.bool false, .slice none 0 0, .bool false, .slice none 0 0] 77
  simpa using h
 have HS := hI (fun w' (hb : Below (((w.alloc (.cells #[.bool x, .slice a n c] 75)).alloc (.cells #[.bool y, .slice e m k] 75)).alloc (.cells #[.bool false, .slice none 0 0, .bool false, .slice none 0 0] 77)).heap.size (((w.alloc (.cells #[.bool x, .slice a n c] 75)).alloc (.cells #[.bool y, .slice e m k] 75)).alloc (.cells #[.bool false, .slice none 0 0, .bool false, .slice none 0 0] 77)) w') => And.intro (blk2v (hA.below hb)).1 (blk2v (hB.below hb)).1)
 have HR := hI hR
 have HK := hI (below3 w (.cells #[.bool x, .slice a n c] 75) (.cells #[.bool y, .slice e m k] 75) (.cells #[.bool false, .slice none 0 0, .bool false, .slice none 0 0] 77))
 have hsg : ¬ (q.sign < 0) := by have := Int.sign_eq_one_of_pos hq; omega
 have HP := hI (fun w' (hb : Below w.heap.size w w') => And.intro (h.mono hb) (h'.mono hb))
 have H1 := hI (fun w' (hb : Below w.heap.size w w') => sign_any _ q w' (h'.mono hb))
 have H2 := hI (fun w' (hb : Below w.heap.size w w') => gcd_small _ _ p q w' (h.mono hb) (h'.mono hb) hl hs)
 rw [hg] at H2
 have H3 := hI (fun w' => one_any w')
 have H4 := hI (fun w' u u' (h1 : IntV w' u ((1 : Nat) : Int)) (h2 : IntV w' u' 1) => compare_any u u' ((1 : Nat) : Int) 1 w' h1 h2)
 rw [show cmpZ ((1 : Nat) : Int) 1 = 0 from rfl] at H4
 generalize q.sign = sg at *
 clear h h' hA hB hR hl hg hs hq
 go_enter Tryz.func111, Tryz.ntmps111
 go_wp2_with (first
  | (go_at_call 131; refine (H1.out _ HK.out).mono ?_; rintro e1 w1 ⟨rfl, hb1⟩; obtain ⟨⟨c0, c1⟩, d0, d1⟩ := HS.out _ hb1)
  | (go_at_call 145; refine (H2.out _ (HK.out.via hb1 HK.out.size)).mono ?_; rintro e2 w2 ⟨vg, rfl, hv, hb2⟩; obtain ⟨xg, ag, ng, cg, rfl, hv⟩ := hv.open; have Hb12 := hI (bw_via hb1 hb2); clear hb1 hb2 c0 c1 d0 d1; have Hv := hI hv; clear hv))
 have hB5 := Blk.new w2 #[.bool xg, .slice ag ng cg] 75
 have HS5 := hI (fun w' (hb : Below (w2.alloc (.cells #[.bool xg, .slice ag ng cg] 75)).heap.size (w2.alloc (.cells #[.bool xg, .slice ag ng cg] 75)) w') => (blk2v (hB5.below hb)).1)
 have HV5 := hI (fun w' (hb : Below (w2.alloc (.cells #[.bool xg, .slice ag ng cg] 75)).heap.size (w2.alloc (.cells #[.bool xg, .slice ag ng cg] 75)) w') => Hv.out.mono ((below1 w2 (.cells #[.bool xg, .slice ag ng cg] 75)).via hb (below1 w2 _).size))
 have H15 := hI (bw_via Hb12.out (below1 w2 (.cells #[.bool xg, .slice ag ng cg] 75)))
 clear hB5 Hv
 refine wp_region_held_drew (S := (fun w' => w'.cell? ⟨w2.heap.size, 0, none⟩ = some (.bool xg) ∧ w'.cell? ⟨w2.heap.size, 1, none⟩ = some (.slice ag ng cg))) (by kernel_rfl) (by exact HS5.out _ ((Below.refl _ _).dn 1)) (fun hHeld => ?_)
 refine wpAnyH_take (i := 0) (v := ?v1) rfl (by kernel_rfl) (by kernel_rfl) (by kernel_rfl) (fun _ _ _ h => h) (Or.inl ⟨by rfl, ?hy1⟩) (by assumption) ?rest1
 case hy1 => (intro w hSw; (try dsimp only at hSw); go_simp; try (with_reducible rfl))
 try simp only [Act.put, List.getElem_toArray, List.getElem_cons_zero, List.setIfInBounds_toArray, List.set_cons_zero, List.set_cons_succ]
 refine tk1 1 (fun K hK => ?_)
 go_simp
 go_at_call 141
 refine (H3.out _).mono ?_
 rintro e5 w1 ⟨v1, rfl, hv1, hb1⟩
 have Hb1 := hI (bw_via ((Below.refl _ _).dn 1) hb1)
 have Hv1 := hI hv1
 clear hv1
 clear hb1
 refine hK.out _ _ (by exact HS5.out _ (Hb1.out)) (fun hHeld => ?_)
 clear hK K; (try simp only [tkS])
 refine tk1 2 (fun K hK => ?_)
 go_simp
 go_at_call 116
 refine (H4.out _ _ _ (HV5.out _ (Hb1.out)) Hv1.out).mono ?_
 rintro e5 w2 ⟨rfl, hb2⟩
 have Hv1 := hI (Hv1.out.mono hb2)
 have Hb2 := hI (bw_via (Hb1.out) hb2)
 clear hb2
 refine hK.out _ _ (by exact HS5.out _ (Hb2.out)) (fun hHeld => ?_)
 clear hK K; (try simp only [tkS])
 refine' tk 3 ?_; (try simp only [tkS])
 refine tkD ?_ _
 have Hbf := hI (bw_via H15.out Hb2.out)
 obtain ⟨⟨c0, c1⟩, d0, d1⟩ := HS.out _ Hbf.out
 have hr := HR.out.below Hbf.out
 obtain ⟨⟨r0, r1, r2, r3⟩, f0, f1, f2, f3⟩ := blk4v hr
 have hP := HP.out _ (HK.out.via Hbf.out HK.out.size)
 have hrv : RatV _ (.agg #[.bool x, .slice a n c, .bool y, .slice e m k]) p q := ⟨x, a, n, c, y, e, m, k, rfl, hP.1, hP.2⟩
 obtain ⟨hv6, hb6⟩ := RatV.put4 hrv hr
 have Hv6 := hI hv6
 have Hb6 := hI hb6
 have Hbel := hI (put_below4 (b := w.heap.size + 1 + 1) (.bool x) (.slice a n c) (.bool y) (.slice e m k) (HK.out.via Hbf.out HK.out.size) (by omega))
 clear hv6 hb6 hrv hP hr
 go_wp2_with fail
 obtain ⟨⟨q0, q1, q2, q3⟩, -⟩ := blk4v Hb6.out
 exact bodyPost_ret (v := .agg #[.bool x, .slice a n c, .bool y, .slice e m k]) (by simp [results, Tryz.results111, go_sem, q0, q1, q2, q3]) rfl ⟨_, rfl, Hv6.out, Hbel.out⟩
theorem cell_far4 {w : World} {a : Addr} {v : Value} {b : Nat} {v0 v1 v2 v3 : Value} (h : w.cell? a = some v) (hne : b ≠ a.block) : ((((w.setCell ⟨b, 0, none⟩ v0).setCell ⟨b, 1, none⟩ v1).setCell ⟨b, 2, none⟩ v2).setCell ⟨b, 3, none⟩ v3).cell? a = some v :=
 cell_far (cell_far (cell_far (cell_far h hne) hne) hne) hne
set_option maxHeartbeats 4000000 in
theorem div1 (u v : Value) (p q : Int) (w : World) (h : RatV w u p 0) (h' : RatV w v q 0) (hq : 0 < q) (hs : q.natAbs < 4294967296) (hl : (limbs p.natAbs).length < 1000000) (hg : Nat.gcd p.natAbs q.natAbs = 1) :
  Calls Tryz.prog 60 #[u, v] w (RetP (fun r w' => ∃ r0, r = .tuple #[r0, .int .i64 0] ∧ RatV w' r0 p q) w) := by
 have hl2 : (limbs q.natAbs).length < 1000000 := by rw [limbs_len_of_lt hs (by omega)]; decide
 obtain ⟨x, a, n, c, x', a', n', c', rfl, h⟩ := h.open
 obtain ⟨y, e, m, k, y', e', m', k', rfl, h'⟩ := h'.open
 have hA : Blk (((w.alloc (.cells #[.bool x, .slice a n c, .bool x', .slice a' n' c'] 77)).alloc (.cells #[.bool y, .slice e m k, .bool y', .slice e' m' k'] 77)).alloc (.cells #[.bool false, .slice none 0 0, .bool false, .slice none 0 0] 77)) w.heap.size #[.bool x, .slice a n c, .bool x', .slice a' n' c'] 77 := ((Blk.new w _ _).old _).old _
 have hB : Blk (((w.alloc (.cells #[.bool x, .slice a n c, .bool x', .slice a' n' c'] 77)).alloc (.cells #[.bool y, .slice e m k, .bool y', .slice e' m' k'] 77)).alloc (.cells #[.bool false, .slice none 0 0, .bool false, .slice none 0 0] 77)) (w.heap.size + 1) #[.bool y, .slice e m k, .bool y', .slice e' m' k'] 77 := by
  have h := (Blk.new (w.alloc (.cells #[.bool x, .slice a n c, .bool x', .slice a' n' c'] 77)) #[.bool y, .slice e m k, .bool y', .slice e' m' k'] 77).old (.cells #[.bool false, .slice none 0 0, .bool false, .slice none 0 0] 77)
  simpa using h
 have hR : Blk (((w.alloc (.cells #[.bool x, .slice a n c, .bool x', .slice a' n' c'] 77)).alloc (.cells #[.bool y, .slice e m k, .bool y', .slice e' m' k'] 77)).alloc (.cells #[.bool false, .slice none 0 0, .bool false, .slice none 0 0] 77)) (w.heap.size + 1 + 1) #[.bool false, .slice none 0 0, .bool false, .slice none 0 0] 77 := by
  have h := Blk.new ((w.alloc (.cells #[.bool x, .slice a n c, .bool x', .slice a' n' c'] 77)).alloc (.cells #[.bool y, .slice e m k, .bool y', .slice e' m' k'] 77)) #[.bool false, .slice none 0 0, .bool false, .slice none 0 0] 77
  simpa using h
 have HS := hI (fun w' (hb : Below (((w.alloc (.cells #[.bool x, .slice a n c, .bool x', .slice a' n' c'] 77)).alloc (.cells #[.bool y, .slice e m k, .bool y', .slice e' m' k'] 77)).alloc (.cells #[.bool false, .slice none 0 0, .bool false, .slice none 0 0] 77)).heap.size (((w.alloc (.cells #[.bool x, .slice a n c, .bool x', .slice a' n' c'] 77)).alloc (.cells #[.bool y, .slice e m k, .bool y', .slice e' m' k'] 77)).alloc (.cells #[.bool false, .slice none 0 0, .bool false, .slice none 0 0] 77)) w') => And.intro (cells4 hA hb) (cells4 hB hb))
 have HR := hI hR
 have HK := hI (below3 w (.cells #[.bool x, .slice a n c, .bool x', .slice a' n' c'] 77) (.cells #[.bool y, .slice e m k, .bool y', .slice e' m' k'] 77) (.cells #[.bool false, .slice none 0 0, .bool false, .slice none 0 0] 77))
 have hsg : ((q.sign : Int) == 0) = false := by simp; omega
 have H1 := hI (fun w' (hb : Below w.heap.size w w') => rsign_any _ q 0 w' (h'.mono hb))
 have HD1 := hI (fun w' (hb : Below w.heap.size w w') => den0_any _ p w' (h.mono hb))
 have HD2 := hI (fun w' (hb : Below w.heap.size w w') => den0_any _ q w' (h'.mono hb))
 have h1l : (limbs (Int.natAbs 1)).length < 1000000 := by rw [limbs_len_of_lt (by decide) (by decide)]; decide
 have HM1 := hI (fun w' u (hb : Below w.heap.size w w') (hu : IntV w' u 1) => mul_any _ u p 1 w' (h.parts.1.mono hb) hu hl h1l)
 have HM2 := hI (fun w' u (hb : Below w.heap.size w w') (hu : IntV w' u 1) => mul_any u _ 1 q w' hu (h'.parts.1.mono hb) h1l hl2)
 have HRd := hI (fun w' u u' (h1 : IntV w' u p) (h2 : IntV w' u' q) => reduced1 u u' p q w' h1 h2 hq hs hl hg)
 rw [Int.mul_one] at HM1
 rw [Int.one_mul] at HM2
 generalize q.sign = sg at *
 clear h h' hA hB hR hl hg hs hq hl2 h1l
 go_enter Tryz.func60, Tryz.ntmps60
 go_wp2_with (go_at_call 84; refine (H1.out _ HK.out).mono ?_; rintro e0 w0 ⟨rfl, hb0⟩; have Hb0 := hI hb0; clear hb0)
 refine wp_region_held_drew (S := (fun w' => w'.cell? ⟨w.heap.size, 0, none⟩ = some (.bool x) ∧ w'.cell? ⟨w.heap.size, 1, none⟩ = some (.slice a n c) ∧ w'.cell? ⟨w.heap.size, 2, none⟩ = some (.bool x') ∧ w'.cell? ⟨w.heap.size, 3, none⟩ = some (.slice a' n' c') ∧ w'.cell? ⟨w.heap.size + 1, 0, none⟩ = some (.bool y) ∧ w'.cell? ⟨w.heap.size + 1, 1, none⟩ = some (.slice e m k) ∧ w'.cell? ⟨w.heap.size + 1, 2, none⟩ = some (.bool y') ∧ w'.cell? ⟨w.heap.size + 1, 3, none⟩ = some (.slice e' m' k'))) (by kernel_rfl) (by exact (fun h => ⟨h.1.1, h.1.2.1, h.1.2.2.1, h.1.2.2.2, h.2⟩) (HS.out _ (bw_via Hb0.out ((Below.refl _ _).dn 1)))) (fun hHeld => ?_)
 refine wpAnyH_take (i := 0) (v := ?v3) rfl (by kernel_rfl) (by kernel_rfl) (by kernel_rfl) (fun _ _ _ h => h) (Or.inl ⟨by rfl, ?hy3⟩) (by assumption) ?rest3
 case hy3 => (intro w hSw; (try dsimp only at hSw); go_simp; try (with_reducible rfl))
 try simp only [Act.put, List.getElem_toArray, List.getElem_cons_zero, List.setIfInBounds_toArray, List.set_cons_zero, List.set_cons_succ]
 refine' tk 1 ?_; (try simp only [tkS]); refine' tk 2 ?_; (try simp only [tkS]); refine' tk 5 ?_; (try simp only [tkS]); refine' tk 7 ?_; (try simp only [tkS]); refine' tk 8 ?_; (try simp only [tkS])
 refine tk1 3 (fun K hK => ?_)
 go_simp
 go_at_call 113
 refine (HD2.out _ (HK.out.via (bw_via Hb0.out ((Below.refl _ _).dn 1)) HK.out.size)).mono ?_
 rintro e5 w3 ⟨v3, rfl, hv3, hb3⟩
 have Hb3 := hI (bw_via ((Below.refl _ _).dn 1) hb3)
 have Hv3 := hI hv3
 clear hv3
 clear hb3
 refine hK.out _ _ (by exact (fun h => ⟨h.1.1, h.1.2.1, h.1.2.2.1, h.1.2.2.2, h.2⟩) (HS.out _ (bw_via Hb0.out (Hb3.out)))) (fun hHeld => ?_)
 clear hK K; (try simp only [tkS])
 refine tk1 4 (fun K hK => ?_)
 go_simp
 go_at_call 112
 refine (HM1.out _ _ (HK.out.via (bw_via Hb0.out (Hb3.out)) HK.out.size) Hv3.out).mono ?_
 rintro e5 w4 ⟨v4, rfl, hv4, hb4⟩
 have Hv3 := hI (Hv3.out.mono hb4)
 have Hb4 := hI (bw_via (Hb3.out) hb4)
 have Hv4 := hI hv4
 clear hv4
 clear hb4
 refine hK.out _ _ (by exact (fun h => ⟨h.1.1, h.1.2.1, h.1.2.2.1, h.1.2.2.2, h.2⟩) (HS.out _ (bw_via Hb0.out (Hb4.out)))) (fun hHeld => ?_)
 clear hK K; (try simp only [tkS])
 refine tk1 6 (fun K hK => ?_)
 go_simp
 go_at_call 113
 refine (HD1.out _ (HK.out.via (bw_via Hb0.out (Hb4.out)) HK.out.size)).mono ?_
 rintro e5 w6 ⟨v6, rfl, hv6, hb6⟩
 have Hv3 := hI (Hv3.out.mono hb6)
 have Hv4 := hI (Hv4.out.mono hb6)
 have Hb6 := hI (bw_via (Hb4.out) hb6)
 have Hv6 := hI hv6
 clear hv6
 clear hb6
 refine hK.out _ _ (by exact (fun h => ⟨h.1.1, h.1.2.1, h.1.2.2.1, h.1.2.2.2, h.2⟩) (HS.out _ (bw_via Hb0.out (Hb6.out)))) (fun hHeld => ?_)
 clear hK K; (try simp only [tkS])
 refine tk1 9 (fun K hK => ?_)
 go_simp
 go_at_call 112
 refine (HM2.out _ _ (HK.out.via (bw_via Hb0.out (Hb6.out)) HK.out.size) Hv6.out).mono ?_
 rintro e5 w9 ⟨v9, rfl, hv9, hb9⟩
 have Hv3 := hI (Hv3.out.mono hb9)
 have Hv4 := hI (Hv4.out.mono hb9)
 have Hv6 := hI (Hv6.out.mono hb9)
 have Hb9 := hI (bw_via (Hb6.out) hb9)
 have Hv9 := hI hv9
 clear hv9
 clear hb9
 refine hK.out _ _ (by exact (fun h => ⟨h.1.1, h.1.2.1, h.1.2.2.1, h.1.2.2.2, h.2⟩) (HS.out _ (bw_via Hb0.out (Hb9.out)))) (fun hHeld => ?_)
 clear hK K; (try simp only [tkS])
 refine tk1 10 (fun K hK => ?_)
 go_simp
 go_at_call 111
 refine (HRd.out _ _ _ Hv4.out Hv9.out).mono ?_
 rintro e5 w10 ⟨v10, rfl, hv10, hb10⟩
 have Hv3 := hI (Hv3.out.mono hb10)
 have Hv4 := hI (Hv4.out.mono hb10)
 have Hv6 := hI (Hv6.out.mono hb10)
 have Hv9 := hI (Hv9.out.mono hb10)
 have Hb10 := hI (bw_via (Hb9.out) hb10)
 obtain ⟨x5, a5, n5, c5, x6, a6, n6, c6, rfl, hv10⟩ := hv10.open
 have Hv10 := hI hv10
 clear hv10
 clear hb10
 refine hK.out _ _ (by exact (fun h => ⟨h.1.1, h.1.2.1, h.1.2.2.1, h.1.2.2.2, h.2⟩) (HS.out _ (bw_via Hb0.out (Hb10.out)))) (fun hHeld => ?_)
 clear hK K; (try simp only [tkS])
 refine tk1 11 (fun K hK => ?_)
 have Hbf := hI (bw_via Hb0.out Hb10.out)
 have hS9 := HS.out _ Hbf.out
 have hv := Hv10.out
 have hr := HR.out.below Hbf.out
 have h4 := blk4v hr
 have r0 := h4.1.1
 have r1 := h4.1.2.1
 have r2 := h4.1.2.2.1
 have r3 := h4.1.2.2.2
 have f0 := h4.2.1
 have f1 := h4.2.2.1
 have f2 := h4.2.2.2.1
 have f3 := h4.2.2.2.2
 have h6 := RatV.put4 hv hr
 have Hv66 := hI h6.1
 have Hb66 := hI h6.2
 have Hbel := hI (put_below4 (b := w.heap.size + 1 + 1) (.bool x5) (.slice a5 n5 c5) (.bool x6) (.slice a6 n6 c6) (HK.out.via Hbf.out HK.out.size) (by omega))
 have HS9 := hI hS9
 clear h6 h4 hv hr hS9
 go_simp
 refine hK.out _ _ (by exact ⟨cell_far4 HS9.out.1.1 (show w.heap.size + 1 + 1 ≠ w.heap.size by omega), cell_far4 HS9.out.1.2.1 (show w.heap.size + 1 + 1 ≠ w.heap.size by omega), cell_far4 HS9.out.1.2.2.1 (show w.heap.size + 1 + 1 ≠ w.heap.size by omega), cell_far4 HS9.out.1.2.2.2 (show w.heap.size + 1 + 1 ≠ w.heap.size by omega), cell_far4 HS9.out.2.1 (show w.heap.size + 1 + 1 ≠ w.heap.size + 1 by omega), cell_far4 HS9.out.2.2.1 (show w.heap.size + 1 + 1 ≠ w.heap.size + 1 by omega), cell_far4 HS9.out.2.2.2.1 (show w.heap.size + 1 + 1 ≠ w.heap.size + 1 by omega), cell_far4 HS9.out.2.2.2.2 (show w.heap.size + 1 + 1 ≠ w.heap.size + 1 by omega)⟩) (fun hHeld => ?_)
 clear hK K; (try simp only [tkS])
 refine' tk 12 ?_; (try simp only [tkS])
 refine tkD ?_ _
 go_wp2_with fail
 obtain ⟨⟨q0, q1, q2, q3⟩, -⟩ := blk4v Hb66.out
 exact bodyPost_ret (v := .tuple #[.agg #[.bool x5, .slice a5 n5 c5, .bool x6, .slice a6 n6 c6], .int .i64 0]) (by simp [results, Tryz.results60, go_sem, q0, q1, q2, q3]) rfl ⟨_, rfl, ⟨_, rfl, Hv66.out⟩, Hbel.out⟩
end Go.Proofs.YtacihodamichhaaGreatDoor
namespace Go.Proofs.YtacihodamichhaaGreatDoor
open Go.RowKit
def noDig (x : Nat) : Bool := decide (x < 48) || decide (57 < x)
def cut10 : List UInt8 := [48, 49, 50, 51, 52, 53, 54, 55, 56, 57]
def okB (x : Lib.NumEnd Nat) (u : Nat) : Bool := match x with | .ok v => v == u | _ => false
def wtB (l d : List UInt8) (u : Nat) (neg : Bool) : Bool :=
 l == (if neg then 45 :: d else d) && decide (d.length ≤ 9) && decide (d ≠ []) && Lib.indexByte l 47 == -1 && Lib.trimS d cut10 == [] && Lib.idxFunc noDig true ⟨d.toArray⟩ == -1 &&
 Lib.hasPrefix l [45] == neg && Lib.trimPrefix l [45] == d && okB (Lib.parseUintB 32 d) u && !(d.head? == some 48 && (decide (1 < d.length) || neg)) && decide (u < 1000000000) && valS l == (if neg then -(u : Int) else u)
theorem wtB_spec {l d : List UInt8} {u : Nat} {neg : Bool} (h : wtB l d u neg = true) :
  l = (if neg then 45 :: d else d) ∧ d.length ≤ 9 ∧ d ≠ [] ∧ Lib.indexByte l 47 = -1 ∧ Lib.trimS d cut10 = [] ∧ Lib.idxFunc noDig true ⟨d.toArray⟩ = -1 ∧ Lib.hasPrefix l [45] = neg ∧ Lib.trimPrefix l [45] = d ∧
  Lib.parseUintB 32 d = .ok u ∧ (d.head? == some 48 && (decide (1 < d.length) || neg)) = false ∧ u < 1000000000 ∧ valS l = (if neg then -(u : Int) else u) := by
 unfold wtB at h
 simp only [Bool.and_eq_true, beq_iff_eq, decide_eq_true_eq, Bool.not_eq_true'] at h
 obtain ⟨⟨⟨⟨⟨⟨⟨⟨⟨⟨⟨h1, h2⟩, h3⟩, h4⟩, h5⟩, h6⟩, h7⟩, h8⟩, h9⟩, h10⟩, h11⟩, h12⟩ := h
 refine ⟨h1, h2, h3, h4, h5, h6, h7, h8, ?_, h10, h11, h12⟩
 revert h9
 generalize Lib.parseUintB 32 d = r
 cases r <;> simp [okB]
def WT (s : ByteArray) (z : Int) : Prop := ∃ d u neg, wtB s.data.toList d u neg = true ∧ z = if neg then -(u : Int) else u
set_option maxHeartbeats 400000 in
theorem pnod (x : Nat) (w : World) (hx : x ≤ 1114111) : Calls Tryz.prog 193 #[.int .i32 (x : Int)] w (fun e w' => e = .returned (.bool (noDig x)) ∧ Below w.heap.size w w') := by
 unfold noDig
 rcases Nat.lt_or_ge x 48 with h | h
 ·have a0 : (x : Int) < 48 := by omega
  rw [decide_eq_true h, Bool.true_or]
  go_enter Tryz.func193, Tryz.ntmps193
  go_wp2
  go_ret
  exact ⟨rfl, Below.refl _ _⟩
 ·have a0 : ¬ (x : Int) < 48 := by omega
  rw [decide_eq_false (by omega), Bool.false_or]
  rcases Nat.lt_or_ge 57 x with h' | h'
  ·have a1 : (57 : Int) < x := by omega
   rw [decide_eq_true h']
   go_enter Tryz.func193, Tryz.ntmps193
   go_wp2
   go_ret
   exact ⟨rfl, Below.refl _ _⟩
  ·have a1 : ¬ (57 : Int) < x := by omega
   rw [decide_eq_false (by omega)]
   go_enter Tryz.func193, Tryz.ntmps193
   go_wp2
   go_ret
   exact ⟨rfl, Below.refl _ _⟩
theorem ten9 {k : Nat} (h : k < 9) : 10 ^ k ≤ 100000000 := Nat.le_trans (Nat.pow_le_pow_right (by decide) (show k ≤ 8 by omega)) (by decide)
theorem MagA.zero (w : World) : MagA w (.slice none 0 0) 0 := ⟨none, 0, by rw [limbs_zero]; rfl, by rw [limbs_zero]; exact Ls.nil w, AU.none w⟩
theorem ext_all (D : ByteArray) : D.extract 0 D.size = D := by simp
set_option maxHeartbeats 4000000 in
theorem parse_w (s : ByteArray) (z : Int) (w : World) (h : WT s z) : Calls Tryz.prog 156 #[.string s] w (RetP (fun v w' => ∃ x a n c, v = .tuple #[.agg #[.bool x, .slice a n c], .int .i64 0] ∧ IntV w' (.agg #[.bool x, .slice a n c]) z ∧ AU w' a) w) := by
 obtain ⟨d, u, neg, h, hz⟩ := h
 obtain ⟨hl, hlen, hne, -, -, hidx, hpre, htrim, hpu, hform, hu, -⟩ := wtB_spec h
 have H1 := hI (fun w' => Tryz.strings_CutPrefix s ⟨#[45]⟩ w')
 rw [show (⟨#[45]⟩ : ByteArray).data.toList = [45] from rfl, htrim, hpre] at H1
 have H2 := hI (fun w' => Tryz.strings_ContainsFunc_grows 193 #[] (enters_of Tryz.func193 (by kernel_rfl) rfl) noDig ⟨d.toArray⟩ w' (fun W x hx _ => pnod x W hx))
 rw [hidx, show decide ((0 : Int) ≤ -1) = false from rfl] at H2
 have hsz : (⟨d.toArray⟩ : ByteArray).size = d.length := by rw [Lib.size_eq]
 have H3 := hI (fun w' => Tryz.strconv_ParseUint_10_at32_ok ⟨d.toArray⟩ (by rw [hsz]; omega) u hpu w')
 have H4 := hI (fun w' (by' : Nat) (hby : by' < 4294967296) => scale_at none 0 0 [] by' u w' (Ls.nil w') (fun d hd => by cases hd) (by decide) hby (by omega))
 have H5 := hI (fun w' a c (hL : Ls w' (.slice a (limbs u).length c) (limbs u)) => signed_at neg a _ c (limbs u) w' hL (limbs_dg u))
 have hsg : sgn neg (natL (limbs u)) = z := by rw [natL_limbs, hz]; rfl
 rw [hsg] at H5
 have hss : s.size ≤ 10 := by rw [Lib.size_eq, hl]; cases neg <;> simp <;> omega
 have hss2 : ¬ (65536 : Int) < (s.size : Int) := by omega
 have he : (⟨d.toArray⟩ : ByteArray).toList.isEmpty = false := by
  rw [ByteArray.toList_eq]
  cases d with
  | nil => exact absurd rfl hne
  | cons a l => rfl
 have hn0 : 0 < d.length := List.length_pos_iff.2 hne
 have hcase : (d.length = 1 ∧ neg = false ∧ d.head? = some 48) ∨ (∃ c, d.head? = some c ∧ c ≠ 48) := by
  cases d with
  | nil => exact absurd rfl hne
  | cons a l =>
   by_cases ha : a = 48
   ·subst ha
    simp at hform
    exact .inl ⟨by simp [hform.1], hform.2, rfl⟩
   ·exact .inr ⟨a, rfl, ha⟩
 have hhead : ∀ c, d.head? = some c → ∀ (p : 0 < (⟨d.toArray⟩ : ByteArray).size), (⟨d.toArray⟩ : ByteArray)[0]'p = c := by
  intro c hc p
  cases d with
  | nil => exact absurd rfl hne
  | cons a l => cases hc; rfl
 have HR := hI (Blk.new w #[.bool false, .slice none 0 0] 75)
 have hext := ext_all ⟨d.toArray⟩
 have hem : ∀ n, n = (⟨d.toArray⟩ : ByteArray).size → ((⟨d.toArray⟩ : ByteArray).extract n n).size = 0 := fun n h => by simp
 generalize hD : (⟨d.toArray⟩ : ByteArray) = D at *
 have hDn : ∃ n, D.size = n := ⟨_, rfl⟩
 obtain ⟨n, hn⟩ := hDn
 rw [hn] at hsz hext hem
 have Hem := hI (hem n rfl)
 have hn9 : n ≤ 9 := by omega
 have hn1 : 0 < n := by omega
 have hp0 : 0 < D.size := by omega
 rw [← hsz] at hcase
 clear hpu hform hl hpre htrim hidx h hlen hne hsz hn0 hss hsg hz hem
 have hrem : ((n : Int) - 1).tmod 9 = (n : Int) - 1 := by
  rw [Int.tmod_eq_emod_of_nonneg (by omega)]; exact Int.emod_eq_of_lt (by omega) (by omega)
 have hw1 : IntKind.i64.wrap ((n : Int) - 1) = (n : Int) - 1 := IntWalk.i64_in _ (by omega)
 have hw2 : IntKind.i64.wrap ((n : Int) - 1 + 1) = (n : Int) := by rw [Int.sub_add_cancel]; exact IntWalk.i64_in _ (by omega)
 have hnp : (0 : Int) < (n : Int) := by omega
 have hbb : ¬ (n : Int) < 0 := by omega
 have hu32 : IntKind.u32.wrap (u : Int) = u := IntWalk.u32_in _ (by omega)
 rcases hcase with ⟨hA, rfl, hh⟩ | ⟨c, hh, h48⟩
 ·have hc := hhead 48 hh hp0
  have hc2 : ((D[0]'hp0).toNat : Int) = 48 := by rw [hc]; rfl
  have hn2 : ¬ (1 : Int) < (n : Int) := by omega
  clear hhead hc hh hA
  go_enter Tryz.func156, Tryz.ntmps156
  go_wp2_with (first
   | (go_at_call 191; refine (H1.out _).mono ?_; rintro e w' ⟨rfl, rfl⟩)
   | (go_at_call 192; refine (H2.out _).mono ?_; rintro e w1 ⟨rfl, hb1⟩; have Hb1 := hI hb1; clear hb1))
  go_loopw [4, 6] (fun x m wr => ∃ X M, x = .string X ∧ MagA wr m M ∧ Below w1.heap.size w1 wr ∧ ((D = X ∧ m = .slice none 0 0) ∨ (X.size = 0 ∧ M = u))) (fun x _ _ => match x with | .string X => X.size | _ => 0)
  case atStart => exact ⟨D, 0, rfl, MagA.zero _, Below.refl _ _, .inl ⟨rfl, rfl⟩⟩
  case round =>
   obtain ⟨X, M, rfl, hm, hbw, hor⟩ := hrel
   rcases hor with ⟨rfl, rfl⟩ | ⟨hX, rfl⟩
   ·have Hbw := hI hbw
    clear hbw hm
    go_wp2_with fail
    go_loopw [48, 8] (fun i b wv => ∃ k p : Nat, k ≤ n ∧ i = .int .i64 (k : Int) ∧ b = .int .u32 (p : Int) ∧ Hid (p = 10 ^ k) ∧ wv = wr) (fun i _ _ => n - (intOf i).toNat)
    case atStart => exact ⟨0, 1, by omega, rfl, rfl, rfl, rfl⟩
    case round =>
     obtain ⟨k, p, hk, rfl, rfl, hpk, rfl⟩ := hrel
     rcases Nat.lt_or_ge k n with hlt | hge
     ·have hp8 : p ≤ 100000000 := by rw [hpk.out]; exact ten9 (by omega)
      have hkn : (k : Int) < (n : Int) := by omega
      have hwp : IntKind.u32.wrap ((p : Int) * 10) = ((p * 10 : Nat) : Int) := by rw [Int.natCast_mul]; exact IntWalk.u32_in _ (by omega)
      go_wp2_with fail
      go_roundw
      case rel => exact ⟨k + 1, p * 10, by omega, by go_num, by go_num, by unfold Hid; rw [hpk.out, Nat.pow_succ], trivial⟩
      case measure => simp [intOf] <;> omega
     ·obtain rfl : k = n := by omega
      have hp9 : p < 4294967296 := by
       rw [hpk.out]
       exact Nat.lt_of_le_of_lt (Nat.pow_le_pow_right (by decide) hn9) (by decide)
      have hkn : ¬ (k : Int) < (k : Int) := by omega
      go_wp2_with (first
       | (go_at_call 194; refine (H3.out _).mono ?_; rintro e w2 ⟨rfl, hb2⟩; have Hb2 := hI (show Below wr.heap.size wr w2 by rcases hb2 with rfl | rfl <;> first | exact Below.refl _ _ | exact Lib.bytesWorld_below _ _ _); clear hb2)
       | (go_at_call 195; refine (H4.out _ p hp9).mono ?_; rintro e w3 ⟨v3, rfl, hv3, hb3⟩; have Hv3 := hI hv3; have Hb3 := hI hb3; clear hv3 hb3))
      go_roundw
      case rel => exact ⟨.empty, natL [] * p + u, rfl, Hv3.out, (bw_via Hbw.out (bw_via Hb2.out Hb3.out)), .inr ⟨rfl, by simp [natL]⟩⟩
      case measure => simp; omega
   ·obtain ⟨a, c, rfl, hL, hAU⟩ := hm
    have HAU := hI hAU
    have H5' := hI (H5.out _ a c hL)
    have Hbw := hI (bw_via Hb1.out hbw)
    clear hL hbw hAU
    generalize (limbs M).length = kl at *
    go_wp2_with (go_at_call 140; refine (H5'.out).mono ?_; rintro e w4 ⟨v4, rfl, ⟨hv, x5, k5, rfl⟩, hb4⟩; have HA4 := hI (((HAU.out.mono hb4).set w.heap.size 0 (.bool x5)).set w.heap.size 1 (.slice a k5 c)); have hr := HR.out.below (bw_via Hbw.out hb4); obtain ⟨⟨r0, r1⟩, f0, f1⟩ := blk2v hr; obtain ⟨hv6, hb6⟩ := IntV.put2 hv hr; have Hv6 := hI hv6; have Hb6 := hI hb6; have Hbel := hI (put_below (b := w.heap.size) x5 a k5 c ((below1 w (.cells #[.bool false, .slice none 0 0] 75)).via (bw_via Hbw.out hb4) (below1 w _).size) (Nat.le_refl _)); clear hr hv6 hb6 hv)
    obtain ⟨⟨q0, q1⟩, -⟩ := blk2v Hb6.out
    exact bodyPost_ret (v := .tuple #[.agg #[.bool x5, .slice a k5 c], .int .i64 0]) (by simp [results, Tryz.results156, go_sem, q0, q1]) rfl ⟨_, rfl, ⟨_, _, _, _, rfl, Hv6.out, HA4.out⟩, Hbel.out⟩
 ·have hc := hhead c hh hp0
  have hc2 : (((D[0]'hp0).toNat : Int) == 48) = false := by
   rw [hc, beq_eq_false_iff_ne]
   intro h
   exact h48 (UInt8.toNat_inj.1 (by have : (48 : UInt8).toNat = 48 := rfl; omega))
  clear hhead hc hh h48
  go_enter Tryz.func156, Tryz.ntmps156
  go_wp2_with (first
   | (go_at_call 191; refine (H1.out _).mono ?_; rintro e w' ⟨rfl, rfl⟩)
   | (go_at_call 192; refine (H2.out _).mono ?_; rintro e w1 ⟨rfl, hb1⟩; have Hb1 := hI hb1; clear hb1))
  go_loopw [4, 6] (fun x m wr => ∃ X M, x = .string X ∧ MagA wr m M ∧ Below w1.heap.size w1 wr ∧ ((D = X ∧ m = .slice none 0 0) ∨ (X.size = 0 ∧ M = u))) (fun x _ _ => match x with | .string X => X.size | _ => 0)
  case atStart => exact ⟨D, 0, rfl, MagA.zero _, Below.refl _ _, .inl ⟨rfl, rfl⟩⟩
  case round =>
   obtain ⟨X, M, rfl, hm, hbw, hor⟩ := hrel
   rcases hor with ⟨rfl, rfl⟩ | ⟨hX, rfl⟩
   ·have Hbw := hI hbw
    clear hbw hm
    go_wp2_with fail
    go_loopw [48, 8] (fun i b wv => ∃ k p : Nat, k ≤ n ∧ i = .int .i64 (k : Int) ∧ b = .int .u32 (p : Int) ∧ Hid (p = 10 ^ k) ∧ wv = wr) (fun i _ _ => n - (intOf i).toNat)
    case atStart => exact ⟨0, 1, by omega, rfl, rfl, rfl, rfl⟩
    case round =>
     obtain ⟨k, p, hk, rfl, rfl, hpk, rfl⟩ := hrel
     rcases Nat.lt_or_ge k n with hlt | hge
     ·have hp8 : p ≤ 100000000 := by rw [hpk.out]; exact ten9 (by omega)
      have hkn : (k : Int) < (n : Int) := by omega
      have hwp : IntKind.u32.wrap ((p : Int) * 10) = ((p * 10 : Nat) : Int) := by rw [Int.natCast_mul]; exact IntWalk.u32_in _ (by omega)
      go_wp2_with fail
      go_roundw
      case rel => exact ⟨k + 1, p * 10, by omega, by go_num, by go_num, by unfold Hid; rw [hpk.out, Nat.pow_succ], trivial⟩
      case measure => simp [intOf] <;> omega
     ·obtain rfl : k = n := by omega
      have hp9 : p < 4294967296 := by
       rw [hpk.out]
       exact Nat.lt_of_le_of_lt (Nat.pow_le_pow_right (by decide) hn9) (by decide)
      have hkn : ¬ (k : Int) < (k : Int) := by omega
      go_wp2_with (first
       | (go_at_call 194; refine (H3.out _).mono ?_; rintro e w2 ⟨rfl, hb2⟩; have Hb2 := hI (show Below wr.heap.size wr w2 by rcases hb2 with rfl | rfl <;> first | exact Below.refl _ _ | exact Lib.bytesWorld_below _ _ _); clear hb2)
       | (go_at_call 195; refine (H4.out _ p hp9).mono ?_; rintro e w3 ⟨v3, rfl, hv3, hb3⟩; have Hv3 := hI hv3; have Hb3 := hI hb3; clear hv3 hb3))
      go_roundw
      case rel => exact ⟨.empty, natL [] * p + u, rfl, Hv3.out, (bw_via Hbw.out (bw_via Hb2.out Hb3.out)), .inr ⟨rfl, by simp [natL]⟩⟩
      case measure => simp; omega
   ·obtain ⟨a, c, rfl, hL, hAU⟩ := hm
    have HAU := hI hAU
    have H5' := hI (H5.out _ a c hL)
    have Hbw := hI (bw_via Hb1.out hbw)
    clear hL hbw hAU
    generalize (limbs M).length = kl at *
    go_wp2_with (go_at_call 140; refine (H5'.out).mono ?_; rintro e w4 ⟨v4, rfl, ⟨hv, x5, k5, rfl⟩, hb4⟩; have HA4 := hI (((HAU.out.mono hb4).set w.heap.size 0 (.bool x5)).set w.heap.size 1 (.slice a k5 c)); have hr := HR.out.below (bw_via Hbw.out hb4); obtain ⟨⟨r0, r1⟩, f0, f1⟩ := blk2v hr; obtain ⟨hv6, hb6⟩ := IntV.put2 hv hr; have Hv6 := hI hv6; have Hb6 := hI hb6; have Hbel := hI (put_below (b := w.heap.size) x5 a k5 c ((below1 w (.cells #[.bool false, .slice none 0 0] 75)).via (bw_via Hbw.out hb4) (below1 w _).size) (Nat.le_refl _)); clear hr hv6 hb6 hv)
    obtain ⟨⟨q0, q1⟩, -⟩ := blk2v Hb6.out
    exact bodyPost_ret (v := .tuple #[.agg #[.bool x5, .slice a k5 c], .int .i64 0]) (by simp [results, Tryz.results156, go_sem, q0, q1]) rfl ⟨_, rfl, ⟨_, _, _, _, rfl, Hv6.out, HA4.out⟩, Hbel.out⟩
end Go.Proofs.YtacihodamichhaaGreatDoor
