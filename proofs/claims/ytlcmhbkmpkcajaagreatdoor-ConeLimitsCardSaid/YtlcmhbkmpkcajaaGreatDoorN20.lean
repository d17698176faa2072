/-
  Parts of the proof: Rnsg.
-/
import Derived.Test.YtlcmhbkmpkcajaaGreatDoorN16
namespace Go.Proofs.YtlcmhbkmpkcajaaGreatDoor
open Go.RowKit
set_option maxHeartbeats 4000000 in
theorem rneg_g (v : Value) (r : Rat) (w : World) (h : RQ w v r) : Calls Tryz.prog 35 #[v] w (RetP (fun x w' => RQ w' x (-r)) w) := by
  obtain ⟨q, h, hq⟩ := h
  obtain ⟨x, a, n, c, x', a', n', c', rfl, h⟩ := h.open
  have hA : Blk ((w.alloc (.cells #[.bool x, .slice a n c, .bool x', .slice a' n' c'] 61)).alloc (.cells #[.bool false, .slice none 0 0, .bool false, .slice none 0 0] 61)) w.heap.size #[.bool x, .slice a n c, .bool x', .slice a' n' c'] 61 := (Blk.new w _ _).old _
  have hR : Blk ((w.alloc (.cells #[.bool x, .slice a n c, .bool x', .slice a' n' c'] 61)).alloc (.cells #[.bool false, .slice none 0 0, .bool false, .slice none 0 0] 61)) (w.heap.size + 1) #[.bool false, .slice none 0 0, .bool false, .slice none 0 0] 61 := by
    have h := Blk.new (w.alloc (.cells #[.bool x, .slice a n c, .bool x', .slice a' n' c'] 61)) #[.bool false, .slice none 0 0, .bool false, .slice none 0 0] 61
    simpa using h
  have HK := hI (below2 w (.cells #[.bool x, .slice a n c, .bool x', .slice a' n' c'] 61) (.cells #[.bool false, .slice none 0 0, .bool false, .slice none 0 0] 61))
  have HS := hI (fun w' (hb : Below ((w.alloc (.cells #[.bool x, .slice a n c, .bool x', .slice a' n' c'] 61)).alloc (.cells #[.bool false, .slice none 0 0, .bool false, .slice none 0 0] 61)).heap.size ((w.alloc (.cells #[.bool x, .slice a n c, .bool x', .slice a' n' c'] 61)).alloc (.cells #[.bool false, .slice none 0 0, .bool false, .slice none 0 0] 61)) w') => (blk4v (hA.below hb)).1)
  have HR := hI hR
  have HP := hI (fun w' (hb : Below ((w.alloc (.cells #[.bool x, .slice a n c, .bool x', .slice a' n' c'] 61)).alloc (.cells #[.bool false, .slice none 0 0, .bool false, .slice none 0 0] 61)).heap.size ((w.alloc (.cells #[.bool x, .slice a n c, .bool x', .slice a' n' c'] 61)).alloc (.cells #[.bool false, .slice none 0 0, .bool false, .slice none 0 0] 61)) w') => ((h.mono HK.out).mono hb).parts)
  have H2 := hI (fun w' (hb : Below ((w.alloc (.cells #[.bool x, .slice a n c, .bool x', .slice a' n' c'] 61)).alloc (.cells #[.bool false, .slice none 0 0, .bool false, .slice none 0 0] 61)).heap.size ((w.alloc (.cells #[.bool x, .slice a n c, .bool x', .slice a' n' c'] 61)).alloc (.cells #[.bool false, .slice none 0 0, .bool false, .slice none 0 0] 61)) w') => neg_any _ r.num w' (HP.out w' hb).1)
  have HQ := hI hq
  have hbs : Below ((w.alloc (.cells #[.bool x, .slice a n c, .bool x', .slice a' n' c'] 61)).alloc (.cells #[.bool false, .slice none 0 0, .bool false, .slice none 0 0] 61)).heap.size ((w.alloc (.cells #[.bool x, .slice a n c, .bool x', .slice a' n' c'] 61)).alloc (.cells #[.bool false, .slice none 0 0, .bool false, .slice none 0 0] 61)) ((w.alloc (.cells #[.bool x, .slice a n c, .bool x', .slice a' n' c'] 61)).alloc (.cells #[.bool false, .slice none 0 0, .bool false, .slice none 0 0] 61)) := Below.refl _ _
  clear hA hR h hq
  go_enter Tryz.func35, Tryz.ntmps35
  go_wp2_with fail
  refine wp_region_pop (S := (fun w' => w'.cell? ⟨w.heap.size, 0, none⟩ = some (.bool x) ∧ w'.cell? ⟨w.heap.size, 1, none⟩ = some (.slice a n c) ∧ w'.cell? ⟨w.heap.size, 2, none⟩ = some (.bool x') ∧ w'.cell? ⟨w.heap.size, 3, none⟩ = some (.slice a' n' c'))) 6 (by kernel_rfl) (by kernel_rfl) (by exact HS.out _ (hbs.dn 1)) (fun hHeld => ?_)
  simp only [List.take_succ_cons, List.take_zero, List.drop_succ_cons, List.drop_zero]
  refine' tk 0 ?_; (try simp only [tkS]); refine' tk 1 ?_; (try simp only [tkS]); refine' tk 3 ?_; (try simp only [tkS]); refine' tk 4 ?_; (try simp only [tkS])
  refine tk1 2 (fun K hK => ?_)
  go_simp
  go_at_call 60
  refine (H2.out _ (hbs.dn 1)).mono ?_
  rintro e5 w2 ⟨v2, rfl, hv2, hb2⟩
  have Hb2 := hI (bw_via (hbs.dn 1) hb2)
  obtain ⟨x21, a21, k21, c21, rfl, hv2⟩ := hv2.open
  have HO2 := hI hv2
  clear hv2
  clear hb2
  refine hK.out _ _ (by exact HS.out _ (Hb2.out)) (fun hHeld => ?_)
  clear hK K; (try simp only [tkS])
  refine' tk 5 ?_; (try simp only [tkS])
  refine tkD ?_ _
  simp only [Exit.then]
  have hrv : RatV _ (.agg #[.bool x21, .slice a21 k21 c21, .bool x', .slice a' n' c']) (-r.num) q := ⟨x21, a21, k21, c21, x', a', n', c', rfl, HO2.out, (HP.out _ Hb2.out).2⟩
  have hr := HR.out.below Hb2.out
  obtain ⟨⟨r0, r1, r2, r3⟩, f0, f1, f2, f3⟩ := blk4v hr
  obtain ⟨hv6, hb6⟩ := RatV.put4 hrv hr
  have Hv6 := hI hv6
  have Hb6 := hI hb6
  have Hbel := hI (put_below4 (b := w.heap.size + 1) (.bool x21) (.slice a21 k21 c21) (.bool x') (.slice a' n' c') (HK.out.via Hb2.out HK.out.size) (by omega))
  clear hv6 hb6 hr hrv
  go_wp2_with fail
  obtain ⟨⟨q0, q1, q2, q3⟩, -⟩ := blk4v Hb6.out
  exact bodyPost_ret (v := .agg #[.bool x21, .slice a21 k21 c21, .bool x', .slice a' n' c']) (by simp [results, Tryz.results35, go_sem, q0, q1, q2, q3]) rfl ⟨_, rfl, ⟨q, Hv6.out, HQ.out⟩, Hbel.out⟩
set_option maxHeartbeats 8000000 in
set_option maxRecDepth 100000 in
theorem rsub_g (u v : Value) (r s : Rat) (k1 k2 : Nat) (w : World) (h : RQ w u r) (h' : RQ w v s) (hz : Sz k1 r) (hz' : Sz k2 s) (hk : k1 + k2 ≤ 80000) : Calls Tryz.prog 153 #[u, v] w (RetP (fun x w' => RQ w' x (r - s)) w) := by
  obtain ⟨q, h, hq⟩ := h
  obtain ⟨q', h', hq'⟩ := h'
  obtain ⟨x, a, n, c, x', a', n', c', rfl, h⟩ := h.open
  obtain ⟨y, e, m, k, y', e', m', k', rfl, h'⟩ := h'.open
  have hA : Blk (((w.alloc (.cells #[.bool x, .slice a n c, .bool x', .slice a' n' c'] 61)).alloc (.cells #[.bool y, .slice e m k, .bool y', .slice e' m' k'] 61)).alloc (.cells #[.bool false, .slice none 0 0, .bool false, .slice none 0 0] 61)) w.heap.size #[.bool x, .slice a n c, .bool x', .slice a' n' c'] 61 := ((Blk.new w _ _).old _).old _
  have hB : Blk (((w.alloc (.cells #[.bool x, .slice a n c, .bool x', .slice a' n' c'] 61)).alloc (.cells #[.bool y, .slice e m k, .bool y', .slice e' m' k'] 61)).alloc (.cells #[.bool false, .slice none 0 0, .bool false, .slice none 0 0] 61)) (w.heap.size + 1) #[.bool y, .slice e m k, .bool y', .slice e' m' k'] 61 := by
    have h := (Blk.new (w.alloc (.cells #[.bool x, .slice a n c, .bool x', .slice a' n' c'] 61)) #[.bool y, .slice e m k, .bool y', .slice e' m' k'] 61).old (.cells #[.bool false, .slice none 0 0, .bool false, .slice none 0 0] 61)
    simpa using h
  have hR : Blk (((w.alloc (.cells #[.bool x, .slice a n c, .bool x', .slice a' n' c'] 61)).alloc (.cells #[.bool y, .slice e m k, .bool y', .slice e' m' k'] 61)).alloc (.cells #[.bool false, .slice none 0 0, .bool false, .slice none 0 0] 61)) (w.heap.size + 1 + 1) #[.bool false, .slice none 0 0, .bool false, .slice none 0 0] 61 := by
    have h := Blk.new ((w.alloc (.cells #[.bool x, .slice a n c, .bool x', .slice a' n' c'] 61)).alloc (.cells #[.bool y, .slice e m k, .bool y', .slice e' m' k'] 61)) #[.bool false, .slice none 0 0, .bool false, .slice none 0 0] 61
    simpa using h
  have HK := hI (below3 w (.cells #[.bool x, .slice a n c, .bool x', .slice a' n' c'] 61) (.cells #[.bool y, .slice e m k, .bool y', .slice e' m' k'] 61) (.cells #[.bool false, .slice none 0 0, .bool false, .slice none 0 0] 61))
  have HS := hI (fun w' (hb : Below (((w.alloc (.cells #[.bool x, .slice a n c, .bool x', .slice a' n' c'] 61)).alloc (.cells #[.bool y, .slice e m k, .bool y', .slice e' m' k'] 61)).alloc (.cells #[.bool false, .slice none 0 0, .bool false, .slice none 0 0] 61)).heap.size (((w.alloc (.cells #[.bool x, .slice a n c, .bool x', .slice a' n' c'] 61)).alloc (.cells #[.bool y, .slice e m k, .bool y', .slice e' m' k'] 61)).alloc (.cells #[.bool false, .slice none 0 0, .bool false, .slice none 0 0] 61)) w') => And.intro (blk4v (hA.below hb)).1 (blk4v (hB.below hb)).1)
  have HR := hI hR
  have HP := hI (fun w' (hb : Below (((w.alloc (.cells #[.bool x, .slice a n c, .bool x', .slice a' n' c'] 61)).alloc (.cells #[.bool y, .slice e m k, .bool y', .slice e' m' k'] 61)).alloc (.cells #[.bool false, .slice none 0 0, .bool false, .slice none 0 0] 61)).heap.size (((w.alloc (.cells #[.bool x, .slice a n c, .bool x', .slice a' n' c'] 61)).alloc (.cells #[.bool y, .slice e m k, .bool y', .slice e' m' k'] 61)).alloc (.cells #[.bool false, .slice none 0 0, .bool false, .slice none 0 0] 61)) w') => And.intro ((h.mono HK.out).mono hb) ((h'.mono HK.out).mono hb))
  have HF := hI (And.intro (few_sz hz (by omega)) (few_sz hz' (by omega)))
  have H2 := hI (fun w' (hb : Below (((w.alloc (.cells #[.bool x, .slice a n c, .bool x', .slice a' n' c'] 61)).alloc (.cells #[.bool y, .slice e m k, .bool y', .slice e' m' k'] 61)).alloc (.cells #[.bool false, .slice none 0 0, .bool false, .slice none 0 0] 61)).heap.size (((w.alloc (.cells #[.bool x, .slice a n c, .bool x', .slice a' n' c'] 61)).alloc (.cells #[.bool y, .slice e m k, .bool y', .slice e' m' k'] 61)).alloc (.cells #[.bool false, .slice none 0 0, .bool false, .slice none 0 0] 61)) w') => rneg_g _ s w' ⟨q', (HP.out w' hb).2, hq'⟩)
  have H3 := hI (fun w' z (hb : Below (((w.alloc (.cells #[.bool x, .slice a n c, .bool x', .slice a' n' c'] 61)).alloc (.cells #[.bool y, .slice e m k, .bool y', .slice e' m' k'] 61)).alloc (.cells #[.bool false, .slice none 0 0, .bool false, .slice none 0 0] 61)).heap.size (((w.alloc (.cells #[.bool x, .slice a n c, .bool x', .slice a' n' c'] 61)).alloc (.cells #[.bool y, .slice e m k, .bool y', .slice e' m' k'] 61)).alloc (.cells #[.bool false, .slice none 0 0, .bool false, .slice none 0 0] 61)) w') (hv : RQ w' z (-s)) => radd_g _ z r (-s) k1 k2 w' ⟨q, (HP.out w' hb).1, hq⟩ hv hz hz'.neg hk)
  rw [← Rat.sub_eq_add_neg] at H3
  have hbs : Below (((w.alloc (.cells #[.bool x, .slice a n c, .bool x', .slice a' n' c'] 61)).alloc (.cells #[.bool y, .slice e m k, .bool y', .slice e' m' k'] 61)).alloc (.cells #[.bool false, .slice none 0 0, .bool false, .slice none 0 0] 61)).heap.size (((w.alloc (.cells #[.bool x, .slice a n c, .bool x', .slice a' n' c'] 61)).alloc (.cells #[.bool y, .slice e m k, .bool y', .slice e' m' k'] 61)).alloc (.cells #[.bool false, .slice none 0 0, .bool false, .slice none 0 0] 61)) (((w.alloc (.cells #[.bool x, .slice a n c, .bool x', .slice a' n' c'] 61)).alloc (.cells #[.bool y, .slice e m k, .bool y', .slice e' m' k'] 61)).alloc (.cells #[.bool false, .slice none 0 0, .bool false, .slice none 0 0] 61)) := Below.refl _ _
  clear hA hB hR h h' hz hz' hq hq' hk
  go_enter Tryz.func153, Tryz.ntmps153
  go_wp2_with fail
  refine wp_region_pop (S := (fun w' => w'.cell? ⟨w.heap.size, 0, none⟩ = some (.bool x) ∧ w'.cell? ⟨w.heap.size, 1, none⟩ = some (.slice a n c) ∧ w'.cell? ⟨w.heap.size, 2, none⟩ = some (.bool x') ∧ w'.cell? ⟨w.heap.size, 3, none⟩ = some (.slice a' n' c') ∧ w'.cell? ⟨w.heap.size + 1, 0, none⟩ = some (.bool y) ∧ w'.cell? ⟨w.heap.size + 1, 1, none⟩ = some (.slice e m k) ∧ w'.cell? ⟨w.heap.size + 1, 2, none⟩ = some (.bool y') ∧ w'.cell? ⟨w.heap.size + 1, 3, none⟩ = some (.slice e' m' k'))) 4 (by kernel_rfl) (by kernel_rfl) (by exact (fun h => ⟨h.1.1, h.1.2.1, h.1.2.2.1, h.1.2.2.2, h.2⟩) (HS.out _ (hbs.dn 1))) (fun hHeld => ?_)
  simp only [List.take_succ_cons, List.take_zero, List.drop_succ_cons, List.drop_zero]
  refine' tk 0 ?_; (try simp only [tkS]); refine' tk 1 ?_; (try simp only [tkS])
  refine tk1 2 (fun K hK => ?_)
  go_simp
  go_at_call 35
  refine (H2.out _ (hbs.dn 1)).mono ?_
  rintro e5 w2 ⟨v2, rfl, hv2, hb2⟩
  have Hb2 := hI (bw_via (hbs.dn 1) hb2)
  obtain ⟨x21, a21, n21, c21, x22, a22, n22, c22, rfl, hv2⟩ := hv2.open
  have HO2 := hI hv2
  clear hv2
  clear hb2
  refine hK.out _ _ (by exact (fun h => ⟨h.1.1, h.1.2.1, h.1.2.2.1, h.1.2.2.2, h.2⟩) (HS.out _ (Hb2.out))) (fun hHeld => ?_)
  clear hK K; (try simp only [tkS])
  refine tk1 3 (fun K hK => ?_)
  go_simp
  go_at_call 32
  refine (H3.out _ _ (Hb2.out) HO2.out).mono ?_
  rintro e5 w3 ⟨v3, rfl, hv3, hb3⟩
  have HO2 := hI (HO2.out.mono hb3)
  have Hb3 := hI (bw_via (Hb2.out) hb3)
  obtain ⟨x5, a5, n5, c5, x6, a6, n6, c6, rfl, hv3⟩ := hv3.open
  have HO3 := hI hv3
  clear hv3
  clear hb3
  refine hK.out _ _ (by exact (fun h => ⟨h.1.1, h.1.2.1, h.1.2.2.1, h.1.2.2.2, h.2⟩) (HS.out _ (Hb3.out))) (fun hHeld => ?_)
  clear hK K; (try simp only [tkS])
  refine tkD ?_ _
  simp only [Exit.then]
  have hr := HR.out.below Hb3.out
  obtain ⟨⟨r0, r1, r2, r3⟩, f0, f1, f2, f3⟩ := blk4v hr
  obtain ⟨hv6, hb6⟩ := RQ.put4 HO3.out hr
  have Hv6 := hI hv6
  have Hb6 := hI hb6
  have Hbel := hI (put_below4 (b := w.heap.size + 1 + 1) (.bool x5) (.slice a5 n5 c5) (.bool x6) (.slice a6 n6 c6) (HK.out.via Hb3.out HK.out.size) (by omega))
  clear hv6 hb6 hr
  go_wp2_with fail
  obtain ⟨⟨q0, q1, q2, q3⟩, -⟩ := blk4v Hb6.out
  exact bodyPost_ret (v := .agg #[.bool x5, .slice a5 n5 c5, .bool x6, .slice a6 n6 c6]) (by simp [results, Tryz.results153, go_sem, q0, q1, q2, q3]) rfl ⟨_, rfl, Hv6.out, Hbel.out⟩
set_option maxHeartbeats 8000000 in
set_option maxRecDepth 100000 in
theorem rdiv_g (u v : Value) (r s : Rat) (k1 k2 : Nat) (w : World) (h : RQ w u r) (h' : RQ w v s) (hz : Sz k1 r) (hz' : Sz k2 s) (hk : k1 + k2 ≤ 80000) (hs : 0 < s) : Calls Tryz.prog 76 #[u, v] w (RetP (fun x w' => ∃ r0, x = .tuple #[r0, .int .i64 0] ∧ RQ w' r0 (r / s)) w) := by
  obtain ⟨q, h, hq⟩ := h
  obtain ⟨q', h', hq'⟩ := h'
  obtain ⟨x, a, n, c, x', a', n', c', rfl, h⟩ := h.open
  obtain ⟨y, e, m, k, y', e', m', k', rfl, h'⟩ := h'.open
  have hA : Blk (((w.alloc (.cells #[.bool x, .slice a n c, .bool x', .slice a' n' c'] 61)).alloc (.cells #[.bool y, .slice e m k, .bool y', .slice e' m' k'] 61)).alloc (.cells #[.bool false, .slice none 0 0, .bool false, .slice none 0 0] 61)) w.heap.size #[.bool x, .slice a n c, .bool x', .slice a' n' c'] 61 := ((Blk.new w _ _).old _).old _
  have hB : Blk (((w.alloc (.cells #[.bool x, .slice a n c, .bool x', .slice a' n' c'] 61)).alloc (.cells #[.bool y, .slice e m k, .bool y', .slice e' m' k'] 61)).alloc (.cells #[.bool false, .slice none 0 0, .bool false, .slice none 0 0] 61)) (w.heap.size + 1) #[.bool y, .slice e m k, .bool y', .slice e' m' k'] 61 := by
    have h := (Blk.new (w.alloc (.cells #[.bool x, .slice a n c, .bool x', .slice a' n' c'] 61)) #[.bool y, .slice e m k, .bool y', .slice e' m' k'] 61).old (.cells #[.bool false, .slice none 0 0, .bool false, .slice none 0 0] 61)
    simpa using h
  have hR : Blk (((w.alloc (.cells #[.bool x, .slice a n c, .bool x', .slice a' n' c'] 61)).alloc (.cells #[.bool y, .slice e m k, .bool y', .slice e' m' k'] 61)).alloc (.cells #[.bool false, .slice none 0 0, .bool false, .slice none 0 0] 61)) (w.heap.size + 1 + 1) #[.bool false, .slice none 0 0, .bool false, .slice none 0 0] 61 := by
    have h := Blk.new ((w.alloc (.cells #[.bool x, .slice a n c, .bool x', .slice a' n' c'] 61)).alloc (.cells #[.bool y, .slice e m k, .bool y', .slice e' m' k'] 61)) #[.bool false, .slice none 0 0, .bool false, .slice none 0 0] 61
    simpa using h
  have HK := hI (below3 w (.cells #[.bool x, .slice a n c, .bool x', .slice a' n' c'] 61) (.cells #[.bool y, .slice e m k, .bool y', .slice e' m' k'] 61) (.cells #[.bool false, .slice none 0 0, .bool false, .slice none 0 0] 61))
  have HS := hI (fun w' (hb : Below (((w.alloc (.cells #[.bool x, .slice a n c, .bool x', .slice a' n' c'] 61)).alloc (.cells #[.bool y, .slice e m k, .bool y', .slice e' m' k'] 61)).alloc (.cells #[.bool false, .slice none 0 0, .bool false, .slice none 0 0] 61)).heap.size (((w.alloc (.cells #[.bool x, .slice a n c, .bool x', .slice a' n' c'] 61)).alloc (.cells #[.bool y, .slice e m k, .bool y', .slice e' m' k'] 61)).alloc (.cells #[.bool false, .slice none 0 0, .bool false, .slice none 0 0] 61)) w') => And.intro (blk4v (hA.below hb)).1 (blk4v (hB.below hb)).1)
  have HR := hI hR
  have HP := hI (fun w' (hb : Below (((w.alloc (.cells #[.bool x, .slice a n c, .bool x', .slice a' n' c'] 61)).alloc (.cells #[.bool y, .slice e m k, .bool y', .slice e' m' k'] 61)).alloc (.cells #[.bool false, .slice none 0 0, .bool false, .slice none 0 0] 61)).heap.size (((w.alloc (.cells #[.bool x, .slice a n c, .bool x', .slice a' n' c'] 61)).alloc (.cells #[.bool y, .slice e m k, .bool y', .slice e' m' k'] 61)).alloc (.cells #[.bool false, .slice none 0 0, .bool false, .slice none 0 0] 61)) w') => And.intro ((h.mono HK.out).mono hb) ((h'.mono HK.out).mono hb))
  have HF := hI (And.intro (few_sz hz (by omega)) (few_sz hz' (by omega)))
  have hsp : 0 < s.num := by
    have h1 := Rat.num_nonneg.2 (Rat.le_of_lt hs)
    have h2 : s.num ≠ 0 := fun e => absurd (Rat.num_eq_zero.1 e) (Rat.ne_of_gt hs)
    omega
  have hsn : (s.num.natAbs : Int) = s.num := by omega
  have hsg : ((s.num.sign : Int) == 0) = false := by rw [Int.sign_eq_one_of_pos hsp]; rfl
  have H1 := hI (fun w' (hb : Below (((w.alloc (.cells #[.bool x, .slice a n c, .bool x', .slice a' n' c'] 61)).alloc (.cells #[.bool y, .slice e m k, .bool y', .slice e' m' k'] 61)).alloc (.cells #[.bool false, .slice none 0 0, .bool false, .slice none 0 0] 61)).heap.size (((w.alloc (.cells #[.bool x, .slice a n c, .bool x', .slice a' n' c'] 61)).alloc (.cells #[.bool y, .slice e m k, .bool y', .slice e' m' k'] 61)).alloc (.cells #[.bool false, .slice none 0 0, .bool false, .slice none 0 0] 61)) w') => rsign_any _ s.num q' w' (HP.out w' hb).2)
  have HDA := hI (fun w' (hb : Below (((w.alloc (.cells #[.bool x, .slice a n c, .bool x', .slice a' n' c'] 61)).alloc (.cells #[.bool y, .slice e m k, .bool y', .slice e' m' k'] 61)).alloc (.cells #[.bool false, .slice none 0 0, .bool false, .slice none 0 0] 61)).heap.size (((w.alloc (.cells #[.bool x, .slice a n c, .bool x', .slice a' n' c'] 61)).alloc (.cells #[.bool y, .slice e m k, .bool y', .slice e' m' k'] 61)).alloc (.cells #[.bool false, .slice none 0 0, .bool false, .slice none 0 0] 61)) w') => den_g _ r.num q w' (HP.out w' hb).1)
  have HDB := hI (fun w' (hb : Below (((w.alloc (.cells #[.bool x, .slice a n c, .bool x', .slice a' n' c'] 61)).alloc (.cells #[.bool y, .slice e m k, .bool y', .slice e' m' k'] 61)).alloc (.cells #[.bool false, .slice none 0 0, .bool false, .slice none 0 0] 61)).heap.size (((w.alloc (.cells #[.bool x, .slice a n c, .bool x', .slice a' n' c'] 61)).alloc (.cells #[.bool y, .slice e m k, .bool y', .slice e' m' k'] 61)).alloc (.cells #[.bool false, .slice none 0 0, .bool false, .slice none 0 0] 61)) w') => den_g _ s.num q' w' (HP.out w' hb).2)
  rw [hq] at HDA
  rw [hq'] at HDB
  have m1 := ten_mul hz.1 hz'.2
  have m3 := ten_mul hz.2 hz'.1
  have f1 : Few (r.num * (s.den : Int)).natAbs := limbs_ten (k := k1 + k2) (by rw [Int.natAbs_mul, Int.natAbs_natCast]; exact m1) (by omega)
  have H4 := hI (fun w' (hb : Below (((w.alloc (.cells #[.bool x, .slice a n c, .bool x', .slice a' n' c'] 61)).alloc (.cells #[.bool y, .slice e m k, .bool y', .slice e' m' k'] 61)).alloc (.cells #[.bool false, .slice none 0 0, .bool false, .slice none 0 0] 61)).heap.size (((w.alloc (.cells #[.bool x, .slice a n c, .bool x', .slice a' n' c'] 61)).alloc (.cells #[.bool y, .slice e m k, .bool y', .slice e' m' k'] 61)).alloc (.cells #[.bool false, .slice none 0 0, .bool false, .slice none 0 0] 61)) w') z (hr : IntV w' z (s.den : Int)) => mul_any _ z r.num (s.den : Int) w' (HP.out w' hb).1.parts.1 hr HF.out.1.1 HF.out.2.2.2)
  have H9 := hI (fun w' (hb : Below (((w.alloc (.cells #[.bool x, .slice a n c, .bool x', .slice a' n' c'] 61)).alloc (.cells #[.bool y, .slice e m k, .bool y', .slice e' m' k'] 61)).alloc (.cells #[.bool false, .slice none 0 0, .bool false, .slice none 0 0] 61)).heap.size (((w.alloc (.cells #[.bool x, .slice a n c, .bool x', .slice a' n' c'] 61)).alloc (.cells #[.bool y, .slice e m k, .bool y', .slice e' m' k'] 61)).alloc (.cells #[.bool false, .slice none 0 0, .bool false, .slice none 0 0] 61)) w') z (hr : IntV w' z (r.den : Int)) => mul_any z _ (r.den : Int) s.num w' hr (HP.out w' hb).2.parts.1 HF.out.1.2.2 HF.out.2.1)
  have H10 := hI (fun w' z z' (hr : IntV w' z (r.num * (s.den : Int))) (hr' : IntV w' z' ((r.den * s.num.natAbs : Nat) : Int)) => reduced_g z z' _ (r.den * s.num.natAbs) w' hr hr' (Nat.mul_pos r.den_pos (by omega)) f1 (limbs_ten m3 (by omega)))
  rw [← rat_div_mk hs, Int.natCast_mul, hsn] at H10
  generalize s.num.sign = sg at *
  clear hA hB hR h h' hz hz' hq hq' hk m1 m3 f1 hsn hsp hs
  go_enter Tryz.func76, Tryz.ntmps76
  obtain ⟨⟨s0, s1, s2, s3⟩, t0, t1, t2, t3⟩ := HS.out _ (Below.refl _ _)
  go_wp2_with (go_at_call 23; refine (H1.out _ (Below.refl _ _)).mono ?_; rintro e w1 ⟨rfl, hb1⟩; have Hb1 := hI hb1; obtain ⟨⟨s0, s1, s2, s3⟩, t0, t1, t2, t3⟩ := HS.out _ hb1; clear hb1)
  refine wp_region_held_drew (S := (fun w' => w'.cell? ⟨w.heap.size, 0, none⟩ = some (.bool x) ∧ w'.cell? ⟨w.heap.size, 1, none⟩ = some (.slice a n c) ∧ w'.cell? ⟨w.heap.size, 2, none⟩ = some (.bool x') ∧ w'.cell? ⟨w.heap.size, 3, none⟩ = some (.slice a' n' c') ∧ w'.cell? ⟨w.heap.size + 1, 0, none⟩ = some (.bool y) ∧ w'.cell? ⟨w.heap.size + 1, 1, none⟩ = some (.slice e m k) ∧ w'.cell? ⟨w.heap.size + 1, 2, none⟩ = some (.bool y') ∧ w'.cell? ⟨w.heap.size + 1, 3, none⟩ = some (.slice e' m' k'))) (by kernel_rfl) (by exact (fun h => ⟨h.1.1, h.1.2.1, h.1.2.2.1, h.1.2.2.2, h.2⟩) (HS.out _ (Hb1.out.dn 1))) (fun hHeld => ?_)
  refine' tk 0 ?_; (try simp only [tkS]); refine' tk 1 ?_; (try simp only [tkS]); refine' tk 2 ?_; (try simp only [tkS]); refine' tk 5 ?_; (try simp only [tkS]); refine' tk 7 ?_; (try simp only [tkS]); refine' tk 8 ?_; (try simp only [tkS])
  refine tk1 3 (fun K hK => ?_)
  go_simp
  go_at_call 59
  refine (HDB.out _ (Hb1.out.dn 1)).mono ?_
  rintro e5 w3 ⟨v3, rfl, hv3, hb3⟩
  have Hb3 := hI (bw_via (Hb1.out.dn 1) hb3)
  obtain ⟨x31, a31, k31, c31, rfl, hv3⟩ := hv3.open
  have HO3 := hI hv3
  clear hv3
  clear hb3
  refine hK.out _ _ (by exact (fun h => ⟨h.1.1, h.1.2.1, h.1.2.2.1, h.1.2.2.2, h.2⟩) (HS.out _ (Hb3.out))) (fun hHeld => ?_)
  clear hK K; (try simp only [tkS])
  refine tk1 4 (fun K hK => ?_)
  go_simp
  go_at_call 58
  refine (H4.out _ (Hb3.out) _ HO3.out).mono ?_
  rintro e5 w4 ⟨v4, rfl, hv4, hb4⟩
  have HO3 := hI (HO3.out.mono hb4)
  have Hb4 := hI (bw_via (Hb3.out) hb4)
  obtain ⟨x41, a41, k41, c41, rfl, hv4⟩ := hv4.open
  have HO4 := hI hv4
  clear hv4
  clear hb4
  refine hK.out _ _ (by exact (fun h => ⟨h.1.1, h.1.2.1, h.1.2.2.1, h.1.2.2.2, h.2⟩) (HS.out _ (Hb4.out))) (fun hHeld => ?_)
  clear hK K; (try simp only [tkS])
  refine tk1 6 (fun K hK => ?_)
  go_simp
  go_at_call 59
  refine (HDA.out _ (Hb4.out)).mono ?_
  rintro e5 w6 ⟨v6, rfl, hv6, hb6⟩
  have HO3 := hI (HO3.out.mono hb6)
  have HO4 := hI (HO4.out.mono hb6)
  have Hb6 := hI (bw_via (Hb4.out) hb6)
  obtain ⟨x61, a61, k61, c61, rfl, hv6⟩ := hv6.open
  have HO6 := hI hv6
  clear hv6
  clear hb6
  refine hK.out _ _ (by exact (fun h => ⟨h.1.1, h.1.2.1, h.1.2.2.1, h.1.2.2.2, h.2⟩) (HS.out _ (Hb6.out))) (fun hHeld => ?_)
  clear hK K; (try simp only [tkS])
  refine tk1 9 (fun K hK => ?_)
  go_simp
  go_at_call 58
  refine (H9.out _ (Hb6.out) _ HO6.out).mono ?_
  rintro e5 w9 ⟨v9, rfl, hv9, hb9⟩
  have HO3 := hI (HO3.out.mono hb9)
  have HO4 := hI (HO4.out.mono hb9)
  have HO6 := hI (HO6.out.mono hb9)
  have Hb9 := hI (bw_via (Hb6.out) hb9)
  obtain ⟨x91, a91, k91, c91, rfl, hv9⟩ := hv9.open
  have HO9 := hI hv9
  clear hv9
  clear hb9
  refine hK.out _ _ (by exact (fun h => ⟨h.1.1, h.1.2.1, h.1.2.2.1, h.1.2.2.2, h.2⟩) (HS.out _ (Hb9.out))) (fun hHeld => ?_)
  clear hK K; (try simp only [tkS])
  refine tk1 10 (fun K hK => ?_)
  go_simp
  go_at_call 57
  refine (H10.out _ _ _ HO4.out HO9.out).mono ?_
  rintro e5 w10 ⟨v10, rfl, hv10, hb10⟩
  have HO3 := hI (HO3.out.mono hb10)
  have HO4 := hI (HO4.out.mono hb10)
  have HO6 := hI (HO6.out.mono hb10)
  have HO9 := hI (HO9.out.mono hb10)
  have Hb10 := hI (bw_via (Hb9.out) hb10)
  obtain ⟨x5, a5, n5, c5, x6, a6, n6, c6, rfl, hv10⟩ := hv10.open
  have HO10 := hI hv10
  clear hv10
  clear hb10
  refine hK.out _ _ (by exact (fun h => ⟨h.1.1, h.1.2.1, h.1.2.2.1, h.1.2.2.2, h.2⟩) (HS.out _ (Hb10.out))) (fun hHeld => ?_)
  clear hK K; (try simp only [tkS])
  refine tk1 11 (fun K hK => ?_)
  have Hbf := hI (Hb10.out)
  have hS9 := HS.out _ Hbf.out
  have hv := HO10.out
  have hr := HR.out.below Hbf.out
  have h4 := blk4v hr
  have r0 := h4.1.1
  have r1 := h4.1.2.1
  have r2 := h4.1.2.2.1
  have r3 := h4.1.2.2.2
  have f0 := h4.2.1
  have f1 := h4.2.2.1
  have f2 := h4.2.2.2.1
  have f3 := h4.2.2.2.2
  have h6 := RQ.put4 hv hr
  have Hv66 := hI h6.1
  have Hb66 := hI h6.2
  have Hbel := hI (put_below4 (b := w.heap.size + 1 + 1) (.bool x5) (.slice a5 n5 c5) (.bool x6) (.slice a6 n6 c6) (HK.out.via Hbf.out HK.out.size) (by omega))
  have HS9 := hI hS9
  clear h6 h4 hv hr hS9
  go_simp
  refine hK.out _ _ (by exact ⟨cell_far4 HS9.out.1.1 (show w.heap.size + 1 + 1 ≠ w.heap.size by omega), cell_far4 HS9.out.1.2.1 (show w.heap.size + 1 + 1 ≠ w.heap.size by omega), cell_far4 HS9.out.1.2.2.1 (show w.heap.size + 1 + 1 ≠ w.heap.size by omega), cell_far4 HS9.out.1.2.2.2 (show w.heap.size + 1 + 1 ≠ w.heap.size by omega), cell_far4 HS9.out.2.1 (show w.heap.size + 1 + 1 ≠ w.heap.size + 1 by omega), cell_far4 HS9.out.2.2.1 (show w.heap.size + 1 + 1 ≠ w.heap.size + 1 by omega), cell_far4 HS9.out.2.2.2.1 (show w.heap.size + 1 + 1 ≠ w.heap.size + 1 by omega), cell_far4 HS9.out.2.2.2.2 (show w.heap.size + 1 + 1 ≠ w.heap.size + 1 by omega)⟩) (fun hHeld => ?_)
  clear hK K; (try simp only [tkS])
  refine' tk 12 ?_; (try simp only [tkS])
  refine tkD ?_ _
  go_wp2_with fail
  obtain ⟨⟨q0, q1, q2, q3⟩, -⟩ := blk4v Hb66.out
  exact bodyPost_ret (v := .tuple #[.agg #[.bool x5, .slice a5 n5 c5, .bool x6, .slice a6 n6 c6], .int .i64 0]) (by simp [results, Tryz.results76, go_sem, q0, q1, q2, q3]) rfl ⟨_, rfl, ⟨_, rfl, Hv66.out⟩, Hbel.out⟩
end Go.Proofs.YtlcmhbkmpkcajaaGreatDoor
