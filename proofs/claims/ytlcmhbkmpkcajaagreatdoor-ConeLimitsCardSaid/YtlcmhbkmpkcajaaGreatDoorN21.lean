/-
  Parts of the proof: Rmlg, Qx.
-/
import Derived.Test.YtlcmhbkmpkcajaaGreatDoorN19
import Derived.Test.YtlcmhbkmpkcajaaGreatDoorN20
namespace Go.Proofs.YtlcmhbkmpkcajaaGreatDoor
open Go.RowKit
set_option maxHeartbeats 8000000 in
set_option maxRecDepth 100000 in
theorem rmul_g (u v : Value) (r s : Rat) (k1 k2 : Nat) (w : World) (h : RQ w u r) (h' : RQ w v s) (hz : Sz k1 r) (hz' : Sz k2 s) (hk : k1 + k2 ≤ 80000) : Calls Tryz.prog 33 #[u, v] w (RetP (fun x w' => RQ w' x (r * s)) w) := by
  obtain ⟨q, h, hq⟩ := h
  obtain ⟨q', h', hq'⟩ := h'
  obtain ⟨x, a, n, c, x', a', n', c', rfl, h⟩ := h.open
  obtain ⟨y, e, m, k, y', e', m', k', rfl, h'⟩ := h'.open
  have hA : Blk (((w.alloc (.cells #[.bool x, .slice a n c, .bool x', .slice a' n' c'] 61)).alloc (.cells #[.bool y, .slice e m k, .bool y', .slice e' m' k'] 61)).alloc (.cells #[.bool false, .slice none 0 0, .bool false, .slice none 0 0] 61)) w.heap.size #[.bool x, .slice a n c, .bool x', .slice a' n' c'] 61 := ((Blk.new w _ _).old _).old _
  have hB : Blk (((w.alloc (.cells #[.bool x, .slice a n c, .bool x', .slice a' n' c'] 61)).alloc (.cells #[.bool y, .slice e m k, .bool y', .slice e' m' k'] 61)).alloc (.cells #[.bool false, .slice none 0 0, .bool false, .slice none 0 0] 61)) (w.heap.size + 1) #[.bool y, .slice e m k, .bool y', .slice e' m' k'] 61 := by
    have h := (Blk.new (w.alloc (.cells #[.bool x, .slice a n c, .bool x', .slice a' n' c'] 61)) #[.bool y, .slice e m k, .bool y', .slice e' m' k'] 61).old (.cells #[.bool false, .slice none 0 0, .bool false, .slice none 0 0] 61)
    simpa using h
  have hR : Blk (((w.alloc (.cells #[.bool x, .slice a n c, .bool x', .slice a' n' c'] 61)).alloc (.cells #[.bool y, .slice e m k, .bool y', .slice e' m' k'] 61)).alloc (.cells #[.bool false, .slice none 0 0, .bool false, .slice none 0 0] 61)) (w.heap.size + 1 + 1) #[.bool false, .slice none 0 0, .bool false, .slice none 0 0] 61 := by
    have h := Blk.new ((w.alloc (.cells #[.bool x, .slice a n c, .bool x', .slice a' n' c'] 61)).alloc (.cells #[.bool y, .slice e m k, .bool y', .slice e' m' k'] 61)) #[.bool false, .slice none 0 0, .bool false, .slice none 0 0] 61
    simpa using h
  have HK := hI (below3 w (.cells #[.bool x, .slice a n c, .bool x', .slice a' n' c'] 61) (.cells #[.bool y, .slice e m k, .bool y', .slice e' m' k'] 61) (.cells #[.bool false, .slice none 0 0, .bool false, .slice none 0 0] 61))
  have HS := hI (fun w' (hb : Below (((w.alloc (.cells #[.bool x, .slice a n c, .bool x', .slice a' n' c'] 61)).alloc (.cells #[.bool y, .slice e m k, .bool y', .slice e' m' k'] 61)).alloc (.cells #[.bool false, .slice none 0 0, .bool false, .slice none 0 0] 61)).heap.size (((w.alloc (.cells #[.bool x, .slice a n c, .bool x', .slice a' n' c'] 61)).alloc (.cells #[.bool y, .slice e m k, .bool y', .slice e' m' k'] 61)).alloc (.cells #[.bool false, .slice none 0 0, .bool false, .slice none 0 0] 61)) w') => And.intro (blk4v (hA.below hb)).1 (blk4v (hB.below hb)).1)
  have HR := hI hR
  have HP := hI (fun w' (hb : Below (((w.alloc (.cells #[.bool x, .slice a n c, .bool x', .slice a' n' c'] 61)).alloc (.cells #[.bool y, .slice e m k, .bool y', .slice e' m' k'] 61)).alloc (.cells #[.bool false, .slice none 0 0, .bool false, .slice none 0 0] 61)).heap.size (((w.alloc (.cells #[.bool x, .slice a n c, .bool x', .slice a' n' c'] 61)).alloc (.cells #[.bool y, .slice e m k, .bool y', .slice e' m' k'] 61)).alloc (.cells #[.bool false, .slice none 0 0, .bool false, .slice none 0 0] 61)) w') => And.intro ((h.mono HK.out).mono hb) ((h'.mono HK.out).mono hb))
  have HF := hI (And.intro (few_sz hz (by omega)) (few_sz hz' (by omega)))
  have HH := hI (fun w' (hb : Below (((w.alloc (.cells #[.bool x, .slice a n c, .bool x', .slice a' n' c'] 61)).alloc (.cells #[.bool y, .slice e m k, .bool y', .slice e' m' k'] 61)).alloc (.cells #[.bool false, .slice none 0 0, .bool false, .slice none 0 0] 61)).heap.size (((w.alloc (.cells #[.bool x, .slice a n c, .bool x', .slice a' n' c'] 61)).alloc (.cells #[.bool y, .slice e m k, .bool y', .slice e' m' k'] 61)).alloc (.cells #[.bool false, .slice none 0 0, .bool false, .slice none 0 0] 61)) w') => whole_g _ r.num q w' ((h.mono HK.out).mono hb))
  have HH' := hI (fun w' (hb : Below (((w.alloc (.cells #[.bool x, .slice a n c, .bool x', .slice a' n' c'] 61)).alloc (.cells #[.bool y, .slice e m k, .bool y', .slice e' m' k'] 61)).alloc (.cells #[.bool false, .slice none 0 0, .bool false, .slice none 0 0] 61)).heap.size (((w.alloc (.cells #[.bool x, .slice a n c, .bool x', .slice a' n' c'] 61)).alloc (.cells #[.bool y, .slice e m k, .bool y', .slice e' m' k'] 61)).alloc (.cells #[.bool false, .slice none 0 0, .bool false, .slice none 0 0] 61)) w') => whole_g _ s.num q' w' ((h'.mono HK.out).mono hb))
  have HDA := hI (fun w' (hb : Below (((w.alloc (.cells #[.bool x, .slice a n c, .bool x', .slice a' n' c'] 61)).alloc (.cells #[.bool y, .slice e m k, .bool y', .slice e' m' k'] 61)).alloc (.cells #[.bool false, .slice none 0 0, .bool false, .slice none 0 0] 61)).heap.size (((w.alloc (.cells #[.bool x, .slice a n c, .bool x', .slice a' n' c'] 61)).alloc (.cells #[.bool y, .slice e m k, .bool y', .slice e' m' k'] 61)).alloc (.cells #[.bool false, .slice none 0 0, .bool false, .slice none 0 0] 61)) w') => den_g _ r.num q w' (HP.out w' hb).1)
  have HDB := hI (fun w' (hb : Below (((w.alloc (.cells #[.bool x, .slice a n c, .bool x', .slice a' n' c'] 61)).alloc (.cells #[.bool y, .slice e m k, .bool y', .slice e' m' k'] 61)).alloc (.cells #[.bool false, .slice none 0 0, .bool false, .slice none 0 0] 61)).heap.size (((w.alloc (.cells #[.bool x, .slice a n c, .bool x', .slice a' n' c'] 61)).alloc (.cells #[.bool y, .slice e m k, .bool y', .slice e' m' k'] 61)).alloc (.cells #[.bool false, .slice none 0 0, .bool false, .slice none 0 0] 61)) w') => den_g _ s.num q' w' (HP.out w' hb).2)
  rw [hq] at HH HDA
  rw [hq'] at HH' HDB
  by_cases h1 : r.den = 1
  · by_cases h2 : s.den = 1
    · have H3 := hI (fun w' (hb : Below (((w.alloc (.cells #[.bool x, .slice a n c, .bool x', .slice a' n' c'] 61)).alloc (.cells #[.bool y, .slice e m k, .bool y', .slice e' m' k'] 61)).alloc (.cells #[.bool false, .slice none 0 0, .bool false, .slice none 0 0] 61)).heap.size (((w.alloc (.cells #[.bool x, .slice a n c, .bool x', .slice a' n' c'] 61)).alloc (.cells #[.bool y, .slice e m k, .bool y', .slice e' m' k'] 61)).alloc (.cells #[.bool false, .slice none 0 0, .bool false, .slice none 0 0] 61)) w') => mul_any _ _ r.num s.num w' (HP.out w' hb).1.parts.1 (HP.out w' hb).2.parts.1 HF.out.1.1 HF.out.2.1)
      have HZ := hI (fun w' v (hv : RatV w' v (r.num * s.num) 0) => rq_mul1 h1 h2 hv)
      rw [decide_eq_true (show ((r.den : Nat) : Int) = 1 by omega)] at HH
      rw [decide_eq_true (show ((s.den : Nat) : Int) = 1 by omega)] at HH'
      clear hA hB hR h h' hz hz' hq hq' h1 h2
      go_enter Tryz.func33, Tryz.ntmps33
      obtain ⟨⟨s0, s1, s2, s3⟩, t0, t1, t2, t3⟩ := HS.out _ (Below.refl _ _)
      go_wp2_with (first
        | (have _t := Hb1; clear _t; go_at_call 36; refine (HH'.out _ Hb1.out).mono ?_; rintro e w2 ⟨rfl, hb2⟩; have Hb2 := hI (bw_via Hb1.out hb2); obtain ⟨⟨s0, s1, s2, s3⟩, t0, t1, t2, t3⟩ := HS.out _ Hb2.out; clear hb2)
        | (go_at_call 36; refine (HH.out _ (Below.refl _ _)).mono ?_; rintro e w1 ⟨rfl, hb1⟩; have Hb1 := hI hb1; obtain ⟨⟨s0, s1, s2, s3⟩, t0, t1, t2, t3⟩ := HS.out _ hb1; clear hb1)
        | (go_at_call 58; refine (H3.out _ Hb2.out).mono ?_; rintro e w3 ⟨v5, rfl, hv, hb3⟩; obtain ⟨x5, a5, n5, c5, rfl, hv⟩ := hv.open; have hr := HR.out.below (bw_via Hb2.out hb3); obtain ⟨⟨r0, r1, r2, r3⟩, f0, f1, f2, f3⟩ := blk4v hr; obtain ⟨hv6, hb6⟩ := RatV.put4 (RatV.whole0 hv) hr; have Hv6 := hI hv6; have Hb6 := hI hb6; have Hbel := hI (put_below4 (b := w.heap.size + 1 + 1) (.bool x5) (.slice a5 n5 c5) (.bool false) (.slice none 0 0) (HK.out.via (bw_via Hb2.out hb3) HK.out.size) (by omega)); clear hv6 hb6 hr hv hb3))
      obtain ⟨⟨q0, q1, q2, q3⟩, -⟩ := blk4v Hb6.out
      exact bodyPost_ret (v := .agg #[.bool x5, .slice a5 n5 c5, .bool false, .slice none 0 0]) (by simp [results, Tryz.results33, go_sem, q0, q1, q2, q3]) rfl ⟨_, rfl, HZ.out _ _ Hv6.out, Hbel.out⟩
    · rw [decide_eq_true (show ((r.den : Nat) : Int) = 1 by omega)] at HH
      rw [decide_eq_false (show ¬ ((s.den : Nat) : Int) = 1 by omega)] at HH'
      clear h1 h2
      have m1 := ten_mul hz.1 hz'.1
      have m3 := ten_mul hz.2 hz'.2
      have f3 : Few (r.num * s.num).natAbs := limbs_ten (k := k1 + k2) (by rw [Int.natAbs_mul]; exact m1) (by omega)
      have H4 := hI (fun w' (hb : Below (((w.alloc (.cells #[.bool x, .slice a n c, .bool x', .slice a' n' c'] 61)).alloc (.cells #[.bool y, .slice e m k, .bool y', .slice e' m' k'] 61)).alloc (.cells #[.bool false, .slice none 0 0, .bool false, .slice none 0 0] 61)).heap.size (((w.alloc (.cells #[.bool x, .slice a n c, .bool x', .slice a' n' c'] 61)).alloc (.cells #[.bool y, .slice e m k, .bool y', .slice e' m' k'] 61)).alloc (.cells #[.bool false, .slice none 0 0, .bool false, .slice none 0 0] 61)) w') => mul_any _ _ r.num s.num w' (HP.out w' hb).1.parts.1 (HP.out w' hb).2.parts.1 HF.out.1.1 HF.out.2.1)
      have H15 := hI (fun w' z z' (hr : IntV w' z (r.den : Int)) (hr' : IntV w' z' (s.den : Int)) => mul_any z z' _ _ w' hr hr' HF.out.1.2.2 HF.out.2.2.2)
      rw [← Int.natCast_mul] at H15
      have H16 := hI (fun w' z z' (hr : IntV w' z (r.num * s.num)) (hr' : IntV w' z' ((r.den * s.den : Nat) : Int)) => reduced_g z z' _ (r.den * s.den) w' hr hr' (Nat.mul_pos r.den_pos s.den_pos) f3 (limbs_ten m3 (by omega)))
      rw [← Rat.mul_def'] at H16
      clear hA hB hR h h' hz hz' hq hq' m1 m3 f3
      go_enter Tryz.func33, Tryz.ntmps33
      obtain ⟨⟨s0, s1, s2, s3⟩, t0, t1, t2, t3⟩ := HS.out _ (Below.refl _ _)
      go_wp2_with (first
        | (have _t := Hb1; clear _t; go_at_call 36; refine (HH'.out _ Hb1.out).mono ?_; rintro e w2 ⟨rfl, hb2⟩; have Hb2 := hI (bw_via Hb1.out hb2); obtain ⟨⟨s0, s1, s2, s3⟩, t0, t1, t2, t3⟩ := HS.out _ Hb2.out; clear hb2)
        | (go_at_call 36; refine (HH.out _ (Below.refl _ _)).mono ?_; rintro e w1 ⟨rfl, hb1⟩; have Hb1 := hI hb1; obtain ⟨⟨s0, s1, s2, s3⟩, t0, t1, t2, t3⟩ := HS.out _ hb1; clear hb1))
      refine wp_region_pop (S := (fun w' => w'.cell? ⟨w.heap.size, 0, none⟩ = some (.bool x) ∧ w'.cell? ⟨w.heap.size, 1, none⟩ = some (.slice a n c) ∧ w'.cell? ⟨w.heap.size, 2, none⟩ = some (.bool x') ∧ w'.cell? ⟨w.heap.size, 3, none⟩ = some (.slice a' n' c') ∧ w'.cell? ⟨w.heap.size + 1, 0, none⟩ = some (.bool y) ∧ w'.cell? ⟨w.heap.size + 1, 1, none⟩ = some (.slice e m k) ∧ w'.cell? ⟨w.heap.size + 1, 2, none⟩ = some (.bool y') ∧ w'.cell? ⟨w.heap.size + 1, 3, none⟩ = some (.slice e' m' k'))) 11 (by kernel_rfl) (by kernel_rfl) (by exact (fun h => ⟨h.1.1, h.1.2.1, h.1.2.2.1, h.1.2.2.2, h.2⟩) (HS.out _ (Hb2.out.dn 1))) (fun hHeld => ?_)
      simp only [List.take_succ_cons, List.take_zero, List.drop_succ_cons, List.drop_zero]
      refine' tk 0 ?_; (try simp only [tkS]); refine' tk 1 ?_; (try simp only [tkS]); refine' tk 2 ?_; (try simp only [tkS]); refine' tk 3 ?_; (try simp only [tkS]); refine' tk 5 ?_; (try simp only [tkS]); refine' tk 7 ?_; (try simp only [tkS])
      refine tk1 4 (fun K hK => ?_)
      go_simp
      go_at_call 58
      refine (H4.out _ (Hb2.out.dn 1)).mono ?_
      rintro e5 w4 ⟨v4, rfl, hv4, hb4⟩
      have Hb4 := hI (bw_via (Hb2.out.dn 1) hb4)
      obtain ⟨x41, a41, k41, c41, rfl, hv4⟩ := hv4.open
      have HO4 := hI hv4
      clear hv4
      clear hb4
      refine hK.out _ _ (by exact (fun h => ⟨h.1.1, h.1.2.1, h.1.2.2.1, h.1.2.2.2, h.2⟩) (HS.out _ (Hb4.out))) (fun hHeld => ?_)
      clear hK K; (try simp only [tkS])
      refine tk1 6 (fun K hK => ?_)
      go_simp
      go_at_call 59
      refine (HDA.out _ (Hb4.out)).mono ?_
      rintro e5 w6 ⟨v6, rfl, hv6, hb6⟩
      have HO4 := hI (HO4.out.mono hb6)
      have Hb6 := hI (bw_via (Hb4.out) hb6)
      obtain ⟨x61, a61, k61, c61, rfl, hv6⟩ := hv6.open
      have HO6 := hI hv6
      clear hv6
      clear hb6
      refine hK.out _ _ (by exact (fun h => ⟨h.1.1, h.1.2.1, h.1.2.2.1, h.1.2.2.2, h.2⟩) (HS.out _ (Hb6.out))) (fun hHeld => ?_)
      clear hK K; (try simp only [tkS])
      refine tk1 8 (fun K hK => ?_)
      go_simp
      go_at_call 59
      refine (HDB.out _ (Hb6.out)).mono ?_
      rintro e5 w8 ⟨v8, rfl, hv8, hb8⟩
      have HO4 := hI (HO4.out.mono hb8)
      have HO6 := hI (HO6.out.mono hb8)
      have Hb8 := hI (bw_via (Hb6.out) hb8)
      obtain ⟨x81, a81, k81, c81, rfl, hv8⟩ := hv8.open
      have HO8 := hI hv8
      clear hv8
      clear hb8
      refine hK.out _ _ (by exact (fun h => ⟨h.1.1, h.1.2.1, h.1.2.2.1, h.1.2.2.2, h.2⟩) (HS.out _ (Hb8.out))) (fun hHeld => ?_)
      clear hK K; (try simp only [tkS])
      refine tk1 9 (fun K hK => ?_)
      go_simp
      go_at_call 58
      refine (H15.out _ _ _ HO6.out HO8.out).mono ?_
      rintro e5 w9 ⟨v9, rfl, hv9, hb9⟩
      have HO4 := hI (HO4.out.mono hb9)
      have HO6 := hI (HO6.out.mono hb9)
      have HO8 := hI (HO8.out.mono hb9)
      have Hb9 := hI (bw_via (Hb8.out) hb9)
      obtain ⟨x91, a91, k91, c91, rfl, hv9⟩ := hv9.open
      have HO9 := hI hv9
      clear hv9
      clear hb9
      refine hK.out _ _ (by exact (fun h => ⟨h.1.1, h.1.2.1, h.1.2.2.1, h.1.2.2.2, h.2⟩) (HS.out _ (Hb9.out))) (fun hHeld => ?_)
      clear hK K; (try simp only [tkS])
      refine tk1 10 (fun K hK => ?_)
      go_simp
      go_at_call 57
      refine (H16.out _ _ _ HO4.out HO9.out).mono ?_
      rintro e5 w10 ⟨v10, rfl, hv10, hb10⟩
      have HO4 := hI (HO4.out.mono hb10)
      have HO6 := hI (HO6.out.mono hb10)
      have HO8 := hI (HO8.out.mono hb10)
      have HO9 := hI (HO9.out.mono hb10)
      have Hb10 := hI (bw_via (Hb9.out) hb10)
      obtain ⟨x5, a5, n5, c5, x6, a6, n6, c6, rfl, hv10⟩ := hv10.open
      have HO10 := hI hv10
      clear hv10
      clear hb10
      refine hK.out _ _ (by exact (fun h => ⟨h.1.1, h.1.2.1, h.1.2.2.1, h.1.2.2.2, h.2⟩) (HS.out _ (Hb10.out))) (fun hHeld => ?_)
      clear hK K; (try simp only [tkS])
      refine tkD ?_ _
      simp only [Exit.then]
      have hr := HR.out.below Hb10.out
      obtain ⟨⟨r0, r1, r2, r3⟩, f0, f1, f2, f3⟩ := blk4v hr
      obtain ⟨hv6, hb6⟩ := RQ.put4 HO10.out hr
      have Hv6 := hI hv6
      have Hb6 := hI hb6
      have Hbel := hI (put_below4 (b := w.heap.size + 1 + 1) (.bool x5) (.slice a5 n5 c5) (.bool x6) (.slice a6 n6 c6) (HK.out.via Hb10.out HK.out.size) (by omega))
      clear hv6 hb6 hr
      go_wp2_with fail
      obtain ⟨⟨q0, q1, q2, q3⟩, -⟩ := blk4v Hb6.out
      exact bodyPost_ret (v := .agg #[.bool x5, .slice a5 n5 c5, .bool x6, .slice a6 n6 c6]) (by simp [results, Tryz.results33, go_sem, q0, q1, q2, q3]) rfl ⟨_, rfl, Hv6.out, Hbel.out⟩
  · rw [decide_eq_false (show ¬ ((r.den : Nat) : Int) = 1 by omega)] at HH
    clear h1
    have m1 := ten_mul hz.1 hz'.1
    have m3 := ten_mul hz.2 hz'.2
    have f3 : Few (r.num * s.num).natAbs := limbs_ten (k := k1 + k2) (by rw [Int.natAbs_mul]; exact m1) (by omega)
    have H4 := hI (fun w' (hb : Below (((w.alloc (.cells #[.bool x, .slice a n c, .bool x', .slice a' n' c'] 61)).alloc (.cells #[.bool y, .slice e m k, .bool y', .slice e' m' k'] 61)).alloc (.cells #[.bool false, .slice none 0 0, .bool false, .slice none 0 0] 61)).heap.size (((w.alloc (.cells #[.bool x, .slice a n c, .bool x', .slice a' n' c'] 61)).alloc (.cells #[.bool y, .slice e m k, .bool y', .slice e' m' k'] 61)).alloc (.cells #[.bool false, .slice none 0 0, .bool false, .slice none 0 0] 61)) w') => mul_any _ _ r.num s.num w' (HP.out w' hb).1.parts.1 (HP.out w' hb).2.parts.1 HF.out.1.1 HF.out.2.1)
    have H15 := hI (fun w' z z' (hr : IntV w' z (r.den : Int)) (hr' : IntV w' z' (s.den : Int)) => mul_any z z' _ _ w' hr hr' HF.out.1.2.2 HF.out.2.2.2)
    rw [← Int.natCast_mul] at H15
    have H16 := hI (fun w' z z' (hr : IntV w' z (r.num * s.num)) (hr' : IntV w' z' ((r.den * s.den : Nat) : Int)) => reduced_g z z' _ (r.den * s.den) w' hr hr' (Nat.mul_pos r.den_pos s.den_pos) f3 (limbs_ten m3 (by omega)))
    rw [← Rat.mul_def'] at H16
    clear hA hB hR h h' hz hz' hq hq' m1 m3 f3
    go_enter Tryz.func33, Tryz.ntmps33
    obtain ⟨⟨s0, s1, s2, s3⟩, t0, t1, t2, t3⟩ := HS.out _ (Below.refl _ _)
    go_wp2_with (go_at_call 36; refine (HH.out _ (Below.refl _ _)).mono ?_; rintro e w1 ⟨rfl, hb1⟩; have Hb1 := hI hb1; obtain ⟨⟨s0, s1, s2, s3⟩, t0, t1, t2, t3⟩ := HS.out _ hb1; clear hb1)
    refine wp_region_pop (S := (fun w' => w'.cell? ⟨w.heap.size, 0, none⟩ = some (.bool x) ∧ w'.cell? ⟨w.heap.size, 1, none⟩ = some (.slice a n c) ∧ w'.cell? ⟨w.heap.size, 2, none⟩ = some (.bool x') ∧ w'.cell? ⟨w.heap.size, 3, none⟩ = some (.slice a' n' c') ∧ w'.cell? ⟨w.heap.size + 1, 0, none⟩ = some (.bool y) ∧ w'.cell? ⟨w.heap.size + 1, 1, none⟩ = some (.slice e m k) ∧ w'.cell? ⟨w.heap.size + 1, 2, none⟩ = some (.bool y') ∧ w'.cell? ⟨w.heap.size + 1, 3, none⟩ = some (.slice e' m' k'))) 11 (by kernel_rfl) (by kernel_rfl) (by exact (fun h => ⟨h.1.1, h.1.2.1, h.1.2.2.1, h.1.2.2.2, h.2⟩) (HS.out _ (Hb1.out.dn 1))) (fun hHeld => ?_)
    simp only [List.take_succ_cons, List.take_zero, List.drop_succ_cons, List.drop_zero]
    refine' tk 0 ?_; (try simp only [tkS]); refine' tk 1 ?_; (try simp only [tkS]); refine' tk 2 ?_; (try simp only [tkS]); refine' tk 3 ?_; (try simp only [tkS]); refine' tk 5 ?_; (try simp only [tkS]); refine' tk 7 ?_; (try simp only [tkS])
    refine tk1 4 (fun K hK => ?_)
    go_simp
    go_at_call 58
    refine (H4.out _ (Hb1.out.dn 1)).mono ?_
    rintro e5 w4 ⟨v4, rfl, hv4, hb4⟩
    have Hb4 := hI (bw_via (Hb1.out.dn 1) hb4)
    obtain ⟨x41, a41, k41, c41, rfl, hv4⟩ := hv4.open
    have HO4 := hI hv4
    clear hv4
    clear hb4
    refine hK.out _ _ (by exact (fun h => ⟨h.1.1, h.1.2.1, h.1.2.2.1, h.1.2.2.2, h.2⟩) (HS.out _ (Hb4.out))) (fun hHeld => ?_)
    clear hK K; (try simp only [tkS])
    refine tk1 6 (fun K hK => ?_)
    go_simp
    go_at_call 59
    refine (HDA.out _ (Hb4.out)).mono ?_
    rintro e5 w6 ⟨v6, rfl, hv6, hb6⟩
    have HO4 := hI (HO4.out.mono hb6)
    have Hb6 := hI (bw_via (Hb4.out) hb6)
    obtain ⟨x61, a61, k61, c61, rfl, hv6⟩ := hv6.open
    have HO6 := hI hv6
    clear hv6
    clear hb6
    refine hK.out _ _ (by exact (fun h => ⟨h.1.1, h.1.2.1, h.1.2.2.1, h.1.2.2.2, h.2⟩) (HS.out _ (Hb6.out))) (fun hHeld => ?_)
    clear hK K; (try simp only [tkS])
    refine tk1 8 (fun K hK => ?_)
    go_simp
    go_at_call 59
    refine (HDB.out _ (Hb6.out)).mono ?_
    rintro e5 w8 ⟨v8, rfl, hv8, hb8⟩
    have HO4 := hI (HO4.out.mono hb8)
    have HO6 := hI (HO6.out.mono hb8)
    have Hb8 := hI (bw_via (Hb6.out) hb8)
    obtain ⟨x81, a81, k81, c81, rfl, hv8⟩ := hv8.open
    have HO8 := hI hv8
    clear hv8
    clear hb8
    refine hK.out _ _ (by exact (fun h => ⟨h.1.1, h.1.2.1, h.1.2.2.1, h.1.2.2.2, h.2⟩) (HS.out _ (Hb8.out))) (fun hHeld => ?_)
    clear hK K; (try simp only [tkS])
    refine tk1 9 (fun K hK => ?_)
    go_simp
    go_at_call 58
    refine (H15.out _ _ _ HO6.out HO8.out).mono ?_
    rintro e5 w9 ⟨v9, rfl, hv9, hb9⟩
    have HO4 := hI (HO4.out.mono hb9)
    have HO6 := hI (HO6.out.mono hb9)
    have HO8 := hI (HO8.out.mono hb9)
    have Hb9 := hI (bw_via (Hb8.out) hb9)
    obtain ⟨x91, a91, k91, c91, rfl, hv9⟩ := hv9.open
    have HO9 := hI hv9
    clear hv9
    clear hb9
    refine hK.out _ _ (by exact (fun h => ⟨h.1.1, h.1.2.1, h.1.2.2.1, h.1.2.2.2, h.2⟩) (HS.out _ (Hb9.out))) (fun hHeld => ?_)
    clear hK K; (try simp only [tkS])
    refine tk1 10 (fun K hK => ?_)
    go_simp
    go_at_call 57
    refine (H16.out _ _ _ HO4.out HO9.out).mono ?_
    rintro e5 w10 ⟨v10, rfl, hv10, hb10⟩
    have HO4 := hI (HO4.out.mono hb10)
    have HO6 := hI (HO6.out.mono hb10)
    have HO8 := hI (HO8.out.mono hb10)
    have HO9 := hI (HO9.out.mono hb10)
    have Hb10 := hI (bw_via (Hb9.out) hb10)
    obtain ⟨x5, a5, n5, c5, x6, a6, n6, c6, rfl, hv10⟩ := hv10.open
    have HO10 := hI hv10
    clear hv10
    clear hb10
    refine hK.out _ _ (by exact (fun h => ⟨h.1.1, h.1.2.1, h.1.2.2.1, h.1.2.2.2, h.2⟩) (HS.out _ (Hb10.out))) (fun hHeld => ?_)
    clear hK K; (try simp only [tkS])
    refine tkD ?_ _
    simp only [Exit.then]
    have hr := HR.out.below Hb10.out
    obtain ⟨⟨r0, r1, r2, r3⟩, f0, f1, f2, f3⟩ := blk4v hr
    obtain ⟨hv6, hb6⟩ := RQ.put4 HO10.out hr
    have Hv6 := hI hv6
    have Hb6 := hI hb6
    have Hbel := hI (put_below4 (b := w.heap.size + 1 + 1) (.bool x5) (.slice a5 n5 c5) (.bool x6) (.slice a6 n6 c6) (HK.out.via Hb10.out HK.out.size) (by omega))
    clear hv6 hb6 hr
    go_wp2_with fail
    obtain ⟨⟨q0, q1, q2, q3⟩, -⟩ := blk4v Hb6.out
    exact bodyPost_ret (v := .agg #[.bool x5, .slice a5 n5 c5, .bool x6, .slice a6 n6 c6]) (by simp [results, Tryz.results33, go_sem, q0, q1, q2, q3]) rfl ⟨_, rfl, Hv6.out, Hbel.out⟩
end Go.Proofs.YtlcmhbkmpkcajaaGreatDoor
namespace Go.Proofs.YtlcmhbkmpkcajaaGreatDoor
open Go.RowKit
theorem mixV_len {a b : List Rat} {j k : Rat} {n : Nat} (ha : a.length = n) (hb : b.length = n) : (mixV a j b k).length = n := by
  unfold mixV
  rw [List.length_zipWith]
  omega
theorem mixV_get {a b : List Rat} {j k : Rat} {i : Nat} {r s : Rat} (hr : a[i]? = some r) (hs : b[i]? = some s) : (mixV a j b k)[i]? = some (r * j + s * k) := by
  unfold mixV
  rw [List.getElem?_zipWith, hr, hs]
theorem info_rat : ∃ i4, Tryz.prog.info? 61 = some i4 ∧ i4.zero = some (.agg #[.bool false, .slice none 0 0, .bool false, .slice none 0 0]) ∧ i4.size = 4 ∧ i4.bytes = 64 := by
  have hi : (Tryz.prog.info? 61).map (fun i => (i.zero, i.size, i.bytes)) = some (some (.agg #[.bool false, .slice none 0 0, .bool false, .slice none 0 0]), 4, 64) := by kernel_rfl
  rw [Option.map_eq_some_iff] at hi
  obtain ⟨i4, h, he⟩ := hi
  simp only [Prod.mk.injEq] at he
  exact ⟨i4, h, he.1, he.2.1, he.2.2⟩
set_option maxHeartbeats 8000000 in
set_option maxRecDepth 10000 in
theorem mix_g (u j v k : Value) (a b : List Rat) (rj rk : Rat) (n K1 K2 : Nat) (w : World) (h : QV w u a) (hj : RQ w j rj) (h' : QV w v b) (hk : RQ w k rk) (ha : a.length = n) (hb : b.length = n) (hz : ∀ x ∈ a, Sz K1 x) (hz' : ∀ x ∈ b, Sz K1 x) (zj : Sz K2 rj) (zk : Sz K2 rk) (hK : 4 * (K1 + K2 + 1) ≤ 80000) (hn : n ≤ 1000) :
    Calls Tryz.prog 46 #[u, j, v, k] w (RetP (fun x w' => QV w' x (mixV a rj b rk)) w) := by
  have HM1 := hI (fun (W : World) (x y : Value) (i : Nat) (r : Rat) (hr : a[i]? = some r) (hu : RQ W x r) (hx : RQ W y rj) => rmul_g x y r rj K1 K2 W hu hx (hz r (List.mem_of_getElem? hr)) zj (by omega))
  have HM2 := hI (fun (W : World) (x y : Value) (i : Nat) (s : Rat) (hr : b[i]? = some s) (hu : RQ W x s) (hx : RQ W y rk) => rmul_g x y s rk K1 K2 W hu hx (hz' s (List.mem_of_getElem? hr)) zk (by omega))
  have HA := hI (fun (W : World) (x y : Value) (i : Nat) (r s : Rat) (hr : a[i]? = some r) (hs : b[i]? = some s) (hu : RQ W x (r * rj)) (hx : RQ W y (s * rk)) => radd_g x y _ _ (K1 + K2) (K1 + K2) W hu hx ((hz r (List.mem_of_getElem? hr)).mul zj) ((hz' s (List.mem_of_getElem? hs)).mul zk) (by omega))
  have HL := hI (mixV_len (j := rj) (k := rk) ha hb)
  have HG := hI (fun i r s (hr : a[i]? = some r) (hs : b[i]? = some s) => mixV_get (j := rj) (k := rk) hr hs)
  obtain ⟨ad, cap, rfl, hc1, hc2⟩ := h.open
  obtain ⟨ad', cap', rfl, hc1', hc2'⟩ := h'.open
  rw [ha] at h hc1 ⊢
  rw [hb] at h' hc1' ⊢
  unfold maxLen at hc2
  obtain ⟨xJ, aJ, nJ, cJ, yJ, eJ, lJ, dJ, rfl, hj⟩ := hj.open
  obtain ⟨xK, aK, nK, cK, yK, eK, lK, dK, rfl, hk⟩ := hk.open
  have HX := hI h
  have HY := hI h'
  have HJ := hI hj
  have HKk := hI hk
  obtain ⟨i4, hi4, hz0, hz1, hz2⟩ := info_rat
  have HB0 := hI (below2 w (.cells #[.bool xJ, .slice aJ nJ cJ, .bool yJ, .slice eJ lJ dJ] 61) (.cells #[.bool xK, .slice aK nK cK, .bool yK, .slice eK lK dK] 61))
  have HJB := hI (fun w' (hb : Below ((w.alloc (.cells #[.bool xJ, .slice aJ nJ cJ, .bool yJ, .slice eJ lJ dJ] 61)).alloc (.cells #[.bool xK, .slice aK nK cK, .bool yK, .slice eK lK dK] 61)).heap.size ((w.alloc (.cells #[.bool xJ, .slice aJ nJ cJ, .bool yJ, .slice eJ lJ dJ] 61)).alloc (.cells #[.bool xK, .slice aK nK cK, .bool yK, .slice eK lK dK] 61)) w') => cells4 ((Blk.new w #[.bool xJ, .slice aJ nJ cJ, .bool yJ, .slice eJ lJ dJ] 61).old (.cells #[.bool xK, .slice aK nK cK, .bool yK, .slice eK lK dK] 61)) hb)
  have hkb : Blk ((w.alloc (.cells #[.bool xJ, .slice aJ nJ cJ, .bool yJ, .slice eJ lJ dJ] 61)).alloc (.cells #[.bool xK, .slice aK nK cK, .bool yK, .slice eK lK dK] 61)) (w.heap.size + 1) #[.bool xK, .slice aK nK cK, .bool yK, .slice eK lK dK] 61 := by
    have h := Blk.new (w.alloc (.cells #[.bool xJ, .slice aJ nJ cJ, .bool yJ, .slice eJ lJ dJ] 61)) #[.bool xK, .slice aK nK cK, .bool yK, .slice eK lK dK] 61
    simpa using h
  have HKB := hI (fun w' (hb : Below ((w.alloc (.cells #[.bool xJ, .slice aJ nJ cJ, .bool yJ, .slice eJ lJ dJ] 61)).alloc (.cells #[.bool xK, .slice aK nK cK, .bool yK, .slice eK lK dK] 61)).heap.size ((w.alloc (.cells #[.bool xJ, .slice aJ nJ cJ, .bool yJ, .slice eJ lJ dJ] 61)).alloc (.cells #[.bool xK, .slice aK nK cK, .bool yK, .slice eK lK dK] 61)) w') => cells4 hkb hb)
  clear h h' hj hk hz hz' hK ha hb zj zk hkb
  go_enter Tryz.func46, Tryz.ntmps46
  generalize hLL : mixV a rj b rk = LL at *
  go_wp2_with (at_make; go_loud (refine wpList_make_full _ rfl _ _ 46 rfl (w.heap.size + 1 + 1) 61 i4 (.agg #[.bool false, .slice none 0 0, .bool false, .slice none 0 0]) 4 Tryz.underlying46 hi4 hz0 hz1 .i64 .i64 _ _ n rfl rfl (by omega) (by omega) (by rw [hz2]; omega) (by unfold maxLen; omega) (by simp) ?_; intro wm hown hg; have hvb : VB wm (w.heap.size + 1 + 1) (List.replicate n 0) := (by have h := (VB.made hown).1; first | exact h | (simpa using h)); have Hb1 := hI (bw_via HB0.out ((Below.refl _ _).grown hg (Nat.le_refl _) (fun b hb => by cases hb))); have Hvb := hI hvb; have Hb2 := hI ((Below.refl (((w.alloc (.cells #[.bool xJ, .slice aJ nJ cJ, .bool yJ, .slice eJ lJ dJ] 61)).alloc (.cells #[.bool xK, .slice aK nK cK, .bool yK, .slice eK lK dK] 61))).heap.size ((w.alloc (.cells #[.bool xJ, .slice aJ nJ cJ, .bool yJ, .slice eJ lJ dJ] 61)).alloc (.cells #[.bool xK, .slice aK nK cK, .bool yK, .slice eK lK dK] 61))).grown hg (Nat.le_refl _) (fun b hb => by cases hb)); clear hown hg hvb))
  go_loopw [16] (fun i wr => ∃ q : Nat, q ≤ n ∧ i = .int .i64 (q : Int) ∧ Below w.heap.size w wr ∧ Below ((w.alloc (.cells #[.bool xJ, .slice aJ nJ cJ, .bool yJ, .slice eJ lJ dJ] 61)).alloc (.cells #[.bool xK, .slice aK nK cK, .bool yK, .slice eK lK dK] 61)).heap.size ((w.alloc (.cells #[.bool xJ, .slice aJ nJ cJ, .bool yJ, .slice eJ lJ dJ] 61)).alloc (.cells #[.bool xK, .slice aK nK cK, .bool yK, .slice eK lK dK] 61)) wr ∧ Hid (VB wr (w.heap.size + 1 + 1) (fillL LL n q))) (fun i _ => n - (intOf i).toNat)
  case atStart => exact ⟨0, by omega, rfl, Hb1.out, Hb2.out, by rw [fill_zero]; exact Hvb.out⟩
  case round =>
    obtain ⟨q, hq, rfl, hbx, hbw, hvb⟩ := hrel
    have Hbw := hI hbw
    have Hbx := hI hbx
    have HVB := hI hvb.out
    rcases Nat.lt_or_ge q n with hlt | hge
    · obtain ⟨b1, o1, x1, a1, n1, c1, y1, e1, l1, d1, r, rfl, hr, hR, z0, z1, z2, z3⟩ := HX.out.at hbx hlt
      obtain ⟨b2, o2, x2, a2, n2, c2, y2, e2, l2, d2, s, rfl, hs, hS, m0, m1, m2, m3⟩ := HY.out.at hbx hlt
      obtain ⟨j0, j1, j2, j3⟩ := HJB.out _ hbw
      obtain ⟨k0, k1, k2, k3⟩ := HKB.out _ hbw
      have hkn : (q : Int) < (n : Int) := by omega
      have hk0 : (0 : Int) ≤ (q : Int) := Int.natCast_nonneg _
      have hkw : IntKind.i64.wrap ((q : Int) + 1) = (q : Int) + 1 := IntWalk.i64_in _ (by omega)
      have Hg := hI (HG.out q r s hr hs)
      have HMx := hI (fun W (hb : Below wr.heap.size wr W) => HM1.out W _ _ q r hr (hR.mono hb) (HJ.out.mono (Hbx.out.via hb Hbx.out.size)))
      have HMy := hI (fun W (hb : Below wr.heap.size wr W) => HM2.out W _ _ q s hs (hS.mono hb) (HKk.out.mono (Hbx.out.via hb Hbx.out.size)))
      have HAx := hI (fun W z z' (h1 : RQ W z (r * rj)) (h2 : RQ W z' (s * rk)) => HA.out W z z' q r s hr hs h1 h2)
      have HS0 := hI (fun w' (hb : Below wr.heap.size wr w') => show (fun w' => w'.cell? ⟨b1, o1 + q * 4, none⟩ = some (.bool x1) ∧ w'.cell? ⟨b1, o1 + q * 4 + 1, none⟩ = some (.slice a1 n1 c1) ∧ w'.cell? ⟨b1, o1 + q * 4 + 2, none⟩ = some (.bool y1) ∧ w'.cell? ⟨b1, o1 + q * 4 + 3, none⟩ = some (.slice e1 l1 d1) ∧ w'.cell? ⟨b2, o2 + q * 4, none⟩ = some (.bool x2) ∧ w'.cell? ⟨b2, o2 + q * 4 + 1, none⟩ = some (.slice a2 n2 c2) ∧ w'.cell? ⟨b2, o2 + q * 4 + 2, none⟩ = some (.bool y2) ∧ w'.cell? ⟨b2, o2 + q * 4 + 3, none⟩ = some (.slice e2 l2 d2) ∧ w'.cell? ⟨w.heap.size, 0, none⟩ = some (.bool xJ) ∧ w'.cell? ⟨w.heap.size, 1, none⟩ = some (.slice aJ nJ cJ) ∧ w'.cell? ⟨w.heap.size, 2, none⟩ = some (.bool yJ) ∧ w'.cell? ⟨w.heap.size, 3, none⟩ = some (.slice eJ lJ dJ) ∧ w'.cell? ⟨w.heap.size + 1, 0, none⟩ = some (.bool xK) ∧ w'.cell? ⟨w.heap.size + 1, 1, none⟩ = some (.slice aK nK cK) ∧ w'.cell? ⟨w.heap.size + 1, 2, none⟩ = some (.bool yK) ∧ w'.cell? ⟨w.heap.size + 1, 3, none⟩ = some (.slice eK lK dK)) w' from ⟨cell_keep hb z0, cell_keep hb z1, cell_keep hb z2, cell_keep hb z3, cell_keep hb m0, cell_keep hb m1, cell_keep hb m2, cell_keep hb m3, cell_keep hb j0, cell_keep hb j1, cell_keep hb j2, cell_keep hb j3, cell_keep hb k0, cell_keep hb k1, cell_keep hb k2, cell_keep hb k3⟩)
      have Hq := hI (fill_at HL.out hlt)
      clear hR hS hr hs hbw hbx hvb
      go_wp2_with fail
      refine wp_region_pop (S := (fun w' => w'.cell? ⟨b1, o1 + q * 4, none⟩ = some (.bool x1) ∧ w'.cell? ⟨b1, o1 + q * 4 + 1, none⟩ = some (.slice a1 n1 c1) ∧ w'.cell? ⟨b1, o1 + q * 4 + 2, none⟩ = some (.bool y1) ∧ w'.cell? ⟨b1, o1 + q * 4 + 3, none⟩ = some (.slice e1 l1 d1) ∧ w'.cell? ⟨b2, o2 + q * 4, none⟩ = some (.bool x2) ∧ w'.cell? ⟨b2, o2 + q * 4 + 1, none⟩ = some (.slice a2 n2 c2) ∧ w'.cell? ⟨b2, o2 + q * 4 + 2, none⟩ = some (.bool y2) ∧ w'.cell? ⟨b2, o2 + q * 4 + 3, none⟩ = some (.slice e2 l2 d2) ∧ w'.cell? ⟨w.heap.size, 0, none⟩ = some (.bool xJ) ∧ w'.cell? ⟨w.heap.size, 1, none⟩ = some (.slice aJ nJ cJ) ∧ w'.cell? ⟨w.heap.size, 2, none⟩ = some (.bool yJ) ∧ w'.cell? ⟨w.heap.size, 3, none⟩ = some (.slice eJ lJ dJ) ∧ w'.cell? ⟨w.heap.size + 1, 0, none⟩ = some (.bool xK) ∧ w'.cell? ⟨w.heap.size + 1, 1, none⟩ = some (.slice aK nK cK) ∧ w'.cell? ⟨w.heap.size + 1, 2, none⟩ = some (.bool yK) ∧ w'.cell? ⟨w.heap.size + 1, 3, none⟩ = some (.slice eK lK dK))) 16 (by kernel_rfl) (by kernel_rfl) (by exact (HS0.out _ ((Below.refl _ _).dn 1))) (fun hHeld => ?_)
      simp only [List.take_succ_cons, List.take_zero, List.drop_succ_cons, List.drop_zero]
      refine' tk 0 ?_; (try simp only [tkS]); refine' tk 1 ?_; (try simp only [tkS]); refine' tk 2 ?_; (try simp only [tkS]); refine' tk 3 ?_; (try simp only [tkS]); refine' tk 4 ?_; (try simp only [tkS]); refine' tk 5 ?_; (try simp only [tkS]); refine' tk 6 ?_; (try simp only [tkS]); refine' tk 8 ?_; (try simp only [tkS]); refine' tk 9 ?_; (try simp only [tkS]); refine' tk 10 ?_; (try simp only [tkS]); refine' tk 11 ?_; (try simp only [tkS]); refine' tk 12 ?_; (try simp only [tkS])
      refine tk1 7 (fun K hK => ?_)
      go_simp
      go_at_call 33
      refine (HMx.out _ ((Below.refl _ _).dn 1)).mono ?_
      rintro e5 w7 ⟨v7, rfl, hv7, hb7⟩
      have Hb7 := hI (bw_via ((Below.refl _ _).dn 1) hb7)
      have Hv7 := hI hv7
      clear hv7 hb7
      refine hK.out _ _ (by exact (HS0.out _ (Hb7.out))) (fun hHeld => ?_)
      clear hK K; (try simp only [tkS])
      refine tk1 13 (fun K hK => ?_)
      go_simp
      go_at_call 33
      refine (HMy.out _ (Hb7.out)).mono ?_
      rintro e5 w13 ⟨v13, rfl, hv13, hb13⟩
      have Hv7 := hI (Hv7.out.mono hb13)
      have Hb13 := hI (bw_via (Hb7.out) hb13)
      have Hv13 := hI hv13
      clear hv13 hb13
      refine hK.out _ _ (by exact (HS0.out _ (Hb13.out))) (fun hHeld => ?_)
      clear hK K; (try simp only [tkS])
      refine tk1 14 (fun K hK => ?_)
      go_simp
      go_at_call 32
      refine (HAx.out _ _ _ Hv7.out Hv13.out).mono ?_
      rintro e5 w14 ⟨v14, rfl, hv14, hb14⟩
      have Hb14 := hI (bw_via (Hb13.out) hb14)
      obtain ⟨x5, a5, n5, c5, x6, a6, n6, c6, rfl, hv14⟩ := hv14.open
      have Hv14 := hI hv14
      clear hv14 hb14
      refine hK.out _ _ (by exact (HS0.out _ (Hb14.out))) (fun hHeld => ?_)
      clear hK K; (try simp only [tkS])
      refine' tk 15 ?_; (try simp only [tkS])
      refine tkD ?_ _
      simp only [Exit.then]
      have hV := HVB.out.below (Hb14.out)
      obtain ⟨_, _, _, _, _, _, _, _, -, ⟨p0, p1, p2, p3⟩, f0, f1, f2, f3⟩ := hV.at Hq.out
      have hV2 := hV.set (by rw [fill_len HL.out hq]; exact hlt) Hv14.out
      rw [fill_set HL.out Hg.out] at hV2
      have HV2 := hI hV2
      have HbA := hI (vb_put_below (g := w.heap.size + 1 + 1) (k := q) (bw_via Hbx.out (Hb14.out)) (by omega) (.bool x5) (.slice a5 n5 c5) (.bool x6) (.slice a6 n6 c6))
      have HbB := hI (vb_put_below (g := w.heap.size + 1 + 1) (k := q) (bw_via Hbw.out (Hb14.out)) (by simp) (.bool x5) (.slice a5 n5 c5) (.bool x6) (.slice a6 n6 c6))
      clear hV hV2
      go_wp2_with fail
      go_roundw
      case rel => exact ⟨q + 1, by omega, by go_num, HbA.out, HbB.out, HV2.out⟩
      case measure => simp [intOf] <;> omega
    · obtain rfl : q = n := by omega
      have hkn : ¬ (q : Int) < (q : Int) := by omega
      have Hres := hI (HVB.out.qv (fill_len HL.out (Nat.le_refl _)) (by unfold maxLen; omega))
      rw [fill_all HL.out] at Hres
      clear hbw hbx hvb
      go_wp2_with fail
      go_ret
      exact ⟨_, rfl, Hres.out, Hbx.out⟩
set_option maxHeartbeats 8000000 in
set_option maxRecDepth 10000 in
theorem neg_g (u : Value) (a : List Rat) (n : Nat) (w : World) (h : QV w u a) (ha : a.length = n) (hn : n ≤ 1000) :
    Calls Tryz.prog 24 #[u] w (RetP (fun x w' => QV w' x (negV a) ∧ ∀ b, x.ownBlock = some b → w.heap.size ≤ b) w) := by
  have HN := hI (fun (W : World) (x : Value) (r : Rat) (hu : RQ W x r) => rneg_g x r W hu)
  have HL := hI (show (negV a).length = n from by unfold negV; rw [List.length_map]; exact ha)
  have HG := hI (fun (i : Nat) (r : Rat) (hr : a[i]? = some r) => show (negV a)[i]? = some (-r) from by unfold negV; rw [List.getElem?_map, hr]; rfl)
  obtain ⟨ad, cap, rfl, hc1, hc2⟩ := h.open
  rw [ha] at h hc1 ⊢
  unfold maxLen at hc2
  have HX := hI h
  obtain ⟨i4, hi4, hz0, hz1, hz2⟩ := info_rat
  have HB0 := hI (Below.refl w.heap.size w)
  clear h ha
  go_enter Tryz.func24, Tryz.ntmps24
  generalize hLL : negV a = LL at *
  go_wp2_with (at_make; go_loud (refine wpList_make_full _ rfl _ _ 46 rfl w.heap.size 61 i4 (.agg #[.bool false, .slice none 0 0, .bool false, .slice none 0 0]) 4 Tryz.underlying46 hi4 hz0 hz1 .i64 .i64 _ _ n rfl rfl (by omega) (by omega) (by rw [hz2]; omega) (by unfold maxLen; omega) (by simp) ?_; intro wm hown hg; have hvb : VB wm w.heap.size (List.replicate n 0) := (by have h := (VB.made hown).1; first | exact h | (simpa using h)); have Hb1 := hI (((Below.refl _ _).grown hg (Nat.le_refl _) (fun b hb => by cases hb))); have Hvb := hI hvb; clear hown hg hvb))
  go_loopw [10] (fun i wr => ∃ q : Nat, q ≤ n ∧ i = .int .i64 (q : Int) ∧ Below w.heap.size w wr ∧ Hid (VB wr w.heap.size (fillL LL n q))) (fun i _ => n - (intOf i).toNat)
  case atStart => exact ⟨0, by omega, rfl, Hb1.out, by rw [fill_zero]; exact Hvb.out⟩
  case round =>
    obtain ⟨q, hq, rfl, hbx, hvb⟩ := hrel
    have Hbx := hI hbx
    have HVB := hI hvb.out
    rcases Nat.lt_or_ge q n with hlt | hge
    · obtain ⟨b1, o1, x1, a1, n1, c1, y1, e1, l1, d1, r, rfl, hr, hR, z0, z1, z2, z3⟩ := HX.out.at hbx hlt
      have hkn : (q : Int) < (n : Int) := by omega
      have hk0 : (0 : Int) ≤ (q : Int) := Int.natCast_nonneg _
      have hkw : IntKind.i64.wrap ((q : Int) + 1) = (q : Int) + 1 := IntWalk.i64_in _ (by omega)
      have Hg := hI (HG.out q r hr)
      have HNx := hI (HN.out wr _ r hR)
      have Hq := hI (fill_at HL.out hlt)
      clear hR hr hbx hvb
      go_wp2_with (go_at_call 35; refine (HNx.out).mono ?_; rintro e5 w14 ⟨v14, rfl, hv14, hb14⟩; obtain ⟨x5, a5, n5, c5, x6, a6, n6, c6, rfl, hv14⟩ := hv14.open; have hV := HVB.out.below hb14; obtain ⟨_, _, _, _, _, _, _, _, -, ⟨p0, p1, p2, p3⟩, f0, f1, f2, f3⟩ := hV.at Hq.out; have hV2 := hV.set (by rw [fill_len HL.out hq]; exact hlt) hv14; rw [fill_set HL.out Hg.out] at hV2; have HV2 := hI hV2; have HbA := hI (vb_put_below (g := w.heap.size) (k := q) (Hbx.out.via hb14 Hbx.out.size) (by omega) (.bool x5) (.slice a5 n5 c5) (.bool x6) (.slice a6 n6 c6)); clear hV hV2 hv14 hb14)
      go_roundw
      case rel => exact ⟨q + 1, by omega, by go_num, HbA.out, HV2.out⟩
      case measure => simp [intOf] <;> omega
    · obtain rfl : q = n := by omega
      have hkn : ¬ (q : Int) < (q : Int) := by omega
      have Hres := hI (HVB.out.qv (fill_len HL.out (Nat.le_refl _)) (by unfold maxLen; omega))
      rw [fill_all HL.out] at Hres
      clear hbx hvb
      go_wp2_with fail
      go_ret
      exact ⟨_, rfl, ⟨Hres.out, fun b hb => by cases hb; exact Nat.le_refl _⟩, Hbx.out⟩
end Go.Proofs.YtlcmhbkmpkcajaaGreatDoor
