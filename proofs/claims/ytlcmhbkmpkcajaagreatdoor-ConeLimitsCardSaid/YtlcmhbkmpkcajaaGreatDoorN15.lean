/-
  Parts of the proof: Redg.
-/
import Derived.Test.YtlcmhbkmpkcajaaGreatDoorN14
namespace Go.Proofs.YtlcmhbkmpkcajaaGreatDoor
open Go.RowKit
def RQ (w : World) (v : Value) (r : Rat) : Prop := ∃ q, RatV w v r.num q ∧ dn q = (r.den : Int)
theorem RQ.mono {w w' : World} {v : Value} {r : Rat} (h : RQ w v r) (hb : Below w.heap.size w w') : RQ w' v r := by
  obtain ⟨q, h, hq⟩ := h
  exact ⟨q, h.mono hb, hq⟩
theorem rq_mk {w : World} {v : Value} {N : Int} {D : Nat} (hD : 0 < D) (h : RatV w v (N / ((Nat.gcd N.natAbs D : Nat) : Int)) ((D / Nat.gcd N.natAbs D : Nat) : Int)) : RQ w v (mkRat N D) := by
  refine ⟨((D / Nat.gcd N.natAbs D : Nat) : Int), ?_, ?_⟩
  · rw [Rat.num_mkRat, if_neg (by omega), Nat.gcd_comm D]
    exact h
  · rw [Rat.den_mkRat, if_neg (by omega), Nat.gcd_comm D]
    have : D / Nat.gcd N.natAbs D ≠ 0 := Nat.ne_of_gt (Nat.div_pos (Nat.le_of_dvd hD (Nat.gcd_dvd_right _ _)) (Nat.gcd_pos_of_pos_right _ hD))
    have key : ∀ q : Nat, q ≠ 0 → dn (q : Int) = (q : Int) := fun q hq => by unfold dn; rw [if_neg (by omega)]
    exact key _ this
set_option maxHeartbeats 8000000 in
set_option maxRecDepth 10000 in
theorem reduced_g (u v : Value) (N : Int) (D : Nat) (w : World) (h : IntV w u N) (h' : IntV w v (D : Int)) (hD : 0 < D) (hf : Few N.natAbs) (hf' : Few D) :
    Calls Tryz.prog 57 #[u, v] w (RetP (fun r w' => RQ w' r (mkRat N D)) w) := by
  obtain ⟨x, a, n, c, rfl, h⟩ := h.open
  obtain ⟨y, e, m, k, rfl, h'⟩ := h'.open
  have hA : Blk (((w.alloc (.cells #[.bool x, .slice a n c] 59)).alloc (.cells #[.bool y, .slice e m k] 59)).alloc (.cells #[.bool false, .slice none 0 0, .bool false, .slice none 0 0] 61)) w.heap.size #[.bool x, .slice a n c] 59 := ((Blk.new w _ _).old _).old _
  have hB : Blk (((w.alloc (.cells #[.bool x, .slice a n c] 59)).alloc (.cells #[.bool y, .slice e m k] 59)).alloc (.cells #[.bool false, .slice none 0 0, .bool false, .slice none 0 0] 61)) (w.heap.size + 1) #[.bool y, .slice e m k] 59 := by
    have h := (Blk.new (w.alloc (.cells #[.bool x, .slice a n c] 59)) #[.bool y, .slice e m k] 59).old (.cells #[.bool false, .slice none 0 0, .bool false, .slice none 0 0] 61)
    simpa using h
  have hR : Blk (((w.alloc (.cells #[.bool x, .slice a n c] 59)).alloc (.cells #[.bool y, .slice e m k] 59)).alloc (.cells #[.bool false, .slice none 0 0, .bool false, .slice none 0 0] 61)) (w.heap.size + 1 + 1) #[.bool false, .slice none 0 0, .bool false, .slice none 0 0] 61 := by
    have h := Blk.new ((w.alloc (.cells #[.bool x, .slice a n c] 59)).alloc (.cells #[.bool y, .slice e m k] 59)) #[.bool false, .slice none 0 0, .bool false, .slice none 0 0] 61
    simpa using h
  have HS := hI (fun w' (hb : Below (((w.alloc (.cells #[.bool x, .slice a n c] 59)).alloc (.cells #[.bool y, .slice e m k] 59)).alloc (.cells #[.bool false, .slice none 0 0, .bool false, .slice none 0 0] 61)).heap.size (((w.alloc (.cells #[.bool x, .slice a n c] 59)).alloc (.cells #[.bool y, .slice e m k] 59)).alloc (.cells #[.bool false, .slice none 0 0, .bool false, .slice none 0 0] 61)) w') => And.intro (blk2v (hA.below hb)).1 (blk2v (hB.below hb)).1)
  have HA := hI hA
  have HB := hI hB
  have HR := hI hR
  have HK := hI (below3 w (.cells #[.bool x, .slice a n c] 59) (.cells #[.bool y, .slice e m k] 59) (.cells #[.bool false, .slice none 0 0, .bool false, .slice none 0 0] 61))
  have hsg : ¬ ((D : Int).sign < 0) := by have := Int.sign_eq_one_of_pos (show (0 : Int) < (D : Int) by omega); omega
  have HP := hI (fun w' (hb : Below w.heap.size w w') => And.intro (h.mono hb) (h'.mono hb))
  have H1 := hI (fun w' (hb : Below w.heap.size w w') => sign_any _ (D : Int) w' (h'.mono hb))
  have H2 := hI (fun w' (hb : Below w.heap.size w w') => gcd_any _ _ N (D : Int) w' (h.mono hb) (h'.mono hb) hf (by rw [Int.natAbs_natCast]; exact hf'))
  rw [Int.natAbs_natCast] at H2
  have hgp : 0 < Nat.gcd N.natAbs D := Nat.gcd_pos_of_pos_right _ hD
  have hgD : Nat.gcd N.natAbs D ∣ D := Nat.gcd_dvd_right _ _
  have hgN : ((Nat.gcd N.natAbs D : Nat) : Int) ∣ N := Int.ofNat_dvd_left.2 (Nat.gcd_dvd_left _ _)
  have HZ := hI (fun (w' : World) (v : Value) (h : RatV w' v (N / ((Nat.gcd N.natAbs D : Nat) : Int)) ((D / Nat.gcd N.natAbs D : Nat) : Int)) => rq_mk (N := N) hD h)
  have HD1 := hI (fun w' u v (h : IntV w' u N) (h' : IntV w' v ((Nat.gcd N.natAbs D : Nat) : Int)) => divmod_x u v N (Nat.gcd N.natAbs D) w' h h' hgp hgN hf)
  have HD2 := hI (fun w' u v (h : IntV w' u (D : Int)) (h' : IntV w' v ((Nat.gcd N.natAbs D : Nat) : Int)) => divmod_x u v (D : Int) (Nat.gcd N.natAbs D) w' h h' hgp (Int.natCast_dvd_natCast.2 hgD) (by rw [Int.natAbs_natCast]; exact hf'))
  rw [← Int.natCast_ediv] at HD2
  generalize Nat.gcd N.natAbs D = G at *
  have H3 := hI (fun w' => one_any w')
  have H4 := hI (fun w' u u' (h1 : IntV w' u ((G : Nat) : Int)) (h2 : IntV w' u' 1) => compare_any u u' ((G : Nat) : Int) 1 w' h1 h2)
  generalize (D : Int).sign = sg at *
  have Hgp := hI hgp
  clear h h' hA hB hR hf hf' hgN hgD hgp hD
  by_cases hG : G = 1
  · subst hG
    rw [show cmpZ ((1 : Nat) : Int) 1 = 0 from rfl] at H4
    go_enter Tryz.func57, Tryz.ntmps57
    go_wp2_with (first
      | (go_at_call 34; refine (H1.out _ HK.out).mono ?_; rintro e1 w1 ⟨rfl, hb1⟩; obtain ⟨⟨c0, c1⟩, d0, d1⟩ := HS.out _ hb1)
      | (go_at_call 73; refine (H2.out _ (HK.out.via hb1 HK.out.size)).mono ?_; rintro e2 w2 ⟨vg, rfl, hv, hb2⟩; obtain ⟨xg, ag, ng, cg, rfl, hv⟩ := hv.open; have Hb12 := hI (bw_via hb1 hb2); clear hb1 hb2 c0 c1 d0 d1; have Hv := hI hv; clear hv))
    have hB5 := Blk.new w2 #[.bool xg, .slice ag ng cg] 59
    have HG5 := hI hB5
    have HV5 := hI (fun w' (hb : Below (w2.alloc (.cells #[.bool xg, .slice ag ng cg] 59)).heap.size (w2.alloc (.cells #[.bool xg, .slice ag ng cg] 59)) w') => Hv.out.mono ((below1 w2 (.cells #[.bool xg, .slice ag ng cg] 59)).via hb (below1 w2 _).size))
    have H15 := hI (bw_via Hb12.out (below1 w2 (.cells #[.bool xg, .slice ag ng cg] 59)))
    have Hgne := hI (show w2.heap.size ≠ w.heap.size ∧ w2.heap.size ≠ w.heap.size + 1 from by have h := Hb12.out.size; simp at h; omega)
    clear hB5 Hv
    refine wp_region_held_drew (S := (fun w' => w'.cell? ⟨w2.heap.size, 0, none⟩ = some (.bool xg) ∧ w'.cell? ⟨w2.heap.size, 1, none⟩ = some (.slice ag ng cg))) (by kernel_rfl) (by exact (blk2v (HG5.out.below ((Below.refl _ _).dn 1))).1) (fun hHeld => ?_)
    refine' tk 0 ?_; (try simp only [tkS])
    refine tk1 1 (fun K hK => ?_)
    go_simp
    go_at_call 62
    refine (H3.out _).mono ?_
    rintro e5 w1 ⟨v1, rfl, hv1, hb1⟩
    have Hb1 := hI (bw_via ((Below.refl _ _).dn 1) hb1)
    have Hv1 := hI hv1
    clear hv1
    clear hb1
    refine hK.out _ _ (by exact (blk2v (HG5.out.below (Hb1.out))).1) (fun hHeld => ?_)
    clear hK K; (try simp only [tkS])
    refine tk1 2 (fun K hK => ?_)
    go_simp
    go_at_call 61
    refine (H4.out _ _ _ (HV5.out _ (Hb1.out)) Hv1.out).mono ?_
    rintro e5 w2 ⟨rfl, hb2⟩
    have Hv1 := hI (Hv1.out.mono hb2)
    have Hb2 := hI (bw_via (Hb1.out) hb2)
    clear hb2
    refine hK.out _ _ (by exact (blk2v (HG5.out.below (Hb2.out))).1) (fun hHeld => ?_)
    clear hK K; (try simp only [tkS])
    refine' tk 3 ?_; (try simp only [tkS])
    refine tkD ?_ _
    have Hbf := hI (bw_via H15.out Hb2.out)
    obtain ⟨⟨c0, c1⟩, d0, d1⟩ := HS.out _ Hbf.out
    have hr := HR.out.below Hbf.out
    obtain ⟨⟨r0, r1, r2, r3⟩, f0, f1, f2, f3⟩ := blk4v hr
    have hP := HP.out _ (HK.out.via Hbf.out HK.out.size)
    have hrv : RatV _ (.agg #[.bool x, .slice a n c, .bool y, .slice e m k]) N (D : Int) := ⟨x, a, n, c, y, e, m, k, rfl, hP.1, hP.2⟩
    obtain ⟨hv6, hb6⟩ := RatV.put4 hrv hr
    have Hv6 := hI hv6
    have Hb6 := hI hb6
    have Hbel := hI (put_below4 (b := w.heap.size + 1 + 1) (.bool x) (.slice a n c) (.bool y) (.slice e m k) (HK.out.via Hbf.out HK.out.size) (by omega))
    clear hv6 hb6 hrv hP hr
    go_wp2_with fail
    obtain ⟨⟨q0, q1, q2, q3⟩, -⟩ := blk4v Hb6.out
    exact bodyPost_ret (v := .agg #[.bool x, .slice a n c, .bool y, .slice e m k]) (by simp [results, Tryz.results57, go_sem, q0, q1, q2, q3]) rfl ⟨_, rfl, HZ.out _ _ (by rw [show ((1 : Nat) : Int) = 1 from rfl, Int.ediv_one, Nat.div_one]; exact Hv6.out), Hbel.out⟩
  · have hc1 : cmpZ ((G : Nat) : Int) 1 = 1 := by have := Hgp.out; unfold cmpZ; rw [if_neg (by omega), if_pos (by omega)]
    rw [hc1] at H4
    go_enter Tryz.func57, Tryz.ntmps57
    go_wp2_with (first
      | (go_at_call 34; refine (H1.out _ HK.out).mono ?_; rintro e1 w1 ⟨rfl, hb1⟩; obtain ⟨⟨c0, c1⟩, d0, d1⟩ := HS.out _ hb1)
      | (go_at_call 73; refine (H2.out _ (HK.out.via hb1 HK.out.size)).mono ?_; rintro e2 w2 ⟨vg, rfl, hv, hb2⟩; obtain ⟨xg, ag, ng, cg, rfl, hv⟩ := hv.open; have Hb12 := hI (bw_via hb1 hb2); clear hb1 hb2 c0 c1 d0 d1; have Hv := hI hv; clear hv))
    have hB5 := Blk.new w2 #[.bool xg, .slice ag ng cg] 59
    have HG5 := hI hB5
    have HV5 := hI (fun w' (hb : Below (w2.alloc (.cells #[.bool xg, .slice ag ng cg] 59)).heap.size (w2.alloc (.cells #[.bool xg, .slice ag ng cg] 59)) w') => Hv.out.mono ((below1 w2 (.cells #[.bool xg, .slice ag ng cg] 59)).via hb (below1 w2 _).size))
    have H15 := hI (bw_via Hb12.out (below1 w2 (.cells #[.bool xg, .slice ag ng cg] 59)))
    have Hgne := hI (show w2.heap.size ≠ w.heap.size ∧ w2.heap.size ≠ w.heap.size + 1 from by have h := Hb12.out.size; simp at h; omega)
    clear hB5 Hv
    refine wp_region_held_drew (S := (fun w' => w'.cell? ⟨w2.heap.size, 0, none⟩ = some (.bool xg) ∧ w'.cell? ⟨w2.heap.size, 1, none⟩ = some (.slice ag ng cg))) (by kernel_rfl) (by exact (blk2v (HG5.out.below ((Below.refl _ _).dn 1))).1) (fun hHeld => ?_)
    refine' tk 0 ?_; (try simp only [tkS])
    refine tk1 1 (fun K hK => ?_)
    go_simp
    go_at_call 62
    refine (H3.out _).mono ?_
    rintro e5 w1 ⟨v1, rfl, hv1, hb1⟩
    have Hb1 := hI (bw_via ((Below.refl _ _).dn 1) hb1)
    have Hv1 := hI hv1
    clear hv1
    clear hb1
    refine hK.out _ _ (by exact (blk2v (HG5.out.below (Hb1.out))).1) (fun hHeld => ?_)
    clear hK K; (try simp only [tkS])
    refine tk1 2 (fun K hK => ?_)
    go_simp
    go_at_call 61
    refine (H4.out _ _ _ (HV5.out _ (Hb1.out)) Hv1.out).mono ?_
    rintro e5 w2 ⟨rfl, hb2⟩
    have Hv1 := hI (Hv1.out.mono hb2)
    have Hb2 := hI (bw_via (Hb1.out) hb2)
    clear hb2
    refine hK.out _ _ (by exact (blk2v (HG5.out.below (Hb2.out))).1) (fun hHeld => ?_)
    clear hK K; (try simp only [tkS])
    refine' tk 3 ?_; (try simp only [tkS])
    refine tkD ?_ _
    have Hbf := hI (bw_via H15.out Hb2.out)
    obtain ⟨⟨c0, c1⟩, d0, d1⟩ := HS.out _ Hbf.out
    obtain ⟨⟨g0, g1⟩, -⟩ := blk2v (HG5.out.below Hb2.out)
    go_wp2_with (first
      | (have _t := Hb7; clear _t; go_at_call 78; refine (HD2.out _ _ _ Hd7.out Hg7.out).mono ?_; rintro e w8 ⟨v8, rfl, ⟨x8, a8, k8, c8, r8, rfl, hq8⟩, hb8⟩; have hB8 := HB7.out.below hb8; have hA8 := HA7.out.below hb8; have hR8 := HR7.out.below hb8; obtain ⟨⟨z0, z1⟩, f4, f5⟩ := blk2v hB8; obtain ⟨⟨z2, z3⟩, f6, f7⟩ := blk2v hA8; obtain ⟨⟨r0, r1, r2, r3⟩, t0, t1, t2, t3⟩ := blk4v hR8; obtain ⟨s1, s2, s3, s4⟩ := stI x8 a8 k8 c8 hB8; have hrv : RatV _ (.agg #[.bool x6, .slice a6 k6 c6, .bool x8, .slice a8 k8 c8]) (N / (G : Int)) ((D / G : Nat) : Int) := ⟨x6, a6, k6, c6, x8, a8, k8, c8, rfl, s2 _ _ (Hq7.out.mono hb8), s2 _ _ hq8⟩; have hR9 := s3 _ _ _ hR8 (show w.heap.size + 1 + 1 ≠ w.heap.size + 1 by omega); obtain ⟨hv9, hb9⟩ := RatV.put4 hrv hR9; have HA9 := hI (s3 _ _ _ hA8 (show w.heap.size ≠ w.heap.size + 1 by omega)); have Hv9 := hI hv9; have Hb9 := hI hb9; have Hbel := hI (put_below4 (b := w.heap.size + 1 + 1) (.bool x6) (.slice a6 k6 c6) (.bool x8) (.slice a8 k8 c8) (s4 _ _ (Hb7.out.via hb8 Hb7.out.size) (by omega)) (by omega)); obtain ⟨⟨o0, o1⟩, -⟩ := blk2v HA9.out; obtain ⟨⟨o2, o3⟩, -⟩ := blk2v s1; obtain ⟨⟨o4, o5, o6, o7⟩, p0, p1, p2, p3⟩ := blk4v hR9; clear s1 s2 s3 s4 hrv hR9 hv9 hb9 hq8 hb8 hB8 hA8 hR8)
      | (go_at_call 78; refine (HD1.out _ _ _ (HP.out _ (HK.out.via Hbf.out HK.out.size)).1 (HV5.out _ Hb2.out)).mono ?_; rintro e w6 ⟨v6, rfl, ⟨x6, a6, k6, c6, r6, rfl, hq6⟩, hb6⟩; have hb36 := bw_via Hbf.out hb6; have hA6 := HA.out.below hb36; have hB6 := HB.out.below hb36; have hG6 := HG5.out.below (bw_via Hb2.out hb6); obtain ⟨⟨u0, u1⟩, f0, f1⟩ := blk2v hA6; obtain ⟨⟨u2, u3⟩, f2, f3⟩ := blk2v hB6; obtain ⟨⟨u4, u5⟩, -⟩ := blk2v hG6; obtain ⟨s1, s2, s3, s4⟩ := stI x6 a6 k6 c6 hA6; have HA7 := hI s1; have HB7 := hI (s3 _ _ _ hB6 (show w.heap.size + 1 ≠ w.heap.size by omega)); have HG7 := hI (s3 _ _ _ hG6 Hgne.out.1); have HR7 := hI (s3 _ _ _ (HR.out.below hb36) (show w.heap.size + 1 + 1 ≠ w.heap.size by omega)); have Hq7 := hI (s2 _ _ hq6); have Hd7 := hI (s2 _ _ (HP.out _ (HK.out.via hb36 HK.out.size)).2); have Hg7 := hI (s2 _ _ ((HV5.out _ Hb2.out).mono hb6)); have Hb7 := hI (s4 _ _ (HK.out.via hb36 HK.out.size) (Nat.le_refl _)); have Hng := Hgne.out.1; obtain ⟨⟨y0, y1⟩, -⟩ := blk2v HB7.out; obtain ⟨⟨y2, y3⟩, -⟩ := blk2v HG7.out; clear s1 s2 s3 s4 hq6 hb6 hb36 hA6 hB6 hG6))
    obtain ⟨⟨q0, q1, q2, q3⟩, -⟩ := blk4v Hb9.out
    exact bodyPost_ret (v := .agg #[.bool x6, .slice a6 k6 c6, .bool x8, .slice a8 k8 c8]) (by simp [results, Tryz.results57, go_sem, q0, q1, q2, q3]) rfl ⟨_, rfl, HZ.out _ _ Hv9.out, Hbel.out⟩
end Go.Proofs.YtlcmhbkmpkcajaaGreatDoor
