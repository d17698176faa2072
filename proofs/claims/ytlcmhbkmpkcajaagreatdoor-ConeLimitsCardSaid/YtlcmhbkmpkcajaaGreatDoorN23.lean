/-
  Parts of the proof: Qrn, Qdv.
-/
import Derived.Test.YtlcmhbkmpkcajaaGreatDoorN20
namespace Go.Proofs.YtlcmhbkmpkcajaaGreatDoor
open Go.RowKit
set_option maxHeartbeats 8000000 in
set_option maxRecDepth 10000 in
theorem reduced_n (u v : Value) (N : Int) (D : Nat) (w : World) (h : IntV w u N) (h' : IntV w v (-(D : Int))) (hD : 0 < D) (hf : Few N.natAbs) (hf' : Few D) :
    Calls Tryz.prog 57 #[u, v] w (RetP (fun r w' => RQ w' r (mkRat (-N) D)) w) := by
  obtain ⟨x, a, n, c, rfl, h⟩ := h.open
  obtain ⟨y, e, m, k, rfl, h'⟩ := h'.open
  have hA : Blk (((w.alloc (.cells #[.bool x, .slice a n c] 59)).alloc (.cells #[.bool y, .slice e m k] 59)).alloc (.cells #[.bool false, .slice none 0 0, .bool false, .slice none 0 0] 61)) w.heap.size #[.bool x, .slice a n c] 59 := ((Blk.new w _ _).old _).old _
  have hB : Blk (((w.alloc (.cells #[.bool x, .slice a n c] 59)).alloc (.cells #[.bool y, .slice e m k] 59)).alloc (.cells #[.bool false, .slice none 0 0, .bool false, .slice none 0 0] 61)) (w.heap.size + 1) #[.bool y, .slice e m k] 59 := by
    have h := (Blk.new (w.alloc (.cells #[.bool x, .slice a n c] 59)) #[.bool y, .slice e m k] 59).old (.cells #[.bool false, .slice none 0 0, .bool false, .slice none 0 0] 61)
    simpa using h
  have hR : Blk (((w.alloc (.cells #[.bool x, .slice a n c] 59)).alloc (.cells #[.bool y, .slice e m k] 59)).alloc (.cells #[.bool false, .slice none 0 0, .bool false, .slice none 0 0] 61)) (w.heap.size + 1 + 1) #[.bool false, .slice none 0 0, .bool false, .slice none 0 0] 61 := by
    have h := Blk.new ((w.alloc (.cells #[.bool x, .slice a n c] 59)).alloc (.cells #[.bool y, .slice e m k] 59)) #[.bool false, .slice none 0 0, .bool false, .slice none 0 0] 61
    simpa using h
  have HA0 := hI (fun w' (hb : Below (((w.alloc (.cells #[.bool x, .slice a n c] 59)).alloc (.cells #[.bool y, .slice e m k] 59)).alloc (.cells #[.bool false, .slice none 0 0, .bool false, .slice none 0 0] 61)).heap.size (((w.alloc (.cells #[.bool x, .slice a n c] 59)).alloc (.cells #[.bool y, .slice e m k] 59)).alloc (.cells #[.bool false, .slice none 0 0, .bool false, .slice none 0 0] 61)) w') => hA.below hb)
  have HB0 := hI (fun w' (hb : Below (((w.alloc (.cells #[.bool x, .slice a n c] 59)).alloc (.cells #[.bool y, .slice e m k] 59)).alloc (.cells #[.bool false, .slice none 0 0, .bool false, .slice none 0 0] 61)).heap.size (((w.alloc (.cells #[.bool x, .slice a n c] 59)).alloc (.cells #[.bool y, .slice e m k] 59)).alloc (.cells #[.bool false, .slice none 0 0, .bool false, .slice none 0 0] 61)) w') => hB.below hb)
  have HR0 := hI (fun w' (hb : Below (((w.alloc (.cells #[.bool x, .slice a n c] 59)).alloc (.cells #[.bool y, .slice e m k] 59)).alloc (.cells #[.bool false, .slice none 0 0, .bool false, .slice none 0 0] 61)).heap.size (((w.alloc (.cells #[.bool x, .slice a n c] 59)).alloc (.cells #[.bool y, .slice e m k] 59)).alloc (.cells #[.bool false, .slice none 0 0, .bool false, .slice none 0 0] 61)) w') => hR.below hb)
  have HK0 := hI (below3 w (.cells #[.bool x, .slice a n c] 59) (.cells #[.bool y, .slice e m k] 59) (.cells #[.bool false, .slice none 0 0, .bool false, .slice none 0 0] 61))
  have H1 := hI (fun w' (hb : Below w.heap.size w w') => sign_any _ (-(D : Int)) w' (h'.mono hb))
  rw [Int.sign_eq_neg_one_of_neg (show -(D : Int) < 0 by omega)] at H1
  have HN1 := hI (fun w' (hb : Below w.heap.size w w') => neg_any _ N w' (h.mono hb))
  have HN2 := hI (fun w' (hb : Below w.heap.size w w') => neg_any _ (-(D : Int)) w' (h'.mono hb))
  rw [Int.neg_neg] at HN2
  have HS0 := hI (fun w' (hb : Below (((w.alloc (.cells #[.bool x, .slice a n c] 59)).alloc (.cells #[.bool y, .slice e m k] 59)).alloc (.cells #[.bool false, .slice none 0 0, .bool false, .slice none 0 0] 61)).heap.size (((w.alloc (.cells #[.bool x, .slice a n c] 59)).alloc (.cells #[.bool y, .slice e m k] 59)).alloc (.cells #[.bool false, .slice none 0 0, .bool false, .slice none 0 0] 61)) w') => show (fun w' => w'.cell? ⟨w.heap.size, 0, none⟩ = some (.bool x) ∧ w'.cell? ⟨w.heap.size, 1, none⟩ = some (.slice a n c) ∧ w'.cell? ⟨w.heap.size + 1, 0, none⟩ = some (.bool y) ∧ w'.cell? ⟨w.heap.size + 1, 1, none⟩ = some (.slice e m k)) w' from ⟨(blk2v (hA.below hb)).1.1, (blk2v (hA.below hb)).1.2, (blk2v (hB.below hb)).1.1, (blk2v (hB.below hb)).1.2⟩)
  have Hft := hI (And.intro hD (And.intro (show Few (-N).natAbs by rw [Int.natAbs_neg]; exact hf) hf'))
  clear h h' hA hB hR hf hf' hD
  generalize hNN : -N = NN at *
  go_enter Tryz.func57, Tryz.ntmps57
  obtain ⟨c0, c1, d0, d1⟩ := HS0.out _ (Below.refl _ _)
  go_wp2_with (go_at_call 34; refine (H1.out _ HK0.out).mono ?_; rintro e1 w1 ⟨rfl, hb1⟩; have Hb1 := hI hb1; clear hb1)
  go_cut [8] (fun s8 wq => s8 = .bool true ∧ ∃ (x9 : Bool) (a9 : Option Addr) (n9 c9 : Nat) (x8 : Bool) (a8 : Option Addr) (n8 c8 : Nat), Below w.heap.size w wq ∧ Blk wq w.heap.size #[.bool x9, .slice a9 n9 c9] 59 ∧ Blk wq (w.heap.size + 1) #[.bool x8, .slice a8 n8 c8] 59 ∧ Blk wq (w.heap.size + 1 + 1) #[.bool false, .slice none 0 0, .bool false, .slice none 0 0] 61 ∧ Hid (IntV wq (.agg #[.bool x9, .slice a9 n9 c9]) NN) ∧ Hid (IntV wq (.agg #[.bool x8, .slice a8 n8 c8]) (D : Int)))
  case first =>
    refine wp_region_pop (S := (fun w' => w'.cell? ⟨w.heap.size + 1, 0, none⟩ = some (.bool y) ∧ w'.cell? ⟨w.heap.size + 1, 1, none⟩ = some (.slice e m k))) 5 (by kernel_rfl) (by kernel_rfl) (by exact ((blk2v (HB0.out _ (bw_via Hb1.out ((Below.refl _ _).drew)))).1)) (fun hHeld => ?_)
    simp only [List.take_succ_cons, List.take_zero, List.drop_succ_cons, List.drop_zero]
    refine' tk 2 ?_; (try simp only [tkS])
    refine tk1 0 (fun K hK => ?_)
    obtain ⟨⟨c0, c1⟩, -⟩ := blk2v (HA0.out _ (bw_via Hb1.out ((Below.refl _ _).drew)))
    go_simp
    clear c0 c1
    refine hK.out _ _ (by exact ((blk2v (HB0.out _ (bw_via Hb1.out ((Below.refl _ _).drew)))).1)) (fun hHeld => ?_)
    clear hK K; (try simp only [tkS])
    refine tk1 1 (fun K hK => ?_)
    go_simp
    go_at_call 60
    refine (HN1.out _ (HK0.out.via (bw_via Hb1.out ((Below.refl _ _).drew)) HK0.out.size)).mono ?_
    rintro e5 w10 ⟨v10, rfl, hv10, hb10⟩
    obtain ⟨x9, a9, n9, c9, rfl, hv10⟩ := hv10.open
    have Hb10 := hI (bw_via ((Below.refl _ _).drew) hb10)
    have Hv10 := hI hv10
    clear hv10 hb10
    refine hK.out _ _ (by exact ((blk2v (HB0.out _ (bw_via Hb1.out (Hb10.out)))).1)) (fun hHeld => ?_)
    clear hK K; (try simp only [tkS])
    refine tk1 3 (fun K hK => ?_)
    go_simp
    go_at_call 60
    refine (HN2.out _ (HK0.out.via (bw_via Hb1.out (Hb10.out)) HK0.out.size)).mono ?_
    rintro e5 w12 ⟨v12, rfl, hv12, hb12⟩
    obtain ⟨x8, a8, n8, c8, rfl, hv12⟩ := hv12.open
    have Hv10 := hI (Hv10.out.mono hb12)
    have Hb12 := hI (bw_via (Hb10.out) hb12)
    have Hv12 := hI hv12
    clear hv12 hb12
    refine hK.out _ _ (by exact ((blk2v (HB0.out _ (bw_via Hb1.out (Hb12.out)))).1)) (fun hHeld => ?_)
    clear hK K; (try simp only [tkS])
    refine tk1 4 (fun K hK => ?_)
    have hA1 := HA0.out _ (bw_via Hb1.out (Hb12.out))
    have hB1 := HB0.out _ (bw_via Hb1.out (Hb12.out))
    obtain ⟨⟨q0, q1⟩, f0, f1⟩ := blk2v hA1
    obtain ⟨s1, s2, s3, s4⟩ := stI x9 a9 n9 c9 hA1
    have HA2 := hI s1
    have HB2 := hI (s3 _ _ _ hB1 (show w.heap.size + 1 ≠ w.heap.size by omega))
    have HR2 := hI (s3 _ _ _ (HR0.out _ (bw_via Hb1.out (Hb12.out))) (show w.heap.size + 1 + 1 ≠ w.heap.size by omega))
    have HV2 := hI (s2 _ _ Hv10.out)
    have HU2 := hI (s2 _ _ Hv12.out)
    have HW2 := hI (s4 _ _ (HK0.out.via (bw_via Hb1.out (Hb12.out)) HK0.out.size) (Nat.le_refl _))
    clear s1 s2 s3 s4 hA1 hB1
    go_simp
    refine hK.out _ _ (by exact (blk2v HB2.out).1) (fun hHeld => ?_)
    clear hK K; (try simp only [tkS])
    refine tkD ?_ _
    simp only [Exit.then]
    obtain ⟨⟨q0, q1⟩, f0, f1⟩ := blk2v HB2.out
    obtain ⟨s1, s2, s3, s4⟩ := stI x8 a8 n8 c8 HB2.out
    have HB3 := hI s1
    have HA3 := hI (s3 _ _ _ HA2.out (show w.heap.size ≠ w.heap.size + 1 by omega))
    have HR3 := hI (s3 _ _ _ HR2.out (show w.heap.size + 1 + 1 ≠ w.heap.size + 1 by omega))
    have HV3 := hI (s2 _ _ HV2.out)
    have HU3 := hI (s2 _ _ HU2.out)
    have HW3 := hI (s4 _ _ HW2.out (by omega))
    clear s1 s2 s3 s4
    go_wp2_with fail
    go_meet
    exact ⟨rfl, x9, a9, n9, c9, x8, a8, n8, c8, HW3.out, HA3.out, HB3.out, HR3.out, HV3.out, HU3.out⟩
  case rest =>
    obtain ⟨rfl, x, a, n, c, y, e, m, k, hK, hA, hB, hR, h, h'⟩ := hcut
    obtain ⟨wq, rfl⟩ : ∃ W, W = wc := ⟨_, rfl⟩
    obtain ⟨hD, hf, hf'⟩ := Hft.out
    have HS := hI (fun w' (hb : Below wq.heap.size wq w') => And.intro (blk2v (hA.below hb)).1 (blk2v (hB.below hb)).1)
    have HA := hI hA
    have HB := hI hB
    have HR := hI hR
    have HK := hI hK
    have HP := hI (fun w' (hb : Below wq.heap.size wq w') => And.intro (h.out.mono hb) (h'.out.mono hb))
    have H2 := hI (gcd_any _ _ NN (D : Int) wq h.out h'.out hf (by rw [Int.natAbs_natCast]; exact hf'))
    rw [Int.natAbs_natCast] at H2
    have hgp : 0 < Nat.gcd NN.natAbs D := Nat.gcd_pos_of_pos_right _ hD
    have hgD : Nat.gcd NN.natAbs D ∣ D := Nat.gcd_dvd_right _ _
    have hgN : ((Nat.gcd NN.natAbs D : Nat) : Int) ∣ NN := Int.ofNat_dvd_left.2 (Nat.gcd_dvd_left _ _)
    have HZ := hI (fun (w' : World) (v : Value) (h : RatV w' v (NN / ((Nat.gcd NN.natAbs D : Nat) : Int)) ((D / Nat.gcd NN.natAbs D : Nat) : Int)) => rq_mk (N := NN) hD h)
    have HD1 := hI (fun w' u v (h : IntV w' u NN) (h' : IntV w' v ((Nat.gcd NN.natAbs D : Nat) : Int)) => divmod_x u v NN (Nat.gcd NN.natAbs D) w' h h' hgp hgN hf)
    have HD2 := hI (fun w' u v (h : IntV w' u (D : Int)) (h' : IntV w' v ((Nat.gcd NN.natAbs D : Nat) : Int)) => divmod_x u v (D : Int) (Nat.gcd NN.natAbs D) w' h h' hgp (Int.natCast_dvd_natCast.2 hgD) (by rw [Int.natAbs_natCast]; exact hf'))
    rw [← Int.natCast_ediv] at HD2
    generalize Nat.gcd NN.natAbs D = G at *
    have H3 := hI (fun w' => one_any w')
    have H4 := hI (fun w' u u' (h1 : IntV w' u ((G : Nat) : Int)) (h2 : IntV w' u' 1) => compare_any u u' ((G : Nat) : Int) 1 w' h1 h2)
    have Hgp := hI hgp
    have HB1s := hI (show w.heap.size + 1 + 1 < wq.heap.size from hR.lt)
    clear h h' hA hB hR hf hf' hgN hgD hgp hD hK
    by_cases hG : G = 1
    · subst hG
      rw [show cmpZ ((1 : Nat) : Int) 1 = 0 from rfl] at H4
      obtain ⟨⟨c0, c1⟩, d0, d1⟩ := HS.out _ (Below.refl _ _)
      go_wp2_with (go_at_call 73; refine (H2.out).mono ?_; rintro e2 w2 ⟨vg, rfl, hv, hb2⟩; obtain ⟨xg, ag, ng, cg, rfl, hv⟩ := hv.open; have Hb12 := hI hb2; clear hb2 c0 c1 d0 d1; have Hv := hI hv; clear hv)
      have hB5 := Blk.new w2 #[.bool xg, .slice ag ng cg] 59
      have HG5 := hI hB5
      have HV5 := hI (fun w' (hb : Below (w2.alloc (.cells #[.bool xg, .slice ag ng cg] 59)).heap.size (w2.alloc (.cells #[.bool xg, .slice ag ng cg] 59)) w') => Hv.out.mono ((below1 w2 (.cells #[.bool xg, .slice ag ng cg] 59)).via hb (below1 w2 _).size))
      have H15 := hI (bw_via Hb12.out (below1 w2 (.cells #[.bool xg, .slice ag ng cg] 59)))
      have Hgne := hI (show w2.heap.size ≠ w.heap.size ∧ w2.heap.size ≠ w.heap.size + 1 from by have h := Hb12.out.size; have h2 := HB1s.out; omega)
      clear hB5 Hv
      refine wp_region_held_drew (S := (fun w' => w'.cell? ⟨w2.heap.size, 0, none⟩ = some (.bool xg) ∧ w'.cell? ⟨w2.heap.size, 1, none⟩ = some (.slice ag ng cg))) (by kernel_rfl) (by exact (blk2v (HG5.out.below ((Below.refl _ _).dn 1))).1) (fun hHeld => ?_)
      refine' tk 0 ?_; (try simp only [tkS])
      refine tk1 1 (fun K hK => ?_)
      go_simp
      go_at_call 62
      refine (H3.out _).mono ?_
      rintro e5 w1 ⟨v1, rfl, hv1, hb1⟩
      have Hb1 := hI (bw_via ((Below.refl _ _).dn 1) hb1)
      have Hv1 := hI hv1
      clear hv1
      clear hb1
      refine hK.out _ _ (by exact (blk2v (HG5.out.below (Hb1.out))).1) (fun hHeld => ?_)
      clear hK K; (try simp only [tkS])
      refine tk1 2 (fun K hK => ?_)
      go_simp
      go_at_call 61
      refine (H4.out _ _ _ (HV5.out _ (Hb1.out)) Hv1.out).mono ?_
      rintro e5 w2 ⟨rfl, hb2⟩
      have Hv1 := hI (Hv1.out.mono hb2)
      have Hb2 := hI (bw_via (Hb1.out) hb2)
      clear hb2
      refine hK.out _ _ (by exact (blk2v (HG5.out.below (Hb2.out))).1) (fun hHeld => ?_)
      clear hK K; (try simp only [tkS])
      refine' tk 3 ?_; (try simp only [tkS])
      refine tkD ?_ _
      have Hbf := hI (bw_via H15.out Hb2.out)
      obtain ⟨⟨c0, c1⟩, d0, d1⟩ := HS.out _ Hbf.out
      have hr := HR.out.below Hbf.out
      obtain ⟨⟨r0, r1, r2, r3⟩, f0, f1, f2, f3⟩ := blk4v hr
      have hP := HP.out _ Hbf.out
      have hrv : RatV _ (.agg #[.bool x, .slice a n c, .bool y, .slice e m k]) NN (D : Int) := ⟨x, a, n, c, y, e, m, k, rfl, hP.1, hP.2⟩
      obtain ⟨hv6, hb6⟩ := RatV.put4 hrv hr
      have Hv6 := hI hv6
      have Hb6 := hI hb6
      have Hbel := hI (put_below4 (b := w.heap.size + 1 + 1) (.bool x) (.slice a n c) (.bool y) (.slice e m k) (HK.out.via Hbf.out HK.out.size) (by omega))
      clear hv6 hb6 hrv hP hr
      go_wp2_with fail
      obtain ⟨⟨q0, q1, q2, q3⟩, -⟩ := blk4v Hb6.out
      exact bodyPost_ret (v := .agg #[.bool x, .slice a n c, .bool y, .slice e m k]) (by simp [results, Tryz.results57, go_sem, q0, q1, q2, q3]) rfl ⟨_, rfl, HZ.out _ _ (by rw [show ((1 : Nat) : Int) = 1 from rfl, Int.ediv_one, Nat.div_one]; exact Hv6.out), Hbel.out⟩
    · have hc1 : cmpZ ((G : Nat) : Int) 1 = 1 := by have := Hgp.out; unfold cmpZ; rw [if_neg (by omega), if_pos (by omega)]
      rw [hc1] at H4
      obtain ⟨⟨c0, c1⟩, d0, d1⟩ := HS.out _ (Below.refl _ _)
      go_wp2_with (go_at_call 73; refine (H2.out).mono ?_; rintro e2 w2 ⟨vg, rfl, hv, hb2⟩; obtain ⟨xg, ag, ng, cg, rfl, hv⟩ := hv.open; have Hb12 := hI hb2; clear hb2 c0 c1 d0 d1; have Hv := hI hv; clear hv)
      have hB5 := Blk.new w2 #[.bool xg, .slice ag ng cg] 59
      have HG5 := hI hB5
      have HV5 := hI (fun w' (hb : Below (w2.alloc (.cells #[.bool xg, .slice ag ng cg] 59)).heap.size (w2.alloc (.cells #[.bool xg, .slice ag ng cg] 59)) w') => Hv.out.mono ((below1 w2 (.cells #[.bool xg, .slice ag ng cg] 59)).via hb (below1 w2 _).size))
      have H15 := hI (bw_via Hb12.out (below1 w2 (.cells #[.bool xg, .slice ag ng cg] 59)))
      have Hgne := hI (show w2.heap.size ≠ w.heap.size ∧ w2.heap.size ≠ w.heap.size + 1 from by have h := Hb12.out.size; have h2 := HB1s.out; omega)
      clear hB5 Hv
      refine wp_region_held_drew (S := (fun w' => w'.cell? ⟨w2.heap.size, 0, none⟩ = some (.bool xg) ∧ w'.cell? ⟨w2.heap.size, 1, none⟩ = some (.slice ag ng cg))) (by kernel_rfl) (by exact (blk2v (HG5.out.below ((Below.refl _ _).dn 1))).1) (fun hHeld => ?_)
      refine' tk 0 ?_; (try simp only [tkS])
      refine tk1 1 (fun K hK => ?_)
      go_simp
      go_at_call 62
      refine (H3.out _).mono ?_
      rintro e5 w1 ⟨v1, rfl, hv1, hb1⟩
      have Hb1 := hI (bw_via ((Below.refl _ _).dn 1) hb1)
      have Hv1 := hI hv1
      clear hv1
      clear hb1
      refine hK.out _ _ (by exact (blk2v (HG5.out.below (Hb1.out))).1) (fun hHeld => ?_)
      clear hK K; (try simp only [tkS])
      refine tk1 2 (fun K hK => ?_)
      go_simp
      go_at_call 61
      refine (H4.out _ _ _ (HV5.out _ (Hb1.out)) Hv1.out).mono ?_
      rintro e5 w2 ⟨rfl, hb2⟩
      have Hv1 := hI (Hv1.out.mono hb2)
      have Hb2 := hI (bw_via (Hb1.out) hb2)
      clear hb2
      refine hK.out _ _ (by exact (blk2v (HG5.out.below (Hb2.out))).1) (fun hHeld => ?_)
      clear hK K; (try simp only [tkS])
      refine' tk 3 ?_; (try simp only [tkS])
      refine tkD ?_ _
      have Hbf := hI (bw_via H15.out Hb2.out)
      obtain ⟨⟨c0, c1⟩, d0, d1⟩ := HS.out _ Hbf.out
      obtain ⟨⟨g0, g1⟩, -⟩ := blk2v (HG5.out.below Hb2.out)
      go_wp2_with (first
        | (have _t := Hb7; clear _t; go_at_call 78; refine (HD2.out _ _ _ Hd7.out Hg7.out).mono ?_; rintro e w8 ⟨v8, rfl, ⟨x8, a8, k8, c8, r8, rfl, hq8⟩, hb8⟩; have hB8 := HB7.out.below hb8; have hA8 := HA7.out.below hb8; have hR8 := HR7.out.below hb8; obtain ⟨⟨z0, z1⟩, f4, f5⟩ := blk2v hB8; obtain ⟨⟨z2, z3⟩, f6, f7⟩ := blk2v hA8; obtain ⟨⟨r0, r1, r2, r3⟩, t0, t1, t2, t3⟩ := blk4v hR8; obtain ⟨s1, s2, s3, s4⟩ := stI x8 a8 k8 c8 hB8; have hrv : RatV _ (.agg #[.bool x6, .slice a6 k6 c6, .bool x8, .slice a8 k8 c8]) (NN / (G : Int)) ((D / G : Nat) : Int) := ⟨x6, a6, k6, c6, x8, a8, k8, c8, rfl, s2 _ _ (Hq7.out.mono hb8), s2 _ _ hq8⟩; have hR9 := s3 _ _ _ hR8 (show w.heap.size + 1 + 1 ≠ w.heap.size + 1 by omega); obtain ⟨hv9, hb9⟩ := RatV.put4 hrv hR9; have HA9 := hI (s3 _ _ _ hA8 (show w.heap.size ≠ w.heap.size + 1 by omega)); have Hv9 := hI hv9; have Hb9 := hI hb9; have Hbel := hI (put_below4 (b := w.heap.size + 1 + 1) (.bool x6) (.slice a6 k6 c6) (.bool x8) (.slice a8 k8 c8) (s4 _ _ (Hb7.out.via hb8 Hb7.out.size) (by omega)) (by omega)); obtain ⟨⟨o0, o1⟩, -⟩ := blk2v HA9.out; obtain ⟨⟨o2, o3⟩, -⟩ := blk2v s1; obtain ⟨⟨o4, o5, o6, o7⟩, p0, p1, p2, p3⟩ := blk4v hR9; clear s1 s2 s3 s4 hrv hR9 hv9 hb9 hq8 hb8 hB8 hA8 hR8)
        | (go_at_call 78; refine (HD1.out _ _ _ (HP.out _ Hbf.out).1 (HV5.out _ Hb2.out)).mono ?_; rintro e w6 ⟨v6, rfl, ⟨x6, a6, k6, c6, r6, rfl, hq6⟩, hb6⟩; have hb36 := bw_via Hbf.out hb6; have hA6 := HA.out.below hb36; have hB6 := HB.out.below hb36; have hG6 := HG5.out.below (bw_via Hb2.out hb6); obtain ⟨⟨u0, u1⟩, f0, f1⟩ := blk2v hA6; obtain ⟨⟨u2, u3⟩, f2, f3⟩ := blk2v hB6; obtain ⟨⟨u4, u5⟩, -⟩ := blk2v hG6; obtain ⟨s1, s2, s3, s4⟩ := stI x6 a6 k6 c6 hA6; have HA7 := hI s1; have HB7 := hI (s3 _ _ _ hB6 (show w.heap.size + 1 ≠ w.heap.size by omega)); have HG7 := hI (s3 _ _ _ hG6 Hgne.out.1); have HR7 := hI (s3 _ _ _ (HR.out.below hb36) (show w.heap.size + 1 + 1 ≠ w.heap.size by omega)); have Hq7 := hI (s2 _ _ hq6); have Hd7 := hI (s2 _ _ (HP.out _ hb36).2); have Hg7 := hI (s2 _ _ ((HV5.out _ Hb2.out).mono hb6)); have Hb7 := hI (s4 _ _ (HK.out.via hb36 HK.out.size) (Nat.le_refl _)); have Hng := Hgne.out.1; obtain ⟨⟨y0, y1⟩, -⟩ := blk2v HB7.out; obtain ⟨⟨y2, y3⟩, -⟩ := blk2v HG7.out; clear s1 s2 s3 s4 hq6 hb6 hb36 hA6 hB6 hG6))
      obtain ⟨⟨q0, q1, q2, q3⟩, -⟩ := blk4v Hb9.out
      exact bodyPost_ret (v := .agg #[.bool x6, .slice a6 k6 c6, .bool x8, .slice a8 k8 c8]) (by simp [results, Tryz.results57, go_sem, q0, q1, q2, q3]) rfl ⟨_, rfl, HZ.out _ _ Hv9.out, Hbel.out⟩
end Go.Proofs.YtlcmhbkmpkcajaaGreatDoor
namespace Go.Proofs.YtlcmhbkmpkcajaaGreatDoor
open Go.RowKit
theorem rat_neg_neg {r s : Rat} (h : s ≠ 0) : r / s = (-r) / (-s) := by
  have h1 : r / s * (-s) = -r := by rw [Rat.mul_neg, Rat.div_mul_cancel h]
  have h2 : -s ≠ 0 := fun e => h (by rw [← Rat.neg_neg s, e]; rfl)
  rw [← h1, Rat.mul_div_cancel h2]
theorem rat_div_neg {r s : Rat} (hs : s < 0) : r / s = mkRat (-(r.num * (s.den : Int))) (r.den * s.num.natAbs) := by
  have h0 : s ≠ 0 := fun e => absurd hs (by rw [e]; exact Rat.lt_irrefl)
  have hp : 0 < -s := by have := (Rat.lt_iff _ _).1 hs; rw [Rat.lt_iff]; simp [Rat.neg_num, Rat.neg_den] at this ⊢; omega
  rw [rat_neg_neg h0, rat_div_mk hp, Rat.neg_num, Rat.neg_num, Rat.neg_den, Rat.neg_den, Int.natAbs_neg, Int.neg_mul]
set_option maxHeartbeats 8000000 in
set_option maxRecDepth 100000 in
theorem rdiv_n (u v : Value) (r s : Rat) (k1 k2 : Nat) (w : World) (h : RQ w u r) (h' : RQ w v s) (hz : Sz k1 r) (hz' : Sz k2 s) (hk : k1 + k2 ≤ 80000) (hs : s < 0) : Calls Tryz.prog 76 #[u, v] w (RetP (fun x w' => ∃ r0, x = .tuple #[r0, .int .i64 0] ∧ RQ w' r0 (r / s)) w) := by
  obtain ⟨q, h, hq⟩ := h
  obtain ⟨q', h', hq'⟩ := h'
  obtain ⟨x, a, n, c, x', a', n', c', rfl, h⟩ := h.open
  obtain ⟨y, e, m, k, y', e', m', k', rfl, h'⟩ := h'.open
  have hA : Blk (((w.alloc (.cells #[.bool x, .slice a n c, .bool x', .slice a' n' c'] 61)).alloc (.cells #[.bool y, .slice e m k, .bool y', .slice e' m' k'] 61)).alloc (.cells #[.bool false, .slice none 0 0, .bool false, .slice none 0 0] 61)) w.heap.size #[.bool x, .slice a n c, .bool x', .slice a' n' c'] 61 := ((Blk.new w _ _).old _).old _
  have hB : Blk (((w.alloc (.cells #[.bool x, .slice a n c, .bool x', .slice a' n' c'] 61)).alloc (.cells #[.bool y, .slice e m k, .bool y', .slice e' m' k'] 61)).alloc (.cells #[.bool false, .slice none 0 0, .bool false, .slice none 0 0] 61)) (w.heap.size + 1) #[.bool y, .slice e m k, .bool y', .slice e' m' k'] 61 := by
    have h := (Blk.new (w.alloc (.cells #[.bool x, .slice a n c, .bool x', .slice a' n' c'] 61)) #[.bool y, .slice e m k, .bool y', .slice e' m' k'] 61).old (.cells #[.bool false, .slice none 0 0, .bool false, .slice none 0 0] 61)
    simpa using h
  have hR : Blk (((w.alloc (.cells #[.bool x, .slice a n c, .bool x', .slice a' n' c'] 61)).alloc (.cells #[.bool y, .slice e m k, .bool y', .slice e' m' k'] 61)).alloc (.cells #[.bool false, .slice none 0 0, .bool false, .slice none 0 0] 61)) (w.heap.size + 1 + 1) #[.bool false, .slice none 0 0, .bool false, .slice none 0 0] 61 := by
    have h := Blk.new ((w.alloc (.cells #[.bool x, .slice a n c, .bool x', .slice a' n' c'] 61)).alloc (.cells #[.bool y, .slice e m k, .bool y', .slice e' m' k'] 61)) #[.bool false, .slice none 0 0, .bool false, .slice none 0 0] 61
    simpa using h
  have HK := hI (below3 w (.cells #[.bool x, .slice a n c, .bool x', .slice a' n' c'] 61) (.cells #[.bool y, .slice e m k, .bool y', .slice e' m' k'] 61) (.cells #[.bool false, .slice none 0 0, .bool false, .slice none 0 0] 61))
  have HS := hI (fun w' (hb : Below (((w.alloc (.cells #[.bool x, .slice a n c, .bool x', .slice a' n' c'] 61)).alloc (.cells #[.bool y, .slice e m k, .bool y', .slice e' m' k'] 61)).alloc (.cells #[.bool false, .slice none 0 0, .bool false, .slice none 0 0] 61)).heap.size (((w.alloc (.cells #[.bool x, .slice a n c, .bool x', .slice a' n' c'] 61)).alloc (.cells #[.bool y, .slice e m k, .bool y', .slice e' m' k'] 61)).alloc (.cells #[.bool false, .slice none 0 0, .bool false, .slice none 0 0] 61)) w') => And.intro (blk4v (hA.below hb)).1 (blk4v (hB.below hb)).1)
  have HR := hI hR
  have HP := hI (fun w' (hb : Below (((w.alloc (.cells #[.bool x, .slice a n c, .bool x', .slice a' n' c'] 61)).alloc (.cells #[.bool y, .slice e m k, .bool y', .slice e' m' k'] 61)).alloc (.cells #[.bool false, .slice none 0 0, .bool false, .slice none 0 0] 61)).heap.size (((w.alloc (.cells #[.bool x, .slice a n c, .bool x', .slice a' n' c'] 61)).alloc (.cells #[.bool y, .slice e m k, .bool y', .slice e' m' k'] 61)).alloc (.cells #[.bool false, .slice none 0 0, .bool false, .slice none 0 0] 61)) w') => And.intro ((h.mono HK.out).mono hb) ((h'.mono HK.out).mono hb))
  have HF := hI (And.intro (few_sz hz (by omega)) (few_sz hz' (by omega)))
  have hsp : s.num < 0 := by
    have h1 := (Rat.lt_iff _ _).1 hs
    simpa using h1
  have hsn : (s.num.natAbs : Int) = -s.num := by omega
  have hsg : ((s.num.sign : Int) == 0) = false := by rw [Int.sign_eq_neg_one_of_neg hsp]; rfl
  have H1 := hI (fun w' (hb : Below (((w.alloc (.cells #[.bool x, .slice a n c, .bool x', .slice a' n' c'] 61)).alloc (.cells #[.bool y, .slice e m k, .bool y', .slice e' m' k'] 61)).alloc (.cells #[.bool false, .slice none 0 0, .bool false, .slice none 0 0] 61)).heap.size (((w.alloc (.cells #[.bool x, .slice a n c, .bool x', .slice a' n' c'] 61)).alloc (.cells #[.bool y, .slice e m k, .bool y', .slice e' m' k'] 61)).alloc (.cells #[.bool false, .slice none 0 0, .bool false, .slice none 0 0] 61)) w') => rsign_any _ s.num q' w' (HP.out w' hb).2)
  have HDA := hI (fun w' (hb : Below (((w.alloc (.cells #[.bool x, .slice a n c, .bool x', .slice a' n' c'] 61)).alloc (.cells #[.bool y, .slice e m k, .bool y', .slice e' m' k'] 61)).alloc (.cells #[.bool false, .slice none 0 0, .bool false, .slice none 0 0] 61)).heap.size (((w.alloc (.cells #[.bool x, .slice a n c, .bool x', .slice a' n' c'] 61)).alloc (.cells #[.bool y, .slice e m k, .bool y', .slice e' m' k'] 61)).alloc (.cells #[.bool false, .slice none 0 0, .bool false, .slice none 0 0] 61)) w') => den_g _ r.num q w' (HP.out w' hb).1)
  have HDB := hI (fun w' (hb : Below (((w.alloc (.cells #[.bool x, .slice a n c, .bool x', .slice a' n' c'] 61)).alloc (.cells #[.bool y, .slice e m k, .bool y', .slice e' m' k'] 61)).alloc (.cells #[.bool false, .slice none 0 0, .bool false, .slice none 0 0] 61)).heap.size (((w.alloc (.cells #[.bool x, .slice a n c, .bool x', .slice a' n' c'] 61)).alloc (.cells #[.bool y, .slice e m k, .bool y', .slice e' m' k'] 61)).alloc (.cells #[.bool false, .slice none 0 0, .bool false, .slice none 0 0] 61)) w') => den_g _ s.num q' w' (HP.out w' hb).2)
  rw [hq] at HDA
  rw [hq'] at HDB
  have m1 := ten_mul hz.1 hz'.2
  have m3 := ten_mul hz.2 hz'.1
  have f1 : Few (r.num * (s.den : Int)).natAbs := limbs_ten (k := k1 + k2) (by rw [Int.natAbs_mul, Int.natAbs_natCast]; exact m1) (by omega)
  have H4 := hI (fun w' (hb : Below (((w.alloc (.cells #[.bool x, .slice a n c, .bool x', .slice a' n' c'] 61)).alloc (.cells #[.bool y, .slice e m k, .bool y', .slice e' m' k'] 61)).alloc (.cells #[.bool false, .slice none 0 0, .bool false, .slice none 0 0] 61)).heap.size (((w.alloc (.cells #[.bool x, .slice a n c, .bool x', .slice a' n' c'] 61)).alloc (.cells #[.bool y, .slice e m k, .bool y', .slice e' m' k'] 61)).alloc (.cells #[.bool false, .slice none 0 0, .bool false, .slice none 0 0] 61)) w') z (hr : IntV w' z (s.den : Int)) => mul_any _ z r.num (s.den : Int) w' (HP.out w' hb).1.parts.1 hr HF.out.1.1 HF.out.2.2.2)
  have H9 := hI (fun w' (hb : Below (((w.alloc (.cells #[.bool x, .slice a n c, .bool x', .slice a' n' c'] 61)).alloc (.cells #[.bool y, .slice e m k, .bool y', .slice e' m' k'] 61)).alloc (.cells #[.bool false, .slice none 0 0, .bool false, .slice none 0 0] 61)).heap.size (((w.alloc (.cells #[.bool x, .slice a n c, .bool x', .slice a' n' c'] 61)).alloc (.cells #[.bool y, .slice e m k, .bool y', .slice e' m' k'] 61)).alloc (.cells #[.bool false, .slice none 0 0, .bool false, .slice none 0 0] 61)) w') z (hr : IntV w' z (r.den : Int)) => mul_any z _ (r.den : Int) s.num w' hr (HP.out w' hb).2.parts.1 HF.out.1.2.2 HF.out.2.1)
  have H10 := hI (fun w' z z' (hr : IntV w' z (r.num * (s.den : Int))) (hr' : IntV w' z' ((r.den : Int) * s.num)) => reduced_n z z' _ (r.den * s.num.natAbs) w' hr (by rw [Int.natCast_mul, hsn, Int.mul_neg, Int.neg_neg]; exact hr') (Nat.mul_pos r.den_pos (by omega)) f1 (limbs_ten m3 (by omega)))
  rw [← rat_div_neg hs] at H10
  generalize s.num.sign = sg at *
  clear hA hB hR h h' hz hz' hq hq' hk m1 m3 f1 hsn hsp hs
  go_enter Tryz.func76, Tryz.ntmps76
  obtain ⟨⟨s0, s1, s2, s3⟩, t0, t1, t2, t3⟩ := HS.out _ (Below.refl _ _)
  go_wp2_with (go_at_call 23; refine (H1.out _ (Below.refl _ _)).mono ?_; rintro e w1 ⟨rfl, hb1⟩; have Hb1 := hI hb1; obtain ⟨⟨s0, s1, s2, s3⟩, t0, t1, t2, t3⟩ := HS.out _ hb1; clear hb1)
  refine wp_region_held_drew (S := (fun w' => w'.cell? ⟨w.heap.size, 0, none⟩ = some (.bool x) ∧ w'.cell? ⟨w.heap.size, 1, none⟩ = some (.slice a n c) ∧ w'.cell? ⟨w.heap.size, 2, none⟩ = some (.bool x') ∧ w'.cell? ⟨w.heap.size, 3, none⟩ = some (.slice a' n' c') ∧ w'.cell? ⟨w.heap.size + 1, 0, none⟩ = some (.bool y) ∧ w'.cell? ⟨w.heap.size + 1, 1, none⟩ = some (.slice e m k) ∧ w'.cell? ⟨w.heap.size + 1, 2, none⟩ = some (.bool y') ∧ w'.cell? ⟨w.heap.size + 1, 3, none⟩ = some (.slice e' m' k'))) (by kernel_rfl) (by exact (fun h => ⟨h.1.1, h.1.2.1, h.1.2.2.1, h.1.2.2.2, h.2⟩) (HS.out _ (Hb1.out.dn 1))) (fun hHeld => ?_)
  refine' tk 0 ?_; (try simp only [tkS]); refine' tk 1 ?_; (try simp only [tkS]); refine' tk 2 ?_; (try simp only [tkS]); refine' tk 5 ?_; (try simp only [tkS]); refine' tk 7 ?_; (try simp only [tkS]); refine' tk 8 ?_; (try simp only [tkS])
  refine tk1 3 (fun K hK => ?_)
  go_simp
  go_at_call 59
  refine (HDB.out _ (Hb1.out.dn 1)).mono ?_
  rintro e5 w3 ⟨v3, rfl, hv3, hb3⟩
  have Hb3 := hI (bw_via (Hb1.out.dn 1) hb3)
  obtain ⟨x31, a31, k31, c31, rfl, hv3⟩ := hv3.open
  have HO3 := hI hv3
  clear hv3
  clear hb3
  refine hK.out _ _ (by exact (fun h => ⟨h.1.1, h.1.2.1, h.1.2.2.1, h.1.2.2.2, h.2⟩) (HS.out _ (Hb3.out))) (fun hHeld => ?_)
  clear hK K; (try simp only [tkS])
  refine tk1 4 (fun K hK => ?_)
  go_simp
  go_at_call 58
  refine (H4.out _ (Hb3.out) _ HO3.out).mono ?_
  rintro e5 w4 ⟨v4, rfl, hv4, hb4⟩
  have HO3 := hI (HO3.out.mono hb4)
  have Hb4 := hI (bw_via (Hb3.out) hb4)
  obtain ⟨x41, a41, k41, c41, rfl, hv4⟩ := hv4.open
  have HO4 := hI hv4
  clear hv4
  clear hb4
  refine hK.out _ _ (by exact (fun h => ⟨h.1.1, h.1.2.1, h.1.2.2.1, h.1.2.2.2, h.2⟩) (HS.out _ (Hb4.out))) (fun hHeld => ?_)
  clear hK K; (try simp only [tkS])
  refine tk1 6 (fun K hK => ?_)
  go_simp
  go_at_call 59
  refine (HDA.out _ (Hb4.out)).mono ?_
  rintro e5 w6 ⟨v6, rfl, hv6, hb6⟩
  have HO3 := hI (HO3.out.mono hb6)
  have HO4 := hI (HO4.out.mono hb6)
  have Hb6 := hI (bw_via (Hb4.out) hb6)
  obtain ⟨x61, a61, k61, c61, rfl, hv6⟩ := hv6.open
  have HO6 := hI hv6
  clear hv6
  clear hb6
  refine hK.out _ _ (by exact (fun h => ⟨h.1.1, h.1.2.1, h.1.2.2.1, h.1.2.2.2, h.2⟩) (HS.out _ (Hb6.out))) (fun hHeld => ?_)
  clear hK K; (try simp only [tkS])
  refine tk1 9 (fun K hK => ?_)
  go_simp
  go_at_call 58
  refine (H9.out _ (Hb6.out) _ HO6.out).mono ?_
  rintro e5 w9 ⟨v9, rfl, hv9, hb9⟩
  have HO3 := hI (HO3.out.mono hb9)
  have HO4 := hI (HO4.out.mono hb9)
  have HO6 := hI (HO6.out.mono hb9)
  have Hb9 := hI (bw_via (Hb6.out) hb9)
  obtain ⟨x91, a91, k91, c91, rfl, hv9⟩ := hv9.open
  have HO9 := hI hv9
  clear hv9
  clear hb9
  refine hK.out _ _ (by exact (fun h => ⟨h.1.1, h.1.2.1, h.1.2.2.1, h.1.2.2.2, h.2⟩) (HS.out _ (Hb9.out))) (fun hHeld => ?_)
  clear hK K; (try simp only [tkS])
  refine tk1 10 (fun K hK => ?_)
  go_simp
  go_at_call 57
  refine (H10.out _ _ _ HO4.out HO9.out).mono ?_
  rintro e5 w10 ⟨v10, rfl, hv10, hb10⟩
  have HO3 := hI (HO3.out.mono hb10)
  have HO4 := hI (HO4.out.mono hb10)
  have HO6 := hI (HO6.out.mono hb10)
  have HO9 := hI (HO9.out.mono hb10)
  have Hb10 := hI (bw_via (Hb9.out) hb10)
  obtain ⟨x5, a5, n5, c5, x6, a6, n6, c6, rfl, hv10⟩ := hv10.open
  have HO10 := hI hv10
  clear hv10
  clear hb10
  refine hK.out _ _ (by exact (fun h => ⟨h.1.1, h.1.2.1, h.1.2.2.1, h.1.2.2.2, h.2⟩) (HS.out _ (Hb10.out))) (fun hHeld => ?_)
  clear hK K; (try simp only [tkS])
  refine tk1 11 (fun K hK => ?_)
  have Hbf := hI (Hb10.out)
  have hS9 := HS.out _ Hbf.out
  have hv := HO10.out
  have hr := HR.out.below Hbf.out
  have h4 := blk4v hr
  have r0 := h4.1.1
  have r1 := h4.1.2.1
  have r2 := h4.1.2.2.1
  have r3 := h4.1.2.2.2
  have f0 := h4.2.1
  have f1 := h4.2.2.1
  have f2 := h4.2.2.2.1
  have f3 := h4.2.2.2.2
  have h6 := RQ.put4 hv hr
  have Hv66 := hI h6.1
  have Hb66 := hI h6.2
  have Hbel := hI (put_below4 (b := w.heap.size + 1 + 1) (.bool x5) (.slice a5 n5 c5) (.bool x6) (.slice a6 n6 c6) (HK.out.via Hbf.out HK.out.size) (by omega))
  have HS9 := hI hS9
  clear h6 h4 hv hr hS9
  go_simp
  refine hK.out _ _ (by exact ⟨cell_far4 HS9.out.1.1 (show w.heap.size + 1 + 1 ≠ w.heap.size by omega), cell_far4 HS9.out.1.2.1 (show w.heap.size + 1 + 1 ≠ w.heap.size by omega), cell_far4 HS9.out.1.2.2.1 (show w.heap.size + 1 + 1 ≠ w.heap.size by omega), cell_far4 HS9.out.1.2.2.2 (show w.heap.size + 1 + 1 ≠ w.heap.size by omega), cell_far4 HS9.out.2.1 (show w.heap.size + 1 + 1 ≠ w.heap.size + 1 by omega), cell_far4 HS9.out.2.2.1 (show w.heap.size + 1 + 1 ≠ w.heap.size + 1 by omega), cell_far4 HS9.out.2.2.2.1 (show w.heap.size + 1 + 1 ≠ w.heap.size + 1 by omega), cell_far4 HS9.out.2.2.2.2 (show w.heap.size + 1 + 1 ≠ w.heap.size + 1 by omega)⟩) (fun hHeld => ?_)
  clear hK K; (try simp only [tkS])
  refine' tk 12 ?_; (try simp only [tkS])
  refine tkD ?_ _
  go_wp2_with fail
  obtain ⟨⟨q0, q1, q2, q3⟩, -⟩ := blk4v Hb66.out
  exact bodyPost_ret (v := .tuple #[.agg #[.bool x5, .slice a5 n5 c5, .bool x6, .slice a6 n6 c6], .int .i64 0]) (by simp [results, Tryz.results76, go_sem, q0, q1, q2, q3]) rfl ⟨_, rfl, ⟨_, rfl, Hv66.out⟩, Hbel.out⟩
theorem rdiv_z (u v : Value) (r s : Rat) (k1 k2 : Nat) (w : World) (h : RQ w u r) (h' : RQ w v s) (hz : Sz k1 r) (hz' : Sz k2 s) (hk : k1 + k2 ≤ 80000) (hs : s ≠ 0) : Calls Tryz.prog 76 #[u, v] w (RetP (fun x w' => ∃ r0, x = .tuple #[r0, .int .i64 0] ∧ RQ w' r0 (r / s)) w) := by
  rcases (Rat.le_total : (0 : Rat) ≤ s ∨ s ≤ 0) with h1 | h1
  · exact rdiv_g u v r s k1 k2 w h h' hz hz' hk (Rat.lt_of_le_of_ne h1 (Ne.symm hs))
  · exact rdiv_n u v r s k1 k2 w h h' hz hz' hk (Rat.lt_of_le_of_ne h1 hs)
end Go.Proofs.YtlcmhbkmpkcajaaGreatDoor
