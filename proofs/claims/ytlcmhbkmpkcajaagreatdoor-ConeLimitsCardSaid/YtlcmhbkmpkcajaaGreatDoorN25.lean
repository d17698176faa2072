/-
  Parts of the proof: Qo, Qrm.
-/
import Derived.Test.YtlcmhbkmpkcajaaGreatDoorN22
import Derived.Test.YtlcmhbkmpkcajaaGreatDoorN24
namespace Go.Proofs.YtlcmhbkmpkcajaaGreatDoor
open Go.RowKit
set_option maxHeartbeats 8000000 in
set_option maxRecDepth 10000 in
theorem ov1_g (u v : Value) (P : Nat) (r s p : Rat) (xp : Bool) (ap : Option Addr) (np cp : Nat) (yp : Bool) (ep : Option Addr) (lp dp : Nat) (k1 k2 : Nat) (w : World) (h : RQ w u r) (h' : RQ w v s) (hp : RQ w (.agg #[.bool xp, .slice ap np cp, .bool yp, .slice ep lp dp]) p) (hz : Sz k1 r) (hz' : Sz k2 p) (hk : k1 + k2 ≤ 80000) (hp0 : p ≠ 0) (hP : w.cell? ⟨P, 0, none⟩ = some (.bool xp) ∧ w.cell? ⟨P, 1, none⟩ = some (.slice ap np cp) ∧ w.cell? ⟨P, 2, none⟩ = some (.bool yp) ∧ w.cell? ⟨P, 3, none⟩ = some (.slice ep lp dp)) :
    Calls Tryz.prog 151 #[u, v, .pointer (some ⟨P, 0, none⟩)] w (RetP (fun z w' => RQ w' z (r / p)) w) := by
  obtain ⟨x1, a1, n1, c1, y1, e1, l1, d1, rfl, h⟩ := h.open
  obtain ⟨x2, a2, n2, c2, y2, e2, l2, d2, rfl, h'⟩ := h'.open
  obtain ⟨g0, g1, g2, g3⟩ := hP
  have hA : Blk (((w.alloc (.cells #[.bool x1, .slice a1 n1 c1, .bool y1, .slice e1 l1 d1] 61)).alloc (.cells #[.bool x2, .slice a2 n2 c2, .bool y2, .slice e2 l2 d2] 61)).alloc (.cells #[.bool false, .slice none 0 0, .bool false, .slice none 0 0] 61)) w.heap.size #[.bool x1, .slice a1 n1 c1, .bool y1, .slice e1 l1 d1] 61 := ((Blk.new w _ _).old _).old _
  have hR : Blk (((w.alloc (.cells #[.bool x1, .slice a1 n1 c1, .bool y1, .slice e1 l1 d1] 61)).alloc (.cells #[.bool x2, .slice a2 n2 c2, .bool y2, .slice e2 l2 d2] 61)).alloc (.cells #[.bool false, .slice none 0 0, .bool false, .slice none 0 0] 61)) (w.heap.size + 1 + 1) #[.bool false, .slice none 0 0, .bool false, .slice none 0 0] 61 := by
    have h := Blk.new ((w.alloc (.cells #[.bool x1, .slice a1 n1 c1, .bool y1, .slice e1 l1 d1] 61)).alloc (.cells #[.bool x2, .slice a2 n2 c2, .bool y2, .slice e2 l2 d2] 61)) #[.bool false, .slice none 0 0, .bool false, .slice none 0 0] 61
    simpa using h
  have HK := hI (below3 w (.cells #[.bool x1, .slice a1 n1 c1, .bool y1, .slice e1 l1 d1] 61) (.cells #[.bool x2, .slice a2 n2 c2, .bool y2, .slice e2 l2 d2] 61) (.cells #[.bool false, .slice none 0 0, .bool false, .slice none 0 0] 61))
  obtain ⟨i0, i1, i2, i3⟩ := cells4 hA (Below.refl _ _)
  have HR := hI hR
  have G0 := hI (cell_keep HK.out g0)
  have G1 := hI (cell_keep HK.out g1)
  have G2 := hI (cell_keep HK.out g2)
  have G3 := hI (cell_keep HK.out g3)
  obtain ⟨j0, j1, j2, j3⟩ := And.intro G0.out (And.intro G1.out (And.intro G2.out G3.out))
  have HDv := hI (fun w' (hb : Below (((w.alloc (.cells #[.bool x1, .slice a1 n1 c1, .bool y1, .slice e1 l1 d1] 61)).alloc (.cells #[.bool x2, .slice a2 n2 c2, .bool y2, .slice e2 l2 d2] 61)).alloc (.cells #[.bool false, .slice none 0 0, .bool false, .slice none 0 0] 61)).heap.size (((w.alloc (.cells #[.bool x1, .slice a1 n1 c1, .bool y1, .slice e1 l1 d1] 61)).alloc (.cells #[.bool x2, .slice a2 n2 c2, .bool y2, .slice e2 l2 d2] 61)).alloc (.cells #[.bool false, .slice none 0 0, .bool false, .slice none 0 0] 61)) w') => rdiv_z _ _ r p k1 k2 w' ((h.mono HK.out).mono hb) ((hp.mono HK.out).mono hb) hz hz' hk hp0)
  clear h h' hp hz hz' hk hp0 g0 g1 g2 g3 hA hR
  go_enter Tryz.func151, Tryz.ntmps151
  go_upto_region 1 with fail
  generalize (((w.alloc (.cells #[.bool x1, .slice a1 n1 c1, .bool y1, .slice e1 l1 d1] 61)).alloc (.cells #[.bool x2, .slice a2 n2 c2, .bool y2, .slice e2 l2 d2] 61)).alloc (.cells #[.bool false, .slice none 0 0, .bool false, .slice none 0 0] 61)) = W0 at *
  go_cut [6, 7] from 8 to 13 (fun s6 _ wx => ∃ (B : Nat) (xk : Bool) (ak : Option Addr) (nk ck : Nat) (yk : Bool) (ek : Option Addr) (lk dk : Nat), s6 = .pointer (some ⟨B, 0, none⟩) ∧ Below W0.heap.size W0 wx ∧ Blk wx B #[.bool xk, .slice ak nk ck, .bool yk, .slice ek lk dk] 61 ∧ Hid (RQ wx (.agg #[.bool xk, .slice ak nk ck, .bool yk, .slice ek lk dk]) (r / p)))
  case first =>
    go_wp2_with (go_at_call 76; refine (HDv.out _ (Below.refl _ _)).mono ?_; rintro e5 w13 ⟨v13, rfl, ⟨r0, rfl, hv13⟩, hb13⟩; obtain ⟨xk, ak, nk, ck, yk, ek, lk, dk, rfl, hv13⟩ := hv13.open; have Hb13 := hI hb13; have Hv13 := hI (hv13.mono (below1 w13 (.cells #[.bool xk, .slice ak nk ck, .bool yk, .slice ek lk dk] 61))); clear hv13 hb13)
    go_meet
    exact ⟨_, xk, ak, nk, ck, yk, ek, lk, dk, rfl, bwA Hb13.out _, Blk.new w13 _ _, Hv13.out⟩
  case rest =>
    obtain ⟨B, xk, ak, nk, ck, yk, ek, lk, dk, rfl, hbx, hB, hq⟩ := hcut
    obtain ⟨wx, rfl⟩ : ∃ W, W = wc := ⟨_, rfl⟩
    have hR := HR.out.below hbx
    obtain ⟨⟨r0, r1, r2, r3⟩, f0, f1, f2, f3⟩ := blk4v hR
    obtain ⟨⟨m0, m1, m2, m3⟩, -⟩ := blk4v hB
    obtain ⟨hv6, hb6⟩ := RQ.put4 hq.out hR
    have Hv6 := hI hv6
    have Hb6 := hI hb6
    have Hbel := hI (put_below4 (b := w.heap.size + 1 + 1) (.bool xk) (.slice ak nk ck) (.bool yk) (.slice ek lk dk) (HK.out.via hbx HK.out.size) (by omega))
    clear hv6 hb6 hR hB hq hbx
    go_wp2_with fail
    obtain ⟨⟨q0, q1, q2, q3⟩, -⟩ := blk4v Hb6.out
    exact bodyPost_ret (v := .agg #[.bool xk, .slice ak nk ck, .bool yk, .slice ek lk dk]) (by simp [results, Tryz.results151, go_sem, q0, q1, q2, q3]) rfl ⟨_, rfl, Hv6.out, Hbel.out⟩
set_option maxHeartbeats 8000000 in
set_option maxRecDepth 10000 in
theorem le1_g (u v : Value) (P : Nat) (r s p : Rat) (xp : Bool) (ap : Option Addr) (np cp : Nat) (yp : Bool) (ep : Option Addr) (lp dp : Nat) (k1 k2 k3 : Nat) (w : World) (h : RQ w u r) (h' : RQ w v s) (hp : RQ w (.agg #[.bool xp, .slice ap np cp, .bool yp, .slice ep lp dp]) p) (hz : Sz k1 r) (hz' : Sz k2 s) (hzp : Sz k3 p) (hk : k1 + k2 + k3 ≤ 80000) (hP : w.cell? ⟨P, 0, none⟩ = some (.bool xp) ∧ w.cell? ⟨P, 1, none⟩ = some (.slice ap np cp) ∧ w.cell? ⟨P, 2, none⟩ = some (.bool yp) ∧ w.cell? ⟨P, 3, none⟩ = some (.slice ep lp dp)) :
    Calls Tryz.prog 152 #[u, v, .pointer (some ⟨P, 0, none⟩)] w (RetP (fun z w' => RQ w' z (r - s * p)) w) := by
  obtain ⟨x1, a1, n1, c1, y1, e1, l1, d1, rfl, h⟩ := h.open
  obtain ⟨x2, a2, n2, c2, y2, e2, l2, d2, rfl, h'⟩ := h'.open
  obtain ⟨g0, g1, g2, g3⟩ := hP
  have hA : Blk (((w.alloc (.cells #[.bool x1, .slice a1 n1 c1, .bool y1, .slice e1 l1 d1] 61)).alloc (.cells #[.bool x2, .slice a2 n2 c2, .bool y2, .slice e2 l2 d2] 61)).alloc (.cells #[.bool false, .slice none 0 0, .bool false, .slice none 0 0] 61)) w.heap.size #[.bool x1, .slice a1 n1 c1, .bool y1, .slice e1 l1 d1] 61 := ((Blk.new w _ _).old _).old _
  have hB : Blk (((w.alloc (.cells #[.bool x1, .slice a1 n1 c1, .bool y1, .slice e1 l1 d1] 61)).alloc (.cells #[.bool x2, .slice a2 n2 c2, .bool y2, .slice e2 l2 d2] 61)).alloc (.cells #[.bool false, .slice none 0 0, .bool false, .slice none 0 0] 61)) (w.heap.size + 1) #[.bool x2, .slice a2 n2 c2, .bool y2, .slice e2 l2 d2] 61 := by
    have h := (Blk.new (w.alloc (.cells #[.bool x1, .slice a1 n1 c1, .bool y1, .slice e1 l1 d1] 61)) #[.bool x2, .slice a2 n2 c2, .bool y2, .slice e2 l2 d2] 61).old (.cells #[.bool false, .slice none 0 0, .bool false, .slice none 0 0] 61)
    simpa using h
  have hR : Blk (((w.alloc (.cells #[.bool x1, .slice a1 n1 c1, .bool y1, .slice e1 l1 d1] 61)).alloc (.cells #[.bool x2, .slice a2 n2 c2, .bool y2, .slice e2 l2 d2] 61)).alloc (.cells #[.bool false, .slice none 0 0, .bool false, .slice none 0 0] 61)) (w.heap.size + 1 + 1) #[.bool false, .slice none 0 0, .bool false, .slice none 0 0] 61 := by
    have h := Blk.new ((w.alloc (.cells #[.bool x1, .slice a1 n1 c1, .bool y1, .slice e1 l1 d1] 61)).alloc (.cells #[.bool x2, .slice a2 n2 c2, .bool y2, .slice e2 l2 d2] 61)) #[.bool false, .slice none 0 0, .bool false, .slice none 0 0] 61
    simpa using h
  have HK := hI (below3 w (.cells #[.bool x1, .slice a1 n1 c1, .bool y1, .slice e1 l1 d1] 61) (.cells #[.bool x2, .slice a2 n2 c2, .bool y2, .slice e2 l2 d2] 61) (.cells #[.bool false, .slice none 0 0, .bool false, .slice none 0 0] 61))
  obtain ⟨i0, i1, i2, i3⟩ := cells4 hB (Below.refl _ _)
  have HR := hI hR
  have HA := hI hA
  have HS := hI (fun w' (hb : Below (((w.alloc (.cells #[.bool x1, .slice a1 n1 c1, .bool y1, .slice e1 l1 d1] 61)).alloc (.cells #[.bool x2, .slice a2 n2 c2, .bool y2, .slice e2 l2 d2] 61)).alloc (.cells #[.bool false, .slice none 0 0, .bool false, .slice none 0 0] 61)).heap.size (((w.alloc (.cells #[.bool x1, .slice a1 n1 c1, .bool y1, .slice e1 l1 d1] 61)).alloc (.cells #[.bool x2, .slice a2 n2 c2, .bool y2, .slice e2 l2 d2] 61)).alloc (.cells #[.bool false, .slice none 0 0, .bool false, .slice none 0 0] 61)) w') => show (fun w' => w'.cell? ⟨w.heap.size, 0, none⟩ = some (.bool x1) ∧ w'.cell? ⟨w.heap.size, 1, none⟩ = some (.slice a1 n1 c1) ∧ w'.cell? ⟨w.heap.size, 2, none⟩ = some (.bool y1) ∧ w'.cell? ⟨w.heap.size, 3, none⟩ = some (.slice e1 l1 d1) ∧ w'.cell? ⟨P, 0, none⟩ = some (.bool xp) ∧ w'.cell? ⟨P, 1, none⟩ = some (.slice ap np cp) ∧ w'.cell? ⟨P, 2, none⟩ = some (.bool yp) ∧ w'.cell? ⟨P, 3, none⟩ = some (.slice ep lp dp) ∧ w'.cell? ⟨w.heap.size + 1, 0, none⟩ = some (.bool x2) ∧ w'.cell? ⟨w.heap.size + 1, 1, none⟩ = some (.slice a2 n2 c2) ∧ w'.cell? ⟨w.heap.size + 1, 2, none⟩ = some (.bool y2) ∧ w'.cell? ⟨w.heap.size + 1, 3, none⟩ = some (.slice e2 l2 d2)) w' from by
    obtain ⟨p0, p1, p2, p3⟩ := cells4 hA hb
    obtain ⟨q0, q1, q2, q3⟩ := cells4 hB hb
    exact ⟨p0, p1, p2, p3, cell_keep hb (cell_keep HK.out g0), cell_keep hb (cell_keep HK.out g1), cell_keep hb (cell_keep HK.out g2), cell_keep hb (cell_keep HK.out g3), q0, q1, q2, q3⟩)
  have HX := hI (fun w' (hb : Below (((w.alloc (.cells #[.bool x1, .slice a1 n1 c1, .bool y1, .slice e1 l1 d1] 61)).alloc (.cells #[.bool x2, .slice a2 n2 c2, .bool y2, .slice e2 l2 d2] 61)).alloc (.cells #[.bool false, .slice none 0 0, .bool false, .slice none 0 0] 61)).heap.size (((w.alloc (.cells #[.bool x1, .slice a1 n1 c1, .bool y1, .slice e1 l1 d1] 61)).alloc (.cells #[.bool x2, .slice a2 n2 c2, .bool y2, .slice e2 l2 d2] 61)).alloc (.cells #[.bool false, .slice none 0 0, .bool false, .slice none 0 0] 61)) w') => (h.mono HK.out).mono hb)
  have HSg := hI (show Calls Tryz.prog 23 #[.agg #[.bool x2, .slice a2 n2 c2, .bool y2, .slice e2 l2 d2]] (((w.alloc (.cells #[.bool x1, .slice a1 n1 c1, .bool y1, .slice e1 l1 d1] 61)).alloc (.cells #[.bool x2, .slice a2 n2 c2, .bool y2, .slice e2 l2 d2] 61)).alloc (.cells #[.bool false, .slice none 0 0, .bool false, .slice none 0 0] 61)) (Ret (.int .i64 s.num.sign) (((w.alloc (.cells #[.bool x1, .slice a1 n1 c1, .bool y1, .slice e1 l1 d1] 61)).alloc (.cells #[.bool x2, .slice a2 n2 c2, .bool y2, .slice e2 l2 d2] 61)).alloc (.cells #[.bool false, .slice none 0 0, .bool false, .slice none 0 0] 61))) from by
    obtain ⟨q, h, -⟩ := h'.mono HK.out
    exact rsign_any _ s.num q _ h)
  have HMl := hI (fun w' (hb : Below (((w.alloc (.cells #[.bool x1, .slice a1 n1 c1, .bool y1, .slice e1 l1 d1] 61)).alloc (.cells #[.bool x2, .slice a2 n2 c2, .bool y2, .slice e2 l2 d2] 61)).alloc (.cells #[.bool false, .slice none 0 0, .bool false, .slice none 0 0] 61)).heap.size (((w.alloc (.cells #[.bool x1, .slice a1 n1 c1, .bool y1, .slice e1 l1 d1] 61)).alloc (.cells #[.bool x2, .slice a2 n2 c2, .bool y2, .slice e2 l2 d2] 61)).alloc (.cells #[.bool false, .slice none 0 0, .bool false, .slice none 0 0] 61)) w') => rmul_g _ _ p s k3 k2 w' ((hp.mono HK.out).mono hb) ((h'.mono HK.out).mono hb) hzp hz' (by omega))
  have HSb := hI (fun w' z (hb : Below (((w.alloc (.cells #[.bool x1, .slice a1 n1 c1, .bool y1, .slice e1 l1 d1] 61)).alloc (.cells #[.bool x2, .slice a2 n2 c2, .bool y2, .slice e2 l2 d2] 61)).alloc (.cells #[.bool false, .slice none 0 0, .bool false, .slice none 0 0] 61)).heap.size (((w.alloc (.cells #[.bool x1, .slice a1 n1 c1, .bool y1, .slice e1 l1 d1] 61)).alloc (.cells #[.bool x2, .slice a2 n2 c2, .bool y2, .slice e2 l2 d2] 61)).alloc (.cells #[.bool false, .slice none 0 0, .bool false, .slice none 0 0] 61)) w') (hv : RQ w' z (p * s)) => rsub_g _ z r (p * s) k1 (k3 + k2) w' (HX.out w' hb) hv hz (hzp.mul hz') (by omega))
  rw [Rat.mul_comm p s] at HMl HSb
  by_cases hs : s.num.sign = 0
  · have hs0 : s = 0 := by rwa [Int.sign_eq_zero_iff_zero, Rat.num_eq_zero] at hs
    have hres : r = r - s * p := by rw [hs0, Rat.zero_mul, Rat.sub_eq_add_neg, Rat.neg_zero, Rat.add_zero]
    rw [← hres]
    clear hres HMl HSb h h' hp hz hz' hzp hk g0 g1 g2 g3 hA hB hR hs0
    go_enter Tryz.func152, Tryz.ntmps152
    go_upto_region 1 with fail
    generalize (((w.alloc (.cells #[.bool x1, .slice a1 n1 c1, .bool y1, .slice e1 l1 d1] 61)).alloc (.cells #[.bool x2, .slice a2 n2 c2, .bool y2, .slice e2 l2 d2] 61)).alloc (.cells #[.bool false, .slice none 0 0, .bool false, .slice none 0 0] 61)) = W0 at *
    go_wp2_with (go_at_call 23; refine (HSg.out).mono ?_; rintro e5 w2 ⟨rfl, hb2⟩; have hR2 := HR.out.below hb2; obtain ⟨⟨r0, r1, r2, r3⟩, f0, f1, f2, f3⟩ := blk4v hR2; obtain ⟨m0, m1, m2, m3⟩ := cells4 HA.out hb2; obtain ⟨hv6, hb6⟩ := RQ.put4 (HX.out _ hb2) hR2; have Hv6 := hI hv6; have Hb6 := hI hb6; have Hbel := hI (put_below4 (b := w.heap.size + 1 + 1) (.bool x1) (.slice a1 n1 c1) (.bool y1) (.slice e1 l1 d1) (HK.out.via hb2 HK.out.size) (by omega)); clear hv6 hb6 hR2 hb2)
    obtain ⟨⟨q0, q1, q2, q3⟩, -⟩ := blk4v Hb6.out
    exact bodyPost_ret (v := .agg #[.bool x1, .slice a1 n1 c1, .bool y1, .slice e1 l1 d1]) (by simp [results, Tryz.results152, go_sem, q0, q1, q2, q3]) rfl ⟨_, rfl, Hv6.out, Hbel.out⟩
  · clear h h' hp hz hz' hzp hk g0 g1 g2 g3 hA hB hR
    go_enter Tryz.func152, Tryz.ntmps152
    go_upto_region 1 with fail
    generalize (((w.alloc (.cells #[.bool x1, .slice a1 n1 c1, .bool y1, .slice e1 l1 d1] 61)).alloc (.cells #[.bool x2, .slice a2 n2 c2, .bool y2, .slice e2 l2 d2] 61)).alloc (.cells #[.bool false, .slice none 0 0, .bool false, .slice none 0 0] 61)) = W0 at *
    go_wp2_with (go_at_call 23; refine (HSg.out).mono ?_; rintro e5 w2 ⟨rfl, hb2⟩; have Hb2 := hI hb2; clear hb2)
    refine wp_region_pop (S := (fun w' => w'.cell? ⟨w.heap.size, 0, none⟩ = some (.bool x1) ∧ w'.cell? ⟨w.heap.size, 1, none⟩ = some (.slice a1 n1 c1) ∧ w'.cell? ⟨w.heap.size, 2, none⟩ = some (.bool y1) ∧ w'.cell? ⟨w.heap.size, 3, none⟩ = some (.slice e1 l1 d1) ∧ w'.cell? ⟨P, 0, none⟩ = some (.bool xp) ∧ w'.cell? ⟨P, 1, none⟩ = some (.slice ap np cp) ∧ w'.cell? ⟨P, 2, none⟩ = some (.bool yp) ∧ w'.cell? ⟨P, 3, none⟩ = some (.slice ep lp dp) ∧ w'.cell? ⟨w.heap.size + 1, 0, none⟩ = some (.bool x2) ∧ w'.cell? ⟨w.heap.size + 1, 1, none⟩ = some (.slice a2 n2 c2) ∧ w'.cell? ⟨w.heap.size + 1, 2, none⟩ = some (.bool y2) ∧ w'.cell? ⟨w.heap.size + 1, 3, none⟩ = some (.slice e2 l2 d2))) 5 (by kernel_rfl) (by kernel_rfl) (by exact (HS.out _ (Hb2.out.dn 1))) (fun hHeld => ?_)
    simp only [List.take_succ_cons, List.take_zero, List.drop_succ_cons, List.drop_zero]
    refine' tk 0 ?_; (try simp only [tkS]); refine' tk 1 ?_; (try simp only [tkS]); refine' tk 2 ?_; (try simp only [tkS])
    refine tk1 3 (fun K hK => ?_)
    go_simp
    go_at_call 33
    refine (HMl.out _ (Hb2.out.dn 1)).mono ?_
    rintro e5 w13 ⟨v13, rfl, hv13, hb13⟩
    have Hb13 := hI (bw_via (Hb2.out.dn 1) hb13)
    have Hv13 := hI hv13
    clear hv13 hb13
    refine hK.out _ _ (by exact (HS.out _ (Hb13.out))) (fun hHeld => ?_)
    clear hK K; (try simp only [tkS])
    refine tk1 4 (fun K hK => ?_)
    go_simp
    go_at_call 153
    refine (HSb.out _ _ (Hb13.out) Hv13.out).mono ?_
    rintro e5 w14 ⟨v14, rfl, hv14, hb14⟩
    have Hb14 := hI (bw_via (Hb13.out) hb14)
    obtain ⟨xk, ak, nk, ck, yk, ek, lk, dk, rfl, hv14⟩ := hv14.open
    have Hv14 := hI hv14
    clear hv14 hb14
    refine hK.out _ _ (by exact (HS.out _ (Hb14.out))) (fun hHeld => ?_)
    clear hK K; (try simp only [tkS])
    refine tkD ?_ _
    simp only [Exit.then]
    have hR2 := HR.out.below (Hb14.out)
    obtain ⟨⟨r0, r1, r2, r3⟩, f0, f1, f2, f3⟩ := blk4v hR2
    obtain ⟨hv6, hb6⟩ := RQ.put4 Hv14.out hR2
    have Hv6 := hI hv6
    have Hb6 := hI hb6
    have Hbel := hI (put_below4 (b := w.heap.size + 1 + 1) (.bool xk) (.slice ak nk ck) (.bool yk) (.slice ek lk dk) (HK.out.via (Hb14.out) HK.out.size) (by omega))
    clear hv6 hb6 hR2
    go_wp2_with fail
    obtain ⟨⟨q0, q1, q2, q3⟩, -⟩ := blk4v Hb6.out
    exact bodyPost_ret (v := .agg #[.bool xk, .slice ak nk ck, .bool yk, .slice ek lk dk]) (by simp [results, Tryz.results152, go_sem, q0, q1, q2, q3]) rfl ⟨_, rfl, Hv6.out, Hbel.out⟩
set_option maxHeartbeats 2000000 in
theorem over_g (u kv : Value) (a : List Rat) (k : Rat) (n K L : Nat) (w : World) (h : QV w u a) (hk : RQ w kv k) (ha : a.length = n) (hn : n ≤ 1000) (hz : ∀ x ∈ a, Sz K x) (hzk : Sz L k) (hKL : K + L ≤ 80000) (hk0 : k ≠ 0) :
    Calls Tryz.prog 119 #[u, kv] w (RetP (fun x w' => QV w' x (overV a k) ∧ ∀ b, x.ownBlock = some b → w.heap.size < b) w) := by
  obtain ⟨xp, ap, np, cp, yp, ep, lp, dp, rfl, hk⟩ := hk.open
  have hb1 := below1 w (.cells #[.bool xp, .slice ap np cp, .bool yp, .slice ep lp dp] 61)
  have hC := cells4 (Blk.new w #[.bool xp, .slice ap np cp, .bool yp, .slice ep lp dp] 61) (Below.refl _ _)
  have HE := hI (each_g 151 ⟨w.heap.size, 0, none⟩ (enters_of Tryz.func151 (by kernel_rfl) rfl) u u a a (fun r _ => r / k) n (w.alloc (.cells #[.bool xp, .slice ap np cp, .bool yp, .slice ep lp dp] 61)) (h.mono hb1) (h.mono hb1) ha ha hn (fun i r s hr hs w' x y hb hx hy =>
    ov1_g x y w.heap.size r s k xp ap np cp yp ep lp dp K L w' hx hy ((hk.mono hb1).mono hb) (hz r (List.mem_of_getElem? hr)) hzk hKL hk0 ⟨cell_keep hb hC.1, cell_keep hb hC.2.1, cell_keep hb hC.2.2.1, cell_keep hb hC.2.2.2⟩))
  have HO := hI (show List.zipWith (fun r _ => r / k) a a = overV a k from List.zipWith_self)
  rw [HO.out] at HE
  have HB := hI hb1
  obtain ⟨ad, cap, rfl, -, -⟩ := h.open
  clear h hk ha hz hzk hk0 hC hb1 HO
  go_enter Tryz.func119, Tryz.ntmps119
  go_wp2_with (go_at_call 150; refine (HE.out).mono ?_; rintro e5 w2 ⟨v2, rfl, ⟨hv2, hf2⟩, hb2⟩; have Hv2 := hI hv2; have Hf2 := hI hf2; have Hb2 := hI hb2; clear hv2 hb2 hf2)
  go_ret
  exact ⟨_, rfl, ⟨Hv2.out, fun b hb => by have := Hf2.out b hb; simp at this; omega⟩, HB.out.via Hb2.out HB.out.size⟩
set_option maxHeartbeats 2000000 in
theorem less_g (u v kv : Value) (a b : List Rat) (k : Rat) (n K1 K2 L : Nat) (w : World) (h : QV w u a) (h' : QV w v b) (hk : RQ w kv k) (ha : a.length = n) (hb' : b.length = n) (hn : n ≤ 1000) (hz : ∀ x ∈ a, Sz K1 x) (hz' : ∀ x ∈ b, Sz K2 x) (hzk : Sz L k) (hKL : K1 + K2 + L ≤ 80000) :
    Calls Tryz.prog 120 #[u, v, kv] w (RetP (fun x w' => QV w' x (lessV a b k) ∧ ∀ b, x.ownBlock = some b → w.heap.size < b) w) := by
  obtain ⟨xp, ap, np, cp, yp, ep, lp, dp, rfl, hk⟩ := hk.open
  have hb1 := below1 w (.cells #[.bool xp, .slice ap np cp, .bool yp, .slice ep lp dp] 61)
  have hC := cells4 (Blk.new w #[.bool xp, .slice ap np cp, .bool yp, .slice ep lp dp] 61) (Below.refl _ _)
  have HE := hI (each_g 152 ⟨w.heap.size, 0, none⟩ (enters_of Tryz.func152 (by kernel_rfl) rfl) u v a b (fun r s => r - s * k) n (w.alloc (.cells #[.bool xp, .slice ap np cp, .bool yp, .slice ep lp dp] 61)) (h.mono hb1) (h'.mono hb1) ha hb' hn (fun i r s hr hs w' x y hb hx hy =>
    le1_g x y w.heap.size r s k xp ap np cp yp ep lp dp K1 K2 L w' hx hy ((hk.mono hb1).mono hb) (hz r (List.mem_of_getElem? hr)) (hz' s (List.mem_of_getElem? hs)) hzk hKL ⟨cell_keep hb hC.1, cell_keep hb hC.2.1, cell_keep hb hC.2.2.1, cell_keep hb hC.2.2.2⟩))
  have HO := hI (show List.zipWith (fun r s => r - s * k) a b = lessV a b k from rfl)
  rw [HO.out] at HE
  have HB := hI hb1
  obtain ⟨ad, cap, rfl, -, -⟩ := h.open
  obtain ⟨ad', cap', rfl, -, -⟩ := h'.open
  clear h h' hk ha hb' hz hz' hzk hC hb1 HO
  go_enter Tryz.func120, Tryz.ntmps120
  go_wp2_with (go_at_call 150; refine (HE.out).mono ?_; rintro e5 w2 ⟨v2, rfl, ⟨hv2, hf2⟩, hb2⟩; have Hv2 := hI hv2; have Hf2 := hI hf2; have Hb2 := hI hb2; clear hv2 hb2 hf2)
  go_ret
  exact ⟨_, rfl, ⟨Hv2.out, fun b hb => by have := Hf2.out b hb; simp at this; omega⟩, HB.out.via Hb2.out HB.out.size⟩
end Go.Proofs.YtlcmhbkmpkcajaaGreatDoor
namespace Go.Proofs.YtlcmhbkmpkcajaaGreatDoor
open Go.RowKit
theorem keep4 {w : World} {b : Nat} {cs : Array Value} {e : TypeId} (h : Blk w b cs e) (u0 u1 u2 u3 : Value) : Keep (fun T => T ≠ e) w ((((w.setCell ⟨b, 0, none⟩ u0).setCell ⟨b, 1, none⟩ u1).setCell ⟨b, 2, none⟩ u2).setCell ⟨b, 3, none⟩ u3) :=
  (((Keep.set h (fun k => k rfl) 0 u0).trans (Keep.set (h.set 0 u0) (fun k => k rfl) 1 u1)).trans (Keep.set ((h.set 0 u0).set 1 u1) (fun k => k rfl) 2 u2)).trans (Keep.set (((h.set 0 u0).set 1 u1).set 2 u2) (fun k => k rfl) 3 u3)
theorem QV.put4 {w : World} {p : Value} {a : List Rat} {D : Nat} {cs : Array Value} (h : QV w p a) (hB : Blk w D cs 61) (hD : p.ownBlock ≠ some D) (u0 u1 u2 u3 : Value) :
    QV ((((w.setCell ⟨D, 0, none⟩ u0).setCell ⟨D, 1, none⟩ u1).setCell ⟨D, 2, none⟩ u2).setCell ⟨D, 3, none⟩ u3) p a := by
  obtain ⟨rows, hl, hS, hA, hq⟩ := h
  have hne : ∀ k, p.ownBlock = some k → k ≠ D := fun k hk e => hD (by rw [hk, e])
  refine ⟨rows, hl, (((hS.set (p := ⟨D, 0, none⟩) hne u0).set (p := ⟨D, 1, none⟩) hne u1).set (p := ⟨D, 2, none⟩) hne u2).set (p := ⟨D, 3, none⟩) hne u3, ?_, fun k row r hr hs => (hq k row r hr hs).keep (keep4 hB u0 u1 u2 u3) (by decide)⟩
  intro q n c hv
  obtain ⟨xs, hx⟩ := hA q n c hv
  have hq' : q.block ≠ D := hne q.block (by rw [hv]; rfl)
  exact ⟨xs, (((hx.other (p := ⟨D, 0, none⟩) hq' u0).other (p := ⟨D, 1, none⟩) hq' u1).other (p := ⟨D, 2, none⟩) hq' u2).other (p := ⟨D, 3, none⟩) hq' u3⟩
def OM (M D : Nat) (w : World) (o : Value) (m : List (List Rat)) : Prop := ∃ ps : List Value, ps.length = m.length ∧ w.ownsRow M 46 1 o m.length ps ∧ ∀ (k : Nat) (p : Value) (a : List Rat), ps[k]? = some p → m[k]? = some a → QV w p a ∧ p.ownBlock ≠ some D ∧ p.ownBlock ≠ some M
theorem OM.ov {M D : Nat} {w : World} {o : Value} {m : List (List Rat)} (h : OM M D w o m) : OV M w o m := by
  obtain ⟨ps, hl, ho, hq⟩ := h
  exact ⟨ps, hl, ho, fun k p a h1 h2 => (hq k p a h1 h2).1⟩
theorem OVL.om {M : Nat} {w : World} {o : Value} {m : List (List Rat)} (h : OVL M M w o m) (ob : Obj) : OM M w.heap.size (w.alloc ob) o m := by
  obtain ⟨ps, hl, ho, hq⟩ := h
  refine ⟨ps, hl, own_below ho (below1 w ob), fun k p a h1 h2 => ⟨(hq k p a h1 h2).1.mono (below1 w ob), fun e => ?_, fun e => ?_⟩⟩
  · have := (hq k p a h1 h2).1.lt _ e
    omega
  · have := (hq k p a h1 h2).2 _ e
    omega
theorem OM.keep {ok : TypeId → Prop} {M D : Nat} {w w' : World} {o : Value} {m : List (List Rat)} (h : OM M D w o m) (hk : Keep ok w w') (h1 : ok 110) (h2 : ok 61) (h3 : ok 46) : OM M D w' o m := by
  obtain ⟨ps, hl, ho, hq⟩ := h
  exact ⟨ps, hl, own_keep ho hk h3, fun k p a hp hv => ⟨(hq k p a hp hv).1.keep hk h1 h2, (hq k p a hp hv).2⟩⟩
theorem OM.below {M D : Nat} {w w' : World} {o : Value} {m : List (List Rat)} (h : OM M D w o m) (hb : Below w.heap.size w w') : OM M D w' o m := h.keep (ok := fun _ => True) (.below hb) trivial trivial trivial
theorem OM.put4 {M D E : Nat} {w : World} {o : Value} {m : List (List Rat)} {cs : Array Value} (h : OM M D w o m) (hB : Blk w E cs 61) (hE : E = D ∨ E = M) (u0 u1 u2 u3 : Value) :
    OM M D ((((w.setCell ⟨E, 0, none⟩ u0).setCell ⟨E, 1, none⟩ u1).setCell ⟨E, 2, none⟩ u2).setCell ⟨E, 3, none⟩ u3) o m := by
  obtain ⟨ps, hl, ho, hq⟩ := h
  exact ⟨ps, hl, own_keep ho (keep4 hB u0 u1 u2 u3) (by decide), fun k p a hp hv => ⟨(hq k p a hp hv).1.put4 hB (by rcases hE with rfl | rfl; exact (hq k p a hp hv).2.1; exact (hq k p a hp hv).2.2) u0 u1 u2 u3, (hq k p a hp hv).2⟩⟩
theorem OM.open {M D : Nat} {w : World} {o : Value} {m : List (List Rat)} (h : OM M D w o m) : ∃ a cap, o = .slice a m.length cap ∧ m.length ≤ cap ∧ cap ≤ maxLen ∧ (0 < m.length → ∃ G, a = some ⟨G, 0, none⟩) := by
  obtain ⟨ps, hl, ho, hq⟩ := h
  obtain ⟨a, cap, rfl, h1, h2⟩ := own_open ho
  exact ⟨a, cap, rfl, h1, h2, fun hn => own_some ho hn⟩
theorem OM.cell {M D G N cap : Nat} {w : World} {m : List (List Rat)} (h : OM M D w (.slice (some ⟨G, 0, none⟩) N cap) m) {J : Nat} (hJ : J < N) :
    ∃ p x, m[J]? = some x ∧ w.cell? ⟨G, J, none⟩ = some p ∧ w.frozen? ⟨G, J, none⟩ = false ∧ QV w p x ∧ p.ownBlock ≠ some D ∧ p.ownBlock ≠ some M := by
  obtain ⟨ps, hl, ho, hq⟩ := h
  obtain ⟨a, c, hv, -, -⟩ := own_open ho
  have hm : m.length = N := by cases hv; rfl
  rw [hm] at ho
  have hJp : J < ps.length := by omega
  have hJm : J < m.length := by omega
  have h1 := ho.cellAt J (by omega)
  rw [List.getElem?_eq_getElem hJp] at h1
  obtain ⟨q1, q2⟩ := hq J _ _ (List.getElem?_eq_getElem hJp) (List.getElem?_eq_getElem hJm)
  exact ⟨_, _, List.getElem?_eq_getElem hJm, h1, ho.frozenAt J, q1, q2⟩
theorem OM.set {M D G N cap : Nat} {w : World} {m : List (List Rat)} {p : Value} {x : List Rat} (h : OM M D w (.slice (some ⟨G, 0, none⟩) N cap) m) (hp : QV w p x) (hD : p.ownBlock ≠ some D ∧ p.ownBlock ≠ some M) (J : Nat) :
    OM M D (w.setCell ⟨G, J, none⟩ p) (.slice (some ⟨G, 0, none⟩) N cap) (m.set J x) ∧ Keep (fun T => T ≠ 46) w (w.setCell ⟨G, J, none⟩ p) := by
  obtain ⟨ps, hl, ho, hq⟩ := h
  obtain ⟨a, c, hv, -, -⟩ := own_open ho
  have hm : m.length = N := by cases hv; rfl
  rw [hm] at ho
  obtain ⟨s1, s2⟩ := ho.stored J p
  have hk : Keep (fun T => T ≠ 46) w (w.setCell ⟨G, J, none⟩ p) := Keep.grown ho (fun k => k rfl) s2
  refine ⟨⟨ps.set J p, by simp [hl], by rw [List.length_set, hm]; exact s1, fun k q b hq1 hv1 => ?_⟩, hk⟩
  rw [List.getElem?_set] at hq1 hv1
  split at hq1
  · next e =>
    subst e
    split at hq1
    · cases hq1
      rw [if_pos rfl] at hv1
      split at hv1
      · cases hv1
        exact ⟨hp.keep hk (by decide) (by decide), hD⟩
      · cases hv1
    · cases hq1
  · next e =>
    rw [if_neg e] at hv1
    exact ⟨(hq k q b hq1 hv1).1.keep hk (by decide) (by decide), (hq k q b hq1 hv1).2⟩
def pvs (l : List Nat) : List Value := l.map fun k : Nat => .int .i64 (k : Int)
def OP (M : Nat) (w : World) (v : Value) (l : List Nat) : Prop := w.ownsRow M 3 1 v l.length (pvs l)
theorem OP.keep {ok : TypeId → Prop} {M : Nat} {w w' : World} {v : Value} {l : List Nat} (h : OP M w v l) (hk : Keep ok w w') (h1 : ok 3) : OP M w' v l := own_keep h hk h1
theorem OP.below {M : Nat} {w w' : World} {v : Value} {l : List Nat} (h : OP M w v l) (hb : Below w.heap.size w w') : OP M w' v l := own_below h hb
theorem OP.open {M : Nat} {w : World} {v : Value} {l : List Nat} (h : OP M w v l) : ∃ a cap, v = .slice a l.length cap ∧ l.length ≤ cap ∧ cap ≤ maxLen := own_open h
theorem EI1 : ElemTy 95 3 1 8 := ⟨Tryz.underlying95, by kernel_rfl⟩
structure RS (w wr : World) (D : Nat) (cs : Array Value) (o pv : Value) (m : List (List Rat)) (piv : List Nat) (Kz : Nat) : Prop where
  det : ∃ z, RQ wr (.agg cs) z ∧ Sz Kz z
  blk : Blk wr D cs 61
  res : Blk wr w.heap.size #[.bool false, .slice none 0 0, .bool false, .slice none 0 0] 61
  om : OM w.heap.size D wr o m
  op : OP w.heap.size wr pv piv
  below : Below w.heap.size w wr
  low : w.heap.size < D
theorem RS.mono {w wr wr' : World} {D Kz : Nat} {cs : Array Value} {o pv : Value} {m : List (List Rat)} {piv : List Nat} (h : RS w wr D cs o pv m piv Kz) (hb : Below wr.heap.size wr wr') : RS w wr' D cs o pv m piv Kz :=
  ⟨by obtain ⟨z, h1, h2⟩ := h.det; exact ⟨z, h1.mono hb, h2⟩, h.blk.below hb, h.res.below hb, h.om.below hb, h.op.below hb, h.below.via hb h.below.size, h.low⟩
theorem RS.row {w wr : World} {D G N cap Kz : Nat} {cs : Array Value} {pv p : Value} {m : List (List Rat)} {piv : List Nat} {x : List Rat} (h : RS w wr D cs (.slice (some ⟨G, 0, none⟩) N cap) pv m piv Kz) (hp : QV wr p x) (hD : p.ownBlock ≠ some D ∧ p.ownBlock ≠ some w.heap.size) (J : Nat) :
    RS w (wr.setCell ⟨G, J, none⟩ p) D cs (.slice (some ⟨G, 0, none⟩) N cap) pv (m.set J x) piv Kz := by
  obtain ⟨h1, hk⟩ := h.om.set hp hD J
  obtain ⟨z, z1, z2⟩ := h.det
  have hG : w.heap.size ≤ G := by
    obtain ⟨ps, hl, ho, -⟩ := h.om
    exact (ho.lt G rfl).1
  exact ⟨⟨z, z1.keep hk (by decide), z2⟩, hk.blk _ _ _ (by decide) h.blk, hk.blk _ _ _ (by decide) h.res, h1, h.op.keep hk (by decide), h.below.setCell (p := ⟨G, J, none⟩) hG p, h.low⟩
theorem RS.num {w wr : World} {D Kz Kz' : Nat} {x y x' y' : Bool} {e a e' a' : Option Addr} {n c l d n' c' l' d' : Nat} {o pv : Value} {m : List (List Rat)} {piv : List Nat} {z : Rat} (h : RS w wr D #[.bool x', .slice e' n' c', .bool y', .slice a' l' d'] o pv m piv Kz)
    (hz : RQ wr (.agg #[.bool x, .slice e n c, .bool y, .slice a l d]) z) (hs : Sz Kz' z) :
    RS w ((((wr.setCell ⟨D, 0, none⟩ (.bool x)).setCell ⟨D, 1, none⟩ (.slice e n c)).setCell ⟨D, 2, none⟩ (.bool y)).setCell ⟨D, 3, none⟩ (.slice a l d)) D #[.bool x, .slice e n c, .bool y, .slice a l d] o pv m piv Kz' := by
  obtain ⟨p1, p2⟩ := RQ.put4 hz h.blk
  have hk := keep4 h.blk (.bool x) (.slice e n c) (.bool y) (.slice a l d)
  have hlow := h.low
  have hne : w.heap.size ≠ D := by omega
  exact ⟨⟨z, p1, hs⟩, p2, (((h.res.other (p := ⟨D, 0, none⟩) hne _).other (p := ⟨D, 1, none⟩) hne _).other (p := ⟨D, 2, none⟩) hne _).other (p := ⟨D, 3, none⟩) hne _,
    h.om.put4 h.blk (.inl rfl) _ _ _ _, h.op.keep hk (by decide), put_below4 _ _ _ _ h.below (Nat.le_of_lt h.low), h.low⟩
theorem RS.app {w wr wr' : World} {D Kz : Nat} {cs : Array Value} {o pv pv' : Value} {m : List (List Rat)} {piv : List Nat} {k : Nat} (h : RS w wr D cs o pv m piv Kz) (ho : wr'.ownsRow w.heap.size 3 1 pv' (piv.length + 1) (pvs piv ++ [.int .i64 (k : Int)])) (hg : wr.grownBy wr' pv.ownBlock) :
    RS w wr' D cs o pv' m (piv ++ [k]) Kz := by
  obtain ⟨z, z1, z2⟩ := h.det
  have hk : Keep (fun T => T ≠ 3) wr wr' := Keep.grown h.op (fun k => k rfl) hg
  refine ⟨⟨z, z1.keep hk (by decide), z2⟩, hk.blk _ _ _ (by decide) h.blk, hk.blk _ _ _ (by decide) h.res, h.om.keep hk (by decide) (by decide) (by decide), ?_, Below.grown h.below hg h.below.size (fun q hq => (h.op.lt q hq).1), h.low⟩
  unfold OP pvs
  rw [List.length_append, List.map_append]
  exact ho
end Go.Proofs.YtlcmhbkmpkcajaaGreatDoor
