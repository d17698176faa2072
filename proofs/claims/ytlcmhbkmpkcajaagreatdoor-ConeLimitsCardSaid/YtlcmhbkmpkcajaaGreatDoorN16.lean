/-
  Parts of the proof: Ropg.
-/
import Derived.Test.YtlcmhbkmpkcajaaGreatDoorN15
namespace Go.Proofs.YtlcmhbkmpkcajaaGreatDoor
open Go.RowKit
theorem few_sz {k : Nat} {r : Rat} (h : Sz k r) (hk : k ≤ 90000) : Few r.num.natAbs ∧ Few r.den ∧ Few (r.den : Int).natAbs :=
  ⟨limbs_ten h.1 (by omega), limbs_ten h.2 (by omega), by rw [Int.natAbs_natCast]; exact limbs_ten h.2 (by omega)⟩
theorem ten_mul {a b k l : Nat} (h : a < 10 ^ k) (h' : b < 10 ^ l) : a * b < 10 ^ (k + l) := by
  rw [Nat.pow_add]
  exact Nat.mul_lt_mul'' h h'
theorem rq_add1 {w : World} {v : Value} {r s : Rat} (hr : r.den = 1) (hs : s.den = 1) (h : RatV w v (r.num + s.num) 0) : RQ w v (r + s) := by
  have e : r + s = mkRat (r.num + s.num) 1 := by
    rw [Rat.add_def', hr, hs]
    simp
  refine ⟨0, ?_, ?_⟩
  · rw [e, Rat.num_mkRat, if_neg (by decide), Nat.gcd_one_left, Int.natCast_one, Int.ediv_one]
    exact h
  · rw [e, Rat.den_mkRat, if_neg (by decide), Nat.gcd_one_left]
    rfl
theorem rq_mul1 {w : World} {v : Value} {r s : Rat} (hr : r.den = 1) (hs : s.den = 1) (h : RatV w v (r.num * s.num) 0) : RQ w v (r * s) := by
  have e : r * s = mkRat (r.num * s.num) 1 := by
    rw [Rat.mul_def', hr, hs]
  refine ⟨0, ?_, ?_⟩
  · rw [e, Rat.num_mkRat, if_neg (by decide), Nat.gcd_one_left, Int.natCast_one, Int.ediv_one]
    exact h
  · rw [e, Rat.den_mkRat, if_neg (by decide), Nat.gcd_one_left]
    rfl
theorem RQ.open {w : World} {v : Value} {r : Rat} (h : RQ w v r) : ∃ x a n c x' a' n' c', v = .agg #[.bool x, .slice a n c, .bool x', .slice a' n' c'] ∧ RQ w (.agg #[.bool x, .slice a n c, .bool x', .slice a' n' c']) r := by
  obtain ⟨q, h, hq⟩ := h
  obtain ⟨x, a, n, c, x', a', n', c', rfl, h⟩ := h.open
  exact ⟨x, a, n, c, x', a', n', c', rfl, q, h, hq⟩
theorem RQ.put4 {w : World} {r : Rat} {R n c n' c' m k m' k' : Nat} {x x' y y' : Bool} {a a' e e' : Option Addr} {T : TypeId} (h : RQ w (.agg #[.bool x, .slice a n c, .bool x', .slice a' n' c']) r) (hB : Blk w R #[.bool y, .slice e m k, .bool y', .slice e' m' k'] T) :
    RQ ((((w.setCell ⟨R, 0, none⟩ (.bool x)).setCell ⟨R, 1, none⟩ (.slice a n c)).setCell ⟨R, 2, none⟩ (.bool x')).setCell ⟨R, 3, none⟩ (.slice a' n' c')) (.agg #[.bool x, .slice a n c, .bool x', .slice a' n' c']) r ∧
    Blk ((((w.setCell ⟨R, 0, none⟩ (.bool x)).setCell ⟨R, 1, none⟩ (.slice a n c)).setCell ⟨R, 2, none⟩ (.bool x')).setCell ⟨R, 3, none⟩ (.slice a' n' c')) R #[.bool x, .slice a n c, .bool x', .slice a' n' c'] T := by
  obtain ⟨q, h, hq⟩ := h
  exact ⟨⟨q, (h.put4 hB).1, hq⟩, (h.put4 hB).2⟩
set_option maxHeartbeats 8000000 in
set_option maxRecDepth 100000 in
theorem radd_g (u v : Value) (r s : Rat) (k1 k2 : Nat) (w : World) (h : RQ w u r) (h' : RQ w v s) (hz : Sz k1 r) (hz' : Sz k2 s) (hk : k1 + k2 ≤ 80000) : Calls Tryz.prog 32 #[u, v] w (RetP (fun x w' => RQ w' x (r + s)) w) := by
  obtain ⟨q, h, hq⟩ := h
  obtain ⟨q', h', hq'⟩ := h'
  obtain ⟨x, a, n, c, x', a', n', c', rfl, h⟩ := h.open
  obtain ⟨y, e, m, k, y', e', m', k', rfl, h'⟩ := h'.open
  have hA : Blk (((w.alloc (.cells #[.bool x, .slice a n c, .bool x', .slice a' n' c'] 61)).alloc (.cells #[.bool y, .slice e m k, .bool y', .slice e' m' k'] 61)).alloc (.cells #[.bool false, .slice none 0 0, .bool false, .slice none 0 0] 61)) w.heap.size #[.bool x, .slice a n c, .bool x', .slice a' n' c'] 61 := ((Blk.new w _ _).old _).old _
  have hB : Blk (((w.alloc (.cells #[.bool x, .slice a n c, .bool x', .slice a' n' c'] 61)).alloc (.cells #[.bool y, .slice e m k, .bool y', .slice e' m' k'] 61)).alloc (.cells #[.bool false, .slice none 0 0, .bool false, .slice none 0 0] 61)) (w.heap.size + 1) #[.bool y, .slice e m k, .bool y', .slice e' m' k'] 61 := by
    have h := (Blk.new (w.alloc (.cells #[.bool x, .slice a n c, .bool x', .slice a' n' c'] 61)) #[.bool y, .slice e m k, .bool y', .slice e' m' k'] 61).old (.cells #[.bool false, .slice none 0 0, .bool false, .slice none 0 0] 61)
    simpa using h
  have hR : Blk (((w.alloc (.cells #[.bool x, .slice a n c, .bool x', .slice a' n' c'] 61)).alloc (.cells #[.bool y, .slice e m k, .bool y', .slice e' m' k'] 61)).alloc (.cells #[.bool false, .slice none 0 0, .bool false, .slice none 0 0] 61)) (w.heap.size + 1 + 1) #[.bool false, .slice none 0 0, .bool false, .slice none 0 0] 61 := by
    have h := Blk.new ((w.alloc (.cells #[.bool x, .slice a n c, .bool x', .slice a' n' c'] 61)).alloc (.cells #[.bool y, .slice e m k, .bool y', .slice e' m' k'] 61)) #[.bool false, .slice none 0 0, .bool false, .slice none 0 0] 61
    simpa using h
  have HK := hI (below3 w (.cells #[.bool x, .slice a n c, .bool x', .slice a' n' c'] 61) (.cells #[.bool y, .slice e m k, .bool y', .slice e' m' k'] 61) (.cells #[.bool false, .slice none 0 0, .bool false, .slice none 0 0] 61))
  have HS := hI (fun w' (hb : Below (((w.alloc (.cells #[.bool x, .slice a n c, .bool x', .slice a' n' c'] 61)).alloc (.cells #[.bool y, .slice e m k, .bool y', .slice e' m' k'] 61)).alloc (.cells #[.bool false, .slice none 0 0, .bool false, .slice none 0 0] 61)).heap.size (((w.alloc (.cells #[.bool x, .slice a n c, .bool x', .slice a' n' c'] 61)).alloc (.cells #[.bool y, .slice e m k, .bool y', .slice e' m' k'] 61)).alloc (.cells #[.bool false, .slice none 0 0, .bool false, .slice none 0 0] 61)) w') => And.intro (blk4v (hA.below hb)).1 (blk4v (hB.below hb)).1)
  have HR := hI hR
  have HP := hI (fun w' (hb : Below (((w.alloc (.cells #[.bool x, .slice a n c, .bool x', .slice a' n' c'] 61)).alloc (.cells #[.bool y, .slice e m k, .bool y', .slice e' m' k'] 61)).alloc (.cells #[.bool false, .slice none 0 0, .bool false, .slice none 0 0] 61)).heap.size (((w.alloc (.cells #[.bool x, .slice a n c, .bool x', .slice a' n' c'] 61)).alloc (.cells #[.bool y, .slice e m k, .bool y', .slice e' m' k'] 61)).alloc (.cells #[.bool false, .slice none 0 0, .bool false, .slice none 0 0] 61)) w') => And.intro ((h.mono HK.out).mono hb) ((h'.mono HK.out).mono hb))
  have HF := hI (And.intro (few_sz hz (by omega)) (few_sz hz' (by omega)))
  have HH := hI (fun w' (hb : Below (((w.alloc (.cells #[.bool x, .slice a n c, .bool x', .slice a' n' c'] 61)).alloc (.cells #[.bool y, .slice e m k, .bool y', .slice e' m' k'] 61)).alloc (.cells #[.bool false, .slice none 0 0, .bool false, .slice none 0 0] 61)).heap.size (((w.alloc (.cells #[.bool x, .slice a n c, .bool x', .slice a' n' c'] 61)).alloc (.cells #[.bool y, .slice e m k, .bool y', .slice e' m' k'] 61)).alloc (.cells #[.bool false, .slice none 0 0, .bool false, .slice none 0 0] 61)) w') => whole_g _ r.num q w' ((h.mono HK.out).mono hb))
  have HH' := hI (fun w' (hb : Below (((w.alloc (.cells #[.bool x, .slice a n c, .bool x', .slice a' n' c'] 61)).alloc (.cells #[.bool y, .slice e m k, .bool y', .slice e' m' k'] 61)).alloc (.cells #[.bool false, .slice none 0 0, .bool false, .slice none 0 0] 61)).heap.size (((w.alloc (.cells #[.bool x, .slice a n c, .bool x', .slice a' n' c'] 61)).alloc (.cells #[.bool y, .slice e m k, .bool y', .slice e' m' k'] 61)).alloc (.cells #[.bool false, .slice none 0 0, .bool false, .slice none 0 0] 61)) w') => whole_g _ s.num q' w' ((h'.mono HK.out).mono hb))
  have HDA := hI (fun w' (hb : Below (((w.alloc (.cells #[.bool x, .slice a n c, .bool x', .slice a' n' c'] 61)).alloc (.cells #[.bool y, .slice e m k, .bool y', .slice e' m' k'] 61)).alloc (.cells #[.bool false, .slice none 0 0, .bool false, .slice none 0 0] 61)).heap.size (((w.alloc (.cells #[.bool x, .slice a n c, .bool x', .slice a' n' c'] 61)).alloc (.cells #[.bool y, .slice e m k, .bool y', .slice e' m' k'] 61)).alloc (.cells #[.bool false, .slice none 0 0, .bool false, .slice none 0 0] 61)) w') => den_g _ r.num q w' (HP.out w' hb).1)
  have HDB := hI (fun w' (hb : Below (((w.alloc (.cells #[.bool x, .slice a n c, .bool x', .slice a' n' c'] 61)).alloc (.cells #[.bool y, .slice e m k, .bool y', .slice e' m' k'] 61)).alloc (.cells #[.bool false, .slice none 0 0, .bool false, .slice none 0 0] 61)).heap.size (((w.alloc (.cells #[.bool x, .slice a n c, .bool x', .slice a' n' c'] 61)).alloc (.cells #[.bool y, .slice e m k, .bool y', .slice e' m' k'] 61)).alloc (.cells #[.bool false, .slice none 0 0, .bool false, .slice none 0 0] 61)) w') => den_g _ s.num q' w' (HP.out w' hb).2)
  rw [hq] at HH HDA
  rw [hq'] at HH' HDB
  by_cases h1 : r.den = 1
  · by_cases h2 : s.den = 1
    · have H3 := hI (fun w' (hb : Below (((w.alloc (.cells #[.bool x, .slice a n c, .bool x', .slice a' n' c'] 61)).alloc (.cells #[.bool y, .slice e m k, .bool y', .slice e' m' k'] 61)).alloc (.cells #[.bool false, .slice none 0 0, .bool false, .slice none 0 0] 61)).heap.size (((w.alloc (.cells #[.bool x, .slice a n c, .bool x', .slice a' n' c'] 61)).alloc (.cells #[.bool y, .slice e m k, .bool y', .slice e' m' k'] 61)).alloc (.cells #[.bool false, .slice none 0 0, .bool false, .slice none 0 0] 61)) w') => add_any _ _ r.num s.num w' (HP.out w' hb).1.parts.1 (HP.out w' hb).2.parts.1 HF.out.1.1 HF.out.2.1)
      have HZ := hI (fun w' v (hv : RatV w' v (r.num + s.num) 0) => rq_add1 h1 h2 hv)
      rw [decide_eq_true (show ((r.den : Nat) : Int) = 1 by omega)] at HH
      rw [decide_eq_true (show ((s.den : Nat) : Int) = 1 by omega)] at HH'
      clear hA hB hR h h' hz hz' hq hq' h1 h2
      go_enter Tryz.func32, Tryz.ntmps32
      obtain ⟨⟨s0, s1, s2, s3⟩, t0, t1, t2, t3⟩ := HS.out _ (Below.refl _ _)
      go_wp2_with (first
        | (have _t := Hb1; clear _t; go_at_call 36; refine (HH'.out _ Hb1.out).mono ?_; rintro e w2 ⟨rfl, hb2⟩; have Hb2 := hI (bw_via Hb1.out hb2); obtain ⟨⟨s0, s1, s2, s3⟩, t0, t1, t2, t3⟩ := HS.out _ Hb2.out; clear hb2)
        | (go_at_call 36; refine (HH.out _ (Below.refl _ _)).mono ?_; rintro e w1 ⟨rfl, hb1⟩; have Hb1 := hI hb1; obtain ⟨⟨s0, s1, s2, s3⟩, t0, t1, t2, t3⟩ := HS.out _ hb1; clear hb1)
        | (go_at_call 56; refine (H3.out _ Hb2.out).mono ?_; rintro e w3 ⟨v5, rfl, hv, hb3⟩; obtain ⟨x5, a5, n5, c5, rfl, hv⟩ := hv.open; have hr := HR.out.below (bw_via Hb2.out hb3); obtain ⟨⟨r0, r1, r2, r3⟩, f0, f1, f2, f3⟩ := blk4v hr; obtain ⟨hv6, hb6⟩ := RatV.put4 (RatV.whole0 hv) hr; have Hv6 := hI hv6; have Hb6 := hI hb6; have Hbel := hI (put_below4 (b := w.heap.size + 1 + 1) (.bool x5) (.slice a5 n5 c5) (.bool false) (.slice none 0 0) (HK.out.via (bw_via Hb2.out hb3) HK.out.size) (by omega)); clear hv6 hb6 hr hv hb3))
      obtain ⟨⟨q0, q1, q2, q3⟩, -⟩ := blk4v Hb6.out
      exact bodyPost_ret (v := .agg #[.bool x5, .slice a5 n5 c5, .bool false, .slice none 0 0]) (by simp [results, Tryz.results32, go_sem, q0, q1, q2, q3]) rfl ⟨_, rfl, HZ.out _ _ Hv6.out, Hbel.out⟩
    · rw [decide_eq_true (show ((r.den : Nat) : Int) = 1 by omega)] at HH
      rw [decide_eq_false (show ¬ ((s.den : Nat) : Int) = 1 by omega)] at HH'
      clear h1 h2
      have m1 := ten_mul hz.1 hz'.2
      have m2 := ten_mul hz'.1 hz.2
      have m3 := ten_mul hz.2 hz'.2
      rw [Nat.add_comm k2 k1] at m2
      have hp : (10 : Nat) ^ (k1 + k2 + 1) = 10 ^ (k1 + k2) * 10 := Nat.pow_succ _ _
      have f1 : Few (r.num * (s.den : Int)).natAbs := limbs_ten (k := k1 + k2) (by rw [Int.natAbs_mul, Int.natAbs_natCast]; exact m1) (by omega)
      have f2 : Few (s.num * (r.den : Int)).natAbs := limbs_ten (k := k1 + k2) (by rw [Int.natAbs_mul, Int.natAbs_natCast]; exact m2) (by omega)
      have f3 : Few (r.num * (s.den : Int) + s.num * (r.den : Int)).natAbs := limbs_ten (k := k1 + k2 + 1) (by have := Int.natAbs_add_le (r.num * (s.den : Int)) (s.num * (r.den : Int)); rw [Int.natAbs_mul, Int.natAbs_mul, Int.natAbs_natCast, Int.natAbs_natCast] at this; omega) (by omega)
      have H4 := hI (fun w' (hb : Below (((w.alloc (.cells #[.bool x, .slice a n c, .bool x', .slice a' n' c'] 61)).alloc (.cells #[.bool y, .slice e m k, .bool y', .slice e' m' k'] 61)).alloc (.cells #[.bool false, .slice none 0 0, .bool false, .slice none 0 0] 61)).heap.size (((w.alloc (.cells #[.bool x, .slice a n c, .bool x', .slice a' n' c'] 61)).alloc (.cells #[.bool y, .slice e m k, .bool y', .slice e' m' k'] 61)).alloc (.cells #[.bool false, .slice none 0 0, .bool false, .slice none 0 0] 61)) w') z (hr : IntV w' z (s.den : Int)) => mul_any _ z r.num (s.den : Int) w' (HP.out w' hb).1.parts.1 hr HF.out.1.1 HF.out.2.2.2)
      have H9 := hI (fun w' (hb : Below (((w.alloc (.cells #[.bool x, .slice a n c, .bool x', .slice a' n' c'] 61)).alloc (.cells #[.bool y, .slice e m k, .bool y', .slice e' m' k'] 61)).alloc (.cells #[.bool false, .slice none 0 0, .bool false, .slice none 0 0] 61)).heap.size (((w.alloc (.cells #[.bool x, .slice a n c, .bool x', .slice a' n' c'] 61)).alloc (.cells #[.bool y, .slice e m k, .bool y', .slice e' m' k'] 61)).alloc (.cells #[.bool false, .slice none 0 0, .bool false, .slice none 0 0] 61)) w') z (hr : IntV w' z (r.den : Int)) => mul_any _ z s.num (r.den : Int) w' (HP.out w' hb).2.parts.1 hr HF.out.2.1 HF.out.1.2.2)
      have H10 := hI (fun w' z z' (hr : IntV w' z (r.num * (s.den : Int))) (hr' : IntV w' z' (s.num * (r.den : Int))) => add_any z z' _ _ w' hr hr' f1 f2)
      have H15 := hI (fun w' z z' (hr : IntV w' z (r.den : Int)) (hr' : IntV w' z' (s.den : Int)) => mul_any z z' _ _ w' hr hr' HF.out.1.2.2 HF.out.2.2.2)
      rw [← Int.natCast_mul] at H15
      have H16 := hI (fun w' z z' (hr : IntV w' z (r.num * (s.den : Int) + s.num * (r.den : Int))) (hr' : IntV w' z' ((r.den * s.den : Nat) : Int)) => reduced_g z z' _ (r.den * s.den) w' hr hr' (Nat.mul_pos r.den_pos s.den_pos) f3 (limbs_ten m3 (by omega)))
      rw [← Rat.add_def'] at H16
      clear hA hB hR h h' hz hz' hq hq' m1 m2 m3 hp f1 f2 f3
      go_enter Tryz.func32, Tryz.ntmps32
      obtain ⟨⟨s0, s1, s2, s3⟩, t0, t1, t2, t3⟩ := HS.out _ (Below.refl _ _)
      go_wp2_with (first
        | (have _t := Hb1; clear _t; go_at_call 36; refine (HH'.out _ Hb1.out).mono ?_; rintro e w2 ⟨rfl, hb2⟩; have Hb2 := hI (bw_via Hb1.out hb2); obtain ⟨⟨s0, s1, s2, s3⟩, t0, t1, t2, t3⟩ := HS.out _ Hb2.out; clear hb2)
        | (go_at_call 36; refine (HH.out _ (Below.refl _ _)).mono ?_; rintro e w1 ⟨rfl, hb1⟩; have Hb1 := hI hb1; obtain ⟨⟨s0, s1, s2, s3⟩, t0, t1, t2, t3⟩ := HS.out _ hb1; clear hb1))
      refine wp_region_pop (S := (fun w' => w'.cell? ⟨w.heap.size, 0, none⟩ = some (.bool x) ∧ w'.cell? ⟨w.heap.size, 1, none⟩ = some (.slice a n c) ∧ w'.cell? ⟨w.heap.size, 2, none⟩ = some (.bool x') ∧ w'.cell? ⟨w.heap.size, 3, none⟩ = some (.slice a' n' c') ∧ w'.cell? ⟨w.heap.size + 1, 0, none⟩ = some (.bool y) ∧ w'.cell? ⟨w.heap.size + 1, 1, none⟩ = some (.slice e m k) ∧ w'.cell? ⟨w.heap.size + 1, 2, none⟩ = some (.bool y') ∧ w'.cell? ⟨w.heap.size + 1, 3, none⟩ = some (.slice e' m' k'))) 17 (by kernel_rfl) (by kernel_rfl) (by exact (fun h => ⟨h.1.1, h.1.2.1, h.1.2.2.1, h.1.2.2.2, h.2⟩) (HS.out _ (Hb2.out.dn 1))) (fun hHeld => ?_)
      simp only [List.take_succ_cons, List.take_zero, List.drop_succ_cons, List.drop_zero]
      refine' tk 0 ?_; (try simp only [tkS]); refine' tk 1 ?_; (try simp only [tkS]); refine' tk 2 ?_; (try simp only [tkS]); refine' tk 5 ?_; (try simp only [tkS]); refine' tk 6 ?_; (try simp only [tkS]); refine' tk 7 ?_; (try simp only [tkS]); refine' tk 11 ?_; (try simp only [tkS]); refine' tk 13 ?_; (try simp only [tkS])
      refine tk1 3 (fun K hK => ?_)
      go_simp
      go_at_call 59
      refine (HDB.out _ (Hb2.out.dn 1)).mono ?_
      rintro e5 w3 ⟨v3, rfl, hv3, hb3⟩
      have Hb3 := hI (bw_via (Hb2.out.dn 1) hb3)
      obtain ⟨x31, a31, k31, c31, rfl, hv3⟩ := hv3.open
      have HO3 := hI hv3
      clear hv3
      clear hb3
      refine hK.out _ _ (by exact (fun h => ⟨h.1.1, h.1.2.1, h.1.2.2.1, h.1.2.2.2, h.2⟩) (HS.out _ (Hb3.out))) (fun hHeld => ?_)
      clear hK K; (try simp only [tkS])
      refine tk1 4 (fun K hK => ?_)
      go_simp
      go_at_call 58
      refine (H4.out _ (Hb3.out) _ HO3.out).mono ?_
      rintro e5 w4 ⟨v4, rfl, hv4, hb4⟩
      have HO3 := hI (HO3.out.mono hb4)
      have Hb4 := hI (bw_via (Hb3.out) hb4)
      obtain ⟨x41, a41, k41, c41, rfl, hv4⟩ := hv4.open
      have HO4 := hI hv4
      clear hv4
      clear hb4
      refine hK.out _ _ (by exact (fun h => ⟨h.1.1, h.1.2.1, h.1.2.2.1, h.1.2.2.2, h.2⟩) (HS.out _ (Hb4.out))) (fun hHeld => ?_)
      clear hK K; (try simp only [tkS])
      refine tk1 8 (fun K hK => ?_)
      go_simp
      go_at_call 59
      refine (HDA.out _ (Hb4.out)).mono ?_
      rintro e5 w8 ⟨v8, rfl, hv8, hb8⟩
      have HO3 := hI (HO3.out.mono hb8)
      have HO4 := hI (HO4.out.mono hb8)
      have Hb8 := hI (bw_via (Hb4.out) hb8)
      obtain ⟨x81, a81, k81, c81, rfl, hv8⟩ := hv8.open
      have HO8 := hI hv8
      clear hv8
      clear hb8
      refine hK.out _ _ (by exact (fun h => ⟨h.1.1, h.1.2.1, h.1.2.2.1, h.1.2.2.2, h.2⟩) (HS.out _ (Hb8.out))) (fun hHeld => ?_)
      clear hK K; (try simp only [tkS])
      refine tk1 9 (fun K hK => ?_)
      go_simp
      go_at_call 58
      refine (H9.out _ (Hb8.out) _ HO8.out).mono ?_
      rintro e5 w9 ⟨v9, rfl, hv9, hb9⟩
      have HO3 := hI (HO3.out.mono hb9)
      have HO4 := hI (HO4.out.mono hb9)
      have HO8 := hI (HO8.out.mono hb9)
      have Hb9 := hI (bw_via (Hb8.out) hb9)
      obtain ⟨x91, a91, k91, c91, rfl, hv9⟩ := hv9.open
      have HO9 := hI hv9
      clear hv9
      clear hb9
      refine hK.out _ _ (by exact (fun h => ⟨h.1.1, h.1.2.1, h.1.2.2.1, h.1.2.2.2, h.2⟩) (HS.out _ (Hb9.out))) (fun hHeld => ?_)
      clear hK K; (try simp only [tkS])
      refine tk1 10 (fun K hK => ?_)
      go_simp
      go_at_call 56
      refine (H10.out _ _ _ HO4.out HO9.out).mono ?_
      rintro e5 w10 ⟨v10, rfl, hv10, hb10⟩
      have HO3 := hI (HO3.out.mono hb10)
      have HO4 := hI (HO4.out.mono hb10)
      have HO8 := hI (HO8.out.mono hb10)
      have HO9 := hI (HO9.out.mono hb10)
      have Hb10 := hI (bw_via (Hb9.out) hb10)
      obtain ⟨x101, a101, k101, c101, rfl, hv10⟩ := hv10.open
      have HO10 := hI hv10
      clear hv10
      clear hb10
      refine hK.out _ _ (by exact (fun h => ⟨h.1.1, h.1.2.1, h.1.2.2.1, h.1.2.2.2, h.2⟩) (HS.out _ (Hb10.out))) (fun hHeld => ?_)
      clear hK K; (try simp only [tkS])
      refine tk1 12 (fun K hK => ?_)
      go_simp
      go_at_call 59
      refine (HDA.out _ (Hb10.out)).mono ?_
      rintro e5 w12 ⟨v12, rfl, hv12, hb12⟩
      have HO3 := hI (HO3.out.mono hb12)
      have HO4 := hI (HO4.out.mono hb12)
      have HO8 := hI (HO8.out.mono hb12)
      have HO9 := hI (HO9.out.mono hb12)
      have HO10 := hI (HO10.out.mono hb12)
      have Hb12 := hI (bw_via (Hb10.out) hb12)
      obtain ⟨x121, a121, k121, c121, rfl, hv12⟩ := hv12.open
      have HO12 := hI hv12
      clear hv12
      clear hb12
      refine hK.out _ _ (by exact (fun h => ⟨h.1.1, h.1.2.1, h.1.2.2.1, h.1.2.2.2, h.2⟩) (HS.out _ (Hb12.out))) (fun hHeld => ?_)
      clear hK K; (try simp only [tkS])
      refine tk1 14 (fun K hK => ?_)
      go_simp
      go_at_call 59
      refine (HDB.out _ (Hb12.out)).mono ?_
      rintro e5 w14 ⟨v14, rfl, hv14, hb14⟩
      have HO3 := hI (HO3.out.mono hb14)
      have HO4 := hI (HO4.out.mono hb14)
      have HO8 := hI (HO8.out.mono hb14)
      have HO9 := hI (HO9.out.mono hb14)
      have HO10 := hI (HO10.out.mono hb14)
      have HO12 := hI (HO12.out.mono hb14)
      have Hb14 := hI (bw_via (Hb12.out) hb14)
      obtain ⟨x141, a141, k141, c141, rfl, hv14⟩ := hv14.open
      have HO14 := hI hv14
      clear hv14
      clear hb14
      refine hK.out _ _ (by exact (fun h => ⟨h.1.1, h.1.2.1, h.1.2.2.1, h.1.2.2.2, h.2⟩) (HS.out _ (Hb14.out))) (fun hHeld => ?_)
      clear hK K; (try simp only [tkS])
      refine tk1 15 (fun K hK => ?_)
      go_simp
      go_at_call 58
      refine (H15.out _ _ _ HO12.out HO14.out).mono ?_
      rintro e5 w15 ⟨v15, rfl, hv15, hb15⟩
      have HO3 := hI (HO3.out.mono hb15)
      have HO4 := hI (HO4.out.mono hb15)
      have HO8 := hI (HO8.out.mono hb15)
      have HO9 := hI (HO9.out.mono hb15)
      have HO10 := hI (HO10.out.mono hb15)
      have HO12 := hI (HO12.out.mono hb15)
      have HO14 := hI (HO14.out.mono hb15)
      have Hb15 := hI (bw_via (Hb14.out) hb15)
      obtain ⟨x151, a151, k151, c151, rfl, hv15⟩ := hv15.open
      have HO15 := hI hv15
      clear hv15
      clear hb15
      refine hK.out _ _ (by exact (fun h => ⟨h.1.1, h.1.2.1, h.1.2.2.1, h.1.2.2.2, h.2⟩) (HS.out _ (Hb15.out))) (fun hHeld => ?_)
      clear hK K; (try simp only [tkS])
      refine tk1 16 (fun K hK => ?_)
      go_simp
      go_at_call 57
      refine (H16.out _ _ _ HO10.out HO15.out).mono ?_
      rintro e5 w16 ⟨v16, rfl, hv16, hb16⟩
      have HO3 := hI (HO3.out.mono hb16)
      have HO4 := hI (HO4.out.mono hb16)
      have HO8 := hI (HO8.out.mono hb16)
      have HO9 := hI (HO9.out.mono hb16)
      have HO10 := hI (HO10.out.mono hb16)
      have HO12 := hI (HO12.out.mono hb16)
      have HO14 := hI (HO14.out.mono hb16)
      have HO15 := hI (HO15.out.mono hb16)
      have Hb16 := hI (bw_via (Hb15.out) hb16)
      obtain ⟨x5, a5, n5, c5, x6, a6, n6, c6, rfl, hv16⟩ := hv16.open
      have HO16 := hI hv16
      clear hv16
      clear hb16
      refine hK.out _ _ (by exact (fun h => ⟨h.1.1, h.1.2.1, h.1.2.2.1, h.1.2.2.2, h.2⟩) (HS.out _ (Hb16.out))) (fun hHeld => ?_)
      clear hK K; (try simp only [tkS])
      refine tkD ?_ _
      simp only [Exit.then]
      have hr := HR.out.below Hb16.out
      obtain ⟨⟨r0, r1, r2, r3⟩, f0, f1, f2, f3⟩ := blk4v hr
      obtain ⟨hv6, hb6⟩ := RQ.put4 HO16.out hr
      have Hv6 := hI hv6
      have Hb6 := hI hb6
      have Hbel := hI (put_below4 (b := w.heap.size + 1 + 1) (.bool x5) (.slice a5 n5 c5) (.bool x6) (.slice a6 n6 c6) (HK.out.via Hb16.out HK.out.size) (by omega))
      clear hv6 hb6 hr
      go_wp2_with fail
      obtain ⟨⟨q0, q1, q2, q3⟩, -⟩ := blk4v Hb6.out
      exact bodyPost_ret (v := .agg #[.bool x5, .slice a5 n5 c5, .bool x6, .slice a6 n6 c6]) (by simp [results, Tryz.results32, go_sem, q0, q1, q2, q3]) rfl ⟨_, rfl, Hv6.out, Hbel.out⟩
  · rw [decide_eq_false (show ¬ ((r.den : Nat) : Int) = 1 by omega)] at HH
    clear h1
    have m1 := ten_mul hz.1 hz'.2
    have m2 := ten_mul hz'.1 hz.2
    have m3 := ten_mul hz.2 hz'.2
    rw [Nat.add_comm k2 k1] at m2
    have hp : (10 : Nat) ^ (k1 + k2 + 1) = 10 ^ (k1 + k2) * 10 := Nat.pow_succ _ _
    have f1 : Few (r.num * (s.den : Int)).natAbs := limbs_ten (k := k1 + k2) (by rw [Int.natAbs_mul, Int.natAbs_natCast]; exact m1) (by omega)
    have f2 : Few (s.num * (r.den : Int)).natAbs := limbs_ten (k := k1 + k2) (by rw [Int.natAbs_mul, Int.natAbs_natCast]; exact m2) (by omega)
    have f3 : Few (r.num * (s.den : Int) + s.num * (r.den : Int)).natAbs := limbs_ten (k := k1 + k2 + 1) (by have := Int.natAbs_add_le (r.num * (s.den : Int)) (s.num * (r.den : Int)); rw [Int.natAbs_mul, Int.natAbs_mul, Int.natAbs_natCast, Int.natAbs_natCast] at this; omega) (by omega)
    have H4 := hI (fun w' (hb : Below (((w.alloc (.cells #[.bool x, .slice a n c, .bool x', .slice a' n' c'] 61)).alloc (.cells #[.bool y, .slice e m k, .bool y', .slice e' m' k'] 61)).alloc (.cells #[.bool false, .slice none 0 0, .bool false, .slice none 0 0] 61)).heap.size (((w.alloc (.cells #[.bool x, .slice a n c, .bool x', .slice a' n' c'] 61)).alloc (.cells #[.bool y, .slice e m k, .bool y', .slice e' m' k'] 61)).alloc (.cells #[.bool false, .slice none 0 0, .bool false, .slice none 0 0] 61)) w') z (hr : IntV w' z (s.den : Int)) => mul_any _ z r.num (s.den : Int) w' (HP.out w' hb).1.parts.1 hr HF.out.1.1 HF.out.2.2.2)
    have H9 := hI (fun w' (hb : Below (((w.alloc (.cells #[.bool x, .slice a n c, .bool x', .slice a' n' c'] 61)).alloc (.cells #[.bool y, .slice e m k, .bool y', .slice e' m' k'] 61)).alloc (.cells #[.bool false, .slice none 0 0, .bool false, .slice none 0 0] 61)).heap.size (((w.alloc (.cells #[.bool x, .slice a n c, .bool x', .slice a' n' c'] 61)).alloc (.cells #[.bool y, .slice e m k, .bool y', .slice e' m' k'] 61)).alloc (.cells #[.bool false, .slice none 0 0, .bool false, .slice none 0 0] 61)) w') z (hr : IntV w' z (r.den : Int)) => mul_any _ z s.num (r.den : Int) w' (HP.out w' hb).2.parts.1 hr HF.out.2.1 HF.out.1.2.2)
    have H10 := hI (fun w' z z' (hr : IntV w' z (r.num * (s.den : Int))) (hr' : IntV w' z' (s.num * (r.den : Int))) => add_any z z' _ _ w' hr hr' f1 f2)
    have H15 := hI (fun w' z z' (hr : IntV w' z (r.den : Int)) (hr' : IntV w' z' (s.den : Int)) => mul_any z z' _ _ w' hr hr' HF.out.1.2.2 HF.out.2.2.2)
    rw [← Int.natCast_mul] at H15
    have H16 := hI (fun w' z z' (hr : IntV w' z (r.num * (s.den : Int) + s.num * (r.den : Int))) (hr' : IntV w' z' ((r.den * s.den : Nat) : Int)) => reduced_g z z' _ (r.den * s.den) w' hr hr' (Nat.mul_pos r.den_pos s.den_pos) f3 (limbs_ten m3 (by omega)))
    rw [← Rat.add_def'] at H16
    clear hA hB hR h h' hz hz' hq hq' m1 m2 m3 hp f1 f2 f3
    go_enter Tryz.func32, Tryz.ntmps32
    obtain ⟨⟨s0, s1, s2, s3⟩, t0, t1, t2, t3⟩ := HS.out _ (Below.refl _ _)
    go_wp2_with (go_at_call 36; refine (HH.out _ (Below.refl _ _)).mono ?_; rintro e w1 ⟨rfl, hb1⟩; have Hb1 := hI hb1; obtain ⟨⟨s0, s1, s2, s3⟩, t0, t1, t2, t3⟩ := HS.out _ hb1; clear hb1)
    refine wp_region_pop (S := (fun w' => w'.cell? ⟨w.heap.size, 0, none⟩ = some (.bool x) ∧ w'.cell? ⟨w.heap.size, 1, none⟩ = some (.slice a n c) ∧ w'.cell? ⟨w.heap.size, 2, none⟩ = some (.bool x') ∧ w'.cell? ⟨w.heap.size, 3, none⟩ = some (.slice a' n' c') ∧ w'.cell? ⟨w.heap.size + 1, 0, none⟩ = some (.bool y) ∧ w'.cell? ⟨w.heap.size + 1, 1, none⟩ = some (.slice e m k) ∧ w'.cell? ⟨w.heap.size + 1, 2, none⟩ = some (.bool y') ∧ w'.cell? ⟨w.heap.size + 1, 3, none⟩ = some (.slice e' m' k'))) 17 (by kernel_rfl) (by kernel_rfl) (by exact (fun h => ⟨h.1.1, h.1.2.1, h.1.2.2.1, h.1.2.2.2, h.2⟩) (HS.out _ (Hb1.out.dn 1))) (fun hHeld => ?_)
    simp only [List.take_succ_cons, List.take_zero, List.drop_succ_cons, List.drop_zero]
    refine' tk 0 ?_; (try simp only [tkS]); refine' tk 1 ?_; (try simp only [tkS]); refine' tk 2 ?_; (try simp only [tkS]); refine' tk 5 ?_; (try simp only [tkS]); refine' tk 6 ?_; (try simp only [tkS]); refine' tk 7 ?_; (try simp only [tkS]); refine' tk 11 ?_; (try simp only [tkS]); refine' tk 13 ?_; (try simp only [tkS])
    refine tk1 3 (fun K hK => ?_)
    go_simp
    go_at_call 59
    refine (HDB.out _ (Hb1.out.dn 1)).mono ?_
    rintro e5 w3 ⟨v3, rfl, hv3, hb3⟩
    have Hb3 := hI (bw_via (Hb1.out.dn 1) hb3)
    obtain ⟨x31, a31, k31, c31, rfl, hv3⟩ := hv3.open
    have HO3 := hI hv3
    clear hv3
    clear hb3
    refine hK.out _ _ (by exact (fun h => ⟨h.1.1, h.1.2.1, h.1.2.2.1, h.1.2.2.2, h.2⟩) (HS.out _ (Hb3.out))) (fun hHeld => ?_)
    clear hK K; (try simp only [tkS])
    refine tk1 4 (fun K hK => ?_)
    go_simp
    go_at_call 58
    refine (H4.out _ (Hb3.out) _ HO3.out).mono ?_
    rintro e5 w4 ⟨v4, rfl, hv4, hb4⟩
    have HO3 := hI (HO3.out.mono hb4)
    have Hb4 := hI (bw_via (Hb3.out) hb4)
    obtain ⟨x41, a41, k41, c41, rfl, hv4⟩ := hv4.open
    have HO4 := hI hv4
    clear hv4
    clear hb4
    refine hK.out _ _ (by exact (fun h => ⟨h.1.1, h.1.2.1, h.1.2.2.1, h.1.2.2.2, h.2⟩) (HS.out _ (Hb4.out))) (fun hHeld => ?_)
    clear hK K; (try simp only [tkS])
    refine tk1 8 (fun K hK => ?_)
    go_simp
    go_at_call 59
    refine (HDA.out _ (Hb4.out)).mono ?_
    rintro e5 w8 ⟨v8, rfl, hv8, hb8⟩
    have HO3 := hI (HO3.out.mono hb8)
    have HO4 := hI (HO4.out.mono hb8)
    have Hb8 := hI (bw_via (Hb4.out) hb8)
    obtain ⟨x81, a81, k81, c81, rfl, hv8⟩ := hv8.open
    have HO8 := hI hv8
    clear hv8
    clear hb8
    refine hK.out _ _ (by exact (fun h => ⟨h.1.1, h.1.2.1, h.1.2.2.1, h.1.2.2.2, h.2⟩) (HS.out _ (Hb8.out))) (fun hHeld => ?_)
    clear hK K; (try simp only [tkS])
    refine tk1 9 (fun K hK => ?_)
    go_simp
    go_at_call 58
    refine (H9.out _ (Hb8.out) _ HO8.out).mono ?_
    rintro e5 w9 ⟨v9, rfl, hv9, hb9⟩
    have HO3 := hI (HO3.out.mono hb9)
    have HO4 := hI (HO4.out.mono hb9)
    have HO8 := hI (HO8.out.mono hb9)
    have Hb9 := hI (bw_via (Hb8.out) hb9)
    obtain ⟨x91, a91, k91, c91, rfl, hv9⟩ := hv9.open
    have HO9 := hI hv9
    clear hv9
    clear hb9
    refine hK.out _ _ (by exact (fun h => ⟨h.1.1, h.1.2.1, h.1.2.2.1, h.1.2.2.2, h.2⟩) (HS.out _ (Hb9.out))) (fun hHeld => ?_)
    clear hK K; (try simp only [tkS])
    refine tk1 10 (fun K hK => ?_)
    go_simp
    go_at_call 56
    refine (H10.out _ _ _ HO4.out HO9.out).mono ?_
    rintro e5 w10 ⟨v10, rfl, hv10, hb10⟩
    have HO3 := hI (HO3.out.mono hb10)
    have HO4 := hI (HO4.out.mono hb10)
    have HO8 := hI (HO8.out.mono hb10)
    have HO9 := hI (HO9.out.mono hb10)
    have Hb10 := hI (bw_via (Hb9.out) hb10)
    obtain ⟨x101, a101, k101, c101, rfl, hv10⟩ := hv10.open
    have HO10 := hI hv10
    clear hv10
    clear hb10
    refine hK.out _ _ (by exact (fun h => ⟨h.1.1, h.1.2.1, h.1.2.2.1, h.1.2.2.2, h.2⟩) (HS.out _ (Hb10.out))) (fun hHeld => ?_)
    clear hK K; (try simp only [tkS])
    refine tk1 12 (fun K hK => ?_)
    go_simp
    go_at_call 59
    refine (HDA.out _ (Hb10.out)).mono ?_
    rintro e5 w12 ⟨v12, rfl, hv12, hb12⟩
    have HO3 := hI (HO3.out.mono hb12)
    have HO4 := hI (HO4.out.mono hb12)
    have HO8 := hI (HO8.out.mono hb12)
    have HO9 := hI (HO9.out.mono hb12)
    have HO10 := hI (HO10.out.mono hb12)
    have Hb12 := hI (bw_via (Hb10.out) hb12)
    obtain ⟨x121, a121, k121, c121, rfl, hv12⟩ := hv12.open
    have HO12 := hI hv12
    clear hv12
    clear hb12
    refine hK.out _ _ (by exact (fun h => ⟨h.1.1, h.1.2.1, h.1.2.2.1, h.1.2.2.2, h.2⟩) (HS.out _ (Hb12.out))) (fun hHeld => ?_)
    clear hK K; (try simp only [tkS])
    refine tk1 14 (fun K hK => ?_)
    go_simp
    go_at_call 59
    refine (HDB.out _ (Hb12.out)).mono ?_
    rintro e5 w14 ⟨v14, rfl, hv14, hb14⟩
    have HO3 := hI (HO3.out.mono hb14)
    have HO4 := hI (HO4.out.mono hb14)
    have HO8 := hI (HO8.out.mono hb14)
    have HO9 := hI (HO9.out.mono hb14)
    have HO10 := hI (HO10.out.mono hb14)
    have HO12 := hI (HO12.out.mono hb14)
    have Hb14 := hI (bw_via (Hb12.out) hb14)
    obtain ⟨x141, a141, k141, c141, rfl, hv14⟩ := hv14.open
    have HO14 := hI hv14
    clear hv14
    clear hb14
    refine hK.out _ _ (by exact (fun h => ⟨h.1.1, h.1.2.1, h.1.2.2.1, h.1.2.2.2, h.2⟩) (HS.out _ (Hb14.out))) (fun hHeld => ?_)
    clear hK K; (try simp only [tkS])
    refine tk1 15 (fun K hK => ?_)
    go_simp
    go_at_call 58
    refine (H15.out _ _ _ HO12.out HO14.out).mono ?_
    rintro e5 w15 ⟨v15, rfl, hv15, hb15⟩
    have HO3 := hI (HO3.out.mono hb15)
    have HO4 := hI (HO4.out.mono hb15)
    have HO8 := hI (HO8.out.mono hb15)
    have HO9 := hI (HO9.out.mono hb15)
    have HO10 := hI (HO10.out.mono hb15)
    have HO12 := hI (HO12.out.mono hb15)
    have HO14 := hI (HO14.out.mono hb15)
    have Hb15 := hI (bw_via (Hb14.out) hb15)
    obtain ⟨x151, a151, k151, c151, rfl, hv15⟩ := hv15.open
    have HO15 := hI hv15
    clear hv15
    clear hb15
    refine hK.out _ _ (by exact (fun h => ⟨h.1.1, h.1.2.1, h.1.2.2.1, h.1.2.2.2, h.2⟩) (HS.out _ (Hb15.out))) (fun hHeld => ?_)
    clear hK K; (try simp only [tkS])
    refine tk1 16 (fun K hK => ?_)
    go_simp
    go_at_call 57
    refine (H16.out _ _ _ HO10.out HO15.out).mono ?_
    rintro e5 w16 ⟨v16, rfl, hv16, hb16⟩
    have HO3 := hI (HO3.out.mono hb16)
    have HO4 := hI (HO4.out.mono hb16)
    have HO8 := hI (HO8.out.mono hb16)
    have HO9 := hI (HO9.out.mono hb16)
    have HO10 := hI (HO10.out.mono hb16)
    have HO12 := hI (HO12.out.mono hb16)
    have HO14 := hI (HO14.out.mono hb16)
    have HO15 := hI (HO15.out.mono hb16)
    have Hb16 := hI (bw_via (Hb15.out) hb16)
    obtain ⟨x5, a5, n5, c5, x6, a6, n6, c6, rfl, hv16⟩ := hv16.open
    have HO16 := hI hv16
    clear hv16
    clear hb16
    refine hK.out _ _ (by exact (fun h => ⟨h.1.1, h.1.2.1, h.1.2.2.1, h.1.2.2.2, h.2⟩) (HS.out _ (Hb16.out))) (fun hHeld => ?_)
    clear hK K; (try simp only [tkS])
    refine tkD ?_ _
    simp only [Exit.then]
    have hr := HR.out.below Hb16.out
    obtain ⟨⟨r0, r1, r2, r3⟩, f0, f1, f2, f3⟩ := blk4v hr
    obtain ⟨hv6, hb6⟩ := RQ.put4 HO16.out hr
    have Hv6 := hI hv6
    have Hb6 := hI hb6
    have Hbel := hI (put_below4 (b := w.heap.size + 1 + 1) (.bool x5) (.slice a5 n5 c5) (.bool x6) (.slice a6 n6 c6) (HK.out.via Hb16.out HK.out.size) (by omega))
    clear hv6 hb6 hr
    go_wp2_with fail
    obtain ⟨⟨q0, q1, q2, q3⟩, -⟩ := blk4v Hb6.out
    exact bodyPost_ret (v := .agg #[.bool x5, .slice a5 n5 c5, .bool x6, .slice a6 n6 c6]) (by simp [results, Tryz.results32, go_sem, q0, q1, q2, q3]) rfl ⟨_, rfl, Hv6.out, Hbel.out⟩
end Go.Proofs.YtlcmhbkmpkcajaaGreatDoor
