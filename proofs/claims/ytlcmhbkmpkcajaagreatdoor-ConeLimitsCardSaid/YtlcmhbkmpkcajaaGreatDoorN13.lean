/-
  Parts of the proof: Readg, Ratc.
-/
import Derived.Test.YtlcmhbkmpkcajaaGreatDoorN12
namespace Go.Proofs.YtlcmhbkmpkcajaaGreatDoor
open Go.RowKit
def numR (l : List UInt8) : Int := if errL l = 0 then numL l else 0
def denR (l : List UInt8) : Int := if errL l = 0 then (denL l : Int) else 0
def RdPost (l : List UInt8) (v : Value) (w' : World) : Prop := ∃ x a n c y a' m e, v = .tuple #[.agg #[.bool x, .slice a n c, .bool y, .slice a' m e], .int .i64 (errL l)] ∧ RatV w' (.agg #[.bool x, .slice a n c, .bool y, .slice a' m e]) (numR l) (denR l) ∧ AU w' a ∧ AU w' a'
theorem rread_g (s : ByteArray) (w : World) (hs : s.size ≤ 5000) : Calls Tryz.prog 38 #[.string s, .int .i64 65536] w (RetP (fun v w' => RdPost s.data.toList v w') w) := by
  obtain ⟨l, hl⟩ : ∃ l, s.data.toList = l := ⟨_, rfl⟩
  have hll : l.length ≤ 5000 := by rw [← hl, ← Lib.size_eq]; exact hs
  rw [hl]
  have ht60 : (topL l).length ≤ 5000 := Nat.le_trans (topL_len l) hll
  have hb60 : (botL l).length ≤ 5000 := Nat.le_trans (botL_len l) hll
  have hp60 : (absL (topL l)).length ≤ 5000 := Nat.le_trans (absL_len _) ht60
  -- an error
  have herr : ∀ c : Int, c ≠ 0 → errL l = c → Calls Tryz.prog 38 #[.string s, .int .i64 65536] w (Ret (.tuple #[.agg #[.bool false, .slice none 0 0, .bool false, .slice none 0 0], .int .i64 c]) w) → Calls Tryz.prog 38 #[.string s, .int .i64 65536] w (RetP (fun v w' => RdPost l v w') w) := by
    intro c hc he h
    refine h.mono ?_
    rintro e w' ⟨rfl, hb⟩
    refine ⟨_, rfl, ⟨false, none, 0, 0, false, none, 0, 0, by rw [he], ?_, AU.none _, AU.none _⟩, hb⟩
    unfold numR denR
    rw [he, if_neg hc, if_neg hc]
    exact RatV.zero w'
  by_cases h1 : digB (absL (topL l)) = true
  · by_cases h2 : divB l = true
    · by_cases h3 : digB (botL l) = true
      · by_cases h4 : zerB (botL l) = true
        · exact herr 19 (by decide) (by unfold errL; simp [h1, h2, h3, h4]) (read_e3 s l _ _ _ true _ w hs hl rfl rfl h2 rfl rfl ht60 hb60 hp60 h1 rfl h3 h4)
        · simp only [Bool.not_eq_true] at h4
          by_cases h6 : badI (absL (topL l)) (negB (topL l)) = true
          · exact herr 3 (by decide) (by unfold errL; simp [h1, h2, h3, h4, h6]) (read_e5 s l _ _ _ true _ w hs hl rfl rfl h2 rfl rfl ht60 hb60 hp60 h1 rfl h3 h4 h6)
          · simp only [Bool.not_eq_true] at h6
            by_cases h7 : badI (botL l) false = true
            · exact herr 3 (by decide) (by unfold errL; simp [h1, h2, h3, h4, h6, h7]) (read_e6 s l _ _ _ true _ w hs hl rfl rfl h2 rfl rfl ht60 hb60 hp60 h1 rfl h3 h4 h6 h7)
            · simp only [Bool.not_eq_true] at h7
              by_cases h8 : valD (botL l) = 1
              · exact herr 3 (by decide) (by unfold errL; simp [h1, h2, h3, h4, h6, h7, h8]) (read_e7 s l _ _ _ true _ w hs hl rfl rfl h2 rfl rfl ht60 hb60 hp60 h1 rfl h3 h4 h6 h7 h8)
              · by_cases h9 : Nat.gcd (valD (absL (topL l))) (valD (botL l)) = 1
                · refine (read_o2 s l _ _ _ true _ w hs hl rfl rfl h2 rfl rfl ht60 hb60 hp60 h1 rfl h3 h4 h6 h7 h8 h9).mono ?_
                  have e0 : errL l = 0 := by unfold errL; simp [h1, h2, h3, h4, h6, h7, h8, h9]
                  rintro e w' ⟨v, rfl, ⟨x, a, n, c, y, a', m, k, rfl, hv, hu, hu'⟩, hb⟩
                  refine ⟨_, rfl, ⟨x, a, n, c, y, a', m, k, by rw [e0], ?_, hu, hu'⟩, hb⟩
                  unfold numR denR denL
                  rw [if_pos e0, if_pos e0, if_pos h2]
                  exact hv
                · exact herr 3 (by decide) (by unfold errL; simp [h1, h2, h3, h4, h6, h7, h8, h9]) (read_e8 s l _ _ _ true _ w hs hl rfl rfl h2 rfl rfl ht60 hb60 hp60 h1 rfl h3 h4 h6 h7 h8 h9)
      · simp only [Bool.not_eq_true] at h3
        exact herr 14 (by decide) (by unfold errL; simp [h1, h2, h3]) (read_e2 s l _ _ _ true _ w hs hl rfl rfl h2 rfl rfl ht60 hb60 hp60 h1 rfl h3)
    · simp only [Bool.not_eq_true] at h2
      by_cases h6 : badI (absL (topL l)) (negB (topL l)) = true
      · exact herr 3 (by decide) (by unfold errL; simp [h1, h2, h6]) (read_e4 s l _ _ _ false _ w hs hl rfl rfl h2 rfl rfl ht60 hb60 hp60 h1 rfl h6)
      · simp only [Bool.not_eq_true] at h6
        refine (read_o1 s l _ _ _ false _ w hs hl rfl rfl h2 rfl rfl ht60 hb60 hp60 h1 rfl h6).mono ?_
        have e0 : errL l = 0 := by unfold errL; simp [h1, h2, h6]
        rintro e w' ⟨v, rfl, ⟨x, a, n, c, rfl, hv, hu⟩, hb⟩
        refine ⟨_, rfl, ⟨x, a, n, c, false, none, 0, 0, by rw [e0], ?_, hu, AU.none _⟩, hb⟩
        unfold numR denR denL
        rw [if_pos e0, if_pos e0, h2]
        exact hv
  · simp only [Bool.not_eq_true] at h1
    exact herr 14 (by decide) (by unfold errL; simp [h1]) (read_e1 s l _ _ _ (divB l) _ w hs hl rfl rfl rfl rfl rfl ht60 hb60 hp60 h1)
set_option maxHeartbeats 4000000 in
theorem read_g (s : ByteArray) (w : World) (hs : s.size ≤ 5000) : Calls Tryz.prog 27 #[.string s] w (RetP (fun v w' => RdPost s.data.toList v w') w) := by
  have H := hI (fun w' => rread_g s w' hs)
  generalize s.data.toList = l at *
  have HR := hI (Blk.new w #[.bool false, .slice none 0 0, .bool false, .slice none 0 0] 61)
  clear hs
  unfold RdPost at *
  generalize errL l = code at *
  go_enter Tryz.func27, Tryz.ntmps27
  go_wp2_with (go_at_call 38; refine (H.out _).mono ?_; rintro e w3 ⟨v, rfl, ⟨x5, a5, n5, c5, y5, b5, m5, k5, rfl, hv, hau, hau'⟩, hb3⟩; have hr := HR.out.below hb3; obtain ⟨⟨r0, r1, r2, r3⟩, f0, f1, f2, f3⟩ := blk4v hr; obtain ⟨hv6, hb6⟩ := RatV.put4 hv hr; have Hv6 := hI hv6; have HA6 := hI (((((hau).set w.heap.size 0 (.bool x5)).set w.heap.size 1 (.slice a5 n5 c5)).set w.heap.size 2 (.bool y5)).set w.heap.size 3 (.slice b5 m5 k5)); have HA7 := hI (((((hau').set w.heap.size 0 (.bool x5)).set w.heap.size 1 (.slice a5 n5 c5)).set w.heap.size 2 (.bool y5)).set w.heap.size 3 (.slice b5 m5 k5)); have Hb6 := hI hb6; have Hbel := hI (put_below4 (b := w.heap.size) (.bool x5) (.slice a5 n5 c5) (.bool y5) (.slice b5 m5 k5) ((below1 w (.cells #[.bool false, .slice none 0 0, .bool false, .slice none 0 0] 61)).via hb3 (below1 w _).size) (Nat.le_refl _)); clear hb3 hv hr hv6 hb6)
  obtain ⟨⟨q0, q1, q2, q3⟩, -⟩ := blk4v Hb6.out
  exact bodyPost_ret (v := .tuple #[.agg #[.bool x5, .slice a5 n5 c5, .bool y5, .slice b5 m5 k5], .int .i64 code]) (by simp [results, Tryz.results27, go_sem, q0, q1, q2, q3]) rfl ⟨_, rfl, ⟨_, _, _, _, _, _, _, _, rfl, Hv6.out, HA6.out, HA7.out⟩, Hbel.out⟩
end Go.Proofs.YtlcmhbkmpkcajaaGreatDoor
namespace Go.Proofs.YtlcmhbkmpkcajaaGreatDoor
open Go.RowKit
def dn (q : Int) : Int := if q = 0 then 1 else q
theorem whole_g (v : Value) (p q : Int) (w : World) (h : RatV w v p q) : Calls Tryz.prog 36 #[v] w (Ret (.bool (decide (dn q = 1))) w) := by
  by_cases h0 : q = 0
  · subst h0
    rw [show decide (dn 0 = 1) = true from rfl]
    exact (whole_d v p w h).mono fun _ _ h => h.ret
  · rw [show dn q = q by unfold dn; rw [if_neg h0]]
    exact whole_q v p q w h h0
set_option maxHeartbeats 2000000 in
theorem denq_any (v : Value) (p q : Int) (w : World) (h : RatV w v p q) (h0 : q ≠ 0) : Calls Tryz.prog 59 #[v] w (RetP (fun r w' => IntV w' r q) w) := by
  obtain ⟨x, a, n, c, x', a', n', c', rfl, h⟩ := h.open
  have hR : Blk ((w.alloc (.cells #[.bool x, .slice a n c, .bool x', .slice a' n' c'] 61)).alloc (.cells #[.bool false, .slice none 0 0] 59)) (w.heap.size + 1) #[.bool false, .slice none 0 0] 59 := by
    have h := Blk.new (w.alloc (.cells #[.bool x, .slice a n c, .bool x', .slice a' n' c'] 61)) #[.bool false, .slice none 0 0] 59
    simpa using h
  have hA : Blk ((w.alloc (.cells #[.bool x, .slice a n c, .bool x', .slice a' n' c'] 61)).alloc (.cells #[.bool false, .slice none 0 0] 59)) w.heap.size #[.bool x, .slice a n c, .bool x', .slice a' n' c'] 61 := (Blk.new w _ _).old _
  have HR := hI hR
  have HA := hI hA
  have HK := hI (below2 w (.cells #[.bool x, .slice a n c, .bool x', .slice a' n' c'] 61) (.cells #[.bool false, .slice none 0 0] 59))
  have H1 := hI (sign_any _ q ((w.alloc (.cells #[.bool x, .slice a n c, .bool x', .slice a' n' c'] 61)).alloc (.cells #[.bool false, .slice none 0 0] 59)) (h.parts.2.mono HK.out))
  have HV := hI (fun w' (hb : Below ((w.alloc (.cells #[.bool x, .slice a n c, .bool x', .slice a' n' c'] 61)).alloc (.cells #[.bool false, .slice none 0 0] 59)).heap.size ((w.alloc (.cells #[.bool x, .slice a n c, .bool x', .slice a' n' c'] 61)).alloc (.cells #[.bool false, .slice none 0 0] 59)) w') => (h.parts.2.mono HK.out).mono hb)
  have hsg : ((q.sign : Int) == 0) = false := by simpa using h0
  generalize q.sign = sg at *
  clear h hR hA h0
  go_enter Tryz.func59, Tryz.ntmps59
  go_wp2_with (go_at_call 34; refine (H1.out).mono ?_; rintro e1 w1 ⟨rfl, hb1⟩; have hr := HR.out.below hb1; obtain ⟨⟨r0, r1⟩, f0, f1⟩ := blk2v hr; obtain ⟨⟨s0, s1, s2, s3⟩, -⟩ := blk4v (HA.out.below hb1); obtain ⟨hv6, hb6⟩ := IntV.put2 (HV.out _ hb1) hr; have Hv6 := hI hv6; have Hb6 := hI hb6; have Hbel := hI (put_below (b := w.heap.size + 1) x' a' n' c' (HK.out.via hb1 HK.out.size) (by omega)); clear hr hv6 hb6 hb1)
  obtain ⟨⟨q0, q1⟩, -⟩ := blk2v Hb6.out
  exact bodyPost_ret (v := .agg #[.bool x', .slice a' n' c']) (by simp [results, Tryz.results59, go_sem, q0, q1]) rfl ⟨_, rfl, Hv6.out, Hbel.out⟩
theorem den_g (v : Value) (p q : Int) (w : World) (h : RatV w v p q) : Calls Tryz.prog 59 #[v] w (RetP (fun r w' => IntV w' r (dn q)) w) := by
  by_cases h0 : q = 0
  · subst h0
    exact den0_any v p w h
  · rw [show dn q = q by unfold dn; rw [if_neg h0]]
    exact denq_any v p q w h h0
def cmpQ (p q p' q' : Int) : Int := cmpZ (p * dn q') (p' * dn q)
def FewR (p q : Int) : Prop := Few p.natAbs ∧ Few (dn q).natAbs
set_option maxHeartbeats 8000000 in
set_option maxRecDepth 100000 in
theorem rcmp_g (u v : Value) (p q p' q' : Int) (w : World) (h : RatV w u p q) (h' : RatV w v p' q') (hf : FewR p q) (hf' : FewR p' q') : Calls Tryz.prog 91 #[u, v] w (Ret (.int .i64 (cmpQ p q p' q')) w) := by
  obtain ⟨x, a, n, c, x', a', n', c', rfl, h⟩ := h.open
  obtain ⟨y, e, m, k, y', e', m', k', rfl, h'⟩ := h'.open
  have hA : Blk ((w.alloc (.cells #[.bool x, .slice a n c, .bool x', .slice a' n' c'] 61)).alloc (.cells #[.bool y, .slice e m k, .bool y', .slice e' m' k'] 61)) w.heap.size #[.bool x, .slice a n c, .bool x', .slice a' n' c'] 61 := (Blk.new w _ _).old _
  have hB : Blk ((w.alloc (.cells #[.bool x, .slice a n c, .bool x', .slice a' n' c'] 61)).alloc (.cells #[.bool y, .slice e m k, .bool y', .slice e' m' k'] 61)) (w.heap.size + 1) #[.bool y, .slice e m k, .bool y', .slice e' m' k'] 61 := by
    have h := Blk.new (w.alloc (.cells #[.bool x, .slice a n c, .bool x', .slice a' n' c'] 61)) #[.bool y, .slice e m k, .bool y', .slice e' m' k'] 61
    simpa using h
  have HK := hI (below2 w (.cells #[.bool x, .slice a n c, .bool x', .slice a' n' c'] 61) (.cells #[.bool y, .slice e m k, .bool y', .slice e' m' k'] 61))
  have HS := hI (fun w' (hb : Below ((w.alloc (.cells #[.bool x, .slice a n c, .bool x', .slice a' n' c'] 61)).alloc (.cells #[.bool y, .slice e m k, .bool y', .slice e' m' k'] 61)).heap.size ((w.alloc (.cells #[.bool x, .slice a n c, .bool x', .slice a' n' c'] 61)).alloc (.cells #[.bool y, .slice e m k, .bool y', .slice e' m' k'] 61)) w') => And.intro (blk4v (hA.below hb)).1 (blk4v (hB.below hb)).1)
  have HP := hI (fun w' (hb : Below ((w.alloc (.cells #[.bool x, .slice a n c, .bool x', .slice a' n' c'] 61)).alloc (.cells #[.bool y, .slice e m k, .bool y', .slice e' m' k'] 61)).heap.size ((w.alloc (.cells #[.bool x, .slice a n c, .bool x', .slice a' n' c'] 61)).alloc (.cells #[.bool y, .slice e m k, .bool y', .slice e' m' k'] 61)) w') => And.intro ((h.mono HK.out).mono hb) ((h'.mono HK.out).mono hb))
  have H1 := hI (fun w' (hb : Below ((w.alloc (.cells #[.bool x, .slice a n c, .bool x', .slice a' n' c'] 61)).alloc (.cells #[.bool y, .slice e m k, .bool y', .slice e' m' k'] 61)).heap.size ((w.alloc (.cells #[.bool x, .slice a n c, .bool x', .slice a' n' c'] 61)).alloc (.cells #[.bool y, .slice e m k, .bool y', .slice e' m' k'] 61)) w') => whole_g _ p q w' ((h.mono HK.out).mono hb))
  have H2 := hI (fun w' (hb : Below ((w.alloc (.cells #[.bool x, .slice a n c, .bool x', .slice a' n' c'] 61)).alloc (.cells #[.bool y, .slice e m k, .bool y', .slice e' m' k'] 61)).heap.size ((w.alloc (.cells #[.bool x, .slice a n c, .bool x', .slice a' n' c'] 61)).alloc (.cells #[.bool y, .slice e m k, .bool y', .slice e' m' k'] 61)) w') => whole_g _ p' q' w' ((h'.mono HK.out).mono hb))
  have HF := hI (And.intro hf hf')
  clear hA hB h h' hf hf'
  by_cases hq : dn q = 1
  · by_cases hq' : dn q' = 1
    · have H3 := hI (fun w' (hb : Below ((w.alloc (.cells #[.bool x, .slice a n c, .bool x', .slice a' n' c'] 61)).alloc (.cells #[.bool y, .slice e m k, .bool y', .slice e' m' k'] 61)).heap.size ((w.alloc (.cells #[.bool x, .slice a n c, .bool x', .slice a' n' c'] 61)).alloc (.cells #[.bool y, .slice e m k, .bool y', .slice e' m' k'] 61)) w') => compare_any _ _ p p' w' (HP.out w' hb).1.parts.1 (HP.out w' hb).2.parts.1)
      unfold cmpQ
      rw [hq, hq', Int.mul_one, Int.mul_one]
      rw [decide_eq_true hq] at H1
      rw [decide_eq_true hq'] at H2
      generalize cmpZ p p' = R at *
      clear hq hq'
      go_enter Tryz.func91, Tryz.ntmps91
      obtain ⟨⟨s0, s1, s2, s3⟩, t0, t1, t2, t3⟩ := HS.out _ (Below.refl _ _)
      go_wp2_with (first
        | (have _t := Hb1; clear _t; go_at_call 36; refine (H2.out _ Hb1.out).mono ?_; rintro e w2 ⟨rfl, hb2⟩; have Hb2 := hI (bw_via Hb1.out hb2); obtain ⟨⟨s0, s1, s2, s3⟩, t0, t1, t2, t3⟩ := HS.out _ Hb2.out; clear hb2)
        | (go_at_call 36; refine (H1.out _ (Below.refl _ _)).mono ?_; rintro e w1 ⟨rfl, hb1⟩; have Hb1 := hI hb1; obtain ⟨⟨s0, s1, s2, s3⟩, t0, t1, t2, t3⟩ := HS.out _ hb1; clear hb1)
        | (go_at_call 61; refine (H3.out _ Hb2.out).mono ?_; rintro e w3 ⟨rfl, hb3⟩))
      go_ret
      exact ⟨rfl, HK.out.via (bw_via Hb2.out hb3) HK.out.size⟩
    · rw [decide_eq_true hq] at H1
      rw [decide_eq_false hq'] at H2
      have H3 := hI (fun w' (hb : Below ((w.alloc (.cells #[.bool x, .slice a n c, .bool x', .slice a' n' c'] 61)).alloc (.cells #[.bool y, .slice e m k, .bool y', .slice e' m' k'] 61)).heap.size ((w.alloc (.cells #[.bool x, .slice a n c, .bool x', .slice a' n' c'] 61)).alloc (.cells #[.bool y, .slice e m k, .bool y', .slice e' m' k'] 61)) w') => den_g _ p' q' w' (HP.out w' hb).2)
      have H4 := hI (fun w' (hb : Below ((w.alloc (.cells #[.bool x, .slice a n c, .bool x', .slice a' n' c'] 61)).alloc (.cells #[.bool y, .slice e m k, .bool y', .slice e' m' k'] 61)).heap.size ((w.alloc (.cells #[.bool x, .slice a n c, .bool x', .slice a' n' c'] 61)).alloc (.cells #[.bool y, .slice e m k, .bool y', .slice e' m' k'] 61)) w') r (hr : IntV w' r (dn q')) => mul_any _ r p (dn q') w' (HP.out w' hb).1.parts.1 hr HF.out.1.1 HF.out.2.2)
      have H8 := hI (fun w' (hb : Below ((w.alloc (.cells #[.bool x, .slice a n c, .bool x', .slice a' n' c'] 61)).alloc (.cells #[.bool y, .slice e m k, .bool y', .slice e' m' k'] 61)).heap.size ((w.alloc (.cells #[.bool x, .slice a n c, .bool x', .slice a' n' c'] 61)).alloc (.cells #[.bool y, .slice e m k, .bool y', .slice e' m' k'] 61)) w') => den_g _ p q w' (HP.out w' hb).1)
      have H9 := hI (fun w' (hb : Below ((w.alloc (.cells #[.bool x, .slice a n c, .bool x', .slice a' n' c'] 61)).alloc (.cells #[.bool y, .slice e m k, .bool y', .slice e' m' k'] 61)).heap.size ((w.alloc (.cells #[.bool x, .slice a n c, .bool x', .slice a' n' c'] 61)).alloc (.cells #[.bool y, .slice e m k, .bool y', .slice e' m' k'] 61)) w') r (hr : IntV w' r (dn q)) => mul_any _ r p' (dn q) w' (HP.out w' hb).2.parts.1 hr HF.out.2.1 HF.out.1.2)
      have H10 := hI (fun w' r r' (hr : IntV w' r (p * dn q')) (hr' : IntV w' r' (p' * dn q)) => compare_any r r' _ _ w' hr hr')
      unfold cmpQ
      generalize cmpZ (p * dn q') (p' * dn q) = R at *
      go_enter Tryz.func91, Tryz.ntmps91
      obtain ⟨⟨s0, s1, s2, s3⟩, t0, t1, t2, t3⟩ := HS.out _ (Below.refl _ _)
      go_wp2_with (first
        | (have _t := Hb1; clear _t; go_at_call 36; refine (H2.out _ Hb1.out).mono ?_; rintro e w2 ⟨rfl, hb2⟩; have Hb2 := hI (bw_via Hb1.out hb2); obtain ⟨⟨s0, s1, s2, s3⟩, t0, t1, t2, t3⟩ := HS.out _ Hb2.out; clear hb2)
        | (go_at_call 36; refine (H1.out _ (Below.refl _ _)).mono ?_; rintro e w1 ⟨rfl, hb1⟩; have Hb1 := hI hb1; obtain ⟨⟨s0, s1, s2, s3⟩, t0, t1, t2, t3⟩ := HS.out _ hb1; clear hb1))
      refine wp_region_held_drew (S := (fun w' => w'.cell? ⟨w.heap.size, 0, none⟩ = some (.bool x) ∧ w'.cell? ⟨w.heap.size, 1, none⟩ = some (.slice a n c) ∧ w'.cell? ⟨w.heap.size, 2, none⟩ = some (.bool x') ∧ w'.cell? ⟨w.heap.size, 3, none⟩ = some (.slice a' n' c') ∧ w'.cell? ⟨w.heap.size + 1, 0, none⟩ = some (.bool y) ∧ w'.cell? ⟨w.heap.size + 1, 1, none⟩ = some (.slice e m k) ∧ w'.cell? ⟨w.heap.size + 1, 2, none⟩ = some (.bool y') ∧ w'.cell? ⟨w.heap.size + 1, 3, none⟩ = some (.slice e' m' k'))) (by kernel_rfl) (by exact (fun h => ⟨h.1.1, h.1.2.1, h.1.2.2.1, h.1.2.2.2, h.2⟩) (HS.out _ (Hb2.out.dn 1))) (fun hHeld => ?_)
      refine wpAnyH_take (i := 0) (v := ?v1) rfl (by kernel_rfl) (by kernel_rfl) (by kernel_rfl) (fun _ _ _ h => h) (Or.inl ⟨by rfl, ?hy1⟩) (by assumption) ?rest1
      case hy1 => (intro w hSw; (try dsimp only at hSw); go_simp; try (with_reducible rfl))
      try simp only [Act.put, List.getElem_toArray, List.getElem_cons_zero, List.setIfInBounds_toArray, List.set_cons_zero, List.set_cons_succ]
      refine' tk 1 ?_; (try simp only [tkS]); refine' tk 2 ?_; (try simp only [tkS]); refine' tk 5 ?_; (try simp only [tkS]); refine' tk 6 ?_; (try simp only [tkS]); refine' tk 7 ?_; (try simp only [tkS])
      refine tk1 3 (fun K hK => ?_)
      go_simp
      go_at_call 59
      refine (H3.out _ (Hb2.out.dn 1)).mono ?_
      rintro e5 w3 ⟨v3, rfl, hv3, hb3⟩
      have Hb3 := hI (bw_via (Hb2.out.dn 1) hb3)
      obtain ⟨x31, a31, k31, c31, rfl, hv3⟩ := hv3.open
      have HO3 := hI hv3
      clear hv3
      clear hb3
      refine hK.out _ _ (by exact (fun h => ⟨h.1.1, h.1.2.1, h.1.2.2.1, h.1.2.2.2, h.2⟩) (HS.out _ (Hb3.out))) (fun hHeld => ?_)
      clear hK K; (try simp only [tkS])
      refine tk1 4 (fun K hK => ?_)
      go_simp
      go_at_call 58
      refine (H4.out _ (Hb3.out) _ HO3.out).mono ?_
      rintro e5 w4 ⟨v4, rfl, hv4, hb4⟩
      have HO3 := hI (HO3.out.mono hb4)
      have Hb4 := hI (bw_via (Hb3.out) hb4)
      obtain ⟨x41, a41, k41, c41, rfl, hv4⟩ := hv4.open
      have HO4 := hI hv4
      clear hv4
      clear hb4
      refine hK.out _ _ (by exact (fun h => ⟨h.1.1, h.1.2.1, h.1.2.2.1, h.1.2.2.2, h.2⟩) (HS.out _ (Hb4.out))) (fun hHeld => ?_)
      clear hK K; (try simp only [tkS])
      refine tk1 8 (fun K hK => ?_)
      go_simp
      go_at_call 59
      refine (H8.out _ (Hb4.out)).mono ?_
      rintro e5 w8 ⟨v8, rfl, hv8, hb8⟩
      have HO3 := hI (HO3.out.mono hb8)
      have HO4 := hI (HO4.out.mono hb8)
      have Hb8 := hI (bw_via (Hb4.out) hb8)
      obtain ⟨x81, a81, k81, c81, rfl, hv8⟩ := hv8.open
      have HO8 := hI hv8
      clear hv8
      clear hb8
      refine hK.out _ _ (by exact (fun h => ⟨h.1.1, h.1.2.1, h.1.2.2.1, h.1.2.2.2, h.2⟩) (HS.out _ (Hb8.out))) (fun hHeld => ?_)
      clear hK K; (try simp only [tkS])
      refine tk1 9 (fun K hK => ?_)
      go_simp
      go_at_call 58
      refine (H9.out _ (Hb8.out) _ HO8.out).mono ?_
      rintro e5 w9 ⟨v9, rfl, hv9, hb9⟩
      have HO3 := hI (HO3.out.mono hb9)
      have HO4 := hI (HO4.out.mono hb9)
      have HO8 := hI (HO8.out.mono hb9)
      have Hb9 := hI (bw_via (Hb8.out) hb9)
      obtain ⟨x91, a91, k91, c91, rfl, hv9⟩ := hv9.open
      have HO9 := hI hv9
      clear hv9
      clear hb9
      refine hK.out _ _ (by exact (fun h => ⟨h.1.1, h.1.2.1, h.1.2.2.1, h.1.2.2.2, h.2⟩) (HS.out _ (Hb9.out))) (fun hHeld => ?_)
      clear hK K; (try simp only [tkS])
      refine tk1 10 (fun K hK => ?_)
      go_simp
      go_at_call 61
      refine (H10.out _ _ _ HO4.out HO9.out).mono ?_
      rintro e5 w10 ⟨rfl, hb10⟩
      have HO3 := hI (HO3.out.mono hb10)
      have HO4 := hI (HO4.out.mono hb10)
      have HO8 := hI (HO8.out.mono hb10)
      have HO9 := hI (HO9.out.mono hb10)
      have Hb10 := hI (bw_via (Hb9.out) hb10)
      clear hb10
      refine hK.out _ _ (by exact (fun h => ⟨h.1.1, h.1.2.1, h.1.2.2.1, h.1.2.2.2, h.2⟩) (HS.out _ (Hb10.out))) (fun hHeld => ?_)
      clear hK K; (try simp only [tkS])
      refine' tk 11 ?_; (try simp only [tkS])
      refine tkD ?_ _
      go_wp2_with fail
      go_ret
      exact ⟨rfl, HK.out.via (Hb10.out) HK.out.size⟩
  · rw [decide_eq_false hq] at H1
    have H3 := hI (fun w' (hb : Below ((w.alloc (.cells #[.bool x, .slice a n c, .bool x', .slice a' n' c'] 61)).alloc (.cells #[.bool y, .slice e m k, .bool y', .slice e' m' k'] 61)).heap.size ((w.alloc (.cells #[.bool x, .slice a n c, .bool x', .slice a' n' c'] 61)).alloc (.cells #[.bool y, .slice e m k, .bool y', .slice e' m' k'] 61)) w') => den_g _ p' q' w' (HP.out w' hb).2)
    have H4 := hI (fun w' (hb : Below ((w.alloc (.cells #[.bool x, .slice a n c, .bool x', .slice a' n' c'] 61)).alloc (.cells #[.bool y, .slice e m k, .bool y', .slice e' m' k'] 61)).heap.size ((w.alloc (.cells #[.bool x, .slice a n c, .bool x', .slice a' n' c'] 61)).alloc (.cells #[.bool y, .slice e m k, .bool y', .slice e' m' k'] 61)) w') r (hr : IntV w' r (dn q')) => mul_any _ r p (dn q') w' (HP.out w' hb).1.parts.1 hr HF.out.1.1 HF.out.2.2)
    have H8 := hI (fun w' (hb : Below ((w.alloc (.cells #[.bool x, .slice a n c, .bool x', .slice a' n' c'] 61)).alloc (.cells #[.bool y, .slice e m k, .bool y', .slice e' m' k'] 61)).heap.size ((w.alloc (.cells #[.bool x, .slice a n c, .bool x', .slice a' n' c'] 61)).alloc (.cells #[.bool y, .slice e m k, .bool y', .slice e' m' k'] 61)) w') => den_g _ p q w' (HP.out w' hb).1)
    have H9 := hI (fun w' (hb : Below ((w.alloc (.cells #[.bool x, .slice a n c, .bool x', .slice a' n' c'] 61)).alloc (.cells #[.bool y, .slice e m k, .bool y', .slice e' m' k'] 61)).heap.size ((w.alloc (.cells #[.bool x, .slice a n c, .bool x', .slice a' n' c'] 61)).alloc (.cells #[.bool y, .slice e m k, .bool y', .slice e' m' k'] 61)) w') r (hr : IntV w' r (dn q)) => mul_any _ r p' (dn q) w' (HP.out w' hb).2.parts.1 hr HF.out.2.1 HF.out.1.2)
    have H10 := hI (fun w' r r' (hr : IntV w' r (p * dn q')) (hr' : IntV w' r' (p' * dn q)) => compare_any r r' _ _ w' hr hr')
    unfold cmpQ
    generalize cmpZ (p * dn q') (p' * dn q) = R at *
    go_enter Tryz.func91, Tryz.ntmps91
    obtain ⟨⟨s0, s1, s2, s3⟩, t0, t1, t2, t3⟩ := HS.out _ (Below.refl _ _)
    go_wp2_with (go_at_call 36; refine (H1.out _ (Below.refl _ _)).mono ?_; rintro e w1 ⟨rfl, hb1⟩; have Hb1 := hI hb1; obtain ⟨⟨s0, s1, s2, s3⟩, t0, t1, t2, t3⟩ := HS.out _ hb1; clear hb1)
    refine wp_region_held_drew (S := (fun w' => w'.cell? ⟨w.heap.size, 0, none⟩ = some (.bool x) ∧ w'.cell? ⟨w.heap.size, 1, none⟩ = some (.slice a n c) ∧ w'.cell? ⟨w.heap.size, 2, none⟩ = some (.bool x') ∧ w'.cell? ⟨w.heap.size, 3, none⟩ = some (.slice a' n' c') ∧ w'.cell? ⟨w.heap.size + 1, 0, none⟩ = some (.bool y) ∧ w'.cell? ⟨w.heap.size + 1, 1, none⟩ = some (.slice e m k) ∧ w'.cell? ⟨w.heap.size + 1, 2, none⟩ = some (.bool y') ∧ w'.cell? ⟨w.heap.size + 1, 3, none⟩ = some (.slice e' m' k'))) (by kernel_rfl) (by exact (fun h => ⟨h.1.1, h.1.2.1, h.1.2.2.1, h.1.2.2.2, h.2⟩) (HS.out _ (Hb1.out.dn 1))) (fun hHeld => ?_)
    refine wpAnyH_take (i := 0) (v := ?v8) rfl (by kernel_rfl) (by kernel_rfl) (by kernel_rfl) (fun _ _ _ h => h) (Or.inl ⟨by rfl, ?hy8⟩) (by assumption) ?rest8
    case hy8 => (intro w hSw; (try dsimp only at hSw); go_simp; try (with_reducible rfl))
    try simp only [Act.put, List.getElem_toArray, List.getElem_cons_zero, List.setIfInBounds_toArray, List.set_cons_zero, List.set_cons_succ]
    refine' tk 1 ?_; (try simp only [tkS]); refine' tk 2 ?_; (try simp only [tkS]); refine' tk 5 ?_; (try simp only [tkS]); refine' tk 6 ?_; (try simp only [tkS]); refine' tk 7 ?_; (try simp only [tkS])
    refine tk1 3 (fun K hK => ?_)
    go_simp
    go_at_call 59
    refine (H3.out _ (Hb1.out.dn 1)).mono ?_
    rintro e5 w3 ⟨v3, rfl, hv3, hb3⟩
    have Hb3 := hI (bw_via (Hb1.out.dn 1) hb3)
    obtain ⟨x31, a31, k31, c31, rfl, hv3⟩ := hv3.open
    have HO3 := hI hv3
    clear hv3
    clear hb3
    refine hK.out _ _ (by exact (fun h => ⟨h.1.1, h.1.2.1, h.1.2.2.1, h.1.2.2.2, h.2⟩) (HS.out _ (Hb3.out))) (fun hHeld => ?_)
    clear hK K; (try simp only [tkS])
    refine tk1 4 (fun K hK => ?_)
    go_simp
    go_at_call 58
    refine (H4.out _ (Hb3.out) _ HO3.out).mono ?_
    rintro e5 w4 ⟨v4, rfl, hv4, hb4⟩
    have HO3 := hI (HO3.out.mono hb4)
    have Hb4 := hI (bw_via (Hb3.out) hb4)
    obtain ⟨x41, a41, k41, c41, rfl, hv4⟩ := hv4.open
    have HO4 := hI hv4
    clear hv4
    clear hb4
    refine hK.out _ _ (by exact (fun h => ⟨h.1.1, h.1.2.1, h.1.2.2.1, h.1.2.2.2, h.2⟩) (HS.out _ (Hb4.out))) (fun hHeld => ?_)
    clear hK K; (try simp only [tkS])
    refine tk1 8 (fun K hK => ?_)
    go_simp
    go_at_call 59
    refine (H8.out _ (Hb4.out)).mono ?_
    rintro e5 w8 ⟨v8, rfl, hv8, hb8⟩
    have HO3 := hI (HO3.out.mono hb8)
    have HO4 := hI (HO4.out.mono hb8)
    have Hb8 := hI (bw_via (Hb4.out) hb8)
    obtain ⟨x81, a81, k81, c81, rfl, hv8⟩ := hv8.open
    have HO8 := hI hv8
    clear hv8
    clear hb8
    refine hK.out _ _ (by exact (fun h => ⟨h.1.1, h.1.2.1, h.1.2.2.1, h.1.2.2.2, h.2⟩) (HS.out _ (Hb8.out))) (fun hHeld => ?_)
    clear hK K; (try simp only [tkS])
    refine tk1 9 (fun K hK => ?_)
    go_simp
    go_at_call 58
    refine (H9.out _ (Hb8.out) _ HO8.out).mono ?_
    rintro e5 w9 ⟨v9, rfl, hv9, hb9⟩
    have HO3 := hI (HO3.out.mono hb9)
    have HO4 := hI (HO4.out.mono hb9)
    have HO8 := hI (HO8.out.mono hb9)
    have Hb9 := hI (bw_via (Hb8.out) hb9)
    obtain ⟨x91, a91, k91, c91, rfl, hv9⟩ := hv9.open
    have HO9 := hI hv9
    clear hv9
    clear hb9
    refine hK.out _ _ (by exact (fun h => ⟨h.1.1, h.1.2.1, h.1.2.2.1, h.1.2.2.2, h.2⟩) (HS.out _ (Hb9.out))) (fun hHeld => ?_)
    clear hK K; (try simp only [tkS])
    refine tk1 10 (fun K hK => ?_)
    go_simp
    go_at_call 61
    refine (H10.out _ _ _ HO4.out HO9.out).mono ?_
    rintro e5 w10 ⟨rfl, hb10⟩
    have HO3 := hI (HO3.out.mono hb10)
    have HO4 := hI (HO4.out.mono hb10)
    have HO8 := hI (HO8.out.mono hb10)
    have HO9 := hI (HO9.out.mono hb10)
    have Hb10 := hI (bw_via (Hb9.out) hb10)
    clear hb10
    refine hK.out _ _ (by exact (fun h => ⟨h.1.1, h.1.2.1, h.1.2.2.1, h.1.2.2.2, h.2⟩) (HS.out _ (Hb10.out))) (fun hHeld => ?_)
    clear hK K; (try simp only [tkS])
    refine' tk 11 ?_; (try simp only [tkS])
    refine tkD ?_ _
    go_wp2_with fail
    go_ret
    exact ⟨rfl, HK.out.via (Hb10.out) HK.out.size⟩
end Go.Proofs.YtlcmhbkmpkcajaaGreatDoor
