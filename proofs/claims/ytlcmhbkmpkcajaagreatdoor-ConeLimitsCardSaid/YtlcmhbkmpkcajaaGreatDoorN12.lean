/-
  Parts of the proof: Rrd.
-/
import Derived.Test.YtlcmhbkmpkcajaaGreatDoorN11
namespace Go.Proofs.YtlcmhbkmpkcajaaGreatDoor
open Go.RowKit
theorem blk4d {w : World} {b : Nat} {x0 x1 x2 x3 : Value} {T : TypeId} (h : Blk w b #[x0, x1, x2, x3] T) : w.drew.cell? ⟨b, 0, none⟩ = some x0 ∧ w.drew.cell? ⟨b, 1, none⟩ = some x1 ∧ w.drew.cell? ⟨b, 2, none⟩ = some x2 ∧ w.drew.cell? ⟨b, 3, none⟩ = some x3 := (blk4v h).1
theorem cmp1_ne {n : Nat} (h : n ≠ 1) : cmpZ (sgn false n) 1 ≠ 0 := by
  have e : sgn false n = (n : Int) := rfl
  rw [e]
  unfold cmpZ
  split
  · omega
  · split <;> omega
theorem RatV.mk {w : World} {p q : Int} {x a n c x' a' n' c'} (h1 : IntV w (.agg #[.bool x, .slice a n c]) p) (h2 : IntV w (.agg #[.bool x', .slice a' n' c']) q) : RatV w (.agg #[.bool x, .slice a n c, .bool x', .slice a' n' c']) p q := ⟨x, a, n, c, x', a', n', c', rfl, h1, h2⟩
theorem numeral {t : List UInt8} {d : List UInt8} {neg : Bool} (hd : absL t = d) (hn : negB t = neg) : (⟨t.toArray⟩ : ByteArray).data.toList = if neg then 45 :: d else d := by
  subst hd hn
  exact neg_abs t
set_option maxHeartbeats 4000000 in
set_option maxRecDepth 100000 in
theorem read_e1 (s : ByteArray) (l t b p : List UInt8) (dv neg : Bool) (w : World) (hs : s.size ≤ 5000) (hl : s.data.toList = l) (hT : topL l = t) (hB : botL l = b) (hD : divB l = dv) (hP : absL t = p) (_hN : negB t = neg) (_ht60 : t.length ≤ 5000) (hb60 : b.length ≤ 5000) (hp60 : p.length ≤ 5000) (h1 : digB p = false) : Calls Tryz.prog 38 #[.string s, .int .i64 65536] w (Ret (.tuple #[.agg #[.bool false, .slice none 0 0, .bool false, .slice none 0 0], .int .i64 14]) w) := by
  have H1 := hI (fun w' => cut_g s w' (by omega))
  rw [hl, hT, hB, hD] at H1
  have H2 := hI (fun w' => Tryz.strings_TrimPrefix ⟨t.toArray⟩ ⟨#[45]⟩ w')
  rw [show (⟨#[45]⟩ : ByteArray).data.toList = [45] from rfl, show Lib.trimPrefix (⟨t.toArray⟩ : ByteArray).data.toList [45] = p from hP] at H2
  have H3 := hI (fun w' => digits_g p w' (by omega))
  have H4 := hI (fun w' => digits_g b w' (by omega))
  have H5 := hI (fun w' => trim0_g b w' (by omega))
  have hss2 : ¬ (65536 : Int) < (s.size : Int) := by omega
  have HR := hI (Blk.new w #[.bool false, .slice none 0 0, .bool false, .slice none 0 0] 61)
  rw [h1] at H3
  clear hl hT hB hD hP _hN _ht60 hb60 hp60 hs
  generalize (⟨t.toArray⟩ : ByteArray) = T at *
  generalize (⟨b.toArray⟩ : ByteArray) = B at *
  generalize (⟨p.toArray⟩ : ByteArray) = P at *
  go_enter Tryz.func38, Tryz.ntmps38
  go_wp2_with (first
    | (go_at_call 68; refine (H1.out _).mono ?_; rintro e w1 ⟨rfl, hb1⟩; have Hb1 := hI hb1; clear hb1)
    | (go_at_call 70; refine (H2.out _).mono ?_; rintro e w' ⟨rfl, rfl⟩; skip)
    | (go_at_call 69; refine (H3.out _).mono ?_; rintro e w2 ⟨rfl, hb2⟩; have Hb2 := hI (bw_via Hb1.out hb2); clear hb2; have hr := HR.out.below Hb2.out; obtain ⟨⟨r0, r1, r2, r3⟩, f0, f1, f2, f3⟩ := blk4v hr; have Hr := hI hr; clear hr))
  have hr2 := (((Hr.out.set 0 (.bool false)).set 1 (.slice none 0 0)).set 2 (.bool false)).set 3 (.slice none 0 0)
  obtain ⟨⟨q0, q1, q2, q3⟩, -⟩ := blk4v hr2
  exact bodyPost_ret (v := .tuple #[.agg #[.bool false, .slice none 0 0, .bool false, .slice none 0 0], .int .i64 14]) (by simp [results, Tryz.results38, go_sem, q0, q1, q2, q3]) rfl ⟨rfl, put_below4 (b := w.heap.size) (.bool false) (.slice none 0 0) (.bool false) (.slice none 0 0) ((below1 w (.cells #[.bool false, .slice none 0 0, .bool false, .slice none 0 0] 61)).via Hb2.out (below1 w _).size) (Nat.le_refl _)⟩
set_option maxHeartbeats 4000000 in
set_option maxRecDepth 100000 in
theorem read_e2 (s : ByteArray) (l t b p : List UInt8) (dv neg : Bool) (w : World) (hs : s.size ≤ 5000) (hl : s.data.toList = l) (hT : topL l = t) (hB : botL l = b) (hD : divB l = dv) (hP : absL t = p) (_hN : negB t = neg) (_ht60 : t.length ≤ 5000) (hb60 : b.length ≤ 5000) (hp60 : p.length ≤ 5000) (h1 : digB p = true) (h2 : dv = true) (h3 : digB b = false) : Calls Tryz.prog 38 #[.string s, .int .i64 65536] w (Ret (.tuple #[.agg #[.bool false, .slice none 0 0, .bool false, .slice none 0 0], .int .i64 14]) w) := by
  have H1 := hI (fun w' => cut_g s w' (by omega))
  rw [hl, hT, hB, hD] at H1
  have H2 := hI (fun w' => Tryz.strings_TrimPrefix ⟨t.toArray⟩ ⟨#[45]⟩ w')
  rw [show (⟨#[45]⟩ : ByteArray).data.toList = [45] from rfl, show Lib.trimPrefix (⟨t.toArray⟩ : ByteArray).data.toList [45] = p from hP] at H2
  have H3 := hI (fun w' => digits_g p w' (by omega))
  have H4 := hI (fun w' => digits_g b w' (by omega))
  have H5 := hI (fun w' => trim0_g b w' (by omega))
  have hss2 : ¬ (65536 : Int) < (s.size : Int) := by omega
  have HR := hI (Blk.new w #[.bool false, .slice none 0 0, .bool false, .slice none 0 0] 61)
  rw [h1] at H3
  rw [h3] at H4
  subst h2
  clear hl hT hB hD hP _hN _ht60 hb60 hp60 hs
  generalize (⟨t.toArray⟩ : ByteArray) = T at *
  generalize (⟨b.toArray⟩ : ByteArray) = B at *
  generalize (⟨p.toArray⟩ : ByteArray) = P at *
  go_enter Tryz.func38, Tryz.ntmps38
  go_wp2_with (first
    | (go_at_call 68; refine (H1.out _).mono ?_; rintro e w1 ⟨rfl, hb1⟩; have Hb1 := hI hb1; clear hb1)
    | (go_at_call 70; refine (H2.out _).mono ?_; rintro e w' ⟨rfl, rfl⟩; skip)
    | (have _t := Hb2; clear _t; go_at_call 69; refine (H4.out _).mono ?_; rintro e w3 ⟨rfl, hb3⟩; have Hb3 := hI (bw_via Hb2.out hb3); clear hb3; have hr := HR.out.below Hb3.out; obtain ⟨⟨r0, r1, r2, r3⟩, f0, f1, f2, f3⟩ := blk4v hr; have Hr := hI hr; clear hr)
    | (go_at_call 69; refine (H3.out _).mono ?_; rintro e w2 ⟨rfl, hb2⟩; have Hb2 := hI (bw_via Hb1.out hb2); clear hb2; have hr := HR.out.below Hb2.out; obtain ⟨⟨r0, r1, r2, r3⟩, f0, f1, f2, f3⟩ := blk4v hr; have Hr := hI hr; clear hr))
  have hr2 := (((Hr.out.set 0 (.bool false)).set 1 (.slice none 0 0)).set 2 (.bool false)).set 3 (.slice none 0 0)
  obtain ⟨⟨q0, q1, q2, q3⟩, -⟩ := blk4v hr2
  exact bodyPost_ret (v := .tuple #[.agg #[.bool false, .slice none 0 0, .bool false, .slice none 0 0], .int .i64 14]) (by simp [results, Tryz.results38, go_sem, q0, q1, q2, q3]) rfl ⟨rfl, put_below4 (b := w.heap.size) (.bool false) (.slice none 0 0) (.bool false) (.slice none 0 0) ((below1 w (.cells #[.bool false, .slice none 0 0, .bool false, .slice none 0 0] 61)).via Hb3.out (below1 w _).size) (Nat.le_refl _)⟩
set_option maxHeartbeats 4000000 in
set_option maxRecDepth 100000 in
theorem read_e3 (s : ByteArray) (l t b p : List UInt8) (dv neg : Bool) (w : World) (hs : s.size ≤ 5000) (hl : s.data.toList = l) (hT : topL l = t) (hB : botL l = b) (hD : divB l = dv) (hP : absL t = p) (_hN : negB t = neg) (_ht60 : t.length ≤ 5000) (hb60 : b.length ≤ 5000) (hp60 : p.length ≤ 5000) (h1 : digB p = true) (h2 : dv = true) (h3 : digB b = true) (h4 : zerB b = true) : Calls Tryz.prog 38 #[.string s, .int .i64 65536] w (Ret (.tuple #[.agg #[.bool false, .slice none 0 0, .bool false, .slice none 0 0], .int .i64 19]) w) := by
  have H1 := hI (fun w' => cut_g s w' (by omega))
  rw [hl, hT, hB, hD] at H1
  have H2 := hI (fun w' => Tryz.strings_TrimPrefix ⟨t.toArray⟩ ⟨#[45]⟩ w')
  rw [show (⟨#[45]⟩ : ByteArray).data.toList = [45] from rfl, show Lib.trimPrefix (⟨t.toArray⟩ : ByteArray).data.toList [45] = p from hP] at H2
  have H3 := hI (fun w' => digits_g p w' (by omega))
  have H4 := hI (fun w' => digits_g b w' (by omega))
  have H5 := hI (fun w' => trim0_g b w' (by omega))
  have hss2 : ¬ (65536 : Int) < (s.size : Int) := by omega
  have HR := hI (Blk.new w #[.bool false, .slice none 0 0, .bool false, .slice none 0 0] 61)
  rw [h1] at H3
  rw [h3] at H4
  subst h2
  have hz : Lib.trimS b [48] = [] := of_decide_eq_true (by rw [trim_zerB]; exact h4)
  rw [hz] at H5
  clear hz
  clear hl hT hB hD hP _hN _ht60 hb60 hp60 hs
  generalize (⟨t.toArray⟩ : ByteArray) = T at *
  generalize (⟨b.toArray⟩ : ByteArray) = B at *
  generalize (⟨p.toArray⟩ : ByteArray) = P at *
  go_enter Tryz.func38, Tryz.ntmps38
  go_wp2_with (first
    | (go_at_call 68; refine (H1.out _).mono ?_; rintro e w1 ⟨rfl, hb1⟩; have Hb1 := hI hb1; clear hb1)
    | (go_at_call 70; refine (H2.out _).mono ?_; rintro e w' ⟨rfl, rfl⟩; skip)
    | (have _t := Hb2; clear _t; go_at_call 69; refine (H4.out _).mono ?_; rintro e w3 ⟨rfl, hb3⟩; have Hb3 := hI (bw_via Hb2.out hb3); clear hb3; have hr := HR.out.below Hb3.out; obtain ⟨⟨r0, r1, r2, r3⟩, f0, f1, f2, f3⟩ := blk4v hr; have Hr := hI hr; clear hr)
    | (go_at_call 69; refine (H3.out _).mono ?_; rintro e w2 ⟨rfl, hb2⟩; have Hb2 := hI (bw_via Hb1.out hb2); clear hb2; have hr := HR.out.below Hb2.out; obtain ⟨⟨r0, r1, r2, r3⟩, f0, f1, f2, f3⟩ := blk4v hr; have Hr := hI hr; clear hr)
    | (go_at_call 71; refine (H5.out _).mono ?_; rintro e w4 ⟨rfl, hb4⟩; have Hb4 := hI (bw_via Hb3.out hb4); clear hb4; have hr := HR.out.below Hb4.out; obtain ⟨⟨r0, r1, r2, r3⟩, f0, f1, f2, f3⟩ := blk4v hr; have Hr := hI hr; clear hr))
  have hr2 := (((Hr.out.set 0 (.bool false)).set 1 (.slice none 0 0)).set 2 (.bool false)).set 3 (.slice none 0 0)
  obtain ⟨⟨q0, q1, q2, q3⟩, -⟩ := blk4v hr2
  exact bodyPost_ret (v := .tuple #[.agg #[.bool false, .slice none 0 0, .bool false, .slice none 0 0], .int .i64 19]) (by simp [results, Tryz.results38, go_sem, q0, q1, q2, q3]) rfl ⟨rfl, put_below4 (b := w.heap.size) (.bool false) (.slice none 0 0) (.bool false) (.slice none 0 0) ((below1 w (.cells #[.bool false, .slice none 0 0, .bool false, .slice none 0 0] 61)).via Hb4.out (below1 w _).size) (Nat.le_refl _)⟩
set_option maxHeartbeats 4000000 in
set_option maxRecDepth 100000 in
theorem read_e4 (s : ByteArray) (l t b p : List UInt8) (dv neg : Bool) (w : World) (hs : s.size ≤ 5000) (hl : s.data.toList = l) (hT : topL l = t) (hB : botL l = b) (hD : divB l = dv) (hP : absL t = p) (hN : negB t = neg) (_ht60 : t.length ≤ 5000) (hb60 : b.length ≤ 5000) (hp60 : p.length ≤ 5000) (h1 : digB p = true) (h2 : dv = false) (h6 : badI p neg = true) : Calls Tryz.prog 38 #[.string s, .int .i64 65536] w (Ret (.tuple #[.agg #[.bool false, .slice none 0 0, .bool false, .slice none 0 0], .int .i64 3]) w) := by
  have H1 := hI (fun w' => cut_g s w' (by omega))
  rw [hl, hT, hB, hD] at H1
  have H2 := hI (fun w' => Tryz.strings_TrimPrefix ⟨t.toArray⟩ ⟨#[45]⟩ w')
  rw [show (⟨#[45]⟩ : ByteArray).data.toList = [45] from rfl, show Lib.trimPrefix (⟨t.toArray⟩ : ByteArray).data.toList [45] = p from hP] at H2
  have H3 := hI (fun w' => digits_g p w' (by omega))
  have H4 := hI (fun w' => digits_g b w' (by omega))
  have H5 := hI (fun w' => trim0_g b w' (by omega))
  have hss2 : ¬ (65536 : Int) < (s.size : Int) := by omega
  have HR := hI (Blk.new w #[.bool false, .slice none 0 0, .bool false, .slice none 0 0] 61)
  rw [h1] at H3
  subst h2
  have H6 := hI (fun w' => parse_bad ⟨t.toArray⟩ p neg w' (numeral hP hN) (digB_iff.1 h1).2 (digB_iff.1 h1).1 (by omega) h6)
  clear hl hT hB hD hP hN _ht60 hb60 hp60 hs
  generalize (⟨t.toArray⟩ : ByteArray) = T at *
  generalize (⟨b.toArray⟩ : ByteArray) = B at *
  generalize (⟨p.toArray⟩ : ByteArray) = P at *
  go_enter Tryz.func38, Tryz.ntmps38
  go_wp2_with (first
    | (go_at_call 68; refine (H1.out _).mono ?_; rintro e w1 ⟨rfl, hb1⟩; have Hb1 := hI hb1; clear hb1)
    | (go_at_call 70; refine (H2.out _).mono ?_; rintro e w' ⟨rfl, rfl⟩; skip)
    | (go_at_call 69; refine (H3.out _).mono ?_; rintro e w2 ⟨rfl, hb2⟩; have Hb2 := hI (bw_via Hb1.out hb2); clear hb2; have hr := HR.out.below Hb2.out; obtain ⟨⟨r0, r1, r2, r3⟩, f0, f1, f2, f3⟩ := blk4v hr; have Hr := hI hr; clear hr)
    | (go_at_call 72; refine (H6.out _).mono ?_; rintro e w5 ⟨rfl, hb5⟩; have Hb5 := hI (bw_via Hb2.out hb5); have Hw5 := hI (bw_via Hb5.out (below1 w5 (.cells #[.bool false, .slice none 0 0] 59))); clear hb5; have hr := HR.out.below Hw5.out; obtain ⟨⟨r0, r1, r2, r3⟩, f0, f1, f2, f3⟩ := blk4v hr; have Hr := hI hr; clear hr))
  have hr2 := (((Hr.out.set 0 (.bool false)).set 1 (.slice none 0 0)).set 2 (.bool false)).set 3 (.slice none 0 0)
  obtain ⟨⟨q0, q1, q2, q3⟩, -⟩ := blk4v hr2
  exact bodyPost_ret (v := .tuple #[.agg #[.bool false, .slice none 0 0, .bool false, .slice none 0 0], .int .i64 3]) (by simp [results, Tryz.results38, go_sem, q0, q1, q2, q3]) rfl ⟨rfl, put_below4 (b := w.heap.size) (.bool false) (.slice none 0 0) (.bool false) (.slice none 0 0) ((below1 w (.cells #[.bool false, .slice none 0 0, .bool false, .slice none 0 0] 61)).via Hw5.out (below1 w _).size) (Nat.le_refl _)⟩
set_option maxHeartbeats 4000000 in
set_option maxRecDepth 100000 in
theorem read_e5 (s : ByteArray) (l t b p : List UInt8) (dv neg : Bool) (w : World) (hs : s.size ≤ 5000) (hl : s.data.toList = l) (hT : topL l = t) (hB : botL l = b) (hD : divB l = dv) (hP : absL t = p) (hN : negB t = neg) (_ht60 : t.length ≤ 5000) (hb60 : b.length ≤ 5000) (hp60 : p.length ≤ 5000) (h1 : digB p = true) (h2 : dv = true) (h3 : digB b = true) (h4 : zerB b = false) (h6 : badI p neg = true) : Calls Tryz.prog 38 #[.string s, .int .i64 65536] w (Ret (.tuple #[.agg #[.bool false, .slice none 0 0, .bool false, .slice none 0 0], .int .i64 3]) w) := by
  have H1 := hI (fun w' => cut_g s w' (by omega))
  rw [hl, hT, hB, hD] at H1
  have H2 := hI (fun w' => Tryz.strings_TrimPrefix ⟨t.toArray⟩ ⟨#[45]⟩ w')
  rw [show (⟨#[45]⟩ : ByteArray).data.toList = [45] from rfl, show Lib.trimPrefix (⟨t.toArray⟩ : ByteArray).data.toList [45] = p from hP] at H2
  have H3 := hI (fun w' => digits_g p w' (by omega))
  have H4 := hI (fun w' => digits_g b w' (by omega))
  have H5 := hI (fun w' => trim0_g b w' (by omega))
  have hss2 : ¬ (65536 : Int) < (s.size : Int) := by omega
  have HR := hI (Blk.new w #[.bool false, .slice none 0 0, .bool false, .slice none 0 0] 61)
  rw [h1] at H3
  rw [h3] at H4
  subst h2
  have H6 := hI (fun w' => parse_bad ⟨t.toArray⟩ p neg w' (numeral hP hN) (digB_iff.1 h1).2 (digB_iff.1 h1).1 (by omega) h6)
  have hz : Lib.trimS b [48] ≠ [] := fun e => by have h := trim_zerB (d := b); rw [e, h4] at h; exact absurd h (by decide)
  have hz2 := digitsB hz
  generalize (⟨(Lib.trimS b [48]).toArray⟩ : ByteArray) = Z at *
  clear hz
  clear hl hT hB hD hP hN _ht60 hb60 hp60 hs
  generalize (⟨t.toArray⟩ : ByteArray) = T at *
  generalize (⟨b.toArray⟩ : ByteArray) = B at *
  generalize (⟨p.toArray⟩ : ByteArray) = P at *
  go_enter Tryz.func38, Tryz.ntmps38
  go_wp2_with (first
    | (go_at_call 68; refine (H1.out _).mono ?_; rintro e w1 ⟨rfl, hb1⟩; have Hb1 := hI hb1; clear hb1)
    | (go_at_call 70; refine (H2.out _).mono ?_; rintro e w' ⟨rfl, rfl⟩; skip)
    | (have _t := Hb2; clear _t; go_at_call 69; refine (H4.out _).mono ?_; rintro e w3 ⟨rfl, hb3⟩; have Hb3 := hI (bw_via Hb2.out hb3); clear hb3; have hr := HR.out.below Hb3.out; obtain ⟨⟨r0, r1, r2, r3⟩, f0, f1, f2, f3⟩ := blk4v hr; have Hr := hI hr; clear hr)
    | (go_at_call 69; refine (H3.out _).mono ?_; rintro e w2 ⟨rfl, hb2⟩; have Hb2 := hI (bw_via Hb1.out hb2); clear hb2; have hr := HR.out.below Hb2.out; obtain ⟨⟨r0, r1, r2, r3⟩, f0, f1, f2, f3⟩ := blk4v hr; have Hr := hI hr; clear hr)
    | (go_at_call 71; refine (H5.out _).mono ?_; rintro e w4 ⟨rfl, hb4⟩; have Hb4 := hI (bw_via Hb3.out hb4); clear hb4; have hr := HR.out.below Hb4.out; obtain ⟨⟨r0, r1, r2, r3⟩, f0, f1, f2, f3⟩ := blk4v hr; have Hr := hI hr; clear hr)
    | (go_at_call 72; refine (H6.out _).mono ?_; rintro e w5 ⟨rfl, hb5⟩; have Hb5 := hI (bw_via Hb4.out hb5); have Hw5 := hI (bw_via Hb5.out (below1 w5 (.cells #[.bool false, .slice none 0 0] 59))); clear hb5; have hr := HR.out.below Hw5.out; obtain ⟨⟨r0, r1, r2, r3⟩, f0, f1, f2, f3⟩ := blk4v hr; have Hr := hI hr; clear hr))
  have hr2 := (((Hr.out.set 0 (.bool false)).set 1 (.slice none 0 0)).set 2 (.bool false)).set 3 (.slice none 0 0)
  obtain ⟨⟨q0, q1, q2, q3⟩, -⟩ := blk4v hr2
  exact bodyPost_ret (v := .tuple #[.agg #[.bool false, .slice none 0 0, .bool false, .slice none 0 0], .int .i64 3]) (by simp [results, Tryz.results38, go_sem, q0, q1, q2, q3]) rfl ⟨rfl, put_below4 (b := w.heap.size) (.bool false) (.slice none 0 0) (.bool false) (.slice none 0 0) ((below1 w (.cells #[.bool false, .slice none 0 0, .bool false, .slice none 0 0] 61)).via Hw5.out (below1 w _).size) (Nat.le_refl _)⟩
set_option maxHeartbeats 8000000 in
set_option maxRecDepth 100000 in
theorem read_o1 (s : ByteArray) (l t b p : List UInt8) (dv neg : Bool) (w : World) (hs : s.size ≤ 5000) (hl : s.data.toList = l) (hT : topL l = t) (hB : botL l = b) (hD : divB l = dv) (hP : absL t = p) (hN : negB t = neg) (_ht60 : t.length ≤ 5000) (hb60 : b.length ≤ 5000) (hp60 : p.length ≤ 5000) (h1 : digB p = true) (h2 : dv = false) (h6 : badI p neg = false) : Calls Tryz.prog 38 #[.string s, .int .i64 65536] w (RetP (fun v w' => ∃ x a n c, v = .tuple #[.agg #[.bool x, .slice a n c, .bool false, .slice none 0 0], .int .i64 0] ∧ RatV w' (.agg #[.bool x, .slice a n c, .bool false, .slice none 0 0]) (sgn neg (valD p)) 0 ∧ AU w' a) w) := by
  have H1 := hI (fun w' => cut_g s w' (by omega))
  rw [hl, hT, hB, hD] at H1
  have H2 := hI (fun w' => Tryz.strings_TrimPrefix ⟨t.toArray⟩ ⟨#[45]⟩ w')
  rw [show (⟨#[45]⟩ : ByteArray).data.toList = [45] from rfl, show Lib.trimPrefix (⟨t.toArray⟩ : ByteArray).data.toList [45] = p from hP] at H2
  have H3 := hI (fun w' => digits_g p w' (by omega))
  have H4 := hI (fun w' => digits_g b w' (by omega))
  have H5 := hI (fun w' => trim0_g b w' (by omega))
  have hss2 : ¬ (65536 : Int) < (s.size : Int) := by omega
  have HR := hI (Blk.new w #[.bool false, .slice none 0 0, .bool false, .slice none 0 0] 61)
  rw [h1] at H3
  subst h2
  have H6 := hI (fun w' => parse_g ⟨t.toArray⟩ p neg w' (numeral hP hN) (digB_iff.1 h1).2 (digB_iff.1 h1).1 (by omega) h6)
  clear hl hT hB hD hP hN _ht60 hb60 hp60 hs
  generalize (⟨t.toArray⟩ : ByteArray) = T at *
  generalize (⟨b.toArray⟩ : ByteArray) = B at *
  generalize (⟨p.toArray⟩ : ByteArray) = P at *
  go_enter Tryz.func38, Tryz.ntmps38
  go_wp2_with (first
    | (go_at_call 68; refine (H1.out _).mono ?_; rintro e w1 ⟨rfl, hb1⟩; have Hb1 := hI hb1; clear hb1)
    | (go_at_call 70; refine (H2.out _).mono ?_; rintro e w' ⟨rfl, rfl⟩; skip)
    | (go_at_call 69; refine (H3.out _).mono ?_; rintro e w2 ⟨rfl, hb2⟩; have Hb2 := hI (bw_via Hb1.out hb2); clear hb2; have hr := HR.out.below Hb2.out; obtain ⟨⟨r0, r1, r2, r3⟩, f0, f1, f2, f3⟩ := blk4v hr; have Hr := hI hr; clear hr)
    | (go_at_call 72; refine (H6.out _).mono ?_; rintro e w5 ⟨v5, rfl, ⟨x5, a5, n5, c5, rfl, hv5, hau5⟩, hb5⟩; have Hb5 := hI (bw_via Hb2.out hb5); have Hw5 := hI (bw_via Hb5.out (below1 w5 (.cells #[.bool x5, .slice a5 n5 c5] 59))); have HV5 := hI (hv5.mono (below1 w5 (.cells #[.bool x5, .slice a5 n5 c5] 59))); have HU5 := hI (hau5.mono (below1 w5 (.cells #[.bool x5, .slice a5 n5 c5] 59))); clear hb5 hv5 hau5; have hr := HR.out.below Hw5.out; obtain ⟨⟨r0, r1, r2, r3⟩, f0, f1, f2, f3⟩ := blk4v hr; have Hr := hI hr; clear hr))
  obtain ⟨hv6, hb6⟩ := RatV.put4 (RatV.whole0 HV5.out) Hr.out
  have hau := (((HU5.out.set w.heap.size 0 (.bool x5)).set w.heap.size 1 (.slice a5 n5 c5)).set w.heap.size 2 (.bool false)).set w.heap.size 3 (.slice none 0 0)
  obtain ⟨⟨q0, q1, q2, q3⟩, -⟩ := blk4v hb6
  exact bodyPost_ret (v := .tuple #[.agg #[.bool x5, .slice a5 n5 c5, .bool false, .slice none 0 0], .int .i64 0]) (by simp [results, Tryz.results38, go_sem, q0, q1, q2, q3]) rfl ⟨_, rfl, ⟨_, _, _, _, rfl, hv6, hau⟩, put_below4 (b := w.heap.size) (.bool x5) (.slice a5 n5 c5) (.bool false) (.slice none 0 0) ((below1 w (.cells #[.bool false, .slice none 0 0, .bool false, .slice none 0 0] 61)).via Hw5.out (below1 w _).size) (Nat.le_refl _)⟩
set_option maxHeartbeats 4000000 in
set_option maxRecDepth 100000 in
theorem read_e6 (s : ByteArray) (l t b p : List UInt8) (dv neg : Bool) (w : World) (hs : s.size ≤ 5000) (hl : s.data.toList = l) (hT : topL l = t) (hB : botL l = b) (hD : divB l = dv) (hP : absL t = p) (hN : negB t = neg) (_ht60 : t.length ≤ 5000) (hb60 : b.length ≤ 5000) (hp60 : p.length ≤ 5000) (h1 : digB p = true) (h2 : dv = true) (h3 : digB b = true) (h4 : zerB b = false) (h6 : badI p neg = false) (h7 : badI b false = true) : Calls Tryz.prog 38 #[.string s, .int .i64 65536] w (Ret (.tuple #[.agg #[.bool false, .slice none 0 0, .bool false, .slice none 0 0], .int .i64 3]) w) := by
  have H1 := hI (fun w' => cut_g s w' (by omega))
  rw [hl, hT, hB, hD] at H1
  have H2 := hI (fun w' => Tryz.strings_TrimPrefix ⟨t.toArray⟩ ⟨#[45]⟩ w')
  rw [show (⟨#[45]⟩ : ByteArray).data.toList = [45] from rfl, show Lib.trimPrefix (⟨t.toArray⟩ : ByteArray).data.toList [45] = p from hP] at H2
  have H3 := hI (fun w' => digits_g p w' (by omega))
  have H4 := hI (fun w' => digits_g b w' (by omega))
  have H5 := hI (fun w' => trim0_g b w' (by omega))
  have hss2 : ¬ (65536 : Int) < (s.size : Int) := by omega
  have HR := hI (Blk.new w #[.bool false, .slice none 0 0, .bool false, .slice none 0 0] 61)
  rw [h1] at H3
  rw [h3] at H4
  subst h2
  have H6 := hI (fun w' => parse_g ⟨t.toArray⟩ p neg w' (numeral hP hN) (digB_iff.1 h1).2 (digB_iff.1 h1).1 (by omega) h6)
  have H7 := hI (fun w' => parse_bad ⟨b.toArray⟩ b false w' rfl (digB_iff.1 h3).2 (digB_iff.1 h3).1 (by omega) h7)
  have hz : Lib.trimS b [48] ≠ [] := fun e => by have h := trim_zerB (d := b); rw [e, h4] at h; exact absurd h (by decide)
  have hz2 := digitsB hz
  generalize (⟨(Lib.trimS b [48]).toArray⟩ : ByteArray) = Z at *
  clear hz
  clear hl hT hB hD hP hN _ht60 hb60 hp60 hs
  generalize (⟨t.toArray⟩ : ByteArray) = T at *
  generalize (⟨b.toArray⟩ : ByteArray) = B at *
  generalize (⟨p.toArray⟩ : ByteArray) = P at *
  go_enter Tryz.func38, Tryz.ntmps38
  go_wp2_with (first
    | (go_at_call 68; refine (H1.out _).mono ?_; rintro e w1 ⟨rfl, hb1⟩; have Hb1 := hI hb1; clear hb1)
    | (go_at_call 70; refine (H2.out _).mono ?_; rintro e w' ⟨rfl, rfl⟩; skip)
    | (have _t := Hb2; clear _t; go_at_call 69; refine (H4.out _).mono ?_; rintro e w3 ⟨rfl, hb3⟩; have Hb3 := hI (bw_via Hb2.out hb3); clear hb3; have hr := HR.out.below Hb3.out; obtain ⟨⟨r0, r1, r2, r3⟩, f0, f1, f2, f3⟩ := blk4v hr; have Hr := hI hr; clear hr)
    | (go_at_call 69; refine (H3.out _).mono ?_; rintro e w2 ⟨rfl, hb2⟩; have Hb2 := hI (bw_via Hb1.out hb2); clear hb2; have hr := HR.out.below Hb2.out; obtain ⟨⟨r0, r1, r2, r3⟩, f0, f1, f2, f3⟩ := blk4v hr; have Hr := hI hr; clear hr)
    | (go_at_call 71; refine (H5.out _).mono ?_; rintro e w4 ⟨rfl, hb4⟩; have Hb4 := hI (bw_via Hb3.out hb4); clear hb4; have hr := HR.out.below Hb4.out; obtain ⟨⟨r0, r1, r2, r3⟩, f0, f1, f2, f3⟩ := blk4v hr; have Hr := hI hr; clear hr)
    | (have _t := Hb5; clear _t; go_at_call 72; refine (H7.out _).mono ?_; rintro e w6 ⟨rfl, hb6⟩; have Hb6 := hI (bw_via Hw5.out hb6); have Hw6 := hI (bw_via Hb6.out (below1 w6 (.cells #[.bool false, .slice none 0 0] 59))); clear hb6; have hr := HR.out.below Hw6.out; obtain ⟨⟨r0, r1, r2, r3⟩, f0, f1, f2, f3⟩ := blk4v hr; have Hr := hI hr; clear hr)
    | (go_at_call 72; refine (H6.out _).mono ?_; rintro e w5 ⟨v5, rfl, ⟨x5, a5, n5, c5, rfl, hv5, hau5⟩, hb5⟩; have Hb5 := hI (bw_via Hb4.out hb5); have Hw5 := hI (bw_via Hb5.out (below1 w5 (.cells #[.bool x5, .slice a5 n5 c5] 59))); have HV5 := hI (hv5.mono (below1 w5 (.cells #[.bool x5, .slice a5 n5 c5] 59))); have HU5 := hI (hau5.mono (below1 w5 (.cells #[.bool x5, .slice a5 n5 c5] 59))); clear hb5 hv5 hau5; have hr := HR.out.below Hw5.out; obtain ⟨⟨r0, r1, r2, r3⟩, f0, f1, f2, f3⟩ := blk4v hr; have Hr := hI hr; clear hr))
  refine wp_region_held_drew (S := (fun _ => True)) (by kernel_rfl) (by exact trivial) (fun hHeld => ?_)
  refine wpAnyH_take (i := 0) (v := ?v1) rfl (by kernel_rfl) (by kernel_rfl) (by kernel_rfl) (fun _ _ _ h => h) (Or.inl ⟨by rfl, ?hy1⟩) (by assumption) ?rest1
  case hy1 => (intro w hSw; (try dsimp only at hSw); go_simp; try (with_reducible rfl))
  try simp only [Act.put, List.getElem_toArray, List.getElem_cons_zero, List.setIfInBounds_toArray, List.set_cons_zero, List.set_cons_succ]
  refine' tk 1 ?_; (try simp only [tkS]); refine' tk 2 ?_; (try simp only [tkS]); refine' tkU 3 ?_; (try simp only [tkS]); refine' tkU 4 ?_; (try simp only [tkS]); refine' tkU 5 ?_; (try simp only [tkS]); refine' tkU 6 ?_; (try simp only [tkS]); refine' tk 7 ?_; (try simp only [tkS]); refine' tk 8 ?_; (try simp only [tkS]); refine' tkU 9 ?_; (try simp only [tkS]); refine' tkU 10 ?_; (try simp only [tkS]); refine' tkU 11 ?_; (try simp only [tkS]); refine' tkU 12 ?_; (try simp only [tkS]); refine' tkU 13 ?_; (try simp only [tkS]); refine' tkU 14 ?_; (try simp only [tkS]); refine' tk 15 ?_; (try simp only [tkS])
  refine tkD ?_ _
  go_wp2_with fail
  have hr2 := (((Hr.out.set 0 (.bool false)).set 1 (.slice none 0 0)).set 2 (.bool false)).set 3 (.slice none 0 0)
  obtain ⟨q0, q1, q2, q3⟩ := blk4d hr2
  exact bodyPost_ret (v := .tuple #[.agg #[.bool false, .slice none 0 0, .bool false, .slice none 0 0], .int .i64 3]) (by simp [results, Tryz.results38, go_sem, q0, q1, q2, q3]) rfl ⟨rfl, (put_below4 (b := w.heap.size) (.bool false) (.slice none 0 0) (.bool false) (.slice none 0 0) ((below1 w (.cells #[.bool false, .slice none 0 0, .bool false, .slice none 0 0] 61)).via Hw6.out (below1 w _).size) (Nat.le_refl _)).dn 1⟩
set_option maxHeartbeats 4000000 in
set_option maxRecDepth 100000 in
theorem read_e7 (s : ByteArray) (l t b p : List UInt8) (dv neg : Bool) (w : World) (hs : s.size ≤ 5000) (hl : s.data.toList = l) (hT : topL l = t) (hB : botL l = b) (hD : divB l = dv) (hP : absL t = p) (hN : negB t = neg) (_ht60 : t.length ≤ 5000) (hb60 : b.length ≤ 5000) (hp60 : p.length ≤ 5000) (h1 : digB p = true) (h2 : dv = true) (h3 : digB b = true) (h4 : zerB b = false) (h6 : badI p neg = false) (h7 : badI b false = false) (h8 : valD b = 1) : Calls Tryz.prog 38 #[.string s, .int .i64 65536] w (Ret (.tuple #[.agg #[.bool false, .slice none 0 0, .bool false, .slice none 0 0], .int .i64 3]) w) := by
  have H1 := hI (fun w' => cut_g s w' (by omega))
  rw [hl, hT, hB, hD] at H1
  have H2 := hI (fun w' => Tryz.strings_TrimPrefix ⟨t.toArray⟩ ⟨#[45]⟩ w')
  rw [show (⟨#[45]⟩ : ByteArray).data.toList = [45] from rfl, show Lib.trimPrefix (⟨t.toArray⟩ : ByteArray).data.toList [45] = p from hP] at H2
  have H3 := hI (fun w' => digits_g p w' (by omega))
  have H4 := hI (fun w' => digits_g b w' (by omega))
  have H5 := hI (fun w' => trim0_g b w' (by omega))
  have hss2 : ¬ (65536 : Int) < (s.size : Int) := by omega
  have HR := hI (Blk.new w #[.bool false, .slice none 0 0, .bool false, .slice none 0 0] 61)
  rw [h1] at H3
  rw [h3] at H4
  subst h2
  have H6 := hI (fun w' => parse_g ⟨t.toArray⟩ p neg w' (numeral hP hN) (digB_iff.1 h1).2 (digB_iff.1 h1).1 (by omega) h6)
  have H7 := hI (fun w' => parse_g ⟨b.toArray⟩ b false w' rfl (digB_iff.1 h3).2 (digB_iff.1 h3).1 (by omega) h7)
  have hz : Lib.trimS b [48] ≠ [] := fun e => by have h := trim_zerB (d := b); rw [e, h4] at h; exact absurd h (by decide)
  have hz2 := digitsB hz
  generalize (⟨(Lib.trimS b [48]).toArray⟩ : ByteArray) = Z at *
  clear hz
  have hlb := valD_lt (digB_iff.1 h3).2
  have hlp := valD_lt (digB_iff.1 h1).2
  have HLD := hI (show (limbs (sgn false (valD b)).natAbs).length < 1000000 by rw [sgn_abs]; exact limbs_ten hlb (by omega))
  have HLN := hI (show (limbs (sgn neg (valD p)).natAbs).length < 1000000 by rw [sgn_abs]; exact limbs_ten hlp (by omega))
  clear hlb hlp
  clear hl hT hB hD hP hN _ht60 hb60 hp60 hs
  generalize (⟨t.toArray⟩ : ByteArray) = T at *
  generalize (⟨b.toArray⟩ : ByteArray) = B at *
  generalize (⟨p.toArray⟩ : ByteArray) = P at *
  go_enter Tryz.func38, Tryz.ntmps38
  go_wp2_with (first
    | (go_at_call 68; refine (H1.out _).mono ?_; rintro e w1 ⟨rfl, hb1⟩; have Hb1 := hI hb1; clear hb1)
    | (go_at_call 70; refine (H2.out _).mono ?_; rintro e w' ⟨rfl, rfl⟩; skip)
    | (have _t := Hb2; clear _t; go_at_call 69; refine (H4.out _).mono ?_; rintro e w3 ⟨rfl, hb3⟩; have Hb3 := hI (bw_via Hb2.out hb3); clear hb3; have hr := HR.out.below Hb3.out; obtain ⟨⟨r0, r1, r2, r3⟩, f0, f1, f2, f3⟩ := blk4v hr; have Hr := hI hr; clear hr)
    | (go_at_call 69; refine (H3.out _).mono ?_; rintro e w2 ⟨rfl, hb2⟩; have Hb2 := hI (bw_via Hb1.out hb2); clear hb2; have hr := HR.out.below Hb2.out; obtain ⟨⟨r0, r1, r2, r3⟩, f0, f1, f2, f3⟩ := blk4v hr; have Hr := hI hr; clear hr)
    | (go_at_call 71; refine (H5.out _).mono ?_; rintro e w4 ⟨rfl, hb4⟩; have Hb4 := hI (bw_via Hb3.out hb4); clear hb4; have hr := HR.out.below Hb4.out; obtain ⟨⟨r0, r1, r2, r3⟩, f0, f1, f2, f3⟩ := blk4v hr; have Hr := hI hr; clear hr)
    | (have _t := Hb5; clear _t; go_at_call 72; refine (H7.out _).mono ?_; rintro e w6 ⟨v6, rfl, ⟨x6, a6, n6, c6, rfl, hv6, hau6⟩, hb6⟩; have Hb6 := hI (bw_via Hw5.out hb6); have Hw6 := hI (bw_via Hb6.out (below1 w6 (.cells #[.bool x6, .slice a6 n6 c6] 59))); have HV6 := hI (hv6.mono (below1 w6 (.cells #[.bool x6, .slice a6 n6 c6] 59))); have HU6 := hI (hau6.mono (below1 w6 (.cells #[.bool x6, .slice a6 n6 c6] 59))); have HV56 := hI ((HV5.out.mono hb6).mono (below1 w6 (.cells #[.bool x6, .slice a6 n6 c6] 59))); have HU56 := hI ((HU5.out.mono hb6).mono (below1 w6 (.cells #[.bool x6, .slice a6 n6 c6] 59))); have HQ5 := hI (((Blk.new w5 #[.bool x5, .slice a5 n5 c5] 59).below hb6).old (.cells #[.bool x6, .slice a6 n6 c6] 59)); have HQ6 := hI (Blk.new w6 #[.bool x6, .slice a6 n6 c6] 59); clear hb6 hv6 hau6; have hr := HR.out.below Hw6.out; obtain ⟨⟨r0, r1, r2, r3⟩, f0, f1, f2, f3⟩ := blk4v hr; have Hr := hI hr; clear hr)
    | (go_at_call 72; refine (H6.out _).mono ?_; rintro e w5 ⟨v5, rfl, ⟨x5, a5, n5, c5, rfl, hv5, hau5⟩, hb5⟩; have Hb5 := hI (bw_via Hb4.out hb5); have Hw5 := hI (bw_via Hb5.out (below1 w5 (.cells #[.bool x5, .slice a5 n5 c5] 59))); have HV5 := hI (hv5.mono (below1 w5 (.cells #[.bool x5, .slice a5 n5 c5] 59))); have HU5 := hI (hau5.mono (below1 w5 (.cells #[.bool x5, .slice a5 n5 c5] 59))); clear hb5 hv5 hau5; have hr := HR.out.below Hw5.out; obtain ⟨⟨r0, r1, r2, r3⟩, f0, f1, f2, f3⟩ := blk4v hr; have Hr := hI hr; clear hr))
  have HC5 := hI (fun w' (hb : Below (w6.alloc (.cells #[.bool x6, .slice a6 n6 c6] 59)).heap.size (w6.alloc (.cells #[.bool x6, .slice a6 n6 c6] 59)) w') u (hu : IntV w' u 1) => compare_any _ u _ 1 w' (HV6.out.mono hb) hu)
  rw [h8, show cmpZ (sgn false 1) 1 = 0 from rfl] at HC5
  refine wp_region_held_drew (S := (fun w' => w'.cell? ⟨w5.heap.size, 0, none⟩ = some (.bool x5) ∧ w'.cell? ⟨w5.heap.size, 1, none⟩ = some (.slice a5 n5 c5) ∧ w'.cell? ⟨w6.heap.size, 0, none⟩ = some (.bool x6) ∧ w'.cell? ⟨w6.heap.size, 1, none⟩ = some (.slice a6 n6 c6))) (by kernel_rfl) (by exact ⟨(blk2v (HQ5.out.below ((Below.refl _ _).dn 1))).1.1, (blk2v (HQ5.out.below ((Below.refl _ _).dn 1))).1.2, (blk2v (HQ6.out.below ((Below.refl _ _).dn 1))).1.1, (blk2v (HQ6.out.below ((Below.refl _ _).dn 1))).1.2⟩) (fun hHeld => ?_)
  refine wpAnyH_take (i := 0) (v := ?v17) rfl (by kernel_rfl) (by kernel_rfl) (by kernel_rfl) (fun _ _ _ h => h) (Or.inl ⟨by rfl, ?hy17⟩) (by assumption) ?rest17
  case hy17 => (intro w hSw; (try dsimp only at hSw); go_simp; try (with_reducible rfl))
  try simp only [Act.put, List.getElem_toArray, List.getElem_cons_zero, List.setIfInBounds_toArray, List.set_cons_zero, List.set_cons_succ]
  refine' tk 1 ?_; (try simp only [tkS]); refine' tk 2 ?_; (try simp only [tkS]); refine' tk 3 ?_; (try simp only [tkS])
  refine tk1 4 (fun K hK => ?_)
  go_simp
  go_at_call 62
  refine (one_any _).mono ?_
  rintro e5 w4 ⟨v4, rfl, hv4, hb4⟩
  have Hb4 := hI (bw_via ((Below.refl _ _).dn 1) hb4)
  obtain ⟨x41, a41, k41, c41, rfl, hv4⟩ := hv4.open
  have HO4 := hI hv4
  clear hv4
  clear hb4
  refine hK.out _ _ (by exact ⟨(blk2v (HQ5.out.below (Hb4.out))).1.1, (blk2v (HQ5.out.below (Hb4.out))).1.2, (blk2v (HQ6.out.below (Hb4.out))).1.1, (blk2v (HQ6.out.below (Hb4.out))).1.2⟩) (fun hHeld => ?_)
  clear hK K; (try simp only [tkS])
  refine tk1 5 (fun K hK => ?_)
  go_simp
  go_at_call 61
  refine (HC5.out _ (Hb4.out) _ HO4.out).mono ?_
  rintro e5 w5 ⟨rfl, hb5⟩
  have HO4 := hI (HO4.out.mono hb5)
  have Hb5 := hI (bw_via (Hb4.out) hb5)
  clear hb5
  refine hK.out _ _ (by exact ⟨(blk2v (HQ5.out.below (Hb5.out))).1.1, (blk2v (HQ5.out.below (Hb5.out))).1.2, (blk2v (HQ6.out.below (Hb5.out))).1.1, (blk2v (HQ6.out.below (Hb5.out))).1.2⟩) (fun hHeld => ?_)
  clear hK K; (try simp only [tkS])
  refine' tk 6 ?_; (try simp only [tkS]); refine' tk 7 ?_; (try simp only [tkS]); refine' tk 8 ?_; (try simp only [tkS]); refine' tkU 9 ?_; (try simp only [tkS]); refine' tkU 10 ?_; (try simp only [tkS]); refine' tkU 11 ?_; (try simp only [tkS]); refine' tkU 12 ?_; (try simp only [tkS]); refine' tkU 13 ?_; (try simp only [tkS]); refine' tkU 14 ?_; (try simp only [tkS]); refine' tk 15 ?_; (try simp only [tkS])
  refine tkD ?_ _
  have Hbz := hI (bw_via Hw6.out (Hb5.out))
  have hr := HR.out.below Hbz.out; obtain ⟨⟨r0, r1, r2, r3⟩, f0, f1, f2, f3⟩ := blk4v hr; have Hr := hI hr; clear hr
  go_wp2_with fail
  have hr2 := (((Hr.out.set 0 (.bool false)).set 1 (.slice none 0 0)).set 2 (.bool false)).set 3 (.slice none 0 0)
  obtain ⟨⟨q0, q1, q2, q3⟩, -⟩ := blk4v hr2
  exact bodyPost_ret (v := .tuple #[.agg #[.bool false, .slice none 0 0, .bool false, .slice none 0 0], .int .i64 3]) (by simp [results, Tryz.results38, go_sem, q0, q1, q2, q3]) rfl ⟨rfl, put_below4 (b := w.heap.size) (.bool false) (.slice none 0 0) (.bool false) (.slice none 0 0) ((below1 w (.cells #[.bool false, .slice none 0 0, .bool false, .slice none 0 0] 61)).via Hbz.out (below1 w _).size) (Nat.le_refl _)⟩
set_option maxHeartbeats 4000000 in
set_option maxRecDepth 100000 in
theorem read_e8 (s : ByteArray) (l t b p : List UInt8) (dv neg : Bool) (w : World) (hs : s.size ≤ 5000) (hl : s.data.toList = l) (hT : topL l = t) (hB : botL l = b) (hD : divB l = dv) (hP : absL t = p) (hN : negB t = neg) (_ht60 : t.length ≤ 5000) (hb60 : b.length ≤ 5000) (hp60 : p.length ≤ 5000) (h1 : digB p = true) (h2 : dv = true) (h3 : digB b = true) (h4 : zerB b = false) (h6 : badI p neg = false) (h7 : badI b false = false) (h8 : valD b ≠ 1) (h9 : Nat.gcd (valD p) (valD b) ≠ 1) : Calls Tryz.prog 38 #[.string s, .int .i64 65536] w (Ret (.tuple #[.agg #[.bool false, .slice none 0 0, .bool false, .slice none 0 0], .int .i64 3]) w) := by
  have H1 := hI (fun w' => cut_g s w' (by omega))
  rw [hl, hT, hB, hD] at H1
  have H2 := hI (fun w' => Tryz.strings_TrimPrefix ⟨t.toArray⟩ ⟨#[45]⟩ w')
  rw [show (⟨#[45]⟩ : ByteArray).data.toList = [45] from rfl, show Lib.trimPrefix (⟨t.toArray⟩ : ByteArray).data.toList [45] = p from hP] at H2
  have H3 := hI (fun w' => digits_g p w' (by omega))
  have H4 := hI (fun w' => digits_g b w' (by omega))
  have H5 := hI (fun w' => trim0_g b w' (by omega))
  have hss2 : ¬ (65536 : Int) < (s.size : Int) := by omega
  have HR := hI (Blk.new w #[.bool false, .slice none 0 0, .bool false, .slice none 0 0] 61)
  rw [h1] at H3
  rw [h3] at H4
  subst h2
  have H6 := hI (fun w' => parse_g ⟨t.toArray⟩ p neg w' (numeral hP hN) (digB_iff.1 h1).2 (digB_iff.1 h1).1 (by omega) h6)
  have H7 := hI (fun w' => parse_g ⟨b.toArray⟩ b false w' rfl (digB_iff.1 h3).2 (digB_iff.1 h3).1 (by omega) h7)
  have hz : Lib.trimS b [48] ≠ [] := fun e => by have h := trim_zerB (d := b); rw [e, h4] at h; exact absurd h (by decide)
  have hz2 := digitsB hz
  generalize (⟨(Lib.trimS b [48]).toArray⟩ : ByteArray) = Z at *
  clear hz
  have hlb := valD_lt (digB_iff.1 h3).2
  have hlp := valD_lt (digB_iff.1 h1).2
  have HLD := hI (show (limbs (sgn false (valD b)).natAbs).length < 1000000 by rw [sgn_abs]; exact limbs_ten hlb (by omega))
  have HLN := hI (show (limbs (sgn neg (valD p)).natAbs).length < 1000000 by rw [sgn_abs]; exact limbs_ten hlp (by omega))
  clear hlb hlp
  clear hl hT hB hD hP hN _ht60 hb60 hp60 hs
  generalize (⟨t.toArray⟩ : ByteArray) = T at *
  generalize (⟨b.toArray⟩ : ByteArray) = B at *
  generalize (⟨p.toArray⟩ : ByteArray) = P at *
  go_enter Tryz.func38, Tryz.ntmps38
  go_wp2_with (first
    | (go_at_call 68; refine (H1.out _).mono ?_; rintro e w1 ⟨rfl, hb1⟩; have Hb1 := hI hb1; clear hb1)
    | (go_at_call 70; refine (H2.out _).mono ?_; rintro e w' ⟨rfl, rfl⟩; skip)
    | (have _t := Hb2; clear _t; go_at_call 69; refine (H4.out _).mono ?_; rintro e w3 ⟨rfl, hb3⟩; have Hb3 := hI (bw_via Hb2.out hb3); clear hb3; have hr := HR.out.below Hb3.out; obtain ⟨⟨r0, r1, r2, r3⟩, f0, f1, f2, f3⟩ := blk4v hr; have Hr := hI hr; clear hr)
    | (go_at_call 69; refine (H3.out _).mono ?_; rintro e w2 ⟨rfl, hb2⟩; have Hb2 := hI (bw_via Hb1.out hb2); clear hb2; have hr := HR.out.below Hb2.out; obtain ⟨⟨r0, r1, r2, r3⟩, f0, f1, f2, f3⟩ := blk4v hr; have Hr := hI hr; clear hr)
    | (go_at_call 71; refine (H5.out _).mono ?_; rintro e w4 ⟨rfl, hb4⟩; have Hb4 := hI (bw_via Hb3.out hb4); clear hb4; have hr := HR.out.below Hb4.out; obtain ⟨⟨r0, r1, r2, r3⟩, f0, f1, f2, f3⟩ := blk4v hr; have Hr := hI hr; clear hr)
    | (have _t := Hb5; clear _t; go_at_call 72; refine (H7.out _).mono ?_; rintro e w6 ⟨v6, rfl, ⟨x6, a6, n6, c6, rfl, hv6, hau6⟩, hb6⟩; have Hb6 := hI (bw_via Hw5.out hb6); have Hw6 := hI (bw_via Hb6.out (below1 w6 (.cells #[.bool x6, .slice a6 n6 c6] 59))); have HV6 := hI (hv6.mono (below1 w6 (.cells #[.bool x6, .slice a6 n6 c6] 59))); have HU6 := hI (hau6.mono (below1 w6 (.cells #[.bool x6, .slice a6 n6 c6] 59))); have HV56 := hI ((HV5.out.mono hb6).mono (below1 w6 (.cells #[.bool x6, .slice a6 n6 c6] 59))); have HU56 := hI ((HU5.out.mono hb6).mono (below1 w6 (.cells #[.bool x6, .slice a6 n6 c6] 59))); have HQ5 := hI (((Blk.new w5 #[.bool x5, .slice a5 n5 c5] 59).below hb6).old (.cells #[.bool x6, .slice a6 n6 c6] 59)); have HQ6 := hI (Blk.new w6 #[.bool x6, .slice a6 n6 c6] 59); clear hb6 hv6 hau6; have hr := HR.out.below Hw6.out; obtain ⟨⟨r0, r1, r2, r3⟩, f0, f1, f2, f3⟩ := blk4v hr; have Hr := hI hr; clear hr)
    | (go_at_call 72; refine (H6.out _).mono ?_; rintro e w5 ⟨v5, rfl, ⟨x5, a5, n5, c5, rfl, hv5, hau5⟩, hb5⟩; have Hb5 := hI (bw_via Hb4.out hb5); have Hw5 := hI (bw_via Hb5.out (below1 w5 (.cells #[.bool x5, .slice a5 n5 c5] 59))); have HV5 := hI (hv5.mono (below1 w5 (.cells #[.bool x5, .slice a5 n5 c5] 59))); have HU5 := hI (hau5.mono (below1 w5 (.cells #[.bool x5, .slice a5 n5 c5] 59))); clear hb5 hv5 hau5; have hr := HR.out.below Hw5.out; obtain ⟨⟨r0, r1, r2, r3⟩, f0, f1, f2, f3⟩ := blk4v hr; have Hr := hI hr; clear hr))
  have HC5 := hI (fun w' (hb : Below (w6.alloc (.cells #[.bool x6, .slice a6 n6 c6] 59)).heap.size (w6.alloc (.cells #[.bool x6, .slice a6 n6 c6] 59)) w') u (hu : IntV w' u 1) => compare_any _ u _ 1 w' (HV6.out.mono hb) hu)
  have HG := hI (fun w' (hb : Below (w6.alloc (.cells #[.bool x6, .slice a6 n6 c6] 59)).heap.size (w6.alloc (.cells #[.bool x6, .slice a6 n6 c6] 59)) w') => gcd_any _ _ _ _ w' (HV56.out.mono hb) (HV6.out.mono hb) HLN.out HLD.out)
  rw [sgn_abs, sgn_abs] at HG
  have hc5 : cmpZ (sgn false (valD b)) 1 ≠ 0 := cmp1_ne h8
  generalize hR : cmpZ (sgn false (valD b)) 1 = R1 at HC5
  rw [hR] at hc5
  have hc5b : (R1 == 0) = false := by rw [beq_eq_false_iff_ne]; exact hc5
  clear hR
  have hc9 := cmp1_ne h9
  have HC13 := hI (fun w' u v (hu : IntV w' u ((Nat.gcd (valD p) (valD b) : Nat) : Int)) (hv : IntV w' v 1) => compare_any u v _ 1 w' hu hv)
  generalize hR : cmpZ ((Nat.gcd (valD p) (valD b) : Nat) : Int) 1 = R2 at HC13
  rw [show sgn false (Nat.gcd (valD p) (valD b)) = ((Nat.gcd (valD p) (valD b) : Nat) : Int) from rfl, hR] at hc9
  have hc9b : (R2 == 0) = false := by rw [beq_eq_false_iff_ne]; exact hc9
  clear hR
  refine wp_region_held_drew (S := (fun w' => w'.cell? ⟨w5.heap.size, 0, none⟩ = some (.bool x5) ∧ w'.cell? ⟨w5.heap.size, 1, none⟩ = some (.slice a5 n5 c5) ∧ w'.cell? ⟨w6.heap.size, 0, none⟩ = some (.bool x6) ∧ w'.cell? ⟨w6.heap.size, 1, none⟩ = some (.slice a6 n6 c6))) (by kernel_rfl) (by exact ⟨(blk2v (HQ5.out.below ((Below.refl _ _).dn 1))).1.1, (blk2v (HQ5.out.below ((Below.refl _ _).dn 1))).1.2, (blk2v (HQ6.out.below ((Below.refl _ _).dn 1))).1.1, (blk2v (HQ6.out.below ((Below.refl _ _).dn 1))).1.2⟩) (fun hHeld => ?_)
  refine wpAnyH_take (i := 0) (v := ?v31) rfl (by kernel_rfl) (by kernel_rfl) (by kernel_rfl) (fun _ _ _ h => h) (Or.inl ⟨by rfl, ?hy31⟩) (by assumption) ?rest31
  case hy31 => (intro w hSw; (try dsimp only at hSw); go_simp; try (with_reducible rfl))
  try simp only [Act.put, List.getElem_toArray, List.getElem_cons_zero, List.setIfInBounds_toArray, List.set_cons_zero, List.set_cons_succ]
  refine' tk 1 ?_; (try simp only [tkS]); refine' tk 2 ?_; (try simp only [tkS]); refine' tk 3 ?_; (try simp only [tkS])
  refine tk1 4 (fun K hK => ?_)
  go_simp
  go_at_call 62
  refine (one_any _).mono ?_
  rintro e5 w4 ⟨v4, rfl, hv4, hb4⟩
  have Hb4 := hI (bw_via ((Below.refl _ _).dn 1) hb4)
  obtain ⟨x41, a41, k41, c41, rfl, hv4⟩ := hv4.open
  have HO4 := hI hv4
  clear hv4
  clear hb4
  refine hK.out _ _ (by exact ⟨(blk2v (HQ5.out.below (Hb4.out))).1.1, (blk2v (HQ5.out.below (Hb4.out))).1.2, (blk2v (HQ6.out.below (Hb4.out))).1.1, (blk2v (HQ6.out.below (Hb4.out))).1.2⟩) (fun hHeld => ?_)
  clear hK K; (try simp only [tkS])
  refine tk1 5 (fun K hK => ?_)
  go_simp
  go_at_call 61
  refine (HC5.out _ (Hb4.out) _ HO4.out).mono ?_
  rintro e5 w5 ⟨rfl, hb5⟩
  have HO4 := hI (HO4.out.mono hb5)
  have Hb5 := hI (bw_via (Hb4.out) hb5)
  clear hb5
  refine hK.out _ _ (by exact ⟨(blk2v (HQ5.out.below (Hb5.out))).1.1, (blk2v (HQ5.out.below (Hb5.out))).1.2, (blk2v (HQ6.out.below (Hb5.out))).1.1, (blk2v (HQ6.out.below (Hb5.out))).1.2⟩) (fun hHeld => ?_)
  clear hK K; (try simp only [tkS])
  refine' tk 6 ?_; (try simp only [tkS]); refine' tk 7 ?_; (try simp only [tkS]); refine' tk 8 ?_; (try simp only [tkS]); refine' tk 9 ?_; (try simp only [tkS]); refine' tk 10 ?_; (try simp only [tkS])
  refine tk1 11 (fun K hK => ?_)
  go_simp
  go_at_call 73
  refine (HG.out _ (Hb5.out)).mono ?_
  rintro e5 w11 ⟨v11, rfl, hv11, hb11⟩
  have HO4 := hI (HO4.out.mono hb11)
  have Hb11 := hI (bw_via (Hb5.out) hb11)
  obtain ⟨x111, a111, k111, c111, rfl, hv11⟩ := hv11.open
  have HO11 := hI hv11
  clear hv11
  clear hb11
  refine hK.out _ _ (by exact ⟨(blk2v (HQ5.out.below (Hb11.out))).1.1, (blk2v (HQ5.out.below (Hb11.out))).1.2, (blk2v (HQ6.out.below (Hb11.out))).1.1, (blk2v (HQ6.out.below (Hb11.out))).1.2⟩) (fun hHeld => ?_)
  clear hK K; (try simp only [tkS])
  refine tk1 12 (fun K hK => ?_)
  go_simp
  go_at_call 62
  refine (one_any _).mono ?_
  rintro e5 w12 ⟨v12, rfl, hv12, hb12⟩
  have HO4 := hI (HO4.out.mono hb12)
  have HO11 := hI (HO11.out.mono hb12)
  have Hb12 := hI (bw_via (Hb11.out) hb12)
  obtain ⟨x121, a121, k121, c121, rfl, hv12⟩ := hv12.open
  have HO12 := hI hv12
  clear hv12
  clear hb12
  refine hK.out _ _ (by exact ⟨(blk2v (HQ5.out.below (Hb12.out))).1.1, (blk2v (HQ5.out.below (Hb12.out))).1.2, (blk2v (HQ6.out.below (Hb12.out))).1.1, (blk2v (HQ6.out.below (Hb12.out))).1.2⟩) (fun hHeld => ?_)
  clear hK K; (try simp only [tkS])
  refine tk1 13 (fun K hK => ?_)
  go_simp
  go_at_call 61
  refine (HC13.out _ _ _ HO11.out HO12.out).mono ?_
  rintro e5 w13 ⟨rfl, hb13⟩
  have HO4 := hI (HO4.out.mono hb13)
  have HO11 := hI (HO11.out.mono hb13)
  have HO12 := hI (HO12.out.mono hb13)
  have Hb13 := hI (bw_via (Hb12.out) hb13)
  clear hb13
  refine hK.out _ _ (by exact ⟨(blk2v (HQ5.out.below (Hb13.out))).1.1, (blk2v (HQ5.out.below (Hb13.out))).1.2, (blk2v (HQ6.out.below (Hb13.out))).1.1, (blk2v (HQ6.out.below (Hb13.out))).1.2⟩) (fun hHeld => ?_)
  clear hK K; (try simp only [tkS])
  refine' tk 14 ?_; (try simp only [tkS]); refine' tk 15 ?_; (try simp only [tkS])
  refine tkD ?_ _
  have Hbz := hI (bw_via Hw6.out (Hb13.out))
  have hr := HR.out.below Hbz.out; obtain ⟨⟨r0, r1, r2, r3⟩, f0, f1, f2, f3⟩ := blk4v hr; have Hr := hI hr; clear hr
  go_wp2_with fail
  have hr2 := (((Hr.out.set 0 (.bool false)).set 1 (.slice none 0 0)).set 2 (.bool false)).set 3 (.slice none 0 0)
  obtain ⟨⟨q0, q1, q2, q3⟩, -⟩ := blk4v hr2
  exact bodyPost_ret (v := .tuple #[.agg #[.bool false, .slice none 0 0, .bool false, .slice none 0 0], .int .i64 3]) (by simp [results, Tryz.results38, go_sem, q0, q1, q2, q3]) rfl ⟨rfl, put_below4 (b := w.heap.size) (.bool false) (.slice none 0 0) (.bool false) (.slice none 0 0) ((below1 w (.cells #[.bool false, .slice none 0 0, .bool false, .slice none 0 0] 61)).via Hbz.out (below1 w _).size) (Nat.le_refl _)⟩
set_option maxHeartbeats 8000000 in
set_option maxRecDepth 100000 in
theorem read_o2 (s : ByteArray) (l t b p : List UInt8) (dv neg : Bool) (w : World) (hs : s.size ≤ 5000) (hl : s.data.toList = l) (hT : topL l = t) (hB : botL l = b) (hD : divB l = dv) (hP : absL t = p) (hN : negB t = neg) (_ht60 : t.length ≤ 5000) (hb60 : b.length ≤ 5000) (hp60 : p.length ≤ 5000) (h1 : digB p = true) (h2 : dv = true) (h3 : digB b = true) (h4 : zerB b = false) (h6 : badI p neg = false) (h7 : badI b false = false) (h8 : valD b ≠ 1) (h9 : Nat.gcd (valD p) (valD b) = 1) : Calls Tryz.prog 38 #[.string s, .int .i64 65536] w (RetP (fun v w' => ∃ x a n c y a' m e, v = .tuple #[.agg #[.bool x, .slice a n c, .bool y, .slice a' m e], .int .i64 0] ∧ RatV w' (.agg #[.bool x, .slice a n c, .bool y, .slice a' m e]) (sgn neg (valD p)) (sgn false (valD b)) ∧ AU w' a ∧ AU w' a') w) := by
  have H1 := hI (fun w' => cut_g s w' (by omega))
  rw [hl, hT, hB, hD] at H1
  have H2 := hI (fun w' => Tryz.strings_TrimPrefix ⟨t.toArray⟩ ⟨#[45]⟩ w')
  rw [show (⟨#[45]⟩ : ByteArray).data.toList = [45] from rfl, show Lib.trimPrefix (⟨t.toArray⟩ : ByteArray).data.toList [45] = p from hP] at H2
  have H3 := hI (fun w' => digits_g p w' (by omega))
  have H4 := hI (fun w' => digits_g b w' (by omega))
  have H5 := hI (fun w' => trim0_g b w' (by omega))
  have hss2 : ¬ (65536 : Int) < (s.size : Int) := by omega
  have HR := hI (Blk.new w #[.bool false, .slice none 0 0, .bool false, .slice none 0 0] 61)
  rw [h1] at H3
  rw [h3] at H4
  subst h2
  have H6 := hI (fun w' => parse_g ⟨t.toArray⟩ p neg w' (numeral hP hN) (digB_iff.1 h1).2 (digB_iff.1 h1).1 (by omega) h6)
  have H7 := hI (fun w' => parse_g ⟨b.toArray⟩ b false w' rfl (digB_iff.1 h3).2 (digB_iff.1 h3).1 (by omega) h7)
  have hz : Lib.trimS b [48] ≠ [] := fun e => by have h := trim_zerB (d := b); rw [e, h4] at h; exact absurd h (by decide)
  have hz2 := digitsB hz
  generalize (⟨(Lib.trimS b [48]).toArray⟩ : ByteArray) = Z at *
  clear hz
  have hlb := valD_lt (digB_iff.1 h3).2
  have hlp := valD_lt (digB_iff.1 h1).2
  have HLD := hI (show (limbs (sgn false (valD b)).natAbs).length < 1000000 by rw [sgn_abs]; exact limbs_ten hlb (by omega))
  have HLN := hI (show (limbs (sgn neg (valD p)).natAbs).length < 1000000 by rw [sgn_abs]; exact limbs_ten hlp (by omega))
  clear hlb hlp
  clear hl hT hB hD hP hN _ht60 hb60 hp60 hs
  generalize (⟨t.toArray⟩ : ByteArray) = T at *
  generalize (⟨b.toArray⟩ : ByteArray) = B at *
  generalize (⟨p.toArray⟩ : ByteArray) = P at *
  go_enter Tryz.func38, Tryz.ntmps38
  go_wp2_with (first
    | (go_at_call 68; refine (H1.out _).mono ?_; rintro e w1 ⟨rfl, hb1⟩; have Hb1 := hI hb1; clear hb1)
    | (go_at_call 70; refine (H2.out _).mono ?_; rintro e w' ⟨rfl, rfl⟩; skip)
    | (have _t := Hb2; clear _t; go_at_call 69; refine (H4.out _).mono ?_; rintro e w3 ⟨rfl, hb3⟩; have Hb3 := hI (bw_via Hb2.out hb3); clear hb3; have hr := HR.out.below Hb3.out; obtain ⟨⟨r0, r1, r2, r3⟩, f0, f1, f2, f3⟩ := blk4v hr; have Hr := hI hr; clear hr)
    | (go_at_call 69; refine (H3.out _).mono ?_; rintro e w2 ⟨rfl, hb2⟩; have Hb2 := hI (bw_via Hb1.out hb2); clear hb2; have hr := HR.out.below Hb2.out; obtain ⟨⟨r0, r1, r2, r3⟩, f0, f1, f2, f3⟩ := blk4v hr; have Hr := hI hr; clear hr)
    | (go_at_call 71; refine (H5.out _).mono ?_; rintro e w4 ⟨rfl, hb4⟩; have Hb4 := hI (bw_via Hb3.out hb4); clear hb4; have hr := HR.out.below Hb4.out; obtain ⟨⟨r0, r1, r2, r3⟩, f0, f1, f2, f3⟩ := blk4v hr; have Hr := hI hr; clear hr)
    | (have _t := Hb5; clear _t; go_at_call 72; refine (H7.out _).mono ?_; rintro e w6 ⟨v6, rfl, ⟨x6, a6, n6, c6, rfl, hv6, hau6⟩, hb6⟩; have Hb6 := hI (bw_via Hw5.out hb6); have Hw6 := hI (bw_via Hb6.out (below1 w6 (.cells #[.bool x6, .slice a6 n6 c6] 59))); have HV6 := hI (hv6.mono (below1 w6 (.cells #[.bool x6, .slice a6 n6 c6] 59))); have HU6 := hI (hau6.mono (below1 w6 (.cells #[.bool x6, .slice a6 n6 c6] 59))); have HV56 := hI ((HV5.out.mono hb6).mono (below1 w6 (.cells #[.bool x6, .slice a6 n6 c6] 59))); have HU56 := hI ((HU5.out.mono hb6).mono (below1 w6 (.cells #[.bool x6, .slice a6 n6 c6] 59))); have HQ5 := hI (((Blk.new w5 #[.bool x5, .slice a5 n5 c5] 59).below hb6).old (.cells #[.bool x6, .slice a6 n6 c6] 59)); have HQ6 := hI (Blk.new w6 #[.bool x6, .slice a6 n6 c6] 59); clear hb6 hv6 hau6; have hr := HR.out.below Hw6.out; obtain ⟨⟨r0, r1, r2, r3⟩, f0, f1, f2, f3⟩ := blk4v hr; have Hr := hI hr; clear hr)
    | (go_at_call 72; refine (H6.out _).mono ?_; rintro e w5 ⟨v5, rfl, ⟨x5, a5, n5, c5, rfl, hv5, hau5⟩, hb5⟩; have Hb5 := hI (bw_via Hb4.out hb5); have Hw5 := hI (bw_via Hb5.out (below1 w5 (.cells #[.bool x5, .slice a5 n5 c5] 59))); have HV5 := hI (hv5.mono (below1 w5 (.cells #[.bool x5, .slice a5 n5 c5] 59))); have HU5 := hI (hau5.mono (below1 w5 (.cells #[.bool x5, .slice a5 n5 c5] 59))); clear hb5 hv5 hau5; have hr := HR.out.below Hw5.out; obtain ⟨⟨r0, r1, r2, r3⟩, f0, f1, f2, f3⟩ := blk4v hr; have Hr := hI hr; clear hr))
  have HC5 := hI (fun w' (hb : Below (w6.alloc (.cells #[.bool x6, .slice a6 n6 c6] 59)).heap.size (w6.alloc (.cells #[.bool x6, .slice a6 n6 c6] 59)) w') u (hu : IntV w' u 1) => compare_any _ u _ 1 w' (HV6.out.mono hb) hu)
  have HG := hI (fun w' (hb : Below (w6.alloc (.cells #[.bool x6, .slice a6 n6 c6] 59)).heap.size (w6.alloc (.cells #[.bool x6, .slice a6 n6 c6] 59)) w') => gcd_any _ _ _ _ w' (HV56.out.mono hb) (HV6.out.mono hb) HLN.out HLD.out)
  rw [sgn_abs, sgn_abs] at HG
  have hc5 : cmpZ (sgn false (valD b)) 1 ≠ 0 := cmp1_ne h8
  generalize hR : cmpZ (sgn false (valD b)) 1 = R1 at HC5
  rw [hR] at hc5
  have hc5b : (R1 == 0) = false := by rw [beq_eq_false_iff_ne]; exact hc5
  clear hR
  rw [h9] at HG
  have HC13 := hI (fun w' u v (hu : IntV w' u ((1 : Nat) : Int)) (hv : IntV w' v 1) => compare_any u v _ 1 w' hu hv)
  rw [show cmpZ ((1 : Nat) : Int) 1 = 0 from rfl] at HC13
  refine wp_region_held_drew (S := (fun w' => w'.cell? ⟨w5.heap.size, 0, none⟩ = some (.bool x5) ∧ w'.cell? ⟨w5.heap.size, 1, none⟩ = some (.slice a5 n5 c5) ∧ w'.cell? ⟨w6.heap.size, 0, none⟩ = some (.bool x6) ∧ w'.cell? ⟨w6.heap.size, 1, none⟩ = some (.slice a6 n6 c6))) (by kernel_rfl) (by exact ⟨(blk2v (HQ5.out.below ((Below.refl _ _).dn 1))).1.1, (blk2v (HQ5.out.below ((Below.refl _ _).dn 1))).1.2, (blk2v (HQ6.out.below ((Below.refl _ _).dn 1))).1.1, (blk2v (HQ6.out.below ((Below.refl _ _).dn 1))).1.2⟩) (fun hHeld => ?_)
  refine wpAnyH_take (i := 0) (v := ?v42) rfl (by kernel_rfl) (by kernel_rfl) (by kernel_rfl) (fun _ _ _ h => h) (Or.inl ⟨by rfl, ?hy42⟩) (by assumption) ?rest42
  case hy42 => (intro w hSw; (try dsimp only at hSw); go_simp; try (with_reducible rfl))
  try simp only [Act.put, List.getElem_toArray, List.getElem_cons_zero, List.setIfInBounds_toArray, List.set_cons_zero, List.set_cons_succ]
  refine' tk 1 ?_; (try simp only [tkS]); refine' tk 2 ?_; (try simp only [tkS]); refine' tk 3 ?_; (try simp only [tkS])
  refine tk1 4 (fun K hK => ?_)
  go_simp
  go_at_call 62
  refine (one_any _).mono ?_
  rintro e5 w4 ⟨v4, rfl, hv4, hb4⟩
  have Hb4 := hI (bw_via ((Below.refl _ _).dn 1) hb4)
  obtain ⟨x41, a41, k41, c41, rfl, hv4⟩ := hv4.open
  have HO4 := hI hv4
  clear hv4
  clear hb4
  refine hK.out _ _ (by exact ⟨(blk2v (HQ5.out.below (Hb4.out))).1.1, (blk2v (HQ5.out.below (Hb4.out))).1.2, (blk2v (HQ6.out.below (Hb4.out))).1.1, (blk2v (HQ6.out.below (Hb4.out))).1.2⟩) (fun hHeld => ?_)
  clear hK K; (try simp only [tkS])
  refine tk1 5 (fun K hK => ?_)
  go_simp
  go_at_call 61
  refine (HC5.out _ (Hb4.out) _ HO4.out).mono ?_
  rintro e5 w5 ⟨rfl, hb5⟩
  have HO4 := hI (HO4.out.mono hb5)
  have Hb5 := hI (bw_via (Hb4.out) hb5)
  clear hb5
  refine hK.out _ _ (by exact ⟨(blk2v (HQ5.out.below (Hb5.out))).1.1, (blk2v (HQ5.out.below (Hb5.out))).1.2, (blk2v (HQ6.out.below (Hb5.out))).1.1, (blk2v (HQ6.out.below (Hb5.out))).1.2⟩) (fun hHeld => ?_)
  clear hK K; (try simp only [tkS])
  refine' tk 6 ?_; (try simp only [tkS]); refine' tk 7 ?_; (try simp only [tkS]); refine' tk 8 ?_; (try simp only [tkS]); refine' tk 9 ?_; (try simp only [tkS]); refine' tk 10 ?_; (try simp only [tkS])
  refine tk1 11 (fun K hK => ?_)
  go_simp
  go_at_call 73
  refine (HG.out _ (Hb5.out)).mono ?_
  rintro e5 w11 ⟨v11, rfl, hv11, hb11⟩
  have HO4 := hI (HO4.out.mono hb11)
  have Hb11 := hI (bw_via (Hb5.out) hb11)
  obtain ⟨x111, a111, k111, c111, rfl, hv11⟩ := hv11.open
  have HO11 := hI hv11
  clear hv11
  clear hb11
  refine hK.out _ _ (by exact ⟨(blk2v (HQ5.out.below (Hb11.out))).1.1, (blk2v (HQ5.out.below (Hb11.out))).1.2, (blk2v (HQ6.out.below (Hb11.out))).1.1, (blk2v (HQ6.out.below (Hb11.out))).1.2⟩) (fun hHeld => ?_)
  clear hK K; (try simp only [tkS])
  refine tk1 12 (fun K hK => ?_)
  go_simp
  go_at_call 62
  refine (one_any _).mono ?_
  rintro e5 w12 ⟨v12, rfl, hv12, hb12⟩
  have HO4 := hI (HO4.out.mono hb12)
  have HO11 := hI (HO11.out.mono hb12)
  have Hb12 := hI (bw_via (Hb11.out) hb12)
  obtain ⟨x121, a121, k121, c121, rfl, hv12⟩ := hv12.open
  have HO12 := hI hv12
  clear hv12
  clear hb12
  refine hK.out _ _ (by exact ⟨(blk2v (HQ5.out.below (Hb12.out))).1.1, (blk2v (HQ5.out.below (Hb12.out))).1.2, (blk2v (HQ6.out.below (Hb12.out))).1.1, (blk2v (HQ6.out.below (Hb12.out))).1.2⟩) (fun hHeld => ?_)
  clear hK K; (try simp only [tkS])
  refine tk1 13 (fun K hK => ?_)
  go_simp
  go_at_call 61
  refine (HC13.out _ _ _ HO11.out HO12.out).mono ?_
  rintro e5 w13 ⟨rfl, hb13⟩
  have HO4 := hI (HO4.out.mono hb13)
  have HO11 := hI (HO11.out.mono hb13)
  have HO12 := hI (HO12.out.mono hb13)
  have Hb13 := hI (bw_via (Hb12.out) hb13)
  clear hb13
  refine hK.out _ _ (by exact ⟨(blk2v (HQ5.out.below (Hb13.out))).1.1, (blk2v (HQ5.out.below (Hb13.out))).1.2, (blk2v (HQ6.out.below (Hb13.out))).1.1, (blk2v (HQ6.out.below (Hb13.out))).1.2⟩) (fun hHeld => ?_)
  clear hK K; (try simp only [tkS])
  refine' tk 14 ?_; (try simp only [tkS]); refine' tk 15 ?_; (try simp only [tkS])
  refine tkD ?_ _
  have Hbz := hI (bw_via Hw6.out (Hb13.out))
  have HVz := hI (And.intro (HV56.out.mono (Hb13.out)) (HV6.out.mono (Hb13.out)))
  have HUz := hI (And.intro (HU56.out.mono (Hb13.out)) (HU6.out.mono (Hb13.out)))
  obtain ⟨g0, g1, g2, g3⟩ := (⟨(blk2v (HQ5.out.below (Hb13.out))).1.1, (blk2v (HQ5.out.below (Hb13.out))).1.2, (blk2v (HQ6.out.below (Hb13.out))).1.1, (blk2v (HQ6.out.below (Hb13.out))).1.2⟩ : _ ∧ _ ∧ _ ∧ _)
  have hr := HR.out.below Hbz.out; obtain ⟨⟨r0, r1, r2, r3⟩, f0, f1, f2, f3⟩ := blk4v hr; have Hr := hI hr; clear hr
  go_wp2_with fail
  obtain ⟨hv9, hb9⟩ := RatV.put4 (RatV.mk HVz.out.1 HVz.out.2) Hr.out
  have hau := (((HUz.out.1.set w.heap.size 0 (.bool x5)).set w.heap.size 1 (.slice a5 n5 c5)).set w.heap.size 2 (.bool x6)).set w.heap.size 3 (.slice a6 n6 c6)
  have hau2 := (((HUz.out.2.set w.heap.size 0 (.bool x5)).set w.heap.size 1 (.slice a5 n5 c5)).set w.heap.size 2 (.bool x6)).set w.heap.size 3 (.slice a6 n6 c6)
  obtain ⟨⟨q0, q1, q2, q3⟩, -⟩ := blk4v hb9
  exact bodyPost_ret (v := .tuple #[.agg #[.bool x5, .slice a5 n5 c5, .bool x6, .slice a6 n6 c6], .int .i64 0]) (by simp [results, Tryz.results38, go_sem, q0, q1, q2, q3]) rfl ⟨_, rfl, ⟨_, _, _, _, _, _, _, _, rfl, hv9, hau, hau2⟩, put_below4 (b := w.heap.size) (.bool x5) (.slice a5 n5 c5) (.bool x6) (.slice a6 n6 c6) ((below1 w (.cells #[.bool false, .slice none 0 0, .bool false, .slice none 0 0] 61)).via Hbz.out (below1 w _).size) (Nat.le_refl _)⟩
end Go.Proofs.YtlcmhbkmpkcajaaGreatDoor
