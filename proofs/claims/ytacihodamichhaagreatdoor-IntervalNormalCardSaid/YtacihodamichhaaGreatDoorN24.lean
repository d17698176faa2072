/-
  Parts of the proof: Ipg.
-/
import Derived.Test.YtacihodamichhaaGreatDoorN23
namespace Go.Proofs.YtacihodamichhaaGreatDoor
open Go.RowKit
def gpagg (k l : GC) : Value := .agg #[.int .i64 k.c.b, .string k.c.s, .int .i64 k.c.d, .bool k.x, .slice k.a k.n k.cap, .bool k.y, .slice k.e k.m k.cap2, .int .i64 l.c.b, .string l.c.s, .int .i64 l.c.d, .bool l.x, .slice l.a l.n l.cap, .bool l.y, .slice l.e l.m l.cap2]
def ivErr (x : Iv) : Int := if x.le < 0 ∨ 2 < x.le ∨ x.he < 0 ∨ 2 < x.he then 12 else if endErr x.lo x.le ≠ 0 then endErr x.lo x.le else endErr x.hi x.he
def Iv.short (x : Iv) : Prop := x.lo.size ≤ 60 ∧ x.hi.size ≤ 60
def IvG (x : Iv) (v : Value) (w' : World) : Prop := ∃ k l : GC, v = .tuple #[gpagg k l, .int .i64 (ivErr x)] ∧ k.ok w' ∧ l.ok w' ∧ (ivErr x = 0 → k.c = x.low ∧ l.c = x.high)
theorem cutE_ok {n : ByteArray} {kind side : Int} (h : endErr n kind = 0) : cutE n kind side = cutOf n kind side := by unfold cutE; rw [if_pos h]
set_option maxHeartbeats 8000000 in
set_option maxRecDepth 100000 in
theorem parse_kind (lo hi : ByteArray) (le he : Int) (w : World) (h : le < 0 ∨ 2 < le ∨ he < 0 ∨ 2 < he) : Calls Tryz.prog 72 #[.agg #[.string lo, .string hi, .int .i64 le, .int .i64 he]] w (RetP (fun v _w' => v = .tuple #[gpagg GC.none0 GC.none0, .int .i64 12]) w) := by
 have hR : Blk ((w.alloc (.cells #[.string lo, .string hi, .int .i64 le, .int .i64 he] 46)).alloc (.cells #[.int .i64 0, .string ⟨#[]⟩, .int .i64 0, .bool false, .slice none 0 0, .bool false, .slice none 0 0, .int .i64 0, .string ⟨#[]⟩, .int .i64 0, .bool false, .slice none 0 0, .bool false, .slice none 0 0] 84)) (w.heap.size + 1) #[.int .i64 0, .string ⟨#[]⟩, .int .i64 0, .bool false, .slice none 0 0, .bool false, .slice none 0 0, .int .i64 0, .string ⟨#[]⟩, .int .i64 0, .bool false, .slice none 0 0, .bool false, .slice none 0 0] 84 := by
  have h := Blk.new (w.alloc (.cells #[.string lo, .string hi, .int .i64 le, .int .i64 he] 46)) #[.int .i64 0, .string ⟨#[]⟩, .int .i64 0, .bool false, .slice none 0 0, .bool false, .slice none 0 0, .int .i64 0, .string ⟨#[]⟩, .int .i64 0, .bool false, .slice none 0 0, .bool false, .slice none 0 0] 84
  simpa using h
 have hA : Blk ((w.alloc (.cells #[.string lo, .string hi, .int .i64 le, .int .i64 he] 46)).alloc (.cells #[.int .i64 0, .string ⟨#[]⟩, .int .i64 0, .bool false, .slice none 0 0, .bool false, .slice none 0 0, .int .i64 0, .string ⟨#[]⟩, .int .i64 0, .bool false, .slice none 0 0, .bool false, .slice none 0 0] 84)) w.heap.size #[.string lo, .string hi, .int .i64 le, .int .i64 he] 46 := (Blk.new w _ _).old _
 have HA := hI (fun w' (hb : Below ((w.alloc (.cells #[.string lo, .string hi, .int .i64 le, .int .i64 he] 46)).alloc (.cells #[.int .i64 0, .string ⟨#[]⟩, .int .i64 0, .bool false, .slice none 0 0, .bool false, .slice none 0 0, .int .i64 0, .string ⟨#[]⟩, .int .i64 0, .bool false, .slice none 0 0, .bool false, .slice none 0 0] 84)).heap.size ((w.alloc (.cells #[.string lo, .string hi, .int .i64 le, .int .i64 he] 46)).alloc (.cells #[.int .i64 0, .string ⟨#[]⟩, .int .i64 0, .bool false, .slice none 0 0, .bool false, .slice none 0 0, .int .i64 0, .string ⟨#[]⟩, .int .i64 0, .bool false, .slice none 0 0, .bool false, .slice none 0 0] 84)) w') => (blk4v (hA.below hb)).1)
 have HR := hI hR
 have HK := hI (below2 w (.cells #[.string lo, .string hi, .int .i64 le, .int .i64 he] 46) (.cells #[.int .i64 0, .string ⟨#[]⟩, .int .i64 0, .bool false, .slice none 0 0, .bool false, .slice none 0 0, .int .i64 0, .string ⟨#[]⟩, .int .i64 0, .bool false, .slice none 0 0, .bool false, .slice none 0 0] 84))
 clear hR hA
 have hcase : le < 0 ∨ (¬ le < 0 ∧ 2 < le) ∨ (¬ le < 0 ∧ ¬ 2 < le ∧ he < 0) ∨ (¬ le < 0 ∧ ¬ 2 < le ∧ ¬ he < 0 ∧ 2 < he) := by omega
 clear h
 rcases hcase with g1 | ⟨g1, g2⟩ | ⟨g1, g2, g3⟩ | ⟨g1, g2, g3, g4⟩
 ·go_enter Tryz.func72, Tryz.ntmps72
  go_wp2_with fail
  exact bodyPost_ret (v := .tuple #[.agg #[.int .i64 0, .string ⟨#[]⟩, .int .i64 0, .bool false, .slice none 0 0, .bool false, .slice none 0 0, .int .i64 0, .string ⟨#[]⟩, .int .i64 0, .bool false, .slice none 0 0, .bool false, .slice none 0 0], .int .i64 12]) (by simp [results, Tryz.results72, go_sem]) rfl ⟨_, rfl, rfl, HK.out⟩
 ·go_enter Tryz.func72, Tryz.ntmps72
  go_wp2_with fail
  exact bodyPost_ret (v := .tuple #[.agg #[.int .i64 0, .string ⟨#[]⟩, .int .i64 0, .bool false, .slice none 0 0, .bool false, .slice none 0 0, .int .i64 0, .string ⟨#[]⟩, .int .i64 0, .bool false, .slice none 0 0, .bool false, .slice none 0 0], .int .i64 12]) (by simp [results, Tryz.results72, go_sem]) rfl ⟨_, rfl, rfl, HK.out⟩
 ·go_enter Tryz.func72, Tryz.ntmps72
  go_wp2_with fail
  exact bodyPost_ret (v := .tuple #[.agg #[.int .i64 0, .string ⟨#[]⟩, .int .i64 0, .bool false, .slice none 0 0, .bool false, .slice none 0 0, .int .i64 0, .string ⟨#[]⟩, .int .i64 0, .bool false, .slice none 0 0, .bool false, .slice none 0 0], .int .i64 12]) (by simp [results, Tryz.results72, go_sem]) rfl ⟨_, rfl, rfl, HK.out⟩
 ·go_enter Tryz.func72, Tryz.ntmps72
  go_wp2_with fail
  exact bodyPost_ret (v := .tuple #[.agg #[.int .i64 0, .string ⟨#[]⟩, .int .i64 0, .bool false, .slice none 0 0, .bool false, .slice none 0 0, .int .i64 0, .string ⟨#[]⟩, .int .i64 0, .bool false, .slice none 0 0, .bool false, .slice none 0 0], .int .i64 12]) (by simp [results, Tryz.results72, go_sem]) rfl ⟨_, rfl, rfl, HK.out⟩
set_option maxHeartbeats 8000000 in
set_option maxRecDepth 100000 in
theorem parse_low (lo hi : ByteArray) (le he : Int) (w : World) (r1 : 0 ≤ le) (r2 : le ≤ 2) (r3 : 0 ≤ he) (r4 : he ≤ 2) (hs : lo.size ≤ 60) (h : endErr lo le ≠ 0) : Calls Tryz.prog 72 #[.agg #[.string lo, .string hi, .int .i64 le, .int .i64 he]] w (RetP (fun v _w' => v = .tuple #[gpagg GC.none0 GC.none0, .int .i64 (endErr lo le)]) w) := by
 have hR : Blk ((w.alloc (.cells #[.string lo, .string hi, .int .i64 le, .int .i64 he] 46)).alloc (.cells #[.int .i64 0, .string ⟨#[]⟩, .int .i64 0, .bool false, .slice none 0 0, .bool false, .slice none 0 0, .int .i64 0, .string ⟨#[]⟩, .int .i64 0, .bool false, .slice none 0 0, .bool false, .slice none 0 0] 84)) (w.heap.size + 1) #[.int .i64 0, .string ⟨#[]⟩, .int .i64 0, .bool false, .slice none 0 0, .bool false, .slice none 0 0, .int .i64 0, .string ⟨#[]⟩, .int .i64 0, .bool false, .slice none 0 0, .bool false, .slice none 0 0] 84 := by
  have h := Blk.new (w.alloc (.cells #[.string lo, .string hi, .int .i64 le, .int .i64 he] 46)) #[.int .i64 0, .string ⟨#[]⟩, .int .i64 0, .bool false, .slice none 0 0, .bool false, .slice none 0 0, .int .i64 0, .string ⟨#[]⟩, .int .i64 0, .bool false, .slice none 0 0, .bool false, .slice none 0 0] 84
  simpa using h
 have hA : Blk ((w.alloc (.cells #[.string lo, .string hi, .int .i64 le, .int .i64 he] 46)).alloc (.cells #[.int .i64 0, .string ⟨#[]⟩, .int .i64 0, .bool false, .slice none 0 0, .bool false, .slice none 0 0, .int .i64 0, .string ⟨#[]⟩, .int .i64 0, .bool false, .slice none 0 0, .bool false, .slice none 0 0] 84)) w.heap.size #[.string lo, .string hi, .int .i64 le, .int .i64 he] 46 := (Blk.new w _ _).old _
 have HA := hI (fun w' (hb : Below ((w.alloc (.cells #[.string lo, .string hi, .int .i64 le, .int .i64 he] 46)).alloc (.cells #[.int .i64 0, .string ⟨#[]⟩, .int .i64 0, .bool false, .slice none 0 0, .bool false, .slice none 0 0, .int .i64 0, .string ⟨#[]⟩, .int .i64 0, .bool false, .slice none 0 0, .bool false, .slice none 0 0] 84)).heap.size ((w.alloc (.cells #[.string lo, .string hi, .int .i64 le, .int .i64 he] 46)).alloc (.cells #[.int .i64 0, .string ⟨#[]⟩, .int .i64 0, .bool false, .slice none 0 0, .bool false, .slice none 0 0, .int .i64 0, .string ⟨#[]⟩, .int .i64 0, .bool false, .slice none 0 0, .bool false, .slice none 0 0] 84)) w') => (blk4v (hA.below hb)).1)
 have HR := hI hR
 have HK := hI (below2 w (.cells #[.string lo, .string hi, .int .i64 le, .int .i64 he] 46) (.cells #[.int .i64 0, .string ⟨#[]⟩, .int .i64 0, .bool false, .slice none 0 0, .bool false, .slice none 0 0, .int .i64 0, .string ⟨#[]⟩, .int .i64 0, .bool false, .slice none 0 0, .bool false, .slice none 0 0] 84))
 clear hR hA
 have g1 : ¬ le < 0 := by omega
 have g2 : ¬ 2 < le := by omega
 have g3 : ¬ he < 0 := by omega
 have g4 : ¬ 2 < he := by omega
 have H1 := hI (fun w' => end_g lo le 1 w' (.inl rfl) ⟨r1, r2⟩ hs)
 unfold EndG at H1
 generalize endErr lo le = code at *
 have hc : (code != 0) = true := by rw [bne_iff_ne]; exact h
 clear r1 r2 r3 r4 hs h
 go_enter Tryz.func72, Tryz.ntmps72
 go_wp2_with (go_at_call 122; refine (H1.out _).mono ?_; rintro e w1 ⟨v1, rfl, ⟨k1, rfl, -, -⟩, hb1⟩; obtain ⟨⟨b1, s1, d1⟩, x1, a1, n1, c1, y1, e1, m1, l1⟩ := k1; unfold GC.agg; have hbw := bw_via hb1 (below1 w1 (.cells #[.int .i64 b1, .string s1, .int .i64 d1, .bool x1, .slice a1 n1 c1, .bool y1, .slice e1 m1 l1] 79)); have hr := HR.out.below hbw; obtain ⟨r0, r1, r2, r3, r4, r5, r6, r7, r8, r9, r10, r11, r12, r13⟩ := cells14 hr (Below.refl _ _); obtain ⟨f0, f1, f2, f3, f4, f5, f6, f7, f8, f9, f10, f11, f12, f13⟩ := free14 hr; have hb7 := setN_blk hr [.int .i64 0, .string ⟨#[]⟩, .int .i64 0, .bool false, .slice none 0 0, .bool false, .slice none 0 0, .int .i64 0, .string ⟨#[]⟩, .int .i64 0, .bool false, .slice none 0 0, .bool false, .slice none 0 0] rfl; have hbel := setN_below (b := w.heap.size + 1) (Nat.le_add_right _ 1) [.int .i64 0, .string ⟨#[]⟩, .int .i64 0, .bool false, .slice none 0 0, .bool false, .slice none 0 0, .int .i64 0, .string ⟨#[]⟩, .int .i64 0, .bool false, .slice none 0 0, .bool false, .slice none 0 0] 0 _ (HK.out.via hbw HK.out.size); simp only [setN, Nat.zero_add, Nat.reduceAdd] at hb7 hbel; have Hb7 := hI hb7; have Hbel := hI hbel; clear hb7 hbel hr hb1 hbw)
 obtain ⟨q0, q1, q2, q3, q4, q5, q6, q7, q8, q9, q10, q11, q12, q13⟩ := cells14 Hb7.out (Below.refl _ _)
 exact bodyPost_ret (v := .tuple #[.agg #[.int .i64 0, .string ⟨#[]⟩, .int .i64 0, .bool false, .slice none 0 0, .bool false, .slice none 0 0, .int .i64 0, .string ⟨#[]⟩, .int .i64 0, .bool false, .slice none 0 0, .bool false, .slice none 0 0], .int .i64 code]) (by simp [results, Tryz.results72, go_sem, q0, q1, q2, q3, q4, q5, q6, q7, q8, q9, q10, q11, q12, q13]) rfl ⟨_, rfl, rfl, Hbel.out⟩
set_option maxHeartbeats 8000000 in
set_option maxRecDepth 100000 in
theorem parse_both (lo hi : ByteArray) (le he : Int) (w : World) (r1 : 0 ≤ le) (r2 : le ≤ 2) (r3 : 0 ≤ he) (r4 : he ≤ 2) (hs : lo.size ≤ 60) (hs' : hi.size ≤ 60) (h : endErr lo le = 0) : Calls Tryz.prog 72 #[.agg #[.string lo, .string hi, .int .i64 le, .int .i64 he]] w (RetP (fun v w' => ∃ k l : GC, v = .tuple #[gpagg k l, .int .i64 (endErr hi he)] ∧ k.ok w' ∧ l.ok w' ∧ k.c = cutE lo le 1 ∧ l.c = cutE hi he (-1)) w) := by
 have hR : Blk ((w.alloc (.cells #[.string lo, .string hi, .int .i64 le, .int .i64 he] 46)).alloc (.cells #[.int .i64 0, .string ⟨#[]⟩, .int .i64 0, .bool false, .slice none 0 0, .bool false, .slice none 0 0, .int .i64 0, .string ⟨#[]⟩, .int .i64 0, .bool false, .slice none 0 0, .bool false, .slice none 0 0] 84)) (w.heap.size + 1) #[.int .i64 0, .string ⟨#[]⟩, .int .i64 0, .bool false, .slice none 0 0, .bool false, .slice none 0 0, .int .i64 0, .string ⟨#[]⟩, .int .i64 0, .bool false, .slice none 0 0, .bool false, .slice none 0 0] 84 := by
  have h := Blk.new (w.alloc (.cells #[.string lo, .string hi, .int .i64 le, .int .i64 he] 46)) #[.int .i64 0, .string ⟨#[]⟩, .int .i64 0, .bool false, .slice none 0 0, .bool false, .slice none 0 0, .int .i64 0, .string ⟨#[]⟩, .int .i64 0, .bool false, .slice none 0 0, .bool false, .slice none 0 0] 84
  simpa using h
 have hA : Blk ((w.alloc (.cells #[.string lo, .string hi, .int .i64 le, .int .i64 he] 46)).alloc (.cells #[.int .i64 0, .string ⟨#[]⟩, .int .i64 0, .bool false, .slice none 0 0, .bool false, .slice none 0 0, .int .i64 0, .string ⟨#[]⟩, .int .i64 0, .bool false, .slice none 0 0, .bool false, .slice none 0 0] 84)) w.heap.size #[.string lo, .string hi, .int .i64 le, .int .i64 he] 46 := (Blk.new w _ _).old _
 have HA := hI (fun w' (hb : Below ((w.alloc (.cells #[.string lo, .string hi, .int .i64 le, .int .i64 he] 46)).alloc (.cells #[.int .i64 0, .string ⟨#[]⟩, .int .i64 0, .bool false, .slice none 0 0, .bool false, .slice none 0 0, .int .i64 0, .string ⟨#[]⟩, .int .i64 0, .bool false, .slice none 0 0, .bool false, .slice none 0 0] 84)).heap.size ((w.alloc (.cells #[.string lo, .string hi, .int .i64 le, .int .i64 he] 46)).alloc (.cells #[.int .i64 0, .string ⟨#[]⟩, .int .i64 0, .bool false, .slice none 0 0, .bool false, .slice none 0 0, .int .i64 0, .string ⟨#[]⟩, .int .i64 0, .bool false, .slice none 0 0, .bool false, .slice none 0 0] 84)) w') => (blk4v (hA.below hb)).1)
 have HR := hI hR
 have HK := hI (below2 w (.cells #[.string lo, .string hi, .int .i64 le, .int .i64 he] 46) (.cells #[.int .i64 0, .string ⟨#[]⟩, .int .i64 0, .bool false, .slice none 0 0, .bool false, .slice none 0 0, .int .i64 0, .string ⟨#[]⟩, .int .i64 0, .bool false, .slice none 0 0, .bool false, .slice none 0 0] 84))
 clear hR hA
 have g1 : ¬ le < 0 := by omega
 have g2 : ¬ 2 < le := by omega
 have g3 : ¬ he < 0 := by omega
 have g4 : ¬ 2 < he := by omega
 have H1 := hI (fun w' => end_g lo le 1 w' (.inl rfl) ⟨r1, r2⟩ hs)
 have H2 := hI (fun w' => end_g hi he (-1) w' (.inr rfl) ⟨r3, r4⟩ hs')
 unfold EndG at H1 H2
 rw [h] at H1
 generalize endErr hi he = code at *
 generalize cutE lo le 1 = cl at *
 generalize cutE hi he (-1) = ch at *
 clear r1 r2 r3 r4 hs hs' h
 go_enter Tryz.func72, Tryz.ntmps72
 go_wp2_with (first
  | (go_at_call 122; have _t := Hb1; clear _t; refine (H2.out _).mono ?_; rintro e w2 ⟨v2, rfl, ⟨k2, rfl, hc2, hk2⟩, hb2⟩; obtain ⟨⟨b2, s2, d2⟩, x2, a2, n2, c2, y2, e2, m2, l2⟩ := k2; have Hc2 := hI hc2; have Hk2 := hI hk2; have Hb2 := hI hb2; unfold GC.agg; have hB4 := ((Blk.new w1 #[.int .i64 b1, .string s1, .int .i64 d1, .bool x1, .slice a1 n1 c1, .bool y1, .slice e1 m1 l1] 79).below hb2).old (.cells #[.int .i64 b2, .string s2, .int .i64 d2, .bool x2, .slice a2 n2 c2, .bool y2, .slice e2 m2 l2] 79); obtain ⟨p0, p1, p2, p3, p4, p5, p6⟩ := cells7 hB4 (Below.refl _ _); have hbw := bw_via Hb1.out (bw_via (below1 w1 (.cells #[.int .i64 b1, .string s1, .int .i64 d1, .bool x1, .slice a1 n1 c1, .bool y1, .slice e1 m1 l1] 79)) (bw_via Hb2.out (below1 w2 (.cells #[.int .i64 b2, .string s2, .int .i64 d2, .bool x2, .slice a2 n2 c2, .bool y2, .slice e2 m2 l2] 79)))); have hr := HR.out.below hbw; obtain ⟨r0, r1, r2, r3, r4, r5, r6, r7, r8, r9, r10, r11, r12, r13⟩ := cells14 hr (Below.refl _ _); obtain ⟨f0, f1, f2, f3, f4, f5, f6, f7, f8, f9, f10, f11, f12, f13⟩ := free14 hr; have hk6 : GC.ok w2 ⟨⟨b1, s1, d1⟩, x1, a1, n1, c1, y1, e1, m1, l1⟩ := (Hk1.out.mono (below1 w1 (.cells #[.int .i64 b1, .string s1, .int .i64 d1, .bool x1, .slice a1 n1 c1, .bool y1, .slice e1 m1 l1] 79))).mono Hb2.out; have hk7 := (hk6.mono (below1 w2 (.cells #[.int .i64 b2, .string s2, .int .i64 d2, .bool x2, .slice a2 n2 c2, .bool y2, .slice e2 m2 l2] 79))).setN hr noU14 [.int .i64 b1, .string s1, .int .i64 d1, .bool x1, .slice a1 n1 c1, .bool y1, .slice e1 m1 l1, .int .i64 b2, .string s2, .int .i64 d2, .bool x2, .slice a2 n2 c2, .bool y2, .slice e2 m2 l2] (nu_gcells2 ⟨⟨b1, s1, d1⟩, x1, a1, n1, c1, y1, e1, m1, l1⟩ ⟨⟨b2, s2, d2⟩, x2, a2, n2, c2, y2, e2, m2, l2⟩); have hk8 := (Hk2.out.mono (below1 w2 (.cells #[.int .i64 b2, .string s2, .int .i64 d2, .bool x2, .slice a2 n2 c2, .bool y2, .slice e2 m2 l2] 79))).setN hr noU14 [.int .i64 b1, .string s1, .int .i64 d1, .bool x1, .slice a1 n1 c1, .bool y1, .slice e1 m1 l1, .int .i64 b2, .string s2, .int .i64 d2, .bool x2, .slice a2 n2 c2, .bool y2, .slice e2 m2 l2] (nu_gcells2 ⟨⟨b1, s1, d1⟩, x1, a1, n1, c1, y1, e1, m1, l1⟩ ⟨⟨b2, s2, d2⟩, x2, a2, n2, c2, y2, e2, m2, l2⟩); have hb7 := setN_blk hr [.int .i64 b1, .string s1, .int .i64 d1, .bool x1, .slice a1 n1 c1, .bool y1, .slice e1 m1 l1, .int .i64 b2, .string s2, .int .i64 d2, .bool x2, .slice a2 n2 c2, .bool y2, .slice e2 m2 l2] rfl; have hbel := setN_below (b := w.heap.size + 1) (Nat.le_add_right _ 1) [.int .i64 b1, .string s1, .int .i64 d1, .bool x1, .slice a1 n1 c1, .bool y1, .slice e1 m1 l1, .int .i64 b2, .string s2, .int .i64 d2, .bool x2, .slice a2 n2 c2, .bool y2, .slice e2 m2 l2] 0 _ (HK.out.via hbw HK.out.size); simp only [setN, Nat.zero_add, Nat.reduceAdd] at hk7 hk8 hb7 hbel; have Hk7 := hI hk7; have Hk8 := hI hk8; have Hb7 := hI hb7; have Hbel := hI hbel; clear hk6 hk7 hk8 hb7 hbel hr hk2 hb2 hc2 hB4 hbw)
  | (go_at_call 122; refine (H1.out _).mono ?_; rintro e w1 ⟨v1, rfl, ⟨k1, rfl, hc1, hk1⟩, hb1⟩; obtain ⟨⟨b1, s1, d1⟩, x1, a1, n1, c1, y1, e1, m1, l1⟩ := k1; have Hc1 := hI hc1; have Hk1 := hI hk1; have Hb1 := hI hb1; unfold GC.agg; obtain ⟨e0, e1', e2', e3⟩ := HA.out _ (bw_via hb1 (below1 w1 (.cells #[.int .i64 b1, .string s1, .int .i64 d1, .bool x1, .slice a1 n1 c1, .bool y1, .slice e1 m1 l1] 79))); clear hc1 hk1 hb1))
 obtain ⟨q0, q1, q2, q3, q4, q5, q6, q7, q8, q9, q10, q11, q12, q13⟩ := cells14 Hb7.out (Below.refl _ _)
 exact bodyPost_ret (v := .tuple #[.agg #[.int .i64 b1, .string s1, .int .i64 d1, .bool x1, .slice a1 n1 c1, .bool y1, .slice e1 m1 l1, .int .i64 b2, .string s2, .int .i64 d2, .bool x2, .slice a2 n2 c2, .bool y2, .slice e2 m2 l2], .int .i64 code]) (by simp [results, Tryz.results72, go_sem, q0, q1, q2, q3, q4, q5, q6, q7, q8, q9, q10, q11, q12, q13]) rfl ⟨_, rfl, ⟨⟨⟨b1, s1, d1⟩, x1, a1, n1, c1, y1, e1, m1, l1⟩, ⟨⟨b2, s2, d2⟩, x2, a2, n2, c2, y2, e2, m2, l2⟩, rfl, Hk7.out, Hk8.out, Hc1.out, Hc2.out⟩, Hbel.out⟩
theorem parse_ivg (x : Iv) (w : World) (hs : x.short) : Calls Tryz.prog 72 #[x.agg] w (RetP (IvG x) w) := by
 obtain ⟨lo, hi, le, he⟩ := x
 obtain ⟨h1, h2⟩ := hs
 unfold Iv.agg
 dsimp only at h1 h2 ⊢
 by_cases hk : le < 0 ∨ 2 < le ∨ he < 0 ∨ 2 < he
 ·have e0 : ivErr ⟨lo, hi, le, he⟩ = 12 := by unfold ivErr; rw [if_pos hk]
  refine (parse_kind lo hi le he w hk).mono ?_
  rintro e w' ⟨v, rfl, rfl, hb⟩
  exact ⟨_, rfl, ⟨_, _, by rw [e0], GC.none0_ok _, GC.none0_ok _, by rw [e0]; intro h; exact absurd h (by decide)⟩, hb⟩
 ·by_cases hl : endErr lo le = 0
  ·have e0 : ivErr ⟨lo, hi, le, he⟩ = endErr hi he := by unfold ivErr; rw [if_neg hk, if_neg (by simpa using hl)]
   refine (parse_both lo hi le he w (by omega) (by omega) (by omega) (by omega) h1 h2 hl).mono ?_
   rintro e w' ⟨v, rfl, ⟨k, l, rfl, hk7, hl7, hkc, hlc⟩, hb⟩
   exact ⟨_, rfl, ⟨k, l, by rw [e0], hk7, hl7, by rw [e0]; intro h; exact ⟨by rw [hkc, cutE_ok hl]; rfl, by rw [hlc, cutE_ok h]; rfl⟩⟩, hb⟩
  ·have e0 : ivErr ⟨lo, hi, le, he⟩ = endErr lo le := by unfold ivErr; rw [if_neg hk, if_pos hl]
   refine (parse_low lo hi le he w (by omega) (by omega) (by omega) (by omega) h1 hl).mono ?_
   rintro e w' ⟨v, rfl, rfl, hb⟩
   exact ⟨_, rfl, ⟨_, _, by rw [e0], GC.none0_ok _, GC.none0_ok _, by rw [e0]; intro h; exact absurd h hl⟩, hb⟩
end Go.Proofs.YtacihodamichhaaGreatDoor
