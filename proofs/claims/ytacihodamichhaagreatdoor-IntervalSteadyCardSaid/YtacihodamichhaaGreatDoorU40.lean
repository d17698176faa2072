/-
  Parts of the proof: Ipg, Rsh, Ror, Rpl.
-/
import Derived.Test.YtacihodamichhaaGreatDoorU39
namespace Go.Proofs.YtacihodamichhaaGreatDoor
open Go.RowKit
def gpagg (k l : GC) : Value := .agg #[.int .i64 k.c.b, .string k.c.s, .int .i64 k.c.d, .bool k.x, .slice k.a k.n k.cap, .bool k.y, .slice k.e k.m k.cap2, .int .i64 l.c.b, .string l.c.s, .int .i64 l.c.d, .bool l.x, .slice l.a l.n l.cap, .bool l.y, .slice l.e l.m l.cap2]
def ivErr (x : Iv) : Int := if x.le < 0 ∨ 2 < x.le ∨ x.he < 0 ∨ 2 < x.he then 12 else if endErr x.lo x.le ≠ 0 then endErr x.lo x.le else endErr x.hi x.he
def Iv.short (x : Iv) : Prop := x.lo.size ≤ 60 ∧ x.hi.size ≤ 60
def IvG (x : Iv) (v : Value) (w' : World) : Prop := ∃ k l : GC, v = .tuple #[gpagg k l, .int .i64 (ivErr x)] ∧ k.ok w' ∧ l.ok w' ∧ (ivErr x = 0 → k.c = x.low ∧ l.c = x.high)
theorem cutE_ok {n : ByteArray} {kind side : Int} (h : endErr n kind = 0) : cutE n kind side = cutOf n kind side := by unfold cutE; rw [if_pos h]
set_option maxHeartbeats 8000000 in
set_option maxRecDepth 100000 in
theorem parse_kind (lo hi : ByteArray) (le he : Int) (w : World) (h : le < 0 ∨ 2 < le ∨ he < 0 ∨ 2 < he) : Calls Tryz.prog 72 #[.agg #[.string lo, .string hi, .int .i64 le, .int .i64 he]] w (RetP (fun v _w' => v = .tuple #[gpagg GC.none0 GC.none0, .int .i64 12]) w) := by
 have hR : Blk ((w.alloc (.cells #[.string lo, .string hi, .int .i64 le, .int .i64 he] 46)).alloc (.cells #[.int .i64 0, .string ⟨#[]⟩, .int .i64 0, .bool false, .slice none 0 0, .bool false, .slice none 0 0, .int .i64 0, .string ⟨#[]⟩, .int .i64 0, .bool false, .slice none 0 0, .bool false, .slice none 0 0] 84)) (w.heap.size + 1) #[.int .i64 0, .string ⟨#[]⟩, .int .i64 0, .bool false, .slice none 0 0, .bool false, .slice none 0 0, .int .i64 0, .string ⟨#[]⟩, .int .i64 0, .bool false, .slice none 0 0, .bool false, .slice none 0 0] 84 := by
  have h := Blk.new (w.alloc (.cells #[.string lo, .string hi, .int .i64 le, .int .i64 he] 46)) #[.int .i64 0, .string ⟨#[]⟩, .int .i64 0, .bool false, .slice none 0 0, .bool false, .slice none 0 0, .int .i64 0, .string ⟨#[]⟩, .int .i64 0, .bool false, .slice none 0 0, .bool false, .slice none 0 0] 84
  simpa using h
 have hA : Blk ((w.alloc (.cells #[.string lo, .string hi, .int .i64 le, .int .i64 he] 46)).alloc (.cells #[.int .i64 0, .string ⟨#[]⟩, .int .i64 0, .bool false, .slice none 0 0, .bool false, .slice none 0 0, .int .i64 0, .string ⟨#[]⟩, .int .i64 0, .bool false, .slice none 0 0, .bool false, .slice none 0 0] 84)) w.heap.size #[.string lo, .string hi, .int .i64 le, .int .i64 he] 46 := (Blk.new w _ _).old _
 have HA := hI (fun w' (hb : Below ((w.alloc (.cells #[.string lo, .string hi, .int .i64 le, .int .i64 he] 46)).alloc (.cells #[.int .i64 0, .string ⟨#[]⟩, .int .i64 0, .bool false, .slice none 0 0, .bool false, .slice none 0 0, .int .i64 0, .string ⟨#[]⟩, .int .i64 0, .bool false, .slice none 0 0, .bool false, .slice none 0 0] 84)).heap.size ((w.alloc (.cells #[.string lo, .string hi, .int .i64 le, .int .i64 he] 46)).alloc (.cells #[.int .i64 0, .string ⟨#[]⟩, .int .i64 0, .bool false, .slice none 0 0, .bool false, .slice none 0 0, .int .i64 0, .string ⟨#[]⟩, .int .i64 0, .bool false, .slice none 0 0, .bool false, .slice none 0 0] 84)) w') => (blk4v (hA.below hb)).1)
 have HR := hI hR
 have HK := hI (below2 w (.cells #[.string lo, .string hi, .int .i64 le, .int .i64 he] 46) (.cells #[.int .i64 0, .string ⟨#[]⟩, .int .i64 0, .bool false, .slice none 0 0, .bool false, .slice none 0 0, .int .i64 0, .string ⟨#[]⟩, .int .i64 0, .bool false, .slice none 0 0, .bool false, .slice none 0 0] 84))
 clear hR hA
 have hcase : le < 0 ∨ (¬ le < 0 ∧ 2 < le) ∨ (¬ le < 0 ∧ ¬ 2 < le ∧ he < 0) ∨ (¬ le < 0 ∧ ¬ 2 < le ∧ ¬ he < 0 ∧ 2 < he) := by omega
 clear h
 rcases hcase with g1 | ⟨g1, g2⟩ | ⟨g1, g2, g3⟩ | ⟨g1, g2, g3, g4⟩
 ·go_enter Tryz.func72, Tryz.ntmps72
  go_wp2_with fail
  exact bodyPost_ret (v := .tuple #[.agg #[.int .i64 0, .string ⟨#[]⟩, .int .i64 0, .bool false, .slice none 0 0, .bool false, .slice none 0 0, .int .i64 0, .string ⟨#[]⟩, .int .i64 0, .bool false, .slice none 0 0, .bool false, .slice none 0 0], .int .i64 12]) (by simp [results, Tryz.results72, go_sem]) rfl ⟨_, rfl, rfl, HK.out⟩
 ·go_enter Tryz.func72, Tryz.ntmps72
  go_wp2_with fail
  exact bodyPost_ret (v := .tuple #[.agg #[.int .i64 0, .string ⟨#[]⟩, .int .i64 0, .bool false, .slice none 0 0, .bool false, .slice none 0 0, .int .i64 0, .string ⟨#[]⟩, .int .i64 0, .bool false, .slice none 0 0, .bool false, .slice none 0 0], .int .i64 12]) (by simp [results, Tryz.results72, go_sem]) rfl ⟨_, rfl, rfl, HK.out⟩
 ·go_enter Tryz.func72, Tryz.ntmps72
  go_wp2_with fail
  exact bodyPost_ret (v := .tuple #[.agg #[.int .i64 0, .string ⟨#[]⟩, .int .i64 0, .bool false, .slice none 0 0, .bool false, .slice none 0 0, .int .i64 0, .string ⟨#[]⟩, .int .i64 0, .bool false, .slice none 0 0, .bool false, .slice none 0 0], .int .i64 12]) (by simp [results, Tryz.results72, go_sem]) rfl ⟨_, rfl, rfl, HK.out⟩
 ·go_enter Tryz.func72, Tryz.ntmps72
  go_wp2_with fail
  exact bodyPost_ret (v := .tuple #[.agg #[.int .i64 0, .string ⟨#[]⟩, .int .i64 0, .bool false, .slice none 0 0, .bool false, .slice none 0 0, .int .i64 0, .string ⟨#[]⟩, .int .i64 0, .bool false, .slice none 0 0, .bool false, .slice none 0 0], .int .i64 12]) (by simp [results, Tryz.results72, go_sem]) rfl ⟨_, rfl, rfl, HK.out⟩
set_option maxHeartbeats 8000000 in
set_option maxRecDepth 100000 in
theorem parse_low (lo hi : ByteArray) (le he : Int) (w : World) (r1 : 0 ≤ le) (r2 : le ≤ 2) (r3 : 0 ≤ he) (r4 : he ≤ 2) (hs : lo.size ≤ 60) (h : endErr lo le ≠ 0) : Calls Tryz.prog 72 #[.agg #[.string lo, .string hi, .int .i64 le, .int .i64 he]] w (RetP (fun v _w' => v = .tuple #[gpagg GC.none0 GC.none0, .int .i64 (endErr lo le)]) w) := by
 have hR : Blk ((w.alloc (.cells #[.string lo, .string hi, .int .i64 le, .int .i64 he] 46)).alloc (.cells #[.int .i64 0, .string ⟨#[]⟩, .int .i64 0, .bool false, .slice none 0 0, .bool false, .slice none 0 0, .int .i64 0, .string ⟨#[]⟩, .int .i64 0, .bool false, .slice none 0 0, .bool false, .slice none 0 0] 84)) (w.heap.size + 1) #[.int .i64 0, .string ⟨#[]⟩, .int .i64 0, .bool false, .slice none 0 0, .bool false, .slice none 0 0, .int .i64 0, .string ⟨#[]⟩, .int .i64 0, .bool false, .slice none 0 0, .bool false, .slice none 0 0] 84 := by
  have h := Blk.new (w.alloc (.cells #[.string lo, .string hi, .int .i64 le, .int .i64 he] 46)) #[.int .i64 0, .string ⟨#[]⟩, .int .i64 0, .bool false, .slice none 0 0, .bool false, .slice none 0 0, .int .i64 0, .string ⟨#[]⟩, .int .i64 0, .bool false, .slice none 0 0, .bool false, .slice none 0 0] 84
  simpa using h
 have hA : Blk ((w.alloc (.cells #[.string lo, .string hi, .int .i64 le, .int .i64 he] 46)).alloc (.cells #[.int .i64 0, .string ⟨#[]⟩, .int .i64 0, .bool false, .slice none 0 0, .bool false, .slice none 0 0, .int .i64 0, .string ⟨#[]⟩, .int .i64 0, .bool false, .slice none 0 0, .bool false, .slice none 0 0] 84)) w.heap.size #[.string lo, .string hi, .int .i64 le, .int .i64 he] 46 := (Blk.new w _ _).old _
 have HA := hI (fun w' (hb : Below ((w.alloc (.cells #[.string lo, .string hi, .int .i64 le, .int .i64 he] 46)).alloc (.cells #[.int .i64 0, .string ⟨#[]⟩, .int .i64 0, .bool false, .slice none 0 0, .bool false, .slice none 0 0, .int .i64 0, .string ⟨#[]⟩, .int .i64 0, .bool false, .slice none 0 0, .bool false, .slice none 0 0] 84)).heap.size ((w.alloc (.cells #[.string lo, .string hi, .int .i64 le, .int .i64 he] 46)).alloc (.cells #[.int .i64 0, .string ⟨#[]⟩, .int .i64 0, .bool false, .slice none 0 0, .bool false, .slice none 0 0, .int .i64 0, .string ⟨#[]⟩, .int .i64 0, .bool false, .slice none 0 0, .bool false, .slice none 0 0] 84)) w') => (blk4v (hA.below hb)).1)
 have HR := hI hR
 have HK := hI (below2 w (.cells #[.string lo, .string hi, .int .i64 le, .int .i64 he] 46) (.cells #[.int .i64 0, .string ⟨#[]⟩, .int .i64 0, .bool false, .slice none 0 0, .bool false, .slice none 0 0, .int .i64 0, .string ⟨#[]⟩, .int .i64 0, .bool false, .slice none 0 0, .bool false, .slice none 0 0] 84))
 clear hR hA
 have g1 : ¬ le < 0 := by omega
 have g2 : ¬ 2 < le := by omega
 have g3 : ¬ he < 0 := by omega
 have g4 : ¬ 2 < he := by omega
 have H1 := hI (fun w' => end_g lo le 1 w' (.inl rfl) ⟨r1, r2⟩ hs)
 unfold EndG at H1
 generalize endErr lo le = code at *
 have hc : (code != 0) = true := by rw [bne_iff_ne]; exact h
 clear r1 r2 r3 r4 hs h
 go_enter Tryz.func72, Tryz.ntmps72
 go_wp2_with (go_at_call 122; refine (H1.out _).mono ?_; rintro e w1 ⟨v1, rfl, ⟨k1, rfl, -, -⟩, hb1⟩; obtain ⟨⟨b1, s1, d1⟩, x1, a1, n1, c1, y1, e1, m1, l1⟩ := k1; unfold GC.agg; have hbw := bw_via hb1 (below1 w1 (.cells #[.int .i64 b1, .string s1, .int .i64 d1, .bool x1, .slice a1 n1 c1, .bool y1, .slice e1 m1 l1] 79)); have hr := HR.out.below hbw; obtain ⟨r0, r1, r2, r3, r4, r5, r6, r7, r8, r9, r10, r11, r12, r13⟩ := cells14 hr (Below.refl _ _); obtain ⟨f0, f1, f2, f3, f4, f5, f6, f7, f8, f9, f10, f11, f12, f13⟩ := free14 hr; have hb7 := setN_blk hr [.int .i64 0, .string ⟨#[]⟩, .int .i64 0, .bool false, .slice none 0 0, .bool false, .slice none 0 0, .int .i64 0, .string ⟨#[]⟩, .int .i64 0, .bool false, .slice none 0 0, .bool false, .slice none 0 0] rfl; have hbel := setN_below (b := w.heap.size + 1) (Nat.le_add_right _ 1) [.int .i64 0, .string ⟨#[]⟩, .int .i64 0, .bool false, .slice none 0 0, .bool false, .slice none 0 0, .int .i64 0, .string ⟨#[]⟩, .int .i64 0, .bool false, .slice none 0 0, .bool false, .slice none 0 0] 0 _ (HK.out.via hbw HK.out.size); simp only [setN, Nat.zero_add, Nat.reduceAdd] at hb7 hbel; have Hb7 := hI hb7; have Hbel := hI hbel; clear hb7 hbel hr hb1 hbw)
 obtain ⟨q0, q1, q2, q3, q4, q5, q6, q7, q8, q9, q10, q11, q12, q13⟩ := cells14 Hb7.out (Below.refl _ _)
 exact bodyPost_ret (v := .tuple #[.agg #[.int .i64 0, .string ⟨#[]⟩, .int .i64 0, .bool false, .slice none 0 0, .bool false, .slice none 0 0, .int .i64 0, .string ⟨#[]⟩, .int .i64 0, .bool false, .slice none 0 0, .bool false, .slice none 0 0], .int .i64 code]) (by simp [results, Tryz.results72, go_sem, q0, q1, q2, q3, q4, q5, q6, q7, q8, q9, q10, q11, q12, q13]) rfl ⟨_, rfl, rfl, Hbel.out⟩
set_option maxHeartbeats 8000000 in
set_option maxRecDepth 100000 in
theorem parse_both (lo hi : ByteArray) (le he : Int) (w : World) (r1 : 0 ≤ le) (r2 : le ≤ 2) (r3 : 0 ≤ he) (r4 : he ≤ 2) (hs : lo.size ≤ 60) (hs' : hi.size ≤ 60) (h : endErr lo le = 0) : Calls Tryz.prog 72 #[.agg #[.string lo, .string hi, .int .i64 le, .int .i64 he]] w (RetP (fun v w' => ∃ k l : GC, v = .tuple #[gpagg k l, .int .i64 (endErr hi he)] ∧ k.ok w' ∧ l.ok w' ∧ k.c = cutE lo le 1 ∧ l.c = cutE hi he (-1)) w) := by
 have hR : Blk ((w.alloc (.cells #[.string lo, .string hi, .int .i64 le, .int .i64 he] 46)).alloc (.cells #[.int .i64 0, .string ⟨#[]⟩, .int .i64 0, .bool false, .slice none 0 0, .bool false, .slice none 0 0, .int .i64 0, .string ⟨#[]⟩, .int .i64 0, .bool false, .slice none 0 0, .bool false, .slice none 0 0] 84)) (w.heap.size + 1) #[.int .i64 0, .string ⟨#[]⟩, .int .i64 0, .bool false, .slice none 0 0, .bool false, .slice none 0 0, .int .i64 0, .string ⟨#[]⟩, .int .i64 0, .bool false, .slice none 0 0, .bool false, .slice none 0 0] 84 := by
  have h := Blk.new (w.alloc (.cells #[.string lo, .string hi, .int .i64 le, .int .i64 he] 46)) #[.int .i64 0, .string ⟨#[]⟩, .int .i64 0, .bool false, .slice none 0 0, .bool false, .slice none 0 0, .int .i64 0, .string ⟨#[]⟩, .int .i64 0, .bool false, .slice none 0 0, .bool false, .slice none 0 0] 84
  simpa using h
 have hA : Blk ((w.alloc (.cells #[.string lo, .string hi, .int .i64 le, .int .i64 he] 46)).alloc (.cells #[.int .i64 0, .string ⟨#[]⟩, .int .i64 0, .bool false, .slice none 0 0, .bool false, .slice none 0 0, .int .i64 0, .string ⟨#[]⟩, .int .i64 0, .bool false, .slice none 0 0, .bool false, .slice none 0 0] 84)) w.heap.size #[.string lo, .string hi, .int .i64 le, .int .i64 he] 46 := (Blk.new w _ _).old _
 have HA := hI (fun w' (hb : Below ((w.alloc (.cells #[.string lo, .string hi, .int .i64 le, .int .i64 he] 46)).alloc (.cells #[.int .i64 0, .string ⟨#[]⟩, .int .i64 0, .bool false, .slice none 0 0, .bool false, .slice none 0 0, .int .i64 0, .string ⟨#[]⟩, .int .i64 0, .bool false, .slice none 0 0, .bool false, .slice none 0 0] 84)).heap.size ((w.alloc (.cells #[.string lo, .string hi, .int .i64 le, .int .i64 he] 46)).alloc (.cells #[.int .i64 0, .string ⟨#[]⟩, .int .i64 0, .bool false, .slice none 0 0, .bool false, .slice none 0 0, .int .i64 0, .string ⟨#[]⟩, .int .i64 0, .bool false, .slice none 0 0, .bool false, .slice none 0 0] 84)) w') => (blk4v (hA.below hb)).1)
 have HR := hI hR
 have HK := hI (below2 w (.cells #[.string lo, .string hi, .int .i64 le, .int .i64 he] 46) (.cells #[.int .i64 0, .string ⟨#[]⟩, .int .i64 0, .bool false, .slice none 0 0, .bool false, .slice none 0 0, .int .i64 0, .string ⟨#[]⟩, .int .i64 0, .bool false, .slice none 0 0, .bool false, .slice none 0 0] 84))
 clear hR hA
 have g1 : ¬ le < 0 := by omega
 have g2 : ¬ 2 < le := by omega
 have g3 : ¬ he < 0 := by omega
 have g4 : ¬ 2 < he := by omega
 have H1 := hI (fun w' => end_g lo le 1 w' (.inl rfl) ⟨r1, r2⟩ hs)
 have H2 := hI (fun w' => end_g hi he (-1) w' (.inr rfl) ⟨r3, r4⟩ hs')
 unfold EndG at H1 H2
 rw [h] at H1
 generalize endErr hi he = code at *
 generalize cutE lo le 1 = cl at *
 generalize cutE hi he (-1) = ch at *
 clear r1 r2 r3 r4 hs hs' h
 go_enter Tryz.func72, Tryz.ntmps72
 go_wp2_with (first
  | (go_at_call 122; have _t := Hb1; clear _t; refine (H2.out _).mono ?_; rintro e w2 ⟨v2, rfl, ⟨k2, rfl, hc2, hk2⟩, hb2⟩; obtain ⟨⟨b2, s2, d2⟩, x2, a2, n2, c2, y2, e2, m2, l2⟩ := k2; have Hc2 := hI hc2; have Hk2 := hI hk2; have Hb2 := hI hb2; unfold GC.agg; have hB4 := ((Blk.new w1 #[.int .i64 b1, .string s1, .int .i64 d1, .bool x1, .slice a1 n1 c1, .bool y1, .slice e1 m1 l1] 79).below hb2).old (.cells #[.int .i64 b2, .string s2, .int .i64 d2, .bool x2, .slice a2 n2 c2, .bool y2, .slice e2 m2 l2] 79); obtain ⟨p0, p1, p2, p3, p4, p5, p6⟩ := cells7 hB4 (Below.refl _ _); have hbw := bw_via Hb1.out (bw_via (below1 w1 (.cells #[.int .i64 b1, .string s1, .int .i64 d1, .bool x1, .slice a1 n1 c1, .bool y1, .slice e1 m1 l1] 79)) (bw_via Hb2.out (below1 w2 (.cells #[.int .i64 b2, .string s2, .int .i64 d2, .bool x2, .slice a2 n2 c2, .bool y2, .slice e2 m2 l2] 79)))); have hr := HR.out.below hbw; obtain ⟨r0, r1, r2, r3, r4, r5, r6, r7, r8, r9, r10, r11, r12, r13⟩ := cells14 hr (Below.refl _ _); obtain ⟨f0, f1, f2, f3, f4, f5, f6, f7, f8, f9, f10, f11, f12, f13⟩ := free14 hr; have hk6 : GC.ok w2 ⟨⟨b1, s1, d1⟩, x1, a1, n1, c1, y1, e1, m1, l1⟩ := (Hk1.out.mono (below1 w1 (.cells #[.int .i64 b1, .string s1, .int .i64 d1, .bool x1, .slice a1 n1 c1, .bool y1, .slice e1 m1 l1] 79))).mono Hb2.out; have hk7 := (hk6.mono (below1 w2 (.cells #[.int .i64 b2, .string s2, .int .i64 d2, .bool x2, .slice a2 n2 c2, .bool y2, .slice e2 m2 l2] 79))).setN hr noU14 [.int .i64 b1, .string s1, .int .i64 d1, .bool x1, .slice a1 n1 c1, .bool y1, .slice e1 m1 l1, .int .i64 b2, .string s2, .int .i64 d2, .bool x2, .slice a2 n2 c2, .bool y2, .slice e2 m2 l2] (nu_gcells2 ⟨⟨b1, s1, d1⟩, x1, a1, n1, c1, y1, e1, m1, l1⟩ ⟨⟨b2, s2, d2⟩, x2, a2, n2, c2, y2, e2, m2, l2⟩); have hk8 := (Hk2.out.mono (below1 w2 (.cells #[.int .i64 b2, .string s2, .int .i64 d2, .bool x2, .slice a2 n2 c2, .bool y2, .slice e2 m2 l2] 79))).setN hr noU14 [.int .i64 b1, .string s1, .int .i64 d1, .bool x1, .slice a1 n1 c1, .bool y1, .slice e1 m1 l1, .int .i64 b2, .string s2, .int .i64 d2, .bool x2, .slice a2 n2 c2, .bool y2, .slice e2 m2 l2] (nu_gcells2 ⟨⟨b1, s1, d1⟩, x1, a1, n1, c1, y1, e1, m1, l1⟩ ⟨⟨b2, s2, d2⟩, x2, a2, n2, c2, y2, e2, m2, l2⟩); have hb7 := setN_blk hr [.int .i64 b1, .string s1, .int .i64 d1, .bool x1, .slice a1 n1 c1, .bool y1, .slice e1 m1 l1, .int .i64 b2, .string s2, .int .i64 d2, .bool x2, .slice a2 n2 c2, .bool y2, .slice e2 m2 l2] rfl; have hbel := setN_below (b := w.heap.size + 1) (Nat.le_add_right _ 1) [.int .i64 b1, .string s1, .int .i64 d1, .bool x1, .slice a1 n1 c1, .bool y1, .slice e1 m1 l1, .int .i64 b2, .string s2, .int .i64 d2, .bool x2, .slice a2 n2 c2, .bool y2, .slice e2 m2 l2] 0 _ (HK.out.via hbw HK.out.size); simp only [setN, Nat.zero_add, Nat.reduceAdd] at hk7 hk8 hb7 hbel; have Hk7 := hI hk7; have Hk8 := hI hk8; have Hb7 := hI hb7; have Hbel := hI hbel; clear hk6 hk7 hk8 hb7 hbel hr hk2 hb2 hc2 hB4 hbw)
  | (go_at_call 122; refine (H1.out _).mono ?_; rintro e w1 ⟨v1, rfl, ⟨k1, rfl, hc1, hk1⟩, hb1⟩; obtain ⟨⟨b1, s1, d1⟩, x1, a1, n1, c1, y1, e1, m1, l1⟩ := k1; have Hc1 := hI hc1; have Hk1 := hI hk1; have Hb1 := hI hb1; unfold GC.agg; obtain ⟨e0, e1', e2', e3⟩ := HA.out _ (bw_via hb1 (below1 w1 (.cells #[.int .i64 b1, .string s1, .int .i64 d1, .bool x1, .slice a1 n1 c1, .bool y1, .slice e1 m1 l1] 79))); clear hc1 hk1 hb1))
 obtain ⟨q0, q1, q2, q3, q4, q5, q6, q7, q8, q9, q10, q11, q12, q13⟩ := cells14 Hb7.out (Below.refl _ _)
 exact bodyPost_ret (v := .tuple #[.agg #[.int .i64 b1, .string s1, .int .i64 d1, .bool x1, .slice a1 n1 c1, .bool y1, .slice e1 m1 l1, .int .i64 b2, .string s2, .int .i64 d2, .bool x2, .slice a2 n2 c2, .bool y2, .slice e2 m2 l2], .int .i64 code]) (by simp [results, Tryz.results72, go_sem, q0, q1, q2, q3, q4, q5, q6, q7, q8, q9, q10, q11, q12, q13]) rfl ⟨_, rfl, ⟨⟨⟨b1, s1, d1⟩, x1, a1, n1, c1, y1, e1, m1, l1⟩, ⟨⟨b2, s2, d2⟩, x2, a2, n2, c2, y2, e2, m2, l2⟩, rfl, Hk7.out, Hk8.out, Hc1.out, Hc2.out⟩, Hbel.out⟩
theorem parse_ivg (x : Iv) (w : World) (hs : x.short) : Calls Tryz.prog 72 #[x.agg] w (RetP (IvG x) w) := by
 obtain ⟨lo, hi, le, he⟩ := x
 obtain ⟨h1, h2⟩ := hs
 unfold Iv.agg
 dsimp only at h1 h2 ⊢
 by_cases hk : le < 0 ∨ 2 < le ∨ he < 0 ∨ 2 < he
 ·have e0 : ivErr ⟨lo, hi, le, he⟩ = 12 := by unfold ivErr; rw [if_pos hk]
  refine (parse_kind lo hi le he w hk).mono ?_
  rintro e w' ⟨v, rfl, rfl, hb⟩
  exact ⟨_, rfl, ⟨_, _, by rw [e0], GC.none0_ok _, GC.none0_ok _, by rw [e0]; intro h; exact absurd h (by decide)⟩, hb⟩
 ·by_cases hl : endErr lo le = 0
  ·have e0 : ivErr ⟨lo, hi, le, he⟩ = endErr hi he := by unfold ivErr; rw [if_neg hk, if_neg (by simpa using hl)]
   refine (parse_both lo hi le he w (by omega) (by omega) (by omega) (by omega) h1 h2 hl).mono ?_
   rintro e w' ⟨v, rfl, ⟨k, l, rfl, hk7, hl7, hkc, hlc⟩, hb⟩
   exact ⟨_, rfl, ⟨k, l, by rw [e0], hk7, hl7, by rw [e0]; intro h; exact ⟨by rw [hkc, cutE_ok hl]; rfl, by rw [hlc, cutE_ok h]; rfl⟩⟩, hb⟩
  ·have e0 : ivErr ⟨lo, hi, le, he⟩ = endErr lo le := by unfold ivErr; rw [if_neg hk, if_pos hl]
   refine (parse_low lo hi le he w (by omega) (by omega) (by omega) (by omega) h1 hl).mono ?_
   rintro e w' ⟨v, rfl, rfl, hb⟩
   exact ⟨_, rfl, ⟨_, _, by rw [e0], GC.none0_ok _, GC.none0_ok _, by rw [e0]; intro h; exact absurd h hl⟩, hb⟩
end Go.Proofs.YtacihodamichhaaGreatDoor
namespace Go.Proofs.YtacihodamichhaaGreatDoor
open Go.RowKit
set_option maxHeartbeats 2000000 in
theorem qnum_any (n : ByteArray) (kind : Int) (w : World) (hn : n.size ≤ 60) : Calls Tryz.prog 128 #[.string n, .int .i64 kind] w (Ret (.int .i64 (endErr n kind)) w) := by
 unfold endErr
 by_cases hk : kind = 2
 ·subst hk
  rw [if_pos rfl]
  by_cases he : n.data.toList = []
  ·rw [if_pos he]
   obtain rfl := isE_of he
   clear hn he
   go_enter Tryz.func128, Tryz.ntmps128
   go_wp2_with fail
   go_ret
   exact ⟨rfl, Below.refl _ _⟩
  ·rw [if_neg he]
   have h2 := isE_f he
   clear hn he
   go_enter Tryz.func128, Tryz.ntmps128
   go_wp2_with fail
   go_ret
   exact ⟨rfl, Below.refl _ _⟩
 ·rw [if_neg hk]
  have hk2 : (kind == 2) = false := by rw [beq_eq_false_iff_ne]; exact hk
  have H := hI (fun w' => qcheck_any n.data.toList w' (by rw [← Lib.size_eq]; exact hn))
  rw [← bytes_of (s := n) rfl] at H
  generalize errL n.data.toList = code at *
  clear hn hk
  go_enter Tryz.func128, Tryz.ntmps128
  go_wp2_with (go_at_call 21; refine (H.out _).mono ?_; rintro e w1 ⟨rfl, hb1⟩)
  go_ret
  exact ⟨rfl, hb1⟩
set_option maxHeartbeats 4000000 in
theorem qshape_any (x : Iv) (w : World) (hs : x.short) : Calls Tryz.prog 77 #[x.agg] w (Ret (.int .i64 (ivErr x)) w) := by
 obtain ⟨lo, hi, le, he⟩ := x
 obtain ⟨h1, h2⟩ := hs
 unfold Iv.agg ivErr
 dsimp only at h1 h2 ⊢
 have HA := hI (fun w' (hb : Below (w.alloc (.cells #[.string lo, .string hi, .int .i64 le, .int .i64 he] 46)).heap.size (w.alloc (.cells #[.string lo, .string hi, .int .i64 le, .int .i64 he] 46)) w') => (blk4v ((Blk.new w #[.string lo, .string hi, .int .i64 le, .int .i64 he] 46).below hb)).1)
 by_cases hk : le < 0 ∨ 2 < le ∨ he < 0 ∨ 2 < he
 ·rw [if_pos hk]
  have hcase : le < 0 ∨ (¬ le < 0 ∧ 2 < le) ∨ (¬ le < 0 ∧ ¬ 2 < le ∧ he < 0) ∨ (¬ le < 0 ∧ ¬ 2 < le ∧ ¬ he < 0 ∧ 2 < he) := by omega
  clear hk h1 h2
  rcases hcase with g1 | ⟨g1, g2⟩ | ⟨g1, g2, g3⟩ | ⟨g1, g2, g3, g4⟩
  all_goals go_enter Tryz.func77, Tryz.ntmps77
  all_goals go_wp2_with fail
  all_goals go_ret
  all_goals exact ⟨rfl, below1 w _⟩
 ·rw [if_neg hk]
  have g1 : ¬ le < 0 := by omega
  have g2 : ¬ 2 < le := by omega
  have g3 : ¬ he < 0 := by omega
  have g4 : ¬ 2 < he := by omega
  have H1 := hI (fun w' => qnum_any lo le w' h1)
  have H2 := hI (fun w' => qnum_any hi he w' h2)
  clear h1 h2 hk
  by_cases hl : endErr lo le = 0
  ·rw [if_neg (by simpa using hl)]
   rw [hl] at H1
   generalize endErr hi he = code at *
   clear hl
   go_enter Tryz.func77, Tryz.ntmps77
   go_wp2_with (first
    | (have _t := Hb1; clear _t; go_at_call 128; refine (H2.out _).mono ?_; rintro e w2 ⟨rfl, hb2⟩)
    | (go_at_call 128; refine (H1.out _).mono ?_; rintro e w1 ⟨rfl, hb1⟩; have Hb1 := hI hb1; obtain ⟨e0, e1, e2, e3⟩ := HA.out _ hb1; clear hb1))
   go_ret
   exact ⟨rfl, (below1 w _).via (bw_via Hb1.out hb2) (below1 w _).size⟩
  ·rw [if_pos hl]
   have hc : (endErr lo le != 0) = true := by rw [bne_iff_ne]; exact hl
   generalize endErr lo le = code at *
   clear hl
   go_enter Tryz.func77, Tryz.ntmps77
   go_wp2_with (go_at_call 128; refine (H1.out _).mono ?_; rintro e w1 ⟨rfl, hb1⟩)
   go_ret
   exact ⟨rfl, (below1 w _).via hb1 (below1 w _).size⟩
def rcut (b : Int) (s : ByteArray) (d : Int) : Value := .agg #[.int .i64 b, .string s, .int .i64 d]
def loR (n : ByteArray) (kind : Int) : Value := if kind = 2 then rcut (-1) ⟨#[]⟩ 0 else if kind = 0 then rcut 0 n 1 else rcut 0 n 0
def upR (n : ByteArray) (kind : Int) : Value := if kind = 2 then rcut 1 ⟨#[]⟩ 0 else if kind = 0 then rcut 0 n 0 else rcut 0 n 1
set_option maxHeartbeats 2000000 in
theorem rlower_any (n : ByteArray) (kind : Int) (w : World) : Calls Tryz.prog 89 #[.string n, .int .i64 kind] w (Ret (loR n kind) w) := by
 unfold loR
 by_cases h2 : kind = 2
 ·subst h2
  rw [if_pos rfl]
  go_enter Tryz.func89, Tryz.ntmps89
  go_wp2_with fail
  exact bodyPost_ret (v := rcut (-1) ⟨#[]⟩ 0) (by simp [results, Tryz.results89, go_sem, rcut]) rfl ⟨rfl, below1 w _⟩
 ·rw [if_neg h2]
  have h2b : (kind == 2) = false := by rw [beq_eq_false_iff_ne]; exact h2
  by_cases h0 : kind = 0
  ·subst h0
   rw [if_pos rfl]
   clear h2 h2b
   go_enter Tryz.func89, Tryz.ntmps89
   go_wp2_with fail
   exact bodyPost_ret (v := rcut 0 n 1) (by simp [results, Tryz.results89, go_sem, rcut]) rfl ⟨rfl, below1 w _⟩
  ·rw [if_neg h0]
   have h0b : (kind == 0) = false := by rw [beq_eq_false_iff_ne]; exact h0
   clear h2 h0
   go_enter Tryz.func89, Tryz.ntmps89
   go_wp2_with fail
   exact bodyPost_ret (v := rcut 0 n 0) (by simp [results, Tryz.results89, go_sem, rcut]) rfl ⟨rfl, below1 w _⟩
set_option maxHeartbeats 2000000 in
theorem rupper_any (n : ByteArray) (kind : Int) (w : World) : Calls Tryz.prog 90 #[.string n, .int .i64 kind] w (Ret (upR n kind) w) := by
 unfold upR
 by_cases h2 : kind = 2
 ·subst h2
  rw [if_pos rfl]
  go_enter Tryz.func90, Tryz.ntmps90
  go_wp2_with fail
  exact bodyPost_ret (v := rcut 1 ⟨#[]⟩ 0) (by simp [results, Tryz.results90, go_sem, rcut]) rfl ⟨rfl, below1 w _⟩
 ·rw [if_neg h2]
  have h2b : (kind == 2) = false := by rw [beq_eq_false_iff_ne]; exact h2
  by_cases h0 : kind = 0
  ·subst h0
   rw [if_pos rfl]
   clear h2 h2b
   go_enter Tryz.func90, Tryz.ntmps90
   go_wp2_with fail
   exact bodyPost_ret (v := rcut 0 n 0) (by simp [results, Tryz.results90, go_sem, rcut]) rfl ⟨rfl, below1 w _⟩
  ·rw [if_neg h0]
   have h0b : (kind == 0) = false := by rw [beq_eq_false_iff_ne]; exact h0
   clear h2 h0
   go_enter Tryz.func90, Tryz.ntmps90
   go_wp2_with fail
   exact bodyPost_ret (v := rcut 0 n 1) (by simp [results, Tryz.results90, go_sem, rcut]) rfl ⟨rfl, below1 w _⟩
set_option maxHeartbeats 1000000 in
theorem ssign_any (n : Int) (w : World) : Calls Tryz.prog 137 #[.int .i64 n] w (Ret (.int .i64 n.sign) w) := by
 rcases sign3 n with ⟨h, hs⟩ | ⟨h, hs⟩ | ⟨h, hs⟩
 ·rw [hs]
  clear hs
  go_enter Tryz.func137, Tryz.ntmps137
  go_wp2_with fail
  go_ret
  exact ⟨rfl, Below.refl _ _⟩
 ·subst h
  rw [hs]
  clear hs
  go_enter Tryz.func137, Tryz.ntmps137
  go_wp2_with fail
  go_ret
  exact ⟨rfl, Below.refl _ _⟩
 ·rw [hs]
  have h1 : ¬ n < 0 := by omega
  have h2 : min n 1 = 1 := by omega
  clear hs h
  go_enter Tryz.func137, Tryz.ntmps137
  go_wp2_with fail
  go_ret
  exact ⟨rfl, Below.refl _ _⟩
end Go.Proofs.YtacihodamichhaaGreatDoor
namespace Go.Proofs.YtacihodamichhaaGreatDoor
open Go.RowKit
def ordR (b : Int) (s : ByteArray) (d : Int) (b' : Int) (s' : ByteArray) (d' : Int) : Int :=
 if b ≠ b' then (b - b').sign else if b ≠ 0 then 0 else
  if cmpQ (numR s.data.toList) (denR s.data.toList) (numR s'.data.toList) (denR s'.data.toList) ≠ 0 then cmpQ (numR s.data.toList) (denR s.data.toList) (numR s'.data.toList) (denR s'.data.toList) else (d - d').sign
set_option maxHeartbeats 4000000 in
theorem order4_any (b d b' d' : Int) (s s' : ByteArray) (w : World) (hb : -10 ≤ b ∧ b ≤ 10) (hb' : -10 ≤ b' ∧ b' ≤ 10) (hd : 0 ≤ d ∧ d ≤ 1) (hd' : 0 ≤ d' ∧ d' ≤ 1)
  (hs : b = 0 → b' = 0 → s.size ≤ 60 ∧ s'.size ≤ 60 ∧ errL s.data.toList = 0 ∧ errL s'.data.toList = 0) :
  Calls Tryz.prog 99 #[rcut b s d, rcut b' s' d'] w (Ret (.int .i64 (ordR b s d b' s' d')) w) := by
 unfold rcut ordR
 have hk := below2 w (.cells #[.int .i64 b, .string s, .int .i64 d] 116) (.cells #[.int .i64 b', .string s', .int .i64 d'] 116)
 have HK := hI hk
 have HS := hI (fun n w' => ssign_any n w')
 have hA : Blk ((w.alloc (.cells #[.int .i64 b, .string s, .int .i64 d] 116)).alloc (.cells #[.int .i64 b', .string s', .int .i64 d'] 116)) w.heap.size #[.int .i64 b, .string s, .int .i64 d] 116 := (Blk.new w _ _).old _
 have hB : Blk ((w.alloc (.cells #[.int .i64 b, .string s, .int .i64 d] 116)).alloc (.cells #[.int .i64 b', .string s', .int .i64 d'] 116)) (w.heap.size + 1) #[.int .i64 b', .string s', .int .i64 d'] 116 := by
  have h := Blk.new (w.alloc (.cells #[.int .i64 b, .string s, .int .i64 d] 116)) #[.int .i64 b', .string s', .int .i64 d'] 116
  simpa using h
 have HC := hI (fun w' (hx : Below ((w.alloc (.cells #[.int .i64 b, .string s, .int .i64 d] 116)).alloc (.cells #[.int .i64 b', .string s', .int .i64 d'] 116)).heap.size ((w.alloc (.cells #[.int .i64 b, .string s, .int .i64 d] 116)).alloc (.cells #[.int .i64 b', .string s', .int .i64 d'] 116)) w') => And.intro (show w'.cell? ⟨w.heap.size, 2, none⟩ = some (.int .i64 d) by rw [(hA.below hx).cell]; rfl) (show w'.cell? ⟨w.heap.size + 1, 2, none⟩ = some (.int .i64 d') by rw [(hB.below hx).cell]; rfl))
 clear hA hB hk
 by_cases h1 : b = b'
 ·subst h1
  rw [if_neg (by simp)]
  have e1 : (b != b) = false := by simp
  by_cases h2 : b = 0
  ·subst h2
   rw [if_neg (by simp)]
   obtain ⟨z1, z2, z3, z4⟩ := hs rfl rfl
   have HQ := hI (fun w' => qcmp_any s.data.toList s'.data.toList w' (by rw [← Lib.size_eq]; exact z1) (by rw [← Lib.size_eq]; exact z2) z3 z4)
   rw [← bytes_of (s := s) rfl, ← bytes_of (s := s') rfl] at HQ
   generalize cmpQ (numR s.data.toList) (denR s.data.toList) (numR s'.data.toList) (denR s'.data.toList) = R at *
   have e3 : IntKind.i64.wrap (d - d') = d - d' := IntWalk.i64_in _ (by omega)
   clear hs z1 z2 z3 z4
   by_cases hR : R = 0
   ·rw [if_neg (by simpa using hR)]
    have e4 : (R != 0) = false := by simpa using hR
    clear hR
    go_enter Tryz.func99, Tryz.ntmps99
    go_wp2_with (first
     | (go_at_call 22; refine (HQ.out _).mono ?_; rintro e w1 ⟨rfl, hb1⟩; have Hb1 := hI hb1; obtain ⟨c0, c1⟩ := HC.out _ hb1; clear hb1)
     | (go_at_call 137; refine (HS.out _ _).mono ?_; rintro e w2 ⟨rfl, hb2⟩))
    go_ret
    exact ⟨rfl, HK.out.via (bw_via Hb1.out hb2) HK.out.size⟩
   ·rw [if_pos (by simpa using hR)]
    have e4 : (R != 0) = true := by simpa using hR
    clear hR
    go_enter Tryz.func99, Tryz.ntmps99
    go_wp2_with (go_at_call 22; refine (HQ.out _).mono ?_; rintro e w1 ⟨rfl, hb1⟩)
    go_ret
    exact ⟨rfl, HK.out.via hb1 HK.out.size⟩
  ·rw [if_pos h2]
   have e2 : (b != 0) = true := by simpa using h2
   clear hs h2
   go_enter Tryz.func99, Tryz.ntmps99
   go_wp2_with fail
   go_ret
   exact ⟨rfl, HK.out⟩
 ·rw [if_pos h1]
  have e1 : (b != b') = true := by simpa using h1
  have e2 : IntKind.i64.wrap (b - b') = b - b' := IntWalk.i64_in _ (by omega)
  clear hs h1
  go_enter Tryz.func99, Tryz.ntmps99
  go_wp2_with (go_at_call 137; refine (HS.out _ _).mono ?_; rintro e w1 ⟨rfl, hb1⟩)
  go_ret
  exact ⟨rfl, HK.out.via hb1 HK.out.size⟩
end Go.Proofs.YtacihodamichhaaGreatDoor
namespace Go.Proofs.YtacihodamichhaaGreatDoor
def SamePl (b : Int) (s : ByteArray) (d : Int) (c : Cut) : Prop := c.b = b ∧ c.s = s ∧ (b = 0 → c.d = 2 * d - 1) ∧ (b ≠ 0 → s = ⟨#[]⟩ ∧ c.d = 0)
theorem sign_cmp (a b : Int) : (a - b).sign = cmpZ a b := by
 have h := sign3 (a - b)
 unfold cmpZ
 split
 ·omega
 ·split <;> omega
theorem ord_cmp {b d b' d' : Int} {s s' : ByteArray} {c c' : Cut} (h : SamePl b s d c) (h' : SamePl b' s' d' c') : ordR b s d b' s' d' = cmpG c c' := by
 obtain ⟨rfl, rfl, h3, h4⟩ := h
 obtain ⟨rfl, rfl, h3', h4'⟩ := h'
 unfold ordR cmpG or3
 by_cases hb : c.b = c'.b
 ·have e0 : cmpZ c.b c'.b = 0 := cmpZ_eq.2 hb
  rw [if_neg (show ¬ c.b ≠ c'.b from fun h => h hb), e0, if_neg (show ¬ (0 : Int) ≠ 0 from fun h => h rfl)]
  by_cases h0 : c.b = 0
  ·have h0' : c'.b = 0 := by omega
   rw [if_neg (show ¬ c.b ≠ 0 from fun h => h h0)]
   split
   ·rfl
   ·rw [h3 h0, h3' h0', ← sign_cmp]
    have a := sign3 (d - d'); have b := sign3 (2 * d - 1 - (2 * d' - 1))
    omega
  ·have h0' : c'.b ≠ 0 := by omega
   rw [if_pos (show c.b ≠ 0 from h0), (h4 h0).1, (h4' h0').1, (h4 h0).2, (h4' h0').2]
   rfl
 ·rw [if_pos hb, sign_cmp, if_pos (fun e => hb (cmpZ_eq.1 e))]
end Go.Proofs.YtacihodamichhaaGreatDoor
