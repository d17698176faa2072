/-
  An interval is read: parse, kind.
-/
import Derived.Test.YtfmgjcgcocidfaaGreatDoorPut
namespace Go.Proofs.YtfmgjcgcocidfaaGreatDoor
open Go.RowKit

theorem cells14 {w w' : World} {b : Nat} {x0 x1 x2 x3 x4 x5 x6 x7 x8 x9 x10 x11 x12 x13 : Value} {T : TypeId} (h : Blk w b #[x0, x1, x2, x3, x4, x5, x6, x7, x8, x9, x10, x11, x12, x13] T) (hb : Below w.heap.size w w') :
    w'.cell? ⟨b, 0, none⟩ = some x0 ∧ w'.cell? ⟨b, 1, none⟩ = some x1 ∧ w'.cell? ⟨b, 2, none⟩ = some x2 ∧ w'.cell? ⟨b, 3, none⟩ = some x3 ∧ w'.cell? ⟨b, 4, none⟩ = some x4 ∧ w'.cell? ⟨b, 5, none⟩ = some x5 ∧ w'.cell? ⟨b, 6, none⟩ = some x6 ∧ w'.cell? ⟨b, 7, none⟩ = some x7 ∧ w'.cell? ⟨b, 8, none⟩ = some x8 ∧ w'.cell? ⟨b, 9, none⟩ = some x9 ∧ w'.cell? ⟨b, 10, none⟩ = some x10 ∧ w'.cell? ⟨b, 11, none⟩ = some x11 ∧ w'.cell? ⟨b, 12, none⟩ = some x12 ∧ w'.cell? ⟨b, 13, none⟩ = some x13 := by
  have h' := h.below hb
  exact ⟨by rw [h'.cell]; rfl, by rw [h'.cell]; rfl, by rw [h'.cell]; rfl, by rw [h'.cell]; rfl, by rw [h'.cell]; rfl, by rw [h'.cell]; rfl, by rw [h'.cell]; rfl, by rw [h'.cell]; rfl, by rw [h'.cell]; rfl, by rw [h'.cell]; rfl, by rw [h'.cell]; rfl, by rw [h'.cell]; rfl, by rw [h'.cell]; rfl, by rw [h'.cell]; rfl⟩
theorem free14 {w : World} {b : Nat} {cs : Array Value} {T : TypeId} (h : Blk w b cs T) :
    w.frozen? ⟨b, 0, none⟩ = false ∧ w.frozen? ⟨b, 1, none⟩ = false ∧ w.frozen? ⟨b, 2, none⟩ = false ∧ w.frozen? ⟨b, 3, none⟩ = false ∧ w.frozen? ⟨b, 4, none⟩ = false ∧ w.frozen? ⟨b, 5, none⟩ = false ∧ w.frozen? ⟨b, 6, none⟩ = false ∧ w.frozen? ⟨b, 7, none⟩ = false ∧ w.frozen? ⟨b, 8, none⟩ = false ∧ w.frozen? ⟨b, 9, none⟩ = false ∧ w.frozen? ⟨b, 10, none⟩ = false ∧ w.frozen? ⟨b, 11, none⟩ = false ∧ w.frozen? ⟨b, 12, none⟩ = false ∧ w.frozen? ⟨b, 13, none⟩ = false :=
  ⟨h.free 0, h.free 1, h.free 2, h.free 3, h.free 4, h.free 5, h.free 6, h.free 7, h.free 8, h.free 9, h.free 10, h.free 11, h.free 12, h.free 13⟩
theorem noU14 {b d b' d' : Int} {s s' : ByteArray} {x x' y y' : Bool} {a a' e e' : Option Addr} {n c n' c' m k m' k' : Nat} : NoU #[.int .i64 b, .string s, .int .i64 d, .bool x, .slice a n c, .bool x', .slice a' n' c', .int .i64 b', .string s', .int .i64 d', .bool y, .slice e m k, .bool y', .slice e' m' k'] := by
  intro v hv d'
  simp at hv
  rcases hv with rfl | rfl | rfl | rfl | rfl | rfl | rfl | rfl | rfl | rfl | rfl | rfl | rfl | rfl <;> simp
theorem nu_cells2 (k l : CC) : ∀ x ∈ k.cells ++ l.cells, ∀ d : Int, x ≠ .int .u32 d := fun x hx => by
  rcases List.mem_append.1 hx with h | h
  · exact nu_cells k x h
  · exact nu_cells l x h
/-- An interval that can be read. -/
structure Iv where
  lo : ByteArray
  hi : ByteArray
  le : Int
  he : Int
def Iv.ok (x : Iv) : Prop := EndOk x.lo x.le ∧ EndOk x.hi x.he
def Iv.agg (x : Iv) : Value := .agg #[.string x.lo, .string x.hi, .int .i64 x.le, .int .i64 x.he]
def Iv.low (x : Iv) : Cut := cutOf x.lo x.le 1
def Iv.high (x : Iv) : Cut := cutOf x.hi x.he (-1)
def pagg (k l : CC) : Value := .agg #[.int .i64 k.c.b, .string k.c.s, .int .i64 k.c.d, .bool k.x, .slice k.a k.n k.cap, .bool false, .slice none 0 0, .int .i64 l.c.b, .string l.c.s, .int .i64 l.c.d, .bool l.x, .slice l.a l.n l.cap, .bool false, .slice none 0 0]
theorem EndOk.range {n : ByteArray} {k : Int} (h : EndOk n k) : 0 ≤ k ∧ k ≤ 2 := by
  rcases h with ⟨rfl, _⟩ | ⟨rfl | rfl, _⟩ <;> omega

set_option maxHeartbeats 8000000 in
theorem parse_iv (x : Iv) (w : World) (h : x.ok) : Calls Tryz.prog 18 #[x.agg] w (RetP (fun v w' => ∃ k l : CC, v = .tuple #[pagg k l, .int .i64 0] ∧ k.c = x.low ∧ l.c = x.high ∧ k.ok w' ∧ l.ok w') w) := by
  obtain ⟨lo, hi, le, he⟩ := x
  obtain ⟨h1, h2⟩ := h
  unfold Iv.agg Iv.low Iv.high
  dsimp only at h1 h2 ⊢
  obtain ⟨r1, r2⟩ := h1.range
  obtain ⟨r3, r4⟩ := h2.range
  have g1 : ¬ le < 0 := by omega
  have g2 : ¬ 2 < le := by omega
  have g3 : ¬ he < 0 := by omega
  have g4 : ¬ 2 < he := by omega
  have hA : Blk ((w.alloc (.cells #[.string lo, .string hi, .int .i64 le, .int .i64 he] 27)).alloc (.cells #[.int .i64 0, .string ⟨#[]⟩, .int .i64 0, .bool false, .slice none 0 0, .bool false, .slice none 0 0, .int .i64 0, .string ⟨#[]⟩, .int .i64 0, .bool false, .slice none 0 0, .bool false, .slice none 0 0] 54)) w.heap.size #[.string lo, .string hi, .int .i64 le, .int .i64 he] 27 := (Blk.new w _ _).old _
  have hR : Blk ((w.alloc (.cells #[.string lo, .string hi, .int .i64 le, .int .i64 he] 27)).alloc (.cells #[.int .i64 0, .string ⟨#[]⟩, .int .i64 0, .bool false, .slice none 0 0, .bool false, .slice none 0 0, .int .i64 0, .string ⟨#[]⟩, .int .i64 0, .bool false, .slice none 0 0, .bool false, .slice none 0 0] 54)) (w.heap.size + 1) #[.int .i64 0, .string ⟨#[]⟩, .int .i64 0, .bool false, .slice none 0 0, .bool false, .slice none 0 0, .int .i64 0, .string ⟨#[]⟩, .int .i64 0, .bool false, .slice none 0 0, .bool false, .slice none 0 0] 54 := by
    have h := Blk.new (w.alloc (.cells #[.string lo, .string hi, .int .i64 le, .int .i64 he] 27)) #[.int .i64 0, .string ⟨#[]⟩, .int .i64 0, .bool false, .slice none 0 0, .bool false, .slice none 0 0, .int .i64 0, .string ⟨#[]⟩, .int .i64 0, .bool false, .slice none 0 0, .bool false, .slice none 0 0] 54
    simpa using h
  have HA := Lib.hid (fun w' (hb : Below ((w.alloc (.cells #[.string lo, .string hi, .int .i64 le, .int .i64 he] 27)).alloc (.cells #[.int .i64 0, .string ⟨#[]⟩, .int .i64 0, .bool false, .slice none 0 0, .bool false, .slice none 0 0, .int .i64 0, .string ⟨#[]⟩, .int .i64 0, .bool false, .slice none 0 0, .bool false, .slice none 0 0] 54)).heap.size ((w.alloc (.cells #[.string lo, .string hi, .int .i64 le, .int .i64 he] 27)).alloc (.cells #[.int .i64 0, .string ⟨#[]⟩, .int .i64 0, .bool false, .slice none 0 0, .bool false, .slice none 0 0, .int .i64 0, .string ⟨#[]⟩, .int .i64 0, .bool false, .slice none 0 0, .bool false, .slice none 0 0] 54)) w') => cells4 hA hb)
  have HR := Lib.hid hR
  have HK := Lib.hid (below2 w (.cells #[.string lo, .string hi, .int .i64 le, .int .i64 he] 27) (.cells #[.int .i64 0, .string ⟨#[]⟩, .int .i64 0, .bool false, .slice none 0 0, .bool false, .slice none 0 0, .int .i64 0, .string ⟨#[]⟩, .int .i64 0, .bool false, .slice none 0 0, .bool false, .slice none 0 0] 54))
  have H1 := Lib.hid (fun w' => end_any lo le 1 w' (.inl rfl) h1)
  have H2 := Lib.hid (fun w' => end_any hi he (-1) w' (.inr rfl) h2)
  generalize cutOf lo le 1 = cl at *
  generalize cutOf hi he (-1) = ch at *
  clear h1 h2 r1 r2 r3 r4 hA hR
  go_enter Tryz.func18, Tryz.ntmps18
  go_wp2_with (first
    | (go_at_call 42; have _t := Hb1; clear _t; refine (H2.out _).mono ?_; rintro e w2 ⟨v2, rfl, ⟨k2, rfl, hc2, hk2⟩, hb2⟩; obtain ⟨⟨b2, s2, d2⟩, x2, a2, n2, c2⟩ := k2; have Hc2 := Lib.hid hc2; have Hk2 := Lib.hid hk2; have Hb2 := Lib.hid hb2; unfold CC.agg; have hB4 := ((Blk.new w1 #[.int .i64 b1, .string s1, .int .i64 d1, .bool x1, .slice a1 n1 c1, .bool false, .slice none 0 0] 52).below hb2).old (.cells #[.int .i64 b2, .string s2, .int .i64 d2, .bool x2, .slice a2 n2 c2, .bool false, .slice none 0 0] 52); obtain ⟨p0, p1, p2, p3, p4, p5, p6⟩ := cells7 hB4 (Below.refl _ _); have hr := HR.out.below (bw_via Hb1.out (bw_via (below1 w1 (.cells #[.int .i64 b1, .string s1, .int .i64 d1, .bool x1, .slice a1 n1 c1, .bool false, .slice none 0 0] 52)) (bw_via Hb2.out (below1 w2 (.cells #[.int .i64 b2, .string s2, .int .i64 d2, .bool x2, .slice a2 n2 c2, .bool false, .slice none 0 0] 52))))); obtain ⟨r0, r1, r2, r3, r4, r5, r6, r7, r8, r9, r10, r11, r12, r13⟩ := cells14 hr (Below.refl _ _); obtain ⟨f0, f1, f2, f3, f4, f5, f6, f7, f8, f9, f10, f11, f12, f13⟩ := free14 hr; have hk6 : CC.ok w2 ⟨⟨b1, s1, d1⟩, x1, a1, n1, c1⟩ := (Hk1.out.mono (below1 w1 (.cells #[.int .i64 b1, .string s1, .int .i64 d1, .bool x1, .slice a1 n1 c1, .bool false, .slice none 0 0] 52))).mono Hb2.out; have hk7 := (hk6.mono (below1 w2 (.cells #[.int .i64 b2, .string s2, .int .i64 d2, .bool x2, .slice a2 n2 c2, .bool false, .slice none 0 0] 52))).setN hr noU14 [.int .i64 b1, .string s1, .int .i64 d1, .bool x1, .slice a1 n1 c1, .bool false, .slice none 0 0, .int .i64 b2, .string s2, .int .i64 d2, .bool x2, .slice a2 n2 c2, .bool false, .slice none 0 0] (nu_cells2 ⟨⟨b1, s1, d1⟩, x1, a1, n1, c1⟩ ⟨⟨b2, s2, d2⟩, x2, a2, n2, c2⟩); have hk8 := (Hk2.out.mono (below1 w2 (.cells #[.int .i64 b2, .string s2, .int .i64 d2, .bool x2, .slice a2 n2 c2, .bool false, .slice none 0 0] 52))).setN hr noU14 [.int .i64 b1, .string s1, .int .i64 d1, .bool x1, .slice a1 n1 c1, .bool false, .slice none 0 0, .int .i64 b2, .string s2, .int .i64 d2, .bool x2, .slice a2 n2 c2, .bool false, .slice none 0 0] (nu_cells2 ⟨⟨b1, s1, d1⟩, x1, a1, n1, c1⟩ ⟨⟨b2, s2, d2⟩, x2, a2, n2, c2⟩); have hb7 := setN_blk hr [.int .i64 b1, .string s1, .int .i64 d1, .bool x1, .slice a1 n1 c1, .bool false, .slice none 0 0, .int .i64 b2, .string s2, .int .i64 d2, .bool x2, .slice a2 n2 c2, .bool false, .slice none 0 0] rfl; have hbel := setN_below (b := w.heap.size + 1) (Nat.le_add_right _ 1) [.int .i64 b1, .string s1, .int .i64 d1, .bool x1, .slice a1 n1 c1, .bool false, .slice none 0 0, .int .i64 b2, .string s2, .int .i64 d2, .bool x2, .slice a2 n2 c2, .bool false, .slice none 0 0] 0 _ (HK.out.via (bw_via Hb1.out (bw_via (below1 w1 (.cells #[.int .i64 b1, .string s1, .int .i64 d1, .bool x1, .slice a1 n1 c1, .bool false, .slice none 0 0] 52)) (bw_via Hb2.out (below1 w2 (.cells #[.int .i64 b2, .string s2, .int .i64 d2, .bool x2, .slice a2 n2 c2, .bool false, .slice none 0 0] 52))))) HK.out.size); simp only [setN, Nat.zero_add, Nat.reduceAdd] at hk7 hk8 hb7 hbel; have Hk7 := Lib.hid hk7; have Hk8 := Lib.hid hk8; have Hb7 := Lib.hid hb7; have Hbel := Lib.hid hbel; clear hk6 hk7 hk8 hb7 hbel hr hk2 hb2 hc2 hB4)
    | (go_at_call 42; refine (H1.out _).mono ?_; rintro e w1 ⟨v1, rfl, ⟨k1, rfl, hc1, hk1⟩, hb1⟩; obtain ⟨⟨b1, s1, d1⟩, x1, a1, n1, c1⟩ := k1; have Hc1 := Lib.hid hc1; have Hk1 := Lib.hid hk1; have Hb1 := Lib.hid hb1; unfold CC.agg; obtain ⟨e0, e1, e2, e3⟩ := HA.out _ (bw_via hb1 (below1 w1 (.cells #[.int .i64 b1, .string s1, .int .i64 d1, .bool x1, .slice a1 n1 c1, .bool false, .slice none 0 0] 52))); clear hc1 hk1 hb1))
  obtain ⟨q0, q1, q2, q3, q4, q5, q6, q7, q8, q9, q10, q11, q12, q13⟩ := cells14 Hb7.out (Below.refl _ _)
  exact bodyPost_ret (v := .tuple #[.agg #[.int .i64 b1, .string s1, .int .i64 d1, .bool x1, .slice a1 n1 c1, .bool false, .slice none 0 0, .int .i64 b2, .string s2, .int .i64 d2, .bool x2, .slice a2 n2 c2, .bool false, .slice none 0 0], .int .i64 0]) (by simp [results, Tryz.results18, go_sem, q0, q1, q2, q3, q4, q5, q6, q7, q8, q9, q10, q11, q12, q13]) rfl ⟨_, rfl, ⟨⟨⟨b1, s1, d1⟩, x1, a1, n1, c1⟩, ⟨⟨b2, s2, d2⟩, x2, a2, n2, c2⟩, rfl, Hc1.out, Hc2.out, Hk7.out, Hk8.out⟩, Hbel.out⟩

/-- The kind of an end. -/
def kindOf (c : Cut) (side : Int) : Int := if c.b ≠ 0 then 2 else if c.d = side then 0 else 1
set_option maxHeartbeats 2000000 in
theorem kind_any (k : CC) (side : Int) (w : World) : Calls Tryz.prog 47 #[k.agg, .int .i64 side] w (Ret (.int .i64 (kindOf k.c side)) w) := by
  unfold CC.agg kindOf
  obtain ⟨⟨b, s, d⟩, x, a, n, c⟩ := k
  dsimp only
  by_cases hb : b = 0
  · rw [if_neg (by simpa using hb)]
    have e1 : (b != 0) = false := by simpa using hb
    by_cases hd : d = side
    · rw [if_pos hd]
      have e2 : (d == side) = true := by simpa using hd
      clear hb hd
      go_enter Tryz.func47, Tryz.ntmps47
      go_wp2_with fail
      go_ret
      exact ⟨rfl, below1 w _⟩
    · rw [if_neg hd]
      have e2 : (d == side) = false := by simpa using hd
      clear hb hd
      go_enter Tryz.func47, Tryz.ntmps47
      go_wp2_with fail
      go_ret
      exact ⟨rfl, below1 w _⟩
  · rw [if_pos hb]
    have e1 : (b != 0) = true := by simpa using hb
    clear hb
    go_enter Tryz.func47, Tryz.ntmps47
    go_wp2_with fail
    go_ret
    exact ⟨rfl, below1 w _⟩

end Go.Proofs.YtfmgjcgcocidfaaGreatDoor
