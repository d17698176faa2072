/-
  Parts of the proof: Wk, Rch, Ict, Rw, Sgl, Icn, St.
-/
import Derived.ProofKit
import Derived.Lib.SmallJoins
import Derived.Deep.Slices
import Derived.Deep.Fields
import Derived.Deep.Matrix
import Derived.Deep.SlicePairs
import Derived.ChangeSame
import Derived.Test.YtacihodamichhaaGreatDoorT41
namespace Go.Proofs.YtacihodamichhaaGreatDoor
open Go.RowKit
theorem bwR (w : World) : Below w.heap.size w w := Below.refl _ _
theorem bwD (w : World) : Below w.heap.size w (w.drewN 1) := (Below.refl _ _).dn 1
theorem bwA {w W : World} (h : Below w.heap.size w W) (o : Obj) : Below w.heap.size w (W.alloc o) := h.alloc h.size o
theorem Blk.offN {b c : Nat} {T : TypeId} {cs : Array Value} : ∀ (vs : List Value) (i : Nat) (w : World), Blk w c cs T → c ≠ b → Blk (setN w b i vs) c cs T
 | [], _, _, h, _ => h
 | v :: r, i, w, h, hne => Blk.offN r (i + 1) (w.setCell ⟨b, i, none⟩ v) (h.other (p := ⟨b, i, none⟩) hne v) hne
theorem blk3v {w : World} {b : Nat} {x y z : Value} {T : TypeId} (h : Blk w b #[x, y, z] T) : (w.cell? ⟨b, 0, none⟩ = some x ∧ w.cell? ⟨b, 1, none⟩ = some y ∧ w.cell? ⟨b, 2, none⟩ = some z) ∧ w.frozen? ⟨b, 0, none⟩ = false ∧ w.frozen? ⟨b, 1, none⟩ = false ∧ w.frozen? ⟨b, 2, none⟩ = false :=
 ⟨⟨h.cell 0, h.cell 1, h.cell 2⟩, h.free 0, h.free 1, h.free 2⟩
theorem Blk.put3 {w : World} {b : Nat} {x y z : Value} {T : TypeId} (u0 u1 u2 : Value) (h : Blk w b #[x, y, z] T) : Blk (((w.setCell ⟨b, 0, none⟩ u0).setCell ⟨b, 1, none⟩ u1).setCell ⟨b, 2, none⟩ u2) b #[u0, u1, u2] T :=
 setN_blk h [u0, u1, u2] rfl
theorem Blk.off3 {w : World} {b c : Nat} {cs : Array Value} {T : TypeId} (u0 u1 u2 : Value) (h : Blk w c cs T) (hne : c ≠ b) : Blk (((w.setCell ⟨b, 0, none⟩ u0).setCell ⟨b, 1, none⟩ u1).setCell ⟨b, 2, none⟩ u2) c cs T :=
 Blk.offN [u0, u1, u2] 0 w h hne
theorem below_put3 {B b : Nat} {w0 w : World} (u0 u1 u2 : Value) (h : Below B w0 w) (hB : B ≤ b) : Below B w0 (((w.setCell ⟨b, 0, none⟩ u0).setCell ⟨b, 1, none⟩ u1).setCell ⟨b, 2, none⟩ u2) := ((h.setCell hB _).setCell hB _).setCell hB _
end Go.Proofs.YtacihodamichhaaGreatDoor
namespace Go.Proofs.YtacihodamichhaaGreatDoor
open Go.RowKit
def loC (n : ByteArray) (kind : Int) : Cut := if kind = 2 then ⟨-1, ⟨#[]⟩, 0⟩ else if kind = 0 then ⟨0, n, 1⟩ else ⟨0, n, 0⟩
def upC (n : ByteArray) (kind : Int) : Cut := if kind = 2 then ⟨1, ⟨#[]⟩, 0⟩ else if kind = 0 then ⟨0, n, 0⟩ else ⟨0, n, 1⟩
def rcA (c : Cut) : Value := rcut c.b c.s c.d
theorem loR_eq (n : ByteArray) (kind : Int) : loR n kind = rcA (loC n kind) := by
 unfold loR loC rcA
 split
 ·rfl
 ·split <;> rfl
theorem upR_eq (n : ByteArray) (kind : Int) : upR n kind = rcA (upC n kind) := by
 unfold upR upC rcA
 split
 ·rfl
 ·split <;> rfl
theorem lower_c (n : ByteArray) (kind : Int) (w : World) : Calls Tryz.prog 89 #[.string n, .int .i64 kind] w (Ret (rcA (loC n kind)) w) := by
 have := rlower_any n kind w
 rwa [loR_eq] at this
theorem upper_c (n : ByteArray) (kind : Int) (w : World) : Calls Tryz.prog 90 #[.string n, .int .i64 kind] w (Ret (rcA (upC n kind)) w) := by
 have := rupper_any n kind w
 rwa [upR_eq] at this
def toP (r : Cut) : Cut := ⟨r.b, r.s, if r.b = 0 then 2 * r.d - 1 else 0⟩
def RokC (r : Cut) : Prop := (r.b = 0 ∧ r.s.size ≤ 60 ∧ errL r.s.data.toList = 0 ∧ 0 ≤ r.d ∧ r.d ≤ 1) ∨ ((r.b = 1 ∨ r.b = -1) ∧ r.s = ⟨#[]⟩ ∧ r.d = 0)
def ordC (x y : Cut) : Int := ordR x.b x.s x.d y.b y.s y.d
theorem same_toP {r : Cut} (h : RokC r) : SamePl r.b r.s r.d (toP r) := by
 refine ⟨rfl, rfl, fun h0 => ?_, fun h0 => ?_⟩
 ·unfold toP; dsimp only; rw [if_pos h0]
 ·rcases h with ⟨h1, _⟩ | ⟨_, h2, _⟩
  ·exact absurd h1 h0
  ·refine ⟨h2, ?_⟩
   unfold toP; dsimp only; rw [if_neg h0]
theorem ord_toP {x y : Cut} (h : RokC x) (k : RokC y) : ordC x y = cmpG (toP x) (toP y) := ord_cmp (same_toP h) (same_toP k)
theorem order_c (x y : Cut) (w : World) (h : RokC x) (k : RokC y) : Calls Tryz.prog 99 #[rcA x, rcA y] w (Ret (.int .i64 (cmpG (toP x) (toP y))) w) := by
 rw [← ord_toP h k]
 refine order4_any x.b x.d y.b y.d x.s y.s w ?_ ?_ ?_ ?_ ?_
 ·rcases h with h | h <;> omega
 ·rcases k with h | h <;> omega
 ·rcases h with h | h <;> omega
 ·rcases k with h | h <;> omega
 ·intro h0 k0
  rcases h with ⟨_, h1, h2, _⟩ | h
  ·rcases k with ⟨_, k1, k2, _⟩ | k
   ·exact ⟨h1, k1, h2, k2⟩
   ·omega
  ·omega
theorem end_rok {n : ByteArray} {kind : Int} (hk : 0 ≤ kind ∧ kind ≤ 2) (hn : n.size ≤ 60) (h : endErr n kind = 0) : RokC (loC n kind) ∧ RokC (upC n kind) ∧ toP (loC n kind) = cutOf n kind 1 ∧ toP (upC n kind) = cutOf n kind (-1) := by
 unfold endErr at h
 unfold loC upC cutOf toP
 by_cases h2 : kind = 2
 ·subst h2
  exact ⟨.inr ⟨.inr rfl, rfl, rfl⟩, .inr ⟨.inl rfl, rfl, rfl⟩, rfl, rfl⟩
 ·rw [if_neg h2] at h
  rw [if_neg h2, if_neg h2, if_neg h2, if_neg h2]
  by_cases h0 : kind = 0
  ·subst h0
   exact ⟨.inl ⟨rfl, hn, h, (by show (0 : Int) ≤ 1; decide), (by show (1 : Int) ≤ 1; decide)⟩, .inl ⟨rfl, hn, h, (by show (0 : Int) ≤ 0; decide), (by show (0 : Int) ≤ 1; decide)⟩, rfl, rfl⟩
  ·rw [if_neg h0, if_neg h0]
   obtain rfl : kind = 1 := by omega
   exact ⟨.inl ⟨rfl, hn, h, (by show (0 : Int) ≤ 0; decide), (by show (0 : Int) ≤ 1; decide)⟩, .inl ⟨rfl, hn, h, (by show (0 : Int) ≤ 1; decide), (by show (1 : Int) ≤ 1; decide)⟩, rfl, rfl⟩
theorem iv_rok {x : Iv} (hs : x.short) (h : ivErr x = 0) : RokC (loC x.lo x.le) ∧ RokC (upC x.hi x.he) ∧ toP (loC x.lo x.le) = x.low ∧ toP (upC x.hi x.he) = x.high := by
 unfold ivErr at h
 split at h
 ·cases h
 rename_i hk
 split at h
 ·rename_i h1; exact absurd h h1
 rename_i h1
 obtain ⟨a, _, b, _⟩ := end_rok (kind := x.le) (by omega) hs.1 (by simpa using h1)
 obtain ⟨_, c, _, d⟩ := end_rok (kind := x.he) (by omega) hs.2 h
 exact ⟨a, c, b, d⟩
end Go.Proofs.YtacihodamichhaaGreatDoor
namespace Go.Proofs.YtacihodamichhaaGreatDoor
open Go.RowKit
def inP (q : Cut × Cut) (a b : Cut) : Bool := decide (cmpG q.1 a ≤ 0) && decide (cmpG b q.2 ≤ 0)
set_option maxHeartbeats 8000000 in
theorem icontains1 (k l p q : GC) (B : Nat) (w : World) (hB : Blk w B #[.int .i64 p.c.b, .string p.c.s, .int .i64 p.c.d, .bool p.x, .slice p.a p.n p.cap, .bool p.y, .slice p.e p.m p.cap2, .int .i64 q.c.b, .string q.c.s, .int .i64 q.c.d, .bool q.x, .slice q.a q.n q.cap, .bool q.y, .slice q.e q.m q.cap2] 84) (hk : k.ok w) (hl : l.ok w) (hp : p.ok w) (hq : q.ok w) :
  Calls Tryz.prog 98 #[gpagg k l, .pointer (some ⟨B, 0, none⟩)] w (Ret (.bool (inP (k.c, l.c) p.c q.c)) w) := by
 have H1 := hI (fun w' (hb : Below w.heap.size w w') => cutcmp_g k p w' (hk.mono hb) (hp.mono hb))
 have H2 := hI (fun w' (hb : Below w.heap.size w w') => cutcmp_g q l w' (hq.mono hb) (hl.mono hb))
 have hT : inP (k.c, l.c) p.c q.c = (decide (cmpG k.c p.c ≤ 0) && decide (cmpG q.c l.c ≤ 0)) := rfl
 unfold GC.agg at H1 H2
 generalize cmpG k.c p.c = R1 at *
 generalize cmpG q.c l.c = R2 at *
 have HB1 := hI (fun w' (hb : Below (w.alloc (.cells #[.int .i64 k.c.b, .string k.c.s, .int .i64 k.c.d, .bool k.x, .slice k.a k.n k.cap, .bool k.y, .slice k.e k.m k.cap2, .int .i64 l.c.b, .string l.c.s, .int .i64 l.c.d, .bool l.x, .slice l.a l.n l.cap, .bool l.y, .slice l.e l.m l.cap2] 84)).heap.size (w.alloc (.cells #[.int .i64 k.c.b, .string k.c.s, .int .i64 k.c.d, .bool k.x, .slice k.a k.n k.cap, .bool k.y, .slice k.e k.m k.cap2, .int .i64 l.c.b, .string l.c.s, .int .i64 l.c.d, .bool l.x, .slice l.a l.n l.cap, .bool l.y, .slice l.e l.m l.cap2] 84)) w') => cells14 (hB.old (.cells #[.int .i64 k.c.b, .string k.c.s, .int .i64 k.c.d, .bool k.x, .slice k.a k.n k.cap, .bool k.y, .slice k.e k.m k.cap2, .int .i64 l.c.b, .string l.c.s, .int .i64 l.c.d, .bool l.x, .slice l.a l.n l.cap, .bool l.y, .slice l.e l.m l.cap2] 84)) hb)
 have HB2 := hI (fun w' (hb : Below (w.alloc (.cells #[.int .i64 k.c.b, .string k.c.s, .int .i64 k.c.d, .bool k.x, .slice k.a k.n k.cap, .bool k.y, .slice k.e k.m k.cap2, .int .i64 l.c.b, .string l.c.s, .int .i64 l.c.d, .bool l.x, .slice l.a l.n l.cap, .bool l.y, .slice l.e l.m l.cap2] 84)).heap.size (w.alloc (.cells #[.int .i64 k.c.b, .string k.c.s, .int .i64 k.c.d, .bool k.x, .slice k.a k.n k.cap, .bool k.y, .slice k.e k.m k.cap2, .int .i64 l.c.b, .string l.c.s, .int .i64 l.c.d, .bool l.x, .slice l.a l.n l.cap, .bool l.y, .slice l.e l.m l.cap2] 84)) w') => cells14 (Blk.new w #[.int .i64 k.c.b, .string k.c.s, .int .i64 k.c.d, .bool k.x, .slice k.a k.n k.cap, .bool k.y, .slice k.e k.m k.cap2, .int .i64 l.c.b, .string l.c.s, .int .i64 l.c.d, .bool l.x, .slice l.a l.n l.cap, .bool l.y, .slice l.e l.m l.cap2] 84) hb)
 obtain ⟨r0, r1, r2, r3, r4, r5, r6, r7, r8, r9, r10, r11, r12, r13⟩ := HB1.out _ (Below.refl _ _)
 obtain ⟨b0, b1, b2, b3, b4, b5, b6, b7, b8, b9, b10, b11, b12, b13⟩ := HB2.out _ (Below.refl _ _)
 have HR := hI (below1 w (.cells #[.int .i64 k.c.b, .string k.c.s, .int .i64 k.c.d, .bool k.x, .slice k.a k.n k.cap, .bool k.y, .slice k.e k.m k.cap2, .int .i64 l.c.b, .string l.c.s, .int .i64 l.c.d, .bool l.x, .slice l.a l.n l.cap, .bool l.y, .slice l.e l.m l.cap2] 84))
 rw [hT]
 clear hB hk hl hp hq hT
 unfold gpagg
 by_cases h1 : R1 ≤ 0
 ·have hd1 : decide (R1 ≤ 0) = true := decide_eq_true h1
  rw [hd1, Bool.true_and]
  go_enter Tryz.func98, Tryz.ntmps98
  go_wp2_with (first
   | (have _t := Hw1; clear _t; go_at_call 73; refine (H2.out _ Hw1.out).mono ?_; rintro e w2 ⟨rfl, hb2⟩; have Hw2 := hI (bw_via Hw1.out hb2); clear hb2)
   | (go_at_call 73; refine (H1.out _ HR.out).mono ?_; rintro e w1 ⟨rfl, hb1⟩; have Hw1 := hI (bw_via HR.out hb1); obtain ⟨r0, r1, r2, r3, r4, r5, r6, r7, r8, r9, r10, r11, r12, r13⟩ := HB1.out _ hb1; obtain ⟨b0, b1, b2, b3, b4, b5, b6, b7, b8, b9, b10, b11, b12, b13⟩ := HB2.out _ hb1; clear hb1))
  go_ret
  exact ⟨rfl, Hw2.out⟩
 ·have hd1 : decide (R1 ≤ 0) = false := decide_eq_false h1
  rw [hd1, Bool.false_and]
  go_enter Tryz.func98, Tryz.ntmps98
  go_wp2_with (go_at_call 73; refine (H1.out _ HR.out).mono ?_; rintro e w1 ⟨rfl, hb1⟩; have Hw1 := hI (bw_via HR.out hb1); clear hb1)
  go_ret
  exact ⟨rfl, Hw1.out⟩
set_option maxHeartbeats 8000000 in
theorem iindex_any (v : Value) (ps : List GP) (p q : GC) (B : Nat) (w : World) (h : GParts w v ps) (hn : ps.length < 1000000) (hB : Blk w B #[.int .i64 p.c.b, .string p.c.s, .int .i64 p.c.d, .bool p.x, .slice p.a p.n p.cap, .bool p.y, .slice p.e p.m p.cap2, .int .i64 q.c.b, .string q.c.s, .int .i64 q.c.d, .bool q.x, .slice q.a q.n q.cap, .bool q.y, .slice q.e q.m q.cap2] 84) (hp : p.ok w) (hq : q.ok w) :
  Calls Tryz.prog 136 #[v, .func (.func 98) #[] #[.pointer (some ⟨B, 0, none⟩)]] w (RetP (fun r _ => ∃ z : Int, r = .int .i64 z ∧ decide (0 ≤ z) = ps.any fun g => inP g.cuts p.c q.c) w) := by
 obtain ⟨a, c, rfl, hc1, hc2⟩ := h.open
 unfold maxLen at hc2
 have HX := hI h
 have HP := hI (And.intro hB (And.intro hp hq))
 obtain ⟨E, hE⟩ : ∃ E, (ps.any fun g => inP g.cuts p.c q.c) = E := ⟨_, rfl⟩
 rw [hE]
 have HE := hI hE
 clear h hB hp hq hE
 generalize hln : ps.length = n at *
 have Hln := hI hln
 clear hln
 go_enter Tryz.func136, Tryz.ntmps136
 go_wp2_with fail
 go_loopw [8] (fun i wr => ∃ k : Nat, k ≤ n ∧ i = .int .i64 (k : Int) ∧ Below w.heap.size w wr ∧ Hid (((ps.take k).any fun g => inP g.cuts p.c q.c) = false)) (fun i _ => n - (intOf i).toNat)
 case atStart => exact ⟨0, by omega, rfl, Below.refl _ _, rfl⟩
 case round =>
  obtain ⟨k, hk, rfl, hbw, hpre⟩ := hrel
  have Hbw := hI hbw
  have Hpre := hI hpre.out
  rcases Nat.lt_or_ge k n with hlt | hge
  ·obtain ⟨b, off, g, rfl, hx, hgok, e0, e1, e2, e3, e4, e5, e6, e7, e8, e9, e10, e11, e12, e13⟩ := HX.out.at hbw hlt
   have hkn : (k : Int) < (n : Int) := by omega
   have hk0 : (0 : Int) ≤ (k : Int) := Int.natCast_nonneg _
   have hkw : IntKind.i64.wrap ((k : Int) + 1) = (k : Int) + 1 := IntWalk.i64_in _ (by omega)
   have H1 := hI (icontains1 g.l g.h p q B wr (HP.out.1.below hbw) hgok.1 hgok.2 (HP.out.2.1.mono hbw) (HP.out.2.2.mono hbw))
   unfold gpagg at H1
   have Hx := hI hx
   obtain ⟨Y, hY⟩ : ∃ Y, inP (g.l.c, g.h.c) p.c q.c = Y := ⟨_, rfl⟩
   rw [hY] at H1
   have HY := hI hY
   clear hbw hx hgok hY hpre
   cases Y with
   | true =>
    have Hfin := hI (show E = true by
     rw [← HE.out, List.any_eq_true]
     exact ⟨g, List.mem_of_getElem? Hx.out, HY.out⟩)
    go_wp2_with (go_at_call 98; refine (H1.out).mono ?_; rintro e w1 ⟨rfl, hb1⟩; have Hb1 := hI (Hbw.out.via hb1 Hbw.out.size); clear hb1)
    go_ret
    exact ⟨_, rfl, ⟨(k : Int), rfl, by rw [Hfin.out]; exact decide_eq_true hk0⟩, Hb1.out⟩
   | false =>
    have Hnx := hI (show ((ps.take (k + 1)).any fun g => inP g.cuts p.c q.c) = false by
     obtain ⟨hi, he⟩ := List.getElem?_eq_some_iff.1 Hx.out
     rw [List.take_succ_eq_append_getElem hi, he, List.any_append, Hpre.out, List.any_cons, List.any_nil]
     show (false || (inP (g.l.c, g.h.c) p.c q.c || false)) = false
     rw [HY.out]; rfl)
    go_wp2_with (go_at_call 98; refine (H1.out).mono ?_; rintro e w1 ⟨rfl, hb1⟩; have Hb1 := hI (Hbw.out.via hb1 Hbw.out.size); clear hb1)
    go_roundw
    case rel => exact ⟨k + 1, by omega, by go_num, Hb1.out, Hnx.out⟩
    case measure => simp [intOf] <;> omega
  ·obtain rfl : k = n := by omega
   have hkn : ¬ (k : Int) < (k : Int) := by omega
   have Hfin := hI (show E = false by
    have := Hpre.out
    rw [List.take_of_length_le (by rw [Hln.out]; exact Nat.le_refl _)] at this
    rw [← HE.out]; exact this)
   go_wp2_with fail
   go_ret
   exact ⟨_, rfl, ⟨-1, rfl, by rw [Hfin.out]; rfl⟩, Hbw.out⟩
set_option maxHeartbeats 2000000 in
theorem icontainsf_any (v : Value) (ps : List GP) (p q : GC) (B : Nat) (w : World) (h : GParts w v ps) (hn : ps.length < 1000000) (hB : Blk w B #[.int .i64 p.c.b, .string p.c.s, .int .i64 p.c.d, .bool p.x, .slice p.a p.n p.cap, .bool p.y, .slice p.e p.m p.cap2, .int .i64 q.c.b, .string q.c.s, .int .i64 q.c.d, .bool q.x, .slice q.a q.n q.cap, .bool q.y, .slice q.e q.m q.cap2] 84) (hp : p.ok w) (hq : q.ok w) :
  Calls Tryz.prog 97 #[v, .func (.func 98) #[] #[.pointer (some ⟨B, 0, none⟩)]] w (Ret (.bool (ps.any fun g => inP g.cuts p.c q.c)) w) := by
 have H := hI (iindex_any v ps p q B w h hn hB hp hq)
 generalize (ps.any fun g => inP g.cuts p.c q.c) = E at *
 clear h hB hp hq
 go_enter Tryz.func97, Tryz.ntmps97
 go_wp2_with (go_at_call 136; refine (H.out).mono ?_; rintro e w1 ⟨v1, rfl, ⟨z, rfl, hz⟩, hb1⟩; have Hz := hI hz; have Hb1 := hI hb1; clear hz hb1)
 go_ret
 exact ⟨by rw [← Hz.out]; rfl, Hb1.out⟩
end Go.Proofs.YtacihodamichhaaGreatDoor
namespace Go.Proofs.YtacihodamichhaaGreatDoor
open Go.ChangeShapes Go.WideShapes Go.ChangeAt Go.RowKit
theorem try_laidOut : laidOutB Tryz.prog = true := by kernel_rfl
section
variable {H : Type} {enc : TypeId × Value → H} {P : Program}
theorem post_of_below {f : Func} {s : ChangeSpec} {apart fresh handsOn again : Bool} {W W' : World} {args : Array Value} {v : Value} {ds gs : List (DataW H)} {before pa pv : List MemPlace}
  (hW : DataW.Whole enc P f.params.toList s.vars apart W args.toList ds gs before)
  (hres : ∀ (b : Nat) (sp : Nat → Bool) (hd : Bool), DataW.TrodAll enc P W' b sp hd f.resultTypes.toList (v.resultList f.resultTypes.size) (s.fn H (ds ++ gs)).results [])
  (hargs : ∀ sp : Nat → Bool, (∀ p ∈ before, sp p.block = true) → DataW.TrodAll enc P W' 0 sp true f.params.toList args.toList (s.fn H (ds ++ gs)).args pa)
  (hvars : ∀ sp : Nat → Bool, (∀ p ∈ before, sp p.block = true) → DataW.TrodVars enc P W' sp s.vars (s.fn H (ds ++ gs)).vars pv)
  (hps : before = pa ++ pv) (hb : Below W.heap.size W W')
  (hok : ∀ (j : Nat) (t : TypeId) (r : Value), f.resultTypes[j]? = some t → (v.resultList f.resultTypes.size)[j]? = some r → Value.okWide P W' .any 0 t r) :
  s.post enc P f apart fresh handsOn again W args v W' := by
 have hlt : ∀ p ∈ before, p.block < W.heap.size := fun p hp => hW.lt p hp
 have hold : ∀ p ∈ before, (fun b => decide (b < W.heap.size)) p.block = true := fun p hp => by simpa using hlt p hp
 refine ⟨ds, gs, before, [], pa, pv, hW, hres _ _ _, hargs _ hold, hvars _ hold, World.keptBut_mono (fun p hp => ⟨hp, ?_⟩) (hb.frame (· ∈ before)), fun _ => ?_⟩
 ·rw [hps, List.mem_append] at hp
  exact Or.inr hp
 ·obtain ⟨_, _, _, _, _, hz, hn⟩ := hW
  refine ⟨hok, _, _, ([] ++ pa) ++ pv, ⟨[] ++ pa, pv, trodAll_append (hargs _ (fun _ _ => rfl)) (hres _ _ _), hvars _ (fun _ _ => rfl), rfl, ?_, ?_⟩, ?_⟩
  ·intro b off hp
   have hin : MemPlace.cell b off ∈ before := by rw [hps]; simpa using hp
   rw [hb.frozen (hlt _ hin)]
   exact hz b off hin
  ·intro ha
   have := hn ha
   rw [hps] at this
   simpa using this
  ·intro p hp _
   rw [hps]
   simpa using hp
end
section
variable {H : Type} {enc : TypeId × Value → H} {w : World} {base : Nat} {held : Bool}
theorem spot_none {a : Addr} {v : Value} (h : w.cell? a = some v) : a = ⟨a.block, a.off, none⟩ ∧ a.block < w.heap.size := by
 refine ⟨?_, World.block_lt_of_cell? w a h⟩
 obtain ⟨b, o, s⟩ := a
 cases s with
 | none => rfl
 | some n =>
  exfalso
  unfold World.cell? at h
  split at h <;> simp at h
theorem sl_of {a : Addr} {len cap sz : Nat} {rows : List (List Value)} (hsz : 0 < sz) (hr : rows.length = len) (hl : len ≤ cap) (hm : cap ≤ maxLen) (h : ∀ i j, i < cap → j < sz → ∃ v, w.cell? (a.add (i * sz + j)) = some v ∧ (i < len → v = (rows.getD i []).getD j undef)) : Sl w sz (.slice (some a) len cap) rows := by
 subst hr
 refine ⟨some a, cap, rfl, hl, hm, ?_⟩
 rcases Nat.eq_zero_or_pos cap with h0 | h0
 ·exact .inl h0
 ·obtain ⟨v0, hv0, _⟩ := h 0 0 h0 hsz
  rw [Nat.zero_mul, Nat.zero_add, show a.add 0 = a by simp [Addr.add]] at hv0
  obtain ⟨ha, hb⟩ := spot_none hv0
  obtain ⟨b, o, s⟩ := a
  simp only [Addr.mk.injEq, true_and] at ha
  subst ha
  refine .inr ⟨b, o, rfl, hb, fun i j hi hj => ?_⟩
  obtain ⟨v, hv, he⟩ := h i j (by omega) hj
  rw [← he hi, ← hv]
  congr 1
  unfold Addr.add
  split
  ·rename_i h0
   rw [Nat.add_assoc, h0, Nat.add_zero]
  ·rw [Nat.add_assoc]
instance : Inhabited Iv := ⟨⟨⟨#[]⟩, ⟨#[]⟩, 0, 0⟩⟩
set_option maxRecDepth 100000 in
theorem iv_cells {n : Nat} {cs : List Value} {x : DataW H × List MemPlace} (h : DataW.trod enc Tryz.prog w base (fun _ => true) held n 46 cs = some x) : ∃ y : Iv, cs = y.row := by
 have hu := Tryz.underlying46
 obtain ⟨ys, m, -, -, hlen, hyl, hf⟩ := DataW.trod_struct hu h
 have hl4 : cs.length = 4 := hlen.trans (by kernel_rfl)
 match cs, hl4 with
 | [c0, c1, c2, c3], _ =>
  have hyl4 : ys.length = 4 := hyl
  match ys, hyl4 with
  | [y0, y1, y2, y3], _ =>
   have g0 : DataW.trod enc Tryz.prog w base (fun _ => true) held m 23 (([c0, c1, c2, c3].drop 0).take (Tryz.prog.cellsOf 23)) = [y0, y1, y2, y3][0]? := hf 0 _ rfl
   have g1 : DataW.trod enc Tryz.prog w base (fun _ => true) held m 23 (([c0, c1, c2, c3].drop 1).take (Tryz.prog.cellsOf 23)) = [y0, y1, y2, y3][1]? := hf 1 _ rfl
   have g2 : DataW.trod enc Tryz.prog w base (fun _ => true) held m 3 (([c0, c1, c2, c3].drop 2).take (Tryz.prog.cellsOf 3)) = [y0, y1, y2, y3][2]? := hf 2 _ rfl
   have g3 : DataW.trod enc Tryz.prog w base (fun _ => true) held m 3 (([c0, c1, c2, c3].drop 3).take (Tryz.prog.cellsOf 3)) = [y0, y1, y2, y3][3]? := hf 3 _ rfl
   rw [show Tryz.prog.cellsOf 23 = 1 by kernel_rfl] at g0 g1
   rw [show Tryz.prog.cellsOf 3 = 1 by kernel_rfl] at g2 g3
   simp only [List.drop_zero, List.drop_succ_cons, List.take_succ_cons, List.take_zero, List.getElem?_cons_zero, List.getElem?_cons_succ] at g0 g1 g2 g3
   obtain ⟨s0, e0, -⟩ := DataW.trod_string Tryz.underlying23 g0
   obtain ⟨s1, e1, -⟩ := DataW.trod_string Tryz.underlying23 g1
   obtain ⟨z2, e2, -⟩ := DataW.trod_int Tryz.underlying3 g2
   obtain ⟨z3, e3, -⟩ := DataW.trod_int Tryz.underlying3 g3
   simp only [List.cons.injEq, and_true] at e0 e1 e2 e3
   exact ⟨⟨s0, s1, z2, z3⟩, by rw [e0, e1, e2, e3]; rfl⟩
set_option maxRecDepth 100000 in
theorem ivs_of_trod {v : Value} {r : Reach} {b0 : Nat} {d : DataW H} {p : List MemPlace} (hv : Value.okWide Tryz.prog w r b0 22 v) (h : DataW.Trod enc Tryz.prog w base (fun _ => true) held 22 v d p) :
  ∃ xs : List Iv, Ivs w v xs := by
 obtain ⟨a, len, cap, rfl⟩ := okWide_slice Tryz.underlying22 hv
 obtain ⟨fuel, hf⟩ := h
 rcases Go.Deep.open_slice Tryz.underlying22 hf with ⟨hc, _⟩ | ⟨a, len, cap, m, n, D, Pl, hc, hb, hl, hm, hmm, _, hx⟩
 ·simp [Value.cells] at hc
  obtain ⟨rfl, rfl, rfl⟩ := hc
  exact ⟨[], Sl.nil w 4⟩
 ·simp [Value.cells] at hc
  obtain ⟨rfl, rfl, rfl⟩ := hc
  simp only [if_true] at hmm
  have hmm' := hmm.symm
  subst hmm'
  have h4 : Tryz.prog.cellsOf 46 = 4 := by kernel_rfl
  obtain ⟨N, hN⟩ := Deep.choose_lt (α := Iv) (p := fun i y => ∀ j, j < 4 → w.cell? (a.add (i * 4 + j)) = y.row[j]?) (fun i hi => by
   obtain ⟨cs, hcs, ht⟩ := hx i hi
   obtain ⟨y, rfl⟩ := iv_cells ht
   rw [h4] at hcs
   obtain ⟨-, -, hat⟩ := World.cells?_some hcs
   exact ⟨y, fun j hj => by rw [← hat j hj, Go.Deep.add_add]⟩)
  refine ⟨(List.range len).map N, ?_⟩
  show Sl w 4 _ _
  refine sl_of (by omega) (by simp) hl hm fun i j hi hj => ?_
  have hj4 : j < (N i).row.length := hj
  refine ⟨(N i).row[j], (hN i hi j hj).trans (List.getElem?_eq_getElem hj4), fun hil => ?_⟩
  simp [hil, hj4]
end
end Go.Proofs.YtacihodamichhaaGreatDoor
namespace Go.Proofs.YtacihodamichhaaGreatDoor
open Go.RowKit
set_option maxHeartbeats 4000000 in
theorem isingle_ok (n : ByteArray) (w : World) (hn : n.size ≤ 60) (h : errL n.data.toList = 0) : Calls Tryz.prog 25 #[.string n] w (RetP (fun v w' => ∃ b, v = .tuple #[.slice (some ⟨b, 0, none⟩) 1 1, .int .i64 0] ∧ Blk w' b #[.string n, .string n, .int .i64 1, .int .i64 1] 46) w) := by
 have H := hI (read_g n w hn)
 unfold RdPost at H
 rw [h] at H
 clear h
 go_enter Tryz.func25, Tryz.ntmps25
 go_wp2_with (go_at_call 63; refine (H.out).mono ?_; rintro e w1 ⟨v1, rfl, ⟨x, a, k, c, y, a', m, e', rfl, -, -, -⟩, hb1⟩; have Hb1 := hI hb1; clear hb1)
 go_ret2
 exact ⟨_, rfl, ⟨_, rfl, by have hb := Blk.new (w1.alloc (.cells #[.bool x, .slice a k c, .bool y, .slice a' m e'] 77)) #[.string n, .string n, .int .i64 1, .int .i64 1] 46; simpa using hb⟩, Hb1.out.alloc Hb1.out.size _ |>.alloc (by simp; exact Nat.le_succ_of_le Hb1.out.size) _⟩
set_option maxHeartbeats 4000000 in
theorem isingle_err (n : ByteArray) (w : World) (hn : n.size ≤ 60) (h : errL n.data.toList ≠ 0) : Calls Tryz.prog 25 #[.string n] w (Ret (.tuple #[.slice none 0 0, .int .i64 (errL n.data.toList)]) w) := by
 have H := hI (read_g n w hn)
 unfold RdPost at H
 have hc : (errL n.data.toList != 0) = true := by rw [bne_iff_ne]; exact h
 generalize errL n.data.toList = code at *
 clear h
 go_enter Tryz.func25, Tryz.ntmps25
 go_wp2_with (go_at_call 63; refine (H.out).mono ?_; rintro e w1 ⟨v1, rfl, ⟨x, a, k, c, y, a', m, e', rfl, -, -, -⟩, hb1⟩; have Hb1 := hI hb1; clear hb1)
 go_ret2
 exact ⟨rfl, Hb1.out.alloc Hb1.out.size _⟩
end Go.Proofs.YtacihodamichhaaGreatDoor
namespace Go.Proofs.YtacihodamichhaaGreatDoor
open Go.RowKit
def hasB (xs : List Iv) (n : ByteArray) : Bool := (xs.map Iv.cuts).any fun q => inP q ⟨0, n, -1⟩ ⟨0, n, 1⟩
def ivOne (n : ByteArray) : Iv := ⟨n, n, 1, 1⟩
theorem ivOne_err {n : ByteArray} (h : errL n.data.toList = 0) : ivErr (ivOne n) = 0 := by
 unfold ivErr ivOne
 dsimp only
 rw [if_neg (by decide), if_neg]
 ·unfold endErr
  rw [if_neg (by decide)]
  exact h
 ·unfold endErr
  rw [if_neg (by decide)]
  simpa using h
theorem ivOne_low (n : ByteArray) : (ivOne n).low = ⟨0, n, -1⟩ := rfl
theorem ivOne_high (n : ByteArray) : (ivOne n).high = ⟨0, n, 1⟩ := rfl
set_option maxHeartbeats 8000000 in
theorem icontains_ok (v : Value) (xs : List Iv) (n : ByteArray) (w : World) (h : Ivs w v xs) (hs : ∀ x ∈ xs, x.short) (he : setErr xs = 0) (hlen : xs.length < 100000) (hn : n.size ≤ 60) (hr : errL n.data.toList = 0) :
  Calls Tryz.prog 40 #[v, .string n] w (Ret (.tuple #[.bool (hasB xs n), .int .i64 0]) w) := by
 have H := hI (parts_g v xs w h hs)
 unfold PartsG at H
 rw [he] at H
 have HS := hI (fun w' => isingle_ok n w' hn hr)
 have HV := hI (fun w' => parse_ivg (ivOne n) w' ⟨hn, hn⟩)
 unfold IvG at HV
 rw [ivOne_err hr, ivOne_low, ivOne_high] at HV
 unfold ivOne Iv.agg at HV
 dsimp only at HV
 have Hlen := hI hlen
 obtain ⟨E, hE⟩ : ∃ E, hasB xs n = E := ⟨_, rfl⟩
 have HE := hI hE
 rw [hE]
 clear h hs he hr hn hlen hE
 go_enter Tryz.func40, Tryz.ntmps40
 go_wp2_with (first
  | (go_at_call 56; refine (H.out).mono ?_; rintro e w1 ⟨⟨v1, rfl, hv1, -⟩, hb1⟩; obtain ⟨ap, cp, ps, rfl, hps, hcuts⟩ := hv1 rfl; have Hps := hI hps; have Hcuts := hI hcuts; have Hb1 := hI hb1; clear hv1 hps hcuts hb1)
  | (go_at_call 25; refine (HS.out _).mono ?_; rintro e w2 ⟨v2, rfl, ⟨bs, rfl, hbs⟩, hb2⟩; obtain ⟨⟨r0, r1, r2, r3⟩, -⟩ := blk4v hbs; have Hb2 := hI (Hb1.out.via hb2 Hb1.out.size); have Hps2 := hI (Hps.out.mono hb2); clear hbs hb2)
  | (go_at_call 72; refine (HV.out _).mono ?_; rintro e w3 ⟨v3, rfl, ⟨k1, k2, rfl, hk1, hk2, hcc⟩, hb3⟩; obtain ⟨⟨b1, s1, d1⟩, x1, a1, n1, c1, y1, e1, m1, l1⟩ := k1; obtain ⟨⟨b2, s2, d2⟩, x2, a2, n2, c2, y2, e2, m2, l2⟩ := k2; have Hcc := hI (hcc (by first | rfl | trivial)); have Hb3 := hI (Hb2.out.via hb3 Hb2.out.size); have Hps3 := hI (Hps2.out.mono hb3); have Hkk := hI (And.intro hk1 hk2); clear hk1 hk2 hcc hb3; unfold gpagg)
  | (go_at_call 97; refine (icontainsf_any _ ps ⟨⟨b1, s1, d1⟩, x1, a1, n1, c1, y1, e1, m1, l1⟩ ⟨⟨b2, s2, d2⟩, x2, a2, n2, c2, y2, e2, m2, l2⟩ w3.heap.size _ (Hps3.out.mono (below1 w3 (.cells #[.int .i64 b1, .string s1, .int .i64 d1, .bool x1, .slice a1 n1 c1, .bool y1, .slice e1 m1 l1, .int .i64 b2, .string s2, .int .i64 d2, .bool x2, .slice a2 n2 c2, .bool y2, .slice e2 m2 l2] 84))) (by have := congrArg List.length Hcuts.out; rw [List.length_map, List.length_map] at this; have := Hlen.out; omega) (Blk.new w3 _ _) (Hkk.out.1.mono (below1 w3 (.cells #[.int .i64 b1, .string s1, .int .i64 d1, .bool x1, .slice a1 n1 c1, .bool y1, .slice e1 m1 l1, .int .i64 b2, .string s2, .int .i64 d2, .bool x2, .slice a2 n2 c2, .bool y2, .slice e2 m2 l2] 84))) (Hkk.out.2.mono (below1 w3 (.cells #[.int .i64 b1, .string s1, .int .i64 d1, .bool x1, .slice a1 n1 c1, .bool y1, .slice e1 m1 l1, .int .i64 b2, .string s2, .int .i64 d2, .bool x2, .slice a2 n2 c2, .bool y2, .slice e2 m2 l2] 84)))).mono ?_; rintro e w4 ⟨rfl, hb4⟩; have Hb4 := hI (hb4); clear hb4))
 go_ret2
 exact ⟨by
  rw [← HE.out]
  have hh : (ps.any fun g => inP g.cuts (GC.c ⟨⟨b1, s1, d1⟩, x1, a1, n1, c1, y1, e1, m1, l1⟩) (GC.c ⟨⟨b2, s2, d2⟩, x2, a2, n2, c2, y2, e2, m2, l2⟩)) = hasB xs n := by
   unfold hasB
   rw [← Hcuts.out, List.any_map, Hcc.out.1, Hcc.out.2]
   rfl
  rw [← hh]; rfl, Hb3.out.via (bw_via (below1 w3 (.cells #[.int .i64 b1, .string s1, .int .i64 d1, .bool x1, .slice a1 n1 c1, .bool y1, .slice e1 m1 l1, .int .i64 b2, .string s2, .int .i64 d2, .bool x2, .slice a2 n2 c2, .bool y2, .slice e2 m2 l2] 84)) Hb4.out) Hb3.out.size⟩
set_option maxHeartbeats 4000000 in
theorem icontains_num (v : Value) (xs : List Iv) (n : ByteArray) (w : World) (h : Ivs w v xs) (hs : ∀ x ∈ xs, x.short) (he : setErr xs = 0) (hn : n.size ≤ 60) (hr : errL n.data.toList ≠ 0) :
  Calls Tryz.prog 40 #[v, .string n] w (Ret (.tuple #[.bool false, .int .i64 (errL n.data.toList)]) w) := by
 have H := hI (parts_g v xs w h hs)
 unfold PartsG at H
 rw [he] at H
 have HS := hI (fun w' => isingle_err n w' hn hr)
 have hc : (errL n.data.toList != 0) = true := by rw [bne_iff_ne]; exact hr
 generalize errL n.data.toList = code at *
 clear h hs he hr hn
 go_enter Tryz.func40, Tryz.ntmps40
 go_wp2_with (first
  | (go_at_call 56; refine (H.out).mono ?_; rintro e w1 ⟨⟨v1, rfl, hv1, -⟩, hb1⟩; obtain ⟨ap, cp, ps, rfl, -, -⟩ := hv1 rfl; have Hb1 := hI hb1; clear hv1 hb1)
  | (go_at_call 25; refine (HS.out _).mono ?_; rintro e w2 ⟨rfl, hb2⟩; have Hb2 := hI (Hb1.out.via hb2 Hb1.out.size); clear hb2))
 go_ret2
 exact ⟨rfl, Hb2.out⟩
end Go.Proofs.YtacihodamichhaaGreatDoor
namespace Go.Proofs.YtacihodamichhaaGreatDoor
open Go.RowKit
theorem stA {wr w : World} (z : Array Value) (T : TypeId) (h : Hid (Below wr.heap.size wr w)) : ∃ w' b, w.alloc (.cells z T) = w' ∧ w.heap.size = b ∧ Hid (Below wr.heap.size wr w') ∧ Hid (Blk w' b z T) ∧ Hid (wr.heap.size ≤ b) :=
 ⟨_, _, rfl, rfl, hI (bwA h.out _), hI (Blk.new w z T), hI h.out.size⟩
theorem stA2 {wr w : World} {o : Nat} {zo : Array Value} {To : TypeId} (z : Array Value) (T : TypeId) (h : Hid (Below wr.heap.size wr w)) (ho : Hid (Blk w o zo To)) : ∃ w' b, w.alloc (.cells z T) = w' ∧ w.heap.size = b ∧ Hid (Below wr.heap.size wr w') ∧ Hid (Blk w' b z T) ∧ Hid (wr.heap.size ≤ b) ∧ Hid (Blk w' o zo To) ∧ Hid (o ≠ b) :=
 ⟨_, _, rfl, rfl, hI (bwA h.out _), hI (Blk.new w z T), hI h.out.size, hI (ho.out.old _), hI (Nat.ne_of_lt ho.out.lt)⟩
theorem stS {wr w : World} {b o : Nat} {x y z : Value} {T To : TypeId} {zo : Array Value} (u0 u1 u2 : Value) (h : Hid (Below wr.heap.size wr w)) (hb : Hid (Blk w b #[x, y, z] T)) (hg : Hid (wr.heap.size ≤ b)) (ho : Hid (Blk w o zo To)) (hne : o ≠ b) :
  ∃ w', ((w.setCell ⟨b, 0, none⟩ u0).setCell ⟨b, 1, none⟩ u1).setCell ⟨b, 2, none⟩ u2 = w' ∧ Hid (Below wr.heap.size wr w') ∧ Hid (Blk w' b #[u0, u1, u2] T) ∧ Hid (Blk w' o zo To) :=
 ⟨_, rfl, hI (below_put3 u0 u1 u2 h.out hg.out), hI (Blk.put3 u0 u1 u2 hb.out), hI (Blk.off3 u0 u1 u2 ho.out hne)⟩
theorem stC {wr w w' : World} (h : Hid (Below wr.heap.size wr w)) (k : Below w.heap.size w w') : Hid (Below wr.heap.size wr w') := hI (bw_via h.out k)
theorem stB {w w' : World} {o : Nat} {zo : Array Value} {To : TypeId} (h : Hid (Blk w o zo To)) (k : Below w.heap.size w w') : Hid (Blk w' o zo To) := hI (h.out.below k)
end Go.Proofs.YtacihodamichhaaGreatDoor
