/-
  Parts of the proof.
-/
import Derived.Test.YtacihodamichhaaGreatDoorU45
import Derived.Test.YtacihodamichhaaGreatDoorU46
namespace Go.Proofs.YtacihodamichhaaGreatDoor
open Go.RowKit
theorem ENm : ElemTy 27 23 1 16 := ⟨Tryz.underlying27, by kernel_rfl⟩
theorem own_nums {w : World} {B n : Nat} {v : Value} {L : List ByteArray} (h : w.ownsRow B 23 1 v n (L.map Value.string)) : Strs w v L := by
 have h' : w.ownsRow B 23 1 v n (((L.map Value.string).map c1).flatten) := by
  have he : ∀ l : List Value, (l.map c1).flatten = l := fun l => by
   induction l with
   | nil => rfl
   | cons x l ih => rw [List.map_cons, List.flatten_cons, ih]; rfl
  rw [he]; exact h
 exact Sl.own h' (fun r hr => by obtain ⟨p, _, rfl⟩ := List.mem_map.1 hr; rfl) (by decide)
set_option maxHeartbeats 8000000 in
set_option maxRecDepth 10000 in
theorem iends_g (v : Value) (xs : List Iv) (w : World) (h : Ivs w v xs) (hs : ∀ x ∈ xs, x.short) (he : setErr xs = 0) (hn : xs.length ≤ 256) :
  Calls Tryz.prog 16 #[v] w (RetP (fun r w' => ∃ a c, ∃ L : List ByteArray, r = .tuple #[.slice a L.length c, .int .i64 0] ∧ Strs w' (.slice a L.length c) L ∧ L = endsL (xs.map Iv.cuts) ∧ L.length ≤ 1000) w) := by
 have HP := hI (ends_g v xs w h hs he hn)
 obtain ⟨E, hE⟩ : ∃ E, endsL (xs.map Iv.cuts) = E := ⟨_, rfl⟩
 rw [hE] at HP ⊢
 clear h hs he hE
 go_enter Tryz.func16, Tryz.ntmps16
 go_wp2_with (go_at_call 55; refine (HP.out).mono ?_; rintro e w1 ⟨v1, rfl, ⟨a, c, O, rfl, hO, hnum, hlen⟩, hb1⟩; have HO := hI hO; have Hnum := hI hnum; have Hlen := hI hlen; have Hb1 := hI hb1; clear hO hnum hlen hb1)
 obtain ⟨N, hN⟩ : ∃ N, O.length = N := ⟨_, rfl⟩
 have Hln := hI hN
 rw [hN] at HO Hlen
 have hn1 := Hlen.out
 have HN := hI (World.ownsRow_nil w1 w1.heap.size 23 1)
 try rw [hN]
 clear hN HP
 go_loopw [16, 6] (fun i out wr => ∃ k : Nat, k ≤ N ∧ i = .int .i64 (k : Int) ∧ Below w1.heap.size w1 wr ∧ wr.ownsRow w1.heap.size 23 1 out k ((numS (O.take k)).map Value.string)) (fun i _ _ => N - (intOf i).toNat)
 case atStart => exact ⟨0, by omega, rfl, Below.refl _ _, HN.out⟩
 case round =>
  obtain ⟨k, hk, rfl, hbw, hown⟩ := hrel
  have Hbw := hI hbw
  have Hown := hI hown
  have hkw : IntKind.i64.wrap ((k : Int) + 1) = (k : Int) + 1 := IntWalk.i64_in _ (by omega)
  rcases Nat.lt_or_ge k N with hlt | hge
  ·obtain ⟨b, off, q, rfl, hq, hqok, e0, e1, e2, e3, e4, e5, e6⟩ := HO.out.at hbw hlt
   have hkn : (k : Int) < (N : Int) := by omega
   have hk0 : (0 : Int) ≤ (k : Int) := Int.natCast_nonneg _
   have Hxc := hI (show (numS (O.take (k + 1))).map Value.string = (numS (O.take k)).map Value.string ++ [.string q.c.s] by unfold numS; rw [take_snoc1 hq, List.map_append, List.map_append]; rfl)
   have Hb4 := hI (bwA (bwA Hbw.out (.cells #[.int .i64 q.c.b, .string q.c.s, .int .i64 q.c.d, .bool q.x, .slice q.a q.n q.cap, .bool q.y, .slice q.e q.m q.cap2] 79)) (.cells #[.string q.c.s] 23))
   have Hown4 := hI (own_below Hown.out (below2 wr (.cells #[.int .i64 q.c.b, .string q.c.s, .int .i64 q.c.d, .bool q.x, .slice q.a q.n q.cap, .bool q.y, .slice q.e q.m q.cap2] 79) (.cells #[.string q.c.s] 23)))
   have Hblk := hI (show Blk ((wr.alloc (.cells #[.int .i64 q.c.b, .string q.c.s, .int .i64 q.c.d, .bool q.x, .slice q.a q.n q.cap, .bool q.y, .slice q.e q.m q.cap2] 79)).alloc (.cells #[.string q.c.s] 23)) (wr.heap.size + 1) #[.string q.c.s] 23 from by
    have h := Blk.new (wr.alloc (.cells #[.int .i64 q.c.b, .string q.c.s, .int .i64 q.c.d, .bool q.x, .slice q.a q.n q.cap, .bool q.y, .slice q.e q.m q.cap2] 79)) #[.string q.c.s] 23
    simpa using h)
   obtain ⟨u0, u1, u2, u3, u4, u5, u6⟩ := cells7g (Blk.new wr #[.int .i64 q.c.b, .string q.c.s, .int .i64 q.c.d, .bool q.x, .slice q.a q.n q.cap, .bool q.y, .slice q.e q.m q.cap2] 79) (Below.refl _ _)
   clear hq hqok hbw hown
   go_wp2_with (at_builtin; (refine wpAppL ENm (by decide) [.string q.c.s] rfl _ _ rfl w1.heap.size _ _ _ _ rfl rfl Hown4.out Hblk.out rfl (one1 _ rfl) (by omega) (by decide) Hb4.out.size ?_; intro g5 cap5 w5 hown' hg' hor hgl; have Hb5 := hI (Below.grown Hb4.out hg' Hb4.out.size (fun q hq => (Hown4.out.lt q hq).1)); have Hown5 := hI hown'; clear hown' hg' hor hgl))
   go_roundw
   case rel => exact ⟨k + 1, by omega, by go_num, Hb5.out, by rw [Hxc.out]; exact Hown5.out⟩
   case measure => simp [intOf] <;> omega
  ·obtain rfl : k = N := by omega
   obtain ⟨ao, co, rfl, hco, hcm⟩ := own_open hown
   have HSt := hI (own_nums Hown.out)
   clear hbw hown
   go_wp2_with fail
   go_ret2
   have hNl := (show (numS O).length = O.length by unfold numS; rw [List.length_map]).trans Hln.out
   have ht := HSt.out
   rw [List.take_of_length_le (Nat.le_of_eq Hln.out)] at ht
   exact ⟨_, rfl, ⟨ao, co, numS O, by rw [hNl]; rfl, by rw [hNl]; exact ht, Hnum.out, by rw [hNl]; omega⟩, bw_via Hb1.out Hbw.out⟩
end Go.Proofs.YtacihodamichhaaGreatDoor
namespace Go.Proofs.YtacihodamichhaaGreatDoor
open Go.RowKit
def inP (q : Cut × Cut) (a b : Cut) : Bool := decide (cmpG q.1 a ≤ 0) && decide (cmpG b q.2 ≤ 0)
set_option maxHeartbeats 8000000 in
theorem icontains1 (k l p q : GC) (B : Nat) (w : World) (hB : Blk w B #[.int .i64 p.c.b, .string p.c.s, .int .i64 p.c.d, .bool p.x, .slice p.a p.n p.cap, .bool p.y, .slice p.e p.m p.cap2, .int .i64 q.c.b, .string q.c.s, .int .i64 q.c.d, .bool q.x, .slice q.a q.n q.cap, .bool q.y, .slice q.e q.m q.cap2] 84) (hk : k.ok w) (hl : l.ok w) (hp : p.ok w) (hq : q.ok w) :
  Calls Tryz.prog 98 #[gpagg k l, .pointer (some ⟨B, 0, none⟩)] w (Ret (.bool (inP (k.c, l.c) p.c q.c)) w) := by
 have H1 := hI (fun w' (hb : Below w.heap.size w w') => cutcmp_g k p w' (hk.mono hb) (hp.mono hb))
 have H2 := hI (fun w' (hb : Below w.heap.size w w') => cutcmp_g q l w' (hq.mono hb) (hl.mono hb))
 have hT : inP (k.c, l.c) p.c q.c = (decide (cmpG k.c p.c ≤ 0) && decide (cmpG q.c l.c ≤ 0)) := rfl
 unfold GC.agg at H1 H2
 generalize cmpG k.c p.c = R1 at *
 generalize cmpG q.c l.c = R2 at *
 have HB1 := hI (fun w' (hb : Below (w.alloc (.cells #[.int .i64 k.c.b, .string k.c.s, .int .i64 k.c.d, .bool k.x, .slice k.a k.n k.cap, .bool k.y, .slice k.e k.m k.cap2, .int .i64 l.c.b, .string l.c.s, .int .i64 l.c.d, .bool l.x, .slice l.a l.n l.cap, .bool l.y, .slice l.e l.m l.cap2] 84)).heap.size (w.alloc (.cells #[.int .i64 k.c.b, .string k.c.s, .int .i64 k.c.d, .bool k.x, .slice k.a k.n k.cap, .bool k.y, .slice k.e k.m k.cap2, .int .i64 l.c.b, .string l.c.s, .int .i64 l.c.d, .bool l.x, .slice l.a l.n l.cap, .bool l.y, .slice l.e l.m l.cap2] 84)) w') => cells14 (hB.old (.cells #[.int .i64 k.c.b, .string k.c.s, .int .i64 k.c.d, .bool k.x, .slice k.a k.n k.cap, .bool k.y, .slice k.e k.m k.cap2, .int .i64 l.c.b, .string l.c.s, .int .i64 l.c.d, .bool l.x, .slice l.a l.n l.cap, .bool l.y, .slice l.e l.m l.cap2] 84)) hb)
 have HB2 := hI (fun w' (hb : Below (w.alloc (.cells #[.int .i64 k.c.b, .string k.c.s, .int .i64 k.c.d, .bool k.x, .slice k.a k.n k.cap, .bool k.y, .slice k.e k.m k.cap2, .int .i64 l.c.b, .string l.c.s, .int .i64 l.c.d, .bool l.x, .slice l.a l.n l.cap, .bool l.y, .slice l.e l.m l.cap2] 84)).heap.size (w.alloc (.cells #[.int .i64 k.c.b, .string k.c.s, .int .i64 k.c.d, .bool k.x, .slice k.a k.n k.cap, .bool k.y, .slice k.e k.m k.cap2, .int .i64 l.c.b, .string l.c.s, .int .i64 l.c.d, .bool l.x, .slice l.a l.n l.cap, .bool l.y, .slice l.e l.m l.cap2] 84)) w') => cells14 (Blk.new w #[.int .i64 k.c.b, .string k.c.s, .int .i64 k.c.d, .bool k.x, .slice k.a k.n k.cap, .bool k.y, .slice k.e k.m k.cap2, .int .i64 l.c.b, .string l.c.s, .int .i64 l.c.d, .bool l.x, .slice l.a l.n l.cap, .bool l.y, .slice l.e l.m l.cap2] 84) hb)
 obtain ⟨r0, r1, r2, r3, r4, r5, r6, r7, r8, r9, r10, r11, r12, r13⟩ := HB1.out _ (Below.refl _ _)
 obtain ⟨b0, b1, b2, b3, b4, b5, b6, b7, b8, b9, b10, b11, b12, b13⟩ := HB2.out _ (Below.refl _ _)
 have HR := hI (below1 w (.cells #[.int .i64 k.c.b, .string k.c.s, .int .i64 k.c.d, .bool k.x, .slice k.a k.n k.cap, .bool k.y, .slice k.e k.m k.cap2, .int .i64 l.c.b, .string l.c.s, .int .i64 l.c.d, .bool l.x, .slice l.a l.n l.cap, .bool l.y, .slice l.e l.m l.cap2] 84))
 rw [hT]
 clear hB hk hl hp hq hT
 unfold gpagg
 by_cases h1 : R1 ≤ 0
 ·have hd1 : decide (R1 ≤ 0) = true := decide_eq_true h1
  rw [hd1, Bool.true_and]
  go_enter Tryz.func98, Tryz.ntmps98
  go_wp2_with (first
   | (have _t := Hw1; clear _t; go_at_call 73; refine (H2.out _ Hw1.out).mono ?_; rintro e w2 ⟨rfl, hb2⟩; have Hw2 := hI (bw_via Hw1.out hb2); clear hb2)
   | (go_at_call 73; refine (H1.out _ HR.out).mono ?_; rintro e w1 ⟨rfl, hb1⟩; have Hw1 := hI (bw_via HR.out hb1); obtain ⟨r0, r1, r2, r3, r4, r5, r6, r7, r8, r9, r10, r11, r12, r13⟩ := HB1.out _ hb1; obtain ⟨b0, b1, b2, b3, b4, b5, b6, b7, b8, b9, b10, b11, b12, b13⟩ := HB2.out _ hb1; clear hb1))
  go_ret
  exact ⟨rfl, Hw2.out⟩
 ·have hd1 : decide (R1 ≤ 0) = false := decide_eq_false h1
  rw [hd1, Bool.false_and]
  go_enter Tryz.func98, Tryz.ntmps98
  go_wp2_with (go_at_call 73; refine (H1.out _ HR.out).mono ?_; rintro e w1 ⟨rfl, hb1⟩; have Hw1 := hI (bw_via HR.out hb1); clear hb1)
  go_ret
  exact ⟨rfl, Hw1.out⟩
set_option maxHeartbeats 8000000 in
theorem iindex_any (v : Value) (ps : List GP) (p q : GC) (B : Nat) (w : World) (h : GParts w v ps) (hn : ps.length < 1000000) (hB : Blk w B #[.int .i64 p.c.b, .string p.c.s, .int .i64 p.c.d, .bool p.x, .slice p.a p.n p.cap, .bool p.y, .slice p.e p.m p.cap2, .int .i64 q.c.b, .string q.c.s, .int .i64 q.c.d, .bool q.x, .slice q.a q.n q.cap, .bool q.y, .slice q.e q.m q.cap2] 84) (hp : p.ok w) (hq : q.ok w) :
  Calls Tryz.prog 136 #[v, .func (.func 98) #[] #[.pointer (some ⟨B, 0, none⟩)]] w (RetP (fun r _ => ∃ z : Int, r = .int .i64 z ∧ decide (0 ≤ z) = ps.any fun g => inP g.cuts p.c q.c) w) := by
 obtain ⟨a, c, rfl, hc1, hc2⟩ := h.open
 unfold maxLen at hc2
 have HX := hI h
 have HP := hI (And.intro hB (And.intro hp hq))
 obtain ⟨E, hE⟩ : ∃ E, (ps.any fun g => inP g.cuts p.c q.c) = E := ⟨_, rfl⟩
 rw [hE]
 have HE := hI hE
 clear h hB hp hq hE
 generalize hln : ps.length = n at *
 have Hln := hI hln
 clear hln
 go_enter Tryz.func136, Tryz.ntmps136
 go_wp2_with fail
 go_loopw [8] (fun i wr => ∃ k : Nat, k ≤ n ∧ i = .int .i64 (k : Int) ∧ Below w.heap.size w wr ∧ Hid (((ps.take k).any fun g => inP g.cuts p.c q.c) = false)) (fun i _ => n - (intOf i).toNat)
 case atStart => exact ⟨0, by omega, rfl, Below.refl _ _, rfl⟩
 case round =>
  obtain ⟨k, hk, rfl, hbw, hpre⟩ := hrel
  have Hbw := hI hbw
  have Hpre := hI hpre.out
  rcases Nat.lt_or_ge k n with hlt | hge
  ·obtain ⟨b, off, g, rfl, hx, hgok, e0, e1, e2, e3, e4, e5, e6, e7, e8, e9, e10, e11, e12, e13⟩ := HX.out.at hbw hlt
   have hkn : (k : Int) < (n : Int) := by omega
   have hk0 : (0 : Int) ≤ (k : Int) := Int.natCast_nonneg _
   have hkw : IntKind.i64.wrap ((k : Int) + 1) = (k : Int) + 1 := IntWalk.i64_in _ (by omega)
   have H1 := hI (icontains1 g.l g.h p q B wr (HP.out.1.below hbw) hgok.1 hgok.2 (HP.out.2.1.mono hbw) (HP.out.2.2.mono hbw))
   unfold gpagg at H1
   have Hx := hI hx
   obtain ⟨Y, hY⟩ : ∃ Y, inP (g.l.c, g.h.c) p.c q.c = Y := ⟨_, rfl⟩
   rw [hY] at H1
   have HY := hI hY
   clear hbw hx hgok hY hpre
   cases Y with
   | true =>
    have Hfin := hI (show E = true by
     rw [← HE.out, List.any_eq_true]
     exact ⟨g, List.mem_of_getElem? Hx.out, HY.out⟩)
    go_wp2_with (go_at_call 98; refine (H1.out).mono ?_; rintro e w1 ⟨rfl, hb1⟩; have Hb1 := hI (Hbw.out.via hb1 Hbw.out.size); clear hb1)
    go_ret
    exact ⟨_, rfl, ⟨(k : Int), rfl, by rw [Hfin.out]; exact decide_eq_true hk0⟩, Hb1.out⟩
   | false =>
    have Hnx := hI (show ((ps.take (k + 1)).any fun g => inP g.cuts p.c q.c) = false by
     obtain ⟨hi, he⟩ := List.getElem?_eq_some_iff.1 Hx.out
     rw [List.take_succ_eq_append_getElem hi, he, List.any_append, Hpre.out, List.any_cons, List.any_nil]
     show (false || (inP (g.l.c, g.h.c) p.c q.c || false)) = false
     rw [HY.out]; rfl)
    go_wp2_with (go_at_call 98; refine (H1.out).mono ?_; rintro e w1 ⟨rfl, hb1⟩; have Hb1 := hI (Hbw.out.via hb1 Hbw.out.size); clear hb1)
    go_roundw
    case rel => exact ⟨k + 1, by omega, by go_num, Hb1.out, Hnx.out⟩
    case measure => simp [intOf] <;> omega
  ·obtain rfl : k = n := by omega
   have hkn : ¬ (k : Int) < (k : Int) := by omega
   have Hfin := hI (show E = false by
    have := Hpre.out
    rw [List.take_of_length_le (by rw [Hln.out]; exact Nat.le_refl _)] at this
    rw [← HE.out]; exact this)
   go_wp2_with fail
   go_ret
   exact ⟨_, rfl, ⟨-1, rfl, by rw [Hfin.out]; rfl⟩, Hbw.out⟩
set_option maxHeartbeats 2000000 in
theorem icontainsf_any (v : Value) (ps : List GP) (p q : GC) (B : Nat) (w : World) (h : GParts w v ps) (hn : ps.length < 1000000) (hB : Blk w B #[.int .i64 p.c.b, .string p.c.s, .int .i64 p.c.d, .bool p.x, .slice p.a p.n p.cap, .bool p.y, .slice p.e p.m p.cap2, .int .i64 q.c.b, .string q.c.s, .int .i64 q.c.d, .bool q.x, .slice q.a q.n q.cap, .bool q.y, .slice q.e q.m q.cap2] 84) (hp : p.ok w) (hq : q.ok w) :
  Calls Tryz.prog 97 #[v, .func (.func 98) #[] #[.pointer (some ⟨B, 0, none⟩)]] w (Ret (.bool (ps.any fun g => inP g.cuts p.c q.c)) w) := by
 have H := hI (iindex_any v ps p q B w h hn hB hp hq)
 generalize (ps.any fun g => inP g.cuts p.c q.c) = E at *
 clear h hB hp hq
 go_enter Tryz.func97, Tryz.ntmps97
 go_wp2_with (go_at_call 136; refine (H.out).mono ?_; rintro e w1 ⟨v1, rfl, ⟨z, rfl, hz⟩, hb1⟩; have Hz := hI hz; have Hb1 := hI hb1; clear hz hb1)
 go_ret
 exact ⟨by rw [← Hz.out]; rfl, Hb1.out⟩
end Go.Proofs.YtacihodamichhaaGreatDoor
namespace Go.Proofs.YtacihodamichhaaGreatDoor
open Go.RowKit
set_option maxHeartbeats 4000000 in
theorem isingle_ok (n : ByteArray) (w : World) (hn : n.size ≤ 60) (h : errL n.data.toList = 0) : Calls Tryz.prog 25 #[.string n] w (RetP (fun v w' => ∃ b, v = .tuple #[.slice (some ⟨b, 0, none⟩) 1 1, .int .i64 0] ∧ Blk w' b #[.string n, .string n, .int .i64 1, .int .i64 1] 46) w) := by
 have H := hI (read_g n w hn)
 unfold RdPost at H
 rw [h] at H
 clear h
 go_enter Tryz.func25, Tryz.ntmps25
 go_wp2_with (go_at_call 63; refine (H.out).mono ?_; rintro e w1 ⟨v1, rfl, ⟨x, a, k, c, y, a', m, e', rfl, -, -, -⟩, hb1⟩; have Hb1 := hI hb1; clear hb1)
 go_ret2
 exact ⟨_, rfl, ⟨_, rfl, by have hb := Blk.new (w1.alloc (.cells #[.bool x, .slice a k c, .bool y, .slice a' m e'] 77)) #[.string n, .string n, .int .i64 1, .int .i64 1] 46; simpa using hb⟩, Hb1.out.alloc Hb1.out.size _ |>.alloc (by simp; exact Nat.le_succ_of_le Hb1.out.size) _⟩
end Go.Proofs.YtacihodamichhaaGreatDoor
namespace Go.Proofs.YtacihodamichhaaGreatDoor
open Go.RowKit
def hasB (xs : List Iv) (n : ByteArray) : Bool := (xs.map Iv.cuts).any fun q => inP q ⟨0, n, -1⟩ ⟨0, n, 1⟩
def ivOne (n : ByteArray) : Iv := ⟨n, n, 1, 1⟩
theorem ivOne_err {n : ByteArray} (h : errL n.data.toList = 0) : ivErr (ivOne n) = 0 := by
 unfold ivErr ivOne
 dsimp only
 rw [if_neg (by decide), if_neg]
 ·unfold endErr
  rw [if_neg (by decide)]
  exact h
 ·unfold endErr
  rw [if_neg (by decide)]
  simpa using h
theorem ivOne_low (n : ByteArray) : (ivOne n).low = ⟨0, n, -1⟩ := rfl
theorem ivOne_high (n : ByteArray) : (ivOne n).high = ⟨0, n, 1⟩ := rfl
set_option maxHeartbeats 8000000 in
theorem icontains_ok (v : Value) (xs : List Iv) (n : ByteArray) (w : World) (h : Ivs w v xs) (hs : ∀ x ∈ xs, x.short) (he : setErr xs = 0) (hlen : xs.length < 100000) (hn : n.size ≤ 60) (hr : errL n.data.toList = 0) :
  Calls Tryz.prog 40 #[v, .string n] w (Ret (.tuple #[.bool (hasB xs n), .int .i64 0]) w) := by
 have H := hI (parts_g v xs w h hs)
 unfold PartsG at H
 rw [he] at H
 have HS := hI (fun w' => isingle_ok n w' hn hr)
 have HV := hI (fun w' => parse_ivg (ivOne n) w' ⟨hn, hn⟩)
 unfold IvG at HV
 rw [ivOne_err hr, ivOne_low, ivOne_high] at HV
 unfold ivOne Iv.agg at HV
 dsimp only at HV
 have Hlen := hI hlen
 obtain ⟨E, hE⟩ : ∃ E, hasB xs n = E := ⟨_, rfl⟩
 have HE := hI hE
 rw [hE]
 clear h hs he hr hn hlen hE
 go_enter Tryz.func40, Tryz.ntmps40
 go_wp2_with (first
  | (go_at_call 56; refine (H.out).mono ?_; rintro e w1 ⟨⟨v1, rfl, hv1, -⟩, hb1⟩; obtain ⟨ap, cp, ps, rfl, hps, hcuts⟩ := hv1 rfl; have Hps := hI hps; have Hcuts := hI hcuts; have Hb1 := hI hb1; clear hv1 hps hcuts hb1)
  | (go_at_call 25; refine (HS.out _).mono ?_; rintro e w2 ⟨v2, rfl, ⟨bs, rfl, hbs⟩, hb2⟩; obtain ⟨⟨r0, r1, r2, r3⟩, -⟩ := blk4v hbs; have Hb2 := hI (Hb1.out.via hb2 Hb1.out.size); have Hps2 := hI (Hps.out.mono hb2); clear hbs hb2)
  | (go_at_call 72; refine (HV.out _).mono ?_; rintro e w3 ⟨v3, rfl, ⟨k1, k2, rfl, hk1, hk2, hcc⟩, hb3⟩; obtain ⟨⟨b1, s1, d1⟩, x1, a1, n1, c1, y1, e1, m1, l1⟩ := k1; obtain ⟨⟨b2, s2, d2⟩, x2, a2, n2, c2, y2, e2, m2, l2⟩ := k2; have Hcc := hI (hcc (by first | rfl | trivial)); have Hb3 := hI (Hb2.out.via hb3 Hb2.out.size); have Hps3 := hI (Hps2.out.mono hb3); have Hkk := hI (And.intro hk1 hk2); clear hk1 hk2 hcc hb3; unfold gpagg)
  | (go_at_call 97; refine (icontainsf_any _ ps ⟨⟨b1, s1, d1⟩, x1, a1, n1, c1, y1, e1, m1, l1⟩ ⟨⟨b2, s2, d2⟩, x2, a2, n2, c2, y2, e2, m2, l2⟩ w3.heap.size _ (Hps3.out.mono (below1 w3 (.cells #[.int .i64 b1, .string s1, .int .i64 d1, .bool x1, .slice a1 n1 c1, .bool y1, .slice e1 m1 l1, .int .i64 b2, .string s2, .int .i64 d2, .bool x2, .slice a2 n2 c2, .bool y2, .slice e2 m2 l2] 84))) (by have := congrArg List.length Hcuts.out; rw [List.length_map, List.length_map] at this; have := Hlen.out; omega) (Blk.new w3 _ _) (Hkk.out.1.mono (below1 w3 (.cells #[.int .i64 b1, .string s1, .int .i64 d1, .bool x1, .slice a1 n1 c1, .bool y1, .slice e1 m1 l1, .int .i64 b2, .string s2, .int .i64 d2, .bool x2, .slice a2 n2 c2, .bool y2, .slice e2 m2 l2] 84))) (Hkk.out.2.mono (below1 w3 (.cells #[.int .i64 b1, .string s1, .int .i64 d1, .bool x1, .slice a1 n1 c1, .bool y1, .slice e1 m1 l1, .int .i64 b2, .string s2, .int .i64 d2, .bool x2, .slice a2 n2 c2, .bool y2, .slice e2 m2 l2] 84)))).mono ?_; rintro e w4 ⟨rfl, hb4⟩; have Hb4 := hI (hb4); clear hb4))
 go_ret2
 exact ⟨by
  rw [← HE.out]
  have hh : (ps.any fun g => inP g.cuts (GC.c ⟨⟨b1, s1, d1⟩, x1, a1, n1, c1, y1, e1, m1, l1⟩) (GC.c ⟨⟨b2, s2, d2⟩, x2, a2, n2, c2, y2, e2, m2, l2⟩)) = hasB xs n := by
   unfold hasB
   rw [← Hcuts.out, List.any_map, Hcc.out.1, Hcc.out.2]
   rfl
  rw [← hh]; rfl, Hb3.out.via (bw_via (below1 w3 (.cells #[.int .i64 b1, .string s1, .int .i64 d1, .bool x1, .slice a1 n1 c1, .bool y1, .slice e1 m1 l1, .int .i64 b2, .string s2, .int .i64 d2, .bool x2, .slice a2 n2 c2, .bool y2, .slice e2 m2 l2] 84)) Hb4.out) Hb3.out.size⟩
end Go.Proofs.YtacihodamichhaaGreatDoor
namespace Go.Proofs.YtacihodamichhaaGreatDoor
open Go.RowKit
theorem lo_ok {c : Cut} (h : RokC c) (hb : c.b ≠ 1) : (endErr (if c.b = 0 then c.s else ⟨#[]⟩) (if c.b = 0 then (if c.d = 1 then 0 else 1) else 2) = 0 ∧ (if c.b = 0 then c.s else (⟨#[]⟩ : ByteArray)).size ≤ 60 ∧ cutOf (if c.b = 0 then c.s else ⟨#[]⟩) (if c.b = 0 then (if c.d = 1 then 0 else 1) else 2) 1 = toP c) ∧ (0 : Int) ≤ (if c.b = 0 then (if c.d = 1 then 0 else 1) else 2) ∧ (if c.b = 0 then (if c.d = 1 then 0 else 1) else 2 : Int) ≤ 2 := by
 obtain ⟨b, s, d⟩ := c
 rcases h with ⟨h1, h2, h3, h4, h5⟩ | ⟨h1, h2, h3⟩
 ·dsimp only at h1 h2 h3 h4 h5 ⊢
  subst h1
  rw [if_pos rfl, if_pos rfl]
  rcases (show d = 0 ∨ d = 1 by omega) with rfl | rfl
  ·exact ⟨⟨h3, h2, rfl⟩, (by split <;> decide), (by split <;> decide)⟩
  ·exact ⟨⟨h3, h2, rfl⟩, (by split <;> decide), (by split <;> decide)⟩
 ·dsimp only at h1 h2 h3 hb ⊢
  obtain rfl : b = -1 := h1.resolve_left hb
  subst h2 h3
  exact ⟨⟨rfl, by decide, rfl⟩, by decide, by decide⟩
theorem hi_ok {c : Cut} (h : RokC c) (hb : c.b ≠ -1) : (endErr (if c.b = 0 then c.s else ⟨#[]⟩) (if c.b = 0 then (if c.d = 1 then 1 else 0) else 2) = 0 ∧ (if c.b = 0 then c.s else (⟨#[]⟩ : ByteArray)).size ≤ 60 ∧ cutOf (if c.b = 0 then c.s else ⟨#[]⟩) (if c.b = 0 then (if c.d = 1 then 1 else 0) else 2) (-1) = toP c) ∧ (0 : Int) ≤ (if c.b = 0 then (if c.d = 1 then 1 else 0) else 2) ∧ (if c.b = 0 then (if c.d = 1 then 1 else 0) else 2 : Int) ≤ 2 := by
 obtain ⟨b, s, d⟩ := c
 rcases h with ⟨h1, h2, h3, h4, h5⟩ | ⟨h1, h2, h3⟩
 ·dsimp only at h1 h2 h3 h4 h5 ⊢
  subst h1
  rw [if_pos rfl, if_pos rfl]
  rcases (show d = 0 ∨ d = 1 by omega) with rfl | rfl
  ·exact ⟨⟨h3, h2, rfl⟩, (by split <;> decide), (by split <;> decide)⟩
  ·exact ⟨⟨h3, h2, rfl⟩, (by split <;> decide), (by split <;> decide)⟩
 ·dsimp only at h1 h2 h3 hb ⊢
  obtain rfl : b = 1 := h1.resolve_right hb
  subst h2 h3
  exact ⟨⟨rfl, by decide, rfl⟩, by decide, by decide⟩
theorem rok_b {c : Cut} (h : RokC c) : -1 ≤ c.b ∧ c.b ≤ 1 := by rcases h with ⟨h, _⟩ | ⟨h | h, _⟩ <;> omega
theorem rok_far {c : Cut} (h : RokC c) (hb : c.b ≠ 0) : toP c = ⟨c.b, ⟨#[]⟩, 0⟩ := by
 rcases h with ⟨h, _⟩ | ⟨_, h2, _⟩
 ·exact absurd h hb
 ·unfold toP
  rw [if_neg hb, h2]
theorem low_b {x y : Cut} (hx : RokC x) (hy : RokC y) (h : ltR x y) : x.b ≠ 1 ∧ y.b ≠ -1 := by
 have h' : CG (toP x) (toP y) := h
 have a := rok_b hx; have b := rok_b hy
 rw [cg_iff] at h'
 constructor
 ·intro e
  have hyb : y.b = 1 := by
   rcases h' with h1 | ⟨h1, _⟩
   ·have h1 : x.b < y.b := h1
    omega
   ·have h1 : x.b = y.b := h1
    omega
  have e1 := rok_far hx (by omega); have e2 := rok_far hy (by omega)
  refine ltR_swk.irr x ?_
  unfold ltR at h ⊢
  rw [e2, hyb] at h
  rw [e1, e] at h ⊢
  exact h
 ·intro e
  have hxb : x.b = -1 := by
   rcases h' with h1 | ⟨h1, _⟩
   ·have h1 : x.b < y.b := h1
    omega
   ·have h1 : x.b = y.b := h1
    omega
  have e1 := rok_far hx (by omega); have e2 := rok_far hy (by omega)
  refine ltR_swk.irr x ?_
  unfold ltR at h ⊢
  rw [e2, e] at h
  rw [e1, hxb] at h ⊢
  exact h
theorem ivR_ok {r : RP} (h : OkR r) (hl : ltR r.1 r.2) : ivErr (ivR r) = 0 ∧ (ivR r).short ∧ (ivR r).low = toP r.1 ∧ (ivR r).high = toP r.2 := by
 obtain ⟨hb1, hb2⟩ := low_b h.1 h.2 hl
 obtain ⟨⟨a1, a2, a3⟩, a4, a5⟩ := lo_ok h.1 hb1
 obtain ⟨⟨b1, b2, b3⟩, b4, b5⟩ := hi_ok h.2 hb2
 refine ⟨?_, ⟨a2, b2⟩, a3, b3⟩
 unfold ivErr ivR
 dsimp only
 rw [if_neg (by omega), a1, if_neg (fun h => h rfl)]
 exact b1
theorem cuts_ivR {J : List RP} (hok : ∀ r ∈ J, OkR r) (hne : ∀ r ∈ J, ltR r.1 r.2) : (J.map ivR).map Iv.cuts = J.map fun r => (toP r.1, toP r.2) := by
 rw [List.map_map]
 refine List.map_congr_left fun r hr => ?_
 have := ivR_ok (hok r hr) (hne r hr)
 show (Iv.low _, Iv.high _) = _
 rw [this.2.2.1, this.2.2.2]
theorem errFrom_set : ∀ (J : List RP) (c : Option Cut), (∀ r ∈ J, OkR r) → IsSet ltR J → (∀ d, c = some d → ∀ r ∈ J, CG d (toP r.1)) → errFrom c (J.map ivR) = 0
 | [], c, _, _, _ => by cases c <;> rfl
 | r :: J, c, hok, hset, hc => by
  have hne := hset.ne r (List.mem_cons_self ..)
  obtain ⟨e1, -, e3, e4⟩ := ivR_ok (hok r (List.mem_cons_self ..)) hne
  have hlt : ¬ 0 ≤ cmpG (ivR r).low (ivR r).high := by
   rw [e3, e4]
   have : CG (toP r.1) (toP r.2) := hne
   unfold CG at this
   omega
  have ih := errFrom_set J (some (toP r.2)) (fun s hs => hok s (List.mem_cons_of_mem _ hs)) hset.tail (fun d hd s hs => by
   cases hd
   exact (List.pairwise_cons.1 hset.gap).1 s hs)
  rw [List.map_cons]
  cases c with
  | none => rw [errFrom_first e1 hlt, e4]; exact ih
  | some d =>
   have hd : CG d (toP r.1) := hc d rfl r (List.mem_cons_self ..)
   rw [errFrom_next e1 hlt (by rw [e3]; unfold CG at hd; omega), e4]
   exact ih
structure SetI (xs : List Iv) (J : List RP) : Prop where
 eq : xs = J.map ivR
 ok : ∀ r ∈ J, OkR r
 set : IsSet ltR J
 len : J.length ≤ 256
theorem SetI.err {xs : List Iv} {J : List RP} (h : SetI xs J) : setErr xs = 0 := by
 have hl : ¬ 256 < xs.length := by rw [h.eq, List.length_map]; have := h.len; omega
 unfold setErr
 rw [if_neg hl, h.eq]
 exact errFrom_set J none h.ok h.set (fun d hd => by cases hd)
theorem SetI.short {xs : List Iv} {J : List RP} (h : SetI xs J) : ∀ x ∈ xs, x.short := fun x hx => by
 rw [h.eq] at hx
 obtain ⟨r, hr, rfl⟩ := List.mem_map.1 hx
 exact (ivR_ok (h.ok r hr) (h.set.ne r hr)).2.1
theorem SetI.cuts {xs : List Iv} {J : List RP} (h : SetI xs J) : xs.map Iv.cuts = J.map fun r => (toP r.1, toP r.2) := by
 rw [h.eq]
 exact cuts_ivR h.ok h.set.ne
theorem SetI.length {xs : List Iv} {J : List RP} (h : SetI xs J) : xs.length = J.length := by rw [h.eq, List.length_map]
theorem SetI.nil : SetI [] [] := ⟨rfl, fun r hr => (by cases hr), IsSet.nil, by decide⟩
theorem norm_set {xs : List Iv} (hs : ∀ x ∈ xs, x.short) (hn : xs.length ≤ 256) : ∃ J, SetI (normL xs) J ∧ J.length ≤ xs.length := by
 unfold normL
 by_cases he : normErr xs = 0
 ·rw [if_pos he]
  have he' : shapeErr xs = 0 := by unfold normErr at he; rwa [if_neg (by omega)] at he
  have hok : ∀ r ∈ xs.map rgOf, OkR r := fun r hr => by
   obtain ⟨x, hx, rfl⟩ := List.mem_map.1 hr
   exact rgOf_ok (hs x hx) (shapeErr_ok he' x hx)
  have hl := joinR_len (xs.map rgOf)
  rw [List.length_map] at hl
  exact ⟨joinR (xs.map rgOf), ⟨rfl, joinR_all (P := RokC) hok, (joinR_ok _).1, by omega⟩, hl⟩
 ·rw [if_neg he]
  exact ⟨[], SetI.nil, Nat.zero_le _⟩
theorem set_set {xs : List Iv} (hs : ∀ x ∈ xs, x.short) : ∃ J, SetI (setL xs) J ∧ J.length ≤ 8 := by
 obtain ⟨J, h1, h2⟩ := norm_set (xs := xs.take 8) (fun x hx => hs x (List.mem_of_mem_take hx)) (by rw [List.length_take]; omega)
 exact ⟨J, h1, by rw [List.length_take] at h2; omega⟩
end Go.Proofs.YtacihodamichhaaGreatDoor
namespace Go.Proofs.YtacihodamichhaaGreatDoor
open Go.RowKit
def cqS (s n : ByteArray) : Int := cmpQ (numR s.data.toList) (denR s.data.toList) (numR n.data.toList) (denR n.data.toList)
end Go.Proofs.YtacihodamichhaaGreatDoor
namespace Go.Proofs.YtacihodamichhaaGreatDoor
open Go.RowKit
theorem endStep_keep {O : List ByteArray} {c : Cut} {s : ByteArray} (h : s ∈ O) : s ∈ endStep O c := by
 unfold endStep
 split
 ·exact List.mem_append_left _ h
 ·exact h
theorem endStep_has {O : List ByteArray} {c : Cut} (h : c.b = 0) : c.s ∈ endStep O c := by
 unfold endStep
 split
 ·exact List.mem_append_right _ (List.mem_singleton.2 rfl)
 ·next hn =>
  have hl : O.getLast? = some c.s := Classical.byContradiction fun q => hn ⟨h, q⟩
  exact List.mem_of_getLast? hl
theorem endStep_from {O : List ByteArray} {c : Cut} {s : ByteArray} (h : s ∈ endStep O c) : s ∈ O ∨ (c.b = 0 ∧ c.s = s) := by
 unfold endStep at h
 split at h
 ·next hc =>
  rcases List.mem_append.1 h with h | h
  ·exact .inl h
  ·exact .inr ⟨hc.1, (List.mem_singleton.1 h).symm⟩
 ·exact .inl h
theorem endsFrom_keep : ∀ (cs : List (Cut × Cut)) {O : List ByteArray} {s : ByteArray}, s ∈ O → s ∈ endsFrom O cs
 | [], _, _, h => h
 | p :: cs, O, s, h => by
  show s ∈ endsFrom (endStep (endStep O p.1) p.2) cs
  exact endsFrom_keep cs (endStep_keep (endStep_keep h))
theorem endsFrom_has : ∀ (cs : List (Cut × Cut)) (O : List ByteArray) {p : Cut × Cut}, p ∈ cs → (p.1.b = 0 → p.1.s ∈ endsFrom O cs) ∧ (p.2.b = 0 → p.2.s ∈ endsFrom O cs)
 | [], _, _, h => by cases h
 | q :: cs, O, p, h => by
  show (_ → p.1.s ∈ endsFrom (endStep (endStep O q.1) q.2) cs) ∧ (_ → p.2.s ∈ endsFrom (endStep (endStep O q.1) q.2) cs)
  rcases List.mem_cons.1 h with rfl | h
  ·exact ⟨fun hb => endsFrom_keep cs (endStep_keep (endStep_has hb)), fun hb => endsFrom_keep cs (endStep_has hb)⟩
  ·exact endsFrom_has cs _ h
theorem endsFrom_from : ∀ (cs : List (Cut × Cut)) (O : List ByteArray) {s : ByteArray}, s ∈ endsFrom O cs → s ∈ O ∨ ∃ p ∈ cs, (p.1.b = 0 ∧ p.1.s = s) ∨ (p.2.b = 0 ∧ p.2.s = s)
 | [], _, _, h => .inl h
 | q :: cs, O, s, h => by
  rcases endsFrom_from cs (endStep (endStep O q.1) q.2) h with h | ⟨p, hp, h⟩
  ·rcases endStep_from h with h | h
   ·rcases endStep_from h with h | h
    ·exact .inl h
    ·exact .inr ⟨q, List.mem_cons_self, .inl h⟩
   ·exact .inr ⟨q, List.mem_cons_self, .inr h⟩
  ·exact .inr ⟨p, List.mem_cons_of_mem _ hp, h⟩
theorem cmpG_same {c : Cut} {n m : ByteArray} {d : Int} (h : c.b ≠ 0 ∨ (cqS c.s n = cqS c.s m ∧ cqS c.s n ≠ 0)) : cmpG c ⟨0, n, d⟩ = cmpG c ⟨0, m, d⟩ := by
 unfold cmpG or3
 dsimp only
 have hz := @cmpZ_eq c.b 0
 by_cases hb : c.b = 0
 ·obtain ⟨h1, -⟩ := h.resolve_left (fun q => q hb)
  unfold cqS at h1
  rw [h1]
 ·rw [if_pos (fun q => hb (hz.1 q)), if_pos (fun q => hb (hz.1 q))]
theorem has_steady {xs : List Iv} {n m : ByteArray} (h : ∀ s ∈ endsL (xs.map Iv.cuts), cqS s n = cqS s m ∧ cqS s n ≠ 0) : hasB xs n = hasB xs m := by
 have hp : ∀ p ∈ xs.map Iv.cuts, inP p ⟨0, n, -1⟩ ⟨0, n, 1⟩ = inP p ⟨0, m, -1⟩ ⟨0, m, 1⟩ := fun p hp => by
  obtain ⟨e1, e2⟩ := endsFrom_has (xs.map Iv.cuts) [] hp
  have h1 : p.1.b ≠ 0 ∨ (cqS p.1.s n = cqS p.1.s m ∧ cqS p.1.s n ≠ 0) := by
   by_cases hb : p.1.b = 0
   ·exact .inr (h _ (e1 hb))
   ·exact .inl hb
  have h2 : p.2.b ≠ 0 ∨ (cqS p.2.s n = cqS p.2.s m ∧ cqS p.2.s n ≠ 0) := by
   by_cases hb : p.2.b = 0
   ·exact .inr (h _ (e2 hb))
   ·exact .inl hb
  unfold inP
  rw [cmpG_same h1, cmpG_neg p.2 ⟨0, n, 1⟩, cmpG_neg p.2 ⟨0, m, 1⟩, cmpG_same h2]
 unfold hasB
 have go : ∀ l : List (Cut × Cut), (∀ p ∈ l, inP p ⟨0, n, -1⟩ ⟨0, n, 1⟩ = inP p ⟨0, m, -1⟩ ⟨0, m, 1⟩) → (l.any fun q => inP q ⟨0, n, -1⟩ ⟨0, n, 1⟩) = (l.any fun q => inP q ⟨0, m, -1⟩ ⟨0, m, 1⟩) := fun l => by
  induction l with
  | nil => intro _; rfl
  | cons p l ih => intro hl; rw [List.any_cons, List.any_cons, hl p List.mem_cons_self, ih (fun q hq => hl q (List.mem_cons_of_mem _ hq))]
 exact go _ hp
theorem ends_num {xs : List Iv} {J : List RP} (h : SetI xs J) : ∀ s ∈ endsL (xs.map Iv.cuts), s.size ≤ 60 ∧ errL s.data.toList = 0 := fun s hs => by
 have key : ∀ c : Cut, RokC c → (toP c).b = 0 → (toP c).s = s → s.size ≤ 60 ∧ errL s.data.toList = 0 := fun c hc hb hcs => by
  rcases hc with ⟨h1, h2, h3, _⟩ | ⟨h1, _⟩
  ·have : (toP c).s = c.s := rfl
   rw [← hcs, this]; exact ⟨h2, h3⟩
  ·have : (toP c).b = c.b := rfl
   omega
 rcases endsFrom_from _ _ hs with h' | ⟨p, hp, h'⟩
 ·cases h'
 ·rw [h.cuts] at hp
  obtain ⟨r, hr, rfl⟩ := List.mem_map.1 hp
  rcases h' with ⟨h1, h2⟩ | ⟨h1, h2⟩
  ·exact key _ (h.ok r hr).1 h1 h2
  ·exact key _ (h.ok r hr).2 h1 h2
end Go.Proofs.YtacihodamichhaaGreatDoor
