/-
  Parts of the proof: Norm.
-/
import Derived.Test.YtacihodamichhaaGreatDoorU16
namespace Go.Proofs.YtacihodamichhaaGreatDoor
open Go.RowKit
theorem grown_set (w : World) (g i : Nat) (v : Value) : w.grownBy (w.setCell ⟨g, i, none⟩ v) (some g) := by
 refine ⟨rfl, rfl, rfl, by simp, fun b hb hne => ?_⟩
 exact Below.heap_setCell _ _ _ _ (fun e => hne (by rw [e]))
theorem own_free {w : World} {M e sz n g cap : Nat} {xs : List Value} (h : w.ownsRow M e sz (.slice (some ⟨g, 0, none⟩) n cap) n xs) (i : Nat) : w.frozen? ⟨g, i, none⟩ = false := by
 rcases h.2 with ⟨hv, _⟩ | ⟨g2, cap2, cur, hv, -, hgb, -⟩
 ·cases hv
 ·cases hv
  exact frozen_of_row w g i cur _ hgb
theorem PP.ok.grownP {w w' : World} {B e sz n : Nat} {v : Value} {xs : List Value} {p : PP} (h : p.ok w) (hown : w.ownsRow B e sz v n xs) (he : e ≠ 62) (hg : w.grownBy w' v.ownBlock) : p.ok w' := ⟨h.1.grown hown he hg, h.2.grown hown he hg⟩
theorem put_high {W : World} {B gq co : Nat} {q : PP} (h : CC) (hown : W.ownsRow B 84 14 (.slice (some ⟨gq, 0, none⟩) 1 co) 1 (([q].map PP.row).flatten)) :
  (((((((W.setCell ⟨gq, 7, none⟩ (.int .i64 h.c.b)).setCell ⟨gq, 8, none⟩ (.string h.c.s)).setCell ⟨gq, 9, none⟩ (.int .i64 h.c.d)).setCell ⟨gq, 10, none⟩ (.bool h.x)).setCell ⟨gq, 11, none⟩ (.slice h.a h.n h.cap)).setCell ⟨gq, 12, none⟩ (.bool false)).setCell ⟨gq, 13, none⟩ (.slice none 0 0)).ownsRow B 84 14 (.slice (some ⟨gq, 0, none⟩) 1 co) 1 (([(⟨q.l, h⟩ : PP)].map PP.row).flatten) ∧ W.grownBy (((((((W.setCell ⟨gq, 7, none⟩ (.int .i64 h.c.b)).setCell ⟨gq, 8, none⟩ (.string h.c.s)).setCell ⟨gq, 9, none⟩ (.int .i64 h.c.d)).setCell ⟨gq, 10, none⟩ (.bool h.x)).setCell ⟨gq, 11, none⟩ (.slice h.a h.n h.cap)).setCell ⟨gq, 12, none⟩ (.bool false)).setCell ⟨gq, 13, none⟩ (.slice none 0 0)) (some gq) := by
 have h7 := own_setCell hown (i := 7) (by omega) (.int .i64 h.c.b)
 have h8 := own_setCell h7 (i := 8) (by omega) (.string h.c.s)
 have h9 := own_setCell h8 (i := 9) (by omega) (.int .i64 h.c.d)
 have h10 := own_setCell h9 (i := 10) (by omega) (.bool h.x)
 have h11 := own_setCell h10 (i := 11) (by omega) (.slice h.a h.n h.cap)
 have h12 := own_setCell h11 (i := 12) (by omega) (.bool false)
 have h13 := own_setCell h12 (i := 13) (by omega) (.slice none 0 0)
 exact ⟨h13, (grown_trans (grown_trans (grown_trans (grown_trans (grown_trans (grown_trans (grown_set _ _ _ _) (grown_set _ _ _ _)) (grown_set _ _ _ _)) (grown_set _ _ _ _)) (grown_set _ _ _ _)) (grown_set _ _ _ _)) (grown_set _ _ _ _))⟩
def Chain (l : List PC) : Prop := ∀ (i : Nat) (p q : PC), l[i]? = some p → l[i + 1]? = some q → ¬ CLt p.2 q.1 ∧ CLt p.2 q.2
set_option maxHeartbeats 16000000 in
set_option maxRecDepth 10000 in
theorem normal_chain (v : Value) (xs : List Iv) (w : World) (h : Ivs w v xs) (hok : ∀ x ∈ xs, x.ok) (hlh : ∀ x ∈ xs, cmpC x.low x.high < 0) (hn : xs.length ≤ 256) (h0 : 0 < xs.length) (c0 cn : Cut)
  (hch : ∀ l : List PC, l.Perm (xs.map Iv.cuts) → l.Pairwise (fun x y => ¬ CLt y.1 x.1) → Chain l ∧ (∀ p, l[0]? = some p → p.1 = c0) ∧ (∀ p, l[xs.length - 1]? = some p → p.2 = cn)) :
  Calls Tryz.prog 23 #[v] w (RetP (fun v w' => ∃ a c, v = .tuple #[.slice a 1 c, .int .i64 0] ∧ Ivs w' (.slice a 1 c) [ivOf (c0, cn)]) w) := by
 obtain ⟨a, c, rfl, hc1, hc2⟩ := h.open
 unfold maxLen at hc2
 have HX := hI h
 have Hok := hI hok
 have Hlh := hI hlh
 have Hch := hI hch
 clear h hok hlh hch
 generalize hln : xs.length = n at *
 have Hln := hI hln
 clear hln
 have hn2 : ¬ (256 : Int) < (n : Int) := by omega
 have HN := hI (fun W : World => World.ownsRow_nil W W.heap.size 84 14)
 go_enter Tryz.func23, Tryz.ntmps23
 go_wp2_with fail
 go_loopw [18, 4] (fun i out wr => ∃ (k : Nat) (ps : List PP), k ≤ n ∧ i = .int .i64 (k : Int) ∧ Below w.heap.size w wr ∧ wr.ownsRow w.heap.size 84 14 out k ((ps.map PP.row).flatten) ∧ Hid (ps.length = k ∧ ps.map PP.cuts = (xs.take k).map Iv.cuts ∧ ∀ p ∈ ps, p.ok wr)) (fun i _ _ => n - (intOf i).toNat)
 case atStart => exact ⟨0, [], by omega, rfl, Below.refl _ _, HN.out _, rfl, rfl, fun p hp => by cases hp⟩
 case round =>
  obtain ⟨k, ps, hk, rfl, hbw, hown, hps⟩ := hrel
  rcases Nat.lt_or_ge k n with hlt | hge
  ·obtain ⟨b, off, x, rfl, hx, c0', c1, c2, c3⟩ := HX.out.at hbw hlt
   have hkn : (k : Int) < (n : Int) := by omega
   have hik : IntKind.i64.wrap ((k : Int) + 1) = (k : Int) + 1 := IntWalk.i64_in _ (by omega)
   have Hxc := hI (show (xs.take (k + 1)).map Iv.cuts = (xs.take k).map Iv.cuts ++ [x.cuts] by rw [geti hx, List.map_append]; rfl)
   have hlh : cmpC x.low x.high < 0 := Hlh.out x (List.mem_of_getElem? hx)
   have H1 := hI (fun w' => parse_iv x w' (Hok.out x (List.mem_of_getElem? hx)))
   have Hbw := hI hbw
   have Hown := hI hown
   unfold Iv.agg at H1
   generalize hR : cmpC x.low x.high = R at *
   have HR := hI hR
   clear hx hbw hown hR
   go_wp2_with (first
    | (go_at_call 72; refine (H1.out _).mono ?_; rintro e w2 ⟨v2, rfl, ⟨k1, k2, rfl, hc1, hc2, hk1, hk2⟩, hb2⟩; obtain ⟨⟨b1, s1, d1⟩, x1, a1, n1, c1'⟩ := k1; obtain ⟨⟨b2, s2, d2⟩, x2, a2, n2, c2'⟩ := k2; have Hc1 := hI hc1; have Hc2 := hI hc2; have Hb2 := hI (Hbw.out.via (bw_via (below1 wr (.cells #[.string x.lo, .string x.hi, .int .i64 x.le, .int .i64 x.he] 46)) hb2) Hbw.out.size); have Hkk := hI (And.intro (hk1.mono (below1 w2 (.cells #[.int .i64 b1, .string s1, .int .i64 d1, .bool x1, .slice a1 n1 c1', .bool false, .slice none 0 0, .int .i64 b2, .string s2, .int .i64 d2, .bool x2, .slice a2 n2 c2', .bool false, .slice none 0 0] 84))) (hk2.mono (below1 w2 (.cells #[.int .i64 b1, .string s1, .int .i64 d1, .bool x1, .slice a1 n1 c1', .bool false, .slice none 0 0, .int .i64 b2, .string s2, .int .i64 d2, .bool x2, .slice a2 n2 c2', .bool false, .slice none 0 0] 84)))); have HP2 := hI (Blk.new w2 #[.int .i64 b1, .string s1, .int .i64 d1, .bool x1, .slice a1 n1 c1', .bool false, .slice none 0 0, .int .i64 b2, .string s2, .int .i64 d2, .bool x2, .slice a2 n2 c2', .bool false, .slice none 0 0] 84); have Hb2' := hI (bw_via (bw_via (below1 wr (.cells #[.string x.lo, .string x.hi, .int .i64 x.le, .int .i64 x.he] 46)) hb2) (below1 w2 (.cells #[.int .i64 b1, .string s1, .int .i64 d1, .bool x1, .slice a1 n1 c1', .bool false, .slice none 0 0, .int .i64 b2, .string s2, .int .i64 d2, .bool x2, .slice a2 n2 c2', .bool false, .slice none 0 0] 84))); unfold pagg; clear hc1 hc2 hk1 hk2 hb2)
    | (go_at_call 73; refine (cutcmp_d ⟨⟨b1, s1, d1⟩, x1, a1, n1, c1'⟩ ⟨⟨b2, s2, d2⟩, x2, a2, n2, c2'⟩ _ Hkk.out.1 Hkk.out.2).mono ?_; rintro e w3 ⟨rfl, hb3⟩; rw [show cmpC (CC.c ⟨⟨b1, s1, d1⟩, x1, a1, n1, c1'⟩) (CC.c ⟨⟨b2, s2, d2⟩, x2, a2, n2, c2'⟩) = R by rw [Hc1.out, Hc2.out, HR.out]]; have Hb3 := hI hb3.1; have hP3 := cells14 HP2.out Hb3.out; obtain ⟨p0, p1, p2, p3, p4, p5, p6, p7, p8, p9, p10, p11, p12, p13⟩ := hP3; have Hb4 := hI (Hbw.out.via (bw_via Hb2'.out (Hb3.out)) Hbw.out.size); have Hown4 := hI (own_below Hown.out (bw_via Hb2'.out (Hb3.out))); clear hb3)
    | (at_builtin; refine wpApp EP (by decide) (PP.row (⟨⟨⟨b1, s1, d1⟩, x1, a1, n1, c1'⟩, ⟨⟨b2, s2, d2⟩, x2, a2, n2, c2'⟩⟩ : PP)) rfl _ _ rfl w.heap.size _ _ _ rfl rfl Hown4.out rfl (one14 (⟨⟨⟨b1, s1, d1⟩, x1, a1, n1, c1'⟩, ⟨⟨b2, s2, d2⟩, x2, a2, n2, c2'⟩⟩ : PP)) (by omega) (by decide) Hb4.out.size ?_; intro v' w5 hown' hg'; have Hbw3 := hI (below_app Hb4.out Hown4.out hg' Hb4.out.size); have Hown5 := hI hown'; have Hg5 := hI hg'; clear hown' hg'))
   go_roundw
   case rel =>
    have hbc := bw_via Hb2'.out Hb3.out
    refine ⟨k + 1, ps ++ [(⟨⟨⟨b1, s1, d1⟩, x1, a1, n1, c1'⟩, ⟨⟨b2, s2, d2⟩, x2, a2, n2, c2'⟩⟩ : PP)], by omega, by go_num, Hbw3.out, by have := Hown5.out; rw [rows_flat] at this; exact this, by rw [List.length_append, hps.out.1]; rfl, ?_, ?_⟩
    ·rw [List.map_append, hps.out.2.1, Hxc.out, List.map_cons, List.map_nil]
     congr 2
     unfold PP.cuts Iv.cuts
     rw [Hc1.out, Hc2.out]
    ·intro q hq
     rcases List.mem_append.1 hq with h | h
     ·exact ((hps.out.2.2 q h).mono hbc).app Hown4.out (by decide) Hg5.out
     ·cases List.mem_singleton.1 h
      exact PP.ok.app (⟨Hkk.out.1.mono Hb3.out, Hkk.out.2.mono Hb3.out⟩ : PP.ok _ (⟨⟨⟨b1, s1, d1⟩, x1, a1, n1, c1'⟩, ⟨⟨b2, s2, d2⟩, x2, a2, n2, c2'⟩⟩ : PP)) Hown4.out (by decide) Hg5.out
   case measure => simp [intOf] <;> omega
  ·obtain rfl : k = n := by omega
   have hkn : ¬ (k : Int) < (k : Int) := by omega
   obtain ⟨aa, cap, rfl, -, -⟩ := own_open hown
   obtain ⟨g, rfl⟩ := own_some hown (by omega)
   have hcu := hps.out.2.1
   rw [List.take_of_length_le (by rw [Hln.out]; exact Nat.le_refl _)] at hcu
   have hpl := hps.out.1
   have HS := hI (sort_parts ps k hpl wr w.heap.size g cap (by intro h; rw [h] at hpl; simp at hpl; omega) hown hps.out.2.2 (by omega))
   have Hcu := hI hcu
   have Hbw := hI hbw
   have Hown := hI hown
   have Hpl := hI hpl
   clear hcu hbw hown hpl hps
   go_wp2_with (go_at_call 74; refine (HS.out).mono ?_; rintro e w6 ⟨rfl, hg6, P, hperm, hsort, hpar⟩; have Hb6 := hI (Below.grown Hbw.out hg6 Hbw.out.size (fun q hq => (Hown.out.lt q (by rw [← hq]; rfl)).1)); have Hperm := hI hperm; have Hsort := hI hsort; have Hpar := hI hpar; clear hg6 hperm hsort hpar)
   have HN2 := hI (HN.out w6)
   have Hrun := hI (Hch.out (P.map PP.cuts) (by rw [← Hcu.out]; exact Hperm.out.map _) (pairwise_of_index fun i j x y hij hx hy => by
    simp only [List.getElem?_map, Option.map_eq_some_iff] at hx hy
    obtain ⟨a, ha, rfl⟩ := hx
    obtain ⟨b, hb, rfl⟩ := hy
    exact Hsort.out i j a b hij ha hb))
   have HPl := hI (show P.length = k by rw [Hperm.out.length_eq, Hpl.out])
   clear HS Hown Hbw Hsort Hch HX Hok Hlh Hln Hcu Hpl Hperm HN hkn
   clear hge hk hc1 hc2
   go_loopw [45, 9] (fun i out wr2 => ∃ (j no : Nat) (O : List PP), j ≤ k ∧ i = .int .i64 (j : Int) ∧ Below w6.heap.size w6 wr2 ∧ wr2.ownsRow w6.heap.size 84 14 out no ((O.map PP.row).flatten) ∧ Hid ((j = 0 ∧ no = 0 ∧ O = []) ∨ (0 < j ∧ no = 1 ∧ ∃ q f p, O = [q] ∧ q.ok wr2 ∧ P[0]? = some f ∧ P[j - 1]? = some p ∧ q.l.c = f.l.c ∧ q.h.c = p.h.c))) (fun i _ _ => k - (intOf i).toNat)
   case atStart => exact ⟨0, 0, [], by omega, rfl, Below.refl _ _, HN2.out, .inl ⟨rfl, rfl, rfl⟩⟩
   case round =>
    obtain ⟨j, no, O, hj, rfl, hbw, hown, hps⟩ := hrel
    rcases Nat.lt_or_ge j k with hlt | hge
    ·obtain ⟨bb, off, p, hbb, hp, hpok, hpc⟩ := Hpar.out.at hbw hlt
     cases hbb
     rw [Nat.zero_add] at hpc
     obtain ⟨p0, p1, p2, p3, p4, p5, p6, p7, p8, p9, p10, p11, p12, p13⟩ := hpc
     have hjk : (j : Int) < (k : Int) := by omega
     have hj0 : (0 : Int) ≤ (j : Int) := by omega
     have hik : IntKind.i64.wrap ((j : Int) + 1) = (j : Int) + 1 := IntWalk.i64_in _ (by omega)
     obtain ⟨ao, co, rfl, hco, -⟩ := own_open hown
     have hnw : IntKind.i64.wrap ((no : Int) - 1) = (no : Int) - 1 := IntWalk.i64_in _ (by have : no ≤ 1 := by { rcases hps.out with h | h <;> omega }; omega)
     have HPB := hI (Blk.new wr #[.int .i64 p.l.c.b, .string p.l.c.s, .int .i64 p.l.c.d, .bool p.l.x, .slice p.l.a p.l.n p.l.cap, .bool false, .slice none 0 0, .int .i64 p.h.c.b, .string p.h.c.s, .int .i64 p.h.c.d, .bool p.h.x, .slice p.h.a p.h.n p.h.cap, .bool false, .slice none 0 0] 84)
     have HPB1 := hI (below1 wr (.cells #[.int .i64 p.l.c.b, .string p.l.c.s, .int .i64 p.l.c.d, .bool p.l.x, .slice p.l.a p.l.n p.l.cap, .bool false, .slice none 0 0, .int .i64 p.h.c.b, .string p.h.c.s, .int .i64 p.h.c.d, .bool p.h.x, .slice p.h.a p.h.n p.h.cap, .bool false, .slice none 0 0] 84))
     have Hbw := hI hbw
     have Hown := hI hown
     have Hp := hI (And.intro hp hpok)
     clear hp hpok hbw hown
     go_wp2_with fail
     rcases hps.out with ⟨rfl, rfl, rfl⟩ | ⟨hj0', rfl, q, f, p', rfl, hqok, hf, hp', hql, hqh⟩
     ·refine wp_region_held_drew (S := (fun _ => True)) (by kernel_rfl) (by exact trivial) (fun hHeld => ?_)
      refine wpAnyH_take (i := 0) (v := ?v1) rfl (by kernel_rfl) (by kernel_rfl) (by kernel_rfl) (fun _ _ _ h => h) (Or.inl ⟨by rfl, ?hy1⟩) (by assumption) ?rest1
      case hy1 => (intro w hSw; (try dsimp only at hSw); go_simp; try (with_reducible rfl))
      try simp only [Act.put, List.getElem_toArray, List.getElem_cons_zero, List.setIfInBounds_toArray, List.set_cons_zero, List.set_cons_succ]
      refine' tk 1 ?_; (try simp only [tkS]); refine' tk 2 ?_; (try simp only [tkS]); refine' tkU 3 ?_; (try simp only [tkS]); refine' tkU 4 ?_; (try simp only [tkS]); refine' tkU 5 ?_; (try simp only [tkS]); refine' tkU 6 ?_; (try simp only [tkS]); refine' tkU 7 ?_; (try simp only [tkS]); refine' tkU 8 ?_; (try simp only [tkS]); refine' tkU 9 ?_; (try simp only [tkS]); refine' tkU 10 ?_; (try simp only [tkS]); refine' tkU 11 ?_; (try simp only [tkS]); refine' tk 12 ?_; (try simp only [tkS]); refine' tk 13 ?_; (try simp only [tkS])
      refine tkD ?_ _
      have Hb1' := hI (show Below wr.heap.size wr (((wr.alloc (.cells #[.int .i64 p.l.c.b, .string p.l.c.s, .int .i64 p.l.c.d, .bool p.l.x, .slice p.l.a p.l.n p.l.cap, .bool false, .slice none 0 0, .int .i64 p.h.c.b, .string p.h.c.s, .int .i64 p.h.c.d, .bool p.h.x, .slice p.h.a p.h.n p.h.cap, .bool false, .slice none 0 0] 84)).drewN 1).alloc (.cells #[.int .i64 p.l.c.b, .string p.l.c.s, .int .i64 p.l.c.d, .bool p.l.x, .slice p.l.a p.l.n p.l.cap, .bool false, .slice none 0 0, .int .i64 p.h.c.b, .string p.h.c.s, .int .i64 p.h.c.d, .bool p.h.x, .slice p.h.a p.h.n p.h.cap, .bool false, .slice none 0 0] 84)) from (bw_via HPB1.out (bw_dn _)).alloc (bw_via HPB1.out (bw_dn _)).size _)
      have hP3 := cells14 HPB.out (bw_dn (wr.alloc (.cells #[.int .i64 p.l.c.b, .string p.l.c.s, .int .i64 p.l.c.d, .bool p.l.x, .slice p.l.a p.l.n p.l.cap, .bool false, .slice none 0 0, .int .i64 p.h.c.b, .string p.h.c.s, .int .i64 p.h.c.d, .bool p.h.x, .slice p.h.a p.h.n p.h.cap, .bool false, .slice none 0 0] 84)))
      obtain ⟨u0, u1, u2, u3, u4, u5, u6, u7, u8, u9, u10, u11, u12, u13⟩ := hP3
      have Hblk := hI (show Blk (((wr.alloc (.cells #[.int .i64 p.l.c.b, .string p.l.c.s, .int .i64 p.l.c.d, .bool p.l.x, .slice p.l.a p.l.n p.l.cap, .bool false, .slice none 0 0, .int .i64 p.h.c.b, .string p.h.c.s, .int .i64 p.h.c.d, .bool p.h.x, .slice p.h.a p.h.n p.h.cap, .bool false, .slice none 0 0] 84)).drewN 1).alloc (.cells #[.int .i64 p.l.c.b, .string p.l.c.s, .int .i64 p.l.c.d, .bool p.l.x, .slice p.l.a p.l.n p.l.cap, .bool false, .slice none 0 0, .int .i64 p.h.c.b, .string p.h.c.s, .int .i64 p.h.c.d, .bool p.h.x, .slice p.h.a p.h.n p.h.cap, .bool false, .slice none 0 0] 84)) (wr.heap.size + 1) #[.int .i64 p.l.c.b, .string p.l.c.s, .int .i64 p.l.c.d, .bool p.l.x, .slice p.l.a p.l.n p.l.cap, .bool false, .slice none 0 0, .int .i64 p.h.c.b, .string p.h.c.s, .int .i64 p.h.c.d, .bool p.h.x, .slice p.h.a p.h.n p.h.cap, .bool false, .slice none 0 0] 84 from by have h := Blk.new ((wr.alloc (.cells #[.int .i64 p.l.c.b, .string p.l.c.s, .int .i64 p.l.c.d, .bool p.l.x, .slice p.l.a p.l.n p.l.cap, .bool false, .slice none 0 0, .int .i64 p.h.c.b, .string p.h.c.s, .int .i64 p.h.c.d, .bool p.h.x, .slice p.h.a p.h.n p.h.cap, .bool false, .slice none 0 0] 84)).drewN 1) #[.int .i64 p.l.c.b, .string p.l.c.s, .int .i64 p.l.c.d, .bool p.l.x, .slice p.l.a p.l.n p.l.cap, .bool false, .slice none 0 0, .int .i64 p.h.c.b, .string p.h.c.s, .int .i64 p.h.c.d, .bool p.h.x, .slice p.h.a p.h.n p.h.cap, .bool false, .slice none 0 0] 84; simpa using h)
      have Hb4 := hI (Hbw.out.via Hb1'.out Hbw.out.size)
      have Hown4 := hI (own_below Hown.out Hb1'.out)
      go_wp2_with (at_builtin; refine wpAppL EP (by decide) (PP.row p) rfl _ _ rfl w6.heap.size _ _ _ _ rfl rfl Hown4.out Hblk.out rfl (one14 p) (by omega) (by decide) Hb4.out.size ?_; intro g5 cap5 w5 hown' hg' _hgg _hgl; have Hbw3 := hI (Below.grown Hb4.out hg' Hb4.out.size (fun q hq => (Hown4.out.lt q hq).1)); have Hown5 := hI hown'; have Hg5 := hI hg'; clear hown' hg')
      go_roundw
      case rel =>
       refine ⟨0 + 1, 0 + 1, [] ++ [p], by omega, by go_num, Hbw3.out, by have := Hown5.out; rw [rows_flat] at this; exact this, .inr ⟨by omega, rfl, p, p, p, rfl, ?_, Hp.out.1, Hp.out.1, rfl, rfl⟩⟩
       exact (Hp.out.2.mono Hb1'.out).grownP Hown4.out (by decide) Hg5.out
      case measure => simp [intOf] <;> omega
     ·obtain ⟨gq, rfl⟩ := own_some Hown.out (by omega)
      have hprt := own_parts (own_below Hown.out HPB1.out) (fun q' hq' => by cases List.mem_singleton.1 hq'; exact hqok.mono HPB1.out)
      obtain ⟨gg, oo, q2, ha, hq2, -, hqc⟩ := Parts.at hprt (Below.refl _ _) (show 0 < 1 by omega)
      cases ha
      cases hq2
      have hl14 := cells14 HPB.out (bw_refl (wr.alloc (.cells #[.int .i64 p.l.c.b, .string p.l.c.s, .int .i64 p.l.c.d, .bool p.l.x, .slice p.l.a p.l.n p.l.cap, .bool false, .slice none 0 0, .int .i64 p.h.c.b, .string p.h.c.s, .int .i64 p.h.c.d, .bool p.h.x, .slice p.h.a p.h.n p.h.cap, .bool false, .slice none 0 0] 84)))
      have hrun := Hrun.out.1 (j - 1) p'.cuts p.cuts (by rw [List.getElem?_map, hp']; rfl) (by rw [Nat.sub_add_cancel hj0', List.getElem?_map, Hp.out.1]; rfl)
      have h2 : ¬ cmpC q.h.c p.l.c < 0 := fun h => hrun.1 (cmpC_lt.1 (by rw [hqh] at h; exact h))
      have h3 : cmpC q.h.c p.h.c < 0 := cmpC_lt.2 (by rw [hqh]; exact hrun.2)
      have HSx := hI (fun w' (hb : Below (wr.alloc (.cells #[.int .i64 p.l.c.b, .string p.l.c.s, .int .i64 p.l.c.d, .bool p.l.x, .slice p.l.a p.l.n p.l.cap, .bool false, .slice none 0 0, .int .i64 p.h.c.b, .string p.h.c.s, .int .i64 p.h.c.d, .bool p.h.x, .slice p.h.a p.h.n p.h.cap, .bool false, .slice none 0 0] 84)).heap.size (wr.alloc (.cells #[.int .i64 p.l.c.b, .string p.l.c.s, .int .i64 p.l.c.d, .bool p.l.x, .slice p.l.a p.l.n p.l.cap, .bool false, .slice none 0 0, .int .i64 p.h.c.b, .string p.h.c.s, .int .i64 p.h.c.d, .bool p.h.x, .slice p.h.a p.h.n p.h.cap, .bool false, .slice none 0 0] 84)) w') => show w'.cell? ⟨gq, 7, none⟩ = some (.int .i64 q.h.c.b) ∧ w'.cell? ⟨gq, 8, none⟩ = some (.string q.h.c.s) ∧ w'.cell? ⟨gq, 9, none⟩ = some (.int .i64 q.h.c.d) ∧ w'.cell? ⟨gq, 10, none⟩ = some (.bool q.h.x) ∧ w'.cell? ⟨gq, 11, none⟩ = some (.slice q.h.a q.h.n q.h.cap) ∧ w'.cell? ⟨gq, 12, none⟩ = some (.bool false) ∧ w'.cell? ⟨gq, 13, none⟩ = some (.slice none 0 0) ∧ w'.cell? ⟨wr.heap.size, 0, none⟩ = some (.int .i64 p.l.c.b) ∧ w'.cell? ⟨wr.heap.size, 1, none⟩ = some (.string p.l.c.s) ∧ w'.cell? ⟨wr.heap.size, 2, none⟩ = some (.int .i64 p.l.c.d) ∧ w'.cell? ⟨wr.heap.size, 3, none⟩ = some (.bool p.l.x) ∧ w'.cell? ⟨wr.heap.size, 4, none⟩ = some (.slice p.l.a p.l.n p.l.cap) ∧ w'.cell? ⟨wr.heap.size, 5, none⟩ = some (.bool false) ∧ w'.cell? ⟨wr.heap.size, 6, none⟩ = some (.slice none 0 0) ∧ w'.cell? ⟨wr.heap.size, 7, none⟩ = some (.int .i64 p.h.c.b) ∧ w'.cell? ⟨wr.heap.size, 8, none⟩ = some (.string p.h.c.s) ∧ w'.cell? ⟨wr.heap.size, 9, none⟩ = some (.int .i64 p.h.c.d) ∧ w'.cell? ⟨wr.heap.size, 10, none⟩ = some (.bool p.h.x) ∧ w'.cell? ⟨wr.heap.size, 11, none⟩ = some (.slice p.h.a p.h.n p.h.cap) ∧ w'.cell? ⟨wr.heap.size, 12, none⟩ = some (.bool false) ∧ w'.cell? ⟨wr.heap.size, 13, none⟩ = some (.slice none 0 0) from ⟨cell_keep hb hqc.2.2.2.2.2.2.2.1, cell_keep hb hqc.2.2.2.2.2.2.2.2.1, cell_keep hb hqc.2.2.2.2.2.2.2.2.2.1, cell_keep hb hqc.2.2.2.2.2.2.2.2.2.2.1, cell_keep hb hqc.2.2.2.2.2.2.2.2.2.2.2.1, cell_keep hb hqc.2.2.2.2.2.2.2.2.2.2.2.2.1, cell_keep hb hqc.2.2.2.2.2.2.2.2.2.2.2.2.2, cell_keep hb hl14.1, cell_keep hb hl14.2.1, cell_keep hb hl14.2.2.1, cell_keep hb hl14.2.2.2.1, cell_keep hb hl14.2.2.2.2.1, cell_keep hb hl14.2.2.2.2.2.1, cell_keep hb hl14.2.2.2.2.2.2.1, cell_keep hb hl14.2.2.2.2.2.2.2.1, cell_keep hb hl14.2.2.2.2.2.2.2.2.1, cell_keep hb hl14.2.2.2.2.2.2.2.2.2.1, cell_keep hb hl14.2.2.2.2.2.2.2.2.2.2.1, cell_keep hb hl14.2.2.2.2.2.2.2.2.2.2.2.1, cell_keep hb hl14.2.2.2.2.2.2.2.2.2.2.2.2.1, cell_keep hb hl14.2.2.2.2.2.2.2.2.2.2.2.2.2⟩)
      have Hqok := hI hqok
      have H4 := hI (fun w' (hb : Below (wr.alloc (.cells #[.int .i64 p.l.c.b, .string p.l.c.s, .int .i64 p.l.c.d, .bool p.l.x, .slice p.l.a p.l.n p.l.cap, .bool false, .slice none 0 0, .int .i64 p.h.c.b, .string p.h.c.s, .int .i64 p.h.c.d, .bool p.h.x, .slice p.h.a p.h.n p.h.cap, .bool false, .slice none 0 0] 84)).heap.size (wr.alloc (.cells #[.int .i64 p.l.c.b, .string p.l.c.s, .int .i64 p.l.c.d, .bool p.l.x, .slice p.l.a p.l.n p.l.cap, .bool false, .slice none 0 0, .int .i64 p.h.c.b, .string p.h.c.s, .int .i64 p.h.c.d, .bool p.h.x, .slice p.h.a p.h.n p.h.cap, .bool false, .slice none 0 0] 84)) w') => cutcmp_d q.h p.l w' ((hqok.2.mono HPB1.out).mono hb) ((Hp.out.2.1.mono HPB1.out).mono hb))
      have H5 := hI (fun w' (hb : Below (wr.alloc (.cells #[.int .i64 p.l.c.b, .string p.l.c.s, .int .i64 p.l.c.d, .bool p.l.x, .slice p.l.a p.l.n p.l.cap, .bool false, .slice none 0 0, .int .i64 p.h.c.b, .string p.h.c.s, .int .i64 p.h.c.d, .bool p.h.x, .slice p.h.a p.h.n p.h.cap, .bool false, .slice none 0 0] 84)).heap.size (wr.alloc (.cells #[.int .i64 p.l.c.b, .string p.l.c.s, .int .i64 p.l.c.d, .bool p.l.x, .slice p.l.a p.l.n p.l.cap, .bool false, .slice none 0 0, .int .i64 p.h.c.b, .string p.h.c.s, .int .i64 p.h.c.d, .bool p.h.x, .slice p.h.a p.h.n p.h.cap, .bool false, .slice none 0 0] 84)) w') => cutcmp_d q.h p.h w' ((hqok.2.mono HPB1.out).mono hb) ((Hp.out.2.2.mono HPB1.out).mono hb))
      have HPq := hI (And.intro hf (And.intro hql hqh))
      unfold CC.agg at H4 H5
      generalize cmpC q.h.c p.l.c = R2 at *
      generalize cmpC q.h.c p.h.c = R3 at *
      rw [show (((1 : Nat) : Int) - 1) = 0 from rfl]
      clear hprt hqc hl14 hrun hqok hp' hf hql hqh
      refine wp_region_held_drew (S := (fun w' => w'.cell? ⟨gq, 7, none⟩ = some (.int .i64 q.h.c.b) ∧ w'.cell? ⟨gq, 8, none⟩ = some (.string q.h.c.s) ∧ w'.cell? ⟨gq, 9, none⟩ = some (.int .i64 q.h.c.d) ∧ w'.cell? ⟨gq, 10, none⟩ = some (.bool q.h.x) ∧ w'.cell? ⟨gq, 11, none⟩ = some (.slice q.h.a q.h.n q.h.cap) ∧ w'.cell? ⟨gq, 12, none⟩ = some (.bool false) ∧ w'.cell? ⟨gq, 13, none⟩ = some (.slice none 0 0) ∧ w'.cell? ⟨wr.heap.size, 0, none⟩ = some (.int .i64 p.l.c.b) ∧ w'.cell? ⟨wr.heap.size, 1, none⟩ = some (.string p.l.c.s) ∧ w'.cell? ⟨wr.heap.size, 2, none⟩ = some (.int .i64 p.l.c.d) ∧ w'.cell? ⟨wr.heap.size, 3, none⟩ = some (.bool p.l.x) ∧ w'.cell? ⟨wr.heap.size, 4, none⟩ = some (.slice p.l.a p.l.n p.l.cap) ∧ w'.cell? ⟨wr.heap.size, 5, none⟩ = some (.bool false) ∧ w'.cell? ⟨wr.heap.size, 6, none⟩ = some (.slice none 0 0) ∧ w'.cell? ⟨wr.heap.size, 7, none⟩ = some (.int .i64 p.h.c.b) ∧ w'.cell? ⟨wr.heap.size, 8, none⟩ = some (.string p.h.c.s) ∧ w'.cell? ⟨wr.heap.size, 9, none⟩ = some (.int .i64 p.h.c.d) ∧ w'.cell? ⟨wr.heap.size, 10, none⟩ = some (.bool p.h.x) ∧ w'.cell? ⟨wr.heap.size, 11, none⟩ = some (.slice p.h.a p.h.n p.h.cap) ∧ w'.cell? ⟨wr.heap.size, 12, none⟩ = some (.bool false) ∧ w'.cell? ⟨wr.heap.size, 13, none⟩ = some (.slice none 0 0))) (by kernel_rfl) (by exact HSx.out _ (bw_dn (wr.alloc (.cells #[.int .i64 p.l.c.b, .string p.l.c.s, .int .i64 p.l.c.d, .bool p.l.x, .slice p.l.a p.l.n p.l.cap, .bool false, .slice none 0 0, .int .i64 p.h.c.b, .string p.h.c.s, .int .i64 p.h.c.d, .bool p.h.x, .slice p.h.a p.h.n p.h.cap, .bool false, .slice none 0 0] 84)))) (fun hHeld => ?_)
      refine wpAnyH_take (i := 0) (v := ?v15) rfl (by kernel_rfl) (by kernel_rfl) (by kernel_rfl) (fun _ _ _ h => h) (Or.inl ⟨by rfl, ?hy15⟩) (by assumption) ?rest15
      case hy15 => (intro w hSw; (try dsimp only at hSw); go_simp; try (with_reducible rfl))
      try simp only [Act.put, List.getElem_toArray, List.getElem_cons_zero, List.setIfInBounds_toArray, List.set_cons_zero, List.set_cons_succ]
      refine' tk 1 ?_; (try simp only [tkS]); refine' tk 2 ?_; (try simp only [tkS]); refine' tk 3 ?_; (try simp only [tkS]); refine' tk 4 ?_; (try simp only [tkS]); refine' tk 5 ?_; (try simp only [tkS]); refine' tk 6 ?_; (try simp only [tkS]); refine' tk 7 ?_; (try simp only [tkS]); refine' tk 8 ?_; (try simp only [tkS]); refine' tk 9 ?_; (try simp only [tkS])
      refine tk1 10 (fun K hK => ?_)
      go_simp
      go_at_call 73
      refine (H4.out _ (bw_dn (wr.alloc (.cells #[.int .i64 p.l.c.b, .string p.l.c.s, .int .i64 p.l.c.d, .bool p.l.x, .slice p.l.a p.l.n p.l.cap, .bool false, .slice none 0 0, .int .i64 p.h.c.b, .string p.h.c.s, .int .i64 p.h.c.d, .bool p.h.x, .slice p.h.a p.h.n p.h.cap, .bool false, .slice none 0 0] 84)))).mono ?_
      rintro e5 w10 ⟨rfl, hb10', -⟩
      have hb10 := hb10'
      have Hb10 := hI (bw_via (bw_dn (wr.alloc (.cells #[.int .i64 p.l.c.b, .string p.l.c.s, .int .i64 p.l.c.d, .bool p.l.x, .slice p.l.a p.l.n p.l.cap, .bool false, .slice none 0 0, .int .i64 p.h.c.b, .string p.h.c.s, .int .i64 p.h.c.d, .bool p.h.x, .slice p.h.a p.h.n p.h.cap, .bool false, .slice none 0 0] 84))) hb10)
      clear hb10 hb10'
      refine hK.out _ _ (by exact HSx.out _ (Hb10.out)) (fun hHeld => ?_)
      clear hK K; (try simp only [tkS])
      refine' tk 11 ?_; (try simp only [tkS]); refine' tk 12 ?_; (try simp only [tkS]); refine' tk 13 ?_; (try simp only [tkS])
      refine tkD ?_ _
      have Hb19 := hI (Hb10.out)
      obtain ⟨t0, t1, t2, t3, t4, t5, t6, t7, t8, t9, t10, t11, t12, t13, t14, t15, t16, t17, t18, t19, t20⟩ := HSx.out _ Hb19.out
      go_wp2_with fail
      refine wp_region_held_drew (S := (fun w' => w'.cell? ⟨gq, 7, none⟩ = some (.int .i64 q.h.c.b) ∧ w'.cell? ⟨gq, 8, none⟩ = some (.string q.h.c.s) ∧ w'.cell? ⟨gq, 9, none⟩ = some (.int .i64 q.h.c.d) ∧ w'.cell? ⟨gq, 10, none⟩ = some (.bool q.h.x) ∧ w'.cell? ⟨gq, 11, none⟩ = some (.slice q.h.a q.h.n q.h.cap) ∧ w'.cell? ⟨gq, 12, none⟩ = some (.bool false) ∧ w'.cell? ⟨gq, 13, none⟩ = some (.slice none 0 0) ∧ w'.cell? ⟨wr.heap.size, 0, none⟩ = some (.int .i64 p.l.c.b) ∧ w'.cell? ⟨wr.heap.size, 1, none⟩ = some (.string p.l.c.s) ∧ w'.cell? ⟨wr.heap.size, 2, none⟩ = some (.int .i64 p.l.c.d) ∧ w'.cell? ⟨wr.heap.size, 3, none⟩ = some (.bool p.l.x) ∧ w'.cell? ⟨wr.heap.size, 4, none⟩ = some (.slice p.l.a p.l.n p.l.cap) ∧ w'.cell? ⟨wr.heap.size, 5, none⟩ = some (.bool false) ∧ w'.cell? ⟨wr.heap.size, 6, none⟩ = some (.slice none 0 0) ∧ w'.cell? ⟨wr.heap.size, 7, none⟩ = some (.int .i64 p.h.c.b) ∧ w'.cell? ⟨wr.heap.size, 8, none⟩ = some (.string p.h.c.s) ∧ w'.cell? ⟨wr.heap.size, 9, none⟩ = some (.int .i64 p.h.c.d) ∧ w'.cell? ⟨wr.heap.size, 10, none⟩ = some (.bool p.h.x) ∧ w'.cell? ⟨wr.heap.size, 11, none⟩ = some (.slice p.h.a p.h.n p.h.cap) ∧ w'.cell? ⟨wr.heap.size, 12, none⟩ = some (.bool false) ∧ w'.cell? ⟨wr.heap.size, 13, none⟩ = some (.slice none 0 0))) (by kernel_rfl) (by exact HSx.out _ ((Hb19.out).dn 1)) (fun hHeld => ?_)
      refine wpAnyH_take (i := 0) (v := ?v28) rfl (by kernel_rfl) (by kernel_rfl) (by kernel_rfl) (fun _ _ _ h => h) (Or.inl ⟨by rfl, ?hy28⟩) (by assumption) ?rest28
      case hy28 => (intro w hSw; (try dsimp only at hSw); go_simp; try (with_reducible rfl))
      try simp only [Act.put, List.getElem_toArray, List.getElem_cons_zero, List.setIfInBounds_toArray, List.set_cons_zero, List.set_cons_succ]
      refine' tk 1 ?_; (try simp only [tkS]); refine' tk 2 ?_; (try simp only [tkS]); refine' tk 3 ?_; (try simp only [tkS]); refine' tk 4 ?_; (try simp only [tkS]); refine' tk 5 ?_; (try simp only [tkS]); refine' tk 6 ?_; (try simp only [tkS])
      refine tk1 7 (fun K hK => ?_)
      go_simp
      go_at_call 73
      refine (H5.out _ ((Hb19.out).dn 1)).mono ?_
      rintro e5 w7 ⟨rfl, hb7', -⟩
      have hb7 := hb7'
      have Hb7 := hI (bw_via ((Hb19.out).dn 1) hb7)
      clear hb7 hb7'
      refine hK.out _ _ (by exact HSx.out _ (Hb7.out)) (fun hHeld => ?_)
      clear hK K; (try simp only [tkS])
      refine' tk 8 ?_; (try simp only [tkS]); refine' tk 9 ?_; (try simp only [tkS])
      refine tkD ?_ _
      obtain ⟨v0, v1, v2, v3, v4, v5, v6, v7, v8, v9, v10, v11, v12, v13, v14, v15, v16, v17, v18, v19, v20⟩ := HSx.out _ (Hb7.out)
      have Hbx := hI (Hb7.out)
      have Hownx := hI (own_below Hown.out (bw_via HPB1.out Hbx.out))
      have f7 := own_free Hownx.out 7
      have f8 := own_free Hownx.out 8
      have f9 := own_free Hownx.out 9
      have f10 := own_free Hownx.out 10
      have f11 := own_free Hownx.out 11
      have f12 := own_free Hownx.out 12
      have f13 := own_free Hownx.out 13
      go_wp2_with fail
      have hbj := bw_via HPB1.out Hbx.out
      have hput := put_high p.h Hownx.out
      have hb6 := Below.grown (Hbw.out.via hbj Hbw.out.size) hput.2 (Hbw.out.via hbj Hbw.out.size).size (fun q hq => (Hownx.out.lt q (by rw [← hq]; rfl)).1)
      refine ⟨⟨j + 1, 1, [(⟨q.l, p.h⟩ : PP)], by omega, by go_num, hb6, hput.1, .inr ⟨by omega, rfl, (⟨q.l, p.h⟩ : PP), f, p, rfl, ?_, HPq.out.1, by rw [Nat.add_sub_cancel]; exact Hp.out.1, HPq.out.2.1, rfl⟩⟩, ?_⟩
      ·exact PP.ok.grownP (⟨(Hqok.out.1).mono hbj, Hp.out.2.2.mono hbj⟩ : PP.ok _ (⟨q.l, p.h⟩ : PP)) Hownx.out (by decide) hput.2
      ·simp [intOf] <;> omega
    ·obtain rfl : j = k := by omega
     have hkn : ¬ (j : Int) < (j : Int) := by omega
     rcases hps.out with ⟨rfl, -, -⟩ | ⟨hj0', rfl, q, f, p', rfl, hqok, hf, hp', hql, hqh⟩
     ·omega
     ·obtain ⟨ao, co, rfl, hco, -⟩ := own_open hown
      have hpar := own_parts hown (fun q' hq' => by cases List.mem_singleton.1 hq'; exact hqok)
      have HI := hI (intervals_any _ [q] wr hpar (by simp))
      have e1 : f.l.c = c0 := Hrun.out.2.1 f.cuts (by rw [List.getElem?_map, hf]; rfl)
      have e2 : p'.h.c = cn := Hrun.out.2.2 p'.cuts (by rw [List.getElem?_map, hp']; rfl)
      have Hiv := hI (show [q].map PP.iv = [ivOf (c0, cn)] by
       show [PP.iv q] = _
       unfold PP.iv ivOf
       rw [hql, hqh, e1, e2])
      have Hbw := hI (Hb6.out.via hbw Hb6.out.size)
      clear hown hpar hbw hps hf hp' hql hqh e1 e2 hqok
      go_wp2_with (go_at_call 76; refine (HI.out).mono ?_; rintro e w8 ⟨v8, rfl, ⟨a8, c8, rfl, hiv⟩, hb8⟩; have Hb8 := hI hb8; have Hiv8 := hI hiv; clear hb8 hiv)
      go_ret2
      exact ⟨_, rfl, ⟨a8, c8, rfl, by rw [← Hiv.out]; exact Hiv8.out⟩, Hbw.out.via Hb8.out Hbw.out.size⟩
end Go.Proofs.YtacihodamichhaaGreatDoor
