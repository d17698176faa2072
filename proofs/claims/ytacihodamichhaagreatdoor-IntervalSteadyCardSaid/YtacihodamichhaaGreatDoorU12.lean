/-
  Parts of the proof: Parts, Ints, Rb, Ref.
-/
import Derived.Laws.IdiomStrings
import Derived.Test.YtacihodamichhaaGreatDoorU11
namespace Go.Proofs.YtacihodamichhaaGreatDoor
open Go.RowKit
theorem geti {α : Type} {l : List α} {k : Nat} {x : α} (h : l[k]? = some x) : l.take (k + 1) = l.take k ++ [x] := by rw [List.take_add_one, h]; rfl
set_option maxHeartbeats 16000000 in
set_option maxRecDepth 10000 in
theorem parts_any (v : Value) (xs : List Iv) (w : World) (h : Ivs w v xs) (hok : ∀ x ∈ xs, x.ok) (hset : SetOk (xs.map Iv.cuts)) (hn : xs.length ≤ 256) :
  Calls Tryz.prog 56 #[v] w (RetP (fun v w' => ∃ a c, ∃ ps : List PP, v = .tuple #[.slice a ps.length c, .int .i64 0] ∧ Parts w' (.slice a ps.length c) ps ∧ ps.map PP.cuts = xs.map Iv.cuts) w) := by
 obtain ⟨a, c, rfl, hc1, hc2⟩ := h.open
 unfold maxLen at hc2
 have HX := hI h
 have Hok := hI hok
 have Hset := hI hset
 clear h hok hset
 generalize hln : xs.length = n at *
 have Hln := hI hln
 clear hln
 have hn2 : ¬ (256 : Int) < (n : Int) := by omega
 have HN := hI (fun W : World => World.ownsRow_nil W w.heap.size 84 14)
 go_enter Tryz.func56, Tryz.ntmps56
 go_wp2_with fail
 go_loopw [14, 4] (fun i out wr => ∃ (k : Nat) (ps : List PP), k ≤ n ∧ i = .int .i64 (k : Int) ∧ Below w.heap.size w wr ∧ wr.ownsRow w.heap.size 84 14 out k ((ps.map PP.row).flatten) ∧ Hid (ps.length = k ∧ ps.map PP.cuts = (xs.take k).map Iv.cuts ∧ ∀ p ∈ ps, p.ok wr)) (fun i _ _ => n - (intOf i).toNat)
 case atStart => exact ⟨0, [], by omega, rfl, Below.refl _ _, HN.out _, rfl, rfl, fun p hp => by cases hp⟩
 case round =>
  obtain ⟨k, ps, hk, rfl, hbw, hown, hps⟩ := hrel
  rcases Nat.lt_or_ge k n with hlt | hge
  ·obtain ⟨b, off, x, rfl, hx, c0, c1, c2, c3⟩ := HX.out.at hbw hlt
   have hkn : (k : Int) < (n : Int) := by omega
   have hik : IntKind.i64.wrap ((k : Int) + 1) = (k : Int) + 1 := IntWalk.i64_in _ (by omega)
   have Hxc := hI (show (xs.take (k + 1)).map Iv.cuts = (xs.take k).map Iv.cuts ++ [x.cuts] by rw [geti hx, List.map_append]; rfl)
   have hlh : cmpC x.low x.high < 0 := Hset.out.1 k x.cuts (by rw [List.getElem?_map, hx]; rfl)
   have H1 := hI (fun w' => parse_iv x w' (Hok.out x (List.mem_of_getElem? hx)))
   have Hx := hI hx
   have Hbw := hI hbw
   have Hown := hI hown
   unfold Iv.agg at H1
   generalize hR : cmpC x.low x.high = R at *
   have hR2 : ¬ 0 ≤ R := by omega
   have HR := hI hR
   clear hx hbw hown hlh hR
   go_wp2_with (first
    | (go_at_call 72; refine (H1.out _).mono ?_; rintro e w2 ⟨v2, rfl, ⟨k1, k2, rfl, hc1, hc2, hk1, hk2⟩, hb2⟩; obtain ⟨⟨b1, s1, d1⟩, x1, a1, n1, c1'⟩ := k1; obtain ⟨⟨b2, s2, d2⟩, x2, a2, n2, c2'⟩ := k2; have Hc1 := hI hc1; have Hc2 := hI hc2; have Hb2 := hI (Hbw.out.via (bw_via (below1 wr (.cells #[.string x.lo, .string x.hi, .int .i64 x.le, .int .i64 x.he] 46)) hb2) Hbw.out.size); have Hkk := hI (And.intro (hk1.mono (below1 w2 (.cells #[.int .i64 b1, .string s1, .int .i64 d1, .bool x1, .slice a1 n1 c1', .bool false, .slice none 0 0, .int .i64 b2, .string s2, .int .i64 d2, .bool x2, .slice a2 n2 c2', .bool false, .slice none 0 0] 84))) (hk2.mono (below1 w2 (.cells #[.int .i64 b1, .string s1, .int .i64 d1, .bool x1, .slice a1 n1 c1', .bool false, .slice none 0 0, .int .i64 b2, .string s2, .int .i64 d2, .bool x2, .slice a2 n2 c2', .bool false, .slice none 0 0] 84)))); have HP2 := hI (Blk.new w2 #[.int .i64 b1, .string s1, .int .i64 d1, .bool x1, .slice a1 n1 c1', .bool false, .slice none 0 0, .int .i64 b2, .string s2, .int .i64 d2, .bool x2, .slice a2 n2 c2', .bool false, .slice none 0 0] 84); have Hb2' := hI (bw_via (bw_via (below1 wr (.cells #[.string x.lo, .string x.hi, .int .i64 x.le, .int .i64 x.he] 46)) hb2) (below1 w2 (.cells #[.int .i64 b1, .string s1, .int .i64 d1, .bool x1, .slice a1 n1 c1', .bool false, .slice none 0 0, .int .i64 b2, .string s2, .int .i64 d2, .bool x2, .slice a2 n2 c2', .bool false, .slice none 0 0] 84))); unfold pagg; clear hc1 hc2 hk1 hk2 hb2)
    | (go_at_call 73; refine (cutcmp_d ⟨⟨b1, s1, d1⟩, x1, a1, n1, c1'⟩ ⟨⟨b2, s2, d2⟩, x2, a2, n2, c2'⟩ _ Hkk.out.1 Hkk.out.2).mono ?_; rintro e w3 ⟨rfl, hb3⟩; rw [show cmpC (CC.c ⟨⟨b1, s1, d1⟩, x1, a1, n1, c1'⟩) (CC.c ⟨⟨b2, s2, d2⟩, x2, a2, n2, c2'⟩) = R by rw [Hc1.out, Hc2.out, HR.out]]; have Hb3 := hI hb3.1; clear hb3))
   rcases k with _ | j
   ·refine wp_region_held_drew (S := (fun _ => True)) (by kernel_rfl) (by exact trivial) (fun hHeld => ?_)
    refine wpAnyH_take (i := 0) (v := ?v1) rfl (by kernel_rfl) (by kernel_rfl) (by kernel_rfl) (fun _ _ _ h => h) (Or.inl ⟨by rfl, ?hy1⟩) (by assumption) ?rest1
    case hy1 => (intro w hSw; (try dsimp only at hSw); go_simp; try (with_reducible rfl))
    try simp only [Act.put, List.getElem_toArray, List.getElem_cons_zero, List.setIfInBounds_toArray, List.set_cons_zero, List.set_cons_succ]
    refine' tk 1 ?_; (try simp only [tkS]); refine' tk 2 ?_; (try simp only [tkS]); refine' tkU 3 ?_; (try simp only [tkS]); refine' tkU 4 ?_; (try simp only [tkS]); refine' tkU 5 ?_; (try simp only [tkS]); refine' tkU 6 ?_; (try simp only [tkS]); refine' tkU 7 ?_; (try simp only [tkS]); refine' tkU 8 ?_; (try simp only [tkS]); refine' tkU 9 ?_; (try simp only [tkS]); refine' tkU 10 ?_; (try simp only [tkS]); refine' tkU 11 ?_; (try simp only [tkS]); refine' tkU 12 ?_; (try simp only [tkS]); refine' tk 13 ?_; (try simp only [tkS]); refine' tk 14 ?_; (try simp only [tkS])
    refine tkD ?_ _
    have Hc9 := hI ((Hb3.out).dn 1)
    have hP3 := cells14 HP2.out (Hb3.out)
    obtain ⟨p0, p1, p2, p3, p4, p5, p6, p7, p8, p9, p10, p11, p12, p13⟩ := hP3
    have hb4 := Hbw.out.via (bw_via Hb2'.out (Hc9.out)) Hbw.out.size
    have hown4 := own_below Hown.out (bw_via Hb2'.out (Hc9.out))
    have Hb4 := hI hb4
    have Hown4 := hI hown4
    clear hb4 hown4
    go_wp2_with (at_builtin; refine wpApp EP (by decide) (PP.row (⟨⟨⟨b1, s1, d1⟩, x1, a1, n1, c1'⟩, ⟨⟨b2, s2, d2⟩, x2, a2, n2, c2'⟩⟩ : PP)) rfl _ _ rfl w.heap.size _ _ _ rfl rfl Hown4.out rfl (one14 (⟨⟨⟨b1, s1, d1⟩, x1, a1, n1, c1'⟩, ⟨⟨b2, s2, d2⟩, x2, a2, n2, c2'⟩⟩ : PP)) (by omega) (by decide) Hb4.out.size ?_; intro v' w5 hown' hg'; have Hbw3 := hI (below_app Hb4.out Hown4.out hg' Hb4.out.size); have Hown5 := hI hown'; have Hg5 := hI hg'; clear hown' hg')
    go_roundw
    case rel =>
     have hbc := bw_via Hb2'.out (Hc9.out)
     refine ⟨0 + 1, ps ++ [(⟨⟨⟨b1, s1, d1⟩, x1, a1, n1, c1'⟩, ⟨⟨b2, s2, d2⟩, x2, a2, n2, c2'⟩⟩ : PP)], by omega, by go_num, Hbw3.out, by have := Hown5.out; rw [rows_flat] at this; exact this, by rw [List.length_append, hps.out.1]; rfl, ?_, ?_⟩
     ·rw [List.map_append, hps.out.2.1, Hxc.out, List.map_cons, List.map_nil]
      congr 2
      unfold PP.cuts Iv.cuts
      rw [Hc1.out, Hc2.out]
     ·intro q hq
      rcases List.mem_append.1 hq with h | h
      ·exact ((hps.out.2.2 q h).mono hbc).app Hown4.out (by decide) Hg5.out
      ·cases List.mem_singleton.1 h
       exact PP.ok.app (⟨Hkk.out.1.mono (Hc9.out), Hkk.out.2.mono (Hc9.out)⟩ : PP.ok _ (⟨⟨⟨b1, s1, d1⟩, x1, a1, n1, c1'⟩, ⟨⟨b2, s2, d2⟩, x2, a2, n2, c2'⟩⟩ : PP)) Hown4.out (by decide) Hg5.out
    case measure => simp [intOf] <;> omega
   ·have hln2 := hps.out.1
    obtain ⟨aa, cap, rfl, -, -⟩ := own_open Hown.out
    obtain ⟨g, rfl⟩ := own_some Hown.out (by omega)
    have hb23 := bw_via Hb2'.out Hb3.out
    have hprt := own_parts (own_below Hown.out hb23) (fun q hq => (hps.out.2.2 q hq).mono hb23)
    obtain ⟨gg, oo, p, ha, hp, hpok, hpc⟩ := Parts.at hprt (Below.refl _ _) (show j < j + 1 by omega)
    cases ha
    rw [Nat.zero_add] at hpc
    have hl14 := cells14 HP2.out Hb3.out
    have HSx := hI (fun w' (hb : Below w3.heap.size w3 w') => show w'.cell? ⟨g, j * 14 + 7, none⟩ = some (.int .i64 p.h.c.b) ∧ w'.cell? ⟨g, j * 14 + 8, none⟩ = some (.string p.h.c.s) ∧ w'.cell? ⟨g, j * 14 + 9, none⟩ = some (.int .i64 p.h.c.d) ∧ w'.cell? ⟨g, j * 14 + 10, none⟩ = some (.bool p.h.x) ∧ w'.cell? ⟨g, j * 14 + 11, none⟩ = some (.slice p.h.a p.h.n p.h.cap) ∧ w'.cell? ⟨g, j * 14 + 12, none⟩ = some (.bool false) ∧ w'.cell? ⟨g, j * 14 + 13, none⟩ = some (.slice none 0 0) ∧ w'.cell? ⟨w2.heap.size, 0, none⟩ = some (.int .i64 b1) ∧ w'.cell? ⟨w2.heap.size, 1, none⟩ = some (.string s1) ∧ w'.cell? ⟨w2.heap.size, 2, none⟩ = some (.int .i64 d1) ∧ w'.cell? ⟨w2.heap.size, 3, none⟩ = some (.bool x1) ∧ w'.cell? ⟨w2.heap.size, 4, none⟩ = some (.slice a1 n1 c1') ∧ w'.cell? ⟨w2.heap.size, 5, none⟩ = some (.bool false) ∧ w'.cell? ⟨w2.heap.size, 6, none⟩ = some (.slice none 0 0) from ⟨cell_keep hb hpc.2.2.2.2.2.2.2.1, cell_keep hb hpc.2.2.2.2.2.2.2.2.1, cell_keep hb hpc.2.2.2.2.2.2.2.2.2.1, cell_keep hb hpc.2.2.2.2.2.2.2.2.2.2.1, cell_keep hb hpc.2.2.2.2.2.2.2.2.2.2.2.1, cell_keep hb hpc.2.2.2.2.2.2.2.2.2.2.2.2.1, cell_keep hb hpc.2.2.2.2.2.2.2.2.2.2.2.2.2, cell_keep hb hl14.1, cell_keep hb hl14.2.1, cell_keep hb hl14.2.2.1, cell_keep hb hl14.2.2.2.1, cell_keep hb hl14.2.2.2.2.1, cell_keep hb hl14.2.2.2.2.2.1, cell_keep hb hl14.2.2.2.2.2.2.1⟩)
    have Hpok := hI (And.intro hpok.2 (Hkk.out.1.mono Hb3.out))
    have H4 := hI (fun w' (hb : Below w3.heap.size w3 w') => cutcmp_d p.h ⟨⟨b1, s1, d1⟩, x1, a1, n1, c1'⟩ w' (Hpok.out.1.mono hb) (Hpok.out.2.mono hb))
    have hpx : cmpC p.h.c x.low < 0 := Hset.out.2 j p.cuts x.cuts (by
      have h1 : (ps.map PP.cuts)[j]? = some p.cuts := by rw [List.getElem?_map, hp]; rfl
      rw [hps.out.2.1, List.map_take, List.getElem?_take_of_lt (by omega)] at h1
      exact h1) (by rw [List.getElem?_map, Hx.out]; rfl)
    rw [show cmpC p.h.c (CC.c ⟨⟨b1, s1, d1⟩, x1, a1, n1, c1'⟩) = cmpC p.h.c x.low by rw [Hc1.out]] at H4
    generalize cmpC p.h.c x.low = R2 at *
    have hR22 : ¬ 0 ≤ R2 := by omega
    have hj1 : (0 : Int) < ((j + 1 : Nat) : Int) := by omega
    have hj2 : IntKind.i64.wrap (j : Int) = j := IntWalk.i64_in _ (by omega)
    have hj3 : (((j + 1 : Nat) : Int) - 1) = (j : Int) := by omega
    have hj4 : (j : Int) < ((j + 1 : Nat) : Int) := by omega
    have hj5 : (0 : Int) ≤ (j : Int) := by omega
    have hj6 : (j : Int) < (j : Int) + 1 := by omega
    have hj7 : (0 : Int) < (j : Int) + 1 := by omega
    unfold CC.agg at H4
    dsimp only at H4
    clear hb23 hprt hp hpok hpc hl14 hpx hln2
    refine wp_region_held_drew (S := (fun w' => w'.cell? ⟨g, j * 14 + 7, none⟩ = some (.int .i64 p.h.c.b) ∧ w'.cell? ⟨g, j * 14 + 8, none⟩ = some (.string p.h.c.s) ∧ w'.cell? ⟨g, j * 14 + 9, none⟩ = some (.int .i64 p.h.c.d) ∧ w'.cell? ⟨g, j * 14 + 10, none⟩ = some (.bool p.h.x) ∧ w'.cell? ⟨g, j * 14 + 11, none⟩ = some (.slice p.h.a p.h.n p.h.cap) ∧ w'.cell? ⟨g, j * 14 + 12, none⟩ = some (.bool false) ∧ w'.cell? ⟨g, j * 14 + 13, none⟩ = some (.slice none 0 0) ∧ w'.cell? ⟨w2.heap.size, 0, none⟩ = some (.int .i64 b1) ∧ w'.cell? ⟨w2.heap.size, 1, none⟩ = some (.string s1) ∧ w'.cell? ⟨w2.heap.size, 2, none⟩ = some (.int .i64 d1) ∧ w'.cell? ⟨w2.heap.size, 3, none⟩ = some (.bool x1) ∧ w'.cell? ⟨w2.heap.size, 4, none⟩ = some (.slice a1 n1 c1') ∧ w'.cell? ⟨w2.heap.size, 5, none⟩ = some (.bool false) ∧ w'.cell? ⟨w2.heap.size, 6, none⟩ = some (.slice none 0 0))) (by kernel_rfl) (by exact HSx.out _ ((Below.refl _ _).dn 1)) (fun hHeld => ?_)
    refine wpAnyH_take (i := 0) (v := ?v16) rfl (by kernel_rfl) (by kernel_rfl) (by kernel_rfl) (fun _ _ _ h => h) (Or.inl ⟨by rfl, ?hy16⟩) (by assumption) ?rest16
    case hy16 => (intro w hSw; (try dsimp only at hSw); go_simp; try (with_reducible rfl))
    try simp only [Act.put, List.getElem_toArray, List.getElem_cons_zero, List.setIfInBounds_toArray, List.set_cons_zero, List.set_cons_succ]
    refine' tk 1 ?_; (try simp only [tkS]); refine' tk 2 ?_; (try simp only [tkS]); refine' tk 3 ?_; (try simp only [tkS]); refine' tk 4 ?_; (try simp only [tkS]); refine' tk 5 ?_; (try simp only [tkS]); refine' tk 6 ?_; (try simp only [tkS]); refine' tk 7 ?_; (try simp only [tkS]); refine' tk 8 ?_; (try simp only [tkS]); refine' tk 9 ?_; (try simp only [tkS]); refine' tk 10 ?_; (try simp only [tkS])
    refine tk1 11 (fun K hK => ?_)
    go_simp
    go_at_call 73
    refine (H4.out _ ((Below.refl _ _).dn 1)).mono ?_
    rintro e5 w11 ⟨rfl, hb11', -⟩
    have hb11 := hb11'
    have Hb11 := hI (bw_via ((Below.refl _ _).dn 1) hb11)
    clear hb11 hb11'
    refine hK.out _ _ (by exact HSx.out _ (Hb11.out)) (fun hHeld => ?_)
    clear hK K; (try simp only [tkS])
    refine' tk 12 ?_; (try simp only [tkS]); refine' tk 13 ?_; (try simp only [tkS]); refine' tk 14 ?_; (try simp only [tkS])
    refine tkD ?_ _
    have Hc9 := hI (bw_via Hb3.out Hb11.out)
    have hP3 := cells14 HP2.out (Hc9.out)
    obtain ⟨p0, p1, p2, p3, p4, p5, p6, p7, p8, p9, p10, p11, p12, p13⟩ := hP3
    have hb4 := Hbw.out.via (bw_via Hb2'.out (Hc9.out)) Hbw.out.size
    have hown4 := own_below Hown.out (bw_via Hb2'.out (Hc9.out))
    have Hb4 := hI hb4
    have Hown4 := hI hown4
    clear hb4 hown4
    go_wp2_with (at_builtin; refine wpApp EP (by decide) (PP.row (⟨⟨⟨b1, s1, d1⟩, x1, a1, n1, c1'⟩, ⟨⟨b2, s2, d2⟩, x2, a2, n2, c2'⟩⟩ : PP)) rfl _ _ rfl w.heap.size _ _ _ rfl rfl Hown4.out rfl (one14 (⟨⟨⟨b1, s1, d1⟩, x1, a1, n1, c1'⟩, ⟨⟨b2, s2, d2⟩, x2, a2, n2, c2'⟩⟩ : PP)) (by omega) (by decide) Hb4.out.size ?_; intro v' w5 hown' hg'; have Hbw3 := hI (below_app Hb4.out Hown4.out hg' Hb4.out.size); have Hown5 := hI hown'; have Hg5 := hI hg'; clear hown' hg')
    go_roundw
    case rel =>
     have hbc := bw_via Hb2'.out (Hc9.out)
     refine ⟨(j + 1) + 1, ps ++ [(⟨⟨⟨b1, s1, d1⟩, x1, a1, n1, c1'⟩, ⟨⟨b2, s2, d2⟩, x2, a2, n2, c2'⟩⟩ : PP)], by omega, by go_num, Hbw3.out, by have := Hown5.out; rw [rows_flat] at this; exact this, by rw [List.length_append, hps.out.1]; rfl, ?_, ?_⟩
     ·rw [List.map_append, hps.out.2.1, Hxc.out, List.map_cons, List.map_nil]
      congr 2
      unfold PP.cuts Iv.cuts
      rw [Hc1.out, Hc2.out]
     ·intro q hq
      rcases List.mem_append.1 hq with h | h
      ·exact ((hps.out.2.2 q h).mono hbc).app Hown4.out (by decide) Hg5.out
      ·cases List.mem_singleton.1 h
       exact PP.ok.app (⟨Hkk.out.1.mono (Hc9.out), Hkk.out.2.mono (Hc9.out)⟩ : PP.ok _ (⟨⟨⟨b1, s1, d1⟩, x1, a1, n1, c1'⟩, ⟨⟨b2, s2, d2⟩, x2, a2, n2, c2'⟩⟩ : PP)) Hown4.out (by decide) Hg5.out
    case measure => simp [intOf] <;> omega
  ·obtain rfl : k = n := by omega
   have hkn : ¬ (k : Int) < (k : Int) := by omega
   obtain ⟨aa, cap, rfl, -, -⟩ := own_open hown
   have hprt := own_parts hown hps.out.2.2
   have hcu := hps.out.2.1
   rw [List.take_of_length_le (by rw [Hln.out]; exact Nat.le_refl _)] at hcu
   have Hprt := hI hprt
   have Hcu := hI hcu
   have Hbw := hI hbw
   clear hown hprt hcu hbw
   go_wp2_with fail
   go_ret2
   exact ⟨_, rfl, ⟨aa, cap, ps, by rw [hps.out.1]; rfl, by rw [hps.out.1]; exact Hprt.out, Hcu.out⟩, Hbw.out⟩
end Go.Proofs.YtacihodamichhaaGreatDoor
namespace Go.Proofs.YtacihodamichhaaGreatDoor
open Go.RowKit
def PP.iv (p : PP) : Iv := ⟨p.l.c.s, p.h.c.s, kindOf p.l.c 1, kindOf p.h.c (-1)⟩
set_option maxHeartbeats 16000000 in
set_option maxRecDepth 10000 in
theorem intervals_any (v : Value) (ps : List PP) (w : World) (h : Parts w v ps) (hn : ps.length ≤ 1000) :
  Calls Tryz.prog 76 #[v] w (RetP (fun v w' => ∃ a c, v = .slice a ps.length c ∧ Ivs w' (.slice a ps.length c) (ps.map PP.iv)) w) := by
 obtain ⟨a, c, rfl, hc1, hc2⟩ := h.open
 unfold maxLen at hc2
 have HX := hI h
 clear h
 generalize hln : ps.length = n at *
 have Hln := hI hln
 clear hln
 have HN := hI (fun W : World => World.ownsRow_nil W w.heap.size 46 4)
 go_enter Tryz.func76, Tryz.ntmps76
 go_wp2_with fail
 go_loopw [9, 3] (fun i out wr => ∃ k : Nat, k ≤ n ∧ i = .int .i64 (k : Int) ∧ Below w.heap.size w wr ∧ wr.ownsRow w.heap.size 46 4 out k ((((ps.take k).map PP.iv).map Iv.row).flatten)) (fun i _ _ => n - (intOf i).toNat)
 case atStart => exact ⟨0, by omega, rfl, Below.refl _ _, HN.out _⟩
 case round =>
  obtain ⟨k, hk, rfl, hbw, hown⟩ := hrel
  rcases Nat.lt_or_ge k n with hlt | hge
  ·obtain ⟨b, off, p, rfl, hx, -, cells⟩ := HX.out.at hbw hlt
   obtain ⟨e0, e1, e2, e3, e4, e5, e6, e7, e8, e9, e10, e11, e12, e13⟩ := cells
   have hkn : (k : Int) < (n : Int) := by omega
   have hik : IntKind.i64.wrap ((k : Int) + 1) = (k : Int) + 1 := IntWalk.i64_in _ (by omega)
   have Htk := hI (show ((((ps.take k).map PP.iv).map Iv.row).flatten) ++ Iv.row p.iv = ((((ps.take (k + 1)).map PP.iv).map Iv.row).flatten) by rw [geti hx]; simp)
   have Hbw := hI hbw
   have Hown := hI hown
   have hPB : Blk ((wr.alloc (.cells #[.int .i64 p.l.c.b, .string p.l.c.s, .int .i64 p.l.c.d, .bool p.l.x, .slice p.l.a p.l.n p.l.cap, .bool false, .slice none 0 0, .int .i64 p.h.c.b, .string p.h.c.s, .int .i64 p.h.c.d, .bool p.h.x, .slice p.h.a p.h.n p.h.cap, .bool false, .slice none 0 0] 84)).alloc (.cells #[.string p.l.c.s, .string p.h.c.s, .int .i64 0, .int .i64 0] 46)) wr.heap.size #[.int .i64 p.l.c.b, .string p.l.c.s, .int .i64 p.l.c.d, .bool p.l.x, .slice p.l.a p.l.n p.l.cap, .bool false, .slice none 0 0, .int .i64 p.h.c.b, .string p.h.c.s, .int .i64 p.h.c.d, .bool p.h.x, .slice p.h.a p.h.n p.h.cap, .bool false, .slice none 0 0] 84 := (Blk.new wr _ _).old _
   have hXB : Blk ((wr.alloc (.cells #[.int .i64 p.l.c.b, .string p.l.c.s, .int .i64 p.l.c.d, .bool p.l.x, .slice p.l.a p.l.n p.l.cap, .bool false, .slice none 0 0, .int .i64 p.h.c.b, .string p.h.c.s, .int .i64 p.h.c.d, .bool p.h.x, .slice p.h.a p.h.n p.h.cap, .bool false, .slice none 0 0] 84)).alloc (.cells #[.string p.l.c.s, .string p.h.c.s, .int .i64 0, .int .i64 0] 46)) (wr.heap.size + 1) #[.string p.l.c.s, .string p.h.c.s, .int .i64 0, .int .i64 0] 46 := by
    have h := Blk.new (wr.alloc (.cells #[.int .i64 p.l.c.b, .string p.l.c.s, .int .i64 p.l.c.d, .bool p.l.x, .slice p.l.a p.l.n p.l.cap, .bool false, .slice none 0 0, .int .i64 p.h.c.b, .string p.h.c.s, .int .i64 p.h.c.d, .bool p.h.x, .slice p.h.a p.h.n p.h.cap, .bool false, .slice none 0 0] 84)) #[.string p.l.c.s, .string p.h.c.s, .int .i64 0, .int .i64 0] 46
    simpa using h
   have HPB := hI hPB
   have HXB := hI hXB
   have HK2 := hI (below2 wr (.cells #[.int .i64 p.l.c.b, .string p.l.c.s, .int .i64 p.l.c.d, .bool p.l.x, .slice p.l.a p.l.n p.l.cap, .bool false, .slice none 0 0, .int .i64 p.h.c.b, .string p.h.c.s, .int .i64 p.h.c.d, .bool p.h.x, .slice p.h.a p.h.n p.h.cap, .bool false, .slice none 0 0] 84) (.cells #[.string p.l.c.s, .string p.h.c.s, .int .i64 0, .int .i64 0] 46))
   have HS := hI (fun w' (hb : Below ((wr.alloc (.cells #[.int .i64 p.l.c.b, .string p.l.c.s, .int .i64 p.l.c.d, .bool p.l.x, .slice p.l.a p.l.n p.l.cap, .bool false, .slice none 0 0, .int .i64 p.h.c.b, .string p.h.c.s, .int .i64 p.h.c.d, .bool p.h.x, .slice p.h.a p.h.n p.h.cap, .bool false, .slice none 0 0] 84)).alloc (.cells #[.string p.l.c.s, .string p.h.c.s, .int .i64 0, .int .i64 0] 46)).heap.size ((wr.alloc (.cells #[.int .i64 p.l.c.b, .string p.l.c.s, .int .i64 p.l.c.d, .bool p.l.x, .slice p.l.a p.l.n p.l.cap, .bool false, .slice none 0 0, .int .i64 p.h.c.b, .string p.h.c.s, .int .i64 p.h.c.d, .bool p.h.x, .slice p.h.a p.h.n p.h.cap, .bool false, .slice none 0 0] 84)).alloc (.cells #[.string p.l.c.s, .string p.h.c.s, .int .i64 0, .int .i64 0] 46)) w') => cells14 hPB hb)
   have H1 := hI (fun w' => kind_any p.l 1 w')
   have H2 := hI (fun w' => kind_any p.h (-1) w')
   have Hiv := hI (show p.iv = ⟨p.l.c.s, p.h.c.s, kindOf p.l.c 1, kindOf p.h.c (-1)⟩ from rfl)
   generalize kindOf p.l.c 1 = K1 at *
   generalize kindOf p.h.c (-1) = K2 at *
   unfold CC.agg at H1 H2
   clear hx hbw hown hPB hXB
   go_wp2_with fail
   refine wp_region_pop (S := (fun w' => w'.cell? ⟨wr.heap.size, 0, none⟩ = some (.int .i64 p.l.c.b) ∧ w'.cell? ⟨wr.heap.size, 1, none⟩ = some (.string p.l.c.s) ∧ w'.cell? ⟨wr.heap.size, 2, none⟩ = some (.int .i64 p.l.c.d) ∧ w'.cell? ⟨wr.heap.size, 3, none⟩ = some (.bool p.l.x) ∧ w'.cell? ⟨wr.heap.size, 4, none⟩ = some (.slice p.l.a p.l.n p.l.cap) ∧ w'.cell? ⟨wr.heap.size, 5, none⟩ = some (.bool false) ∧ w'.cell? ⟨wr.heap.size, 6, none⟩ = some (.slice none 0 0) ∧ w'.cell? ⟨wr.heap.size, 7, none⟩ = some (.int .i64 p.h.c.b) ∧ w'.cell? ⟨wr.heap.size, 8, none⟩ = some (.string p.h.c.s) ∧ w'.cell? ⟨wr.heap.size, 9, none⟩ = some (.int .i64 p.h.c.d) ∧ w'.cell? ⟨wr.heap.size, 10, none⟩ = some (.bool p.h.x) ∧ w'.cell? ⟨wr.heap.size, 11, none⟩ = some (.slice p.h.a p.h.n p.h.cap) ∧ w'.cell? ⟨wr.heap.size, 12, none⟩ = some (.bool false) ∧ w'.cell? ⟨wr.heap.size, 13, none⟩ = some (.slice none 0 0))) 9 (by kernel_rfl) (by kernel_rfl) (by exact HS.out _ ((Below.refl _ _).dn 1)) (fun hHeld => ?_)
   simp only [List.take_succ_cons, List.take_zero, List.drop_succ_cons, List.drop_zero]
   refine wpAnyH_take (i := 0) (v := ?v1) rfl (by kernel_rfl) (by kernel_rfl) (by kernel_rfl) (fun _ _ _ h => h) (Or.inl ⟨by rfl, ?hy1⟩) (by assumption) ?rest1
   case hy1 => (intro w hSw; (try dsimp only at hSw); go_simp; try (with_reducible rfl))
   try simp only [Act.put, List.getElem_toArray, List.getElem_cons_zero, List.setIfInBounds_toArray, List.set_cons_zero, List.set_cons_succ]
   refine' tk 1 ?_; (try simp only [tkS]); refine' tk 3 ?_; (try simp only [tkS]); refine' tk 4 ?_; (try simp only [tkS])
   refine tk1 2 (fun K hK => ?_)
   go_simp
   go_at_call 127
   refine (H1.out _).mono ?_
   rintro e5 w2 ⟨rfl, hb2⟩
   have Hb2 := hI (bw_via ((Below.refl _ _).dn 1) hb2)
   clear hb2
   refine hK.out _ _ (by exact HS.out _ (Hb2.out)) (fun hHeld => ?_)
   clear hK K; (try simp only [tkS])
   refine' tk 6 ?_; (try simp only [tkS])
   refine tk1 5 (fun K hK => ?_)
   go_simp
   go_at_call 127
   refine (H2.out _).mono ?_
   rintro e5 w5 ⟨rfl, hb5⟩
   have Hb5 := hI (bw_via (Hb2.out) hb5)
   clear hb5
   refine hK.out _ _ (by exact HS.out _ (Hb5.out)) (fun hHeld => ?_)
   clear hK K; (try simp only [tkS])
   refine tk1 7 (fun K hK => ?_)
   have Hbk := hI (Hb5.out)
   have hX8 := HXB.out.below Hbk.out
   have HX9 := hX8.set 2 (.int .i64 K1)
   have HX10 := HX9.set 3 (.int .i64 K2)
   simp at HX9 HX10
   have g0 := hX8.free 2
   have g1 := hX8.free 3
   have s2 := hX8.cell 2
   have s3 := hX8.cell 3
   have z2 := HX9.cell 3
   have z3 := HX9.free 3
   simp only [List.getElem?_toArray, List.getElem?_cons_succ, List.getElem?_cons_zero] at s2 s3 z2
   have HX11 := hI HX10
   have HS9 := hI (HS.out _ Hbk.out)
   have Hbk2 := hI ((Hbw.out.via (bw_via HK2.out Hbk.out) Hbw.out.size))
   clear hX8 HX9 HX10
   go_simp
   refine hK.out _ _ (by exact ⟨cell_far HS9.out.1 (show wr.heap.size + 1 ≠ wr.heap.size by omega), cell_far HS9.out.2.1 (show wr.heap.size + 1 ≠ wr.heap.size by omega), cell_far HS9.out.2.2.1 (show wr.heap.size + 1 ≠ wr.heap.size by omega), cell_far HS9.out.2.2.2.1 (show wr.heap.size + 1 ≠ wr.heap.size by omega), cell_far HS9.out.2.2.2.2.1 (show wr.heap.size + 1 ≠ wr.heap.size by omega), cell_far HS9.out.2.2.2.2.2.1 (show wr.heap.size + 1 ≠ wr.heap.size by omega), cell_far HS9.out.2.2.2.2.2.2.1 (show wr.heap.size + 1 ≠ wr.heap.size by omega), cell_far HS9.out.2.2.2.2.2.2.2.1 (show wr.heap.size + 1 ≠ wr.heap.size by omega), cell_far HS9.out.2.2.2.2.2.2.2.2.1 (show wr.heap.size + 1 ≠ wr.heap.size by omega), cell_far HS9.out.2.2.2.2.2.2.2.2.2.1 (show wr.heap.size + 1 ≠ wr.heap.size by omega), cell_far HS9.out.2.2.2.2.2.2.2.2.2.2.1 (show wr.heap.size + 1 ≠ wr.heap.size by omega), cell_far HS9.out.2.2.2.2.2.2.2.2.2.2.2.1 (show wr.heap.size + 1 ≠ wr.heap.size by omega), cell_far HS9.out.2.2.2.2.2.2.2.2.2.2.2.2.1 (show wr.heap.size + 1 ≠ wr.heap.size by omega), cell_far HS9.out.2.2.2.2.2.2.2.2.2.2.2.2.2 (show wr.heap.size + 1 ≠ wr.heap.size by omega)⟩) (fun hHeld => ?_)
   clear hK K; (try simp only [tkS])
   refine' tk 8 ?_; (try simp only [tkS])
   refine tkD ?_ _
   simp only [Exit.then]
   have Hb8 := hI ((Hbk2.out.setCell (p := ⟨wr.heap.size + 1, 2, none⟩) (Nat.le_trans Hbw.out.size (Nat.le_succ _)) (.int .i64 K1)).setCell (p := ⟨wr.heap.size + 1, 3, none⟩) (Nat.le_trans Hbw.out.size (Nat.le_succ _)) (.int .i64 K2))
   have Hb9 := hI (((HK2.out.via Hbk.out HK2.out.size).setCell (p := ⟨wr.heap.size + 1, 2, none⟩) (Nat.le_succ _) (.int .i64 K1)).setCell (p := ⟨wr.heap.size + 1, 3, none⟩) (Nat.le_succ _) (.int .i64 K2))
   have Hown4 := hI (own_below Hown.out Hb9.out)
   obtain ⟨y0, y1, y2, y3⟩ := cells4 HX11.out (Below.refl _ _)
   have hszz : ((w5.setCell ⟨wr.heap.size + 1, 2, none⟩ (.int .i64 K1)).setCell ⟨wr.heap.size + 1, 3, none⟩ (.int .i64 K2)).heap.size = w5.heap.size := by simp
   have Hblk := hI (show (((w5.setCell ⟨wr.heap.size + 1, 2, none⟩ (.int .i64 K1)).setCell ⟨wr.heap.size + 1, 3, none⟩ (.int .i64 K2)).alloc (.cells (Iv.row (⟨p.l.c.s, p.h.c.s, K1, K2⟩ : Iv)).toArray 46)).heap[w5.heap.size]? = some (.cells (Iv.row (⟨p.l.c.s, p.h.c.s, K1, K2⟩ : Iv)).toArray 46 (0, 0)) by have h := Blk.new ((w5.setCell ⟨wr.heap.size + 1, 2, none⟩ (.int .i64 K1)).setCell ⟨wr.heap.size + 1, 3, none⟩ (.int .i64 K2)) (Iv.row (⟨p.l.c.s, p.h.c.s, K1, K2⟩ : Iv)).toArray 46; unfold Blk at h; rw [hszz] at h; exact h)
   have Hown4a := hI (own_below Hown4.out (below1 _ (.cells (Iv.row (⟨p.l.c.s, p.h.c.s, K1, K2⟩ : Iv)).toArray 46)))
   clear hszz
   go_wp2_with (at_builtin; refine wpAppL EI (by decide) (Iv.row (⟨p.l.c.s, p.h.c.s, K1, K2⟩ : Iv)) rfl _ _ rfl w.heap.size _ _ _ _ rfl rfl Hown4a.out Hblk.out rfl (one4 _) (by omega) (by decide) (Nat.le_trans Hb8.out.size (below1 _ _).size) ?_; intro gg cap' w6 hown' hg' _ _; have Hbw3 := hI (below_app Hb8.out Hown4.out hg' Hb8.out.size); have Hown5 := hI hown'; clear hown' hg')
   go_roundw
   case rel => exact ⟨k + 1, by omega, by go_num, Hbw3.out, by have := Hown5.out; rw [← Hiv.out, Htk.out] at this; exact this⟩
   case measure => simp [intOf] <;> omega
  ·obtain rfl : k = n := by omega
   have hkn : ¬ (k : Int) < (k : Int) := by omega
   obtain ⟨aa, cap, rfl, -, -⟩ := own_open hown
   have hprt := own_ivs hown
   rw [List.take_of_length_le (by rw [Hln.out]; exact Nat.le_refl _)] at hprt
   have Hprt := hI hprt
   have Hbw := hI hbw
   clear hown hprt hbw
   go_wp2_with fail
   go_ret
   exact ⟨_, rfl, ⟨aa, cap, rfl, Hprt.out⟩, Hbw.out⟩
end Go.Proofs.YtacihodamichhaaGreatDoor
namespace Go.Proofs.YtacihodamichhaaGreatDoor
open Go.RowKit
theorem ED : ElemTy 135 3 1 8 := ⟨Tryz.underlying135, by kernel_rfl⟩
theorem EB : ElemTy 175 5 1 1 := ⟨Tryz.underlying175, by kernel_rfl⟩
def bytesD (d : List Nat) : List UInt8 := (d.map fun x => UInt8.ofNat (48 + x)).reverse
def natsI (d : List Nat) : List Int := d.map fun x : Nat => (x : Int)
end Go.Proofs.YtacihodamichhaaGreatDoor
namespace Go.Proofs.YtacihodamichhaaGreatDoor
open Go.RowKit
def dD (n k : Nat) : List Nat := (List.range k).map fun i => n / 10 ^ i % 10
def nd (n : Nat) : Nat := if n = 0 then 0 else if n < 10 then 1 else if n < 100 then 2 else 3
def refL (n : Nat) : List UInt8 := if dD n (nd n) = [] then [48] else bytesD (dD n (nd n))
end Go.Proofs.YtacihodamichhaaGreatDoor
