/-
  The parts of a set.
-/
import Derived.Test.YtfmgjcgcocidfaaGreatDoorPrw
namespace Go.Proofs.YtfmgjcgcocidfaaGreatDoor
open Go.RowKit

theorem geti {α : Type} {l : List α} {k : Nat} {x : α} (h : l[k]? = some x) : l.take (k + 1) = l.take k ++ [x] := by rw [List.take_add_one, h]; rfl

set_option maxHeartbeats 16000000 in
set_option maxRecDepth 10000 in
theorem parts_any (v : Value) (xs : List Iv) (w : World) (h : Ivs w v xs) (hok : ∀ x ∈ xs, x.ok) (hset : SetOk (xs.map Iv.cuts)) (hn : xs.length ≤ 256) :
    Calls Tryz.prog 26 #[v] w (RetP (fun v w' => ∃ a c, ∃ ps : List PP, v = .tuple #[.slice a ps.length c, .int .i64 0] ∧ Parts w' (.slice a ps.length c) ps ∧ ps.map PP.cuts = xs.map Iv.cuts) w) := by
  obtain ⟨a, c, rfl, hc1, hc2⟩ := h.open
  unfold maxLen at hc2
  have HX := Lib.hid h
  have Hok := Lib.hid hok
  have Hset := Lib.hid hset
  clear h hok hset
  generalize hln : xs.length = n at *
  have Hln := Lib.hid hln
  clear hln
  have hn2 : ¬ (256 : Int) < (n : Int) := by omega
  have HN := Lib.hid (fun W : World => World.ownsRow_nil W w.heap.size 54 14)
  go_enter Tryz.func26, Tryz.ntmps26
  go_wp2_with fail
  go_loopw [14, 4] (fun i out wr => ∃ (k : Nat) (ps : List PP), k ≤ n ∧ i = .int .i64 (k : Int) ∧ Below w.heap.size w wr ∧ wr.ownsRow w.heap.size 54 14 out k ((ps.map PP.row).flatten) ∧ Hid (ps.length = k ∧ ps.map PP.cuts = (xs.take k).map Iv.cuts ∧ ∀ p ∈ ps, p.ok wr)) (fun i _ _ => n - (intOf i).toNat)
  case atStart => exact ⟨0, [], by omega, rfl, Below.refl _ _, HN.out _, rfl, rfl, fun p hp => by cases hp⟩
  case round =>
    obtain ⟨k, ps, hk, rfl, hbw, hown, hps⟩ := hrel
    rcases Nat.lt_or_ge k n with hlt | hge
    · obtain ⟨b, off, x, rfl, hx, c0, c1, c2, c3⟩ := HX.out.at hbw hlt
      have hkn : (k : Int) < (n : Int) := by omega
      have hik : IntKind.i64.wrap ((k : Int) + 1) = (k : Int) + 1 := IntWalk.i64_in _ (by omega)
      have Hxc := Lib.hid (show (xs.take (k + 1)).map Iv.cuts = (xs.take k).map Iv.cuts ++ [x.cuts] by rw [geti hx, List.map_append]; rfl)
      have hlh : cmpC x.low x.high < 0 := Hset.out.1 k x.cuts (by rw [List.getElem?_map, hx]; rfl)
      have H1 := Lib.hid (fun w' => parse_iv x w' (Hok.out x (List.mem_of_getElem? hx)))
      have Hx := Lib.hid hx
      have Hbw := Lib.hid hbw
      have Hown := Lib.hid hown
      unfold Iv.agg at H1
      generalize hR : cmpC x.low x.high = R at *
      have hR2 : ¬ 0 ≤ R := by omega
      have HR := Lib.hid hR
      clear hx hbw hown hlh hR
      go_wp2_with (first
        | (go_at_call 18; refine (H1.out _).mono ?_; rintro e w2 ⟨v2, rfl, ⟨k1, k2, rfl, hc1, hc2, hk1, hk2⟩, hb2⟩; obtain ⟨⟨b1, s1, d1⟩, x1, a1, n1, c1'⟩ := k1; obtain ⟨⟨b2, s2, d2⟩, x2, a2, n2, c2'⟩ := k2; have Hc1 := Lib.hid hc1; have Hc2 := Lib.hid hc2; have Hb2 := Lib.hid (Hbw.out.via (bw_via (below1 wr (.cells #[.string x.lo, .string x.hi, .int .i64 x.le, .int .i64 x.he] 27)) hb2) Hbw.out.size); have Hkk := Lib.hid (And.intro (hk1.mono (below1 w2 (.cells #[.int .i64 b1, .string s1, .int .i64 d1, .bool x1, .slice a1 n1 c1', .bool false, .slice none 0 0, .int .i64 b2, .string s2, .int .i64 d2, .bool x2, .slice a2 n2 c2', .bool false, .slice none 0 0] 54))) (hk2.mono (below1 w2 (.cells #[.int .i64 b1, .string s1, .int .i64 d1, .bool x1, .slice a1 n1 c1', .bool false, .slice none 0 0, .int .i64 b2, .string s2, .int .i64 d2, .bool x2, .slice a2 n2 c2', .bool false, .slice none 0 0] 54)))); have HP2 := Lib.hid (Blk.new w2 #[.int .i64 b1, .string s1, .int .i64 d1, .bool x1, .slice a1 n1 c1', .bool false, .slice none 0 0, .int .i64 b2, .string s2, .int .i64 d2, .bool x2, .slice a2 n2 c2', .bool false, .slice none 0 0] 54); have Hb2' := Lib.hid (bw_via (bw_via (below1 wr (.cells #[.string x.lo, .string x.hi, .int .i64 x.le, .int .i64 x.he] 27)) hb2) (below1 w2 (.cells #[.int .i64 b1, .string s1, .int .i64 d1, .bool x1, .slice a1 n1 c1', .bool false, .slice none 0 0, .int .i64 b2, .string s2, .int .i64 d2, .bool x2, .slice a2 n2 c2', .bool false, .slice none 0 0] 54))); unfold pagg; clear hc1 hc2 hk1 hk2 hb2)
        | (go_at_call 19; refine (cutcmp_d ⟨⟨b1, s1, d1⟩, x1, a1, n1, c1'⟩ ⟨⟨b2, s2, d2⟩, x2, a2, n2, c2'⟩ _ Hkk.out.1 Hkk.out.2).mono ?_; rintro e w3 ⟨rfl, hb3⟩; rw [show cmpC (CC.c ⟨⟨b1, s1, d1⟩, x1, a1, n1, c1'⟩) (CC.c ⟨⟨b2, s2, d2⟩, x2, a2, n2, c2'⟩) = R by rw [Hc1.out, Hc2.out, HR.out]]; have Hb3 := Lib.hid hb3.1; clear hb3))
      rcases k with _ | j
      · refine wp_region_held_drew (S := (fun _ => True)) (by kernel_rfl) (by exact trivial) (fun hHeld => ?_)
        refine wpAnyH_take (i := 0) (v := ?v1) rfl (by kernel_rfl) (by kernel_rfl) (by kernel_rfl) (fun _ _ _ h => h) (Or.inl ⟨by rfl, ?hy1⟩) (by assumption) ?rest1
        case hy1 => (intro w hSw; (try dsimp only at hSw); go_simp; try (with_reducible rfl))
        try simp only [Act.put, List.getElem_toArray, List.getElem_cons_zero, List.getElem_cons_succ, List.setIfInBounds_toArray, List.set_cons_zero, List.set_cons_succ]
        refine wpAnyH_take (i := 1) (v := ?v2) rfl (by kernel_rfl) (by kernel_rfl) (by kernel_rfl) (fun _ _ _ h => h) (Or.inl ⟨by rfl, ?hy2⟩) (by assumption) ?rest2
        case hy2 => (intro w hSw; (try dsimp only at hSw); go_simp; try (with_reducible rfl))
        try simp only [Act.put, List.getElem_toArray, List.getElem_cons_zero, List.getElem_cons_succ, List.setIfInBounds_toArray, List.set_cons_zero, List.set_cons_succ]
        refine wpAnyH_take (i := 2) (v := ?v3) rfl (by kernel_rfl) (by kernel_rfl) (by kernel_rfl) (fun _ _ _ h => h) (Or.inl ⟨by rfl, ?hy3⟩) (by assumption) ?rest3
        case hy3 => (intro w hSw; (try dsimp only at hSw); go_simp; try (with_reducible rfl))
        try simp only [Act.put, List.getElem_toArray, List.getElem_cons_zero, List.getElem_cons_succ, List.setIfInBounds_toArray, List.set_cons_zero, List.set_cons_succ]
        refine wpAnyH_take (i := 3) (v := undef) rfl (by kernel_rfl) (by kernel_rfl) (by kernel_rfl) (fun _ _ _ h => h) (Or.inr ⟨by rfl, rfl⟩) (by assumption) ?_
        try simp only [Act.put, List.getElem_toArray, List.getElem_cons_zero, List.getElem_cons_succ, List.setIfInBounds_toArray, List.set_cons_zero, List.set_cons_succ]
        refine wpAnyH_take (i := 4) (v := undef) rfl (by kernel_rfl) (by kernel_rfl) (by kernel_rfl) (fun _ _ _ h => h) (Or.inr ⟨by rfl, rfl⟩) (by assumption) ?_
        try simp only [Act.put, List.getElem_toArray, List.getElem_cons_zero, List.getElem_cons_succ, List.setIfInBounds_toArray, List.set_cons_zero, List.set_cons_succ]
        refine wpAnyH_take (i := 5) (v := undef) rfl (by kernel_rfl) (by kernel_rfl) (by kernel_rfl) (fun _ _ _ h => h) (Or.inr ⟨by rfl, rfl⟩) (by assumption) ?_
        try simp only [Act.put, List.getElem_toArray, List.getElem_cons_zero, List.getElem_cons_succ, List.setIfInBounds_toArray, List.set_cons_zero, List.set_cons_succ]
        refine wpAnyH_take (i := 6) (v := undef) rfl (by kernel_rfl) (by kernel_rfl) (by kernel_rfl) (fun _ _ _ h => h) (Or.inr ⟨by rfl, rfl⟩) (by assumption) ?_
        try simp only [Act.put, List.getElem_toArray, List.getElem_cons_zero, List.getElem_cons_succ, List.setIfInBounds_toArray, List.set_cons_zero, List.set_cons_succ]
        refine wpAnyH_take (i := 7) (v := undef) rfl (by kernel_rfl) (by kernel_rfl) (by kernel_rfl) (fun _ _ _ h => h) (Or.inr ⟨by rfl, rfl⟩) (by assumption) ?_
        try simp only [Act.put, List.getElem_toArray, List.getElem_cons_zero, List.getElem_cons_succ, List.setIfInBounds_toArray, List.set_cons_zero, List.set_cons_succ]
        refine wpAnyH_take (i := 8) (v := undef) rfl (by kernel_rfl) (by kernel_rfl) (by kernel_rfl) (fun _ _ _ h => h) (Or.inr ⟨by rfl, rfl⟩) (by assumption) ?_
        try simp only [Act.put, List.getElem_toArray, List.getElem_cons_zero, List.getElem_cons_succ, List.setIfInBounds_toArray, List.set_cons_zero, List.set_cons_succ]
        refine wpAnyH_take (i := 9) (v := undef) rfl (by kernel_rfl) (by kernel_rfl) (by kernel_rfl) (fun _ _ _ h => h) (Or.inr ⟨by rfl, rfl⟩) (by assumption) ?_
        try simp only [Act.put, List.getElem_toArray, List.getElem_cons_zero, List.getElem_cons_succ, List.setIfInBounds_toArray, List.set_cons_zero, List.set_cons_succ]
        refine wpAnyH_take (i := 10) (v := undef) rfl (by kernel_rfl) (by kernel_rfl) (by kernel_rfl) (fun _ _ _ h => h) (Or.inr ⟨by rfl, rfl⟩) (by assumption) ?_
        try simp only [Act.put, List.getElem_toArray, List.getElem_cons_zero, List.getElem_cons_succ, List.setIfInBounds_toArray, List.set_cons_zero, List.set_cons_succ]
        refine wpAnyH_take (i := 11) (v := undef) rfl (by kernel_rfl) (by kernel_rfl) (by kernel_rfl) (fun _ _ _ h => h) (Or.inr ⟨by rfl, rfl⟩) (by assumption) ?_
        try simp only [Act.put, List.getElem_toArray, List.getElem_cons_zero, List.getElem_cons_succ, List.setIfInBounds_toArray, List.set_cons_zero, List.set_cons_succ]
        refine wpAnyH_take (i := 12) (v := undef) rfl (by kernel_rfl) (by kernel_rfl) (by kernel_rfl) (fun _ _ _ h => h) (Or.inr ⟨by rfl, rfl⟩) (by assumption) ?_
        try simp only [Act.put, List.getElem_toArray, List.getElem_cons_zero, List.getElem_cons_succ, List.setIfInBounds_toArray, List.set_cons_zero, List.set_cons_succ]
        refine wpAnyH_take (i := 13) (v := ?v14) rfl (by kernel_rfl) (by kernel_rfl) (by kernel_rfl) (fun _ _ _ h => h) (Or.inl ⟨by rfl, ?hy14⟩) (by assumption) ?rest14
        case hy14 => (intro w hSw; (try dsimp only at hSw); go_simp; try (with_reducible rfl))
        try simp only [Act.put, List.getElem_toArray, List.getElem_cons_zero, List.getElem_cons_succ, List.setIfInBounds_toArray, List.set_cons_zero, List.set_cons_succ]
        refine wpAnyH_take (i := 14) (v := ?v15) rfl (by kernel_rfl) (by kernel_rfl) (by kernel_rfl) (fun _ _ _ h => h) (Or.inl ⟨by rfl, ?hy15⟩) (by assumption) ?rest15
        case hy15 => (intro w hSw; (try dsimp only at hSw); go_simp; try (with_reducible rfl))
        try simp only [Act.put, List.getElem_toArray, List.getElem_cons_zero, List.getElem_cons_succ, List.setIfInBounds_toArray, List.set_cons_zero, List.set_cons_succ]
        refine wpAnyH_done (by kernel_rfl) ?_ _
        have Hc9 := Lib.hid ((Hb3.out).dn 1)
        have hP3 := cells14 HP2.out (Hb3.out)
        obtain ⟨p0, p1, p2, p3, p4, p5, p6, p7, p8, p9, p10, p11, p12, p13⟩ := hP3
        have hb4 := Hbw.out.via (bw_via Hb2'.out (Hc9.out)) Hbw.out.size
        have hown4 := own_below Hown.out (bw_via Hb2'.out (Hc9.out))
        have Hb4 := Lib.hid hb4
        have Hown4 := Lib.hid hown4
        clear hb4 hown4
        go_wp2_with (at_builtin; refine wpApp EP (by decide) (PP.row (⟨⟨⟨b1, s1, d1⟩, x1, a1, n1, c1'⟩, ⟨⟨b2, s2, d2⟩, x2, a2, n2, c2'⟩⟩ : PP)) rfl _ _ rfl w.heap.size _ _ _ rfl rfl Hown4.out rfl (one14 (⟨⟨⟨b1, s1, d1⟩, x1, a1, n1, c1'⟩, ⟨⟨b2, s2, d2⟩, x2, a2, n2, c2'⟩⟩ : PP)) (by omega) (by decide) Hb4.out.size ?_; intro v' w5 hown' hg'; have Hbw3 := Lib.hid (below_app Hb4.out Hown4.out hg' Hb4.out.size); have Hown5 := Lib.hid hown'; have Hg5 := Lib.hid hg'; clear hown' hg')
        go_roundw
        case rel =>
          have hbc := bw_via Hb2'.out (Hc9.out)
          refine ⟨0 + 1, ps ++ [(⟨⟨⟨b1, s1, d1⟩, x1, a1, n1, c1'⟩, ⟨⟨b2, s2, d2⟩, x2, a2, n2, c2'⟩⟩ : PP)], by omega, by go_num, Hbw3.out, by have := Hown5.out; rw [rows_flat] at this; exact this, by rw [List.length_append, hps.out.1]; rfl, ?_, ?_⟩
          · rw [List.map_append, hps.out.2.1, Hxc.out, List.map_cons, List.map_nil]
            congr 2
            unfold PP.cuts Iv.cuts
            rw [Hc1.out, Hc2.out]
          · intro q hq
            rcases List.mem_append.1 hq with h | h
            · exact ((hps.out.2.2 q h).mono hbc).app Hown4.out (by decide) Hg5.out
            · cases List.mem_singleton.1 h
              exact PP.ok.app (⟨Hkk.out.1.mono (Hc9.out), Hkk.out.2.mono (Hc9.out)⟩ : PP.ok _ (⟨⟨⟨b1, s1, d1⟩, x1, a1, n1, c1'⟩, ⟨⟨b2, s2, d2⟩, x2, a2, n2, c2'⟩⟩ : PP)) Hown4.out (by decide) Hg5.out
        case measure => simp [intOf] <;> omega
      · have hln2 := hps.out.1
        obtain ⟨aa, cap, rfl, -, -⟩ := own_open Hown.out
        obtain ⟨g, rfl⟩ := own_some Hown.out (by omega)
        have hb23 := bw_via Hb2'.out Hb3.out
        have hprt := own_parts (own_below Hown.out hb23) (fun q hq => (hps.out.2.2 q hq).mono hb23)
        obtain ⟨gg, oo, p, ha, hp, hpok, hpc⟩ := Parts.at hprt (Below.refl _ _) (show j < j + 1 by omega)
        cases ha
        rw [Nat.zero_add] at hpc
        have hl14 := cells14 HP2.out Hb3.out
        have HSx := Lib.hid (fun w' (hb : Below w3.heap.size w3 w') => show w'.cell? ⟨g, j * 14 + 7, none⟩ = some (.int .i64 p.h.c.b) ∧ w'.cell? ⟨g, j * 14 + 8, none⟩ = some (.string p.h.c.s) ∧ w'.cell? ⟨g, j * 14 + 9, none⟩ = some (.int .i64 p.h.c.d) ∧ w'.cell? ⟨g, j * 14 + 10, none⟩ = some (.bool p.h.x) ∧ w'.cell? ⟨g, j * 14 + 11, none⟩ = some (.slice p.h.a p.h.n p.h.cap) ∧ w'.cell? ⟨g, j * 14 + 12, none⟩ = some (.bool false) ∧ w'.cell? ⟨g, j * 14 + 13, none⟩ = some (.slice none 0 0) ∧ w'.cell? ⟨w2.heap.size, 0, none⟩ = some (.int .i64 b1) ∧ w'.cell? ⟨w2.heap.size, 1, none⟩ = some (.string s1) ∧ w'.cell? ⟨w2.heap.size, 2, none⟩ = some (.int .i64 d1) ∧ w'.cell? ⟨w2.heap.size, 3, none⟩ = some (.bool x1) ∧ w'.cell? ⟨w2.heap.size, 4, none⟩ = some (.slice a1 n1 c1') ∧ w'.cell? ⟨w2.heap.size, 5, none⟩ = some (.bool false) ∧ w'.cell? ⟨w2.heap.size, 6, none⟩ = some (.slice none 0 0) from ⟨cell_keep hb hpc.2.2.2.2.2.2.2.1, cell_keep hb hpc.2.2.2.2.2.2.2.2.1, cell_keep hb hpc.2.2.2.2.2.2.2.2.2.1, cell_keep hb hpc.2.2.2.2.2.2.2.2.2.2.1, cell_keep hb hpc.2.2.2.2.2.2.2.2.2.2.2.1, cell_keep hb hpc.2.2.2.2.2.2.2.2.2.2.2.2.1, cell_keep hb hpc.2.2.2.2.2.2.2.2.2.2.2.2.2, cell_keep hb hl14.1, cell_keep hb hl14.2.1, cell_keep hb hl14.2.2.1, cell_keep hb hl14.2.2.2.1, cell_keep hb hl14.2.2.2.2.1, cell_keep hb hl14.2.2.2.2.2.1, cell_keep hb hl14.2.2.2.2.2.2.1⟩)
        have Hpok := Lib.hid (And.intro hpok.2 (Hkk.out.1.mono Hb3.out))
        have H4 := Lib.hid (fun w' (hb : Below w3.heap.size w3 w') => cutcmp_d p.h ⟨⟨b1, s1, d1⟩, x1, a1, n1, c1'⟩ w' (Hpok.out.1.mono hb) (Hpok.out.2.mono hb))
        have hpx : cmpC p.h.c x.low < 0 := Hset.out.2 j p.cuts x.cuts (by
            have h1 : (ps.map PP.cuts)[j]? = some p.cuts := by rw [List.getElem?_map, hp]; rfl
            rw [hps.out.2.1, List.map_take, List.getElem?_take_of_lt (by omega)] at h1
            exact h1) (by rw [List.getElem?_map, Hx.out]; rfl)
        rw [show cmpC p.h.c (CC.c ⟨⟨b1, s1, d1⟩, x1, a1, n1, c1'⟩) = cmpC p.h.c x.low by rw [Hc1.out]] at H4
        generalize cmpC p.h.c x.low = R2 at *
        have hR22 : ¬ 0 ≤ R2 := by omega
        have hj1 : (0 : Int) < ((j + 1 : Nat) : Int) := by omega
        have hj2 : IntKind.i64.wrap (j : Int) = j := IntWalk.i64_in _ (by omega)
        have hj3 : (((j + 1 : Nat) : Int) - 1) = (j : Int) := by omega
        have hj4 : (j : Int) < ((j + 1 : Nat) : Int) := by omega
        have hj5 : (0 : Int) ≤ (j : Int) := by omega
        have hj6 : (j : Int) < (j : Int) + 1 := by omega
        have hj7 : (0 : Int) < (j : Int) + 1 := by omega
        unfold CC.agg at H4
        dsimp only at H4
        clear hb23 hprt hp hpok hpc hl14 hpx hln2
        refine wp_region_held_drew (S := (fun w' => w'.cell? ⟨g, j * 14 + 7, none⟩ = some (.int .i64 p.h.c.b) ∧ w'.cell? ⟨g, j * 14 + 8, none⟩ = some (.string p.h.c.s) ∧ w'.cell? ⟨g, j * 14 + 9, none⟩ = some (.int .i64 p.h.c.d) ∧ w'.cell? ⟨g, j * 14 + 10, none⟩ = some (.bool p.h.x) ∧ w'.cell? ⟨g, j * 14 + 11, none⟩ = some (.slice p.h.a p.h.n p.h.cap) ∧ w'.cell? ⟨g, j * 14 + 12, none⟩ = some (.bool false) ∧ w'.cell? ⟨g, j * 14 + 13, none⟩ = some (.slice none 0 0) ∧ w'.cell? ⟨w2.heap.size, 0, none⟩ = some (.int .i64 b1) ∧ w'.cell? ⟨w2.heap.size, 1, none⟩ = some (.string s1) ∧ w'.cell? ⟨w2.heap.size, 2, none⟩ = some (.int .i64 d1) ∧ w'.cell? ⟨w2.heap.size, 3, none⟩ = some (.bool x1) ∧ w'.cell? ⟨w2.heap.size, 4, none⟩ = some (.slice a1 n1 c1') ∧ w'.cell? ⟨w2.heap.size, 5, none⟩ = some (.bool false) ∧ w'.cell? ⟨w2.heap.size, 6, none⟩ = some (.slice none 0 0))) (by kernel_rfl) (by exact HSx.out _ ((Below.refl _ _).dn 1)) (fun hHeld => ?_)
        refine wpAnyH_take (i := 0) (v := ?v16) rfl (by kernel_rfl) (by kernel_rfl) (by kernel_rfl) (fun _ _ _ h => h) (Or.inl ⟨by rfl, ?hy16⟩) (by assumption) ?rest16
        case hy16 => (intro w hSw; (try dsimp only at hSw); go_simp; try (with_reducible rfl))
        try simp only [Act.put, List.getElem_toArray, List.getElem_cons_zero, List.getElem_cons_succ, List.setIfInBounds_toArray, List.set_cons_zero, List.set_cons_succ]
        refine wpAnyH_take (i := 1) (v := ?v17) rfl (by kernel_rfl) (by kernel_rfl) (by kernel_rfl) (fun _ _ _ h => h) (Or.inl ⟨by rfl, ?hy17⟩) (by assumption) ?rest17
        case hy17 => (intro w hSw; (try dsimp only at hSw); go_simp; try (with_reducible rfl))
        try simp only [Act.put, List.getElem_toArray, List.getElem_cons_zero, List.getElem_cons_succ, List.setIfInBounds_toArray, List.set_cons_zero, List.set_cons_succ]
        refine wpAnyH_take (i := 2) (v := ?v18) rfl (by kernel_rfl) (by kernel_rfl) (by kernel_rfl) (fun _ _ _ h => h) (Or.inl ⟨by rfl, ?hy18⟩) (by assumption) ?rest18
        case hy18 => (intro w hSw; (try dsimp only at hSw); go_simp; try (with_reducible rfl))
        try simp only [Act.put, List.getElem_toArray, List.getElem_cons_zero, List.getElem_cons_succ, List.setIfInBounds_toArray, List.set_cons_zero, List.set_cons_succ]
        refine wpAnyH_take (i := 3) (v := ?v19) rfl (by kernel_rfl) (by kernel_rfl) (by kernel_rfl) (fun _ _ _ h => h) (Or.inl ⟨by rfl, ?hy19⟩) (by assumption) ?rest19
        case hy19 => (intro w hSw; (try dsimp only at hSw); go_simp; try (with_reducible rfl))
        try simp only [Act.put, List.getElem_toArray, List.getElem_cons_zero, List.getElem_cons_succ, List.setIfInBounds_toArray, List.set_cons_zero, List.set_cons_succ]
        refine wpAnyH_take (i := 4) (v := ?v20) rfl (by kernel_rfl) (by kernel_rfl) (by kernel_rfl) (fun _ _ _ h => h) (Or.inl ⟨by rfl, ?hy20⟩) (by assumption) ?rest20
        case hy20 => (intro w hSw; (try dsimp only at hSw); go_simp; try (with_reducible rfl))
        try simp only [Act.put, List.getElem_toArray, List.getElem_cons_zero, List.getElem_cons_succ, List.setIfInBounds_toArray, List.set_cons_zero, List.set_cons_succ]
        refine wpAnyH_take (i := 5) (v := ?v21) rfl (by kernel_rfl) (by kernel_rfl) (by kernel_rfl) (fun _ _ _ h => h) (Or.inl ⟨by rfl, ?hy21⟩) (by assumption) ?rest21
        case hy21 => (intro w hSw; (try dsimp only at hSw); go_simp; try (with_reducible rfl))
        try simp only [Act.put, List.getElem_toArray, List.getElem_cons_zero, List.getElem_cons_succ, List.setIfInBounds_toArray, List.set_cons_zero, List.set_cons_succ]
        refine wpAnyH_take (i := 6) (v := ?v22) rfl (by kernel_rfl) (by kernel_rfl) (by kernel_rfl) (fun _ _ _ h => h) (Or.inl ⟨by rfl, ?hy22⟩) (by assumption) ?rest22
        case hy22 => (intro w hSw; (try dsimp only at hSw); go_simp; try (with_reducible rfl))
        try simp only [Act.put, List.getElem_toArray, List.getElem_cons_zero, List.getElem_cons_succ, List.setIfInBounds_toArray, List.set_cons_zero, List.set_cons_succ]
        refine wpAnyH_take (i := 7) (v := ?v23) rfl (by kernel_rfl) (by kernel_rfl) (by kernel_rfl) (fun _ _ _ h => h) (Or.inl ⟨by rfl, ?hy23⟩) (by assumption) ?rest23
        case hy23 => (intro w hSw; (try dsimp only at hSw); go_simp; try (with_reducible rfl))
        try simp only [Act.put, List.getElem_toArray, List.getElem_cons_zero, List.getElem_cons_succ, List.setIfInBounds_toArray, List.set_cons_zero, List.set_cons_succ]
        refine wpAnyH_take (i := 8) (v := ?v24) rfl (by kernel_rfl) (by kernel_rfl) (by kernel_rfl) (fun _ _ _ h => h) (Or.inl ⟨by rfl, ?hy24⟩) (by assumption) ?rest24
        case hy24 => (intro w hSw; (try dsimp only at hSw); go_simp; try (with_reducible rfl))
        try simp only [Act.put, List.getElem_toArray, List.getElem_cons_zero, List.getElem_cons_succ, List.setIfInBounds_toArray, List.set_cons_zero, List.set_cons_succ]
        refine wpAnyH_take (i := 9) (v := ?v25) rfl (by kernel_rfl) (by kernel_rfl) (by kernel_rfl) (fun _ _ _ h => h) (Or.inl ⟨by rfl, ?hy25⟩) (by assumption) ?rest25
        case hy25 => (intro w hSw; (try dsimp only at hSw); go_simp; try (with_reducible rfl))
        try simp only [Act.put, List.getElem_toArray, List.getElem_cons_zero, List.getElem_cons_succ, List.setIfInBounds_toArray, List.set_cons_zero, List.set_cons_succ]
        refine wpAnyH_take (i := 10) (v := ?v26) rfl (by kernel_rfl) (by kernel_rfl) (by kernel_rfl) (fun _ _ _ h => h) (Or.inl ⟨by rfl, ?hy26⟩) (by assumption) ?rest26
        case hy26 => (intro w hSw; (try dsimp only at hSw); go_simp; try (with_reducible rfl))
        try simp only [Act.put, List.getElem_toArray, List.getElem_cons_zero, List.getElem_cons_succ, List.setIfInBounds_toArray, List.set_cons_zero, List.set_cons_succ]
        refine wpAnyH_ready (rs := [11]) (by kernel_rfl) (by simp) ?_
        refine AllReadyH.cons rfl (fun K hK => ?_) AllReadyH.nil
        go_simp
        go_at_call 19
        refine (H4.out _ ((Below.refl _ _).dn 1)).mono ?_
        rintro e5 w11 ⟨rfl, hb11', -⟩
        have hb11 := hb11'
        have Hb11 := Lib.hid (bw_via ((Below.refl _ _).dn 1) hb11)
        clear hb11 hb11'
        refine hK.out _ _ (by exact HSx.out _ (Hb11.out)) (fun hHeld => ?_)
        clear hK K
        try simp only [Act.put, List.setIfInBounds_toArray, List.set_cons_zero, List.set_cons_succ]
        refine wpAnyH_take (i := 12) (v := ?v27) rfl (by kernel_rfl) (by kernel_rfl) (by kernel_rfl) (fun _ _ _ h => h) (Or.inl ⟨by rfl, ?hy27⟩) (by assumption) ?rest27
        case hy27 => (intro w hSw; (try dsimp only at hSw); go_simp; try (with_reducible rfl))
        try simp only [Act.put, List.getElem_toArray, List.getElem_cons_zero, List.getElem_cons_succ, List.setIfInBounds_toArray, List.set_cons_zero, List.set_cons_succ]
        refine wpAnyH_take (i := 13) (v := ?v28) rfl (by kernel_rfl) (by kernel_rfl) (by kernel_rfl) (fun _ _ _ h => h) (Or.inl ⟨by rfl, ?hy28⟩) (by assumption) ?rest28
        case hy28 => (intro w hSw; (try dsimp only at hSw); go_simp; try (with_reducible rfl))
        try simp only [Act.put, List.getElem_toArray, List.getElem_cons_zero, List.getElem_cons_succ, List.setIfInBounds_toArray, List.set_cons_zero, List.set_cons_succ]
        refine wpAnyH_take (i := 14) (v := ?v29) rfl (by kernel_rfl) (by kernel_rfl) (by kernel_rfl) (fun _ _ _ h => h) (Or.inl ⟨by rfl, ?hy29⟩) (by assumption) ?rest29
        case hy29 => (intro w hSw; (try dsimp only at hSw); go_simp; try (with_reducible rfl))
        try simp only [Act.put, List.getElem_toArray, List.getElem_cons_zero, List.getElem_cons_succ, List.setIfInBounds_toArray, List.set_cons_zero, List.set_cons_succ]
        refine wpAnyH_done (by kernel_rfl) ?_ _
        have Hc9 := Lib.hid (bw_via Hb3.out Hb11.out)
        have hP3 := cells14 HP2.out (Hc9.out)
        obtain ⟨p0, p1, p2, p3, p4, p5, p6, p7, p8, p9, p10, p11, p12, p13⟩ := hP3
        have hb4 := Hbw.out.via (bw_via Hb2'.out (Hc9.out)) Hbw.out.size
        have hown4 := own_below Hown.out (bw_via Hb2'.out (Hc9.out))
        have Hb4 := Lib.hid hb4
        have Hown4 := Lib.hid hown4
        clear hb4 hown4
        go_wp2_with (at_builtin; refine wpApp EP (by decide) (PP.row (⟨⟨⟨b1, s1, d1⟩, x1, a1, n1, c1'⟩, ⟨⟨b2, s2, d2⟩, x2, a2, n2, c2'⟩⟩ : PP)) rfl _ _ rfl w.heap.size _ _ _ rfl rfl Hown4.out rfl (one14 (⟨⟨⟨b1, s1, d1⟩, x1, a1, n1, c1'⟩, ⟨⟨b2, s2, d2⟩, x2, a2, n2, c2'⟩⟩ : PP)) (by omega) (by decide) Hb4.out.size ?_; intro v' w5 hown' hg'; have Hbw3 := Lib.hid (below_app Hb4.out Hown4.out hg' Hb4.out.size); have Hown5 := Lib.hid hown'; have Hg5 := Lib.hid hg'; clear hown' hg')
        go_roundw
        case rel =>
          have hbc := bw_via Hb2'.out (Hc9.out)
          refine ⟨(j + 1) + 1, ps ++ [(⟨⟨⟨b1, s1, d1⟩, x1, a1, n1, c1'⟩, ⟨⟨b2, s2, d2⟩, x2, a2, n2, c2'⟩⟩ : PP)], by omega, by go_num, Hbw3.out, by have := Hown5.out; rw [rows_flat] at this; exact this, by rw [List.length_append, hps.out.1]; rfl, ?_, ?_⟩
          · rw [List.map_append, hps.out.2.1, Hxc.out, List.map_cons, List.map_nil]
            congr 2
            unfold PP.cuts Iv.cuts
            rw [Hc1.out, Hc2.out]
          · intro q hq
            rcases List.mem_append.1 hq with h | h
            · exact ((hps.out.2.2 q h).mono hbc).app Hown4.out (by decide) Hg5.out
            · cases List.mem_singleton.1 h
              exact PP.ok.app (⟨Hkk.out.1.mono (Hc9.out), Hkk.out.2.mono (Hc9.out)⟩ : PP.ok _ (⟨⟨⟨b1, s1, d1⟩, x1, a1, n1, c1'⟩, ⟨⟨b2, s2, d2⟩, x2, a2, n2, c2'⟩⟩ : PP)) Hown4.out (by decide) Hg5.out
        case measure => simp [intOf] <;> omega
    · obtain rfl : k = n := by omega
      have hkn : ¬ (k : Int) < (k : Int) := by omega
      obtain ⟨aa, cap, rfl, -, -⟩ := own_open hown
      have hprt := own_parts hown hps.out.2.2
      have hcu := hps.out.2.1
      rw [List.take_of_length_le (by rw [Hln.out]; exact Nat.le_refl _)] at hcu
      have Hprt := Lib.hid hprt
      have Hcu := Lib.hid hcu
      have Hbw := Lib.hid hbw
      clear hown hprt hcu hbw
      go_wp2_with fail
      go_ret2
      exact ⟨_, rfl, ⟨aa, cap, ps, by rw [hps.out.1]; rfl, by rw [hps.out.1]; exact Hprt.out, Hcu.out⟩, Hbw.out⟩

end Go.Proofs.YtfmgjcgcocidfaaGreatDoor
