/-
  Products: the program's product.
-/
import Derived.Test.YtkphggmbimjhjaaPf
namespace Go.Proofs.Ytkphggmbimjhjaa
open Go.RowKit

theorem blk9 {w : World} {b : Nat} {x0 x1 x2 x3 x4 x5 x6 x7 x8 : Value} {T : TypeId} (h : Blk w b #[x0, x1, x2, x3, x4, x5, x6, x7, x8] T) :
    w.cell? ⟨b, 0, none⟩ = some x0 ∧ w.cell? ⟨b, 1, none⟩ = some x1 ∧ w.cell? ⟨b, 2, none⟩ = some x2 ∧ w.cell? ⟨b, 3, none⟩ = some x3 ∧ w.cell? ⟨b, 4, none⟩ = some x4 ∧ w.cell? ⟨b, 5, none⟩ = some x5 ∧ w.cell? ⟨b, 6, none⟩ = some x6 ∧ w.cell? ⟨b, 7, none⟩ = some x7 ∧ w.cell? ⟨b, 8, none⟩ = some x8 :=
  ⟨h.cell 0, h.cell 1, h.cell 2, h.cell 3, h.cell 4, h.cell 5, h.cell 6, h.cell 7, h.cell 8⟩
theorem own_some {w : World} {B e sz n : Nat} {a : Option Addr} {c : Nat} {m : Nat} {xs : List Value} (h : w.ownsRow B e sz (.slice a m c) n xs) (hn : 0 < n) : ∃ g, a = some ⟨g, 0, none⟩ := by
  rcases h.2 with ⟨h1, h0⟩ | ⟨g, cap, cur, h1, _⟩
  · omega
  · cases h1; exact ⟨g, rfl⟩
theorem dim_cells {w : World} {B g n m cap : Nat} {ds : List Dim1} (h : w.ownsRow B 81 4 (.slice (some ⟨g, 0, none⟩) m cap) n (ds.map dimC).flatten) {i : Nat} (hi : i < m) :
    ∃ d : Dim1, (w.cell? ⟨g, i * 4, none⟩ = some (.string d.1) ∧ w.cell? ⟨g, i * 4 + 1, none⟩ = some (.int .i64 d.2.1) ∧ w.cell? ⟨g, i * 4 + 2, none⟩ = some (.int .i64 d.2.2.1) ∧ w.cell? ⟨g, i * 4 + 3, none⟩ = some (.int .i64 d.2.2.2)) ∧
      w.frozen? ⟨g, i * 4, none⟩ = false ∧ w.frozen? ⟨g, i * 4 + 1, none⟩ = false ∧ w.frozen? ⟨g, i * 4 + 2, none⟩ = false ∧ w.frozen? ⟨g, i * 4 + 3, none⟩ = false := by
  obtain ⟨b, off, d, ha, hd, hlt, c0, c1, c2, c3⟩ := (own_dims h).at (Below.refl _ _) hi
  cases ha
  rw [Nat.zero_add] at c0 c1 c2 c3
  refine ⟨d, ⟨c0, c1, c2, c3⟩, ?_⟩
  rcases h.2 with ⟨h1, h0⟩ | ⟨g', cap', cur, h1, hb, hg, _⟩
  · cases h1
  · cases h1
    exact ⟨frozen_of_row w g _ _ _ hg, frozen_of_row w g _ _ _ hg, frozen_of_row w g _ _ _ hg, frozen_of_row w g _ _ _ hg⟩
theorem PW.out {w0 w : World} {P : Nat} {nm : ByteArray} {v : Value} {ns : List ByteArray} {vd : Value} {ds : List Dim1} (h : PW w0 w P nm v ns vd ds) {R : Nat} (hR : R < w0.heap.size) (y0 y1 y2 y3 y4 y5 : Value) :
    Insts ((((((w.setCell ⟨R, 0, none⟩ y0).setCell ⟨R, 1, none⟩ y1).setCell ⟨R, 2, none⟩ y2).setCell ⟨R, 3, none⟩ y3).setCell ⟨R, 4, none⟩ y4).setCell ⟨R, 5, none⟩ y5) v ns ∧
    Dims ((((((w.setCell ⟨R, 0, none⟩ y0).setCell ⟨R, 1, none⟩ y1).setCell ⟨R, 2, none⟩ y2).setCell ⟨R, 3, none⟩ y3).setCell ⟨R, 4, none⟩ y4).setCell ⟨R, 5, none⟩ y5) vd ds :=
  ⟨own_insts (ownsRow_setCell_below (ownsRow_setCell_below (ownsRow_setCell_below (ownsRow_setCell_below (ownsRow_setCell_below (ownsRow_setCell_below h.ins (a := ⟨R, 0, none⟩) hR y0) (a := ⟨R, 1, none⟩) hR y1) (a := ⟨R, 2, none⟩) hR y2) (a := ⟨R, 3, none⟩) hR y3) (a := ⟨R, 4, none⟩) hR y4) (a := ⟨R, 5, none⟩) hR y5),
   own_dims (ownsRow_setCell_below (ownsRow_setCell_below (ownsRow_setCell_below (ownsRow_setCell_below (ownsRow_setCell_below (ownsRow_setCell_below h.dms (a := ⟨R, 0, none⟩) hR y0) (a := ⟨R, 1, none⟩) hR y1) (a := ⟨R, 2, none⟩) hR y2) (a := ⟨R, 3, none⟩) hR y3) (a := ⟨R, 4, none⟩) hR y4) (a := ⟨R, 5, none⟩) hR y5)⟩

abbrev z35 : Array Value := #[.string ⟨#[]⟩, .slice none 0 0, .slice none 0 0, .slice none 0 0, .slice none 0 0, .slice none 0 0]

set_option maxHeartbeats 4000000 in
set_option maxRecDepth 100000 in
theorem prod60 (c : Int) (nm : ByteArray) (q7 q8 : Value) (ai ad a9 a10 : Option Addr) (ni nd n9 n10 ci cd c9 c10 : Nat) (ns : List ByteArray) (ds : List Dim1) (gs : List Guard1) (os : List Ov1) (w : World)
    (hI : Insts w (.slice ai ni ci) ns) (hD : Dims w (.slice ad nd cd) ds) (hG : Gds w (.slice a9 n9 c9) gs) (hO : Ovs w (.slice a10 n10 c10) os) (hni : ns.length < 1000) (hnd : ds.length < 1000) (hgl : gs.length < 1000) (hol : os.length < 1000)
    (hgok : ∀ g ∈ gs, LitsOk 12 g.2 ∧ g.2.length < 1000) (hook : ∀ o ∈ os, LitsOk 12 o.1 ∧ o.1.length < 1000 ∧ ∃ k : Nat, o.2.1 = k ∧ k < ds.length) (hc : 0 ≤ c) (hc2 : c < 18446744073709551616) :
    Calls Try.prog 60 #[.agg #[.string nm, .slice none 0 0, .slice ai ni ci, .slice ad nd cd, .slice none 0 0, .slice none 0 0, q7, q8, .slice a9 n9 c9, .slice a10 n10 c10], .int .u64 c] w
      (fun e w' => ∃ v vd, e = .returned (.agg #[.string nm, .slice none 0 0, v, vd, .slice none 0 0, .slice none 0 0]) ∧ Insts w' v (insTo (fun i => !awayB (cHolds c) gs i) ns ns.length) ∧ Dims w' vd (ovrTo (cHolds c) os ds os.length) ∧ FreshV w.heap.size v ∧ FreshV w.heap.size vd ∧ Below w.heap.size w w') := by
  obtain ⟨_, _, hq, hi1, hi2⟩ := hI.open
  cases hq
  obtain ⟨_, _, hq, hd1, hd2⟩ := hD.open
  cases hq
  obtain ⟨_, _, hq, hg1, hg2⟩ := hG.open
  cases hq
  obtain ⟨_, _, hq, ho1, ho2⟩ := hO.open
  cases hq
  unfold maxLen at hi2 hd2 hg2 ho2
  have K3 := below3 w (.cells #[.string nm, .slice none 0 0, .slice ai ns.length ci, .slice ad ds.length cd, .slice none 0 0, .slice none 0 0, q7, q8, .slice a9 gs.length c9, .slice a10 os.length c10] 41) (.cells #[.int .u64 c] 109) (.cells z35 35)
  have H70 := Lib.hid (clone70 nm ai ad ns.length ds.length ci cd ns ds _ (hI.mono K3) (hD.mono K3) hni hnd)
  have hBF : Blk (((w.alloc (.cells #[.string nm, .slice none 0 0, .slice ai ns.length ci, .slice ad ds.length cd, .slice none 0 0, .slice none 0 0, q7, q8, .slice a9 gs.length c9, .slice a10 os.length c10] 41)).alloc (.cells #[.int .u64 c] 109)).alloc (.cells z35 35)) w.heap.size #[.string nm, .slice none 0 0, .slice ai ns.length ci, .slice ad ds.length cd, .slice none 0 0, .slice none 0 0, q7, q8, .slice a9 gs.length c9, .slice a10 os.length c10] 41 := ((Blk.new w _ 41).old _).old _
  have hBC : Blk (((w.alloc (.cells #[.string nm, .slice none 0 0, .slice ai ns.length ci, .slice ad ds.length cd, .slice none 0 0, .slice none 0 0, q7, q8, .slice a9 gs.length c9, .slice a10 os.length c10] 41)).alloc (.cells #[.int .u64 c] 109)).alloc (.cells z35 35)) (w.heap.size + 1) #[.int .u64 c] 109 := by
    have h := (Blk.new (w.alloc (.cells #[.string nm, .slice none 0 0, .slice ai ns.length ci, .slice ad ds.length cd, .slice none 0 0, .slice none 0 0, q7, q8, .slice a9 gs.length c9, .slice a10 os.length c10] 41)) #[.int .u64 c] 109).old (.cells z35 35)
    simpa using h
  have hBR : Blk (((w.alloc (.cells #[.string nm, .slice none 0 0, .slice ai ns.length ci, .slice ad ds.length cd, .slice none 0 0, .slice none 0 0, q7, q8, .slice a9 gs.length c9, .slice a10 os.length c10] 41)).alloc (.cells #[.int .u64 c] 109)).alloc (.cells z35 35)) (w.heap.size + 1 + 1) z35 35 := by
    have h := Blk.new ((w.alloc (.cells #[.string nm, .slice none 0 0, .slice ai ns.length ci, .slice ad ds.length cd, .slice none 0 0, .slice none 0 0, q7, q8, .slice a9 gs.length c9, .slice a10 os.length c10] 41)).alloc (.cells #[.int .u64 c] 109)) z35 35
    simpa using h
  have HBF := Lib.hid hBF
  have HBC := Lib.hid hBC
  have HBR := Lib.hid hBR
  have HK3 := Lib.hid K3
  have HI := Lib.hid hI
  have HG := Lib.hid hG
  have HO := Lib.hid hO
  have Hgok := Lib.hid hgok
  have Hook := Lib.hid hook
  clear hBF hBC hBR K3 hI hD hG hO hgok hook
  generalize hn1 : ns.length = n1 at *
  generalize hn2 : ds.length = n2 at *
  generalize hn3 : gs.length = n3 at *
  generalize hn4 : os.length = n4 at *
  have Hn1 := Lib.hid hn1
  have Hn2 := Lib.hid hn2
  have Hn3 := Lib.hid hn3
  have Hn4 := Lib.hid hn4
  clear hn1 hn2 hn3 hn4
  go_enter Try.func60, Try.ntmps60
  go_wp2_with (go_at_call 70; refine (H70.out).mono ?_; rintro e w1 ⟨a2, a3, p2, p3, rfl, hown3, hb1⟩; obtain ⟨f0, f1, f2, f3, f4, f5, f6, f7, f8, f9, -⟩ := blk10 (HBF.out.below hb1); have fb := World.block_lt_of_cell? _ _ f0)
  have hW3 : (((w.alloc (.cells #[.string nm, .slice none 0 0, .slice ai n1 ci, .slice ad n2 cd, .slice none 0 0, .slice none 0 0, q7, q8, .slice a9 n3 c9, .slice a10 n4 c10] 41)).alloc (.cells #[.int .u64 c] 109)).alloc (.cells z35 35)).heap.size = w.heap.size + 3 := by simp
  clear H70 fb f0 f1 f2 f3 f4 f5 f6 f7 f8 f9
  generalize ((w.alloc (.cells #[.string nm, .slice none 0 0, .slice ai n1 ci, .slice ad n2 cd, .slice none 0 0, .slice none 0 0, q7, q8, .slice a9 n3 c9, .slice a10 n4 c10] 41)).alloc (.cells #[.int .u64 c] 109)).alloc (.cells z35 35) = W3 at *
  have hp0 : PW W3 (w1.alloc (.cells #[.string nm, .slice none 0 0, .slice none 0 0, .slice a3 n2 p3, .slice none 0 0, .slice none 0 0] 35)) w1.heap.size nm (.slice none 0 0) [] (.slice a3 n2 p3) ds := ⟨Blk.new _ _ _, World.ownsRow_nil _ _ _ _, by rw [Hn2.out]; exact (own_base hown3 (by omega)).alloc _, by simp [Value.ownBlock], fun e => by have := (hown3.lt _ e).2; omega, hb1.alloc hb1.size _, hb1.size⟩
  generalize hP : w1.heap.size = P at *
  clear hP hown3 hb1
  generalize w1.alloc (.cells #[.string nm, .slice none 0 0, .slice none 0 0, .slice a3 n2 p3, .slice none 0 0, .slice none 0 0] 35) = W2 at *
  go_loopw [6, 7, 20] (fun _ _ i wr => ∃ (j : Nat) (la : Option Addr) (lc : Nat), j ≤ n1 ∧ i = .int .i64 j ∧ PW W3 wr P nm (.slice la (insTo (fun i => !awayB (cHolds c) gs i) ns j).length lc) (insTo (fun i => !awayB (cHolds c) gs i) ns j) (.slice a3 n2 p3) ds) (fun _ _ i _ => n1 - (intOf i).toNat)
  case atStart => exact ⟨0, none, 0, Nat.zero_le _, rfl, hp0⟩
  case round =>
    clear hp0
    obtain ⟨j, la, lc, hj, rfl, hpw⟩ := hrel
    obtain ⟨f0, f1, f2, f3, f4, f5, f6, f7, f8, f9, -⟩ := blk10 (HBF.out.below hpw.bel)
    have fb := World.block_lt_of_cell? _ _ f0
    by_cases hlt : j < n1
    · have hbw := HK3.out.via hpw.bel HK3.out.size
      obtain ⟨b, off, s, rfl, hs, -, s0, s1, s2, s3, s4, s5, s6, s7, s8⟩ := HI.out.at hbw hlt
      have hb2 := below2 wr (.cells #[.int .i64 (j : Int)] 3) (.cells #[.string s, .string ⟨#[112]⟩, .int .i64 0, .int .i64 0, .int .i64 0, .int .i64 0, .string ⟨#[]⟩, .string ⟨#[]⟩, .string ⟨#[]⟩] 105)
      have hA : ((wr.alloc (.cells #[.int .i64 (j : Int)] 3)).alloc (.cells #[.string s, .string ⟨#[112]⟩, .int .i64 0, .int .i64 0, .int .i64 0, .int .i64 0, .string ⟨#[]⟩, .string ⟨#[]⟩, .string ⟨#[]⟩] 105)).cell? ⟨wr.heap.size, 0, none⟩ = some (.int .i64 (j : Int)) := by simp
      have hC : ((wr.alloc (.cells #[.int .i64 (j : Int)] 3)).alloc (.cells #[.string s, .string ⟨#[112]⟩, .int .i64 0, .int .i64 0, .int .i64 0, .int .i64 0, .string ⟨#[]⟩, .string ⟨#[]⟩, .string ⟨#[]⟩] 105)).cell? ⟨w.heap.size + 1, 0, none⟩ = some (.int .u64 c) := by
        have h := (((HBC.out.below hpw.bel).old (.cells #[.int .i64 (j : Int)] 3)).old (.cells #[.string s, .string ⟨#[112]⟩, .int .i64 0, .int .i64 0, .int .i64 0, .int .i64 0, .string ⟨#[]⟩, .string ⟨#[]⟩, .string ⟨#[]⟩] 105)).cell 0
        simpa using h
      have H71 := Lib.hid (away_any c j gs (.slice a9 n3 c9) wr.heap.size (w.heap.size + 1) _ (HG.out.mono (hbw.via (hb2.dn 0) hbw.size)) Hgok.out (by have := Hn3.out; omega) hc hc2 hA hC)
      have hbn : Blk ((wr.alloc (.cells #[.int .i64 (j : Int)] 3)).alloc (.cells #[.string s, .string ⟨#[112]⟩, .int .i64 0, .int .i64 0, .int .i64 0, .int .i64 0, .string ⟨#[]⟩, .string ⟨#[]⟩, .string ⟨#[]⟩] 105)) (wr.heap.size + 1) #[.string s, .string ⟨#[112]⟩, .int .i64 0, .int .i64 0, .int .i64 0, .int .i64 0, .string ⟨#[]⟩, .string ⟨#[]⟩, .string ⟨#[]⟩] 105 := by
        have h := Blk.new (wr.alloc (.cells #[.int .i64 (j : Int)] 3)) #[.string s, .string ⟨#[112]⟩, .int .i64 0, .int .i64 0, .int .i64 0, .int .i64 0, .string ⟨#[]⟩, .string ⟨#[]⟩, .string ⟨#[]⟩] 105
        simpa using h
      have Hbn := Lib.hid hbn
      have Hpw := Lib.hid (hpw.below hb2)
      have Hs := Lib.hid hs
      have Hwr := Lib.hid hpw
      generalize haw : awayB (cHolds c) gs j = aw at *
      have Haw := Lib.hid haw
      have HF := Lib.hid (fun w' (h : Below W3.heap.size W3 w') => blk10c (blk10 (HBF.out.below h)))
      have hkl := insTo_len (fun i => !awayB (cHolds c) gs i) ns j
      clear hb2 hbn hpw hs haw hA hC
      cases aw
      · have Hin := Lib.hid (insTo_yes (keep := (fun i => !awayB (cHolds c) gs i)) Hs.out (by show (!awayB (cHolds c) gs j) = true; rw [Haw.out]; rfl))
        generalize hkn : (insTo (fun i => !awayB (cHolds c) gs i) ns j).length = kn at *
        have Hkn := Lib.hid hkn
        clear hkn
        go_wp2_with (first
          | (go_at_call 71; refine (H71.out).mono ?_; rintro e w4 ⟨rfl, hb4⟩; have pw4 := Hpw.out.below hb4; have p2c := pw4.blk.cell 2; have p2f := pw4.blk.free 2; have bn4 := Hbn.out.below hb4; obtain ⟨x0, x1, x2, x3, x4, x5, x6, x7, x8⟩ := blk9 bn4; simp only [List.getElem?_toArray, List.getElem?_cons_succ, List.getElem?_cons_zero] at p2c)
          | (at_builtin; refine wpAppL E28 (by decide) (instC s) rfl _ _ rfl W3.heap.size kn _ _ w4.heap.size rfl rfl (by have h := (pw4.ins.alloc (.cells #[.string s, .string ⟨#[112]⟩, .int .i64 0, .int .i64 0, .int .i64 0, .int .i64 0, .string ⟨#[]⟩, .string ⟨#[]⟩, .string ⟨#[]⟩] 105)); rw [Hkn.out] at h; exact h) (heap_alloc_new _ _) rfl (inst_one (ns := [s]) _ (by simp)) (by omega) (by decide) (by have := pw4.bel.size; simp; omega) ?_; intro g cap w5 hown5 hg5 hat5 hlt5; have pw5 := PW.add (pw4.below (below1 w4 (.cells #[.string s, .string ⟨#[112]⟩, .int .i64 0, .int .i64 0, .int .i64 0, .int .i64 0, .string ⟨#[]⟩, .string ⟨#[]⟩, .string ⟨#[]⟩] 105))) Hkn.out hown5 hg5 hat5; have q2f := (((pw4.below (below1 w4 (.cells #[.string s, .string ⟨#[112]⟩, .int .i64 0, .int .i64 0, .int .i64 0, .int .i64 0, .string ⟨#[]⟩, .string ⟨#[]⟩, .string ⟨#[]⟩] 105))).blk.grown hg5 pw4.np1).free 2); have q2c := (((pw4.below (below1 w4 (.cells #[.string s, .string ⟨#[112]⟩, .int .i64 0, .int .i64 0, .int .i64 0, .int .i64 0, .string ⟨#[]⟩, .string ⟨#[]⟩, .string ⟨#[]⟩] 105))).blk.grown hg5 pw4.np1).cell 2); simp only [List.getElem?_toArray, List.getElem?_cons_succ, List.getElem?_cons_zero] at q2c))
        go_roundw
        case rel =>
          have hl : (insTo (fun i => !awayB (cHolds c) gs i) ns (j + 1)).length = kn + 1 := by rw [Hin.out, List.length_append, Hkn.out]; rfl
          exact ⟨j + 1, _, cap, by omega, by go_num, by rw [hl, Hin.out]; exact pw5⟩
        case measure => simp [intOf]; omega
      · have Hin := Lib.hid (insTo_no (keep := (fun i => !awayB (cHolds c) gs i)) Hs.out (by show (!awayB (cHolds c) gs j) = false; rw [Haw.out]; rfl))
        go_wp2_with (go_at_call 71; refine (H71.out).mono ?_; rintro e w4 ⟨rfl, hb4⟩; have pw4 := Hpw.out.below hb4)
        go_roundw
        case rel => exact ⟨j + 1, la, lc, by omega, by go_num, by rw [Hin.out]; exact pw4⟩
        case measure => simp [intOf]; omega
    · obtain rfl : j = n1 := by omega
      have Hf := Lib.hid (show (insTo (fun i => !awayB (cHolds c) gs i) ns j).length = (insTo (fun i => !awayB (cHolds c) gs i) ns j).length from rfl)
      generalize hNS : insTo (fun i => !awayB (cHolds c) gs i) ns j = NS at *
      go_wp2_with fail
      have hpw0 : PW W3 wr P nm (.slice la NS.length lc) NS (.slice a3 n2 p3) (ovrTo (cHolds c) os ds 0) := hpw
      clear hpw Hf
      go_loopw [9, 42] (fun _ i wr => ∃ k : Nat, k ≤ n4 ∧ i = .int .i64 k ∧ PW W3 wr P nm (.slice la NS.length lc) NS (.slice a3 n2 p3) (ovrTo (cHolds c) os ds k)) (fun _ i _ => n4 - (intOf i).toNat)
      case atStart => exact ⟨0, Nat.zero_le _, rfl, hpw0⟩
      case round =>
        clear hpw0 f0 f1 f2 f3 f4 f5 f6 f7 f8 f9 fb
        obtain ⟨k, hk, rfl, hpw⟩ := hrel
        by_cases hlt2 : k < n4
        · have hbw := HK3.out.via hpw.bel HK3.out.size
          obtain ⟨b, off, lv, o, rfl, ho, g0, g1, g2, g3, g4, g5, hL⟩ := HO.out.at hbw hlt2
          have hook := Hook.out o (List.mem_of_getElem? ho)
          obtain ⟨hl1, hl2, kk, hkk, hkl⟩ := hook
          obtain ⟨v0, vc, rfl, -, -⟩ := hL.open
          rw [hkk] at g1
          obtain ⟨g, rfl⟩ := own_some hpw.dms (by rw [ovrTo_len, Hn2.out]; omega)
          have cc := (HBC.out.below hpw.bel).cell 0
          simp only [List.getElem?_toArray, List.getElem?_cons_zero] at cc
          have ccl := World.block_lt_of_cell? _ _ cc
          have H62 := Lib.hid (fun w' (h : Below wr.heap.size wr w') => holds_any c o.1 _ w' (hL.mono h) hl1 hl2 hc hc2)
          have Hyes := Lib.hid (fun h => ovrTo_yes (app := cHolds c) (ds := ds) ho h)
          have Hno := Lib.hid (fun h => ovrTo_no (app := cHolds c) (ds := ds) ho h)
          have hput := Lib.hid (fun w' (h : Below wr.heap.size wr w') => PW.put (hpw.below h) (by rw [ovrTo_len]; exact Hn2.out) hkl o.2.2)
          rw [hkk] at Hyes
          rw [Int.toNat_natCast] at Hyes
          have hk0 : (0 : Int) ≤ (kk : Int) := Int.natCast_nonneg _
          have hk1 : (kk : Int) < (n2 : Int) := by omega
          have hk2 : (kk : Int) ≤ (p3 : Int) := by obtain ⟨_, _, hq, h1, _⟩ := own_open hpw.dms; cases hq; rw [ovrTo_len, Hn2.out] at h1; omega
          generalize hcl : cHolds c o.1 = q at *
          generalize o.1.length = ol at *
          obtain ⟨o1, o2, d0, d1, d2, d3⟩ := o
          simp only at g2 g3 g4 g5 hput hcl Hyes Hno
          have Hcl := Lib.hid hcl
          have Hpw := Lib.hid hpw
          have Pf := Lib.hid (fun w' (h : Below wr.heap.size wr w') => And.intro ((hpw.below h).blk.cell 3) (And.intro (hpw.below h).dms (hpw.below h).blk))
          clear ho hL hl1 hl2 hkk hpw hbw hcl
          cases q
          · go_wp2_with (go_at_call 62; refine (H62.out _ (below1 wr _)).mono ?_; rintro e w4 ⟨rfl, hb4⟩; have hbb := (below1 wr (.cells #[.slice v0 ol vc, .int .i64 (kk : Int), .string d0, .int .i64 d1, .int .i64 d2, .int .i64 d3] 83)).via hb4 (by simp))
            go_roundw
            case rel => exact ⟨k + 1, by omega, by go_num, by rw [Hno.out (by first | trivial | exact Hcl.out)]; exact Hpw.out.below hbb⟩
            case measure => simp [intOf]; omega
          · go_wp2_with (go_at_call 62; refine (H62.out _ (below1 wr _)).mono ?_; rintro e w4 ⟨rfl, hb4⟩; have hbb := (below1 wr (.cells #[.slice v0 ol vc, .int .i64 (kk : Int), .string d0, .int .i64 d1, .int .i64 d2, .int .i64 d3] 83)).via hb4 (by simp); have hbo := (Blk.new wr #[.slice v0 ol vc, .int .i64 (kk : Int), .string d0, .int .i64 d1, .int .i64 d2, .int .i64 d3] 83).below hb4; obtain ⟨⟨k0, k1, k2, k3, k4, k5⟩, -⟩ := blk6 hbo; obtain ⟨p3c, dm, bp⟩ := Pf.out w4 hbb; simp only [List.getElem?_toArray, List.getElem?_cons_succ, List.getElem?_cons_zero] at p3c; obtain ⟨od, ⟨m0, m1, m2, m3⟩, t0, t1, t2, t3⟩ := dim_cells dm (i := kk) hkl)
            go_roundw
            case rel => exact ⟨k + 1, by omega, by go_num, by rw [Hyes.out (by first | trivial | exact Hcl.out)]; exact hput.out w4 hbb⟩
            case measure => simp [intOf]; omega
        · obtain rfl : k = n4 := by omega
          obtain ⟨⟨x0, x1, x2, x3, x4, x5⟩, -⟩ := blk6 hpw.blk
          obtain ⟨⟨z0, z1, z2, z3, z4, z5⟩, ⟨y0, y1, y2, y3, y4, y5⟩⟩ := blk6 (HBR.out.below hpw.bel)
          have hout := hpw.out (R := w.heap.size + 1 + 1) (by omega) (.string nm) (.slice none 0 0) (.slice la NS.length lc) (.slice a3 n2 p3) (.slice none 0 0) (.slice none 0 0)
          have hz := Blk.set6 (.string nm) (.slice none 0 0) (.slice la NS.length lc) (.slice a3 n2 p3) (.slice none 0 0) (.slice none 0 0) (HBR.out.below hpw.bel)
          have hbel := below_set6 (b := w.heap.size + 1 + 1) (.string nm) (.slice none 0 0) (.slice la NS.length lc) (.slice a3 n2 p3) (.slice none 0 0) (.slice none 0 0) (HK3.out.via hpw.bel HK3.out.size) (by omega)
          have hfr1 : FreshV w.heap.size (.slice la NS.length lc) := fun b hb => by have := (hpw.ins.lt b hb).1; omega
          have hfr2 : FreshV w.heap.size (.slice a3 n2 p3) := fun b hb => by have := (hpw.dms.lt b hb).1; omega
          have HFr1 := Lib.hid hfr1
          have HFr2 := Lib.hid hfr2
          clear hfr1 hfr2
          have HOut := Lib.hid hout
          have HZ := Lib.hid hz
          have HBel := Lib.hid hbel
          clear hout hz hbel hpw
          go_wp2_with fail
          obtain ⟨⟨r0, r1, r2, r3, r4, r5⟩, -⟩ := blk6 HZ.out
          refine bodyPost_ret (v := .agg #[.string nm, .slice none 0 0, .slice la NS.length lc, .slice a3 n2 p3, .slice none 0 0, .slice none 0 0]) (by simp [results, Try.results60, go_sem, r0, r1, r2, r3, r4, r5]) rfl ⟨_, _, rfl, ?_, HOut.out.2, HFr1.out, HFr2.out, HBel.out⟩
          rw [hNS]
          exact HOut.out.1

end Go.Proofs.Ytkphggmbimjhjaa
