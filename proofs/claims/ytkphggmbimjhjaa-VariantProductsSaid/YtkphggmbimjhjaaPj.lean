/-
  Products: Product.
-/
import Derived.Test.YtkphggmbimjhjaaPg
namespace Go.Proofs.Ytkphggmbimjhjaa
open Go.RowKit

theorem grdOk_of {opts : List ByteArray} {rs : List Rule1} {gs : List Guard1} {os : List Ov1} {mI : Nat} {ds : List Dim1} (h : FamOk opts rs gs os mI ds) : ∀ g ∈ gs, LitsOk 12 g.2 ∧ g.2.length < 1000 := fun g hg =>
  ⟨fun l hl => by have := litErr_ok (h.gsLit g hg).1 l hl; have := h.opts12; omega, (h.gsLit g hg).2⟩
theorem ovrOk_of {opts : List ByteArray} {rs : List Rule1} {gs : List Guard1} {os : List Ov1} {mI : Nat} {ds : List Dim1} (h : FamOk opts rs gs os mI ds) : ∀ o ∈ os, LitsOk 12 o.1 ∧ o.1.length < 1000 ∧ ∃ k : Nat, o.2.1 = k ∧ k < ds.length := fun o ho =>
  ⟨fun l hl => by have := litErr_ok (h.osLit o ho).1 l hl; have := h.opts12; omega, (h.osLit o ho).2, by obtain ⟨k, d, h1, h2, _⟩ := h.osDim o ho; exact ⟨k, h1, lt_of_get h2⟩⟩

theorem set6_sl {w : World} {sz : Nat} {v : Value} {rows : List (List Value)} (h : Sl w sz v rows) {R : Nat} (hp : ∀ k, v.ownBlock = some k → k ≠ R) (y0 y1 y2 y3 y4 y5 : Value) :
    Sl ((((((w.setCell ⟨R, 0, none⟩ y0).setCell ⟨R, 1, none⟩ y1).setCell ⟨R, 2, none⟩ y2).setCell ⟨R, 3, none⟩ y3).setCell ⟨R, 4, none⟩ y4).setCell ⟨R, 5, none⟩ y5) sz v rows :=
  (((((h.set (p := ⟨R, 0, none⟩) hp y0).set (p := ⟨R, 1, none⟩) hp y1).set (p := ⟨R, 2, none⟩) hp y2).set (p := ⟨R, 3, none⟩) hp y3).set (p := ⟨R, 4, none⟩) hp y4).set (p := ⟨R, 5, none⟩) hp y5

set_option maxHeartbeats 4000000 in
set_option maxRecDepth 100000 in
theorem prod34_bad (q1 q2 q3 q4 q5 q6 q7 q8 q9 q10 sv : Value) (opts on : List ByteArray) (rs : List Rule1) (gs : List Guard1) (os : List Ov1) (mI : Nat) (ds : List Dim1) (w : World)
    (hF : Fam w q1 q2 q3 q4 q5 q6 q7 q8 q9 q10 opts rs gs os mI ds) (hS : Strs w sv on) (hlen : on.length < 1000) (hss : ∀ o ∈ on, o.size ≤ maxLen) (X : Int) (hE : pErr opts on = 0) (hX : cBroken (pCfg opts on on.length : Int) rs = X) (h0 : 0 ≤ X) :
    Calls Try.prog 34 #[.agg #[q1, q2, q3, q4, q5, q6, q7, q8, q9, q10], sv] w (Ret (.tuple #[.agg z35, .int .i64 17]) w) := by
  obtain ⟨a8, p8, rfl, -, -⟩ := hF.rul.open
  have K2 := below2 w (.cells #[q1, q2, q3, q4, q5, q6, q7, .slice a8 rs.length p8, q9, q10] 41) (.cells z35 35)
  have hBF : Blk ((w.alloc (.cells #[q1, q2, q3, q4, q5, q6, q7, .slice a8 rs.length p8, q9, q10] 41)).alloc (.cells z35 35)) w.heap.size #[q1, q2, q3, q4, q5, q6, q7, .slice a8 rs.length p8, q9, q10] 41 := (Blk.new w _ 41).old _
  have hBR : Blk ((w.alloc (.cells #[q1, q2, q3, q4, q5, q6, q7, .slice a8 rs.length p8, q9, q10] 41)).alloc (.cells z35 35)) (w.heap.size + 1) z35 35 := by
    have h := Blk.new (w.alloc (.cells #[q1, q2, q3, q4, q5, q6, q7, .slice a8 rs.length p8, q9, q10] 41)) z35 35
    simpa using h
  have H1 := Lib.hid (conf57 q1 q2 q3 q4 q5 q6 q7 (.slice a8 rs.length p8) q9 q10 sv opts on rs gs os mI ds _ (hF.mono K2) (hS.mono K2) hlen hss)
  have hr := hF.ok.rs48
  have hc := pCfg_lt opts on on.length
  have H2 := Lib.hid (fun w' (h : Below w.heap.size w w') => violated_any (pCfg opts on on.length : Int) rs _ w' (hF.rul.mono h) (rulesOk_of hF.ok) (by omega) (by omega) (by omega))
  rw [hE] at H1
  rw [hX] at H2
  simp only [if_true] at H1
  generalize (pCfg opts on on.length : Int) = c at *
  generalize rs.length = m at *
  have HBF := Lib.hid hBF
  have HBR := Lib.hid hBR
  have HK := Lib.hid K2
  clear hBF hBR K2 hF hS hE hX
  go_enter Try.func34, Try.ntmps34
  go_wp2_with (first | (go_at_call 57; refine (H1.out).mono ?_; rintro e w1 ⟨rfl, hb1⟩; obtain ⟨f0, f1, f2, f3, f4, f5, f6, f7, f8, f9, -⟩ := blk10 (HBF.out.below hb1)) | (go_at_call 58; refine (H2.out _ (HK.out.via hb1 HK.out.size)).mono ?_; rintro e w2 ⟨rfl, hb2⟩; have hr2 := (HBR.out.below hb1).below hb2; obtain ⟨⟨x0, x1, x2, x3, x4, x5⟩, ⟨y0, y1, y2, y3, y4, y5⟩⟩ := blk6 hr2))
  have hz := Blk.set6 (.string ⟨#[]⟩) (.slice none 0 0) (.slice none 0 0) (.slice none 0 0) (.slice none 0 0) (.slice none 0 0) hr2
  have hbel := below_set6 (b := w.heap.size + 1) (.string ⟨#[]⟩) (.slice none 0 0) (.slice none 0 0) (.slice none 0 0) (.slice none 0 0) (.slice none 0 0) (HK.out.via (hb1.via hb2 hb1.size) HK.out.size) (by omega)
  obtain ⟨⟨r0, r1, r2, r3, r4, r5⟩, -⟩ := blk6 hz
  exact bodyPost_ret (v := .tuple #[.agg z35, .int .i64 17]) (by simp [results, Try.results34, go_sem, r0, r1, r2, r3, r4, r5]) rfl ⟨rfl, hbel⟩

set_option maxHeartbeats 4000000 in
set_option maxRecDepth 100000 in
theorem prod34_ok (nm : ByteArray) (ai ad : Option Addr) (ci cd : Nat) (ns : List ByteArray) (q7 q8 q9 q10 sv : Value) (opts on : List ByteArray) (rs : List Rule1) (gs : List Guard1) (os : List Ov1) (mI : Nat) (ds : List Dim1) (w : World)
    (hF : Fam w (.string nm) nilV (.slice ai ns.length ci) (.slice ad ds.length cd) nilV nilV q7 q8 q9 q10 opts rs gs os mI ds) (hS : Strs w sv on) (hlen : on.length < 1000) (hss : ∀ o ∈ on, o.size ≤ maxLen) (X : Int) (hE : pErr opts on = 0) (hX : cBroken (pCfg opts on on.length : Int) rs = X) (h0 : X < 0) (hI : Insts w (.slice ai ns.length ci) ns) (hni : ns.length < 1000) (hnd : ds.length < 1000) :
    Calls Try.prog 34 #[.agg #[.string nm, nilV, .slice ai ns.length ci, .slice ad ds.length cd, nilV, nilV, q7, q8, q9, q10], sv] w
      (fun e w' => ∃ ia ic da dc, e = .returned (.tuple #[.agg #[.string nm, nilV, .slice ia (insTo (fun i => !awayB (cHolds (pCfg opts on on.length : Int)) gs i) ns ns.length).length ic, .slice da ds.length dc, nilV, nilV], .int .i64 0]) ∧ Insts w' (.slice ia (insTo (fun i => !awayB (cHolds (pCfg opts on on.length : Int)) gs i) ns ns.length).length ic) (insTo (fun i => !awayB (cHolds (pCfg opts on on.length : Int)) gs i) ns ns.length) ∧ Dims w' (.slice da ds.length dc) (ovrTo (cHolds (pCfg opts on on.length : Int)) os ds os.length) ∧ FreshV w.heap.size (.slice ia (insTo (fun i => !awayB (cHolds (pCfg opts on on.length : Int)) gs i) ns ns.length).length ic) ∧ FreshV w.heap.size (.slice da ds.length dc) ∧ Below w.heap.size w w') := by
  obtain ⟨a8, p8, rfl, -, -⟩ := hF.rul.open
  obtain ⟨a9, p9, rfl, hg9, -⟩ := hF.grd.open
  obtain ⟨a10, p10, rfl, hv10, -⟩ := hF.ovr.open
  have K2 := below2 w (.cells #[.string nm, nilV, .slice ai ns.length ci, .slice ad ds.length cd, nilV, nilV, q7, .slice a8 rs.length p8, .slice a9 gs.length p9, .slice a10 os.length p10] 41) (.cells z35 35)
  have hBF : Blk ((w.alloc (.cells #[.string nm, nilV, .slice ai ns.length ci, .slice ad ds.length cd, nilV, nilV, q7, .slice a8 rs.length p8, .slice a9 gs.length p9, .slice a10 os.length p10] 41)).alloc (.cells z35 35)) w.heap.size #[.string nm, nilV, .slice ai ns.length ci, .slice ad ds.length cd, nilV, nilV, q7, .slice a8 rs.length p8, .slice a9 gs.length p9, .slice a10 os.length p10] 41 := (Blk.new w _ 41).old _
  have hBR : Blk ((w.alloc (.cells #[.string nm, nilV, .slice ai ns.length ci, .slice ad ds.length cd, nilV, nilV, q7, .slice a8 rs.length p8, .slice a9 gs.length p9, .slice a10 os.length p10] 41)).alloc (.cells z35 35)) (w.heap.size + 1) z35 35 := by
    have h := Blk.new (w.alloc (.cells #[.string nm, nilV, .slice ai ns.length ci, .slice ad ds.length cd, nilV, nilV, q7, .slice a8 rs.length p8, .slice a9 gs.length p9, .slice a10 os.length p10] 41)) z35 35
    simpa using h
  have H1 := Lib.hid (conf57 _ _ _ _ _ _ _ _ _ _ sv opts on rs gs os mI ds _ (hF.mono K2) (hS.mono K2) hlen hss)
  have hr := hF.ok.rs48
  have hc := pCfg_lt opts on on.length
  have H2 := Lib.hid (fun w' (h : Below w.heap.size w w') => violated_any (pCfg opts on on.length : Int) rs _ w' (hF.rul.mono h) (rulesOk_of hF.ok) (by omega) (by omega) (by omega))
  have H3 := Lib.hid (fun w' (h : Below w.heap.size w w') => prod60 (pCfg opts on on.length : Int) nm q7 (.slice a8 rs.length p8) ai ad a9 a10 ns.length ds.length gs.length os.length ci cd p9 p10 ns ds gs os w' (hI.mono h) (hF.dims.mono h) (hF.grd.mono h) (hF.ovr.mono h) hni hnd (by have := hF.ok.gs48; omega) (by have := hF.ok.os48; omega) (grdOk_of hF.ok) (ovrOk_of hF.ok) (by omega) (by omega))
  rw [hE] at H1
  rw [hX] at H2
  simp only [if_true] at H1
  generalize (pCfg opts on on.length : Int) = c at *
  have hol := ovrTo_len (cHolds c) os ds os.length
  generalize insTo (fun i => !awayB (cHolds c) gs i) ns ns.length = NS at *
  generalize ovrTo (cHolds c) os ds os.length = DS at *
  generalize ns.length = nn at *
  generalize ds.length = nd at *
  generalize gs.length = ng at *
  generalize os.length = no at *
  generalize rs.length = m at *
  have Hol := Lib.hid hol
  have HBF := Lib.hid hBF
  have HBR := Lib.hid hBR
  have HK := Lib.hid K2
  clear hBF hBR K2 hF hS hE hX hI hol
  go_enter Try.func34, Try.ntmps34
  go_wp2_with (first | (go_at_call 57; refine (H1.out).mono ?_; rintro e w1 ⟨rfl, hb1⟩; obtain ⟨f0, f1, f2, f3, f4, f5, f6, f7, f8, f9, -⟩ := blk10 (HBF.out.below hb1)) | (go_at_call 58; refine (H2.out _ (HK.out.via hb1 HK.out.size)).mono ?_; rintro e w2 ⟨rfl, hb2⟩; obtain ⟨g0, g1, g2, g3, g4, g5, g6, g7, g8, g9, -⟩ := blk10 ((HBF.out.below hb1).below hb2)) | (go_at_call 60; refine (H3.out _ (HK.out.via (hb1.via hb2 hb1.size) HK.out.size)).mono ?_; rintro e w3 ⟨v, vd, rfl, hin, hdm, hf1, hf2, hb3⟩; obtain ⟨ia, ic, rfl, -, -⟩ := hin.open; obtain ⟨da, dc, rfl, -, -⟩ := hdm.open; rw [Hol.out] at hdm hf2 ⊢; have hr2 := ((HBR.out.below hb1).below hb2).below hb3; have Hin := Lib.hid hin; have Hdm := Lib.hid hdm; have Hf1 := Lib.hid hf1; have Hf2 := Lib.hid hf2; clear hin hdm hf1 hf2; obtain ⟨⟨x0, x1, x2, x3, x4, x5⟩, ⟨y0, y1, y2, y3, y4, y5⟩⟩ := blk6 hr2))
  have hz := Blk.set6 (.string nm) (.slice none 0 0) (.slice ia NS.length ic) (.slice da nd dc) (.slice none 0 0) (.slice none 0 0) hr2
  have hs2 : w.heap.size + 2 ≤ w2.heap.size := by
    have h1 := hb1.size
    have h2 := hb2.size
    simp at h1
    omega
  have hbel := below_set6 (b := w.heap.size + 1) (.string nm) (.slice none 0 0) (.slice ia NS.length ic) (.slice da nd dc) (.slice none 0 0) (.slice none 0 0) (HK.out.via (hb1.via (hb2.via hb3 hb2.size) hb1.size) HK.out.size) (by omega)
  have hi6 := set6_sl Hin.out (R := w.heap.size + 1) (fun b hb => by have := Hf1.out b hb; omega) (.string nm) (.slice none 0 0) (.slice ia NS.length ic) (.slice da nd dc) (.slice none 0 0) (.slice none 0 0)
  have hd6 := set6_sl Hdm.out (R := w.heap.size + 1) (fun b hb => by have := Hf2.out b hb; omega) (.string nm) (.slice none 0 0) (.slice ia NS.length ic) (.slice da nd dc) (.slice none 0 0) (.slice none 0 0)
  have g1 : FreshV w.heap.size (.slice ia NS.length ic) := fun b hb => by have := Hf1.out b hb; omega
  have g2 : FreshV w.heap.size (.slice da nd dc) := fun b hb => by have := Hf2.out b hb; omega
  obtain ⟨⟨r0, r1, r2, r3, r4, r5⟩, -⟩ := blk6 hz
  exact bodyPost_ret (v := .tuple #[.agg #[.string nm, nilV, .slice ia NS.length ic, .slice da nd dc, nilV, nilV], .int .i64 0]) (by simp [results, Try.results34, go_sem, r0, r1, r2, r3, r4, r5]) rfl ⟨_, _, _, _, rfl, hi6, hd6, g1, g2, hbel⟩

end Go.Proofs.Ytkphggmbimjhjaa
