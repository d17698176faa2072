/-
  Parts of the proof: Qsp.
-/
import Derived.Test.YtlcmhbkmpkcajaaGreatDoorN31
namespace Go.Proofs.YtlcmhbkmpkcajaaGreatDoor
open Go.RowKit
theorem FitV.neg {d : Nat} {a : Vec} (h : FitV d a) : FitV d (negV a) := by
  refine ⟨by unfold negV; rw [List.length_map]; exact h.1, fun x hx => ?_⟩
  obtain ⟨y, hy, rfl⟩ := List.mem_map.1 hx
  have := h.2 y hy
  exact ⟨by rw [Rat.neg_num, Int.natAbs_neg]; exact this.1, by rw [Rat.neg_den]; exact this.2⟩
theorem dot_sz8 {d : Nat} {a b : Vec} (hd : d ≤ 8) (ha : FitV d a) (hb : FitV d b) : Sz 1700 (dotV a b) := by
  have h1 := dotP_sz (K := 100) ha.2 hb.2 d
  rw [dotP_all ha.1] at h1
  exact h1.mono (by have := Nat.mul_le_mul_right 201 hd; omega)
theorem into_sz {d : Nat} {row line x : Vec} {p : Rat} (hd : d ≤ 8) (hr : FitV d row) (hl : FitV d line) (hx : FitV d x) (hp : Sz 1700 p) (h0 : p ≠ 0) : (intoV row line p x).length = d ∧ ∀ y ∈ intoV row line p x, Sz 4000 y := by
  have hk : Sz 3400 (-(dotV row x / p)) := (div_sz (dot_sz8 hd hr hx) hp h0).neg
  refine ⟨by unfold intoV mixV; rw [List.length_zipWith, hx.1, hl.1, Nat.min_self], fun y hy => ?_⟩
  unfold intoV mixV at hy
  obtain ⟨i, hi⟩ := List.getElem?_of_mem hy
  rw [List.getElem?_zipWith] at hi
  cases h1 : x[i]? with
  | none => simp [h1] at hi
  | some u =>
    cases h2 : line[i]? with
    | none => simp [h1, h2] at hi
    | some v =>
      rw [h1, h2] at hi
      have hi := Option.some.inj hi
      subst hi
      have s1 : Sz 100 u := hx.2 u (List.mem_of_getElem? h1)
      have s2 : Sz 100 v := hl.2 v (List.mem_of_getElem? h2)
      have s3 : Sz (100 + 1) (u * 1) := s1.mul ⟨by decide, by decide⟩
      have s4 : Sz (100 + 3400) (v * -(dotV row x / p)) := s2.mul hk
      exact (s3.add s4).mono (by omega)
theorem rat_spos (q : Rat) : 0 < q.num.sign ↔ 0 < q := by
  rw [Rat.lt_iff, Int.sign_pos_iff]
  simp
theorem blk1c {w : World} {b : Nat} {x : Value} {T : TypeId} (h : Blk w b #[x] T) : w.cell? ⟨b, 0, none⟩ = some x ∧ w.frozen? ⟨b, 0, none⟩ = false := ⟨by rw [h.cell]; rfl, h.free 0⟩
theorem off4 {w : World} {b c : Nat} {cs : Array Value} {T : TypeId} (h : Blk w c cs T) (hne : c ≠ b) (u0 u1 u2 u3 : Value) : Blk ((((w.setCell ⟨b, 0, none⟩ u0).setCell ⟨b, 1, none⟩ u1).setCell ⟨b, 2, none⟩ u2).setCell ⟨b, 3, none⟩ u3) c cs T :=
  (((h.other (p := ⟨b, 0, none⟩) hne u0).other (p := ⟨b, 1, none⟩) hne u1).other (p := ⟨b, 2, none⟩) hne u2).other (p := ⟨b, 3, none⟩) hne u3
set_option maxHeartbeats 16000000 in
set_option maxRecDepth 10000 in
theorem split_g (B M k n d : Nat) (rv : Value) (row : List Rat) (st : Bld) (w : World) (vl vr : Value) (hM : M ≤ B) (hB : Blk w B #[vl, vr, .int .i64 ((n + 1 : Nat) : Int)] 80) (hl : OV M w vl st.lines) (hr : OR M w vr st.rays)
    (hrow : QV w rv row) (frow : FitV d row) (hd : d ≤ 8) (fl : ∀ l ∈ st.lines, FitV d l) (fr : ∀ r ∈ st.rays, FitV d r.1 ∧ r.2 < 18446744073709551616) (hn : n < 64) (hk : k < st.lines.length) (hp : dotV row (st.lines.getD k []) ≠ 0) (hll : st.lines.length ≤ 1000) (hrl : st.rays.length ≤ 1000) :
    Calls Tryz.prog 42 #[.pointer (some ⟨B, 0, none⟩), rv, .int .i64 (k : Int), .int .i64 (n : Int)] w (fun e w' => e = .returned (.tuple #[]) ∧ BS M w' B (splitB st row k n) ∧ Below M w w') := by
  have hMw : M ≤ w.heap.size := Nat.le_trans hM (Nat.le_of_lt hB.lt)
  obtain ⟨ra, rc, rfl, -, -⟩ := hrow.open
  obtain ⟨la, lc, rfl, hl1, hl2⟩ := hl.open
  obtain ⟨ya, yc, rfl, hy1, hy2, hyG⟩ := hr.open
  obtain ⟨N, hN⟩ : ∃ N, st.lines.length = N := ⟨_, rfl⟩
  obtain ⟨R, hR⟩ : ∃ R, st.rays.length = R := ⟨_, rfl⟩
  obtain ⟨line, hline⟩ : ∃ l, st.lines[k]? = some l := ⟨_, List.getElem?_eq_getElem hk⟩
  have hgl : st.lines.getD k [] = line := by rw [List.getD_eq_getElem?_getD, hline, Option.getD_some]
  have fln := fl line (List.mem_of_getElem? hline)
  rw [hgl] at hp
  rw [frow.1] at hrow ⊢
  have HNn := hI hN
  have HRr := hI hR
  rw [hN] at hl1 hk hll hB hl
  rw [hR] at hy1 hrl hB hr hyG
  unfold maxLen at hl2 hy2
  have HM := hI hMw
  have HMB := hI hM
  have HB := hI hB
  have HVl := hI hl
  have HVr := hI hr
  have HRow := hI hrow
  have HFr := hI frow
  have HFl := hI fl
  have HFy := hI fr
  have HFn := hI fln
  have HP0 := hI hp
  have Hln := hI hline
  have HyG := hI hyG
  have hdz := hI (dot_sz8 hd frow fln)
  have HSpl := hI (show splitB st row k n = { lines := (st.lines.eraseIdx k).map (intoV row (lineOf (dotV row line) line) (prodOf (dotV row line))), rays := st.rays.map (fun r => (primV (intoV row (lineOf (dotV row line) line) (prodOf (dotV row line)) r.1), r.2 ||| 2 ^ n)) ++ [(primV (lineOf (dotV row line) line), 2 ^ n - 1)], count := n + 1 } from by unfold splitB; rw [hgl])
  rw [HSpl.out]
  have HDt := hI (fun w' u v (h1 : QV w' u row) (h2 : QV w' v line) => dot_g u v row line d 100 w' h1 h2 frow.1 fln.1 frow.2 fln.2 (by have := Nat.mul_le_mul_right 201 (Nat.succ_le_succ hd); omega))
  have hN0 : (0 : Int) ≤ (k : Int) := Int.natCast_nonneg _
  have hkN : (k : Int) < (N : Int) := by omega
  clear hMw hM hB hl hr hrow frow fl fr fln hp hline hyG hgl hN hR HSpl
  generalize hdv : dotV row line = dv at *
  clear hdv
  go_enter Tryz.func42, Tryz.ntmps42
  go_upto_region 1 with (fail)
  have HX1 := hI (Blk.new w #[.slice ra d rc] 46)
  have Hb1 := hI (below1 w (.cells #[.slice ra d rc] 46))
  generalize w.alloc (.cells #[.slice ra d rc] 46) = w1 at *
  obtain ⟨⟨B0, B1, B2⟩, -⟩ := blk3c (HB.out.below Hb1.out)
  obtain ⟨b4, o4, pl, x4, rfl, hx4, c4, hp4⟩ := (HVl.out.below Hb1.out).vs.at (Below.refl _ _) hk
  rw [Hln.out, Option.some.injEq] at hx4
  subst hx4
  obtain ⟨pa, pc, rfl, -, -⟩ := hp4.open
  rw [HFn.out.1] at hp4 c4
  go_upto_region 2 with (fail)
  have HL2 := hI (Blk.new w1 #[.slice pa d pc] 46)
  have HX2 := hI (HX1.out.below (below1 w1 (.cells #[.slice pa d pc] 46)))
  have Hb2 := hI (bwA Hb1.out (.cells #[.slice pa d pc] 46))
  have Hln2 := hI (hp4.mono (below1 w1 (.cells #[.slice pa d pc] 46)))
  have HwL := hI (show w.heap.size ≤ w1.heap.size from Hb1.out.size)
  have HXL := hI (show w.heap.size < w1.heap.size from HX1.out.lt)
  generalize w1.alloc (.cells #[.slice pa d pc] 46) = w2 at *
  generalize w1.heap.size = L at *
  clear B0 B1 B2 c4 hp4 Hb1 HX1
  obtain ⟨x0, -⟩ := blk1c HX2.out
  obtain ⟨l0, -⟩ := blk1c HL2.out
  have HD2 := hI (HDt.out w2 _ _ (HRow.out.mono Hb2.out) Hln2.out)
  go_upto_region 3 with (go_at_call 22; refine (HD2.out).mono ?_; rintro e5 w3 ⟨v3, rfl, hv3, hb3⟩; obtain ⟨x3, a3, n3, c3, y3, e3, l3, d3, rfl, hv3⟩ := hv3.open; have Hb3 := hI hb3; have Hv3 := hI hv3; clear hv3 hb3)
  have hA3 := below1 w3 (.cells #[.bool x3, .slice a3 n3 c3, .bool y3, .slice e3 l3 d3] 61)
  have HL4 := hI (HL2.out.below (bw_via Hb3.out hA3))
  have HX4 := hI (HX2.out.below (bw_via Hb3.out hA3))
  have Hb4 := hI (bw_via (bw_via Hb2.out Hb3.out) hA3)
  have Hln4 := hI (Hln2.out.mono (bw_via Hb3.out hA3))
  have HP4 := hI (Blk.new w3 #[.bool x3, .slice a3 n3 c3, .bool y3, .slice e3 l3 d3] 61)
  have HR4 := hI (Hv3.out.mono hA3)
  have HwP := hI (show w.heap.size ≤ w3.heap.size from (bw_via Hb2.out Hb3.out).size)
  have HLP := hI (show L < w3.heap.size from (HL2.out.below Hb3.out).lt)
  clear hA3
  generalize w3.alloc (.cells #[.bool x3, .slice a3 n3 c3, .bool y3, .slice e3 l3 d3] 61) = w4 at *
  generalize w3.heap.size = P at *
  clear x0 l0 Hb3 Hv3 HL2 HX2 Hln2 HD2 Hb2
  obtain ⟨⟨d0, d1, d2, d3'⟩, -⟩ := blk4v HP4.out
  have HSg := hI (show Calls Tryz.prog 23 #[.agg #[.bool x3, .slice a3 n3 c3, .bool y3, .slice e3 l3 d3]] w4 (Ret (.int .i64 dv.num.sign) w4) from by
    obtain ⟨q, h, -⟩ := HR4.out
    exact rsign_any _ dv.num q _ h)
  have Hs0 := hI (rat_spos dv)
  generalize dv.num.sign = sg at *
  go_upto_if 30 with (go_at_call 23; refine (HSg.out).mono ?_; rintro e5 w5 ⟨rfl, hb5⟩; have Hb5 := hI hb5; clear hb5)
  go_cut [] from 30 to 34 (fun wx => ∃ (pa5 : Option Addr) (pc5 : Nat) (x5 : Bool) (a5 : Option Addr) (n5 c5 : Nat) (y5 : Bool) (e5 : Option Addr) (l5 d5 : Nat), Hid (Blk wx L #[.slice pa5 d pc5] 46) ∧ Hid (QV wx (.slice pa5 d pc5) (lineOf dv line)) ∧ Hid (Blk wx P #[.bool x5, .slice a5 n5 c5, .bool y5, .slice e5 l5 d5] 61) ∧ Hid (RQ wx (.agg #[.bool x5, .slice a5 n5 c5, .bool y5, .slice e5 l5 d5]) (prodOf dv)) ∧ Below w.heap.size w wx ∧ Hid (Blk wx w.heap.size #[.slice ra d rc] 46))
  case first =>
    have HL5 := hI (HL4.out.below Hb5.out)
    have HX5 := hI (HX4.out.below Hb5.out)
    have Hw5 := hI (bw_via Hb4.out Hb5.out)
    have Hln5 := hI (Hln4.out.mono Hb5.out)
    have HP5 := hI (HP4.out.below Hb5.out)
    have HR5 := hI (HR4.out.mono Hb5.out)
    clear d0 d1 d2 d3' HL4 HX4 Hln4 HP4 HR4 HSg
    by_cases hs : 0 < sg
    · have HLo := hI (show lineOf dv line = negV line from by unfold lineOf; rw [if_pos (Hs0.out.1 hs)])
      have HPo := hI (show prodOf dv = -dv from by unfold prodOf; rw [if_pos (Hs0.out.1 hs)])
      obtain ⟨l0, lf⟩ := blk1c HL5.out
      obtain ⟨⟨d0, d1, d2, d3'⟩, -⟩ := blk4v HP5.out
      have HNv := hI (fun w' (hb : Below w5.heap.size w5 w') => neg_g _ line d w' (Hln5.out.mono hb) HFn.out.1 (by omega))
      have HNg := hI (fun w' (hb : Below w5.heap.size w5 w') => rneg_g _ dv w' (HR5.out.mono hb))
      have HNl := hI (show (negV line).length = d from by unfold negV; rw [List.length_map]; exact HFn.out.1)
      have HS4 := hI (fun w' (hb : Below w5.heap.size w5 w') => show (fun w' => w'.cell? ⟨P, 0, none⟩ = some (.bool x3) ∧ w'.cell? ⟨P, 1, none⟩ = some (.slice a3 n3 c3) ∧ w'.cell? ⟨P, 2, none⟩ = some (.bool y3) ∧ w'.cell? ⟨P, 3, none⟩ = some (.slice e3 l3 d3)) w' from ⟨cell_keep hb d0, cell_keep hb d1, cell_keep hb d2, cell_keep hb d3'⟩)
      clear d0 d1 d2 d3'
      go_wp2_with fail
      refine wp_region_pop (S := (fun w' => w'.cell? ⟨P, 0, none⟩ = some (.bool x3) ∧ w'.cell? ⟨P, 1, none⟩ = some (.slice a3 n3 c3) ∧ w'.cell? ⟨P, 2, none⟩ = some (.bool y3) ∧ w'.cell? ⟨P, 3, none⟩ = some (.slice e3 l3 d3))) 5 (by kernel_rfl) (by kernel_rfl) (by exact (HS4.out _ ((Below.refl _ _).dn 1))) (fun hHeld => ?_)
      simp only [List.take_succ_cons, List.take_zero, List.drop_succ_cons, List.drop_zero]
      refine' tk 2 ?_; (try simp only [tkS])
      refine tk1 0 (fun K hK => ?_)
      go_simp
      refine hK.out _ _ (by exact (HS4.out _ ((Below.refl _ _).dn 1))) (fun hHeld => ?_)
      clear hK K; (try simp only [tkS])
      refine tk1 1 (fun K hK => ?_)
      go_simp
      go_at_call 24
      refine (HNv.out _ ((Below.refl _ _).dn 1)).mono ?_
      rintro e5 w11 ⟨v11, rfl, ⟨hv11, hf11⟩, hb11⟩
      have HD11 := hI (show v11.ownBlock ≠ some P from fun e => by have h1 := hf11 _ e; have h2 := HP5.out.lt; simp at h1; omega)
      have Hb11 := hI (bw_via ((Below.refl _ _).dn 1) hb11)
      obtain ⟨pa6, pc6, hve, -, -⟩ := hv11.open
      rw [HNl.out] at hve
      subst hve
      have Hv11 := hI hv11
      clear hv11 hb11 hf11
      refine hK.out _ _ (by exact (HS4.out _ (Hb11.out))) (fun hHeld => ?_)
      clear hK K; (try simp only [tkS])
      refine tk1 3 (fun K hK => ?_)
      go_simp
      go_at_call 35
      refine (HNg.out _ (Hb11.out)).mono ?_
      rintro e5 w13 ⟨v13, rfl, hv13, hb13⟩
      obtain ⟨x6, a6, n6, c6, y6, e6, l6, d6, rfl, hv13⟩ := hv13.open
      have Hv11 := hI (Hv11.out.mono hb13)
      have Hb13 := hI (bw_via (Hb11.out) hb13)
      have Hv13 := hI hv13
      clear hv13 hb13 l0 lf
      obtain ⟨l0, lf⟩ := blk1c (HL5.out.below Hb13.out)
      refine hK.out _ _ (by exact (HS4.out _ (Hb13.out))) (fun hHeld => ?_)
      clear hK K; (try simp only [tkS])
      refine tk1 4 (fun K hK => ?_)
      go_simp
      refine hK.out _ _ (by exact (cells4 ((HP5.out.below Hb13.out).other (p := ⟨L, 0, none⟩) (Nat.ne_of_gt HLP.out) _) (Below.refl _ _))) (fun hHeld => ?_)
      clear hK K; (try simp only [tkS])
      refine tkD ?_ _
      simp only [Exit.then]
      have hk1 := Keep.set (ok := fun T => T ≠ 46) (HL5.out.below Hb13.out) (fun k => k rfl) 0 (.slice pa6 d pc6)
      have HP6 := (HP5.out.below Hb13.out).other (p := ⟨L, 0, none⟩) (Nat.ne_of_gt HLP.out) (.slice pa6 d pc6)
      have HR6 := Hv13.out.keep hk1 (by decide)
      have HV6 := Hv11.out.keep hk1 (by decide) (by decide)
      have HL6 := (HL5.out.below Hb13.out).set 0 (.slice pa6 d pc6)
      have HX6 := (HX5.out.below Hb13.out).other (p := ⟨L, 0, none⟩) (Nat.ne_of_lt HXL.out) (.slice pa6 d pc6)
      have hb6 := (bw_via Hw5.out Hb13.out).setCell (p := ⟨L, 0, none⟩) HwL.out (.slice pa6 d pc6)
      obtain ⟨r1, r2⟩ := HR6.put4 HP6
      have HV7 := hI (HV6.put4 HP6 HD11.out (.bool x6) (.slice a6 n6 c6) (.bool y6) (.slice e6 l6 d6))
      have HL7 := hI (off4 HL6 (Nat.ne_of_lt HLP.out) (.bool x6) (.slice a6 n6 c6) (.bool y6) (.slice e6 l6 d6))
      have HX7 := hI (off4 HX6 (Nat.ne_of_lt (Nat.lt_of_le_of_lt HwL.out HLP.out)) (.bool x6) (.slice a6 n6 c6) (.bool y6) (.slice e6 l6 d6))
      have Hb7 := hI (put_below4 (.bool x6) (.slice a6 n6 c6) (.bool y6) (.slice e6 l6 d6) hb6 HwP.out)
      have HR7 := hI r1
      have HP7 := hI r2
      obtain ⟨⟨d0, d1, d2, d3'⟩, f0, f1, f2, f3⟩ := blk4v HP6
      clear hk1 HP6 HR6 HV6 HL6 HX6 hb6 r1 r2 l0 lf
      go_wp2_with fail
      go_meet
      exact ⟨pa6, pc6, x6, a6, n6, c6, y6, e6, l6, d6, HL7.out, by rw [HLo.out]; exact HV7.out, HP7.out, by rw [HPo.out]; exact HR7.out, Hb7.out, HX7.out⟩
    · have HLo := hI (show lineOf dv line = line from by unfold lineOf; rw [if_neg (fun h => hs (Hs0.out.2 h))])
      have HPo := hI (show prodOf dv = dv from by unfold prodOf; rw [if_neg (fun h => hs (Hs0.out.2 h))])
      go_wp2_with fail
      go_meet
      exact ⟨pa, pc, x3, a3, n3, c3, y3, e3, l3, d3, HL5.out, by rw [HLo.out]; exact Hln5.out, HP5.out, by rw [HPo.out]; exact HR5.out, Hw5.out, HX5.out⟩
  case rest =>
    obtain ⟨pa5, pc5, x5, a5, n5, c5, y5, e5, l5, d5, hL, hl, hP, hR, hb, hX⟩ := hcut
    obtain ⟨wx, rfl⟩ : ∃ W, W = wc := ⟨_, rfl⟩
    have Hbx := hI hb
    have hP0 : prodOf dv ≠ 0 := by
      have h0 := HP0.out
      unfold prodOf
      split
      · intro e
        exact h0 (by rw [← Rat.neg_neg dv, e, Rat.neg_zero])
      · exact h0
    have hPz : Sz 1700 (prodOf dv) := by
      unfold prodOf
      split
      · exact hdz.out.neg
      · exact hdz.out
    have hFo : FitV d (lineOf dv line) := by
      unfold lineOf
      split
      · exact HFn.out.neg
      · exact HFn.out
    have HIz := hI (fun x (fx : FitV d x) => into_sz hd HFr.out hFo fx hPz hP0)
    have HIn := hI (fun w' u x (hk : Keep (fun T => T ≠ 89 ∧ T ≠ 80) wx w') (hu : QV w' u x) (fx : FitV d x) => into_g u (.slice ra d rc) (.slice pa5 d pc5) w.heap.size P L x row (lineOf dv line) (prodOf dv) d x5 a5 n5 c5 y5 e5 l5 d5 w' hd hu ((HRow.out.mono Hbx.out).keep hk (by decide) (by decide)) (hl.out.keep hk (by decide) (by decide)) (hR.out.keep hk (by decide)) hP0 fx HFr.out hFo hPz (blk1c (hk.blk _ _ _ (by decide) hX.out)).1 (blk1c (hk.blk _ _ _ (by decide) hL.out)).1 (blk4v (hk.blk _ _ _ (by decide) hP.out)).1)
    have HPr := hI (fun w' u x (hu : QV w' u (intoV row (lineOf dv line) (prodOf dv) x)) (fx : FitV d x) => prim_g u _ d 4000 w' hu (HIz.out x fx).1 (HIz.out x fx).2 hd (Nat.le_refl _))
    have HPl := hI (fun w' u (hu : QV w' u (lineOf dv line)) => prim_g u _ d 100 w' hu hFo.1 hFo.2 hd (by omega))
    have HIl := hI (fun x (fx : FitV d x) => (HIz.out x fx).1)
    have HXb := hI hX.out
    have HLb := hI hL.out
    have HPb := hI hP.out
    have HLv := hI hl.out
    clear hL hl hP hR hb hX hP0 hPz hFo HIz Hs0 HSg HL4 HX4 Hln4 HP4 HR4 Hb4 d0 d1 d2 d3' HDt
    generalize hinto : intoV row (lineOf dv line) (prodOf dv) = into at *
    generalize hline : lineOf dv line = line' at *
    have Hinto := hI hinto
    have Hline := hI hline
    clear hinto hline
    obtain ⟨⟨B0, B1, B2⟩, -⟩ := blk3c (HB.out.below Hbx.out)
    have hk0 : (0 : Int) ≤ (k : Int) := Int.natCast_nonneg _
    go_wp2_with fail
    go_loopw [41, 11] (fun i o wr => ∃ q : Nat, q ≤ N ∧ i = .int .i64 (q : Int) ∧ Hid (Below wx.heap.size wx wr ∧ OV wx.heap.size wr o (((st.lines.take q).eraseIdx k).map into))) (fun i _ _ => N - (intOf i).toNat)
    case atStart => exact ⟨0, by omega, rfl, Below.refl _ _, by simp; exact OV.nil _ _⟩
    case round =>
      obtain ⟨q, hq, rfl, hP⟩ := hrel
      obtain ⟨hbw, hO⟩ := hP.out
      have Hbw := hI hbw
      have HO := hI hO
      obtain ⟨oa, oc, rfl, ho1, ho2⟩ := hO.open
      obtain ⟨len, hlen⟩ : ∃ len, (((st.lines.take q).eraseIdx k).map into).length = len := ⟨_, rfl⟩
      have hle : len ≤ q := by
        rw [← hlen, List.length_map]
        exact Nat.le_trans (List.length_eraseIdx_le _ _) (List.length_take_le _ _)
      rw [hlen] at HO ho1 ⊢
      have Hlen := hI hlen
      unfold maxLen at ho2
      clear hP hbw hO hlen B0 B1 B2
      have hq0 : (0 : Int) ≤ (q : Int) := Int.natCast_nonneg _
      rcases Nat.lt_or_ge q N with hlt | hge
      · obtain ⟨b6, o6, p6, x6, ha6, hx6, c6, hp6⟩ := ((HVl.out.below Hbx.out).below Hbw.out).vs.at (Below.refl _ _) hlt
        cases ha6
        obtain ⟨pa6, pc6, rfl, -, -⟩ := hp6.open
        have fx6 := HFl.out x6 (List.mem_of_getElem? hx6)
        rw [fx6.1] at hp6 c6
        have hqN : (q : Int) < (N : Int) := by omega
        have hqw : IntKind.i64.wrap ((q : Int) + 1) = (q : Int) + 1 := IntWalk.i64_in _ (by omega)
        have Her := hI (erase_take (at' := k) hx6)
        by_cases hqk : q = k
        · subst hqk
          have Her2 := hI (show (st.lines.take (q + 1)).eraseIdx q = (st.lines.take q).eraseIdx q from by rw [Her.out, if_pos rfl])
          clear hx6 hp6 fx6
          go_wp2_with fail
          go_roundw
          case rel => exact ⟨q + 1, by omega, by go_num, Hbw.out, by rw [Her2.out]; exact HO.out⟩
          case measure => simp [intOf] <;> omega
        · have hqi : ¬ (q : Int) = (k : Int) := by omega
          have Her2 := hI (show ((st.lines.take (q + 1)).eraseIdx k).map into = ((st.lines.take q).eraseIdx k).map into ++ [into x6] from by rw [Her.out, if_neg hqk, List.map_append]; rfl)
          have HIx := hI (HIn.out wr _ x6 (.below Hbw.out) hp6 fx6)
          have HIl6 := hI (HIl.out x6 fx6)
          clear hqk hx6 hp6 fx6
          go_wp2_with (first
            | (go_at_call 75; refine (HIx.out).mono ?_; rintro e5 w5 ⟨v5, rfl, hv5, hb5⟩; obtain ⟨qa, qc, hv5e, -, -⟩ := hv5.open; rw [HIl6.out] at hv5e; subst hv5e; have Hb5 := hI (bw_via hb5 (below1 w5 (.cells #[.slice qa d qc] 46))); have HQ5 := hI (hv5.mono (below1 w5 (.cells #[.slice qa d qc] 46))); have HBn := hI (Blk.new w5 #[.slice qa d qc] 46); clear hv5 hb5)
            | (at_builtin; obtain ⟨ps, hpl, hpo, hpq⟩ := HO.out.below Hb5.out; have hpo2 := hpo; rw [Hlen.out] at hpo2; refine wpAppL EVs (by decide) [.slice qa d qc] rfl _ _ rfl wx.heap.size len _ ps _ rfl rfl hpo2 HBn.out rfl (one1 _ rfl) (by omega) (by decide) (bw_via Hbw.out Hb5.out).size ?_; intro g4 cap4 w4 hown' hg' _ _; have HV4 := hI (OV.snoc2 hpl hpq hpo HQ5.out hg' (by rw [Hlen.out]; exact hown')); have Hb4 := hI (Below.grown (bw_via Hbw.out Hb5.out) hg' (bw_via Hbw.out Hb5.out).size (fun q hq => (hpo.lt q hq).1)); clear hpl hpo hpq hpo2 hown' hg'))
          go_roundw
          case rel => exact ⟨q + 1, by omega, by go_num, Hb4.out, by rw [Her2.out]; exact HV4.out⟩
          case measure => simp [intOf] <;> omega
      · obtain rfl : q = N := by omega
        have hqN : ¬ (q : Int) < (q : Int) := by omega
        have hall : st.lines.take q = st.lines := List.take_of_length_le (by have := HNn.out; omega)
        rw [hall] at HO Hlen
        have hBw := (HB.out.below Hbx.out).below Hbw.out
        obtain ⟨⟨B0, B1, B2⟩, F0, F1, F2⟩ := blk3c hBw
        have hkB := Keep.set (ok := fun T => T ≠ 80) hBw (fun k => k rfl) 0 (.slice oa len oc)
        have HMw := hI (show M ≤ wx.heap.size from Nat.le_trans HM.out Hbx.out.size)
        have HSP := hI (show SPl M w wx (wr.setCell ⟨B, 0, none⟩ (.slice oa len oc)) B (.slice oa len oc) (.slice ya R yc) ((n + 1 : Nat) : Int) ((st.lines.eraseIdx k).map into) st.rays from
          ⟨(Keep.below Hbw.out).trans (hkB.weak fun T hT => hT.2), (((Hbx.out.mono HM.out).trans (Hbw.out.mono HMw.out)).setCell (p := ⟨B, 0, none⟩) HMB.out _), hBw.set 0 _, (HO.out.base HMw.out).keep hkB (by decide) (by decide) (by decide), ((HVr.out.below Hbx.out).below Hbw.out).keep hkB (by decide) (by decide) (by decide)⟩)
        clear hall hkB hBw
        go_upto_region 14 with (fail)
        generalize wr.setCell ⟨B, 0, none⟩ (.slice oa len oc) = wy at *
        obtain ⟨⟨B0, B1, B2⟩, -⟩ := blk3c HSP.out.blk
        have hcap : R ≤ yc := hy1
        go_wp2_with fail
        generalize hnc : ((n + 1 : Nat) : Int) = nc at *
        have Hnc := hI hnc
        clear hnc
        go_loopw [65] (fun i wr => ∃ q : Nat, q ≤ R ∧ i = .int .i64 (q : Int) ∧ Hid (SPl M w wx wr B (.slice oa len oc) (.slice ya R yc) nc ((st.lines.eraseIdx k).map into) (mixR (fun r => (primV (into r.1), r.2 ||| 2 ^ n)) st.rays q))) (fun i _ => R - (intOf i).toNat)
        case atStart => exact ⟨0, by omega, rfl, by rw [mixR_zero]; exact HSP.out⟩
        case round =>
          clear B0 B1 B2 F0 F1 F2 Hbw HO
          obtain ⟨q, hq, rfl, hS⟩ := hrel
          obtain ⟨wo, rfl⟩ : ∃ W, W = wr := ⟨_, rfl⟩
          have HS := hI hS.out
          have HMo := hI (show M ≤ wo.heap.size from Nat.le_trans HM.out HS.out.below.size)
          clear hS HSP
          have hq0 : (0 : Int) ≤ (q : Int) := Int.natCast_nonneg _
          rcases Nat.lt_or_ge q R with hlt | hge
          · have hqR : (q : Int) < (R : Int) := by omega
            have hqw : IntKind.i64.wrap ((q : Int) + 1) = (q : Int) + 1 := IntWalk.i64_in _ (by omega)
            obtain ⟨G, rfl⟩ := HyG.out (by omega)
            obtain ⟨x7, hx7⟩ : ∃ x, st.rays[q]? = some x := ⟨_, List.getElem?_eq_getElem (by have := HRr.out; omega)⟩
            have hm7 := mixR_at (f := fun r => (primV (into r.1), r.2 ||| 2 ^ n)) hx7
            have Hst := hI (mixR_step (f := fun r => (primV (into r.1), r.2 ||| 2 ^ n)) hx7)
            obtain ⟨b7, o7, pa7, pn7, pc7, r7, ha7, hr7, hq7, hrg⟩ := HS.out.or.ry.at (Below.refl _ _) hlt
            cases ha7
            rw [hm7, Option.some.injEq] at hr7
            subst hr7
            rw [Nat.zero_add] at hrg
            have fx7 := HFy.out x7 (List.mem_of_getElem? hx7)
            obtain ⟨pa8, pc8, he8, -, -⟩ := hq7.open
            cases he8
            rw [fx7.1.1] at hq7 hrg
            obtain ⟨v7, t7⟩ := x7
            dsimp only at *
            have Ht7 := hI fx7.2
            have Hf7 := hI fx7.1
            have HGR := hI (show G < wo.heap.size from HS.out.or.lt rfl)
            have hA := below1 wo (.cells (rayC (.slice pa7 d pc7) t7).toArray 89)
            have HR6 := hI (Blk.new wo (rayC (.slice pa7 d pc7) t7).toArray 89)
            have HS6 := hI (HS.out.mono HMo.out hA)
            have Hq6 := hI (hq7.mono hA)
            have HoR := hI (rayC_one pa7 d pc7 t7)
            clear hm7 hx7 hq7 fx7 hA
            go_upto_region 17 with (first
              | (refine wpList_load_mid rfl 89 _ rfl G (q * 17) rfl (rayC (.slice pa7 d pc7) t7) _ hrg Tryz.underlying89 rfl (by kernel_rfl) ?_; clear hrg)
              | (refine wpList_store_new rfl 89 _ _ rfl _ (rayC (.slice pa7 d pc7) t7) rfl rfl (by kernel_rfl) (by kernel_rfl) HoR.out ?_))
            generalize wo.alloc (.cells (rayC (.slice pa7 d pc7) t7).toArray 89) = w6 at *
            generalize wo.heap.size = R1 at *
            obtain ⟨⟨r0, -⟩, -⟩ := ray_c01 HR6.out
            have HI7 := hI (HIn.out w6 _ v7 HS6.out.keep Hq6.out Hf7.out)
            have HP7 := hI (fun w' u hu => HPr.out w' u v7 hu Hf7.out)
            have HIl7 := hI (HIl.out v7 Hf7.out)
            go_upto_region 18 with (first
              | (go_at_call 75; refine (HI7.out).mono ?_; rintro e5 w8 ⟨v8, rfl, hv8, hb8⟩; obtain ⟨qa, qc, hv8e, -, -⟩ := hv8.open; rw [HIl7.out] at hv8e; subst hv8e; have Hb8 := hI hb8; have Hv8 := hI hv8; clear hv8 hb8 r0)
              | (go_at_call 45; refine (HP7.out _ _ Hv8.out).mono ?_; rintro e5 w9 ⟨v9, rfl, hv9, hb9⟩; obtain ⟨ka, kc, hv9e, -, -⟩ := hv9.open; subst hv9e; have Hb9 := hI (bw_via Hb8.out hb9); have Hv9 := hI hv9; clear hv9 hb9; obtain ⟨⟨r0, -⟩, f0, -⟩ := ray_c01 (HR6.out.below Hb9.out)))
            have HR9 := HR6.out.below Hb9.out
            have HS10 := hI ((HS6.out.mono (Nat.le_trans HMo.out (Nat.le_of_lt HR6.out.lt)) Hb9.out).cell HR9 HMo.out (fun e => Nat.ne_of_lt HGR.out (Option.some.inj e)) 0 (.slice ka (primV (into v7)).length kc))
            have HR10 := hI (show Blk (w9.setCell ⟨R1, 0, none⟩ (.slice ka (primV (into v7)).length kc)) R1 (rayC (.slice ka (primV (into v7)).length kc) t7).toArray 89 from by have := HR9.set 0 (.slice ka (primV (into v7)).length kc); rwa [ray_set0] at this)
            have Hv10 := hI (Hv9.out.keep (Keep.set (ok := fun T => T ≠ 89) HR9 (fun k => k rfl) 0 (.slice ka (primV (into v7)).length kc)) (by decide) (by decide))
            generalize w9.setCell ⟨R1, 0, none⟩ (.slice ka (primV (into v7)).length kc) = w10 at *
            clear HR9 r0 f0 HS6 HR6 Hq6 Hv8 Hv9 Hb8 Hb9 HI7 HP7 HIl7
            obtain ⟨⟨-, r1⟩, -, f1⟩ := ray_c01 HR10.out
            have HSt := hI (tset_g R1 1 t7 n w10 r1 f1 Ht7.out hn)
            clear r1 f1
            go_upto_region 19 with (go_at_call 43; refine (HSt.out).mono ?_; rintro e5 w5 ⟨rfl, w11, hb11, rfl⟩; have Hb11 := hI hb11; clear hb11)
            have HR11 := HR10.out.below Hb11.out
            have HS12 := hI ((HS10.out.mono (Nat.le_trans HMo.out (Nat.le_of_lt HR10.out.lt)) Hb11.out).cell HR11 HMo.out (fun e => Nat.ne_of_lt HGR.out (Option.some.inj e)) 1 (.int .u64 ((t7 ||| 2 ^ n : Nat) : Int)))
            have HR12 := hI (show Blk (w11.setCell ⟨R1, 1, none⟩ (.int .u64 ((t7 ||| 2 ^ n : Nat) : Int))) R1 (rayC (.slice ka (primV (into v7)).length kc) (t7 ||| 2 ^ n)).toArray 89 from by have := HR11.set 1 (.int .u64 ((t7 ||| 2 ^ n : Nat) : Int)); rwa [ray_set1] at this)
            have Hv12 := hI ((Hv10.out.mono Hb11.out).keep (Keep.set (ok := fun T => T ≠ 89) HR11 (fun k => k rfl) 1 (.int .u64 ((t7 ||| 2 ^ n : Nat) : Int))) (by decide) (by decide))
            generalize w11.setCell ⟨R1, 1, none⟩ (.int .u64 ((t7 ||| 2 ^ n : Nat) : Int)) = w12 at *
            clear HR11 HS10 HR10 Hv10 Hb11 HSt
            generalize t7 ||| 2 ^ n = t8 at *
            obtain ⟨⟨B0, B1, B2⟩, -⟩ := blk3c HS12.out.blk
            have hrl := range_blk HR12.out
            have HoR2 := hI (rayC_one ka (primV (into v7)).length kc t8)
            refine wp_region_pop (S := (fun w' => w'.cell? ⟨B, 1, none⟩ = some (.slice (some ⟨G, 0, none⟩) R yc))) 7 (by kernel_rfl) (by kernel_rfl) (by exact B1) (fun hHeld => ?_)
            simp only [List.take_succ_cons, List.take_zero, List.drop_succ_cons, List.drop_zero]
            refine' tk 0 ?_; (try simp only [tkS]); refine' tk 1 ?_; (try simp only [tkS]); refine' tk 2 ?_; (try simp only [tkS]); refine' tk 3 ?_; (try simp only [tkS]); refine' tk 4 ?_; (try simp only [tkS])
            refine tk1 5 (fun K hK => ?_)
            rw [if_pos (by rfl)]
            refine wp_load_mid 89 _ rfl R1 0 rfl (rayC (.slice ka (primV (into v7)).length kc) t8) _ hrl Tryz.underlying89 rfl (by kernel_rfl) ?_
            refine hK.out _ _ (by exact B1) (fun hHeld => ?_)
            clear hK K; (try simp only [tkS])
            refine' tk 6 ?_; (try simp only [tkS])
            refine tkD ?_ _
            simp only [Exit.then]
            have hS20 := HS12.out.mono (Nat.le_trans HMo.out (Nat.le_of_lt HR12.out.lt)) ((Below.refl _ _).dn 1)
            have hth := hS20.or.there hlt
            obtain ⟨hO20, hK20, hB20⟩ := hS20.or.set (q := q) (r := (primV (into v7), t8)) hlt (Hv12.out.mono ((Below.refl _ _).dn 1))
            rw [Hst.out] at hO20
            have HS20 := hI (hS20.ray hK20 (hB20 M (Nat.le_refl _)) hO20)
            clear hS20 hO20 hK20 hB20 hrl B0 B1 B2
            refine wpList_store_mid rfl 89 _ _ rfl G (q * 17) (rayC (.slice ka (primV (into v7)).length kc) t8).toArray rfl rfl (by exact hth) (by kernel_rfl) (all_oneCell_toArray HoR2.out) ?_
            clear hth
            go_wp2_with fail
            go_roundw
            case rel => exact ⟨q + 1, by omega, by go_num, HS20.out⟩
            case measure => simp [intOf] <;> omega
          · obtain rfl : q = R := by omega
            have hqR : ¬ (q : Int) < (q : Int) := by omega
            have hall : mixR (fun r => (primV (into r.1), r.2 ||| 2 ^ n)) st.rays q = st.rays.map (fun r => (primV (into r.1), r.2 ||| 2 ^ n)) := by rw [← HRr.out]; exact mixR_all _ _
            rw [hall] at HS
            clear hall
            obtain ⟨l0, -⟩ := blk1c (HS.out.keep.blk _ _ _ (by decide) HLb.out)
            have HP7 := hI (HPl.out wo _ (HLv.out.keep HS.out.keep (by decide) (by decide)))
            generalize hrays : st.rays.map (fun r => (primV (into r.1), r.2 ||| 2 ^ n)) = rays' at *
            generalize hlines : (st.lines.eraseIdx k).map into = lines' at *
            have Hrays := hI hrays
            have Hlines := hI hlines
            clear hrays hlines
            go_upto_region 22 with (first
              | (go_at_call 45; refine (HP7.out).mono ?_; rintro e5 w6 ⟨v6, rfl, hv6, hb6⟩; obtain ⟨ka, kc, hv6e, -, -⟩ := hv6.open; subst hv6e; have Hb6 := hI hb6; have Hv6 := hI hv6; clear hv6 hb6)
              | (refine wpList_store_new rfl 89 _ _ rfl _ (rayC (.slice ka (primV line').length kc) 0) rfl rfl (by kernel_rfl) (by kernel_rfl) (rayC_one _ _ _ _) ?_))
            have hA := below1 w6 (.cells (rayC (.slice ka (primV line').length kc) 0).toArray 89)
            have HR7 := hI (Blk.new w6 (rayC (.slice ka (primV line').length kc) 0).toArray 89)
            have HS7 := hI (HS.out.mono HMo.out (bw_via Hb6.out hA))
            have Hv7 := hI (Hv6.out.mono hA)
            have HM6 := hI (show M ≤ w6.heap.size from Nat.le_trans HMo.out Hb6.out.size)
            have HyR := hI (show (Value.slice ya q yc).ownBlock ≠ some w6.heap.size from fun e => by have := (HS.out.or.below Hb6.out).lt e; omega)
            clear hA HS l0 HP7 Hb6 Hv6
            generalize w6.alloc (.cells (rayC (.slice ka (primV line').length kc) 0).toArray 89) = w7 at *
            generalize w6.heap.size = R2 at *
            go_wp2_with fail
            go_loopw [91] (fun i wr => ∃ u : Nat, u ≤ n ∧ i = .int .i64 (u : Int) ∧ Hid (SPl M w wx wr B (.slice oa len oc) (.slice ya q yc) nc lines' rays' ∧ Blk wr R2 (rayC (.slice ka (primV line').length kc) (2 ^ u - 1)).toArray 89 ∧ QV wr (.slice ka (primV line').length kc) (primV line'))) (fun i _ => n - (intOf i).toNat)
            case atStart => exact ⟨0, by omega, rfl, HS7.out, HR7.out, Hv7.out⟩
            case round =>
              obtain ⟨u, hu, rfl, hP⟩ := hrel
              obtain ⟨hS, hR, hV⟩ := hP.out
              obtain ⟨wp, rfl⟩ : ∃ W, W = wr := ⟨_, rfl⟩
              have HS := hI hS
              have HR := hI hR
              have HV := hI hV
              clear hP hS hR hV HS7 HR7 Hv7
              have hu0 : (0 : Int) ≤ (u : Int) := Int.natCast_nonneg _
              have HMp := hI (show M ≤ wp.heap.size from Nat.le_trans HM.out HS.out.below.size)
              rcases Nat.lt_or_ge u n with hlt | hge
              · have hun : (u : Int) < (n : Int) := by omega
                have huw : IntKind.i64.wrap ((u : Int) + 1) = (u : Int) + 1 := IntWalk.i64_in _ (by omega)
                obtain ⟨⟨-, r1⟩, -, f1⟩ := ray_c01 HR.out
                have HSt := hI (tset_g R2 1 (2 ^ u - 1) u wp r1 f1 (by have h2 : (2 : Nat) ^ u < 2 ^ 64 := Nat.pow_lt_pow_right (by omega) (by omega); omega) (by omega))
                rw [pow_step] at HSt
                clear r1 f1
                go_wp2_with (go_at_call 43; refine (HSt.out).mono ?_; rintro e5 w5 ⟨rfl, w11, hb11, rfl⟩; have Hb11 := hI hb11; clear hb11)
                have HR11 := HR.out.below Hb11.out
                have HS12 := hI ((HS.out.mono HMp.out Hb11.out).cell HR11 HM6.out HyR.out 1 (.int .u64 ((2 ^ (u + 1) - 1 : Nat) : Int)))
                have HR12 := hI (show Blk (w11.setCell ⟨R2, 1, none⟩ (.int .u64 ((2 ^ (u + 1) - 1 : Nat) : Int))) R2 (rayC (.slice ka (primV line').length kc) (2 ^ (u + 1) - 1)).toArray 89 from by have := HR11.set 1 (.int .u64 ((2 ^ (u + 1) - 1 : Nat) : Int)); rwa [ray_set1] at this)
                have Hv12 := hI ((HV.out.mono Hb11.out).keep (Keep.set (ok := fun T => T ≠ 89) HR11 (fun k => k rfl) 1 (.int .u64 ((2 ^ (u + 1) - 1 : Nat) : Int))) (by decide) (by decide))
                clear HR11
                go_roundw
                case rel => exact ⟨u + 1, by omega, by go_num, HS12.out, HR12.out, Hv12.out⟩
                case measure => simp [intOf] <;> omega
              · obtain rfl : u = n := by omega
                have hun : ¬ (u : Int) < (u : Int) := by omega
                obtain ⟨⟨B0, B1, B2⟩, -⟩ := blk3c HS.out.blk
                have hrl := range_blk HR.out
                have HS27 := hI (fun w' (hb : Below wp.heap.size wp w') => show (fun w' => w'.cell? ⟨B, 1, none⟩ = some (.slice ya q yc)) w' from cell_keep hb B1)
                generalize ht9 : 2 ^ u - 1 = t9 at *
                have Ht9 := hI ht9
                clear ht9
                obtain ⟨ps, hpl, hpo, hpq⟩ := HS.out.or.below (bw_via ((Below.refl wp.heap.size wp).dn 1) (below1 (wp.drewN 1) (.cells (rayC (.slice ka (primV line').length kc) t9).toArray 89)))
                have Hpl := hI hpl
                have Hpo := hI hpo
                have Hpq := hI hpq
                have hrl9 : rays'.length = q := by
                  obtain ⟨a, c, hv, -, -⟩ := own_open hpo
                  cases hv
                  rfl
                have Hrl9 := hI hrl9
                rw [hrl9] at hpo
                have Hpo2 := hI hpo
                clear hpl hpo hpq hrl9
                go_wp2_with fail
                refine wp_region_pop (S := (fun w' => w'.cell? ⟨B, 1, none⟩ = some (.slice ya q yc))) 10 (by kernel_rfl) (by kernel_rfl) (by exact (HS27.out _ ((Below.refl _ _).dn 1))) (fun hHeld => ?_)
                simp only [List.take_succ_cons, List.take_zero, List.drop_succ_cons, List.drop_zero]
                refine' tk 0 ?_; (try simp only [tkS]); refine' tk 1 ?_; (try simp only [tkS]); refine' tk 2 ?_; (try simp only [tkS]); refine' tk 3 ?_; (try simp only [tkS]); refine' tk 4 ?_; (try simp only [tkS])
                refine tk1 5 (fun K hK => ?_)
                rw [if_pos (by rfl)]
                refine wp_load_mid 89 _ rfl R2 0 rfl (rayC (.slice ka (primV line').length kc) t9) _ hrl Tryz.underlying89 rfl (by kernel_rfl) ?_
                refine hK.out _ _ (by exact (HS27.out _ ((Below.refl _ _).dn 1))) (fun hHeld => ?_)
                clear hK K; (try simp only [tkS])
                refine tk1 6 (fun K hK => ?_)
                rw [if_pos (by rfl)]
                refine wp_bsRay _ rfl ka (primV line').length kc t9 rfl ?_
                refine hK.out _ _ (by exact (HS27.out _ (bwA ((Below.refl _ _).dn 1) _))) (fun hHeld => ?_)
                clear hK K; (try simp only [tkS])
                refine tk1 7 (fun K hK => ?_)
                refine stepApp ER (by decide) (rayC (.slice ka (primV line').length kc) t9) rfl _ _ rfl M q _ _ _ rfl rfl Hpo2.out (Blk.new (wp.drewN 1) (rayC (.slice ka (primV line').length kc) t9).toArray 89) rfl (rayC_one _ _ _ _) (by omega) (by decide) (Nat.le_trans HMp.out (bw_via ((Below.refl wp.heap.size wp).dn 1) (below1 (wp.drewN 1) _)).size) ?_
                intro g9 cap9 w9 hown9 hg9 _ _
                have hbA := bw_via ((Below.refl wp.heap.size wp).dn 1) (below1 (wp.drewN 1) (.cells (rayC (.slice ka (primV line').length kc) t9).toArray 89))
                have hSA := HS.out.mono HMp.out hbA
                have hk9 := Keep.grown (ok := fun T => T ≠ 89) Hpo.out (fun k => k rfl) hg9
                have hO9 := OR.snoc (r := (primV line', t9)) Hpl.out Hpq.out Hpo.out (HV.out.mono hbA) hg9 (by rw [Hrl9.out]; exact hown9)
                have hB9 := hk9.blk _ _ _ (by decide) hSA.blk
                have HBw := hI ((Below.grown hSA.below hg9 (Nat.le_trans HMp.out hbA.size) (fun q hq => (Hpo.out.lt q hq).1)).setCell (p := ⟨B, 1, none⟩) HMB.out (.slice (some ⟨g9, 0, none⟩) (q + 1) cap9))
                have hkB := Keep.set (ok := fun T => T ≠ 80) hB9 (fun k => k rfl) 1 (.slice (some ⟨g9, 0, none⟩) (q + 1) cap9)
                have HBS := hI (show BS M (w9.setCell ⟨B, 1, none⟩ (.slice (some ⟨g9, 0, none⟩) (q + 1) cap9)) B { lines := lines', rays := rays' ++ [(primV line', t9)], count := u + 1 } from ⟨HMB.out, .slice oa len oc, .slice (some ⟨g9, 0, none⟩) (q + 1) cap9, by have := hB9.set 1 (.slice (some ⟨g9, 0, none⟩) (q + 1) cap9); rw [← Hnc.out] at this; exact this, (hSA.ov.keep hk9 (by decide) (by decide) (by decide)).keep hkB (by decide) (by decide) (by decide), hO9.keep hkB (by decide) (by decide) (by decide)⟩)
                clear B0 B1 B2 hbA hSA hk9 hO9 hkB hown9 hg9
                obtain ⟨⟨B0, B1, B2⟩, F0, F1, F2⟩ := blk3c hB9
                clear hB9
                refine hK.out _ _ (by exact B1) (fun hHeld => ?_)
                clear hK K; (try simp only [tkS])
                refine' tk 8 ?_; (try simp only [tkS]); refine' tk 9 ?_; (try simp only [tkS])
                refine tkD ?_ _
                simp only [Exit.then]
                go_wp2_with fail
                go_end0
                refine ⟨rfl, ?_, HBw.out⟩
                rw [Hline.out, Hinto.out, Hlines.out, Hrays.out, Ht9.out]
                exact HBS.out
end Go.Proofs.YtlcmhbkmpkcajaaGreatDoor
