/-
  Parts of the proof: Qad.
-/
import Derived.Test.YtlcmhbkmpkcajaaGreatDoorN33
namespace Go.Proofs.YtlcmhbkmpkcajaaGreatDoor
open Go.RowKit
theorem mix_sz {d : Nat} {a b : Vec} {j k : Rat} (ha : FitV d a) (hb : FitV d b) (hj : Sz 1700 j) (hk : Sz 1700 k) : (mixV a j b k).length = d ∧ ∀ y ∈ mixV a j b k, Sz 4000 y := by
  refine ⟨by unfold mixV; rw [List.length_zipWith, ha.1, hb.1, Nat.min_self], fun y hy => ?_⟩
  unfold mixV at hy
  obtain ⟨i, hi⟩ := List.getElem?_of_mem hy
  rw [List.getElem?_zipWith] at hi
  cases h1 : a[i]? with
  | none => simp [h1] at hi
  | some u =>
    cases h2 : b[i]? with
    | none => simp [h1, h2] at hi
    | some v =>
      rw [h1, h2] at hi
      have hi := Option.some.inj hi
      subst hi
      have s1 : Sz 100 u := ha.2 u (List.mem_of_getElem? h1)
      have s2 : Sz 100 v := hb.2 v (List.mem_of_getElem? h2)
      exact ((s1.mul hj).add (s2.mul hk)).mono (by omega)
set_option maxHeartbeats 16000000 in
set_option maxRecDepth 10000 in
theorem add_g (B M d : Nat) (rv : Value) (row : List Rat) (st : Bld) (w : World) (hBS : BS M w B st) (hrow : QV w rv row) (frow : FitV d row) (hd : d ≤ 8) (fl : ∀ l ∈ st.lines, FitV d l) (fr : ∀ r ∈ st.rays, FitV d r.1 ∧ r.2 < 18446744073709551616) (hn : st.count < 64) (hll : st.lines.length ≤ 1000) (hrl : st.rays.length ≤ 300) :
    Calls Tryz.prog 29 #[.pointer (some ⟨B, 0, none⟩), rv] w (fun e w' => e = .returned (.tuple #[]) ∧ BS M w' B (addB st row) ∧ Below M w w') := by
  obtain ⟨hM, vl, vr, hB, hl, hr⟩ := hBS
  have hMw : M ≤ w.heap.size := Nat.le_trans hM (Nat.le_of_lt hB.lt)
  obtain ⟨ra, rc, rfl, -, -⟩ := hrow.open
  obtain ⟨la, lc, rfl, hl1, hl2⟩ := hl.open
  obtain ⟨ya, yc, rfl, hy1, hy2, hyG⟩ := hr.open
  obtain ⟨N, hN⟩ : ∃ N, st.lines.length = N := ⟨_, rfl⟩
  obtain ⟨R, hR⟩ : ∃ R, st.rays.length = R := ⟨_, rfl⟩
  obtain ⟨n, hcn⟩ : ∃ n, st.count = n := ⟨_, rfl⟩
  have hrowL := frow.1
  have HNn := hI hN
  have HRr := hI hR
  have HCn := hI hcn
  rw [hrowL] at hrow ⊢
  rw [hN] at hl1 hll hB hl
  rw [hR] at hy1 hrl hB hr hyG
  rw [hcn] at hn hB
  unfold maxLen at hl2 hy2
  have HM := hI hMw
  have HMB := hI hM
  have HB := hI hB
  have HVl := hI hl
  have HVr := hI hr
  have HRow := hI hrow
  have HFr := hI frow
  have HFl := hI fl
  have HFy := hI fr
  have HyG := hI hyG
  clear hM hB hl hr hMw hrow frow fl fr hyG hN hR hcn hrowL
  have hnw : IntKind.i64.wrap ((n : Int) + 1) = (n : Int) + 1 := IntWalk.i64_in _ (by omega)
  go_enter Tryz.func29, Tryz.ntmps29
  go_upto_region 1 with (fail)
  have HX1 := hI (Blk.new w #[.slice ra d rc] 46)
  have Hb1 := hI (below1 w (.cells #[.slice ra d rc] 46))
  generalize w.alloc (.cells #[.slice ra d rc] 46) = w1 at *
  obtain ⟨⟨B0, B1, B2⟩, F0, F1, F2⟩ := blk3c (HB.out.below Hb1.out)
  have hB1 := HB.out.below Hb1.out
  have hk1 := Keep.set (ok := fun T => T ≠ 80) hB1 (fun k => k rfl) 2 (.int .i64 ((n : Int) + 1))
  have HB2 := hI (show Blk (w1.setCell ⟨B, 2, none⟩ (.int .i64 ((n : Int) + 1))) B #[.slice la N lc, .slice ya R yc, .int .i64 ((n + 1 : Nat) : Int)] 80 from hB1.set 2 (.int .i64 ((n : Int) + 1)))
  have HVl2 := hI ((HVl.out.below Hb1.out).keep hk1 (by decide) (by decide) (by decide))
  have HVr2 := hI ((HVr.out.below Hb1.out).keep hk1 (by decide) (by decide) (by decide))
  have HRow2 := hI ((HRow.out.mono Hb1.out).keep hk1 (by decide) (by decide))
  have HX2 := hI (hk1.blk _ _ _ (by decide) HX1.out)
  have Hb2 := hI ((Hb1.out.mono HM.out).setCell (p := ⟨B, 2, none⟩) HMB.out (.int .i64 ((n : Int) + 1)))
  clear hB1 hk1
  go_upto_region 3 with (fail)
  generalize w1.setCell ⟨B, 2, none⟩ (.int .i64 ((n : Int) + 1)) = w2 at *
  clear B0 B1 B2 F0 F1 F2 HX1 Hb1 HB HVl HVr HRow
  obtain ⟨⟨B0, B1, B2⟩, -⟩ := blk3c HB2.out
  have HIx := hI (vix_g 41 ⟨w.heap.size, 0, none⟩ (enters_of Tryz.func41 (by kernel_rfl) rfl) st.lines (fun l => decide (dotV row l ≠ 0)) (.slice la N lc) w2 HVl2.out.vs (by have := HNn.out; omega) (fun k x hx w' p hb hp =>
    addp_g p (.slice ra d rc) w.heap.size x row d w' hd hp (HRow2.out.mono hb) (HFl.out x (List.mem_of_getElem? hx)) HFr.out (cell_keep hb (blk1c HX2.out).1)))
  have HM2 := hI (show M ≤ w2.heap.size from Nat.le_trans HM.out Hb2.out.size)
  cases hf : st.lines.findIdx? (fun l => decide (dotV row l ≠ 0)) with
  | some k =>
    have HIv := hI (show ixV (fun l => decide (dotV row l ≠ 0)) st.lines = (k : Int) from by unfold ixV; rw [hf])
    rw [HIv.out] at HIx
    have HAd := hI (show addB st row = splitB st row k n from by unfold addB; rw [hf, HCn.out])
    rw [List.findIdx?_eq_some_iff_getElem] at hf
    obtain ⟨hkl, hkp, -⟩ := hf
    have hk0 : (0 : Int) ≤ (k : Int) := Int.natCast_nonneg _
    have HSp := hI (fun w' (hb : Below w2.heap.size w2 w') => split_g B M k n d (.slice ra d rc) row st w' (.slice la N lc) (.slice ya R yc) HMB.out (HB2.out.below hb) (HVl2.out.below hb) (HVr2.out.below hb) (HRow2.out.mono hb) HFr.out hd HFl.out HFy.out hn hkl (by rw [List.getD_eq_getElem?_getD, List.getElem?_eq_getElem hkl, Option.getD_some]; simpa using hkp) (by have := HNn.out; omega) (by have := HRr.out; omega))
    clear hkp HIv
    go_wp2_with (first
      | (go_at_call 40; refine (HIx.out).mono ?_; rintro e5 w3 ⟨rfl, hb3⟩; have Hb3 := hI hb3; obtain ⟨x0, -⟩ := blk1c (HX2.out.below hb3); clear hb3)
      | (go_at_call 42; refine (HSp.out _ Hb3.out).mono ?_; rintro e5 w4 ⟨rfl, hs4, hb4⟩; have Hs4 := hI hs4; have Hb4 := hI (Hb2.out.trans ((Hb3.out.mono HM2.out).trans hb4)); clear hs4 hb4))
    exact bodyPost_ret (v := .tuple #[]) (by simp [results, Tryz.results29, go_sem]) rfl ⟨rfl, by rw [HAd.out]; exact Hs4.out, Hb4.out⟩
  | none =>
    have HIv := hI (show ixV (fun l => decide (dotV row l ≠ 0)) st.lines = -1 from by unfold ixV; rw [hf])
    rw [HIv.out] at HIx
    have HAd := hI (show addB st row = { lines := st.lines, rays := if behindB row st.rays = [] then keptB row n st.rays else keptB row n st.rays ++ madeB row n st.rays, count := n + 1 } from by unfold addB; rw [hf, HCn.out])
    clear hf HIv
    go_upto_region 6 with (go_at_call 40; refine (HIx.out).mono ?_; rintro e5 w3 ⟨rfl, hb3⟩; have Hb3 := hI hb3; clear hb3)
    have HB3 := hI (HB2.out.below Hb3.out)
    have HVl3 := hI (HVl2.out.below Hb3.out)
    have HVr3 := hI (HVr2.out.below Hb3.out)
    have HRow3 := hI (HRow2.out.mono Hb3.out)
    have HX3 := hI (HX2.out.below Hb3.out)
    have HM3 := hI (show M ≤ w3.heap.size from Nat.le_trans HM2.out Hb3.out.size)
    have HbM := hI (Hb2.out.trans (Hb3.out.mono HM2.out))
    clear B0 B1 B2 HB2 HVl2 HVr2 HRow2 HX2 Hb2 Hb3 HIx HM2
    obtain ⟨⟨B0, B1, B2⟩, -⟩ := blk3c HB3.out
    have HDt := hI (fun w' u v x (h1 : QV w' u row) (h2 : QV w' v x) (fx : FitV d x) => dot_g u v row x d 100 w' h1 h2 HFr.out.1 fx.1 HFr.out.2 fx.2 (by have := Nat.mul_le_mul_right 201 (Nat.succ_le_succ hd); omega))
    have HXr := hI (fun w' (hb : Below w3.heap.size w3 w') => (blk1c (HX3.out.below hb)).1)
    go_wp2_with fail
    go_loopw [49, 6, 7, 8] (fun i vk vb vp wr => ∃ q : Nat, q ≤ R ∧ i = .int .i64 (q : Int) ∧ Hid (AS w3 wr vk vb vp (keptB row n (st.rays.take q)) (behindB row (st.rays.take q)) (prodB row (st.rays.take q)))) (fun i _ _ _ _ => R - (intOf i).toNat)
    case atStart => exact ⟨0, by omega, rfl, ⟨Below.refl _ _, ORv.nil _ _ _, ORv.nil _ _ _, VO.nil _ _, fun b hb => by cases hb⟩⟩
    case round =>
      clear B0 B1 B2
      obtain ⟨q, hq, rfl, hS⟩ := hrel
      obtain ⟨wo, rfl⟩ : ∃ W, W = wr := ⟨_, rfl⟩
      have HS := hI hS.out
      clear hS
      obtain ⟨ka, kc, rfl, hk1, hk2⟩ := HS.out.k.open
      obtain ⟨ba, bc, rfl, hb1, hb2⟩ := HS.out.b.open
      obtain ⟨pa, pc, rfl, hp1, hp2⟩ := HS.out.p.open
      have hkl := kept_len row n st.rays q
      have hbl := behind_len row st.rays q
      have hpl : (prodB row (st.rays.take q)).length = (behindB row (st.rays.take q)).length := by unfold prodB; rw [List.length_map]
      rw [hpl] at hp1 HS ⊢
      obtain ⟨kl, hkl'⟩ : ∃ l, (keptB row n (st.rays.take q)).length = l := ⟨_, rfl⟩
      obtain ⟨bl, hbl'⟩ : ∃ l, (behindB row (st.rays.take q)).length = l := ⟨_, rfl⟩
      rw [hkl'] at HS hk1 hkl ⊢
      rw [hbl'] at HS hb1 hp1 hbl hpl ⊢
      have Hpl := hI hpl
      have Hkl := hI hkl'
      have Hbl := hI hbl'
      unfold maxLen at hk2 hb2 hp2
      clear hkl' hbl' hpl
      have hq0 : (0 : Int) ≤ (q : Int) := Int.natCast_nonneg _
      rcases Nat.lt_or_ge q R with hlt | hge
      · have hqR : (q : Int) < (R : Int) := by omega
        have hqw : IntKind.i64.wrap ((q : Int) + 1) = (q : Int) + 1 := IntWalk.i64_in _ (by omega)
        obtain ⟨G, rfl⟩ := HyG.out (by omega)
        obtain ⟨b7, o7, pa7, pn7, pc7, x7, ha7, hr7, hq7, hrg⟩ := HVr3.out.ry.at HS.out.below hlt
        cases ha7
        rw [Nat.zero_add] at hrg
        have fx7 := HFy.out x7 (List.mem_of_getElem? hr7)
        obtain ⟨pa8, pc8, he8, -, -⟩ := hq7.open
        cases he8
        rw [fx7.1.1] at hq7 hrg
        have Hst := hI (kept_step (row := row) (n := n) hr7)
        have Hbt := hI (behind_step (row := row) hr7)
        have Hpt := hI (prod_step (row := row) hr7)
        obtain ⟨v7, t7⟩ := x7
        dsimp only at *
        have Ht7 := hI fx7.2
        have Hf7 := hI fx7.1
        have Hv3 := hI (show QV w3 (.slice pa7 d pc7) v7 from by
          obtain ⟨b9, o9, pa9, pn9, pc9, x9, ha9, hr9, hq9, hrg9⟩ := HVr3.out.ry.at (Below.refl _ _) hlt
          cases ha9
          rw [hr7, Option.some.injEq] at hr9
          subst hr9
          have e1 := hrg 0 _ rfl
          have e2 := (range_mono hrg9 HS.out.below) 0 _ rfl
          rw [Nat.zero_add] at e2
          have e3 := Option.some.inj (e1.symm.trans e2)
          rw [e3]
          exact hq9)
        have hA := below1 wo (.cells (rayC (.slice pa7 d pc7) t7).toArray 89)
        have HR6 := hI (Blk.new wo (rayC (.slice pa7 d pc7) t7).toArray 89)
        have HS6 := hI (HS.out.mono hA)
        have HoR := hI (rayC_one pa7 d pc7 t7)
        have HnK := hI (show (Value.slice ka kl kc).ownBlock ≠ some wo.heap.size from fun e => Nat.lt_irrefl _ (HS.out.k.lt e).2)
        have HnB := hI (show (Value.slice ba bl bc).ownBlock ≠ some wo.heap.size from fun e => Nat.lt_irrefl _ (HS.out.b.lt e).2)
        clear hr7 hq7 fx7 hA
        go_upto_region 11 with (first
          | (refine wpList_load_mid rfl 89 _ rfl G (q * 17) rfl (rayC (.slice pa7 d pc7) t7) _ hrg Tryz.underlying89 rfl (by kernel_rfl) ?_; clear hrg)
          | (refine wpList_store_new rfl 89 _ _ rfl _ (rayC (.slice pa7 d pc7) t7) rfl rfl (by kernel_rfl) (by kernel_rfl) HoR.out ?_))
        have HwR := hI (show w3.heap.size ≤ wo.heap.size from HS.out.below.size)
        generalize wo.alloc (.cells (rayC (.slice pa7 d pc7) t7).toArray 89) = w6 at *
        generalize wo.heap.size = R1 at *
        obtain ⟨⟨r0, -⟩, -⟩ := ray_c01 HR6.out
        have x0 := HXr.out w6 HS6.out.below
        have HD7 := hI (HDt.out w6 _ _ v7 (HRow3.out.mono HS6.out.below) (Hv3.out.mono HS6.out.below) Hf7.out)
        go_upto_region 13 with (go_at_call 22; refine (HD7.out).mono ?_; rintro e5 w7 ⟨v8, rfl, hv8, hb8⟩; obtain ⟨x8, a8, n8, c8, y8, e8, l8, d8, rfl, hv8⟩ := hv8.open; have Hb8 := hI hb8; have Hv8 := hI hv8; clear hv8 hb8)
        have hA := below1 w7 (.cells #[.bool x8, .slice a8 n8 c8, .bool y8, .slice e8 l8 d8] 61)
        have HR8 := hI (HR6.out.below (bw_via Hb8.out hA))
        have HS8 := hI (HS6.out.mono (bw_via Hb8.out hA))
        have HP8 := hI (Blk.new w7 #[.bool x8, .slice a8 n8 c8, .bool y8, .slice e8 l8 d8] 61)
        have HQ8 := hI (Hv8.out.mono hA)
        clear hA r0 x0 HS6 HR6 HD7 Hb8 Hv8
        generalize w7.alloc (.cells #[.bool x8, .slice a8 n8 c8, .bool y8, .slice e8 l8 d8] 61) = w8 at *
        generalize w7.heap.size = P1 at *
        have HSg := hI (fun w' (hb : Below w8.heap.size w8 w') => show Calls Tryz.prog 23 #[.agg #[.bool x8, .slice a8 n8 c8, .bool y8, .slice e8 l8 d8]] w' (Ret (.int .i64 (dotV row v7).num.sign) w') from by
          obtain ⟨q, h, -⟩ := HQ8.out.mono hb
          exact rsign_any _ _ q _ h)
        have Hs1 := hI (rat_spos (dotV row v7))
        have Hs2 := hI (show (dotV row v7).num.sign = 0 ↔ dotV row v7 = 0 from by rw [Int.sign_eq_zero_iff_zero, Rat.num_eq_zero])
        generalize (dotV row v7).num.sign = sg at *
        obtain ⟨⟨d0, d1, d2, d3'⟩, -⟩ := blk4v HP8.out
        have HbC := hI (Below.refl w8.heap.size w8)
        have hrl := range_blk HR8.out
        by_cases h1 : 0 < sg
        · have Hst2 := hI (show keptB row n (st.rays.take (q + 1)) = keptB row n (st.rays.take q) from by rw [Hst.out, if_pos (Hs1.out.1 h1)])
          have Hbt2 := hI (show behindB row (st.rays.take (q + 1)) = behindB row (st.rays.take q) ++ [(v7, t7)] from by rw [Hbt.out, if_pos (Hs1.out.1 h1)])
          have Hpt2 := hI (show prodB row (st.rays.take (q + 1)) = prodB row (st.rays.take q) ++ [dotV row v7] from by rw [Hpt.out, if_pos (Hs1.out.1 h1)])
          have h1b : decide (0 < sg) = true := by simpa using h1
          go_upto_region 15 with (first
            | (go_at_call 23; refine (HSg.out _ HbC.out).mono ?_; rintro e5 w9 ⟨rfl, hb9⟩; have HbC := hI (bw_via HbC.out hb9); have hrl := range_mono hrl hb9; clear hb9)
            | (refine wpList_load_mid rfl 89 _ rfl R1 0 rfl (rayC (.slice pa7 d pc7) t7) _ hrl Tryz.underlying89 rfl (by kernel_rfl) ?_)
            | (refine wpList_bsRay rfl _ rfl pa7 d pc7 t7 rfl ?_)
            | (at_builtin; obtain ⟨xs, hxo, hxn⟩ := ((HS8.out.mono HbC.out).mono (below1 _ (.cells (rayC (.slice pa7 d pc7) t7).toArray 89))).behind; rw [Hbl.out] at hxo hxn; refine wpAppL ER (by decide) (rayC (.slice pa7 d pc7) t7) rfl _ _ rfl w3.heap.size bl _ xs _ rfl rfl hxo (Blk.new _ (rayC (.slice pa7 d pc7) t7).toArray 89) rfl HoR.out (by omega) (by decide) ((HS8.out.mono HbC.out).mono (below1 _ (.cells (rayC (.slice pa7 d pc7) t7).toArray 89))).below.size ?_; intro g9 cap9 w10 hown9 hg9 hgo9 _; obtain ⟨hS9, hk9⟩ := hxn (r := (v7, t7)) Hv3.out hown9 hg9 hgo9; have HS10 := hI hS9; have HP10 := hI (hk9.blk _ _ _ (by decide) ((HP8.out.below HbC.out).below (below1 _ (.cells (rayC (.slice pa7 d pc7) t7).toArray 89)))); have HQ10 := hI (((HQ8.out.mono HbC.out).mono (below1 _ (.cells (rayC (.slice pa7 d pc7) t7).toArray 89))).keep hk9 (by decide)); clear hxo hxn hown9 hg9 hgo9 hS9 hk9))
          obtain ⟨⟨d0, d1, d2, d3'⟩, -⟩ := blk4v HP10.out
          go_wp2_with (at_builtin; obtain ⟨xs, hxo, hxn⟩ := (HS10.out.mono (below1 w10 (.cells #[.bool x8, .slice a8 n8 c8, .bool y8, .slice e8 l8 d8] 61))).prod; rw [Hpl.out] at hxo hxn; refine wpAppL EV1 (by decide) [.bool x8, .slice a8 n8 c8, .bool y8, .slice e8 l8 d8] rfl _ _ rfl w3.heap.size bl _ xs _ rfl rfl hxo (Blk.new w10 #[.bool x8, .slice a8 n8 c8, .bool y8, .slice e8 l8 d8] 61) rfl (by simp [Value.oneCell']) (by omega) (by decide) (HS10.out.mono (below1 w10 (.cells #[.bool x8, .slice a8 n8 c8, .bool y8, .slice e8 l8 d8] 61))).below.size ?_; intro g11 cap11 w11 hown11 hg11 _ _; have HS11 := hI (hxn (r := dotV row v7) rfl (HQ10.out.mono (below1 w10 (.cells #[.bool x8, .slice a8 n8 c8, .bool y8, .slice e8 l8 d8] 61))) hown11 hg11); clear hxo hxn hown11 hg11)
          go_roundw
          case rel => exact ⟨q + 1, by omega, by go_num, by rw [Hst2.out, Hbt2.out, Hpt2.out]; exact HS11.out⟩
          case measure => simp [intOf] <;> omega
        · have Hbt2 := hI (show behindB row (st.rays.take (q + 1)) = behindB row (st.rays.take q) from by rw [Hbt.out, if_neg (fun h => h1 (Hs1.out.2 h))])
          have Hpt2 := hI (show prodB row (st.rays.take (q + 1)) = prodB row (st.rays.take q) from by rw [Hpt.out, if_neg (fun h => h1 (Hs1.out.2 h))])
          have h1b : decide (0 < sg) = false := by simpa using h1
          by_cases h2 : sg = 0
          · have Hst2 := hI (show keptB row n (st.rays.take (q + 1)) = keptB row n (st.rays.take q) ++ [(v7, t7 ||| 2 ^ n)] from by rw [Hst.out, if_neg (fun h => h1 (Hs1.out.2 h)), if_pos (Hs2.out.1 h2)])
            go_upto_region 17 with (go_at_call 23; refine (HSg.out _ HbC.out).mono ?_; rintro e5 w9 ⟨rfl, hb9⟩; have HbC := hI (bw_via HbC.out hb9); clear hb9 d0 d1 d2 d3'; obtain ⟨⟨d0, d1, d2, d3'⟩, -⟩ := blk4v (HP8.out.below HbC.out))
            have HR9 := hI (HR8.out.below HbC.out)
            obtain ⟨⟨-, r1⟩, -, f1⟩ := ray_c01 HR9.out
            have HSt := hI (tset_g R1 1 t7 n _ r1 f1 Ht7.out hn)
            clear r1 f1
            go_upto_region 18 with (go_at_call 43; refine (HSt.out).mono ?_; rintro e5 w5 ⟨rfl, w11, hb11, rfl⟩; have Hb11 := hI hb11; clear hb11)
            have HR11 := HR9.out.below Hb11.out
            have HSA := hI (((HS8.out.mono HbC.out).mono Hb11.out).cell (i := 1) (u := .int .u64 ((t7 ||| 2 ^ n : Nat) : Int)) HR11 HwR.out HnK.out HnB.out)
            have HR12 := hI (show Blk (w11.setCell ⟨R1, 1, none⟩ (.int .u64 ((t7 ||| 2 ^ n : Nat) : Int))) R1 (rayC (.slice pa7 d pc7) (t7 ||| 2 ^ n)).toArray 89 from by have := HR11.set 1 (.int .u64 ((t7 ||| 2 ^ n : Nat) : Int)); rwa [ray_set1] at this)
            generalize w11.setCell ⟨R1, 1, none⟩ (.int .u64 ((t7 ||| 2 ^ n : Nat) : Int)) = w12 at *
            generalize t7 ||| 2 ^ n = t8 at *
            clear HR11
            have hrl := range_blk HR12.out
            go_wp2_with (first
              | (refine wpList_load_mid rfl 89 _ rfl R1 0 rfl (rayC (.slice pa7 d pc7) t8) _ hrl Tryz.underlying89 rfl (by kernel_rfl) ?_)
              | (refine wpList_bsRay rfl _ rfl pa7 d pc7 t8 rfl ?_)
              | (at_builtin; obtain ⟨xs, hxo, hxn⟩ := (HSA.out.mono (below1 _ (.cells (rayC (.slice pa7 d pc7) t8).toArray 89))).kept; rw [Hkl.out] at hxo hxn; refine wpAppL ER (by decide) (rayC (.slice pa7 d pc7) t8) rfl _ _ rfl w3.heap.size kl _ xs _ rfl rfl hxo (Blk.new _ (rayC (.slice pa7 d pc7) t8).toArray 89) rfl (rayC_one _ _ _ _) (by omega) (by decide) (HSA.out.mono (below1 _ (.cells (rayC (.slice pa7 d pc7) t8).toArray 89))).below.size ?_; intro g9 cap9 w10 hown9 hg9 hgo9 _; obtain ⟨hS9, -⟩ := hxn (r := (v7, t8)) Hv3.out hown9 hg9 hgo9; have HS10 := hI hS9; clear hxo hxn hown9 hg9 hgo9 hS9))
            go_roundw
            case rel => exact ⟨q + 1, by omega, by go_num, by rw [Hst2.out, Hbt2.out, Hpt2.out]; exact HS10.out⟩
            case measure => simp [intOf] <;> omega
          · have Hst2 := hI (show keptB row n (st.rays.take (q + 1)) = keptB row n (st.rays.take q) ++ [(v7, t7)] from by rw [Hst.out, if_neg (fun h => h1 (Hs1.out.2 h)), if_neg (fun h => h2 (Hs2.out.2 h))])
            go_upto_region 12 with (go_at_call 23; refine (HSg.out _ HbC.out).mono ?_; rintro e5 w9 ⟨rfl, hb9⟩; have HbC := hI (bw_via HbC.out hb9); clear hb9 d0 d1 d2 d3'; obtain ⟨⟨d0, d1, d2, d3'⟩, -⟩ := blk4v (HP8.out.below HbC.out))
            have HSA := hI (HS8.out.mono HbC.out)
            have hrl := range_blk (HR8.out.below HbC.out)
            go_wp2_with (first
              | (refine wpList_load_mid rfl 89 _ rfl R1 0 rfl (rayC (.slice pa7 d pc7) t7) _ hrl Tryz.underlying89 rfl (by kernel_rfl) ?_)
              | (refine wpList_bsRay rfl _ rfl pa7 d pc7 t7 rfl ?_)
              | (at_builtin; obtain ⟨xs, hxo, hxn⟩ := (HSA.out.mono (below1 _ (.cells (rayC (.slice pa7 d pc7) t7).toArray 89))).kept; rw [Hkl.out] at hxo hxn; refine wpAppL ER (by decide) (rayC (.slice pa7 d pc7) t7) rfl _ _ rfl w3.heap.size kl _ xs _ rfl rfl hxo (Blk.new _ (rayC (.slice pa7 d pc7) t7).toArray 89) rfl (rayC_one _ _ _ _) (by omega) (by decide) (HSA.out.mono (below1 _ (.cells (rayC (.slice pa7 d pc7) t7).toArray 89))).below.size ?_; intro g9 cap9 w10 hown9 hg9 hgo9 _; obtain ⟨hS9, -⟩ := hxn (r := (v7, t7)) Hv3.out hown9 hg9 hgo9; have HS10 := hI hS9; clear hxo hxn hown9 hg9 hgo9 hS9))
            go_roundw
            case rel => exact ⟨q + 1, by omega, by go_num, by rw [Hst2.out, Hbt2.out, Hpt2.out]; exact HS10.out⟩
            case measure => simp [intOf] <;> omega
      · obtain rfl : q = R := by omega
        have hqR : ¬ (q : Int) < (q : Int) := by omega
        have hall : st.rays.take q = st.rays := List.take_of_length_le (by have := HRr.out; omega)
        rw [hall] at HS Hkl Hbl Hpl
        have HBo := HB3.out.below HS.out.below
        obtain ⟨⟨B0, B1, B2⟩, F0, F1, F2⟩ := blk3c HBo
        have HBo := hI HBo
        have HbMo := hI (HbM.out.trans (HS.out.below.mono HM3.out))
        have HVl4 := hI (HVl3.out.below HS.out.below)
        have HVr4 := hI (HVr3.out.below HS.out.below)
        clear hall
        by_cases hb0 : bl = 0
        · have hbe : behindB row st.rays = [] := List.length_eq_zero_iff.1 (by rw [Hbl.out]; exact hb0)
          have hk := Keep.set (ok := fun T => T ≠ 80) HBo.out (fun k => k rfl) 1 (.slice ka kl kc)
          have HBS := hI (show BS M (wo.setCell ⟨B, 1, none⟩ (.slice ka kl kc)) B { lines := st.lines, rays := keptB row n st.rays, count := n + 1 } from ⟨HMB.out, .slice la N lc, .slice ka kl kc, HBo.out.set 1 _, HVl4.out.keep hk (by decide) (by decide) (by decide), ((HS.out.k.or HS.out.below).base HM3.out).keep hk (by decide) (by decide) (by decide)⟩)
          have HBw := hI (HbMo.out.setCell (p := ⟨B, 1, none⟩) HMB.out (.slice ka kl kc))
          have Hbe := hI hbe
          subst hb0
          clear hbe hk
          go_wp2_with fail
          exact bodyPost_ret (v := .tuple #[]) (by simp [results, Tryz.results29, go_sem]) rfl ⟨rfl, by rw [HAd.out, if_pos Hbe.out]; exact HBS.out, HBw.out⟩
        · have hbi : ¬ (bl : Int) = 0 := by omega
          have hbi2 : ((bl : Int) == 0) = false := by simpa using hbi
          have Hbe := hI (show ¬ behindB row st.rays = [] from fun h => hb0 (by rw [← Hbl.out, h]; rfl))
          have HKf := hI (kept_mem (n := n) (row := row) hn HFy.out)
          have HBf := hI (fun r (h : r ∈ behindB row st.rays) => HFy.out r (behind_mem h).1)
          have HKo := hI (HS.out.k.or HS.out.below)
          have HBh := hI (HS.out.b.or HS.out.below)
          have HPr := hI HS.out.p.qv
          have Hw3 := hI HS.out.below
          clear hb0
          go_wp2_with fail
          go_loopw [94, 12] (fun i vm wr => ∃ u : Nat, u ≤ bl ∧ i = .int .i64 (u : Int) ∧ Hid (Below wo.heap.size wo wr ∧ OR wo.heap.size wr vm (madeP row n st.rays u))) (fun i _ _ => bl - (intOf i).toNat)
          case atStart => exact ⟨0, by omega, rfl, Below.refl _ _, by exact OR.nil _ _⟩
          case round =>
            obtain ⟨u, hu, rfl, hP⟩ := hrel
            obtain ⟨hbw, hO⟩ := hP.out
            obtain ⟨w20, rfl⟩ : ∃ W, W = wr := ⟨_, rfl⟩
            have Hbw := hI hbw
            have HO := hI hO
            obtain ⟨ma, mc, rfl, hm1, hm2, -⟩ := hO.open
            clear hP hbw hO B0 B1 B2 F0 F1 F2
            have hml : (madeP row n st.rays u).length ≤ 90000 := by
              have h1 := madeP_len row n st.rays u (by rw [Hbl.out]; exact hu)
              rw [Hkl.out] at h1
              have h2 := Nat.mul_le_mul (show u ≤ 300 by omega) (show kl ≤ 300 by omega)
              omega
            obtain ⟨ml, hml'⟩ : ∃ l, (madeP row n st.rays u).length = l := ⟨_, rfl⟩
            rw [hml'] at HO hm1 hml ⊢
            have Hml := hI hml'
            clear hml'
            have hu0 : (0 : Int) ≤ (u : Int) := Int.natCast_nonneg _
            rcases Nat.lt_or_ge u bl with hlt | hge
            · have hub : (u : Int) < (bl : Int) := by omega
              have huw : IntKind.i64.wrap ((u : Int) + 1) = (u : Int) + 1 := IntWalk.i64_in _ (by omega)
              obtain ⟨b7, o7, pa7, pn7, pc7, x7, rfl, hr7, hq7, hrg⟩ := (HBh.out.below Hbw.out).ry.at (Below.refl _ _) hlt
              have fx7 := HBf.out x7 (List.mem_of_getElem? hr7)
              obtain ⟨pa8, pc8, he8, -, -⟩ := hq7.open
              cases he8
              rw [fx7.1.1] at hq7 hrg
              have Hmp := hI (madeP_step (n := n) hr7)
              have HpV := hI (show (prodB row st.rays)[u]? = some (dotV row x7.1) from by unfold prodB; rw [List.getElem?_map, hr7]; rfl)
              obtain ⟨v7, t7⟩ := x7
              dsimp only at *
              have Ht7 := hI fx7.2
              have Hf7 := hI fx7.1
              have HdP := hI (dot_sz8 hd HFr.out fx7.1)
              have hA := below1 w20 (.cells (rayC (.slice pa7 d pc7) t7).toArray 89)
              have HR7 := hI (Blk.new w20 (rayC (.slice pa7 d pc7) t7).toArray 89)
              have HV7 := hI (hq7.mono hA)
              have HoR := hI (rayC_one pa7 d pc7 t7)
              have Hbw2 := hI (bw_via Hbw.out hA)
              have HO2 := hI (HO.out.below hA)
              have HnM := hI (show (Value.slice ma ml mc).ownBlock ≠ some w20.heap.size from fun e => Nat.lt_irrefl _ (HO.out.lt e))
              clear hr7 hq7 fx7 hA
              go_upto_region 26 with (first
                | (refine wpList_load_mid rfl 89 _ rfl b7 (o7 + u * 17) rfl (rayC (.slice pa7 d pc7) t7) _ hrg Tryz.underlying89 rfl (by kernel_rfl) ?_; clear hrg)
                | (refine wpList_store_new rfl 89 _ _ rfl _ (rayC (.slice pa7 d pc7) t7) rfl rfl (by kernel_rfl) (by kernel_rfl) HoR.out ?_))
              generalize w20.alloc (.cells (rayC (.slice pa7 d pc7) t7).toArray 89) = w21 at *
              generalize w20.heap.size = R1 at *
              clear HO Hbw
              go_wp2_with fail
              go_loopw [101, 12] (fun j vm wr => ∃ z : Nat, z ≤ kl ∧ j = .int .i64 (z : Int) ∧ Hid (Below wo.heap.size wo wr ∧ OR wo.heap.size wr vm (madeP row n st.rays u ++ madeQ row n st.rays (v7, t7) z) ∧ Blk wr R1 (rayC (.slice pa7 d pc7) t7).toArray 89 ∧ QV wr (.slice pa7 d pc7) v7 ∧ vm.ownBlock ≠ some R1)) (fun j _ _ => kl - (intOf j).toNat)
              case atStart => exact ⟨0, by omega, rfl, Hbw2.out, by simp [madeQ]; exact HO2.out, HR7.out, HV7.out, HnM.out⟩
              case round =>
                obtain ⟨z, hz, rfl, hP⟩ := hrel
                obtain ⟨hbw, hO, hR7, hV7, hne⟩ := hP.out
                obtain ⟨w22, rfl⟩ : ∃ W, W = wr := ⟨_, rfl⟩
                have Hbw := hI hbw
                have HO := hI hO
                have HR7 := hI hR7
                have HV7 := hI hV7
                obtain ⟨na, nc, rfl, hn1, hn2, -⟩ := hO.open
                have HnM := hI hne
                have hnl : (madeP row n st.rays u ++ madeQ row n st.rays (v7, t7) z).length ≤ 90300 := by
                  rw [List.length_append, Hml.out]
                  have := madeQ_len row n st.rays (v7, t7) z
                  omega
                obtain ⟨nl, hnl'⟩ : ∃ l, (madeP row n st.rays u ++ madeQ row n st.rays (v7, t7) z).length = l := ⟨_, rfl⟩
                rw [hnl'] at HO hn1 hnl HnM ⊢
                have Hnl := hI hnl'
                clear hP hbw hO hR7 hV7 hne hnl'
                have hz0 : (0 : Int) ≤ (z : Int) := Int.natCast_nonneg _
                rcases Nat.lt_or_ge z kl with hzl | hzg
                · have hzk : (z : Int) < (kl : Int) := by omega
                  have hzw : IntKind.i64.wrap ((z : Int) + 1) = (z : Int) + 1 := IntWalk.i64_in _ (by omega)
                  obtain ⟨b9, o9, pa9, pn9, pc9, x9, rfl, hr9, hq9, hrg⟩ := (HKo.out.below Hbw.out).ry.at (Below.refl _ _) hzl
                  have fx9 := HKf.out x9 (List.mem_of_getElem? hr9)
                  obtain ⟨pa8, pc8, he8, -, -⟩ := hq9.open
                  cases he8
                  rw [fx9.1.1] at hq9 hrg
                  have Hmq := hI (madeQ_step (p := (v7, t7)) hr9)
                  obtain ⟨v9, t9⟩ := x9
                  dsimp only at *
                  have Ht9 := hI fx9.2
                  have Hf9 := hI fx9.1
                  have HdQ := hI (dot_sz8 hd HFr.out fx9.1)
                  have hA := below1 w22 (.cells (rayC (.slice pa9 d pc9) t9).toArray 89)
                  have HR9 := hI (Blk.new w22 (rayC (.slice pa9 d pc9) t9).toArray 89)
                  have HV9 := hI (hq9.mono hA)
                  have HoR2 := hI (rayC_one pa9 d pc9 t9)
                  have Hbw3 := hI (bw_via Hbw.out hA)
                  have HR78 := hI (HR7.out.below hA)
                  have HV78 := hI (HV7.out.mono hA)
                  have HO3 := hI (HO.out.below hA)
                  clear hr9 hq9 fx9 hA
                  go_upto_region 29 with (first
                    | (refine wpList_load_mid rfl 89 _ rfl b9 (o9 + z * 17) rfl (rayC (.slice pa9 d pc9) t9) _ hrg Tryz.underlying89 rfl (by kernel_rfl) ?_; clear hrg)
                    | (refine wpList_store_new rfl 89 _ _ rfl _ (rayC (.slice pa9 d pc9) t9) rfl rfl (by kernel_rfl) (by kernel_rfl) HoR2.out ?_))
                  generalize w22.alloc (.cells (rayC (.slice pa9 d pc9) t9).toArray 89) = w23 at *
                  generalize w22.heap.size = R2 at *
                  clear HO Hbw HR7 HV7
                  obtain ⟨⟨r0, -⟩, -⟩ := ray_c01 HR9.out
                  have x0 := HXr.out w23 (bw_via Hw3.out Hbw3.out)
                  have HD9 := hI (HDt.out w23 _ _ v9 (HRow3.out.mono (bw_via Hw3.out Hbw3.out)) HV9.out Hf9.out)
                  go_upto_region 30 with (go_at_call 22; refine (HD9.out).mono ?_; rintro e5 w24 ⟨v8, rfl, hv8, hb8⟩; obtain ⟨x8, a8, n8, c8, y8, e8, l8, d8, rfl, hv8⟩ := hv8.open; have Hb8 := hI hb8; have Hv8 := hI hv8; clear hv8 hb8)
                  have hA := bw_via Hb8.out (below1 w24 (.cells #[.bool x8, .slice a8 n8 c8, .bool y8, .slice e8 l8 d8] 61))
                  have HR10 := hI (HR9.out.below hA)
                  have HV10 := hI (HV9.out.mono hA)
                  have HO10 := hI (HO3.out.below hA)
                  have HP10 := hI (Blk.new w24 #[.bool x8, .slice a8 n8 c8, .bool y8, .slice e8 l8 d8] 61)
                  have HQ10 := hI (Hv8.out.mono (below1 w24 (.cells #[.bool x8, .slice a8 n8 c8, .bool y8, .slice e8 l8 d8] 61)))
                  have Hbw10 := hI (bw_via Hbw3.out hA)
                  have HR70 := hI (HR78.out.below hA)
                  have HV70 := hI (HV78.out.mono hA)
                  clear hA r0 x0 HR9 HV9 HO3 Hbw3 HR78 HV78 Hb8 Hv8 HD9
                  generalize w24.alloc (.cells #[.bool x8, .slice a8 n8 c8, .bool y8, .slice e8 l8 d8] 61) = w25 at *
                  generalize w24.heap.size = P1 at *
                  have HSg := hI (show Calls Tryz.prog 23 #[.agg #[.bool x8, .slice a8 n8 c8, .bool y8, .slice e8 l8 d8]] w25 (Ret (.int .i64 (dotV row v9).num.sign) w25) from by
                    obtain ⟨q, h, -⟩ := HQ10.out
                    exact rsign_any _ _ q _ h)
                  have Hs2 := hI (show (dotV row v9).num.sign = 0 ↔ dotV row v9 = 0 from by rw [Int.sign_eq_zero_iff_zero, Rat.num_eq_zero])
                  generalize (dotV row v9).num.sign = sg at *
                  obtain ⟨⟨d0, d1, d2, d3'⟩, -⟩ := blk4v HP10.out
                  by_cases h2 : sg = 0
                  · have Hmq2 := hI (show madeQ row n st.rays (v7, t7) (z + 1) = madeQ row n st.rays (v7, t7) z from by
                      rw [Hmq.out, show madeOf row n st.rays (v7, t7) (v9, t9) = none from by unfold madeOf; rw [if_pos (.inl (Hs2.out.1 h2))]]
                      simp)
                    have h2b : (sg == 0) = true := by simpa using h2
                    go_wp2_with (go_at_call 23; refine (HSg.out).mono ?_; rintro e5 w26 ⟨rfl, hb26⟩; have HO11 := hI (HO10.out.below hb26); have Hbw12 := hI (bw_via Hbw10.out hb26); have HR71 := hI (HR70.out.below hb26); have HV71 := hI (HV70.out.mono hb26); clear hb26)
                    go_roundw
                    case rel => exact ⟨z + 1, by omega, by go_num, Hbw12.out, by rw [Hmq2.out]; exact HO11.out, HR71.out, HV71.out, HnM.out⟩
                    case measure => simp [intOf] <;> omega
                  · have h2b : (sg == 0) = false := by simpa using h2
                    have HAj := hI (fun w' (hb : Below w25.heap.size w25 w') => adjacent_g B (.slice la N lc) (.slice ya q yc) ((n + 1 : Nat) : Int) st.rays (.slice pa7 d pc7) (.slice pa9 d pc9) t7 t9 w' (HBo.out.below (bw_via Hbw10.out hb)) (HVr4.out.below (bw_via Hbw10.out hb)).ry (fun r hr => (HFy.out r hr).2) Ht7.out Ht9.out v7 v9)
                    have hrl7 := range_blk HR70.out
                    have hrl9 := range_blk HR10.out
                    have Hmo := hI (show madeOf row n st.rays (v7, t7) (v9, t9) = if adjB st.rays (v7, t7) (v9, t9) = false then none else some (primV (mixV v9 (dotV row v7) v7 (-(dotV row v9))), (t7 &&& t9) ||| 2 ^ n) from by
                      unfold madeOf
                      have h0 : ¬ dotV row v9 = 0 := fun h => h2 (Hs2.out.2 h)
                      by_cases ha : adjB st.rays (v7, t7) (v9, t9) = false
                      · rw [if_pos (.inr ha), if_pos ha]
                      · rw [if_neg (fun h => h.elim h0 ha), if_neg ha])
                    cases hadj : adjB st.rays (v7, t7) (v9, t9) with
                    | false =>
                      rw [hadj] at HAj Hmo
                      have Hmq2 := hI (show madeQ row n st.rays (v7, t7) (z + 1) = madeQ row n st.rays (v7, t7) z from by rw [Hmq.out, Hmo.out]; simp)
                      clear hadj
                      go_wp2_with (first
                        | (go_at_call 23; refine (HSg.out).mono ?_; rintro e5 w26 ⟨rfl, hb26⟩; have Hb26 := hI hb26; have hrl7 := range_mono hrl7 hb26; have hrl9 := range_mono hrl9 hb26; clear hb26)
                        | (refine wpList_load_mid_g rfl 89 _ rfl R1 0 rfl (rayC (.slice pa7 d pc7) t7) _ hrl7 Tryz.underlying89 rfl (by kernel_rfl) ?_)
                        | (refine wpList_load_mid_g rfl 89 _ rfl R2 0 rfl (rayC (.slice pa9 d pc9) t9) _ hrl9 Tryz.underlying89 rfl (by kernel_rfl) ?_)
                        | (go_at_call 44; refine (HAj.out _ Hb26.out).mono ?_; rintro e5 w27 ⟨rfl, hb27⟩; have HO11 := hI (HO10.out.below (bw_via Hb26.out hb27)); have Hbw12 := hI (bw_via Hbw10.out (bw_via Hb26.out hb27)); have HR71 := hI (HR70.out.below (bw_via Hb26.out hb27)); have HV71 := hI (HV70.out.mono (bw_via Hb26.out hb27)); clear hb27))
                      go_roundw
                      case rel => exact ⟨z + 1, by omega, by go_num, Hbw12.out, by rw [Hmq2.out]; exact HO11.out, HR71.out, HV71.out, HnM.out⟩
                      case measure => simp [intOf] <;> omega
                    | true =>
                      rw [hadj] at HAj Hmo
                      have Hmq2 := hI (show madeQ row n st.rays (v7, t7) (z + 1) = madeQ row n st.rays (v7, t7) z ++ [(primV (mixV v9 (dotV row v7) v7 (-(dotV row v9))), (t7 &&& t9) ||| 2 ^ n)] from by rw [Hmq.out, Hmo.out]; simp)
                      clear hadj Hmo
                      go_upto_region 31 with (first
                        | (go_at_call 23; refine (HSg.out).mono ?_; rintro e5 w26 ⟨rfl, hb26⟩; have Hb26 := hI hb26; have hrl7 := range_mono hrl7 hb26; have hrl9 := range_mono hrl9 hb26; clear hb26)
                        | (refine wpList_load_mid_g rfl 89 _ rfl R1 0 rfl (rayC (.slice pa7 d pc7) t7) _ hrl7 Tryz.underlying89 rfl (by kernel_rfl) ?_)
                        | (refine wpList_load_mid_g rfl 89 _ rfl R2 0 rfl (rayC (.slice pa9 d pc9) t9) _ hrl9 Tryz.underlying89 rfl (by kernel_rfl) ?_)
                        | (go_at_call 44; refine (HAj.out _ Hb26.out).mono ?_; rintro e5 w27 ⟨rfl, hb27⟩; have HO27 := hI (HO10.out.below (bw_via Hb26.out hb27)); have Hbw27 := hI (bw_via Hbw10.out (bw_via Hb26.out hb27)); have HR27 := hI (HR70.out.below (bw_via Hb26.out hb27)); have HR29 := hI (HR10.out.below (bw_via Hb26.out hb27)); have HV27 := hI (HV70.out.mono (bw_via Hb26.out hb27)); have HV29 := hI (HV10.out.mono (bw_via Hb26.out hb27)); have HP27 := hI (HP10.out.below (bw_via Hb26.out hb27)); have HQ27 := hI (HQ10.out.mono (bw_via Hb26.out hb27)); clear hb27))
                      clear HO10 Hbw10 HR70 HR10 HV70 HV10 HP10 HQ10 Hb26 HSg HAj hrl7 hrl9 d0 d1 d2 d3'
                      generalize w27 = w28 at *
                      obtain ⟨bP, oP, x4, a4, n4, c4, y4, e4, l4, d4, r4, rfl, hr4, hR4, z0, z1, z2, z3⟩ := HPr.out.at Hbw27.out hlt
                      rw [HpV.out, Option.some.injEq] at hr4
                      subst hr4
                      obtain ⟨⟨r0, -⟩, -⟩ := ray_c01 HR29.out
                      obtain ⟨⟨s0, -⟩, -⟩ := ray_c01 HR27.out
                      obtain ⟨⟨d0, d1, d2, d3'⟩, -⟩ := blk4v HP27.out
                      have hml4 : (mixV v9 (dotV row v7) v7 (-(dotV row v9))).length = d ∧ ∀ y ∈ mixV v9 (dotV row v7) v7 (-(dotV row v9)), Sz 4000 y := mix_sz Hf9.out Hf7.out HdP.out HdQ.out.neg
                      have HNg := hI (fun w' (hb : Below w28.heap.size w28 w') => rneg_g _ (dotV row v9) w' (HQ27.out.mono hb))
                      have HMx := hI (fun w' x (hb : Below w28.heap.size w28 w') (hx : RQ w' x (-(dotV row v9))) => mix_g (.slice pa9 d pc9) (.agg #[.bool x4, .slice a4 n4 c4, .bool y4, .slice e4 l4 d4]) (.slice pa7 d pc7) x v9 v7 (dotV row v7) (-(dotV row v9)) d 100 1700 w' (HV29.out.mono hb) (hR4.mono hb) (HV27.out.mono hb) hx Hf9.out.1 Hf7.out.1 Hf9.out.2 Hf7.out.2 HdP.out HdQ.out.neg (by omega) (by omega))
                      have HPm := hI (fun w' x (hx : QV w' x (mixV v9 (dotV row v7) v7 (-(dotV row v9)))) => prim_g x _ d 4000 w' hx hml4.1 hml4.2 hd (Nat.le_refl _))
                      have HMl := hI hml4.1
                      have HS31 := hI (fun w' (hb : Below w28.heap.size w28 w') => show (fun w' => w'.cell? ⟨R2, 0, none⟩ = some (.slice pa9 d pc9) ∧ w'.cell? ⟨R1, 0, none⟩ = some (.slice pa7 d pc7) ∧ w'.cell? ⟨P1, 0, none⟩ = some (.bool x8) ∧ w'.cell? ⟨P1, 1, none⟩ = some (.slice a8 n8 c8) ∧ w'.cell? ⟨P1, 2, none⟩ = some (.bool y8) ∧ w'.cell? ⟨P1, 3, none⟩ = some (.slice e8 l8 d8) ∧ w'.cell? ⟨bP, oP + u * 4, none⟩ = some (.bool x4) ∧ w'.cell? ⟨bP, oP + u * 4 + 1, none⟩ = some (.slice a4 n4 c4) ∧ w'.cell? ⟨bP, oP + u * 4 + 2, none⟩ = some (.bool y4) ∧ w'.cell? ⟨bP, oP + u * 4 + 3, none⟩ = some (.slice e4 l4 d4)) w' from ⟨cell_keep hb r0, cell_keep hb s0, cell_keep hb d0, cell_keep hb d1, cell_keep hb d2, cell_keep hb d3', cell_keep hb z0, cell_keep hb z1, cell_keep hb z2, cell_keep hb z3⟩)
                      generalize mixV v9 (dotV row v7) v7 (-(dotV row v9)) = mx at *
                      clear hR4 z0 z1 z2 z3 r0 s0 d0 d1 d2 d3' hml4
                      go_wp2_with fail
                      refine wp_region_held_drew (S := (fun w' => w'.cell? ⟨R2, 0, none⟩ = some (.slice pa9 d pc9) ∧ w'.cell? ⟨R1, 0, none⟩ = some (.slice pa7 d pc7) ∧ w'.cell? ⟨P1, 0, none⟩ = some (.bool x8) ∧ w'.cell? ⟨P1, 1, none⟩ = some (.slice a8 n8 c8) ∧ w'.cell? ⟨P1, 2, none⟩ = some (.bool y8) ∧ w'.cell? ⟨P1, 3, none⟩ = some (.slice e8 l8 d8) ∧ w'.cell? ⟨bP, oP + u * 4, none⟩ = some (.bool x4) ∧ w'.cell? ⟨bP, oP + u * 4 + 1, none⟩ = some (.slice a4 n4 c4) ∧ w'.cell? ⟨bP, oP + u * 4 + 2, none⟩ = some (.bool y4) ∧ w'.cell? ⟨bP, oP + u * 4 + 3, none⟩ = some (.slice e4 l4 d4))) (by kernel_rfl) (by exact (HS31.out _ ((Below.refl _ _).drew))) (fun hHeld => ?_)
                      refine' tk 0 ?_; (try simp only [tkS]); refine' tk 1 ?_; (try simp only [tkS]); refine' tk 2 ?_; (try simp only [tkS]); refine' tk 3 ?_; (try simp only [tkS]); refine' tk 4 ?_; (try simp only [tkS]); refine' tk 5 ?_; (try simp only [tkS]); refine' tk 6 ?_; (try simp only [tkS]); refine' tk 7 ?_; (try simp only [tkS]); refine' tk 8 ?_; (try simp only [tkS])
                      refine tk1 9 (fun K hK => ?_)
                      go_simp
                      go_at_call 35
                      refine (HNg.out _ ((Below.refl _ _).drew)).mono ?_
                      rintro e5 w41 ⟨v41, rfl, hv41, hb41⟩
                      have Hb41 := hI (bw_via ((Below.refl _ _).drew) hb41)
                      obtain ⟨x5, a5, n5, c5, y5, e5, l5, d5, rfl, hv41⟩ := hv41.open
                      have Hv41 := hI hv41
                      clear hv41 hb41
                      refine hK.out _ _ (by exact (HS31.out _ (Hb41.out))) (fun hHeld => ?_)
                      clear hK K; (try simp only [tkS])
                      refine tk1 10 (fun K hK => ?_)
                      go_simp
                      go_at_call 46
                      refine (HMx.out _ _ (Hb41.out) Hv41.out).mono ?_
                      rintro e5 w42 ⟨v42, rfl, hv42, hb42⟩
                      have Hb42 := hI (bw_via (Hb41.out) hb42)
                      obtain ⟨qa, qc, hve, -, -⟩ := hv42.open
                      rw [HMl.out] at hve
                      subst hve
                      have Hv42 := hI hv42
                      clear hv42 hb42
                      refine hK.out _ _ (by exact (HS31.out _ (Hb42.out))) (fun hHeld => ?_)
                      clear hK K; (try simp only [tkS])
                      refine tk1 11 (fun K hK => ?_)
                      go_simp
                      go_at_call 45
                      refine (HPm.out _ _ Hv42.out).mono ?_
                      rintro e5 w43 ⟨v43, rfl, hv43, hb43⟩
                      have Hb43 := hI (bw_via (Hb42.out) hb43)
                      obtain ⟨ta, tc, hve, -, -⟩ := hv43.open
                      subst hve
                      have Hv43 := hI hv43
                      clear hv43 hb43
                      refine hK.out _ _ (by exact (HS31.out _ (Hb43.out))) (fun hHeld => ?_)
                      clear hK K; (try simp only [tkS])
                      refine' tk 12 ?_; (try simp only [tkS])
                      refine tkD ?_ _
                      go_upto_region 32 with (fail)
                      have HVn := hI Hv43.out
                      have HO43 := hI (HO27.out.below Hb43.out)
                      have Hbw43 := hI (bw_via Hbw27.out Hb43.out)
                      have HR43 := hI (HR27.out.below Hb43.out)
                      have HV43 := hI (HV27.out.mono Hb43.out)
                      have ht7 := range_tl (p := .slice pa7 d pc7) (cs := (tC t7).toList) HR43.out
                      have ht9 := range_tl (p := .slice pa9 d pc9) (cs := (tC t9).toList) (HR29.out.below Hb43.out)
                      have HAn := hI (tand_g t7 t9 w43 Ht7.out Ht9.out)
                      have hcm : t7 &&& t9 < 18446744073709551616 := Nat.lt_of_le_of_lt Nat.and_le_left Ht7.out
                      generalize t7 &&& t9 = cm at *
                      have HoC := hI (tC_one cm)
                      go_upto_region 33 with (first
                        | (refine wpList_load_mid rfl 87 _ rfl R1 1 rfl (tC t7).toList _ ht7 Tryz.underlying87 rfl (by kernel_rfl) ?_)
                        | (refine wpList_load_mid rfl 87 _ rfl R2 1 rfl (tC t9).toList _ ht9 Tryz.underlying87 rfl (by kernel_rfl) ?_)
                        | (go_at_call 47; refine (HAn.out).mono ?_; rintro e5 w44 ⟨rfl, hb44⟩; have Hb44 := hI hb44; clear hb44)
                        | (refine wpList_store_new rfl 87 _ _ rfl _ (tC cm).toList rfl rfl (by kernel_rfl) (by kernel_rfl) HoC.out ?_))
                      have hA := bw_via Hb44.out (below1 w44 (.cells (tC cm).toList.toArray 87))
                      have HO45 := hI (HO43.out.below hA)
                      have HR45 := hI (HR43.out.below hA)
                      have HV45 := hI (HV43.out.mono hA)
                      have HVn45 := hI (HVn.out.mono hA)
                      have HwT := hI (show wo.heap.size ≤ w44.heap.size from (bw_via Hbw43.out Hb44.out).size)
                      have Hbw45 := hI (bw_via Hbw43.out hA)
                      have HT45 := hI (Blk.new w44 (tC cm).toList.toArray 87)
                      clear hA ht7 ht9 HAn Hb44 HO43 HR43 HV43 HVn Hbw43
                      generalize w44.alloc (.cells (tC cm).toList.toArray 87) = w45 at *
                      generalize w44.heap.size = T1 at *
                      have HSt := hI (tset_g T1 0 cm n w45 (by rw [HT45.out.cell]; rfl) (HT45.out.free 0) hcm hn)
                      go_upto_region 34 with (go_at_call 43; refine (HSt.out).mono ?_; rintro e5 w5 ⟨rfl, w46, hb46, rfl⟩; have Hb46 := hI hb46; clear hb46)
                      have hT46 := HT45.out.below Hb46.out
                      have hk := Keep.set (ok := fun T => T ≠ 87) hT46 (fun k => k rfl) 0 (.int .u64 ((cm ||| 2 ^ n : Nat) : Int))
                      have HO47 := hI ((HO45.out.below Hb46.out).keep hk (by decide) (by decide) (by decide))
                      have HR47 := hI (hk.blk _ _ _ (by decide) (HR45.out.below Hb46.out))
                      have HV47 := hI ((HV45.out.mono Hb46.out).keep hk (by decide) (by decide))
                      have HVn47 := hI ((HVn45.out.mono Hb46.out).keep hk (by decide) (by decide))
                      have Hbw47 := hI ((bw_via Hbw45.out Hb46.out).setCell (p := ⟨T1, 0, none⟩) HwT.out (.int .u64 ((cm ||| 2 ^ n : Nat) : Int)))
                      have HT47 := hI (show Blk (w46.setCell ⟨T1, 0, none⟩ (.int .u64 ((cm ||| 2 ^ n : Nat) : Int))) T1 (tC (cm ||| 2 ^ n)).toList.toArray 87 from by have := hT46.set 0 (.int .u64 ((cm ||| 2 ^ n : Nat) : Int)); rwa [tC_set0L] at this)
                      clear hT46 hk HSt HO45 HR45 HV45 HVn45 Hbw45 HT45 Hb46 HoC
                      generalize w46.setCell ⟨T1, 0, none⟩ (.int .u64 ((cm ||| 2 ^ n : Nat) : Int)) = w47 at *
                      generalize cm ||| 2 ^ n = tn at *
                      have hrT := range_blk HT47.out
                      have hbA := below1 w47 (.cells (rayC (.slice ta (primV mx).length tc) tn).toArray 89)
                      obtain ⟨ps, hpl, hpo, hpq⟩ := HO47.out.below hbA
                      have HpO := hI hpo
                      have HpL := hI hpl
                      have HpQ := hI hpq
                      have HpO2 := hI hpo
                      rw [Hnl.out] at HpO2
                      have HR48 := hI (HR47.out.below hbA)
                      have HV48 := hI (HV47.out.mono hbA)
                      have HVn48 := hI (HVn47.out.mono hbA)
                      have Hbw48 := hI (bw_via Hbw47.out hbA)
                      clear hbA hpl hpo hpq
                      go_wp2_with (first
                        | (refine wpList_load_mid rfl 87 _ rfl T1 0 rfl (tC tn).toList _ hrT Tryz.underlying87 rfl (by kernel_rfl) ?_)
                        | (refine wpList_bdRay rfl _ _ rfl ta (primV mx).length tc tn rfl rfl ?_)
                        | (refine wpList_bsRay rfl _ rfl ta (primV mx).length tc tn rfl ?_)
                        | (at_builtin; refine wpAppL ER (by decide) (rayC (.slice ta (primV mx).length tc) tn) rfl _ _ rfl wo.heap.size nl _ _ _ rfl rfl HpO2.out (Blk.new w47 (rayC (.slice ta (primV mx).length tc) tn).toArray 89) rfl (rayC_one _ _ _ _) (by omega) (by decide) Hbw48.out.size ?_; intro g9 cap9 w49 hown9 hg9 hgo9 _; have hk9 := Keep.grown (ok := fun T => T ≠ 89) HpO.out (fun k => k rfl) hg9; have HO49 := hI (OR.snoc (r := (primV mx, tn)) HpL.out HpQ.out HpO.out HVn48.out hg9 (by rw [Hnl.out]; exact hown9)); have HR49 := hI (show Blk w49 R1 (rayC (.slice pa7 d pc7) t7).toArray 89 from (hg9.block R1 HR48.out.lt (fun e => HnM.out e.symm)).trans HR48.out); have HV49 := hI (HV48.out.keep hk9 (by decide) (by decide)); have Hbw49 := hI (Below.grown Hbw48.out hg9 Hbw48.out.size (fun q hq => (HpO.out.lt q hq).1)); have HnM9 := hI (show (Value.slice (some ⟨g9, 0, none⟩) (nl + 1) cap9).ownBlock ≠ some R1 from fun e => by
                            have e1 : g9 = R1 := Option.some.inj e
                            rcases hgo9 with h | h
                            · exact HnM.out (Eq.trans h (congrArg some e1))
                            · have := HR48.out.lt; omega); clear hown9 hg9 hgo9 hk9))
                      go_roundw
                      case rel => exact ⟨z + 1, by omega, by go_num, Hbw49.out, by rw [Hmq2.out, ← List.append_assoc]; exact HO49.out, HR49.out, HV49.out, HnM9.out⟩
                      case measure => simp [intOf] <;> omega
                · obtain rfl : z = kl := by omega
                  have hzk : ¬ (z : Int) < (z : Int) := by omega
                  have HO2 := hI (show OR wo.heap.size w22 (.slice na nl nc) (madeP row n st.rays (u + 1)) from by rw [Hmp.out, Hkl.out]; exact HO.out)
                  go_wp2_with fail
                  go_roundw
                  case rel => exact ⟨u + 1, by omega, by go_num, Hbw.out, HO2.out⟩
                  case measure => simp [intOf] <;> omega
            · obtain rfl : u = bl := by omega
              have hub : ¬ (u : Int) < (u : Int) := by omega
              have hmB : madeP row n st.rays u = madeB row n st.rays := by rw [← Hbl.out]; exact madeP_all row n st.rays
              rw [hmB] at HO Hml
              obtain ⟨xs, rows, j1, j2, j3, j4, j5⟩ := (HKo.out.below Hbw.out).join HO.out
              rw [Hkl.out, Hml.out] at j5
              rw [Hkl.out] at j1
              have Hj5 := hI j5
              have HBw := hI (HBo.out.below Hbw.out)
              have HVl5 := hI (HVl4.out.below Hbw.out)
              have Hsz := hI (show w3.heap.size ≤ w20.heap.size from (bw_via Hw3.out Hbw.out).size)
              have HbM5 := hI (HbMo.out.trans (Hbw.out.mono (Nat.le_trans HM3.out Hw3.out.size)))
              clear j5 hmB
              go_wp2_with (at_builtin; refine wpAppS ER (by decide) rfl _ _ rfl w3.heap.size kl _ xs ma ml mc rows rfl rfl j1 j2 j3 j4 (by omega) (by decide) Hsz.out ?_; intro v9 w9 hown9 hg9; have hO9 := Hj5.out w9 v9 hown9 hg9; have hk9 := Keep.grown (ok := fun T => T ≠ 89) j1 (fun k => k rfl) hg9; obtain ⟨g9, cap9, rfl, -, -⟩ := own_open hown9; have hB9 := hk9.blk _ _ _ (by decide) HBw.out; have hkB := Keep.set (ok := fun T => T ≠ 80) hB9 (fun k => k rfl) 1 (.slice g9 (kl + ml) cap9); have HBS := hI (show BS M (w9.setCell ⟨B, 1, none⟩ (.slice g9 (kl + ml) cap9)) B { lines := st.lines, rays := keptB row n st.rays ++ madeB row n st.rays, count := n + 1 } from ⟨HMB.out, .slice la N lc, .slice g9 (kl + ml) cap9, hB9.set 1 _, (HVl5.out.keep hk9 (by decide) (by decide) (by decide)).keep hkB (by decide) (by decide) (by decide), (hO9.base HM3.out).keep hkB (by decide) (by decide) (by decide)⟩); have HBf := hI ((Below.grown HbM5.out hg9 (Nat.le_trans HM3.out Hsz.out) (fun q hq => Nat.le_trans HM3.out (j1.lt q hq).1)).setCell (p := ⟨B, 1, none⟩) HMB.out (.slice g9 (kl + ml) cap9)); clear hO9 hk9 hkB hown9 hg9 j1 j2 j3 j4; obtain ⟨⟨B0, B1, B2⟩, F0, F1, F2⟩ := blk3c hB9; clear hB9)
              go_end0
              exact ⟨rfl, by rw [HAd.out, if_neg Hbe.out]; exact HBS.out, HBf.out⟩
end Go.Proofs.YtlcmhbkmpkcajaaGreatDoor
