/-
  Parts of the proof: Qdn.
-/
import Derived.Test.YtlcmhbkmpkcajaaGreatDoorN33
namespace Go.Proofs.YtlcmhbkmpkcajaaGreatDoor
open Go.RowKit
structure CO (M : Nat) (w : World) (R d : Nat) (lv rv : Value) (ls rs : List Vec) : Prop where
  blk : Blk w R #[.int .i64 (d : Int), lv, rv] 27
  l : TVo M w lv ls
  r : TVo M w rv rs
  sep : ∀ b, rv.ownBlock = some b → lv.ownBlock ≠ some b
theorem CO.below {M R d : Nat} {w w' : World} {lv rv : Value} {ls rs : List Vec} (h : CO M w R d lv rv ls rs) (hb : Below w.heap.size w w') : CO M w' R d lv rv ls rs :=
  ⟨h.blk.below hb, h.l.below hb, h.r.below hb, h.sep⟩
theorem CO.appL {M R d : Nat} {xs : List Value} {w w' : World} {lv lv' : Value} {ls : List Vec} {a : Vec} (h : CO M w R d lv (.slice none 0 0) ls []) (hown : w.ownsRow M 23 1 lv ls.length xs) (hl : TVo M w' lv' (ls ++ [a])) (hg : w.grownBy w' lv.ownBlock) :
    CO M (w'.setCell ⟨R, 1, none⟩ lv') R d lv' (.slice none 0 0) (ls ++ [a]) [] := by
  have hk := Keep.grown (ok := fun T => T ≠ 23) hown (fun k => k rfl) hg
  have hB := hk.blk _ _ _ (by decide) h.blk
  have hk2 := Keep.set (ok := fun T => T ≠ 27) hB (fun k => k rfl) 1 lv'
  exact ⟨hB.set 1 lv', hl.keep hk2 (by decide) (by decide), TVo.nil _ _, fun b hb => by cases hb⟩
theorem CO.appR {M R d : Nat} {xs : List Value} {w w' : World} {lv rv : Value} {g m c : Nat} {ls rs : List Vec} {a : Vec} (h : CO M w R d lv rv ls rs) (hown : w.ownsRow M 23 1 rv rs.length xs) (hr : TVo M w' (.slice (some ⟨g, 0, none⟩) m c) (rs ++ [a])) (hg : w.grownBy w' rv.ownBlock) (hgo : rv.ownBlock = some g ∨ g = w.heap.size) :
    CO M (w'.setCell ⟨R, 2, none⟩ (.slice (some ⟨g, 0, none⟩) m c)) R d lv (.slice (some ⟨g, 0, none⟩) m c) ls (rs ++ [a]) := by
  have hk := Keep.grown (ok := fun T => T ≠ 23) hown (fun k => k rfl) hg
  have hB := hk.blk _ _ _ (by decide) h.blk
  have hk2 := Keep.set (ok := fun T => T ≠ 27) hB (fun k => k rfl) 2 (.slice (some ⟨g, 0, none⟩) m c)
  refine ⟨hB.set 2 _, TVo.keep (h.l.other hown rfl hg rfl ?_) hk2 (by decide) (by decide), hr.keep hk2 (by decide) (by decide), fun b hb hv => ?_⟩
  · cases hv : lv.ownBlock with
    | none => exact .inl rfl
    | some q => exact .inr (fun e => h.sep q e.symm hv)
  · obtain rfl : g = b := Option.some.inj hb
    rcases hgo with h1 | h1
    · exact h.sep g h1 hv
    · have := (h.l.lt hv).2
      omega
def CV (w : World) (x : Value) (c : Con) : Prop := ∃ la ln lc ra rn rc, x = .agg #[.int .i64 (c.dim : Int), .slice la ln lc, .slice ra rn rc] ∧ TVs w (.slice la ln lc) c.lines ∧ TVs w (.slice ra rn rc) c.rays
theorem SMap.ne_own {w : World} {b n M e sz m : Nat} {seen : List Vec} {v : Value} {xs : List Value} (h : SMap w b n seen) (ho : w.ownsRow M e sz v m xs) : some b ≠ v.ownBlock := by
  obtain ⟨D, ⟨es, cl, hb, -⟩, -⟩ := h
  rcases ho.2 with ⟨rfl, _⟩ | ⟨g, cap, cur, rfl, _, hg, _⟩
  · simp [Value.ownBlock]
  · intro e
    obtain rfl : b = g := Option.some.inj e
    rw [hb] at hg
    cases hg
theorem OP.cell {M n c z : Nat} {w : World} {a : Option Addr} {l : List Nat} (h : OP M w (.slice a n c) l) (hz : z < n) : ∃ b p, a = some ⟨b, 0, none⟩ ∧ l[z]? = some p ∧ w.cell? ⟨b, z, none⟩ = some (.int .i64 (p : Int)) := by
  unfold OP at h
  obtain ⟨a', c', hv, -, -⟩ := own_open h
  have hn : l.length = n := by cases hv; rfl
  obtain ⟨g, rfl⟩ := own_some h (by omega)
  rw [hn] at h
  have hzl : z < l.length := by omega
  have h1 := h.cellAt z (by omega)
  unfold pvs at h1
  rw [List.getElem?_map, List.getElem?_eq_getElem hzl] at h1
  exact ⟨g, l[z], rfl, List.getElem?_eq_getElem hzl, h1⟩
theorem CV.mono {w w' : World} {x : Value} {c : Con} (h : CV w x c) (hb : Below w.heap.size w w') : CV w' x c := by
  obtain ⟨la, ln, lc, ra, rn, rc, rfl, h1, h2⟩ := h
  exact ⟨la, ln, lc, ra, rn, rc, rfl, h1.mono hb, h2.mono hb⟩
theorem CV.open {w : World} {x : Value} {c : Con} (h : CV w x c) : ∃ la lc ra rc, x = .agg #[.int .i64 (c.dim : Int), .slice la c.lines.length lc, .slice ra c.rays.length rc] ∧ TVs w (.slice la c.lines.length lc) c.lines ∧ TVs w (.slice ra c.rays.length rc) c.rays := by
  obtain ⟨la, ln, lc, ra, rn, rc, rfl, h1, h2⟩ := h
  obtain ⟨a, c', e, -, -⟩ := h1.open
  cases e
  obtain ⟨a, c', e, -, -⟩ := h2.open
  cases e
  exact ⟨la, lc, ra, rc, rfl, h1, h2⟩
set_option maxHeartbeats 16000000 in
set_option maxRecDepth 10000 in
theorem done_g (B M d : Nat) (st : Bld) (w : World) (hBS : BS M w B st) (hd : d ≤ 8) (fl : ∀ l ∈ st.lines, FitV d l) (fr : ∀ r ∈ st.rays, FitV d r.1 ∧ r.2 < 18446744073709551616) (hD : FitD d st) (hll : st.lines.length ≤ 90) (hrl : st.rays.length ≤ 1000) (hdd : (dedup (st.rays.map fun r => doneRay (reduceM st.lines).1 (reduceM st.lines).2 r.1)).length ≤ 12) (hT : Tab w) :
    Calls Tryz.prog 30 #[.pointer (some ⟨B, 0, none⟩), .int .i64 (d : Int)] w (RetP (fun x w' => CV w' x (doneB st d)) w) := by
  obtain ⟨hM, vl, vr, hB, hl, hr⟩ := hBS
  obtain ⟨la, lc, rfl, hl1, hl2⟩ := hl.open
  obtain ⟨ya, yc, rfl, hy1, hy2, hyG⟩ := hr.open
  have hlen : ∀ a ∈ st.lines, a.length = d := fun a ha => (fl a ha).1
  obtain ⟨hm1, hm2⟩ := reduce_mem hlen hD.1
  have hrl2 := reduce_len st.lines
  have hRd := hI (fun w' (hb : Below w.heap.size w w') => reduce_g (.slice la st.lines.length lc) st.lines d w' (hl.vs.mono hb) hll hd hlen hD.1)
  have HFx := hI hD.2
  obtain ⟨R, hR⟩ : ∃ R, st.rays.length = R := ⟨_, rfl⟩
  rw [hR] at hy1 hrl hB hr hyG
  obtain ⟨L, hL⟩ : ∃ L, (reduceM st.lines).1 = L := ⟨_, rfl⟩
  obtain ⟨pv, hpv⟩ : ∃ pv, (reduceM st.lines).2 = pv := ⟨_, rfl⟩
  have HDn := hI (show doneB st d = { dim := d, lines := L, rays := sortV (dedup (st.rays.map fun r => doneRay L pv r.1)) } from by unfold doneB; rw [hL, hpv])
  rw [hL, hpv] at hdd hRd HFx
  rw [hL] at hm1 hrl2
  rw [hpv] at hm2 hrl2
  obtain ⟨P, hP⟩ : ∃ P, pv.length = P := ⟨_, rfl⟩
  rw [hP] at hrl2
  have HP := hI hP
  have HLl := hI hrl2
  have HRr := hI hR
  have Hm1 := hI hm1
  have Hm2 := hI hm2
  have HB := hI hB
  have HVr := hI hr
  have HyG := hI hyG
  have HFy := hI fr
  have HTb := hI (fun w' (hb : Below w.heap.size w w') => hT.mono hb)
  have hPl : P ≤ 90 := by
    have h1 := reduce_len st.lines
    rw [hL, hpv, hrl2, hP] at h1
    have h2 : L.length ≤ st.lines.length := by
      rw [← hL]
      show ((RS0 st.lines (st.lines.headD []).length).1.take _).length ≤ _
      rw [List.length_take, red_len]
      exact Nat.min_le_right _ _
    omega
  unfold maxLen at hl2 hy2
  clear hM hl hr hB hyG fr hT fl hD hlen hm1 hm2 hrl2 hL hpv hP hR
  go_enter Tryz.func30, Tryz.ntmps30
  go_upto_region 2 with (fail)
  have hK := below2 w (.cells #[.int .i64 0, .slice none 0 0, .slice none 0 0] 27) (.cells #[.int .i64 (d : Int), .slice none 0 0, .slice none 0 0] 27)
  have HR4 := hI (show Blk ((w.alloc (.cells #[.int .i64 0, .slice none 0 0, .slice none 0 0] 27)).alloc (.cells #[.int .i64 (d : Int), .slice none 0 0, .slice none 0 0] 27)) w.heap.size #[.int .i64 0, .slice none 0 0, .slice none 0 0] 27 from (Blk.new w _ _).old _)
  have HC1 := hI (show CO w.heap.size ((w.alloc (.cells #[.int .i64 0, .slice none 0 0, .slice none 0 0] 27)).alloc (.cells #[.int .i64 (d : Int), .slice none 0 0, .slice none 0 0] 27)) (w.heap.size + 1) d (.slice none 0 0) (.slice none 0 0) [] [] from
    ⟨by have h := Blk.new (w.alloc (.cells #[.int .i64 0, .slice none 0 0, .slice none 0 0] 27)) #[.int .i64 (d : Int), .slice none 0 0, .slice none 0 0] 27; simpa using h, TVo.nil _ _, TVo.nil _ _, fun b hb => by cases hb⟩)
  have Hb1 := hI hK
  clear hK
  generalize (w.alloc (.cells #[.int .i64 0, .slice none 0 0, .slice none 0 0] 27)).alloc (.cells #[.int .i64 (d : Int), .slice none 0 0, .slice none 0 0] 27) = w1 at *
  obtain ⟨⟨B0, B1, B2⟩, -⟩ := blk3c (HB.out.below Hb1.out)
  go_upto_region 3 with (go_at_call 48; refine (hRd.out _ Hb1.out).mono ?_; rintro e5 w2 ⟨v2, rfl, ⟨ov, pvv, rfl, hov, hop⟩, hb2⟩; obtain ⟨oa, oc, rfl, ho1, ho2⟩ := hov.open; rw [HLl.out] at hov ho1; obtain ⟨pa, pc, rfl, hp1, hp2⟩ := hop.open; rw [HP.out] at hop hp1; have Hov := hI hov; have Hop := hI hop; have Hb2 := hI hb2; clear hov hop hb2)
  rw [HLl.out, HP.out]
  unfold maxLen at ho2 hp2
  have HC2 := hI (HC1.out.below Hb2.out)
  have HR42 := hI (HR4.out.below Hb2.out)
  have Hbw2 := hI (bw_via Hb1.out Hb2.out)
  clear B0 B1 B2 HC1 HR4 hRd Hb1 Hb2
  have HNm := hI (fun w' u x (hb : Below w.heap.size w w') (hu : QV w' u x) (fx : FitV d x) => numbers_v u x d w' hu fx.1 (by omega) fx.2 (HTb.out w' hb))
  go_wp2_with fail
  go_loopw [33] (fun i wr => ∃ q : Nat, q ≤ P ∧ i = .int .i64 (q : Int) ∧ Hid (∃ lv, CO w.heap.size wr (w.heap.size + 1) d lv (.slice none 0 0) (L.take q) [] ∧ Keep (fun T => T ≠ 27 ∧ T ≠ 23) w2 wr ∧ Below w.heap.size w wr ∧ Blk wr w.heap.size #[.int .i64 0, .slice none 0 0, .slice none 0 0] 27)) (fun i _ => P - (intOf i).toNat)
  case atStart => exact ⟨0, by omega, rfl, _, HC2.out, Keep.refl _ _, Hbw2.out, HR42.out⟩
  case round =>
    obtain ⟨q, hq, rfl, hP⟩ := hrel
    obtain ⟨lv, hC, hk, hbw, hR4⟩ := hP.out
    obtain ⟨wo, rfl⟩ : ∃ W, W = wr := ⟨_, rfl⟩
    have HC := hI hC
    have Hk := hI hk
    have Hbw := hI hbw
    have HR4 := hI hR4
    obtain ⟨ca, cc, rfl, hc1, hc2⟩ := hC.l.open
    have htl : (L.take q).length = q := by rw [List.length_take]; have := HLl.out; omega
    rw [htl] at HC hc1
    have Htl := hI htl
    unfold maxLen at hc2
    clear hP hC hk hbw hR4 htl HC2 HR42
    have hq0 : (0 : Int) ≤ (q : Int) := Int.natCast_nonneg _
    rcases Nat.lt_or_ge q P with hlt | hge
    · have hqP : (q : Int) < (P : Int) := by omega
      have hqw : IntKind.i64.wrap ((q : Int) + 1) = (q : Int) + 1 := IntWalk.i64_in _ (by omega)
      obtain ⟨b6, o6, p6, x6, rfl, hx6, c6, hp6⟩ := (Hov.out.vs.keep Hk.out (by decide) (by decide) (by decide)).at (Below.refl _ _) hlt
      have fx6 := Hm1.out x6 (List.mem_of_getElem? hx6)
      obtain ⟨pa6, pc6, rfl, -, -⟩ := hp6.open
      rw [fx6.1] at hp6 c6
      have Htk := hI (show L.take (q + 1) = L.take q ++ [x6] from by rw [List.take_add_one, hx6]; rfl)
      have HN6 := hI (fun w' (hb : Below wo.heap.size wo w') => HNm.out w' _ x6 (bw_via Hbw.out hb) (hp6.mono hb) fx6)
      obtain ⟨⟨C0, C1, C2⟩, -⟩ := blk3c HC.out.blk
      have HS6 := hI (fun w' (hb : Below wo.heap.size wo w') => show (fun w' => w'.cell? ⟨w.heap.size + 1, 1, none⟩ = some (.slice ca q cc)) w' from cell_keep hb C1)
      have HM := hI (show w.heap.size ≤ wo.heap.size from Hbw.out.size)
      clear hx6 hp6 fx6 C0 C1 C2
      go_wp2_with fail
      refine wp_region_pop (S := (fun w' => w'.cell? ⟨w.heap.size + 1, 1, none⟩ = some (.slice ca q cc))) 7 (by kernel_rfl) (by kernel_rfl) (by exact (HS6.out _ ((Below.refl _ _).dn 1))) (fun hHeld => ?_)
      simp only [List.take_succ_cons, List.take_zero, List.drop_succ_cons, List.drop_zero]
      refine' tk 0 ?_; (try simp only [tkS]); refine' tk 1 ?_; (try simp only [tkS]); refine' tk 2 ?_; (try simp only [tkS])
      refine tk1 3 (fun K hK => ?_)
      go_simp
      go_at_call 16
      refine (HN6.out _ ((Below.refl _ _).dn 1)).mono ?_
      rintro e5 w21 ⟨v21, rfl, hv21, hb21⟩
      have Hb21 := hI (bw_via ((Below.refl _ _).dn 1) hb21)
      obtain ⟨qa, qc, rfl, -, -⟩ := hv21.open
      have Hv21 := hI hv21
      clear hv21 hb21
      refine hK.out _ _ (by exact (HS6.out _ (Hb21.out))) (fun hHeld => ?_)
      clear hK K; (try simp only [tkS])
      refine tk1 4 (fun K hK => ?_)
      go_simp
      refine hK.out _ _ (by exact (HS6.out _ (bwA (Hb21.out) _))) (fun hHeld => ?_)
      clear hK K; (try simp only [tkS])
      refine tk1 5 (fun K hK => ?_)
      obtain ⟨ys, hxo, hxn⟩ := (HC.out.below (bwA (Hb21.out) (.cells #[.slice qa x6.length qc] 23))).l.own
      have hxo2 := hxo
      rw [Htl.out] at hxo
      refine stepApp ET (by decide) [.slice qa x6.length qc] rfl _ _ rfl w.heap.size q _ ys _ rfl rfl hxo (Blk.new w21 #[.slice qa x6.length qc] 23) rfl (one1 _ rfl) (by omega) (by decide) (Nat.le_trans HM.out (bwA (Hb21.out) (.cells #[.slice qa x6.length qc] 23)).size) ?_
      intro g9 cap9 w9 hown9 hg9 hgo9 _
      have hcA := HC.out.below (bwA (Hb21.out) (.cells #[.slice qa x6.length qc] 23))
      refine hK.out _ _ (by exact (by obtain ⟨⟨j0, j1, j2⟩, -⟩ := blk3c ((Keep.grown (ok := fun T => T ≠ 23) hxo (fun k => k rfl) hg9).blk _ _ _ (by decide) hcA.blk); exact j1)) (fun hHeld => ?_)
      clear hK K; (try simp only [tkS])
      refine' tk 6 ?_; (try simp only [tkS])
      refine tkD ?_ _
      simp only [Exit.then]
      have hl9 := hxn (Hv21.out.mono (below1 w21 (.cells #[.slice qa x6.length qc] 23))) hg9 (by rw [Htl.out]; exact hown9)
      have hk9 := Keep.grown (ok := fun T => T ≠ 23) hxo (fun k => k rfl) hg9
      have HC9 := hI (hcA.appL hxo2 hl9 hg9)
      have hB9 := hk9.blk _ _ _ (by decide) hcA.blk
      have hk10 := Keep.set (ok := fun T => T ≠ 27) hB9 (fun k => k rfl) 1 (.slice (some ⟨g9, 0, none⟩) (q + 1) cap9)
      have hbA := bwA (Hb21.out) (.cells #[.slice qa x6.length qc] 23)
      have Hk9 := hI (((Hk.out.trans (.below hbA)).trans (hk9.weak fun T hT => hT.2)).trans (hk10.weak fun T hT => hT.1))
      have Hb9 := hI ((Below.grown (bw_via Hbw.out hbA) hg9 (bw_via Hbw.out hbA).size (fun q hq => (hxo.lt q hq).1)).setCell (p := ⟨w.heap.size + 1, 1, none⟩) (Nat.le_succ _) (.slice (some ⟨g9, 0, none⟩) (q + 1) cap9))
      have HR9 := hI ((hk9.blk _ _ _ (by decide) (HR4.out.below hbA)).other (p := ⟨w.heap.size + 1, 1, none⟩) (by simp) (.slice (some ⟨g9, 0, none⟩) (q + 1) cap9))
      obtain ⟨⟨C0, C1, C2⟩, F0, F1, F2⟩ := blk3c hB9
      clear hxo hxo2 hxn hown9 hg9 hgo9 hcA hl9 hk9 hB9 hk10 hbA
      go_wp2_with fail
      go_roundw
      case rel => exact ⟨q + 1, by omega, by go_num, _, by rw [Htk.out]; exact HC9.out, Hk9.out, Hb9.out, HR9.out⟩
      case measure => simp [intOf] <;> omega
    · obtain rfl : P = q := by omega
      have hqP : ¬ (P : Int) < (P : Int) := by omega
      have hall : L.take P = L := List.take_of_length_le (by have := HLl.out; omega)
      rw [hall] at HC
      clear hall
      have hmm := @run_makeMap Tryz.prog
      go_upto_region 10 with (fail)
      clear hmm
      have hA := below1 wo (.map #[] 0)
      have HSm := hI (SMap.made wo)
      have HC3 := hI HC.out
      have HovO := hI (Hov.out.keep Hk.out (by decide) (by decide) (by decide))
      have HopO := hI (OP.keep Hop.out Hk.out (by decide))
      have HVrO := hI (HVr.out.below Hbw.out)
      have HBO := hI (HB.out.below Hbw.out)
      have Hb3 := hI hA
      have HM := hI (show w.heap.size ≤ wo.heap.size from Hbw.out.size)
      clear hA
      generalize wo.alloc (.map #[] 0) = w3 at *
      obtain ⟨⟨B0, B1, B2⟩, -⟩ := blk3c (HBO.out.below Hb3.out)
      obtain ⟨mb, hmb⟩ : ∃ b, wo.heap.size = b := ⟨_, rfl⟩
      have Hmb := hI hmb
      rw [hmb] at HSm ⊢
      clear hmb
      have HFr := hI (fun w' => show Calls Tryz.prog 39 #[.int .i64 1] w' (RetP (fun v w' => RQ w' v 1) w') from (rfrom_any 1 w' (by omega) (by omega)).mono fun e w2 ⟨v, he, hv, hb⟩ => ⟨v, he, ⟨0, hv, rfl⟩, hb⟩)
      go_wp2_with fail
      go_loopw [51, 12] (fun i o wr => ∃ u : Nat, u ≤ R ∧ i = .int .i64 (u : Int) ∧ Hid (∃ n', n' ≤ u ∧ Below wo.heap.size wo wr ∧ SMap wr mb n' (dedup ((st.rays.take u).map fun r => doneRay L pv r.1)) ∧ OV wo.heap.size wr o (dedup ((st.rays.take u).map fun r => doneRay L pv r.1)))) (fun i _ _ => R - (intOf i).toNat)
      case atStart => exact ⟨0, by omega, rfl, 0, Nat.le_refl _, Hb3.out, HSm.out, OV.nil _ _⟩
      case round =>
        obtain ⟨u, hu, rfl, hP⟩ := hrel
        obtain ⟨n', hn', hbw, hsm, hO⟩ := hP.out
        obtain ⟨w4, rfl⟩ : ∃ W, W = wr := ⟨_, rfl⟩
        have Hbw4 := hI hbw
        have HS := hI hsm
        have HO := hI hO
        obtain ⟨ta, tc, rfl, ht1, ht2⟩ := hO.open
        have hdl := dedup_len ((st.rays.take u).map fun r => doneRay L pv r.1)
        rw [List.length_map] at hdl
        have hdl2 := List.length_take_le u st.rays
        obtain ⟨tl, htl⟩ : ∃ l, (dedup ((st.rays.take u).map fun r => doneRay L pv r.1)).length = l := ⟨_, rfl⟩
        rw [htl] at HO ht1 hdl ⊢
        have HTl := hI htl
        unfold maxLen at ht2
        clear hP hbw hsm hO htl B0 B1 B2 HSm
        have hu0 : (0 : Int) ≤ (u : Int) := Int.natCast_nonneg _
        rcases Nat.lt_or_ge u R with hlt | hge
        · have huR : (u : Int) < (R : Int) := by omega
          have huw : IntKind.i64.wrap ((u : Int) + 1) = (u : Int) + 1 := IntWalk.i64_in _ (by omega)
          obtain ⟨b7, o7, pa7, pn7, pc7, x7, rfl, hr7, hq7, hrg⟩ := (HVrO.out.below Hbw4.out).ry.at (Below.refl _ _) hlt
          have fx7 := HFy.out x7 (List.mem_of_getElem? hr7)
          have hfx := HFx.out x7 (List.mem_of_getElem? hr7)
          obtain ⟨pa8, pc8, he8, -, -⟩ := hq7.open
          cases he8
          rw [fx7.1.1] at hq7 hrg
          have Hds := hI (show dedup ((st.rays.take (u + 1)).map fun r => doneRay L pv r.1) = if doneRay L pv x7.1 ∈ dedup ((st.rays.take u).map fun r => doneRay L pv r.1) then dedup ((st.rays.take u).map fun r => doneRay L pv r.1) else dedup ((st.rays.take u).map fun r => doneRay L pv r.1) ++ [doneRay L pv x7.1] from by
            rw [List.take_add_one, hr7, Option.toList_some, List.map_append]
            exact dedup_snoc _ _)
          obtain ⟨v7, t7⟩ := x7
          dsimp only at *
          have Hzf := hI (fun (z : Nat) (hz : z ≤ P) => show FitV d (((List.zip L pv).take z).foldl shiftV v7) from FitF.take hfx.1 (by rw [List.length_zip, HLl.out, HP.out, Nat.min_self]; exact hz))
          have Hzd := hI hfx.2
          have hA := below1 w4 (.cells (rayC (.slice pa7 d pc7) t7).toArray 89)
          have HR7 := hI (Blk.new w4 (rayC (.slice pa7 d pc7) t7).toArray 89)
          have HV7 := hI (hq7.mono hA)
          have HoR := hI (rayC_one pa7 d pc7 t7)
          have Hbw5 := hI (bw_via Hbw4.out hA)
          have HS5 := hI (HS.out.below hA)
          have HO5 := hI (HO.out.below hA)
          clear hr7 hq7 fx7 hfx hA
          go_upto_region 13 with (first
            | (refine wpList_load_mid rfl 89 _ rfl b7 (o7 + u * 17) rfl (rayC (.slice pa7 d pc7) t7) _ hrg Tryz.underlying89 rfl (by kernel_rfl) ?_; clear hrg)
            | (refine wpList_store_new rfl 89 _ _ rfl _ (rayC (.slice pa7 d pc7) t7) rfl rfl (by kernel_rfl) (by kernel_rfl) HoR.out ?_))
          generalize w4.alloc (.cells (rayC (.slice pa7 d pc7) t7).toArray 89) = w5 at *
          generalize w4.heap.size = R1 at *
          obtain ⟨⟨r0, -⟩, -⟩ := ray_c01 HR7.out
          clear HS HO Hbw4
          go_wp2_with fail
          go_loopw [59, 15] (fun i v wr => ∃ z : Nat, z ≤ P ∧ i = .int .i64 (z : Int) ∧ Hid (Below w5.heap.size w5 wr ∧ QV wr v (((List.zip L pv).take z).foldl shiftV v7))) (fun i _ _ => P - (intOf i).toNat)
          case atStart => exact ⟨0, by omega, rfl, Below.refl _ _, HV7.out⟩
          case round =>
            obtain ⟨z, hz, rfl, hP⟩ := hrel
            obtain ⟨hbz, hv⟩ := hP.out
            obtain ⟨w6, rfl⟩ : ∃ W, W = wr := ⟨_, rfl⟩
            have Hbz := hI hbz
            have HV := hI hv
            have fz := Hzf.out z hz
            obtain ⟨va, vc, rfl, -, -⟩ := hv.open
            rw [fz.1] at HV
            have Hfz := hI fz
            have hvl := fz.1
            clear hP hbz hv fz r0
            have hz0 : (0 : Int) ≤ (z : Int) := Int.natCast_nonneg _
            rcases Nat.lt_or_ge z P with hzl | hzg
            · have hzP : (z : Int) < (P : Int) := by omega
              have hzw : IntKind.i64.wrap ((z : Int) + 1) = (z : Int) + 1 := IntWalk.i64_in _ (by omega)
              have Hb6 := hI (bw_via Hbw5.out Hbz.out)
              obtain ⟨bp, pz, rfl, hpz, cz⟩ := (HopO.out.below Hb6.out).cell hzl
              have hpd := Hm2.out pz (List.mem_of_getElem? hpz)
              obtain ⟨bl, ol, pl, xl, rfl, hxl, cl, hpl⟩ := (HovO.out.below Hb6.out).vs.at (Below.refl _ _) hzl
              have fxl := Hm1.out xl (List.mem_of_getElem? hxl)
              obtain ⟨pla, plc, rfl, -, -⟩ := hpl.open
              rw [fxl.1] at hpl cl
              obtain ⟨bv, ov2, x1, a1, n1, c1, y1, e1, l1, d1, t1, rfl, ht1v, hT1, s0, s1, s2, s3⟩ := HV.out.at (Below.refl _ _) hpd
              have hgd : (((List.zip L pv).take z).foldl shiftV v7).getD pz 0 = t1 := by rw [List.getD_eq_getElem?_getD, ht1v, Option.getD_some]
              have Hst := hI (show ((List.zip L pv).take (z + 1)).foldl shiftV v7 = mixV (((List.zip L pv).take z).foldl shiftV v7) 1 xl (-t1) from by rw [fold_take hxl hpz, hgd])
              have Hfz1 := hI (Hzf.out (z + 1) hzl)
              rw [Hst.out] at Hfz1
              have zt1 : Sz 100 t1 := Hfz.out.2 t1 (List.mem_of_getElem? ht1v)
              have hp0 : (0 : Int) ≤ (pz : Int) := Int.natCast_nonneg _
              have hpdi : (pz : Int) < (d : Int) := by omega
              have HNg := hI (fun w' (hb : Below w6.heap.size w6 w') => rneg_g _ t1 w' (hT1.mono hb))
              have HMx := hI (fun w' j x (hb : Below w6.heap.size w6 w') (hj : RQ w' j 1) (hx : RQ w' x (-t1)) => mix_g _ j _ x _ xl 1 (-t1) d 100 100 w' (HV.out.mono hb) hj (hpl.mono hb) hx Hfz.out.1 fxl.1 Hfz.out.2 fxl.2 ⟨by decide, by decide⟩ zt1.neg (by omega) (by omega))
              have HS17 := hI (fun w' (hb : Below w6.heap.size w6 w') => show (fun w' => w'.cell? ⟨bl, ol + z, none⟩ = some (.slice pla d plc) ∧ w'.cell? ⟨bv, ov2 + pz * 4, none⟩ = some (.bool x1) ∧ w'.cell? ⟨bv, ov2 + pz * 4 + 1, none⟩ = some (.slice a1 n1 c1) ∧ w'.cell? ⟨bv, ov2 + pz * 4 + 2, none⟩ = some (.bool y1) ∧ w'.cell? ⟨bv, ov2 + pz * 4 + 3, none⟩ = some (.slice e1 l1 d1)) w' from ⟨cell_keep hb cl, cell_keep hb s0, cell_keep hb s1, cell_keep hb s2, cell_keep hb s3⟩)
              clear hpz hxl cl hpl fxl ht1v hT1 s0 s1 s2 s3 hgd
              go_wp2_with fail
              refine wp_region_held_drew (S := (fun w' => w'.cell? ⟨bl, ol + z, none⟩ = some (.slice pla d plc) ∧ w'.cell? ⟨bv, ov2 + pz * 4, none⟩ = some (.bool x1) ∧ w'.cell? ⟨bv, ov2 + pz * 4 + 1, none⟩ = some (.slice a1 n1 c1) ∧ w'.cell? ⟨bv, ov2 + pz * 4 + 2, none⟩ = some (.bool y1) ∧ w'.cell? ⟨bv, ov2 + pz * 4 + 3, none⟩ = some (.slice e1 l1 d1))) (by kernel_rfl) (by exact (HS17.out _ ((Below.refl _ _).drew))) (fun hHeld => ?_)
              refine' tk 0 ?_; (try simp only [tkS]); refine' tk 2 ?_; (try simp only [tkS]); refine' tk 3 ?_; (try simp only [tkS]); refine' tk 4 ?_; (try simp only [tkS]); refine' tk 5 ?_; (try simp only [tkS]); refine' tk 6 ?_; (try simp only [tkS]); refine' tk 7 ?_; (try simp only [tkS]); refine' tk 8 ?_; (try simp only [tkS]); refine' tk 9 ?_; (try simp only [tkS])
              refine tk1 1 (fun K hK => ?_)
              go_simp
              go_at_call 39
              refine (HFr.out _).mono ?_
              rintro e5 w41 ⟨v41, rfl, hv41, hb41⟩
              have Hb41 := hI (bw_via ((Below.refl _ _).drew) hb41)
              obtain ⟨x5, a5, n5, c5, y5, e5, l5, d5, rfl, hv41⟩ := hv41.open
              have Hv41 := hI hv41
              clear hv41 hb41
              refine hK.out _ _ (by exact (HS17.out _ (Hb41.out))) (fun hHeld => ?_)
              clear hK K; (try simp only [tkS])
              refine tk1 10 (fun K hK => ?_)
              go_simp
              go_at_call 35
              refine (HNg.out _ (Hb41.out)).mono ?_
              rintro e5 w42 ⟨v42, rfl, hv42, hb42⟩
              have Hb42 := hI (bw_via (Hb41.out) hb42)
              have Hv41 := hI (Hv41.out.mono hb42)
              obtain ⟨x6, a6, n6, c6, y6, e6, l6, d6, rfl, hv42⟩ := hv42.open
              have Hv42 := hI hv42
              clear hv42 hb42
              refine hK.out _ _ (by exact (HS17.out _ (Hb42.out))) (fun hHeld => ?_)
              clear hK K; (try simp only [tkS])
              refine tk1 11 (fun K hK => ?_)
              go_simp
              go_at_call 46
              refine (HMx.out _ _ _ (Hb42.out) Hv41.out Hv42.out).mono ?_
              rintro e5 w43 ⟨v43, rfl, hv43, hb43⟩
              have Hb43 := hI (bw_via (Hb42.out) hb43)
              have Hv41 := hI (Hv41.out.mono hb43)
              obtain ⟨qa, qc, hve, -, -⟩ := hv43.open
              rw [Hfz1.out.1] at hve
              subst hve
              have Hv43 := hI hv43
              clear hv43 hb43
              refine hK.out _ _ (by exact (HS17.out _ (Hb43.out))) (fun hHeld => ?_)
              clear hK K; (try simp only [tkS])
              refine' tk 12 ?_; (try simp only [tkS])
              refine tkD ?_ _
              go_wp2_with fail
              go_roundw
              case rel => exact ⟨z + 1, by omega, by go_num, bw_via Hbz.out Hb43.out, by rw [Hst.out]; exact Hv43.out⟩
              case measure => simp [intOf] <;> omega
            · obtain rfl : P = z := by omega
              have hzP : ¬ (P : Int) < (P : Int) := by omega
              have HPr := hI (fun w' (hb : Below w6.heap.size w6 w') => show Calls Tryz.prog 45 #[.slice va d vc] w' (RetP (fun x w' => QV w' x (doneRay L pv v7)) w') from by
                have h1 := prim_g (.slice va d vc) _ d 100 w' (HV.out.mono hb) Hfz.out.1 Hfz.out.2 hd (by omega)
                rwa [show primV (((List.zip L pv).take P).foldl shiftV v7) = doneRay L pv v7 from by unfold doneRay; rw [List.take_of_length_le (by rw [List.length_zip, HLl.out, HP.out, Nat.min_self]; exact Nat.le_refl _)]] at h1)
              generalize hdr : doneRay L pv v7 = dr at *
              clear hdr
              have Hb6 := hI (bw_via Hbw5.out Hbz.out)
              have HS6' := hI (HS5.out.below Hbz.out)
              have HO6 := hI (HO5.out.below Hbz.out)
              have HNa := hI (fun w' x (hb : Below w.heap.size w w') (hx : QV w' x dr) => name_g x dr d w' hx Hzd.out.1 (by omega) Hzd.out.2 (HTb.out w' hb))
              have hnl : (nameL dr).length ≤ maxLen := by
                have h1 := nameL_len (K := 100) (a := dr) Hzd.out.2
                have h2 := Nat.mul_le_mul_right 205 (show dr.length ≤ 8 by rw [Hzd.out.1]; exact hd)
                unfold maxLen
                omega
              have Hnl := hI hnl
              clear hnl
              generalize dedup ((st.rays.take u).map fun r => doneRay L pv r.1) = seen at *
              by_cases hin : dr ∈ seen
              · have Hds2 := hI (show dedup ((st.rays.take (u + 1)).map fun r => doneRay L pv r.1) = seen from by rw [Hds.out, if_pos hin])
                have hdi : decide (dr ∈ seen) = true := decide_eq_true hin
                clear hin
                go_wp2_with (first
                  | (go_at_call 45; refine (HPr.out _ (Below.refl _ _)).mono ?_; rintro e5 w7 ⟨v8, rfl, hv8, hb7⟩; obtain ⟨ka, kc, rfl, -, -⟩ := hv8.open; have Hv8 := hI hv8; have Hb7 := hI (bw_via Hb6.out hb7); have HS7 := hI (HS6'.out.below hb7); have HO7 := hI (HO6.out.below hb7); have Hww7 := hI (bw_via Hbw.out (bw_via Hb6.out hb7)); clear hv8 hb7)
                  | (go_at_call 49; refine (HNa.out _ _ Hww7.out Hv8.out).mono ?_; rintro e5 w8 ⟨rfl, hb8⟩; have HS8 := hI (HS7.out.below hb8); have HO8 := hI (HO7.out.below hb8); have Hb8 := hI (bw_via Hb7.out hb8); clear hb8)
                  | (at_lookup; refine wpLookS rfl _ _ rfl mb n' _ dr rfl rfl HS8.out Hnl.out ?_))
                go_roundw
                case rel => exact ⟨u + 1, by omega, by go_num, n', by omega, Hb8.out, by rw [Hds2.out]; exact HS8.out, by rw [Hds2.out]; exact HO8.out⟩
                case measure => simp [intOf] <;> omega
              · have Hds2 := hI (show dedup ((st.rays.take (u + 1)).map fun r => doneRay L pv r.1) = seen ++ [dr] from by rw [Hds.out, if_neg hin])
                have hdi : decide (dr ∈ seen) = false := decide_eq_false hin
                clear hin
                go_upto_region 21 with (first
                  | (go_at_call 45; refine (HPr.out _ (Below.refl _ _)).mono ?_; rintro e5 w7 ⟨v8, rfl, hv8, hb7⟩; obtain ⟨ka, kc, rfl, -, -⟩ := hv8.open; have Hv8 := hI hv8; have Hb7 := hI (bw_via Hb6.out hb7); have HS7 := hI (HS6'.out.below hb7); have HO7 := hI (HO6.out.below hb7); have Hww7 := hI (bw_via Hbw.out (bw_via Hb6.out hb7)); clear hv8 hb7)
                  | (go_at_call 49; refine (HNa.out _ _ Hww7.out Hv8.out).mono ?_; rintro e5 w8 ⟨rfl, hb8⟩; have HS8 := hI (HS7.out.below hb8); have HO8 := hI (HO7.out.below hb8); have Hb8 := hI (bw_via Hb7.out hb8); have Hv9 := hI (Hv8.out.mono hb8); have Hww8 := hI (bw_via Hww7.out hb8); clear hb8)
                  | (at_lookup; refine wpLookS rfl _ _ rfl mb n' _ dr rfl rfl HS8.out Hnl.out ?_))
                go_upto_region 22 with (first
                  | (go_at_call 49; refine (HNa.out _ _ Hww8.out Hv9.out).mono ?_; rintro e5 w10 ⟨rfl, hb10⟩; have HS10 := hI (HS8.out.below hb10); have HO10 := hI (HO8.out.below hb10); have Hb10 := hI (bw_via Hb8.out hb10); have Hv10 := hI (Hv9.out.mono hb10); clear hb10)
                  | (at_mapUpdate; refine wpPutS rfl _ _ _ rfl mb n' _ dr rfl rfl rfl HS10.out (by unfold maxLen; omega) Hnl.out ?_; intro w11 hS11 hg11; have hk11 := Keep.map (ok := fun _ => True) HS10.out hg11; have HS11 := hI hS11; have HO11 := hI (HO10.out.keep hk11 trivial trivial trivial); have Hv11 := hI (Hv10.out.keep hk11 trivial trivial); have Hb11 := hI (Below.grown Hb10.out hg11 Hb10.out.size (fun q hq => by rw [Hmb.out]; exact Nat.le_of_eq (Option.some.inj hq))); clear hS11 hg11 hk11))
                have hbA := below1 w11 (.cells #[.slice ka dr.length kc] 46)
                obtain ⟨ps, hpl, hpo, hpq⟩ := HO11.out.below hbA
                have hpo2 := hpo
                rw [HTl.out] at hpo2
                have HSA := hI (HS11.out.below hbA)
                have HQA := hI (Hv11.out.mono hbA)
                have HbA := hI (bw_via Hb11.out hbA)
                clear hbA
                go_wp2_with (at_builtin; refine wpAppL EVs (by decide) [.slice ka dr.length kc] rfl _ _ rfl wo.heap.size tl _ ps _ rfl rfl hpo2 (Blk.new w11 #[.slice ka dr.length kc] 46) rfl (one1 _ rfl) (by omega) (by decide) HbA.out.size ?_; intro g12 cap12 w12 hown12 hg12 _ _; have HO12 := hI (OV.snoc2 hpl hpq hpo HQA.out hg12 (by rw [HTl.out]; exact hown12)); have HS12 := hI (HSA.out.kept hg12 (HSA.out.ne_own hpo)); have Hb12 := hI (Below.grown HbA.out hg12 HbA.out.size (fun q hq => (hpo.lt q hq).1)); clear hpl hpo hpq hpo2 hown12 hg12)
                go_roundw
                case rel => exact ⟨u + 1, by omega, by go_num, n' + 1, by omega, Hb12.out, by rw [Hds2.out]; exact HS12.out, by rw [Hds2.out]; exact HO12.out⟩
                case measure => simp [intOf] <;> omega
        · obtain rfl : R = u := by omega
          have huR : ¬ (R : Int) < (R : Int) := by omega
          have hall : st.rays.take R = st.rays := List.take_of_length_le (by have := HRr.out; omega)
          rw [hall] at HO HTl
          clear hall
          have hfs : ∀ a ∈ dedup (st.rays.map fun r => doneRay L pv r.1), FitV d a := fun a ha => by
            obtain ⟨r, hr, rfl⟩ := List.mem_map.1 (dedup_mem _ a ha)
            exact (HFx.out r hr).2
          have HSo := hI (sortf_g (.slice ta tl tc) _ wo.heap.size tl d w4 HO.out HTl.out (by have := HTl.out; omega) (by omega) hfs Hbw4.out.size)
          have hsl : (sortV (dedup (st.rays.map fun r => doneRay L pv r.1))).length = tl := by rw [sort_len]; exact HTl.out
          have Hsl := hI hsl
          have HDf := hI (show doneB st d = { dim := d, lines := L, rays := sortV (dedup (st.rays.map fun r => doneRay L pv r.1)) } from HDn.out)
          generalize sortV (dedup (st.rays.map fun r => doneRay L pv r.1)) = srt at *
          clear hfs hsl HO
          go_upto_region 25 with (go_at_call 50; refine (HSo.out).mono ?_; rintro e5 w5 ⟨rfl, hs5⟩; have HI := hI hs5; clear hs5)
          have Hb5 := hI (Hbw4.out.trans HI.out.below)
          have HC5 := hI (HC3.out.below Hb5.out)
          have HR5 := hI (HR4.out.below Hb5.out)
          have Hbw5 := hI (bw_via Hbw.out Hb5.out)
          clear HSo HS Hbw4
          generalize w5 = ws at *
          go_wp2_with fail
          go_loopw [96] (fun i wr => ∃ z : Nat, z ≤ tl ∧ i = .int .i64 (z : Int) ∧ Hid (∃ rv, CO w.heap.size wr (w.heap.size + 1) d (.slice ca P cc) rv L (srt.take z) ∧ Keep (fun T => T ≠ 27 ∧ T ≠ 23) ws wr ∧ Below w.heap.size w wr ∧ Blk wr w.heap.size #[.int .i64 0, .slice none 0 0, .slice none 0 0] 27)) (fun i _ => tl - (intOf i).toNat)
          case atStart => exact ⟨0, by omega, rfl, _, HC5.out, Keep.refl _ _, Hbw5.out, HR5.out⟩
          case round =>
            obtain ⟨q, hq, rfl, hP⟩ := hrel
            obtain ⟨rv, hC, hk, hbw, hR4⟩ := hP.out
            obtain ⟨wo2, rfl⟩ : ∃ W, W = wr := ⟨_, rfl⟩
            have HC := hI hC
            have Hk := hI hk
            have Hbw := hI hbw
            have HR4 := hI hR4
            obtain ⟨da, dc, rfl, hdc1, hdc2⟩ := hC.r.open
            have htl : (srt.take q).length = q := by rw [List.length_take]; have := Hsl.out; omega
            rw [htl] at HC hdc1
            have Htl := hI htl
            unfold maxLen at hdc2
            clear hP hC hk hbw hR4 htl HC5 HR5 HC3
            have hq0 : (0 : Int) ≤ (q : Int) := Int.natCast_nonneg _
            rcases Nat.lt_or_ge q tl with hlt | hge
            · have hqP2 : (q : Int) < (tl : Int) := by omega
              have hqw : IntKind.i64.wrap ((q : Int) + 1) = (q : Int) + 1 := IntWalk.i64_in _ (by omega)
              obtain ⟨b6, o6, p6, x6, rfl, hx6, c6, hp6⟩ := (HI.out.ov.vs.keep Hk.out (by decide) (by decide) (by decide)).at (Below.refl _ _) hlt
              have fx6 := HI.out.fit x6 (List.mem_of_getElem? hx6)
              obtain ⟨pa6, pc6, rfl, -, -⟩ := hp6.open
              rw [fx6.1] at hp6 c6
              have Htk := hI (show srt.take (q + 1) = srt.take q ++ [x6] from by rw [List.take_add_one, hx6]; rfl)
              have HN6 := hI (fun w' (hb : Below wo2.heap.size wo2 w') => HNm.out w' _ x6 (bw_via Hbw.out hb) (hp6.mono hb) fx6)
              obtain ⟨⟨C0, C1, C2⟩, -⟩ := blk3c HC.out.blk
              have HS28 := hI (fun w' (hb : Below wo2.heap.size wo2 w') => show (fun w' => w'.cell? ⟨w.heap.size + 1, 2, none⟩ = some (.slice da q dc)) w' from cell_keep hb C2)
              have HM := hI (show w.heap.size ≤ wo2.heap.size from Hbw.out.size)
              clear hx6 hp6 fx6 C0 C1 C2
              go_wp2_with fail
              refine wp_region_pop (S := (fun w' => w'.cell? ⟨w.heap.size + 1, 2, none⟩ = some (.slice da q dc))) 7 (by kernel_rfl) (by kernel_rfl) (by exact (HS28.out _ ((Below.refl _ _).dn 1))) (fun hHeld => ?_)
              simp only [List.take_succ_cons, List.take_zero, List.drop_succ_cons, List.drop_zero]
              refine' tk 0 ?_; (try simp only [tkS]); refine' tk 1 ?_; (try simp only [tkS]); refine' tk 2 ?_; (try simp only [tkS])
              refine tk1 3 (fun K hK => ?_)
              go_simp
              go_at_call 16
              refine (HN6.out _ ((Below.refl _ _).dn 1)).mono ?_
              rintro e5 w21 ⟨v21, rfl, hv21, hb21⟩
              have Hb21 := hI (bw_via ((Below.refl _ _).dn 1) hb21)
              obtain ⟨qa, qc, rfl, -, -⟩ := hv21.open
              have Hv21 := hI hv21
              clear hv21 hb21
              refine hK.out _ _ (by exact (HS28.out _ (Hb21.out))) (fun hHeld => ?_)
              clear hK K; (try simp only [tkS])
              refine tk1 4 (fun K hK => ?_)
              go_simp
              refine hK.out _ _ (by exact (HS28.out _ (bwA (Hb21.out) _))) (fun hHeld => ?_)
              clear hK K; (try simp only [tkS])
              refine tk1 5 (fun K hK => ?_)
              obtain ⟨ys, hxo, hxn⟩ := (HC.out.below (bwA (Hb21.out) (.cells #[.slice qa x6.length qc] 23))).r.own
              have hxo2 := hxo
              rw [Htl.out] at hxo
              refine stepApp ET (by decide) [.slice qa x6.length qc] rfl _ _ rfl w.heap.size q _ ys _ rfl rfl hxo (Blk.new w21 #[.slice qa x6.length qc] 23) rfl (one1 _ rfl) (by omega) (by decide) (Nat.le_trans HM.out (bwA (Hb21.out) (.cells #[.slice qa x6.length qc] 23)).size) ?_
              intro g9 cap9 w9 hown9 hg9 hgo9 _
              have hcA := HC.out.below (bwA (Hb21.out) (.cells #[.slice qa x6.length qc] 23))
              refine hK.out _ _ (by exact (by obtain ⟨⟨j0, j1, j2⟩, -⟩ := blk3c ((Keep.grown (ok := fun T => T ≠ 23) hxo (fun k => k rfl) hg9).blk _ _ _ (by decide) hcA.blk); exact j2)) (fun hHeld => ?_)
              clear hK K; (try simp only [tkS])
              refine' tk 6 ?_; (try simp only [tkS])
              refine tkD ?_ _
              simp only [Exit.then]
              have hl9 := hxn (Hv21.out.mono (below1 w21 (.cells #[.slice qa x6.length qc] 23))) hg9 (by rw [Htl.out]; exact hown9)
              have hk9 := Keep.grown (ok := fun T => T ≠ 23) hxo (fun k => k rfl) hg9
              have HC9 := hI (hcA.appR hxo2 hl9 hg9 hgo9)
              have hB9 := hk9.blk _ _ _ (by decide) hcA.blk
              have hk10 := Keep.set (ok := fun T => T ≠ 27) hB9 (fun k => k rfl) 2 (.slice (some ⟨g9, 0, none⟩) (q + 1) cap9)
              have hbA := bwA (Hb21.out) (.cells #[.slice qa x6.length qc] 23)
              have Hk9 := hI (((Hk.out.trans (.below hbA)).trans (hk9.weak fun T hT => hT.2)).trans (hk10.weak fun T hT => hT.1))
              have Hb9 := hI ((Below.grown (bw_via Hbw.out hbA) hg9 (bw_via Hbw.out hbA).size (fun q hq => (hxo.lt q hq).1)).setCell (p := ⟨w.heap.size + 1, 2, none⟩) (Nat.le_succ _) (.slice (some ⟨g9, 0, none⟩) (q + 1) cap9))
              have HR9 := hI ((hk9.blk _ _ _ (by decide) (HR4.out.below hbA)).other (p := ⟨w.heap.size + 1, 2, none⟩) (by simp) (.slice (some ⟨g9, 0, none⟩) (q + 1) cap9))
              obtain ⟨⟨C0, C1, C2⟩, F0, F1, F2⟩ := blk3c hB9
              clear hxo hxo2 hxn hown9 hg9 hgo9 hcA hl9 hk9 hB9 hk10 hbA
              go_wp2_with fail
              go_roundw
              case rel => exact ⟨q + 1, by omega, by go_num, _, by rw [Htk.out]; exact HC9.out, Hk9.out, Hb9.out, HR9.out⟩
              case measure => simp [intOf] <;> omega
            · obtain rfl : q = tl := by omega
              have hqP2 : ¬ (q : Int) < (q : Int) := by omega
              have hall : srt.take q = srt := List.take_of_length_le (by have := Hsl.out; omega)
              rw [hall] at HC
              clear hall
              obtain ⟨⟨C0, C1, C2⟩, -⟩ := blk3c HC.out.blk
              obtain ⟨⟨D0, D1, D2⟩, F0, F1, F2⟩ := blk3c HR4.out
              have h1 := HR4.out.set 0 (.int .i64 (d : Int))
              have h2 := Blk.set h1 1 (.slice ca P cc)
              have h3 := Blk.set h2 2 (.slice da q dc)
              have k1 := ((Keep.set (ok := fun T => T ≠ 27) HR4.out (fun k => k rfl) 0 (.int .i64 (d : Int))).trans (Keep.set (ok := fun T => T ≠ 27) h1 (fun k => k rfl) 1 (.slice ca P cc))).trans (Keep.set (ok := fun T => T ≠ 27) h2 (fun k => k rfl) 2 (.slice da q dc))
              have hlv := HC.out.l.tvs.keep k1 (by decide) (by decide)
              have hrv := HC.out.r.tvs.keep k1 (by decide) (by decide)
              have hbf := ((Hbw.out.setCell (p := ⟨w.heap.size, 0, none⟩) (Nat.le_refl _) (.int .i64 (d : Int))).setCell (p := ⟨w.heap.size, 1, none⟩) (Nat.le_refl _) (.slice ca P cc)).setCell (p := ⟨w.heap.size, 2, none⟩) (Nat.le_refl _) (.slice da q dc)
              have Hh3 := hI h3
              have Hlv := hI hlv
              have Hrv := hI hrv
              have Hbf := hI hbf
              clear h1 h2 h3 k1 hlv hrv hbf
              go_wp2_with fail
              obtain ⟨⟨E0, E1, E2⟩, -⟩ := blk3c (show Blk _ w.heap.size #[.int .i64 (d : Int), .slice ca P cc, .slice da q dc] 27 from Hh3.out)
              exact bodyPost_ret (v := .agg #[.int .i64 (d : Int), .slice ca P cc, .slice da q dc]) (by simp [results, Tryz.results30, go_sem, E0, E1, E2]) rfl ⟨_, rfl, by rw [HDf.out]; exact ⟨ca, P, cc, da, q, dc, rfl, Hlv.out, Hrv.out⟩, Hbf.out⟩
end Go.Proofs.YtlcmhbkmpkcajaaGreatDoor
