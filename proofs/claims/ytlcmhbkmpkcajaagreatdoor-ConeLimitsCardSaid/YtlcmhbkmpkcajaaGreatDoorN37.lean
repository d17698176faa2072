/-
  Parts of the proof: Qgf, Qeq, Qck.
-/
import Derived.Test.YtlcmhbkmpkcajaaGreatDoorN36
namespace Go.Proofs.YtlcmhbkmpkcajaaGreatDoor
open Go.RowKit
set_option maxHeartbeats 4000000 in
set_option maxRecDepth 10000 in
theorem read_ok (u : Value) (vs : List (List Rat)) (d n most : Nat) (w : World) (h : TVs w u vs) (ha : vs.length = n) (hn : n ≤ most) (hm : most ≤ 1000) (hd : d ≤ 1000) (hz : ∀ v ∈ vs, FitV d v) :
    Calls Tryz.prog 11 #[.int .i64 (d : Int), u, .int .i64 (most : Int)] w (RetP (fun x w' => ∃ o, x = .tuple #[o, .int .i64 0] ∧ OV w.heap.size w' o vs) w) := by
  have HRd := hI (fun (k : Nat) (x : List Rat) (hx : vs[k]? = some x) W v (hv : TV W v x) => reads_v v x d W hv (hz x (List.mem_of_getElem? hx)).1 hd (hz x (List.mem_of_getElem? hx)).2)
  have HXl := hI (fun (k : Nat) (x : List Rat) (hx : vs[k]? = some x) => (hz x (List.mem_of_getElem? hx)).1)
  obtain ⟨ad, cap, rfl, hc1, hc2⟩ := h.open
  rw [ha] at h hc1 ⊢
  unfold maxLen at hc2
  have HX := hI h
  have Ha := hI ha
  have hnm : ¬ (most : Int) < (n : Int) := by omega
  have hnm2 : decide ((most : Int) < (n : Int)) = false := decide_eq_false hnm
  clear h ha hz
  go_enter Tryz.func11, Tryz.ntmps11
  go_wp2_with fail
  go_loopw [19, 8] (fun i o wr => ∃ q : Nat, q ≤ n ∧ i = .int .i64 (q : Int) ∧ Below w.heap.size w wr ∧ Hid (OV w.heap.size wr o (vs.take q))) (fun i _ _ => n - (intOf i).toNat)
  case atStart => exact ⟨0, by omega, rfl, Below.refl _ _, OV.nil _ _⟩
  case round =>
    obtain ⟨q, hq, rfl, hbx, hO⟩ := hrel
    have Hbx := hI hbx
    have HO := hI hO.out
    obtain ⟨oa, oc, rfl, ho1, ho2⟩ := hO.out.open
    have hlen : (vs.take q).length = q := by rw [List.length_take]; have := Ha.out; omega
    rw [hlen] at HO ho1 ⊢
    unfold maxLen at ho2
    have Hlen := hI hlen
    clear hlen hO
    have hk0 : (0 : Int) ≤ (q : Int) := Int.natCast_nonneg _
    rcases Nat.lt_or_ge q n with hlt | hge
    · obtain ⟨b1, o1, p, x, rfl, hx, c0, hp⟩ := HX.out.at hbx hlt
      obtain ⟨pa, pc, rfl, -, -⟩ := hp.open
      have hkn : (q : Int) < (n : Int) := by omega
      have hkw : IntKind.i64.wrap ((q : Int) + 1) = (q : Int) + 1 := IntWalk.i64_in _ (by omega)
      have hxl := HXl.out q x hx
      rw [hxl] at hp c0
      have HRx := hI (HRd.out q x hx wr _ hp)
      have Hxl := hI hxl
      have Htk := hI (show vs.take (q + 1) = vs.take q ++ [x] from by rw [List.take_add_one, hx]; rfl)
      clear hx hp hbx hxl
      go_wp2_with (first
        | (go_at_call 18; refine (HRx.out).mono ?_; rintro e5 w5 ⟨v5, rfl, ⟨r0, rfl, hv5⟩, hb5⟩; obtain ⟨qa, qc, rfl, -, -⟩ := hv5.open; have Hb5 := hI (bw_via hb5 (below1 w5 (.cells #[.slice qa x.length qc] 46))); have HQ5 := hI (hv5.mono (below1 w5 (.cells #[.slice qa x.length qc] 46))); have HBn := hI (Blk.new w5 #[.slice qa x.length qc] 46); clear hv5 hb5)
        | (at_builtin; obtain ⟨ps, hpl, hpo, hpq⟩ := HO.out.below Hb5.out; have hpo2 := hpo; rw [Hlen.out] at hpo2; refine wpAppL EVs (by decide) [.slice qa x.length qc] rfl _ _ rfl w.heap.size q _ ps _ rfl rfl hpo2 HBn.out rfl (one1 _ rfl) (by omega) (by decide) (Hbx.out.via Hb5.out Hbx.out.size).size ?_; intro g4 cap4 w4 hown' hg' _ _; have HV4 := hI (OV.snoc2 hpl hpq hpo HQ5.out hg' (by rw [Hlen.out]; exact hown')); have Hb4 := hI (Below.grown (Hbx.out.via Hb5.out Hbx.out.size) hg' (Hbx.out.via Hb5.out Hbx.out.size).size (fun q hq => (hpo.lt q hq).1)); clear hpl hpo hpq hpo2 hown' hg'))
      go_roundw
      case rel => exact ⟨q + 1, by omega, by go_num, Hb4.out, by rw [Htk.out]; exact HV4.out⟩
      case measure => simp [intOf] <;> omega
    · obtain rfl : q = n := by omega
      have hkn : ¬ (q : Int) < (q : Int) := by omega
      have hall : vs.take q = vs := List.take_of_length_le (by have := Ha.out; omega)
      rw [hall] at HO
      clear hbx hall
      go_wp2_with fail
      go_ret2
      exact ⟨_, rfl, ⟨_, rfl, HO.out⟩, Hbx.out⟩
set_option maxHeartbeats 1000000 in
set_option maxRecDepth 10000 in
theorem read_lim (a : Option Addr) (c d n most : Nat) (w : World) (hn : most < n) (_hm : n ≤ 1000) :
    Calls Tryz.prog 11 #[.int .i64 (d : Int), .slice a n c, .int .i64 (most : Int)] w (Ret (.tuple #[.slice none 0 0, .int .i64 6]) w) := by
  have hnm : (most : Int) < (n : Int) := by omega
  have hnm2 : decide ((most : Int) < (n : Int)) = true := decide_eq_true hnm
  go_enter Tryz.func11, Tryz.ntmps11
  go_wp2_with fail
  go_ret2
  exact Ret.mk (Below.refl _ _)
theorem cv_zero (w : World) : CV w (.agg #[.int .i64 0, .slice none 0 0, .slice none 0 0]) ⟨0, [], []⟩ :=
  ⟨none, 0, 0, none, 0, 0, rfl, ⟨[], rfl, Sl.nil w 1, AT.nil w _ _ _, fun k p a hp => by simp at hp⟩, ⟨[], rfl, Sl.nil w 1, AT.nil w _ _ _, fun k p a hp => by simp at hp⟩⟩
set_option maxHeartbeats 4000000 in
set_option maxRecDepth 10000 in
theorem gen_ok (d : Nat) (ls rs : List Vec) (u v : Value) (w : World) (hu : TVs w u ls) (hv : TVs w v rs) (hd1 : 1 ≤ d) (hd : d ≤ 8) (hl : ls.length ≤ 24) (hr : rs.length ≤ 256) (fl : ∀ a ∈ ls, FitV d a) (fr : ∀ a ∈ rs, FitV d a)
    (hC : FitC d ls rs) (hN : FitN d ls rs) (hC2 : FitC d (boundedC d ls rs).lines (boundedC d ls rs).rays) (hN2 : FitN d (boundedC d ls rs).lines (boundedC d ls rs).rays) (hT : Tab w) :
    Calls Tryz.prog 5 #[.int .i64 (d : Int), u, v] w (RetP (fun x w' => ∃ cv, x = .tuple #[cv, .int .i64 0] ∧ CV w' cv (generatedC d ls rs)) w) := by
  have hA := below1 w (.cells #[.int .i64 0, .slice none 0 0, .slice none 0 0] 27)
  have HR1 := hI (fun w' (hb : Below w.heap.size w w') => read_ok u ls d ls.length 24 w' (hu.mono hb) rfl hl (by omega) (by omega) fl)
  have HR2 := hI (fun w' (hb : Below w.heap.size w w') => read_ok v rs d rs.length 256 w' (hv.mono hb) rfl hr (by omega) (by omega) fr)
  have HGn := hI (fun w' x y (hx : Vs w' x ls) (hy : Vs w' y rs) (ht : Tab w') => generated_g d ls rs x y w' hx hy hd hC hN hC2 hN2 ht)
  have HR4 := hI (Blk.new w #[.int .i64 0, .slice none 0 0, .slice none 0 0] 27)
  have Hb1 := hI hA
  have HTb := hI hT
  obtain ⟨la, lc, rfl, -, -⟩ := hu.open
  obtain ⟨ya, yc, rfl, -, -⟩ := hv.open
  obtain ⟨c2, hc2⟩ : ∃ c, generatedC d ls rs = c := ⟨_, rfl⟩
  rw [hc2] at HGn ⊢
  have h1 : ¬ (d : Int) < 1 := by omega
  have h2 : ¬ (8 : Int) < (d : Int) := by omega
  have h1b : decide ((d : Int) < 1) = false := decide_eq_false h1
  have h2b : decide ((8 : Int) < (d : Int)) = false := decide_eq_false h2
  clear hu hv fl fr hC hN hC2 hN2 hT hA hc2
  go_enter Tryz.func5, Tryz.ntmps5
  go_upto_region 1 with (fail)
  generalize w.alloc (.cells #[.int .i64 0, .slice none 0 0, .slice none 0 0] 27) = w1 at *
  go_upto_region 6 with (go_at_call 11; refine (HR1.out _ Hb1.out).mono ?_; rintro e5 w2 ⟨v2, rfl, ⟨o2, rfl, ho2⟩, hb2⟩; obtain ⟨oa, oc, rfl, -, -⟩ := ho2.open; have Ho2 := hI ho2.vs; have Hb2 := hI (bw_via Hb1.out hb2); have HR42 := hI (HR4.out.below hb2); clear ho2 hb2)
  go_upto_region 9 with (go_at_call 11; refine (HR2.out _ Hb2.out).mono ?_; rintro e5 w3 ⟨v3, rfl, ⟨o3, rfl, ho3⟩, hb3⟩; obtain ⟨pa, pc, rfl, -, -⟩ := ho3.open; have Ho3 := hI ho3.vs; have Ho23 := hI (Ho2.out.mono hb3); have Hb3 := hI (bw_via Hb2.out hb3); have HR43 := hI (HR42.out.below hb3); clear ho3 hb3)
  go_wp2_with (go_at_call 12; refine (HGn.out _ _ _ Ho23.out Ho3.out (HTb.out.mono Hb3.out)).mono ?_; rintro e5 w7 ⟨v7, rfl, ⟨cv7, rfl, hv7⟩, hb7⟩; obtain ⟨ma, mc, na, nc, rfl, hl7, hr7⟩ := hv7.open; obtain ⟨p1, p2, p3⟩ := cone_put (HR43.out.below hb7) (.int .i64 (c2.dim : Int)) (.slice ma c2.lines.length mc) (.slice na c2.rays.length nc); have Hp1 := hI p1; have Hl9 := hI (hl7.keep p2 (by decide) (by decide)); have Hr9 := hI (hr7.keep p2 (by decide) (by decide)); have Hb9 := hI (p3 w.heap.size w (Nat.le_refl _) (bw_via Hb3.out hb7)); obtain ⟨⟨G0, G1, G2⟩, F0, F1, F2⟩ := blk3c (HR43.out.below hb7); clear hv7 hl7 hr7 hb7 p1 p2 p3)
  obtain ⟨⟨E0, E1, E2⟩, -⟩ := blk3c Hp1.out
  exact bodyPost_ret (v := .tuple #[.agg #[.int .i64 (c2.dim : Int), .slice ma c2.lines.length mc, .slice na c2.rays.length nc], .int .i64 0]) (by simp [results, Tryz.results5, go_sem, E0, E1, E2]) rfl ⟨_, rfl, ⟨_, rfl, ma, _, mc, na, _, nc, rfl, Hl9.out, Hr9.out⟩, Hb9.out⟩
set_option maxHeartbeats 4000000 in
set_option maxRecDepth 10000 in
theorem gen_lim1 (d n c : Nat) (a : Option Addr) (v : Value) (w : World) (hd1 : 1 ≤ d) (hd : d ≤ 8) (hl : 24 < n) (hn : n ≤ 1000) :
    Calls Tryz.prog 5 #[.int .i64 (d : Int), .slice a n c, v] w (RetP (fun x w' => ∃ cv, x = .tuple #[cv, .int .i64 6] ∧ CV w' cv ⟨0, [], []⟩) w) := by
  have hA := below1 w (.cells #[.int .i64 0, .slice none 0 0, .slice none 0 0] 27)
  have HR1 := hI (fun w' => read_lim a c d n 24 w' hl hn)
  have HR4 := hI (Blk.new w #[.int .i64 0, .slice none 0 0, .slice none 0 0] 27)
  have Hb1 := hI hA
  have h1 : ¬ (d : Int) < 1 := by omega
  have h2 : ¬ (8 : Int) < (d : Int) := by omega
  have h1b : decide ((d : Int) < 1) = false := decide_eq_false h1
  have h2b : decide ((8 : Int) < (d : Int)) = false := decide_eq_false h2
  clear hA
  go_enter Tryz.func5, Tryz.ntmps5
  go_upto_region 1 with (fail)
  generalize w.alloc (.cells #[.int .i64 0, .slice none 0 0, .slice none 0 0] 27) = w1 at *
  go_wp2_with (go_at_call 11; refine (HR1.out _).mono ?_; rintro e5 w2 ⟨rfl, hb2⟩; obtain ⟨p1, p2, p3⟩ := cone_put (HR4.out.below hb2) (.int .i64 0) (.slice none 0 0) (.slice none 0 0); have Hp1 := hI p1; have Hb9 := hI (p3 w.heap.size w (Nat.le_refl _) (bw_via Hb1.out hb2)); obtain ⟨⟨G0, G1, G2⟩, F0, F1, F2⟩ := blk3c (HR4.out.below hb2); clear hb2 p1 p2 p3)
  obtain ⟨⟨E0, E1, E2⟩, -⟩ := blk3c Hp1.out
  exact bodyPost_ret (v := .tuple #[.agg #[.int .i64 0, .slice none 0 0, .slice none 0 0], .int .i64 6]) (by simp [results, Tryz.results5, go_sem, E0, E1, E2]) rfl ⟨_, rfl, ⟨_, rfl, cv_zero _⟩, Hb9.out⟩
set_option maxHeartbeats 4000000 in
set_option maxRecDepth 10000 in
theorem gen_lim2 (d n c : Nat) (a : Option Addr) (ls : List Vec) (u : Value) (w : World) (hu : TVs w u ls) (hd1 : 1 ≤ d) (hd : d ≤ 8) (hl : ls.length ≤ 24) (fl : ∀ a ∈ ls, FitV d a) (hn : 256 < n) (hn2 : n ≤ 1000) :
    Calls Tryz.prog 5 #[.int .i64 (d : Int), u, .slice a n c] w (RetP (fun x w' => ∃ cv, x = .tuple #[cv, .int .i64 6] ∧ CV w' cv ⟨0, [], []⟩) w) := by
  have hA := below1 w (.cells #[.int .i64 0, .slice none 0 0, .slice none 0 0] 27)
  have HR1 := hI (fun w' (hb : Below w.heap.size w w') => read_ok u ls d ls.length 24 w' (hu.mono hb) rfl hl (by omega) (by omega) fl)
  have HR2 := hI (fun w' => read_lim a c d n 256 w' hn hn2)
  have HR4 := hI (Blk.new w #[.int .i64 0, .slice none 0 0, .slice none 0 0] 27)
  have Hb1 := hI hA
  obtain ⟨la, lc, rfl, -, -⟩ := hu.open
  have h1 : ¬ (d : Int) < 1 := by omega
  have h2 : ¬ (8 : Int) < (d : Int) := by omega
  have h1b : decide ((d : Int) < 1) = false := decide_eq_false h1
  have h2b : decide ((8 : Int) < (d : Int)) = false := decide_eq_false h2
  clear hu fl hA
  go_enter Tryz.func5, Tryz.ntmps5
  go_upto_region 1 with (fail)
  generalize w.alloc (.cells #[.int .i64 0, .slice none 0 0, .slice none 0 0] 27) = w1 at *
  go_upto_region 6 with (go_at_call 11; refine (HR1.out _ Hb1.out).mono ?_; rintro e5 w2 ⟨v2, rfl, ⟨o2, rfl, ho2⟩, hb2⟩; obtain ⟨oa, oc, rfl, -, -⟩ := ho2.open; have Hb2 := hI (bw_via Hb1.out hb2); have HR42 := hI (HR4.out.below hb2); clear ho2 hb2)
  go_wp2_with (go_at_call 11; refine (HR2.out _).mono ?_; rintro e5 w3 ⟨rfl, hb2⟩; obtain ⟨p1, p2, p3⟩ := cone_put (HR42.out.below hb2) (.int .i64 0) (.slice none 0 0) (.slice none 0 0); have Hp1 := hI p1; have Hb9 := hI (p3 w.heap.size w (Nat.le_refl _) (bw_via Hb2.out hb2)); obtain ⟨⟨G0, G1, G2⟩, F0, F1, F2⟩ := blk3c (HR42.out.below hb2); clear hb2 p1 p2 p3)
  obtain ⟨⟨E0, E1, E2⟩, -⟩ := blk3c Hp1.out
  exact bodyPost_ret (v := .tuple #[.agg #[.int .i64 0, .slice none 0 0, .slice none 0 0], .int .i64 6]) (by simp [results, Tryz.results5, go_sem, E0, E1, E2]) rfl ⟨_, rfl, ⟨_, rfl, cv_zero _⟩, Hb9.out⟩
set_option maxHeartbeats 4000000 in
set_option maxRecDepth 10000 in
theorem rows_ok (d : Nat) (rs : List Vec) (v : Value) (w : World) (hv : TVs w v rs) (hd1 : 1 ≤ d) (hd : d ≤ 8) (hr : rs.length ≤ 24) (fr : ∀ a ∈ rs, FitV d a) (hC : FitC d [] rs) (hN : FitN d [] rs) (hT : Tab w) :
    Calls Tryz.prog 6 #[.int .i64 (d : Int), v] w (RetP (fun x w' => ∃ cv, x = .tuple #[cv, .int .i64 0] ∧ CV w' cv (boundedC d [] rs)) w) := by
  have hA := below1 w (.cells #[.int .i64 0, .slice none 0 0, .slice none 0 0] 27)
  have HR1 := hI (fun w' (hb : Below w.heap.size w w') => read_ok v rs d rs.length 24 w' (hv.mono hb) rfl hr (by omega) (by omega) fr)
  have HGn := hI (fun w' y (hy : Vs w' y rs) (ht : Tab w') => dual_g d [] rs (.slice none 0 0) y w' (Vs.nil w') hy hd hC hN ht)
  have HR4 := hI (Blk.new w #[.int .i64 0, .slice none 0 0, .slice none 0 0] 27)
  have Hb1 := hI hA
  have HTb := hI hT
  obtain ⟨ya, yc, rfl, -, -⟩ := hv.open
  obtain ⟨c2, hc2⟩ : ∃ c, boundedC d [] rs = c := ⟨_, rfl⟩
  rw [hc2] at HGn ⊢
  have h1 : ¬ (d : Int) < 1 := by omega
  have h2 : ¬ (8 : Int) < (d : Int) := by omega
  have h1b : decide ((d : Int) < 1) = false := decide_eq_false h1
  have h2b : decide ((8 : Int) < (d : Int)) = false := decide_eq_false h2
  clear hv fr hC hN hT hA hc2
  go_enter Tryz.func6, Tryz.ntmps6
  go_upto_region 1 with (fail)
  generalize w.alloc (.cells #[.int .i64 0, .slice none 0 0, .slice none 0 0] 27) = w1 at *
  go_upto_region 6 with (go_at_call 11; refine (HR1.out _ Hb1.out).mono ?_; rintro e5 w2 ⟨v2, rfl, ⟨o2, rfl, ho2⟩, hb2⟩; obtain ⟨oa, oc, rfl, -, -⟩ := ho2.open; have Ho2 := hI ho2.vs; have Hb2 := hI (bw_via Hb1.out hb2); have HR42 := hI (HR4.out.below hb2); clear ho2 hb2)
  go_wp2_with (go_at_call 13; refine (HGn.out _ _ Ho2.out (HTb.out.mono Hb2.out)).mono ?_; rintro e5 w7 ⟨v7, rfl, ⟨cv7, rfl, hv7⟩, hb7⟩; obtain ⟨ma, mc, na, nc, rfl, hl7, hr7⟩ := hv7.open; obtain ⟨p1, p2, p3⟩ := cone_put (HR42.out.below hb7) (.int .i64 (c2.dim : Int)) (.slice ma c2.lines.length mc) (.slice na c2.rays.length nc); have Hp1 := hI p1; have Hl9 := hI (hl7.keep p2 (by decide) (by decide)); have Hr9 := hI (hr7.keep p2 (by decide) (by decide)); have Hb9 := hI (p3 w.heap.size w (Nat.le_refl _) (bw_via Hb2.out hb7)); obtain ⟨⟨G0, G1, G2⟩, F0, F1, F2⟩ := blk3c (HR42.out.below hb7); clear hv7 hl7 hr7 hb7 p1 p2 p3)
  obtain ⟨⟨E0, E1, E2⟩, -⟩ := blk3c Hp1.out
  exact bodyPost_ret (v := .tuple #[.agg #[.int .i64 (c2.dim : Int), .slice ma c2.lines.length mc, .slice na c2.rays.length nc], .int .i64 0]) (by simp [results, Tryz.results6, go_sem, E0, E1, E2]) rfl ⟨_, rfl, ⟨_, rfl, ma, _, mc, na, _, nc, rfl, Hl9.out, Hr9.out⟩, Hb9.out⟩
set_option maxHeartbeats 4000000 in
set_option maxRecDepth 10000 in
theorem rows_lim (d n c : Nat) (a : Option Addr) (w : World) (hd1 : 1 ≤ d) (hd : d ≤ 8) (hl : 24 < n) (hn : n ≤ 1000) :
    Calls Tryz.prog 6 #[.int .i64 (d : Int), .slice a n c] w (RetP (fun x w' => ∃ cv, x = .tuple #[cv, .int .i64 6] ∧ CV w' cv ⟨0, [], []⟩) w) := by
  have hA := below1 w (.cells #[.int .i64 0, .slice none 0 0, .slice none 0 0] 27)
  have HR1 := hI (fun w' => read_lim a c d n 24 w' hl hn)
  have HR4 := hI (Blk.new w #[.int .i64 0, .slice none 0 0, .slice none 0 0] 27)
  have Hb1 := hI hA
  have h1 : ¬ (d : Int) < 1 := by omega
  have h2 : ¬ (8 : Int) < (d : Int) := by omega
  have h1b : decide ((d : Int) < 1) = false := decide_eq_false h1
  have h2b : decide ((8 : Int) < (d : Int)) = false := decide_eq_false h2
  clear hA
  go_enter Tryz.func6, Tryz.ntmps6
  go_upto_region 1 with (fail)
  generalize w.alloc (.cells #[.int .i64 0, .slice none 0 0, .slice none 0 0] 27) = w1 at *
  go_wp2_with (go_at_call 11; refine (HR1.out _).mono ?_; rintro e5 w2 ⟨rfl, hb2⟩; obtain ⟨p1, p2, p3⟩ := cone_put (HR4.out.below hb2) (.int .i64 0) (.slice none 0 0) (.slice none 0 0); have Hp1 := hI p1; have Hb9 := hI (p3 w.heap.size w (Nat.le_refl _) (bw_via Hb1.out hb2)); obtain ⟨⟨G0, G1, G2⟩, F0, F1, F2⟩ := blk3c (HR4.out.below hb2); clear hb2 p1 p2 p3)
  obtain ⟨⟨E0, E1, E2⟩, -⟩ := blk3c Hp1.out
  exact bodyPost_ret (v := .tuple #[.agg #[.int .i64 0, .slice none 0 0, .slice none 0 0], .int .i64 6]) (by simp [results, Tryz.results6, go_sem, E0, E1, E2]) rfl ⟨_, rfl, ⟨_, rfl, cv_zero _⟩, Hb9.out⟩
end Go.Proofs.YtlcmhbkmpkcajaaGreatDoor
namespace Go.Proofs.YtlcmhbkmpkcajaaGreatDoor
open Go.RowKit
set_option maxHeartbeats 4000000 in
set_option maxRecDepth 10000 in
theorem seq_same (u v : Value) (rs : List Rat) (n : Nat) (w : World) (h : TV w u rs) (h' : TV w v rs) (hn : rs.length = n) (hn2 : n ≤ 1000) : Calls Tryz.prog 55 #[u, v] w (Ret (.bool true) w) := by
  obtain ⟨ad, cap, rfl, hc1, hc2⟩ := h.open
  obtain ⟨ad', cap', rfl, hc1', hc2'⟩ := h'.open
  rw [hn] at *
  unfold maxLen at hc2 hc2'
  have HX := hI h
  have HY := hI h'
  clear h h' hn
  go_enter Tryz.func55, Tryz.ntmps55
  go_wp2_with fail
  go_loopw [13] (fun i wr => ∃ k : Nat, k ≤ n ∧ i = .int .i64 (k : Int) ∧ Below w.heap.size w wr) (fun i _ => n - (intOf i).toNat)
  case atStart => exact ⟨0, by omega, rfl, Below.refl _ _⟩
  case round =>
    obtain ⟨k, hk, rfl, hbx⟩ := hrel
    have Hbx := hI hbx
    have hk0 : (0 : Int) ≤ (k : Int) := Int.natCast_nonneg _
    rcases Nat.lt_or_ge k n with hlt | hge
    · obtain ⟨b1, o1, r, rfl, hr, c1⟩ := HX.out.at hbx hlt
      obtain ⟨b2, o2, r', rfl, hr', c2⟩ := HY.out.at hbx hlt
      rw [hr, Option.some.injEq] at hr'
      subst hr'
      have hkn : (k : Int) < (n : Int) := by omega
      have hkw : IntKind.i64.wrap ((k : Int) + 1) = (k : Int) + 1 := IntWalk.i64_in _ (by omega)
      generalize numS r = s at *
      have HS := hI (fun w' (hb : Below wr.heap.size wr w') => show (fun w' => w'.cell? ⟨b1, o1 + k, none⟩ = some (.string s) ∧ w'.cell? ⟨b2, o2 + k, none⟩ = some (.string s)) w' from ⟨cell_keep hb c1, cell_keep hb c2⟩)
      clear hr c1 c2 hbx
      go_wp2_with fail
      refine wp_region_held_drew (S := (fun w' => w'.cell? ⟨b1, o1 + k, none⟩ = some (.string s) ∧ w'.cell? ⟨b2, o2 + k, none⟩ = some (.string s))) (by kernel_rfl) (by exact (HS.out _ ((Below.refl _ _).drew))) (fun hHeld => ?_)
      refine' tk 0 ?_; (try simp only [tkS]); refine' tk 1 ?_; (try simp only [tkS]); refine' tk 2 ?_; (try simp only [tkS]); refine' tk 3 ?_; (try simp only [tkS]); refine' tk 4 ?_; (try simp only [tkS]); refine' tk 5 ?_; (try simp only [tkS]); refine' tk 6 ?_; (try simp only [tkS]); refine' tk 7 ?_; (try simp only [tkS]); refine' tk 8 ?_; (try simp only [tkS])
      refine tkD ?_ _
      go_wp2_with fail
      go_roundw
      case rel => exact ⟨k + 1, by omega, by go_num, Hbx.out.drew⟩
      case measure => simp [intOf] <;> omega
    · obtain rfl : k = n := by omega
      have hkn : ¬ (k : Int) < (k : Int) := by omega
      clear hbx
      go_wp2_with fail
      go_ret
      exact Ret.mk Hbx.out
set_option maxHeartbeats 1000000 in
theorem eq11_same (u v : Value) (rs : List Rat) (n : Nat) (w : World) (h : TV w u rs) (h' : TV w v rs) (hn : rs.length = n) (hn2 : n ≤ 1000) : Calls Tryz.prog 54 #[u, v] w (Ret (.bool true) w) := by
  have HC := hI (seq_same u v rs n w h h' hn hn2)
  obtain ⟨ad, cap, rfl, -, -⟩ := h.open
  obtain ⟨ad', cap', rfl, -, -⟩ := h'.open
  clear h h' hn
  go_enter Tryz.func54, Tryz.ntmps54
  go_wp2_with (go_at_call 55; refine (HC.out).mono ?_; rintro e5 w5 ⟨rfl, hb5⟩; have Hb5 := hI hb5; clear hb5)
  go_ret
  exact Ret.mk Hb5.out
set_option maxHeartbeats 4000000 in
set_option maxRecDepth 10000 in
theorem eqf_same (u v : Value) (vs : List (List Rat)) (n : Nat) (w : World) (h : TVs w u vs) (h' : TVs w v vs) (hn : vs.length = n) (hn2 : n ≤ 1000) (hl : ∀ a ∈ vs, a.length ≤ 1000) :
    Calls Tryz.prog 53 #[u, v, .func (.func 54) #[] #[]] w (Ret (.bool true) w) := by
  have HC := hI (fun k a (ha : vs[k]? = some a) w' p q (hp : TV w' p a) (hq : TV w' q a) => eq11_same p q a a.length w' hp hq rfl (hl a (List.mem_of_getElem? ha)))
  obtain ⟨ad, cap, rfl, hc1, hc2⟩ := h.open
  obtain ⟨ad', cap', rfl, hc1', hc2'⟩ := h'.open
  rw [hn] at h h' hc1 hc1' ⊢
  unfold maxLen at hc2 hc2'
  have HX := hI h
  have HY := hI h'
  clear h h' hn hl
  go_enter Tryz.func53, Tryz.ntmps53
  go_wp2_with fail
  go_loopw [17] (fun i wr => ∃ k : Nat, k ≤ n ∧ i = .int .i64 (k : Int) ∧ Below w.heap.size w wr) (fun i _ => n - (intOf i).toNat)
  case atStart => exact ⟨0, by omega, rfl, Below.refl _ _⟩
  case round =>
    obtain ⟨k, hk, rfl, hbx⟩ := hrel
    have Hbx := hI hbx
    have hk0 : (0 : Int) ≤ (k : Int) := Int.natCast_nonneg _
    rcases Nat.lt_or_ge k n with hlt | hge
    · obtain ⟨b1, o1, p, a, rfl, ha, c1, hp⟩ := HX.out.at hbx hlt
      obtain ⟨b2, o2, q, a', rfl, ha', c2, hq⟩ := HY.out.at hbx hlt
      rw [ha, Option.some.injEq] at ha'
      subst ha'
      have hkn : (k : Int) < (n : Int) := by omega
      have hkw : IntKind.i64.wrap ((k : Int) + 1) = (k : Int) + 1 := IntWalk.i64_in _ (by omega)
      have HCx := hI (HC.out k a ha wr _ _ hp hq)
      obtain ⟨pa, pc, rfl, -, -⟩ := hp.open
      obtain ⟨qa, qc, rfl, -, -⟩ := hq.open
      clear ha hp hq hbx
      go_wp2_with (go_at_call 54; refine (HCx.out).mono ?_; rintro e5 w5 ⟨rfl, hb5⟩; have Hb5 := hI (bw_via Hbx.out hb5); clear hb5)
      go_roundw
      case rel => exact ⟨k + 1, by omega, by go_num, Hb5.out⟩
      case measure => simp [intOf] <;> omega
    · obtain rfl : k = n := by omega
      have hkn : ¬ (k : Int) < (k : Int) := by omega
      clear hbx
      go_wp2_with fail
      go_ret
      exact Ret.mk Hbx.out
set_option maxHeartbeats 1000000 in
theorem eq1_same (u v : Value) (vs : List (List Rat)) (n : Nat) (w : World) (h : TVs w u vs) (h' : TVs w v vs) (hn : vs.length = n) (hn2 : n ≤ 1000) (hl : ∀ a ∈ vs, a.length ≤ 1000) : Calls Tryz.prog 52 #[u, v] w (Ret (.bool true) w) := by
  have HC := hI (eqf_same u v vs n w h h' hn hn2 hl)
  obtain ⟨ad, cap, rfl, -, -⟩ := h.open
  obtain ⟨ad', cap', rfl, -, -⟩ := h'.open
  clear h h' hn hl
  go_enter Tryz.func52, Tryz.ntmps52
  go_wp2_with (go_at_call 53; refine (HC.out).mono ?_; rintro e5 w5 ⟨rfl, hb5⟩; have Hb5 := hI hb5; clear hb5)
  go_ret
  exact Ret.mk Hb5.out
set_option maxHeartbeats 2000000 in
theorem equal_same (u v : Value) (c : Con) (w : World) (h : CV w u c) (h' : CV w v c) (hl : c.lines.length ≤ 1000 ∧ ∀ a ∈ c.lines, a.length ≤ 1000) (hr : c.rays.length ≤ 1000 ∧ ∀ a ∈ c.rays, a.length ≤ 1000) : Calls Tryz.prog 31 #[u, v] w (Ret (.bool true) w) := by
  obtain ⟨la, lc, ra, rc, rfl, h1, h2⟩ := h.open
  obtain ⟨la', lc', ra', rc', rfl, h1', h2'⟩ := h'.open
  have hA := below2 w (.cells #[.int .i64 (c.dim : Int), .slice la c.lines.length lc, .slice ra c.rays.length rc] 27) (.cells #[.int .i64 (c.dim : Int), .slice la' c.lines.length lc', .slice ra' c.rays.length rc'] 27)
  have HE1 := hI (fun w' (hb : Below w.heap.size w w') => eq1_same _ _ c.lines c.lines.length w' (h1.mono hb) (h1'.mono hb) rfl hl.1 hl.2)
  have HE2 := hI (fun w' (hb : Below w.heap.size w w') => eq1_same _ _ c.rays c.rays.length w' (h2.mono hb) (h2'.mono hb) rfl hr.1 hr.2)
  have HB1 := hI (show Blk ((w.alloc (.cells #[.int .i64 (c.dim : Int), .slice la c.lines.length lc, .slice ra c.rays.length rc] 27)).alloc (.cells #[.int .i64 (c.dim : Int), .slice la' c.lines.length lc', .slice ra' c.rays.length rc'] 27)) w.heap.size #[.int .i64 (c.dim : Int), .slice la c.lines.length lc, .slice ra c.rays.length rc] 27 from (Blk.new w _ _).old _)
  have HB2 := hI (show Blk ((w.alloc (.cells #[.int .i64 (c.dim : Int), .slice la c.lines.length lc, .slice ra c.rays.length rc] 27)).alloc (.cells #[.int .i64 (c.dim : Int), .slice la' c.lines.length lc', .slice ra' c.rays.length rc'] 27)) (w.heap.size + 1) #[.int .i64 (c.dim : Int), .slice la' c.lines.length lc', .slice ra' c.rays.length rc'] 27 from by
    have h := Blk.new (w.alloc (.cells #[.int .i64 (c.dim : Int), .slice la c.lines.length lc, .slice ra c.rays.length rc] 27)) #[.int .i64 (c.dim : Int), .slice la' c.lines.length lc', .slice ra' c.rays.length rc'] 27
    simpa using h)
  have Hb1 := hI hA
  clear h h' h1 h2 h1' h2' hA hl hr
  go_enter Tryz.func31, Tryz.ntmps31
  go_upto_region 1 with (fail)
  generalize (w.alloc (.cells #[.int .i64 (c.dim : Int), .slice la c.lines.length lc, .slice ra c.rays.length rc] 27)).alloc (.cells #[.int .i64 (c.dim : Int), .slice la' c.lines.length lc', .slice ra' c.rays.length rc'] 27) = w1 at *
  have HS := hI (fun w' (hb : Below w1.heap.size w1 w') => show (fun w' => w'.cell? ⟨w.heap.size, 0, none⟩ = some (.int .i64 (c.dim : Int)) ∧ w'.cell? ⟨w.heap.size, 1, none⟩ = some (.slice la c.lines.length lc) ∧ w'.cell? ⟨w.heap.size, 2, none⟩ = some (.slice ra c.rays.length rc) ∧ w'.cell? ⟨w.heap.size + 1, 0, none⟩ = some (.int .i64 (c.dim : Int)) ∧ w'.cell? ⟨w.heap.size + 1, 1, none⟩ = some (.slice la' c.lines.length lc') ∧ w'.cell? ⟨w.heap.size + 1, 2, none⟩ = some (.slice ra' c.rays.length rc')) w' from by
    obtain ⟨⟨a0, a1, a2⟩, -⟩ := blk3c (HB1.out.below hb)
    obtain ⟨⟨b0, b1, b2⟩, -⟩ := blk3c (HB2.out.below hb)
    exact ⟨a0, a1, a2, b0, b1, b2⟩)
  obtain ⟨a0, a1, a2, b0, b1, b2⟩ := HS.out w1 (Below.refl _ _)
  go_wp2_with (first
    | (go_at_call 52; have _t := Hb41; clear _t; refine (HE2.out _ (bw_via Hb1.out Hb41.out)).mono ?_; rintro e5 w42 ⟨rfl, hb42⟩; have Hb42 := hI (bw_via Hb41.out hb42); clear hb42 a0 a1 a2 b0 b1 b2; obtain ⟨a0, a1, a2, b0, b1, b2⟩ := HS.out _ Hb42.out)
    | (go_at_call 52; refine (HE1.out _ Hb1.out).mono ?_; rintro e5 w41 ⟨rfl, hb41⟩; have Hb41 := hI hb41; clear hb41 a0 a1 a2 b0 b1 b2; obtain ⟨a0, a1, a2, b0, b1, b2⟩ := HS.out _ Hb41.out))
  go_ret
  exact Ret.mk (bw_via Hb1.out Hb42.out)
end Go.Proofs.YtlcmhbkmpkcajaaGreatDoor
namespace Go.Proofs.YtlcmhbkmpkcajaaGreatDoor
open Go.RowKit
theorem CV.mk {w : World} {c : Con} {la lc ra rc} (h1 : TVs w (.slice la c.lines.length lc) c.lines) (h2 : TVs w (.slice ra c.rays.length rc) c.rays) : CV w (.agg #[.int .i64 (c.dim : Int), .slice la c.lines.length lc, .slice ra c.rays.length rc]) c := ⟨la, _, lc, ra, _, rc, rfl, h1, h2⟩
set_option maxHeartbeats 8000000 in
set_option maxRecDepth 10000 in
theorem checked_g (d : Nat) (c : Con) (v : Value) (w : World) (h : CV w v c) (hcd : c.dim = d) (hd1 : 1 ≤ d) (hd : d ≤ 8) (hl : c.lines.length ≤ 8) (hr : c.rays.length ≤ 256) (fl : ∀ a ∈ c.lines, FitV d a) (fr : ∀ a ∈ c.rays, FitV d a)
    (hC : FitC d c.lines c.rays) (hN : FitN d c.lines c.rays) (D : Con) (hD : boundedC d c.lines c.rays = D) (hC2 : FitC d D.lines D.rays) (hN2 : FitN d D.lines D.rays) (hB : boundedC d D.lines D.rays = c) (hT : Tab w) :
    Calls Tryz.prog 21 #[v] w (RetP (fun x w' => ∃ cv, x = .tuple #[cv, .int .i64 0] ∧ CV w' cv D) w) := by
  have hfit := bounded_fit hC
  have hrl := bounded_rays hN
  have hll := hN2.2.2
  rw [rowsOf_len] at hll
  rw [hD] at hfit hrl
  obtain ⟨la, lc, ra, rc, rfl, hvl, hvr⟩ := h.open
  have hA := below2 w (.cells #[.int .i64 (c.dim : Int), .slice la c.lines.length lc, .slice ra c.rays.length rc] 27) (.cells #[.int .i64 0, .slice none 0 0, .slice none 0 0] 27)
  have HR1 := hI (fun w' (hb : Below w.heap.size w w') => read_ok _ c.lines d c.lines.length 8 w' (hvl.mono hb) rfl hl (by omega) (by omega) fl)
  have HR2 := hI (fun w' (hb : Below w.heap.size w w') => read_ok _ c.rays d c.rays.length 256 w' (hvr.mono hb) rfl hr (by omega) (by omega) fr)
  have HDu := hI (fun w' x y (hx : Vs w' x c.lines) (hy : Vs w' y c.rays) (ht : Tab w') => dual_g d c.lines c.rays x y w' hx hy hd hC hN ht)
  rw [hD] at HDu
  have HBo := hI (fun w' u v (hu : Vs w' u D.lines) (hv : Vs w' v D.rays) (ht : Tab w') => bounded_g d D.lines D.rays u v w' hu hv hd hC2 hN2 ht)
  rw [hB] at HBo
  have HEq := hI (fun w' u (hu : CV w' u c) (hb : Below w.heap.size w w') => equal_same (.agg #[.int .i64 (c.dim : Int), .slice la c.lines.length lc, .slice ra c.rays.length rc]) u c w' (CV.mk (hvl.mono hb) (hvr.mono hb)) hu ⟨by omega, fun a ha => by have := (fl a ha).1; omega⟩ ⟨by omega, fun a ha => by have := (fr a ha).1; omega⟩)
  have HTr := hI (fun w' u vs (hu : TVs w' u vs) (hz : ∀ v ∈ vs, FitV d v) (hn : vs.length ≤ 1000) => trusted_g u vs d vs.length w' hu rfl hn (by omega) hz)
  have Hf1 := hI hfit.1
  have Hf2 := hI hfit.2
  have HB1 := hI (show Blk ((w.alloc (.cells #[.int .i64 (c.dim : Int), .slice la c.lines.length lc, .slice ra c.rays.length rc] 27)).alloc (.cells #[.int .i64 0, .slice none 0 0, .slice none 0 0] 27)) w.heap.size #[.int .i64 (c.dim : Int), .slice la c.lines.length lc, .slice ra c.rays.length rc] 27 from (Blk.new w _ _).old _)
  have HR4 := hI (show Blk ((w.alloc (.cells #[.int .i64 (c.dim : Int), .slice la c.lines.length lc, .slice ra c.rays.length rc] 27)).alloc (.cells #[.int .i64 0, .slice none 0 0, .slice none 0 0] 27)) (w.heap.size + 1) #[.int .i64 0, .slice none 0 0, .slice none 0 0] 27 from by
    have h := Blk.new (w.alloc (.cells #[.int .i64 (c.dim : Int), .slice la c.lines.length lc, .slice ra c.rays.length rc] 27)) #[.int .i64 0, .slice none 0 0, .slice none 0 0] 27
    simpa using h)
  have Hb1 := hI hA
  have HTb := hI hT
  have h1 : ¬ (d : Int) < 1 := by omega
  have h2 : ¬ (8 : Int) < (d : Int) := by omega
  have h1b : decide ((d : Int) < 1) = false := decide_eq_false h1
  have h2b : decide ((8 : Int) < (d : Int)) = false := decide_eq_false h2
  rw [hcd] at HB1 HR4 HEq Hb1
  rw [hcd]
  clear h hvl hvr fl fr hC hN hC2 hN2 hT hA hfit hcd hD hB hl hr hd1
  go_enter Tryz.func21, Tryz.ntmps21
  go_upto_region 1 with (fail)
  generalize (w.alloc (.cells #[.int .i64 (d : Int), .slice la c.lines.length lc, .slice ra c.rays.length rc] 27)).alloc (.cells #[.int .i64 0, .slice none 0 0, .slice none 0 0] 27) = w1 at *
  obtain ⟨⟨a0, a1, a2⟩, -⟩ := blk3c HB1.out
  go_upto_region 6 with (go_at_call 11; refine (HR1.out _ Hb1.out).mono ?_; rintro e5 w2 ⟨v2, rfl, ⟨o2, rfl, ho2⟩, hb2⟩; obtain ⟨oa, oc, rfl, -, -⟩ := ho2.open; have Ho2 := hI ho2.vs; have Hb2 := hI (bw_via Hb1.out hb2); have HB2 := hI (HB1.out.below hb2); have HR42 := hI (HR4.out.below hb2); clear ho2 hb2 a0 a1 a2; obtain ⟨⟨a0, a1, a2⟩, -⟩ := blk3c HB2.out)
  go_upto_region 9 with (go_at_call 11; refine (HR2.out _ Hb2.out).mono ?_; rintro e5 w3 ⟨v3, rfl, ⟨o3, rfl, ho3⟩, hb3⟩; obtain ⟨pa, pc, rfl, -, -⟩ := ho3.open; have Ho3 := hI ho3.vs; have Ho23 := hI (Ho2.out.mono hb3); have Hb3 := hI (bw_via Hb2.out hb3); have HB3 := hI (HB2.out.below hb3); have HR43 := hI (HR42.out.below hb3); clear ho3 hb3 a0 a1 a2; obtain ⟨⟨a0, a1, a2⟩, -⟩ := blk3c HB3.out)
  go_upto_region 10 with (go_at_call 13; refine (HDu.out _ _ _ Ho23.out Ho3.out (HTb.out.mono Hb3.out)).mono ?_; rintro e5 w4 ⟨v4, rfl, ⟨cv, rfl, hv4⟩, hb4⟩; obtain ⟨xa, xc, za, zc, rfl, hl4, hr4⟩ := hv4.open; have Hl4 := hI hl4; have Hr4 := hI hr4; have Hb4 := hI (bw_via Hb3.out hb4); have HB4 := hI (HB3.out.below hb4); have HR44 := hI (HR43.out.below hb4); clear hv4 hl4 hr4 hb4 a0 a1 a2)
  have hA := below1 w4 (.cells #[.int .i64 (D.dim : Int), .slice xa D.lines.length xc, .slice za D.rays.length zc] 27)
  have HB5 := hI (HB4.out.below hA)
  have HR5 := hI (HR44.out.below hA)
  have HD5 := hI (Blk.new w4 #[.int .i64 (D.dim : Int), .slice xa D.lines.length xc, .slice za D.rays.length zc] 27)
  have Hl5 := hI (Hl4.out.mono hA)
  have Hr5 := hI (Hr4.out.mono hA)
  have HbW := hI (bw_via Hb4.out hA)
  have HwD := hI (show w.heap.size + 1 < w4.heap.size from HR44.out.lt)
  clear hA
  generalize w4.alloc (.cells #[.int .i64 (D.dim : Int), .slice xa D.lines.length xc, .slice za D.rays.length zc] 27) = w5 at *
  generalize w4.heap.size = D8 at *
  have HS := hI (fun w' (hb : Below w5.heap.size w5 w') => show (fun w' => w'.cell? ⟨w.heap.size, 0, none⟩ = some (.int .i64 (d : Int)) ∧ w'.cell? ⟨w.heap.size, 1, none⟩ = some (.slice la c.lines.length lc) ∧ w'.cell? ⟨w.heap.size, 2, none⟩ = some (.slice ra c.rays.length rc) ∧ w'.cell? ⟨D8, 1, none⟩ = some (.slice xa D.lines.length xc) ∧ w'.cell? ⟨D8, 2, none⟩ = some (.slice za D.rays.length zc)) w' from by
    obtain ⟨⟨a0, a1, a2⟩, -⟩ := blk3c (HB5.out.below hb)
    obtain ⟨⟨b0, b1, b2⟩, -⟩ := blk3c (HD5.out.below hb)
    exact ⟨a0, a1, a2, b1, b2⟩)
  go_upto_region 12 with (fail)
  refine wp_region_held_drew (S := (fun w' => w'.cell? ⟨w.heap.size, 0, none⟩ = some (.int .i64 (d : Int)) ∧ w'.cell? ⟨w.heap.size, 1, none⟩ = some (.slice la c.lines.length lc) ∧ w'.cell? ⟨w.heap.size, 2, none⟩ = some (.slice ra c.rays.length rc) ∧ w'.cell? ⟨D8, 1, none⟩ = some (.slice xa D.lines.length xc) ∧ w'.cell? ⟨D8, 2, none⟩ = some (.slice za D.rays.length zc))) (by kernel_rfl) (by exact (HS.out _ ((Below.refl _ _).drew))) (fun hHeld => ?_)
  refine' tk 0 ?_; (try simp only [tkS]); refine' tk 1 ?_; (try simp only [tkS]); refine' tk 2 ?_; (try simp only [tkS]); refine' tk 3 ?_; (try simp only [tkS]); refine' tk 4 ?_; (try simp only [tkS]); refine' tk 6 ?_; (try simp only [tkS]); refine' tk 7 ?_; (try simp only [tkS])
  refine tk1 5 (fun K hK => ?_)
  go_simp
  go_at_call 19
  refine (HTr.out _ _ _ (Hl5.out.mono ((Below.refl _ _).drew)) Hf1.out (by omega)).mono ?_
  rintro e5 w5 ⟨v5, rfl, hv5, hb5⟩
  have Hb5 := hI (bw_via ((Below.refl _ _).drew) hb5)
  obtain ⟨pa5, pc5, rfl, -, -⟩ := hv5.open
  have Hv5 := hI hv5.vs
  clear hv5 hb5
  refine hK.out _ _ (by exact (HS.out _ (Hb5.out))) (fun hHeld => ?_)
  clear hK K; (try simp only [tkS])
  refine tk1 8 (fun K hK => ?_)
  go_simp
  go_at_call 19
  refine (HTr.out _ _ _ (Hr5.out.mono (Hb5.out)) Hf2.out (by omega)).mono ?_
  rintro e5 w8 ⟨v8, rfl, hv8, hb8⟩
  have Hb8 := hI (bw_via (Hb5.out) hb8)
  have Hv5 := hI (Hv5.out.mono hb8)
  obtain ⟨pa8, pc8, rfl, -, -⟩ := hv8.open
  have Hv8 := hI hv8.vs
  clear hv8 hb8
  refine hK.out _ _ (by exact (HS.out _ (Hb8.out))) (fun hHeld => ?_)
  clear hK K; (try simp only [tkS])
  refine tk1 9 (fun K hK => ?_)
  go_simp
  go_at_call 20
  refine (HBo.out _ _ _ Hv5.out Hv8.out (HTb.out.mono (bw_via HbW.out (Hb8.out)))).mono ?_
  rintro e5 w9 ⟨v9, rfl, hv9, hb9⟩
  obtain ⟨ma, mc, na, nc, rfl, hl9, hr9⟩ := hv9.open
  have Hv9 := hI hv9
  have HbB := hI (bw_via (Hb8.out) hb9)
  clear hl9 hr9 hv9 hb9
  refine hK.out _ _ (by exact (HS.out _ (HbB.out))) (fun hHeld => ?_)
  clear hK K; (try simp only [tkS])
  refine tk1 10 (fun K hK => ?_)
  go_simp
  go_at_call 31
  refine (HEq.out _ _ Hv9.out (bw_via HbW.out (HbB.out))).mono ?_
  rintro e5 w10 ⟨rfl, hb10⟩
  have HbE := hI (bw_via (HbB.out) hb10)
  clear hb10
  refine hK.out _ _ (by exact (HS.out _ (HbE.out))) (fun hHeld => ?_)
  clear hK K; (try simp only [tkS])
  refine' tk 11 ?_; (try simp only [tkS])
  refine tkD ?_ _
  obtain ⟨p1, p2, p3⟩ := cone_put (HR5.out.below HbE.out) (.int .i64 (D.dim : Int)) (.slice xa D.lines.length xc) (.slice za D.rays.length zc)
  have Hp1 := hI p1
  have Hl9 := hI ((Hl5.out.mono HbE.out).keep p2 (by decide) (by decide))
  have Hr9 := hI ((Hr5.out.mono HbE.out).keep p2 (by decide) (by decide))
  have Hb9 := hI (p3 w.heap.size w (Nat.le_succ _) (bw_via HbW.out HbE.out))
  clear p1 p2 p3
  obtain ⟨⟨G0, G1, G2⟩, F0, F1, F2⟩ := blk3c (HR5.out.below HbE.out)
  obtain ⟨⟨D0, D1, D2⟩, -⟩ := blk3c (HD5.out.below HbE.out)
  go_wp2_with fail
  obtain ⟨⟨E0, E1, E2⟩, -⟩ := blk3c Hp1.out
  exact bodyPost_ret (v := .tuple #[.agg #[.int .i64 (D.dim : Int), .slice xa D.lines.length xc, .slice za D.rays.length zc], .int .i64 0]) (by simp [results, Tryz.results21, go_sem, E0, E1, E2]) rfl ⟨_, rfl, ⟨_, rfl, CV.mk Hl9.out Hr9.out⟩, Hb9.out⟩
end Go.Proofs.YtlcmhbkmpkcajaaGreatDoor
