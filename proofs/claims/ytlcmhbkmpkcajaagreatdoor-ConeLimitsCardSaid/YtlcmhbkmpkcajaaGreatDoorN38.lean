/-
  Parts of the proof: Qas, Qrf, Qsv.
-/
import Derived.Test.YtlcmhbkmpkcajaaGreatDoorN37
namespace Go.Proofs.YtlcmhbkmpkcajaaGreatDoor
open Go.RowKit
theorem Sl.lit {w : World} {b : Nat} {T : TypeId} {xs : List Value} {cs : Array Value} (h : Blk w b cs T) (hcs : cs = xs.toArray) (hn : xs.length ≤ 1000) : Sl w 1 (.slice (some ⟨b, 0, none⟩) xs.length xs.length) (xs.map c1) ∧ AT w T (.slice (some ⟨b, 0, none⟩) xs.length xs.length) := by
  subst hcs
  refine ⟨⟨_, _, by rw [List.length_map], by rw [List.length_map]; exact Nat.le_refl _, by unfold maxLen; omega, .inr ⟨b, 0, rfl, h.lt, fun i j hi hj => ?_⟩⟩, fun p n c hv => ?_⟩
  · rw [List.length_map] at hi
    obtain rfl : j = 0 := by omega
    rw [show 0 + i * 1 + 0 = i by omega, h.cell]
    simp [c1, List.getD_eq_getElem?_getD, List.getElem?_eq_getElem hi]
  · cases hv
    exact ⟨_, h⟩
theorem TVs.one {w : World} {b : Nat} {p : Value} {a : Vec} (h : Blk w b #[p] 23) (hp : TV w p a) : TVs w (.slice (some ⟨b, 0, none⟩) 1 1) [a] := by
  obtain ⟨h1, h2⟩ := Sl.lit (xs := [p]) h rfl (by simp)
  refine ⟨[p], rfl, h1, h2, fun k p' a' h3 h4 => ?_⟩
  cases k with
  | zero => cases h3; cases h4; exact hp
  | succ k => simp at h3
theorem ov_one {M n c : Nat} {w : World} {v : Option Addr} {a : Vec} (h : OV M w (.slice v n c) [a]) : ∃ g q m k, v = some ⟨g, 0, none⟩ ∧ n = 1 ∧ M ≤ g ∧ (∃ cs T, Blk w g cs T) ∧ w.cell? ⟨g, 0, none⟩ = some (.slice q m k) ∧ QV w (.slice q m k) a := by
  obtain ⟨g, rfl⟩ := h.some (by simp)
  have hn : n = 1 := by
    obtain ⟨ps, hl, ho, hq⟩ := h
    obtain ⟨a', c', hv, -, -⟩ := own_open ho
    cases hv
    rfl
  subst hn
  obtain ⟨p, x, hx, h1, -, h2⟩ := h.cell (J := 0) (by omega)
  cases hx
  obtain ⟨q, k, rfl, -, -⟩ := h2.open
  refine ⟨g, q, _, k, rfl, rfl, ?_, ?_, h1, h2⟩
  · obtain ⟨ps, hl, ho, hq⟩ := h
    rcases ho.2 with ⟨hv, _⟩ | ⟨g', cap, cur, hv, hb, -⟩
    · cases hv
    · cases hv
      exact hb
  · obtain ⟨ps, hl, ho, hq⟩ := h
    obtain ⟨cs, hB⟩ := AT.own ho _ _ _ rfl
    exact ⟨cs, _, hB⟩
set_option maxHeartbeats 8000000 in
set_option maxRecDepth 10000 in
theorem asked_g (d : Nat) (c : Con) (v xv : Value) (x : Vec) (w : World) (h : CV w v c) (hx : TV w xv x) (fx : FitV d x) (hcd : c.dim = d) (hd1 : 1 ≤ d) (hd : d ≤ 8) (hl : c.lines.length ≤ 8) (hr : c.rays.length ≤ 256) (fl : ∀ a ∈ c.lines, FitV d a) (fr : ∀ a ∈ c.rays, FitV d a)
    (hC : FitC d c.lines c.rays) (hN : FitN d c.lines c.rays) (D : Con) (hD : boundedC d c.lines c.rays = D) (hC2 : FitC d D.lines D.rays) (hN2 : FitN d D.lines D.rays) (hB : boundedC d D.lines D.rays = c) (hT : Tab w) :
    Calls Tryz.prog 14 #[v, xv] w (RetP (fun y w' => ∃ cv q, y = .tuple #[cv, q, .int .i64 0] ∧ CV w' cv D ∧ QV w' q x) w) := by
  have HCk := hI (fun w' (hb : Below w.heap.size w w') => checked_g d c v w' (h.mono hb) hcd hd1 hd hl hr fl fr hC hN D hD hC2 hN2 hB (hT.mono hb))
  obtain ⟨la, lc, ra, rc, rfl, hvl, hvr⟩ := h.open
  obtain ⟨ya, yc, rfl, -, -⟩ := hx.open
  have hA := below2 w (.cells #[.int .i64 (c.dim : Int), .slice la c.lines.length lc, .slice ra c.rays.length rc] 27) (.cells #[.int .i64 0, .slice none 0 0, .slice none 0 0] 27)
  have HRd := hI (fun w' u (hu : TVs w' u [x]) => read_ok u [x] d 1 1 w' hu rfl (Nat.le_refl _) (by omega) (by omega) (fun a ha => by rw [List.mem_singleton.1 ha]; exact fx))
  have HB1 := hI (show Blk ((w.alloc (.cells #[.int .i64 (c.dim : Int), .slice la c.lines.length lc, .slice ra c.rays.length rc] 27)).alloc (.cells #[.int .i64 0, .slice none 0 0, .slice none 0 0] 27)) w.heap.size #[.int .i64 (c.dim : Int), .slice la c.lines.length lc, .slice ra c.rays.length rc] 27 from (Blk.new w _ _).old _)
  have HR4 := hI (show Blk ((w.alloc (.cells #[.int .i64 (c.dim : Int), .slice la c.lines.length lc, .slice ra c.rays.length rc] 27)).alloc (.cells #[.int .i64 0, .slice none 0 0, .slice none 0 0] 27)) (w.heap.size + 1) #[.int .i64 0, .slice none 0 0, .slice none 0 0] 27 from by
    have h := Blk.new (w.alloc (.cells #[.int .i64 (c.dim : Int), .slice la c.lines.length lc, .slice ra c.rays.length rc] 27)) #[.int .i64 0, .slice none 0 0, .slice none 0 0] 27
    simpa using h)
  have Hb1 := hI hA
  have HX := hI hx
  rw [hcd] at HB1 HR4 Hb1 HCk
  rw [hcd]
  clear h hx hvl hvr fl fr hC hN hC2 hN2 hT hA hcd hD hB hl hr hd1 fx
  generalize x.length = xn at *
  go_enter Tryz.func14, Tryz.ntmps14
  go_upto_region 1 with (fail)
  generalize (w.alloc (.cells #[.int .i64 (d : Int), .slice la c.lines.length lc, .slice ra c.rays.length rc] 27)).alloc (.cells #[.int .i64 0, .slice none 0 0, .slice none 0 0] 27) = w1 at *
  obtain ⟨⟨a0, a1, a2⟩, -⟩ := blk3c HB1.out
  go_upto_region 2 with (go_at_call 21; refine (HCk.out _ Hb1.out).mono ?_; rintro e5 w4 ⟨v4, rfl, ⟨cv, rfl, hv4⟩, hb4⟩; obtain ⟨xa, xc, za, zc, rfl, hl4, hr4⟩ := hv4.open; have Hl4 := hI hl4; have Hr4 := hI hr4; have Hb4 := hI (bw_via Hb1.out hb4); have HB4 := hI (HB1.out.below hb4); have HR44 := hI (HR4.out.below hb4); clear hv4 hl4 hr4 hb4 a0 a1 a2)
  have hA := below1 w4 (.cells #[.int .i64 (D.dim : Int), .slice xa D.lines.length xc, .slice za D.rays.length zc] 27)
  have HB5 := hI (HB4.out.below hA)
  have HR5 := hI (HR44.out.below hA)
  have HD5 := hI (Blk.new w4 #[.int .i64 (D.dim : Int), .slice xa D.lines.length xc, .slice za D.rays.length zc] 27)
  have Hl5 := hI (Hl4.out.mono hA)
  have Hr5 := hI (Hr4.out.mono hA)
  have HbW := hI (bw_via Hb4.out hA)
  have HwD := hI (show w.heap.size + 1 < w4.heap.size from HR44.out.lt)
  clear hA
  generalize w4.alloc (.cells #[.int .i64 (D.dim : Int), .slice xa D.lines.length xc, .slice za D.rays.length zc] 27) = w5 at *
  generalize w4.heap.size = D8 at *
  obtain ⟨⟨a0, a1, a2⟩, -⟩ := blk3c HB5.out
  have hA := below1 w5 (.cells #[.slice ya xn yc] 23)
  have HA := hI hA
  have HX5 := hI (TVs.one (Blk.new w5 #[.slice ya xn yc] 23) (HX.out.mono (bw_via HbW.out hA)))
  clear hA
  go_upto_region 7 with (go_at_call 11; refine (HRd.out _ _ HX5.out).mono ?_; rintro e5 w6 ⟨v6, rfl, ⟨o6, rfl, ho6⟩, hb6⟩; obtain ⟨oa, oc, rfl, -, -⟩ := ho6.open; obtain ⟨g, q, m, k, rfl, -, hg1, ⟨gs, gT, hgB⟩, hg2, hg3⟩ := ov_one ho6; have Hg1 := hI (show w.heap.size + 1 < g from by have h1 := HR5.out.lt; have h2 := HA.out.size; have h3 : (w5.alloc (.cells #[.slice ya xn yc] 23)).heap.size ≤ g := hg1; omega); have HgB := hI hgB; have Hg2 := hI hg2; have Hg3 := hI hg3; have Hb6 := hI (bw_via HA.out hb6); clear ho6 hb6 hg1 hgB hg2 hg3 a0 a1 a2)
  have HD6 := hI (HD5.out.below Hb6.out)
  have HR6 := hI (HR5.out.below Hb6.out)
  have HS := hI (show (fun w' => w'.cell? ⟨D8, 0, none⟩ = some (.int .i64 (D.dim : Int)) ∧ w'.cell? ⟨D8, 1, none⟩ = some (.slice xa D.lines.length xc) ∧ w'.cell? ⟨D8, 2, none⟩ = some (.slice za D.rays.length zc) ∧ w'.cell? ⟨g, 0, none⟩ = some (.slice q m k)) w6 from by
    obtain ⟨⟨b0, b1, b2⟩, -⟩ := blk3c HD6.out
    exact ⟨b0, b1, b2, Hg2.out⟩)
  obtain ⟨p1, p2, p3⟩ := cone_put HR6.out (.int .i64 (D.dim : Int)) (.slice xa D.lines.length xc) (.slice za D.rays.length zc)
  have Hp1 := hI p1
  have Hl9 := hI ((Hl5.out.mono Hb6.out).keep p2 (by decide) (by decide))
  have Hr9 := hI ((Hr5.out.mono Hb6.out).keep p2 (by decide) (by decide))
  have Hq9 := hI (Hg3.out.keep p2 (by decide) (by decide))
  have Hb9 := hI (p3 w.heap.size w (Nat.le_succ _) (bw_via HbW.out Hb6.out))
  have HS2 := hI (show (fun w' => w'.cell? ⟨D8, 0, none⟩ = some (.int .i64 (D.dim : Int)) ∧ w'.cell? ⟨D8, 1, none⟩ = some (.slice xa D.lines.length xc) ∧ w'.cell? ⟨D8, 2, none⟩ = some (.slice za D.rays.length zc) ∧ w'.cell? ⟨g, 0, none⟩ = some (.slice q m k)) (((w6.setCell ⟨w.heap.size + 1, 0, none⟩ (.int .i64 (D.dim : Int))).setCell ⟨w.heap.size + 1, 1, none⟩ (.slice xa D.lines.length xc)).setCell ⟨w.heap.size + 1, 2, none⟩ (.slice za D.rays.length zc)) from by
    obtain ⟨⟨b0, b1, b2⟩, -⟩ := blk3c (off3 HD6.out (Nat.ne_of_gt HwD.out) (.int .i64 (D.dim : Int)) (.slice xa D.lines.length xc) (.slice za D.rays.length zc))
    exact ⟨b0, b1, b2, cell_far (cell_far (cell_far Hg2.out (Nat.ne_of_lt Hg1.out)) (Nat.ne_of_lt Hg1.out)) (Nat.ne_of_lt Hg1.out)⟩)
  obtain ⟨⟨G0, G1, G2⟩, F0, F1, F2⟩ := blk3c HR6.out
  clear p1 p2 p3
  refine wp_region_held_drew (S := (fun w' => w'.cell? ⟨D8, 0, none⟩ = some (.int .i64 (D.dim : Int)) ∧ w'.cell? ⟨D8, 1, none⟩ = some (.slice xa D.lines.length xc) ∧ w'.cell? ⟨D8, 2, none⟩ = some (.slice za D.rays.length zc) ∧ w'.cell? ⟨g, 0, none⟩ = some (.slice q m k))) (by kernel_rfl) (by exact (HS.out)) (fun hHeld => ?_)
  refine' tk 0 ?_; (try simp only [tkS]); refine' tk 1 ?_; (try simp only [tkS]); refine' tk 2 ?_; (try simp only [tkS]); refine' tk 3 ?_; (try simp only [tkS])
  refine tk1 4 (fun K hK => ?_)
  go_simp
  refine hK.out _ _ (by exact (HS2.out)) (fun hHeld => ?_)
  clear hK K; (try simp only [tkS])
  refine' tk 5 ?_; (try simp only [tkS]); refine' tk 6 ?_; (try simp only [tkS])
  refine tkD ?_ _
  go_wp2_with fail
  obtain ⟨⟨E0, E1, E2⟩, -⟩ := blk3c Hp1.out
  exact bodyPost_ret (v := .tuple #[.agg #[.int .i64 (D.dim : Int), .slice xa D.lines.length xc, .slice za D.rays.length zc], .slice q m k, .int .i64 0]) (by simp [results, Tryz.results14, go_sem, E0, E1, E2]) rfl ⟨_, rfl, ⟨_, _, rfl, CV.mk (Hl9.out.mono (Below.refl _ _).drew) (Hr9.out.mono (Below.refl _ _).drew), Hq9.out.mono (Below.refl _ _).drew⟩, Hb9.out.drew⟩
end Go.Proofs.YtlcmhbkmpkcajaaGreatDoor
namespace Go.Proofs.YtlcmhbkmpkcajaaGreatDoor
open Go.RowKit
def refutesV (c : Con) (x : Vec) : Option Vec :=
  match c.lines.find? (fun l => decide (dotV l x ≠ 0)) with
  | some l => some (if 0 < (dotV l x).num then l else negV l)
  | none => c.rays.find? (fun r => decide (0 < (dotV r x).num))
def RefP (o : Option Vec) (w : World) (y : Value) : Prop := (∀ r, o = some r → QV w y r) ∧ (o = none → y = .slice none 0 0)
theorem RefP.some {w : World} {y : Value} {r : Vec} (h : QV w y r) : RefP (Option.some r) w y := ⟨fun r' e => by cases e; exact h, fun e => by cases e⟩
theorem RefP.none (w : World) : RefP Option.none w (.slice Option.none 0 0) := ⟨fun r e => (by cases e), fun _ => rfl⟩
theorem find_hit {p : Vec → Bool} : ∀ {l : List Vec} {k : Nat} {x : Vec}, (∀ y ∈ l.take k, p y = false) → l[k]? = some x → p x = true → l.find? p = some x
  | [], k, x, _, h, _ => by simp at h
  | a :: l, 0, x, _, h, hx => by
    cases h
    rw [List.find?_cons, hx]
  | a :: l, k + 1, x, ha, h, hx => by
    have h1 := ha a (by simp)
    rw [List.find?_cons, h1]
    exact find_hit (fun y hy => ha y (by rw [List.take_succ_cons]; exact List.mem_cons_of_mem _ hy)) h hx
theorem num_ne {q : Rat} (h : q.num ≠ 0) : q ≠ 0 := fun e => h (by rw [e]; rfl)
theorem ref_pos {c : Con} {x l : Vec} {k : Nat} (h : ∀ y ∈ c.lines.take k, decide (dotV y x ≠ 0) = false) (hk : c.lines[k]? = some l) (hx : 0 < (dotV l x).num) : refutesV c x = some l := by
  unfold refutesV
  rw [find_hit (p := fun l => decide (dotV l x ≠ 0)) h hk (decide_eq_true (num_ne (Int.ne_of_gt hx)))]
  simp only [hx, if_true]
theorem ref_neg {c : Con} {x l : Vec} {k : Nat} (h : ∀ y ∈ c.lines.take k, decide (dotV y x ≠ 0) = false) (hk : c.lines[k]? = some l) (hx : (dotV l x).num < 0) : refutesV c x = some (negV l) := by
  unfold refutesV
  rw [find_hit (p := fun l => decide (dotV l x ≠ 0)) h hk (decide_eq_true (num_ne (Int.ne_of_lt hx)))]
  simp only [show ¬ 0 < (dotV l x).num from by omega, if_false]
theorem ref_ray {c : Con} {x : Vec} (h : ∀ y ∈ c.lines, decide (dotV y x ≠ 0) = false) : refutesV c x = c.rays.find? (fun r => decide (0 < (dotV r x).num)) := by
  unfold refutesV
  rw [List.find?_eq_none.2 (fun y hy => by rw [h y hy]; decide)]
set_option maxHeartbeats 8000000 in
set_option maxRecDepth 10000 in
theorem refutes_g (d : Nat) (c : Con) (v xv : Value) (x : Vec) (w : World) (h : CV w v c) (hx : QV w xv x) (fx : FitV d x) (hd : d ≤ 8) (hl : c.lines.length ≤ 1000) (hr : c.rays.length ≤ 1000) (fl : ∀ a ∈ c.lines, FitV d a) (fr : ∀ a ∈ c.rays, FitV d a) :
    Calls Tryz.prog 15 #[v, xv] w (RetP (fun y w' => RefP (refutesV c x) w' y) w) := by
  have HTr := hI (fun w' u vs (hu : TVs w' u vs) (hz : ∀ v ∈ vs, FitV d v) (hn : vs.length ≤ 1000) => trusted_g u vs d vs.length w' hu rfl hn (by omega) hz)
  have HDt := hI (fun W (hb : Below w.heap.size w W) p l (hp : QV W p l) (fl : FitV d l) => dot_g p xv l x d 100 W hp (hx.mono hb) fl.1 fx.1 fl.2 fx.2 (by have := Nat.mul_le_mul_right 201 (Nat.succ_le_succ hd); omega))
  have HSg := hI (fun W v r (hv : RQ W v r) => show Calls Tryz.prog 23 #[v] W (Ret (.int .i64 r.num.sign) W) from by
    obtain ⟨q, h, -⟩ := hv
    exact rsign_any v _ q W h)
  have HNg := hI (fun W p l (hp : QV W p l) (fl : FitV d l) => neg_g p l d W hp fl.1 (by omega))
  have HF1 := hI (fun k l => ref_pos (c := c) (x := x) (l := l) (k := k))
  have HF2 := hI (fun k l => ref_neg (c := c) (x := x) (l := l) (k := k))
  have HF3 := hI (fun h => ref_ray (c := c) (x := x) h)
  have HF4 := hI (fun k l => find_hit (p := fun r => decide (0 < (dotV r x).num)) (l := c.rays) (k := k) (x := l))
  have HF5 := hI (fun (h : ∀ y ∈ c.rays, decide (0 < (dotV y x).num) = false) => show c.rays.find? (fun r => decide (0 < (dotV r x).num)) = none from List.find?_eq_none.2 (fun y hy => by rw [h y hy]; decide))
  have Hfl := hI fl
  have Hfr := hI fr
  obtain ⟨la, lc, ra, rc, rfl, hvl, hvr⟩ := h.open
  obtain ⟨ya, yc, rfl, -, -⟩ := hx.open
  have hA := below1 w (.cells #[.int .i64 (c.dim : Int), .slice la c.lines.length lc, .slice ra c.rays.length rc] 27)
  have HB1 := hI (Blk.new w #[.int .i64 (c.dim : Int), .slice la c.lines.length lc, .slice ra c.rays.length rc] 27)
  have Hb1 := hI hA
  have Hvl := hI hvl
  have Hvr := hI hvr
  clear h hx hvl hvr hA fl fr fx
  generalize x.length = xn at *
  obtain ⟨nl, hnl⟩ : ∃ n, c.lines.length = n := ⟨_, rfl⟩
  obtain ⟨nr, hnr⟩ : ∃ n, c.rays.length = n := ⟨_, rfl⟩
  have HTl := hI (fun w' (hb : Below w.heap.size w w') => HTr.out w' _ c.lines (Hvl.out.mono hb) Hfl.out hl)
  have HTy := hI (fun w' (hb : Below w.heap.size w w') => HTr.out w' _ c.rays (Hvr.out.mono hb) Hfr.out hr)
  have Hnl := hI hnl
  have Hnl2 := hI (Nat.le_of_eq hnl)
  have Hnr2 := hI (Nat.le_of_eq hnr)
  have Hnr := hI hnr
  rw [hnl] at HB1 Hb1 hl HTl
  rw [hnr] at HB1 Hb1 hr HTy
  rw [hnl, hnr]
  clear hnl hnr
  go_enter Tryz.func15, Tryz.ntmps15
  go_upto_region 1 with (fail)
  generalize w.alloc (.cells #[.int .i64 (c.dim : Int), .slice la nl lc, .slice ra nr rc] 27) = w1 at *
  obtain ⟨⟨a0, a1, a2⟩, -⟩ := blk3c HB1.out
  go_wp2_with (go_at_call 19; refine (HTl.out _ Hb1.out).mono ?_; rintro e5 w2 ⟨v2, rfl, ho2, hb2⟩; obtain ⟨oa, oc, rfl, -, -⟩ := ho2.open; have Ho2 := hI ho2.vs; have Hb2 := hI (bw_via Hb1.out hb2); have HB2 := hI (HB1.out.below hb2); clear ho2 hb2 a0 a1 a2)
  rw [Hnl.out] at Ho2 ⊢
  go_loopw [13] (fun i wr => ∃ k : Nat, k ≤ nl ∧ i = .int .i64 (k : Int) ∧ Below w2.heap.size w2 wr ∧ Hid (∀ y ∈ c.lines.take k, decide (dotV y x ≠ 0) = false)) (fun i _ => nl - (intOf i).toNat)
  case atStart => exact ⟨0, Nat.zero_le _, rfl, Below.refl _ _, by intro l hl; simp at hl⟩
  case round =>
    obtain ⟨k, hk, rfl, hbw, hpre⟩ := hrel
    have hk0 : (0 : Int) ≤ (k : Int) := Int.natCast_nonneg _
    rcases Nat.lt_or_ge k nl with hlt | hge
    · obtain ⟨b, off, p, l, rfl, hl1, c0, hp⟩ := Ho2.out.at hbw hlt
      obtain ⟨pa, pc, rfl, -, -⟩ := hp.open
      have Hbw := hI (bw_via Hb2.out hbw)
      have Hbv := hI hbw
      have HD := hI (HDt.out wr Hbw.out _ l hp (Hfl.out l (List.mem_of_getElem? hl1)))
      have HN := hI (fun w' (hb : Below wr.heap.size wr w') => HNg.out w' _ l (hp.mono hb) (Hfl.out l (List.mem_of_getElem? hl1)))
      have Hp := hI hp
      have Hl1 := hI hl1
      have hkn : (k : Int) < (nl : Int) := by omega
      have hkw : IntKind.i64.wrap ((k : Int) + 1) = (k : Int) + 1 := IntWalk.i64_in _ (by omega)
      clear hp hl1 hbw
      generalize l.length = ln at *
      rcases Int.lt_trichotomy (dotV l x).num 0 with hs | hs | hs
      · have hsg : (dotV l x).num.sign = -1 := Int.sign_eq_neg_one_of_neg hs
        have Hs := hI hs
        have Hsg := hI hsg
        clear hs hsg
        go_wp2_with (first
          | (go_at_call 22; refine (HD.out).mono ?_; rintro e5 w3 ⟨v3, rfl, hv3, hb3⟩; have Hb3 := hI hb3; have HSx := hI (HSg.out _ _ _ hv3); rw [Hsg.out] at HSx; clear hv3 hb3)
          | (go_at_call 23; refine (HSx.out).mono ?_; rintro e5 w4 ⟨rfl, hb4⟩; have Hb4 := hI (bw_via Hb3.out hb4); clear hb4)
          | (go_at_call 24; refine (HN.out _ Hb4.out).mono ?_; rintro e5 w5 ⟨v5, rfl, ⟨hv5, -⟩, hb5⟩; have Hv5 := hI hv5; have Hb5 := hI (bw_via Hb4.out hb5); clear hv5 hb5))
        go_ret
        exact ⟨_, rfl, by rw [HF2.out k l hpre.out Hl1.out Hs.out]; exact RefP.some Hv5.out, bw_via Hbw.out Hb5.out⟩
      · have hsg : (dotV l x).num.sign = 0 := by rw [hs]; rfl
        have Hs := hI hs
        have Hsg := hI hsg
        clear hs hsg
        go_wp2_with (first
          | (go_at_call 22; refine (HD.out).mono ?_; rintro e5 w3 ⟨v3, rfl, hv3, hb3⟩; have Hb3 := hI hb3; have HSx := hI (HSg.out _ _ _ hv3); rw [Hsg.out] at HSx; clear hv3 hb3)
          | (go_at_call 23; refine (HSx.out).mono ?_; rintro e5 w4 ⟨rfl, hb4⟩; have Hb4 := hI (bw_via Hb3.out hb4); clear hb4))
        go_roundw
        case rel => exact ⟨k + 1, by omega, by go_num, bw_via Hbv.out Hb4.out, take_succ_all hpre.out Hl1.out (decide_eq_false (fun h => h (Rat.num_eq_zero.1 Hs.out)))⟩
        case measure => simp [intOf] <;> omega
      · have hsg : (dotV l x).num.sign = 1 := Int.sign_eq_one_of_pos hs
        have Hs := hI hs
        have Hsg := hI hsg
        clear hs hsg
        go_wp2_with (first
          | (go_at_call 22; refine (HD.out).mono ?_; rintro e5 w3 ⟨v3, rfl, hv3, hb3⟩; have Hb3 := hI hb3; have HSx := hI (HSg.out _ _ _ hv3); rw [Hsg.out] at HSx; clear hv3 hb3)
          | (go_at_call 23; refine (HSx.out).mono ?_; rintro e5 w4 ⟨rfl, hb4⟩; have Hb4 := hI (bw_via Hb3.out hb4); clear hb4))
        go_ret
        exact ⟨_, rfl, by rw [HF1.out k l hpre.out Hl1.out Hs.out]; exact RefP.some (Hp.out.mono Hb4.out), bw_via Hbw.out Hb4.out⟩
    · obtain rfl : nl = k := by omega
      have hkn : ¬ (nl : Int) < (nl : Int) := by omega
      have Hall := hI (HF3.out (take_all hpre.out Hnl2.out))
      have HB3 := hI (HB2.out.below hbw)
      have Hbw := hI (bw_via Hb2.out hbw)
      clear hbw
      obtain ⟨⟨a0, a1, a2⟩, -⟩ := blk3c HB3.out
      go_wp2_with (go_at_call 19; refine (HTy.out _ Hbw.out).mono ?_; rintro e5 w6 ⟨v6, rfl, ho6, hb6⟩; obtain ⟨qa, qc, rfl, -, -⟩ := ho6.open; have Ho6 := hI ho6.vs; have Hb6 := hI (bw_via Hbw.out hb6); clear ho6 hb6 a0 a1 a2)
      rw [Hnr.out] at Ho6 ⊢
      go_loopw [33] (fun i wr => ∃ k : Nat, k ≤ nr ∧ i = .int .i64 (k : Int) ∧ Below w6.heap.size w6 wr ∧ Hid (∀ y ∈ c.rays.take k, decide (0 < (dotV y x).num) = false)) (fun i _ => nr - (intOf i).toNat)
      case atStart => exact ⟨0, Nat.zero_le _, rfl, Below.refl _ _, by intro l hl; simp at hl⟩
      case round =>
        obtain ⟨k, hk, rfl, hbw, hpre⟩ := hrel
        have hk0 : (0 : Int) ≤ (k : Int) := Int.natCast_nonneg _
        rcases Nat.lt_or_ge k nr with hlt | hge
        · obtain ⟨b, off, p, l, rfl, hl1, c0, hp⟩ := Ho6.out.at hbw hlt
          obtain ⟨pa, pc, rfl, -, -⟩ := hp.open
          have Hbx := hI (bw_via Hb6.out hbw)
          have Hbv := hI hbw
          have HD := hI (HDt.out _ Hbx.out _ l hp (Hfr.out l (List.mem_of_getElem? hl1)))
          have Hp := hI hp
          have Hl1 := hI hl1
          have hkn : (k : Int) < (nr : Int) := by omega
          have hkw : IntKind.i64.wrap ((k : Int) + 1) = (k : Int) + 1 := IntWalk.i64_in _ (by omega)
          clear hp hl1 hbw
          generalize l.length = ln at *
          by_cases hs : 0 < (dotV l x).num
          · have Hs := hI hs
            have hsg : (0 : Int) < (dotV l x).num.sign := by rw [Int.sign_eq_one_of_pos hs]; decide
            generalize hsgv : (dotV l x).num.sign = sg at *
            have Hsg := hI hsgv
            clear hs hsgv
            go_wp2_with (first
              | (go_at_call 22; refine (HD.out).mono ?_; rintro e5 w3 ⟨v3, rfl, hv3, hb3⟩; have Hb3 := hI hb3; have HSx := hI (HSg.out _ _ _ hv3); rw [Hsg.out] at HSx; clear hv3 hb3)
              | (go_at_call 23; refine (HSx.out).mono ?_; rintro e5 w4 ⟨rfl, hb4⟩; have Hb4 := hI (bw_via Hb3.out hb4); clear hb4))
            go_ret
            exact ⟨_, rfl, by rw [Hall.out, HF4.out k l hpre.out Hl1.out (decide_eq_true Hs.out)]; exact RefP.some (Hp.out.mono Hb4.out), bw_via Hbx.out Hb4.out⟩
          · have Hs := hI hs
            have hsg : ¬ (0 : Int) < (dotV l x).num.sign := by
              intro h
              exact hs (Int.sign_eq_one_iff_pos.1 (by rcases Int.sign_trichotomy (dotV l x).num with h1 | h1 | h1 <;> omega))
            generalize hsgv : (dotV l x).num.sign = sg at *
            have Hsg := hI hsgv
            clear hs hsgv
            go_wp2_with (first
              | (go_at_call 22; refine (HD.out).mono ?_; rintro e5 w3 ⟨v3, rfl, hv3, hb3⟩; have Hb3 := hI hb3; have HSx := hI (HSg.out _ _ _ hv3); rw [Hsg.out] at HSx; clear hv3 hb3)
              | (go_at_call 23; refine (HSx.out).mono ?_; rintro e5 w4 ⟨rfl, hb4⟩; have Hb4 := hI (bw_via Hb3.out hb4); clear hb4))
            go_roundw
            case rel => exact ⟨k + 1, by omega, by go_num, bw_via Hbv.out Hb4.out, take_succ_all hpre.out Hl1.out (decide_eq_false (Int.not_lt.2 Hs.out))⟩
            case measure => simp [intOf] <;> omega
        · obtain rfl : nr = k := by omega
          have hkn : ¬ (nr : Int) < (nr : Int) := by omega
          have Hbx := hI (bw_via Hb6.out hbw)
          have Hn := hI (HF5.out (take_all hpre.out Hnr2.out))
          clear hbw
          go_wp2_with fail
          go_ret
          exact ⟨_, rfl, by rw [Hall.out, Hn.out]; exact RefP.none _, Hbx.out⟩
end Go.Proofs.YtlcmhbkmpkcajaaGreatDoor
namespace Go.Proofs.YtlcmhbkmpkcajaaGreatDoor
open Go.RowKit
def SVs (w : World) (v : Value) (vs : List (List Rat)) : Prop := ∃ ps : List Value, ps.length = vs.length ∧ Sl w 1 v (ps.map c1) ∧ ∀ (k : Nat) (p : Value) (a : List Rat), ps[k]? = some p → vs[k]? = some a → Strs w p (a.map numS)
theorem SVs.mono {w w' : World} {v : Value} {vs : List (List Rat)} (h : SVs w v vs) (hb : Below w.heap.size w w') : SVs w' v vs := by
  obtain ⟨ps, hl, hS, hq⟩ := h
  exact ⟨ps, hl, hS.mono hb, fun k p a h1 h2 => (hq k p a h1 h2).mono hb⟩
theorem SVs.open {w : World} {v : Value} {vs : List (List Rat)} (h : SVs w v vs) : ∃ a cap, v = .slice a vs.length cap ∧ vs.length ≤ cap ∧ cap ≤ maxLen := by
  obtain ⟨ps, hl, hS, -⟩ := h
  rw [← hl]
  have := Sl.open hS
  simpa using this
theorem SVs.at {w wr : World} {n cap : Nat} {a : Option Addr} {vs : List (List Rat)} (h : SVs w (.slice a n cap) vs) (hb : Below w.heap.size w wr) {k : Nat} (hk : k < n) :
    ∃ b off p x, a = some ⟨b, off, none⟩ ∧ vs[k]? = some x ∧ wr.cell? ⟨b, off + k, none⟩ = some p ∧ Strs wr p (x.map numS) := by
  obtain ⟨ps, hl, hS, hq⟩ := h
  obtain ⟨b, off, p, ha, hp, h0⟩ := Sl.at1 hS hb hk
  have hkl : k < vs.length := by rw [← hl]; exact lt_of_get hp
  exact ⟨b, off, p, vs[k], ha, List.getElem?_eq_getElem hkl, h0, (hq k p _ hp (List.getElem?_eq_getElem hkl)).mono hb⟩
theorem eql_some_nil {P : Program} {t e : TypeId} (h : P.underlying t = some (.slice e)) (w : World) (a : Addr) (n c : Nat) : (Go.binOp .eql t (.slice (some a) n c) (.slice none 0 0)).run P w = .ok (.bool false) w := Lib.run_eql_slice_nil w t e (some a) n c 0 0 h
theorem QV.fromSome {w : World} {v : Value} {a : List Rat} (h : QV w v a) (ha : 1 ≤ a.length) : ∃ s c, v = .slice (some s) a.length c := by
  obtain ⟨s, c, rfl, hc, -⟩ := h.open
  cases s with
  | some s => exact ⟨s, c, rfl⟩
  | none =>
    obtain ⟨rows, hl, hS, -⟩ := h
    have := hS.none0
    omega
set_option maxHeartbeats 4000000 in
set_option maxRecDepth 10000 in
theorem svec_same (u v : Value) (rs : List Rat) (n : Nat) (w : World) (h : Strs w u (rs.map numS)) (h' : TV w v rs) (hn : rs.length = n) (hn2 : n ≤ 1000) : Calls Tryz.prog 10 #[u, v] w (Ret (.bool true) w) := by
  obtain ⟨ad, cap, rfl, hc1, hc2⟩ := h.open
  obtain ⟨ad', cap', rfl, hc1', hc2'⟩ := h'.open
  rw [List.length_map] at *
  rw [hn] at *
  unfold maxLen at hc2 hc2'
  have HX := hI h
  have HY := hI h'
  clear h h' hn
  go_enter Tryz.func10, Tryz.ntmps10
  go_wp2_with fail
  go_loopw [5] (fun i wr => ∃ k : Nat, k ≤ n ∧ i = .int .i64 (k : Int) ∧ Below w.heap.size w wr) (fun i _ => n - (intOf i).toNat)
  case atStart => exact ⟨0, by omega, rfl, Below.refl _ _⟩
  case round =>
    obtain ⟨k, hk, rfl, hbx⟩ := hrel
    have Hbx := hI hbx
    have hk0 : (0 : Int) ≤ (k : Int) := Int.natCast_nonneg _
    rcases Nat.lt_or_ge k n with hlt | hge
    · obtain ⟨b1, o1, s', rfl, hr', c1⟩ := HX.out.at hbx hlt
      obtain ⟨b2, o2, r, rfl, hr, c2⟩ := HY.out.at hbx hlt
      rw [List.getElem?_map, hr] at hr'
      obtain rfl : numS r = s' := Option.some.inj hr'
      have hkn : (k : Int) < (n : Int) := by omega
      have hkw : IntKind.i64.wrap ((k : Int) + 1) = (k : Int) + 1 := IntWalk.i64_in _ (by omega)
      generalize numS r = s at *
      have HS := hI (fun w' (hb : Below wr.heap.size wr w') => show (fun w' => w'.cell? ⟨b1, o1 + k, none⟩ = some (.string s) ∧ w'.cell? ⟨b2, o2 + k, none⟩ = some (.string s)) w' from ⟨cell_keep hb c1, cell_keep hb c2⟩)
      clear hr hr' c1 c2 hbx
      go_wp2_with fail
      refine wp_region_held_drew (S := (fun w' => w'.cell? ⟨b1, o1 + k, none⟩ = some (.string s) ∧ w'.cell? ⟨b2, o2 + k, none⟩ = some (.string s))) (by kernel_rfl) (by exact (HS.out _ ((Below.refl _ _).drew))) (fun hHeld => ?_)
      refine' tk 0 ?_; (try simp only [tkS]); refine' tk 1 ?_; (try simp only [tkS]); refine' tk 2 ?_; (try simp only [tkS]); refine' tk 3 ?_; (try simp only [tkS]); refine' tk 4 ?_; (try simp only [tkS]); refine' tk 5 ?_; (try simp only [tkS]); refine' tk 6 ?_; (try simp only [tkS]); refine' tk 7 ?_; (try simp only [tkS]); refine' tk 8 ?_; (try simp only [tkS])
      refine tkD ?_ _
      go_wp2_with fail
      go_roundw
      case rel => exact ⟨k + 1, by omega, by go_num, Hbx.out.drew⟩
      case measure => simp [intOf] <;> omega
    · obtain rfl : n = k := by omega
      have hkn : ¬ (n : Int) < (n : Int) := by omega
      clear hbx
      go_wp2_with fail
      go_ret
      exact Ret.mk Hbx.out
set_option maxHeartbeats 4000000 in
set_option maxRecDepth 10000 in
theorem sames_same (u v : Value) (vs : List (List Rat)) (n : Nat) (w : World) (h : SVs w u vs) (h' : TVs w v vs) (hn : vs.length = n) (hn2 : n ≤ 1000) (hl : ∀ a ∈ vs, a.length ≤ 1000) : Calls Tryz.prog 17 #[u, v] w (Ret (.bool true) w) := by
  have HC := hI (fun k a (ha : vs[k]? = some a) w' p q (hp : Strs w' p (a.map numS)) (hq : TV w' q a) => svec_same p q a a.length w' hp hq rfl (hl a (List.mem_of_getElem? ha)))
  obtain ⟨ad, cap, rfl, hc1, hc2⟩ := h.open
  obtain ⟨ad', cap', rfl, hc1', hc2'⟩ := h'.open
  rw [hn] at h h' hc1 hc1' ⊢
  unfold maxLen at hc2 hc2'
  have HX := hI h
  have HY := hI h'
  clear h h' hn hl
  go_enter Tryz.func17, Tryz.ntmps17
  go_wp2_with fail
  go_loopw [5] (fun i wr => ∃ k : Nat, k ≤ n ∧ i = .int .i64 (k : Int) ∧ Below w.heap.size w wr) (fun i _ => n - (intOf i).toNat)
  case atStart => exact ⟨0, by omega, rfl, Below.refl _ _⟩
  case round =>
    obtain ⟨k, hk, rfl, hbx⟩ := hrel
    have Hbx := hI hbx
    have hk0 : (0 : Int) ≤ (k : Int) := Int.natCast_nonneg _
    rcases Nat.lt_or_ge k n with hlt | hge
    · obtain ⟨b1, o1, p, a', rfl, ha', c1, hp⟩ := HX.out.at hbx hlt
      obtain ⟨b2, o2, q, a, rfl, ha, c2, hq⟩ := HY.out.at hbx hlt
      rw [ha] at ha'
      obtain rfl : a = a' := Option.some.inj ha'
      have hkn : (k : Int) < (n : Int) := by omega
      have hkw : IntKind.i64.wrap ((k : Int) + 1) = (k : Int) + 1 := IntWalk.i64_in _ (by omega)
      have HCx := hI (fun w' (hb : Below wr.heap.size wr w') => HC.out k a ha w' _ _ (hp.mono hb) (hq.mono hb))
      obtain ⟨pa, pc, rfl, -, -⟩ := hp.open
      obtain ⟨qa, qc, rfl, -, -⟩ := hq.open
      rw [List.length_map] at *
      generalize a.length = an at *
      have HS := hI (fun w' (hb : Below wr.heap.size wr w') => show (fun w' => w'.cell? ⟨b1, o1 + k, none⟩ = some (.slice pa an pc) ∧ w'.cell? ⟨b2, o2 + k, none⟩ = some (.slice qa an qc)) w' from ⟨cell_keep hb c1, cell_keep hb c2⟩)
      clear ha ha' hp hq c1 c2 hbx
      go_wp2_with fail
      refine wp_region_held_drew (S := (fun w' => w'.cell? ⟨b1, o1 + k, none⟩ = some (.slice pa an pc) ∧ w'.cell? ⟨b2, o2 + k, none⟩ = some (.slice qa an qc))) (by kernel_rfl) (by exact (HS.out _ ((Below.refl _ _).drew))) (fun hHeld => ?_)
      refine' tk 0 ?_; (try simp only [tkS]); refine' tk 1 ?_; (try simp only [tkS]); refine' tk 2 ?_; (try simp only [tkS]); refine' tk 3 ?_; (try simp only [tkS]); refine' tk 4 ?_; (try simp only [tkS]); refine' tk 5 ?_; (try simp only [tkS]); refine' tk 6 ?_; (try simp only [tkS]); refine' tk 7 ?_; (try simp only [tkS])
      refine tk1 8 (fun K hK => ?_)
      go_simp
      go_at_call 10
      refine (HCx.out _ ((Below.refl _ _).drew)).mono ?_
      rintro e5 w8 ⟨rfl, hb8⟩
      have Hb8 := hI (bw_via ((Below.refl _ _).drew) hb8)
      clear hb8
      refine hK.out _ _ (by exact (HS.out _ (Hb8.out))) (fun hHeld => ?_)
      clear hK K; (try simp only [tkS])
      refine' tk 9 ?_; (try simp only [tkS])
      refine tkD ?_ _
      go_wp2_with fail
      go_roundw
      case rel => exact ⟨k + 1, by omega, by go_num, bw_via Hbx.out Hb8.out⟩
      case measure => simp [intOf] <;> omega
    · obtain rfl : n = k := by omega
      have hkn : ¬ (n : Int) < (n : Int) := by omega
      clear hbx
      go_wp2_with fail
      go_ret
      exact Ret.mk Hbx.out
set_option maxHeartbeats 2000000 in
theorem same_same (v lu ru : Value) (c : Con) (w : World) (h : CV w v c) (hu : SVs w lu c.lines) (hv : SVs w ru c.rays) (hl : c.lines.length ≤ 1000 ∧ ∀ a ∈ c.lines, a.length ≤ 1000) (hr : c.rays.length ≤ 1000 ∧ ∀ a ∈ c.rays, a.length ≤ 1000) :
    Calls Tryz.prog 9 #[v, .agg #[.int .i64 (c.dim : Int), lu, ru]] w (Ret (.bool true) w) := by
  obtain ⟨la, lc, ra, rc, rfl, h1, h2⟩ := h.open
  obtain ⟨la', lc', rfl, -, -⟩ := hu.open
  obtain ⟨ra', rc', rfl, -, -⟩ := hv.open
  have hA := below2 w (.cells #[.int .i64 (c.dim : Int), .slice la c.lines.length lc, .slice ra c.rays.length rc] 27) (.cells #[.int .i64 (c.dim : Int), .slice la' c.lines.length lc', .slice ra' c.rays.length rc'] 40)
  have HE1 := hI (fun w' (hb : Below w.heap.size w w') => sames_same _ _ c.lines c.lines.length w' (hu.mono hb) (h1.mono hb) rfl hl.1 hl.2)
  have HE2 := hI (fun w' (hb : Below w.heap.size w w') => sames_same _ _ c.rays c.rays.length w' (hv.mono hb) (h2.mono hb) rfl hr.1 hr.2)
  have HB1 := hI (show Blk ((w.alloc (.cells #[.int .i64 (c.dim : Int), .slice la c.lines.length lc, .slice ra c.rays.length rc] 27)).alloc (.cells #[.int .i64 (c.dim : Int), .slice la' c.lines.length lc', .slice ra' c.rays.length rc'] 40)) w.heap.size #[.int .i64 (c.dim : Int), .slice la c.lines.length lc, .slice ra c.rays.length rc] 27 from (Blk.new w _ _).old _)
  have HB2 := hI (show Blk ((w.alloc (.cells #[.int .i64 (c.dim : Int), .slice la c.lines.length lc, .slice ra c.rays.length rc] 27)).alloc (.cells #[.int .i64 (c.dim : Int), .slice la' c.lines.length lc', .slice ra' c.rays.length rc'] 40)) (w.heap.size + 1) #[.int .i64 (c.dim : Int), .slice la' c.lines.length lc', .slice ra' c.rays.length rc'] 40 from by
    have h := Blk.new (w.alloc (.cells #[.int .i64 (c.dim : Int), .slice la c.lines.length lc, .slice ra c.rays.length rc] 27)) #[.int .i64 (c.dim : Int), .slice la' c.lines.length lc', .slice ra' c.rays.length rc'] 40
    simpa using h)
  have Hb1 := hI hA
  clear h hu hv h1 h2 hA hl hr
  go_enter Tryz.func9, Tryz.ntmps9
  go_upto_region 1 with (fail)
  generalize (w.alloc (.cells #[.int .i64 (c.dim : Int), .slice la c.lines.length lc, .slice ra c.rays.length rc] 27)).alloc (.cells #[.int .i64 (c.dim : Int), .slice la' c.lines.length lc', .slice ra' c.rays.length rc'] 40) = w1 at *
  have HS := hI (fun w' (hb : Below w1.heap.size w1 w') => show (fun w' => w'.cell? ⟨w.heap.size, 0, none⟩ = some (.int .i64 (c.dim : Int)) ∧ w'.cell? ⟨w.heap.size, 1, none⟩ = some (.slice la c.lines.length lc) ∧ w'.cell? ⟨w.heap.size, 2, none⟩ = some (.slice ra c.rays.length rc) ∧ w'.cell? ⟨w.heap.size + 1, 0, none⟩ = some (.int .i64 (c.dim : Int)) ∧ w'.cell? ⟨w.heap.size + 1, 1, none⟩ = some (.slice la' c.lines.length lc') ∧ w'.cell? ⟨w.heap.size + 1, 2, none⟩ = some (.slice ra' c.rays.length rc')) w' from by
    obtain ⟨⟨a0, a1, a2⟩, -⟩ := blk3c (HB1.out.below hb)
    obtain ⟨⟨b0, b1, b2⟩, -⟩ := blk3c (HB2.out.below hb)
    exact ⟨a0, a1, a2, b0, b1, b2⟩)
  obtain ⟨a0, a1, a2, b0, b1, b2⟩ := HS.out w1 (Below.refl _ _)
  go_wp2_with (first
    | (go_at_call 17; have _t := Hb41; clear _t; refine (HE2.out _ (bw_via Hb1.out Hb41.out)).mono ?_; rintro e5 w42 ⟨rfl, hb42⟩; have Hb42 := hI (bw_via Hb41.out hb42); clear hb42 a0 a1 a2 b0 b1 b2; obtain ⟨a0, a1, a2, b0, b1, b2⟩ := HS.out _ Hb42.out)
    | (go_at_call 17; refine (HE1.out _ Hb1.out).mono ?_; rintro e5 w41 ⟨rfl, hb41⟩; have Hb41 := hI hb41; clear hb41 a0 a1 a2 b0 b1 b2; obtain ⟨a0, a1, a2, b0, b1, b2⟩ := HS.out _ Hb41.out))
  go_ret
  exact Ret.mk (bw_via Hb1.out Hb42.out)
set_option maxHeartbeats 8000000 in
set_option maxRecDepth 10000 in
theorem refute_g (d : Nat) (c : Con) (v xv : Value) (x : Vec) (w : World) (h : CV w v c) (hx : TV w xv x) (fx : FitV d x) (hcd : c.dim = d) (hd1 : 1 ≤ d) (hd : d ≤ 8) (hl : c.lines.length ≤ 8) (hr : c.rays.length ≤ 256) (fl : ∀ a ∈ c.lines, FitV d a) (fr : ∀ a ∈ c.rays, FitV d a)
    (hC : FitC d c.lines c.rays) (hN : FitN d c.lines c.rays) (D : Con) (hD : boundedC d c.lines c.rays = D) (hC2 : FitC d D.lines D.rays) (hN2 : FitN d D.lines D.rays) (hB : boundedC d D.lines D.rays = c) (hT : Tab w) (r : Vec) (hR : refutesV D x = some r) (hrf : FitV d r) :
    Calls Tryz.prog 8 #[v, xv] w (RetP (fun y w' => ∃ t, y = .tuple #[t, .bool true, .int .i64 0] ∧ TV w' t r) w) := by
  have hfit := bounded_fit hC
  have hrl := bounded_rays hN
  have hll := hN2.2.2
  rw [rowsOf_len] at hll
  rw [hD] at hfit hrl
  have HAs := hI (fun w' (hb : Below w.heap.size w w') => asked_g d c v xv x w' (h.mono hb) (hx.mono hb) fx hcd hd1 hd hl hr fl fr hC hN D hD hC2 hN2 hB (hT.mono hb))
  have HRf := hI (fun w' u q (hu : CV w' u D) (hq : QV w' q x) => show Calls Tryz.prog 15 #[u, q] w' (RetP (fun y w'' => QV w'' y r) w') from by
    refine (refutes_g d D u q x w' hu hq fx hd (by omega) (by omega) hfit.1 hfit.2).mono ?_
    rintro e5 w5 ⟨v5, rfl, h5, hb5⟩
    exact ⟨v5, rfl, h5.1 r hR, hb5⟩)
  have HNu := hI (fun w' u (hu : QV w' u r) (ht : Tab w') => numbers_v u r d w' hu hrf.1 (by omega) hrf.2 ht)
  have Hrl := hI (show 1 ≤ r.length from by rw [hrf.1]; exact hd1)
  obtain ⟨la, lc, ra, rc, rfl, hvl, hvr⟩ := h.open
  obtain ⟨ya, yc, rfl, -, -⟩ := hx.open
  have hnil : ∀ (W : World) (a : Addr) (n c : Nat), (binOp .eql 46 (.slice (some a) n c) (.slice none 0 0)).run Tryz.prog W = .ok (.bool false) W := fun W a n c => eql_some_nil Tryz.underlying46 W a n c
  have hA := below1 w (.cells #[.int .i64 (c.dim : Int), .slice la c.lines.length lc, .slice ra c.rays.length rc] 27)
  have HB1 := hI (Blk.new w #[.int .i64 (c.dim : Int), .slice la c.lines.length lc, .slice ra c.rays.length rc] 27)
  have Hb1 := hI hA
  have HTb := hI hT
  clear h hx hvl hvr fl fr hC hN hC2 hN2 hT hA hcd hD hB hl hr fx hR hrf hfit hrl hll
  generalize x.length = xn at *
  go_enter Tryz.func8, Tryz.ntmps8
  go_upto_region 1 with (fail)
  generalize w.alloc (.cells #[.int .i64 (c.dim : Int), .slice la c.lines.length lc, .slice ra c.rays.length rc] 27) = w1 at *
  obtain ⟨⟨a0, a1, a2⟩, -⟩ := blk3c HB1.out
  go_upto_region 2 with (go_at_call 14; refine (HAs.out _ Hb1.out).mono ?_; rintro e5 w4 ⟨v4, rfl, ⟨cv, q, rfl, hv4, hq4⟩, hb4⟩; obtain ⟨xa, xc, za, zc, rfl, hl4, hr4⟩ := hv4.open; obtain ⟨qa, qc, rfl, -, -⟩ := hq4.open; have Hv4 := hI hv4; have Hq4 := hI hq4; have Hb4 := hI (bw_via Hb1.out hb4); clear hv4 hq4 hl4 hr4 hb4 a0 a1 a2)
  have hA := below1 w4 (.cells #[.int .i64 (D.dim : Int), .slice xa D.lines.length xc, .slice za D.rays.length zc] 27)
  have HD5 := hI (Blk.new w4 #[.int .i64 (D.dim : Int), .slice xa D.lines.length xc, .slice za D.rays.length zc] 27)
  have Hv5 := hI (Hv4.out.mono hA)
  have Hq5 := hI (Hq4.out.mono hA)
  have Hb5 := hI (bw_via Hb4.out hA)
  clear hA
  generalize w4.alloc (.cells #[.int .i64 (D.dim : Int), .slice xa D.lines.length xc, .slice za D.rays.length zc] 27) = w5 at *
  generalize w4.heap.size = D8 at *
  obtain ⟨⟨b0, b1, b2⟩, -⟩ := blk3c HD5.out
  go_upto_region 5 with (go_at_call 15; refine (HRf.out _ _ _ Hv5.out Hq5.out).mono ?_; rintro e5 w6 ⟨v6, rfl, hv6, hb6⟩; obtain ⟨sa, sc, rfl⟩ := QV.fromSome hv6 Hrl.out; have Hv6 := hI hv6; have Hb6 := hI (bw_via Hb5.out hb6); clear hv6 hb6 b0 b1 b2)
  go_wp2_with (go_at_call 16; refine (HNu.out _ _ Hv6.out (HTb.out.mono Hb6.out)).mono ?_; rintro e5 w7 ⟨v7, rfl, hv7, hb7⟩; obtain ⟨ta, tc, rfl, -, -⟩ := hv7.open; have Hv7 := hI hv7; have Hb7 := hI (bw_via Hb6.out hb7); clear hv7 hb7)
  exact bodyPost_ret (v := .tuple #[.slice ta r.length tc, .bool true, .int .i64 0]) (by simp [results, Tryz.results8, go_sem]) rfl ⟨_, rfl, ⟨_, rfl, Hv7.out⟩, Hb7.out⟩
end Go.Proofs.YtlcmhbkmpkcajaaGreatDoor
