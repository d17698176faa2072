/-
  Parts of the proof: Cpm, Qbo, Qge.
-/
import Derived.Test.YtlcmhbkmpkcajaaGreatDoorN34
import Derived.Test.YtlcmhbkmpkcajaaGreatDoorN35
namespace Go.Proofs.YtlcmhbkmpkcajaaGreatDoor
theorem addB_count (b : Bld) (row : Vec) : (addB b row).count = b.count + 1 := by
  unfold addB
  split <;> rfl
theorem addB_tight {b : Bld} {row : Vec} (h : ∀ r ∈ b.rays, r.2 < 2 ^ b.count) : ∀ r ∈ (addB b row).rays, r.2 < 2 ^ (b.count + 1) := by
  have h2 : 2 ^ b.count < 2 ^ (b.count + 1) := Nat.pow_lt_pow_right (by omega) (by omega)
  have hor : ∀ t, t < 2 ^ b.count → t ||| 2 ^ b.count < 2 ^ (b.count + 1) := fun t ht => Nat.or_lt_two_pow (Nat.lt_trans ht h2) h2
  have hkp : ∀ r ∈ keptB row b.count b.rays, r.2 < 2 ^ (b.count + 1) := by
    intro r hr
    unfold keptB at hr
    obtain ⟨x, hx, rfl⟩ := List.mem_map.1 hr
    have h1 := h x (List.mem_filter.1 hx).1
    split
    · exact hor _ h1
    · exact Nat.lt_trans h1 h2
  intro r hr
  unfold addB at hr
  split at hr
  · unfold splitB at hr
    rcases List.mem_append.1 hr with h1 | h1
    · obtain ⟨x, hx, rfl⟩ := List.mem_map.1 h1
      exact hor _ (h x hx)
    · rw [List.mem_singleton.1 h1]
      have := Nat.two_pow_pos b.count
      show 2 ^ b.count - 1 < _
      omega
  · dsimp only at hr
    split at hr
    · exact hkp r hr
    · rcases List.mem_append.1 hr with h1 | h1
      · exact hkp r h1
      · unfold madeB at h1
        obtain ⟨p, hp, h3⟩ := List.mem_flatMap.1 h1
        obtain ⟨q, hq, h4⟩ := List.mem_filterMap.1 h3
        unfold madeOf at h4
        split at h4
        · cases h4
        · cases h4
          have hpb : p ∈ b.rays := (List.mem_filter.1 hp).1
          exact hor _ (Nat.lt_of_le_of_lt Nat.and_le_left (h p hpb))
def FitN (d : Nat) (eqs rows : List Vec) : Prop := FitF (fun b : Bld => b.rays.length ≤ 300 ∧ b.lines.length ≤ 90) addB (startB d) (rowsOf eqs rows) ∧ (runB d eqs rows).rays.length ≤ 12 ∧ (rowsOf eqs rows).length ≤ 63
instance {d : Nat} {e r : List Vec} : Decidable (FitN d e r) := by unfold FitN; infer_instance
def stB (d : Nat) (l : List Vec) (k : Nat) : Bld := (l.take k).foldl addB (startB d)
theorem stB_step {d : Nat} {l : List Vec} {k : Nat} {a : Vec} (h : l[k]? = some a) : stB d l (k + 1) = addB (stB d l k) a := by
  unfold stB
  rw [List.take_add_one, h, Option.toList_some, List.foldl_append]
  rfl
theorem stB_count (d : Nat) (l : List Vec) : ∀ k, k ≤ l.length → (stB d l k).count = k ∧ ∀ r ∈ (stB d l k).rays, r.2 < 2 ^ k
  | 0, _ => ⟨rfl, fun r hr => by cases hr⟩
  | k + 1, hk => by
    obtain ⟨a, ha⟩ : ∃ a, l[k]? = some a := ⟨_, List.getElem?_eq_getElem hk⟩
    obtain ⟨h1, h2⟩ := stB_count d l k (by omega)
    rw [stB_step ha, addB_count, h1]
    refine ⟨rfl, ?_⟩
    have := addB_tight (b := stB d l k) (row := a) (by rw [h1]; exact h2)
    rwa [h1] at this
theorem stB_all (d : Nat) (eqs rows : List Vec) : stB d (rowsOf eqs rows) (rowsOf eqs rows).length = runB d eqs rows := by
  unfold stB runB
  rw [List.take_length]
theorem rowsOf_len (eqs rows : List Vec) : (rowsOf eqs rows).length = 2 * eqs.length + rows.length := by
  unfold rowsOf
  rw [List.length_append]
  congr 1
  induction eqs with
  | nil => rfl
  | cons a eqs ih => rw [List.flatMap_cons, List.length_append, ih, List.length_cons]; simp; omega
theorem rowsOf_eqs (rows : List Vec) : ∀ (eqs : List Vec) (q : Nat) (a : Vec), eqs[q]? = some a → (rowsOf eqs rows)[2 * q]? = some a ∧ (rowsOf eqs rows)[2 * q + 1]? = some (negV a)
  | [], q, a, h => by cases h
  | x :: eqs, 0, a, h => by
    cases h
    exact ⟨rfl, rfl⟩
  | x :: eqs, q + 1, a, h => by
    have h1 := rowsOf_eqs rows eqs q a h
    have e : rowsOf (x :: eqs) rows = x :: negV x :: rowsOf eqs rows := rfl
    rw [e, show 2 * (q + 1) = 2 * q + 1 + 1 by omega]
    exact h1
theorem rowsOf_rows (rows : List Vec) : ∀ (eqs : List Vec) (j : Nat), (rowsOf eqs rows)[2 * eqs.length + j]? = rows[j]?
  | [], j => by simp [rowsOf]
  | x :: eqs, j => by
    have h1 := rowsOf_rows rows eqs j
    have e : rowsOf (x :: eqs) rows = x :: negV x :: rowsOf eqs rows := rfl
    rw [e, List.length_cons, show 2 * (eqs.length + 1) + j = 2 * eqs.length + j + 1 + 1 by omega]
    exact h1
set_option maxRecDepth 100000
theorem known_n : FitN 3 [] [[1, 1, 0]] ∧ FitN 2 [] [[1, 0], [2, 2], [1, 3]] ∧ FitN 2 [] [[-3, 1], [0, -1]] ∧ FitN 2 [] [[1, 0], [1, 3]] := by decide +kernel
theorem all_n : ∀ d, d < 9 → FitN d ((List.range d).map (unitV d)) [] := by decide +kernel
theorem fitN_zeros (d k : Nat) (hd : d < 9) (hk : k ≤ 63) (eqs rows : List Vec) (h : rowsOf eqs rows = List.replicate k (List.replicate d 0)) : FitN d eqs rows := by
  have hl : (startB d).lines.length ≤ 90 := by show ((List.range d).map (unitV d)).length ≤ 90; simp; omega
  refine ⟨?_, ?_, by rw [h, List.length_replicate]; exact hk⟩
  · rw [h]
    have : ∀ (k : Nat) (b : Bld), b.rays = [] → b.lines.length ≤ 90 → FitF (fun b : Bld => b.rays.length ≤ 300 ∧ b.lines.length ≤ 90) addB b (List.replicate k (List.replicate d (0 : Rat))) := by
      intro k
      induction k with
      | zero => intro b hb h1; exact ⟨by rw [hb]; simp, h1⟩
      | succ k ih =>
        intro b hb h1
        rw [List.replicate_succ]
        refine ⟨⟨by rw [hb]; simp, h1⟩, ?_⟩
        rw [add_zero d b hb]
        exact ih _ rfl h1
    exact this k _ rfl hl
  · unfold runB
    rw [h, run_zeros d k (startB d) rfl]
    simp
end Go.Proofs.YtlcmhbkmpkcajaaGreatDoor
namespace Go.Proofs.YtlcmhbkmpkcajaaGreatDoor
open Go.RowKit
theorem BS.below {M B : Nat} {w w' : World} {st : Bld} (h : BS M w B st) (hb : Below w.heap.size w w') : BS M w' B st := by
  obtain ⟨h1, vl, vr, h2, h3, h4⟩ := h
  exact ⟨h1, vl, vr, h2.below hb, h3.below hb, h4.below hb⟩
theorem cone_put {w : World} {R : Nat} {x0 x1 x2 : Value} (hB : Blk w R #[x0, x1, x2] 27) (y0 y1 y2 : Value) :
    Blk (((w.setCell ⟨R, 0, none⟩ y0).setCell ⟨R, 1, none⟩ y1).setCell ⟨R, 2, none⟩ y2) R #[y0, y1, y2] 27 ∧ Keep (fun T => T ≠ 27) w (((w.setCell ⟨R, 0, none⟩ y0).setCell ⟨R, 1, none⟩ y1).setCell ⟨R, 2, none⟩ y2) ∧ ∀ b w0, b ≤ R → Below b w0 w → Below b w0 (((w.setCell ⟨R, 0, none⟩ y0).setCell ⟨R, 1, none⟩ y1).setCell ⟨R, 2, none⟩ y2) := by
  have h1 := hB.set 0 y0
  have h2 := Blk.set h1 1 y1
  have h3 := Blk.set h2 2 y2
  exact ⟨h3, ((Keep.set (ok := fun T => T ≠ 27) hB (fun k => k rfl) 0 y0).trans (Keep.set (ok := fun T => T ≠ 27) h1 (fun k => k rfl) 1 y1)).trans (Keep.set (ok := fun T => T ≠ 27) h2 (fun k => k rfl) 2 y2),
    fun b w0 hb hw => ((hw.setCell (p := ⟨R, 0, none⟩) hb y0).setCell (p := ⟨R, 1, none⟩) hb y1).setCell (p := ⟨R, 2, none⟩) hb y2⟩
set_option maxHeartbeats 8000000 in
set_option maxRecDepth 10000 in
theorem bounded_g (d : Nat) (eqs rows : List Vec) (ev rv : Value) (w : World) (he : Vs w ev eqs) (hr : Vs w rv rows) (hd : d ≤ 8) (hC : FitC d eqs rows) (hN : FitN d eqs rows) (hT : Tab w) :
    Calls Tryz.prog 20 #[.int .i64 (d : Int), ev, rv] w (RetP (fun x w' => CV w' x (boundedC d eqs rows)) w) := by
  obtain ⟨hf1, hf2, hf3⟩ := hC
  obtain ⟨hn1, hn2, hn3⟩ := hN
  have HSt := hI (fun (k : Nat) (hk : k ≤ (rowsOf eqs rows).length) => show (∀ l ∈ (stB d (rowsOf eqs rows) k).lines, FitV d l) ∧ (∀ r ∈ (stB d (rowsOf eqs rows) k).rays, FitV d r.1 ∧ r.2 < 18446744073709551616) ∧ (stB d (rowsOf eqs rows) k).count ≤ 63 ∧ (stB d (rowsOf eqs rows) k).lines.length ≤ 90 ∧ (stB d (rowsOf eqs rows) k).rays.length ≤ 300 from by
    have h1 := FitF.take hf2 hk
    have h2 := FitF.take hn1 hk
    obtain ⟨h3, h4⟩ := stB_count d (rowsOf eqs rows) k hk
    refine ⟨h1.1, fun r hr => ⟨(h1.2.1 r hr).1, ?_⟩, by rw [h3]; omega, h2.2, h2.1⟩
    have h5 : 2 ^ k ≤ 2 ^ 63 := Nat.pow_le_pow_right (by omega) (by omega)
    have := h4 r hr
    omega)
  have HAd := hI (fun (k : Nat) (a : Vec) (ha : (rowsOf eqs rows)[k]? = some a) M B w' u (hk : BS M w' B (stB d (rowsOf eqs rows) k)) (hu : QV w' u a) => show Calls Tryz.prog 29 #[.pointer (some ⟨B, 0, none⟩), u] w' (fun e w'' => e = .returned (.tuple #[]) ∧ BS M w'' B (stB d (rowsOf eqs rows) (k + 1)) ∧ Below M w' w'') from by
    have hkl : k < (rowsOf eqs rows).length := (List.getElem?_eq_some_iff.1 ha).1
    obtain ⟨g1, g2, g3, g4, g5⟩ := HSt.out k (by omega)
    rw [stB_step ha]
    exact add_g B M d u a _ w' hk hu (hf1 a (List.mem_of_getElem? ha)) hd g1 g2 (by omega) (by omega) g5)
  have HRn := hI (stB_all d eqs rows)
  have HDn := hI (fun M B w' (hk : BS M w' B (stB d (rowsOf eqs rows) (rowsOf eqs rows).length)) (hT' : Tab w') => show Calls Tryz.prog 30 #[.pointer (some ⟨B, 0, none⟩), .int .i64 (d : Int)] w' (RetP (fun x w'' => CV w'' x (boundedC d eqs rows)) w') from by
    obtain ⟨g1, g2, g3, g4, g5⟩ := HSt.out _ (Nat.le_refl _)
    rw [HRn.out] at hk g1 g2 g4 g5
    exact done_g B M d _ w' hk hd g1 g2 hf3 g4 (by omega) (Nat.le_trans (dedup_len _) (by rw [List.length_map]; exact hn2)) hT')
  have HFa := hI (fun (a : Vec) (ha : a ∈ rowsOf eqs rows) => hf1 a ha)
  have HLen := hI (rowsOf_len eqs rows)
  obtain ⟨la, lc, rfl, hl1, hl2⟩ := he.open
  obtain ⟨ya, yc, rfl, hy1, hy2⟩ := hr.open
  obtain ⟨N, hN⟩ : ∃ N, eqs.length = N := ⟨_, rfl⟩
  obtain ⟨R, hR⟩ : ∃ R, rows.length = R := ⟨_, rfl⟩
  have HRo := hI (fun j => show (rowsOf eqs rows)[2 * N + j]? = rows[j]? from by rw [← hN]; exact rowsOf_rows rows eqs j)
  have HEq := hI (fun q a (h : eqs[q]? = some a) => rowsOf_eqs rows eqs q a h)
  rw [hN] at he hl1 HLen ⊢
  rw [hR] at hr hy1 HLen ⊢
  have HE := hI he
  have HR := hI hr
  have HTb := hI hT
  have hNR : 2 * N + R ≤ 63 := by rw [← HLen.out]; exact hn3
  unfold maxLen at hl2 hy2
  clear hf1 hf2 hf3 hn1 hn2 hn3 he hr hN hR hT HSt HRn
  generalize rowsOf eqs rows = ls at *
  go_enter Tryz.func20, Tryz.ntmps20
  go_upto_region 1 with (fail)
  have HR4 := hI (Blk.new w #[.int .i64 0, .slice none 0 0, .slice none 0 0] 27)
  have Hb1 := hI (below1 w (.cells #[.int .i64 0, .slice none 0 0, .slice none 0 0] 27))
  generalize w.alloc (.cells #[.int .i64 0, .slice none 0 0, .slice none 0 0] 27) = w1 at *
  go_upto_region 2 with (go_at_call 28; refine (start_g d _ hd).mono ?_; rintro e5 w2 ⟨B, rfl, hbs, hb2⟩; have HS2 := hI (show BS w1.heap.size w2 B (stB d ls 0) from hbs); have Hb2 := hI hb2; clear hbs hb2)
  go_wp2_with fail
  go_loopw [16] (fun i wr => ∃ q : Nat, q ≤ N ∧ i = .int .i64 (q : Int) ∧ Hid (BS w1.heap.size wr B (stB d ls (2 * q)) ∧ Below w1.heap.size w1 wr)) (fun i _ => N - (intOf i).toNat)
  case atStart => exact ⟨0, by omega, rfl, HS2.out, Hb2.out⟩
  case round =>
    obtain ⟨q, hq, rfl, hP⟩ := hrel
    obtain ⟨hs, hb⟩ := hP.out
    obtain ⟨wo, rfl⟩ : ∃ W, W = wr := ⟨_, rfl⟩
    have HS := hI hs
    have Hbw := hI hb
    clear hP hs hb HS2 Hb2
    have hq0 : (0 : Int) ≤ (q : Int) := Int.natCast_nonneg _
    have hwo := hI (show w1.heap.size ≤ wo.heap.size from Hbw.out.size)
    rcases Nat.lt_or_ge q N with hlt | hge
    · have hqN : (q : Int) < (N : Int) := by omega
      have hqw : IntKind.i64.wrap ((q : Int) + 1) = (q : Int) + 1 := IntWalk.i64_in _ (by omega)
      obtain ⟨b6, o6, p6, x6, rfl, hx6, c6, hp6⟩ := HE.out.at (bw_via Hb1.out Hbw.out) hlt
      obtain ⟨hx1, hx2⟩ := HEq.out q x6 hx6
      have fx6 := HFa.out x6 (List.mem_of_getElem? hx1)
      obtain ⟨pa6, pc6, rfl, -, -⟩ := hp6.open
      rw [fx6.1] at hp6 c6
      have HA1 := hI (HAd.out _ _ hx1 _ _ wo _ HS.out hp6)
      have HA2 := hI (fun w' u hs hu => HAd.out _ _ hx2 w1.heap.size B w' u hs hu)
      obtain ⟨bE, hbE⟩ : ∃ V : Vs w1 (.slice (some ⟨b6, o6, none⟩) N lc) eqs, True := ⟨HE.out.mono Hb1.out, trivial⟩
      have HQ6 := hI (fun w' (hb : Below w1.heap.size w1 w') => show QV w' (.slice pa6 d pc6) x6 from by
        obtain ⟨b9, o9, p9, x9, e9, hx9, c9, hp9⟩ := bE.at hb hlt
        cases e9
        rw [hx6, Option.some.injEq] at hx9
        subst hx9
        have c0 := (bE.at (Below.refl _ _) hlt)
        obtain ⟨b8, o8, p8, x8, e8, -, c8, -⟩ := c0
        cases e8
        have h1 : w'.cell? ⟨b6, o6 + q, none⟩ = some p8 := cell_keep hb c8
        have h2 : wo.cell? ⟨b6, o6 + q, none⟩ = some p8 := cell_keep Hbw.out c8
        rw [h1] at c9
        rw [h2] at c6
        rw [← Option.some.inj c6, Option.some.inj c9]
        exact hp9)
      have HNv := hI (fun w' (hu : QV w' (.slice pa6 d pc6) x6) => neg_g (.slice pa6 d pc6) x6 d w' hu fx6.1 (by omega))
      have HNl := hI (show (negV x6).length = d from by unfold negV; rw [List.length_map]; exact fx6.1)
      clear hx6 hx1 hx2 fx6 hp6 bE hbE
      go_upto_region 6 with (go_at_call 29; refine (HA1.out).mono ?_; rintro e5 w5 ⟨rfl, hs5, hb5⟩; have HS5 := hI hs5; have Hb5 := hI (Hbw.out.trans hb5); clear hs5 hb5)
      go_upto_region 7 with (first
        | (go_at_call 24; refine (HNv.out _ (HQ6.out _ Hb5.out)).mono ?_; rintro e5 w6 ⟨v6, rfl, ⟨hv6, -⟩, hb6⟩; obtain ⟨na, nc, hve, -, -⟩ := hv6.open; rw [HNl.out] at hve; subst hve; have Hv6 := hI hv6; have HS6 := hI (HS5.out.below hb6); have Hb6 := hI (bw_via Hb5.out hb6); clear hv6 hb6)
        | (go_at_call 29; refine (HA2.out _ _ HS6.out Hv6.out).mono ?_; rintro e5 w7 ⟨rfl, hs7, hb7⟩; have HS7 := hI hs7; have Hb7 := hI (Hb6.out.trans hb7); clear hs7 hb7))
      go_wp2_with fail
      go_roundw
      case rel => exact ⟨q + 1, by omega, by go_num, HS7.out, Hb7.out⟩
      case measure => simp [intOf] <;> omega
    · obtain rfl : N = q := by omega
      have hqN : ¬ (N : Int) < (N : Int) := by omega
      go_wp2_with fail
      go_loopw [30] (fun i wr => ∃ j : Nat, j ≤ R ∧ i = .int .i64 (j : Int) ∧ Hid (BS w1.heap.size wr B (stB d ls (2 * N + j)) ∧ Below w1.heap.size w1 wr)) (fun i _ => R - (intOf i).toNat)
      case atStart => exact ⟨0, by omega, rfl, HS.out, Hbw.out⟩
      case round =>
        obtain ⟨j, hj, rfl, hP⟩ := hrel
        obtain ⟨hs, hb⟩ := hP.out
        obtain ⟨w3, rfl⟩ : ∃ W, W = wr := ⟨_, rfl⟩
        have HS3 := hI hs
        have Hb3 := hI hb
        clear hP hs hb HS Hbw
        have hj0 : (0 : Int) ≤ (j : Int) := Int.natCast_nonneg _
        rcases Nat.lt_or_ge j R with hlt | hge2
        · have hjR : (j : Int) < (R : Int) := by omega
          have hjw : IntKind.i64.wrap ((j : Int) + 1) = (j : Int) + 1 := IntWalk.i64_in _ (by omega)
          obtain ⟨b6, o6, p6, x6, rfl, hx6, c6, hp6⟩ := HR.out.at (bw_via Hb1.out Hb3.out) hlt
          obtain ⟨pa6, pc6, rfl, -, -⟩ := hp6.open
          have HA1 := hI (HAd.out _ _ ((HRo.out j).trans hx6) _ _ w3 _ HS3.out hp6)
          clear hx6 hp6
          go_wp2_with (go_at_call 29; refine (HA1.out).mono ?_; rintro e5 w5 ⟨rfl, hs5, hb5⟩; have HS5 := hI hs5; have Hb5 := hI (Hb3.out.trans hb5); clear hs5 hb5)
          go_roundw
          case rel => exact ⟨j + 1, by omega, by go_num, HS5.out, Hb5.out⟩
          case measure => simp [intOf] <;> omega
        · obtain rfl : R = j := by omega
          have hjR : ¬ (R : Int) < (R : Int) := by omega
          rw [← HLen.out] at HS3
          have HDo := hI (HDn.out _ _ w3 HS3.out (HTb.out.mono (bw_via Hb1.out Hb3.out)))
          obtain ⟨c, hc⟩ : ∃ c, boundedC d eqs rows = c := ⟨_, rfl⟩
          have Hc := hI hc
          rw [hc] at HDo
          clear hc
          go_wp2_with (go_at_call 30; refine (HDo.out).mono ?_; rintro e5 w5 ⟨v5, rfl, hv5, hb5⟩; obtain ⟨xa, xc, za, zc, rfl, hl5, hr5⟩ := hv5.open; have HR5 := hI (HR4.out.below (bw_via Hb3.out hb5)); obtain ⟨p1, p2, p3⟩ := cone_put HR5.out (.int .i64 (c.dim : Int)) (.slice xa c.lines.length xc) (.slice za c.rays.length zc); have Hp1 := hI p1; have Hl5 := hI (hl5.keep p2 (by decide) (by decide)); have Hr5 := hI (hr5.keep p2 (by decide) (by decide)); have Hb5 := hI (p3 w.heap.size w (Nat.le_refl _) (bw_via Hb1.out (bw_via Hb3.out hb5))); clear hv5 hl5 hr5 hb5 p1 p2 p3; obtain ⟨⟨D0, D1, D2⟩, F0, F1, F2⟩ := blk3c HR5.out)
          obtain ⟨⟨E0, E1, E2⟩, -⟩ := blk3c Hp1.out
          exact bodyPost_ret (v := .agg #[.int .i64 (c.dim : Int), .slice xa c.lines.length xc, .slice za c.rays.length zc]) (by simp [results, Tryz.results20, go_sem, E0, E1, E2]) rfl ⟨_, rfl, by rw [Hc.out]; exact ⟨xa, _, xc, za, _, zc, rfl, Hl5.out, Hr5.out⟩, Hb5.out⟩
end Go.Proofs.YtlcmhbkmpkcajaaGreatDoor
namespace Go.Proofs.YtlcmhbkmpkcajaaGreatDoor
open Go.RowKit
theorem ins_mem {x a : Vec} {s : List Vec} (h : a ∈ insV x s) : a = x ∨ a ∈ s := by
  unfold insV at h
  rcases List.mem_append.1 h with h1 | h1
  · exact .inr (List.mem_reverse.1 ((List.dropWhile_sublist _).mem (List.mem_reverse.1 h1)))
  · rcases List.mem_cons.1 h1 with h2 | h2
    · exact .inl h2
    · exact .inr (List.mem_reverse.1 ((List.takeWhile_sublist _).mem (List.mem_reverse.1 h2)))
theorem sort_mem : ∀ (l : List Vec), ∀ a ∈ sortV l, a ∈ l := by
  suffices h : ∀ (l s : List Vec), ∀ a ∈ l.foldl (fun s x => insV x s) s, a ∈ s ∨ a ∈ l by
    intro l a ha
    rcases h l [] a ha with h1 | h1
    · cases h1
    · exact h1
  intro l
  induction l with
  | nil => intro s a ha; exact .inl ha
  | cons y l ih =>
    intro s a ha
    rw [List.foldl_cons] at ha
    rcases ih _ a ha with h1 | h1
    · rcases ins_mem h1 with h2 | h2
      · exact .inr (by rw [h2]; exact List.mem_cons_self ..)
      · exact .inl h2
    · exact .inr (List.mem_cons_of_mem _ h1)
theorem bounded_fit {d : Nat} {eqs rows : List Vec} (hC : FitC d eqs rows) : (∀ l ∈ (boundedC d eqs rows).lines, FitV d l) ∧ ∀ r ∈ (boundedC d eqs rows).rays, FitV d r := by
  obtain ⟨hf1, hf2, hf3⟩ := hC
  have hl : ∀ l ∈ (runB d eqs rows).lines, FitV d l := by
    have h1 := FitF.take hf2 (Nat.le_refl _)
    rw [List.take_length] at h1
    exact h1.1
  refine ⟨(reduce_mem (fun a ha => (hl a ha).1) hf3.1).1, fun r hr => ?_⟩
  obtain ⟨x, hx, rfl⟩ := List.mem_map.1 (dedup_mem _ r (sort_mem _ r hr))
  exact (hf3.2 x hx).2
theorem bounded_rays {d : Nat} {eqs rows : List Vec} (hN : FitN d eqs rows) : (boundedC d eqs rows).rays.length ≤ 12 := by
  show (sortV (dedup _)).length ≤ 12
  rw [sort_len]
  exact Nat.le_trans (dedup_len _) (by rw [List.length_map]; exact hN.2.1)
theorem off3 {w : World} {b c : Nat} {cs : Array Value} {T : TypeId} (h : Blk w c cs T) (hne : c ≠ b) (u0 u1 u2 : Value) : Blk (((w.setCell ⟨b, 0, none⟩ u0).setCell ⟨b, 1, none⟩ u1).setCell ⟨b, 2, none⟩ u2) c cs T :=
  ((h.other (p := ⟨b, 0, none⟩) hne u0).other (p := ⟨b, 1, none⟩) hne u1).other (p := ⟨b, 2, none⟩) hne u2
set_option maxHeartbeats 8000000 in
set_option maxRecDepth 10000 in
theorem dual_g (d : Nat) (eqs rows : List Vec) (ev rv : Value) (w : World) (he : Vs w ev eqs) (hr : Vs w rv rows) (hd : d ≤ 8) (hC : FitC d eqs rows) (hN : FitN d eqs rows) (hT : Tab w) :
    Calls Tryz.prog 13 #[.int .i64 (d : Int), ev, rv] w (RetP (fun x w' => ∃ cv, x = .tuple #[cv, .int .i64 0] ∧ CV w' cv (boundedC d eqs rows)) w) := by
  have hA := below1 w (.cells #[.int .i64 0, .slice none 0 0, .slice none 0 0] 27)
  have HB := hI (bounded_g d eqs rows ev rv _ (he.mono hA) (hr.mono hA) hd hC hN (hT.mono hA))
  have hrl := bounded_rays hN
  have HR4 := hI (Blk.new w #[.int .i64 0, .slice none 0 0, .slice none 0 0] 27)
  have Hb1 := hI hA
  obtain ⟨la, lc, rfl, -, -⟩ := he.open
  obtain ⟨ya, yc, rfl, -, -⟩ := hr.open
  generalize boundedC d eqs rows = c at *
  clear he hr hC hN hT hA
  go_enter Tryz.func13, Tryz.ntmps13
  go_upto_region 2 with (go_at_call 20; refine (HB.out).mono ?_; rintro e5 w2 ⟨v2, rfl, hv2, hb2⟩; obtain ⟨xa, xc, za, zc, rfl, hl2, hr2⟩ := hv2.open; have Hl2 := hI hl2; have Hr2 := hI hr2; have HR2 := hI (HR4.out.below hb2); have Hb2 := hI (bw_via Hb1.out hb2); clear hv2 hl2 hr2 hb2)
  have hA := below1 w2 (.cells #[.int .i64 (c.dim : Int), .slice xa c.lines.length xc, .slice za c.rays.length zc] 27)
  have HR3 := hI (HR2.out.below hA)
  have HD3 := hI (Blk.new w2 #[.int .i64 (c.dim : Int), .slice xa c.lines.length xc, .slice za c.rays.length zc] 27)
  have Hl3 := hI (Hl2.out.mono hA)
  have Hr3 := hI (Hr2.out.mono hA)
  have Hb3 := hI (bw_via Hb2.out hA)
  clear hA
  generalize w2.alloc (.cells #[.int .i64 (c.dim : Int), .slice xa c.lines.length xc, .slice za c.rays.length zc] 27) = w3 at *
  generalize w2.heap.size = D8 at *
  obtain ⟨⟨D0, D1, D2⟩, -⟩ := blk3c HD3.out
  obtain ⟨⟨G0, G1, G2⟩, F0, F1, F2⟩ := blk3c HR3.out
  obtain ⟨p1, p2, p3⟩ := cone_put HR3.out (.int .i64 (c.dim : Int)) (.slice xa c.lines.length xc) (.slice za c.rays.length zc)
  have Hp1 := hI p1
  have Hl4 := hI (Hl3.out.keep p2 (by decide) (by decide))
  have Hr4 := hI (Hr3.out.keep p2 (by decide) (by decide))
  have Hb4 := hI (p3 w.heap.size w (Nat.le_refl _) Hb3.out)
  clear p1 p2 p3
  have hri : ¬ (256 : Int) < (c.rays.length : Int) := by omega
  have hri2 : decide ((256 : Int) < (c.rays.length : Int)) = false := decide_eq_false hri
  go_wp2_with fail
  obtain ⟨⟨E0, E1, E2⟩, -⟩ := blk3c Hp1.out
  exact bodyPost_ret (v := .tuple #[.agg #[.int .i64 (c.dim : Int), .slice xa c.lines.length xc, .slice za c.rays.length zc], .int .i64 0]) (by simp [results, Tryz.results13, go_sem, E0, E1, E2]) rfl ⟨_, rfl, ⟨_, rfl, xa, _, xc, za, _, zc, rfl, Hl4.out, Hr4.out⟩, Hb4.out⟩
set_option maxHeartbeats 8000000 in
set_option maxRecDepth 10000 in
theorem generated_g (d : Nat) (eqs rows : List Vec) (ev rv : Value) (w : World) (he : Vs w ev eqs) (hr : Vs w rv rows) (hd : d ≤ 8) (hC : FitC d eqs rows) (hN : FitN d eqs rows)
    (hC2 : FitC d (boundedC d eqs rows).lines (boundedC d eqs rows).rays) (hN2 : FitN d (boundedC d eqs rows).lines (boundedC d eqs rows).rays) (hT : Tab w) :
    Calls Tryz.prog 12 #[.int .i64 (d : Int), ev, rv] w (RetP (fun x w' => ∃ cv, x = .tuple #[cv, .int .i64 0] ∧ CV w' cv (generatedC d eqs rows)) w) := by
  have hA := below1 w (.cells #[.int .i64 0, .slice none 0 0, .slice none 0 0] 27)
  have HDu := hI (dual_g d eqs rows ev rv _ (he.mono hA) (hr.mono hA) hd hC hN (hT.mono hA))
  have hfit := bounded_fit hC
  have hrl := bounded_rays hN
  have hll := hN2.2.2
  rw [rowsOf_len] at hll
  have HG := hI (show generatedC d eqs rows = boundedC d (boundedC d eqs rows).lines (boundedC d eqs rows).rays from rfl)
  have HR4 := hI (Blk.new w #[.int .i64 0, .slice none 0 0, .slice none 0 0] 27)
  have Hb1 := hI hA
  have HTb := hI hT
  obtain ⟨la, lc, rfl, -, -⟩ := he.open
  obtain ⟨ya, yc, rfl, -, -⟩ := hr.open
  rw [HG.out]
  generalize boundedC d eqs rows = c at *
  have HD2 := hI (fun w' u v (hu : Vs w' u c.lines) (hv : Vs w' v c.rays) (ht : Tab w') => dual_g d c.lines c.rays u v w' hu hv hd hC2 hN2 ht)
  have HTr := hI (fun w' u vs (hu : TVs w' u vs) (hz : ∀ v ∈ vs, FitV d v) (hn : vs.length ≤ 1000) => trusted_g u vs d vs.length w' hu rfl hn (by omega) hz)
  have Hf1 := hI hfit.1
  have Hf2 := hI hfit.2
  clear he hr hC hN hC2 hN2 hT hA hfit HG
  generalize hc2 : boundedC d c.lines c.rays = c2 at *
  have Hc2 := hI hc2
  clear hc2
  go_enter Tryz.func12, Tryz.ntmps12
  go_upto_region 2 with (go_at_call 13; refine (HDu.out).mono ?_; rintro e5 w2 ⟨v2, rfl, ⟨cv, rfl, hv2⟩, hb2⟩; obtain ⟨xa, xc, za, zc, rfl, hl2, hr2⟩ := hv2.open; have Hl2 := hI hl2; have Hr2 := hI hr2; have HR2 := hI (HR4.out.below hb2); have Hb2 := hI (bw_via Hb1.out hb2); clear hv2 hl2 hr2 hb2)
  have hA := below1 w2 (.cells #[.int .i64 (c.dim : Int), .slice xa c.lines.length xc, .slice za c.rays.length zc] 27)
  have HR3 := hI (HR2.out.below hA)
  have HD3 := hI (Blk.new w2 #[.int .i64 (c.dim : Int), .slice xa c.lines.length xc, .slice za c.rays.length zc] 27)
  have Hl3 := hI (Hl2.out.mono hA)
  have Hr3 := hI (Hr2.out.mono hA)
  have Hb3 := hI (bw_via Hb2.out hA)
  have HwD := hI (show w.heap.size < w2.heap.size from HR2.out.lt)
  clear hA
  generalize w2.alloc (.cells #[.int .i64 (c.dim : Int), .slice xa c.lines.length xc, .slice za c.rays.length zc] 27) = w3 at *
  generalize w2.heap.size = D8 at *
  obtain ⟨⟨D0, D1, D2⟩, -⟩ := blk3c HD3.out
  have HS4 := hI (fun w' (hb : Below w3.heap.size w3 w') => show (fun w' => w'.cell? ⟨D8, 1, none⟩ = some (.slice xa c.lines.length xc) ∧ w'.cell? ⟨D8, 2, none⟩ = some (.slice za c.rays.length zc)) w' from ⟨cell_keep hb D1, cell_keep hb D2⟩)
  clear D0 D1 D2
  go_wp2_with fail
  refine wp_region_held_drew (S := (fun w' => w'.cell? ⟨D8, 1, none⟩ = some (.slice xa c.lines.length xc) ∧ w'.cell? ⟨D8, 2, none⟩ = some (.slice za c.rays.length zc))) (by kernel_rfl) (by exact (HS4.out _ ((Below.refl _ _).drew))) (fun hHeld => ?_)
  refine' tk 0 ?_; (try simp only [tkS]); refine' tk 1 ?_; (try simp only [tkS]); refine' tk 2 ?_; (try simp only [tkS]); refine' tk 4 ?_; (try simp only [tkS]); refine' tk 5 ?_; (try simp only [tkS])
  refine tk1 3 (fun K hK => ?_)
  go_simp
  go_at_call 19
  refine (HTr.out _ _ _ (Hl3.out.mono ((Below.refl _ _).drew)) Hf1.out (by omega)).mono ?_
  rintro e5 w5 ⟨v5, rfl, hv5, hb5⟩
  have Hb5 := hI (bw_via ((Below.refl _ _).drew) hb5)
  obtain ⟨pa5, pc5, rfl, -, -⟩ := hv5.open
  have Hv5 := hI hv5.vs
  clear hv5 hb5
  refine hK.out _ _ (by exact (HS4.out _ (Hb5.out))) (fun hHeld => ?_)
  clear hK K; (try simp only [tkS])
  refine tk1 6 (fun K hK => ?_)
  go_simp
  go_at_call 19
  refine (HTr.out _ _ _ (Hr3.out.mono (Hb5.out)) Hf2.out (by omega)).mono ?_
  rintro e5 w6 ⟨v6, rfl, hv6, hb6⟩
  have Hb6 := hI (bw_via (Hb5.out) hb6)
  have Hv5 := hI (Hv5.out.mono hb6)
  obtain ⟨pa6, pc6, rfl, -, -⟩ := hv6.open
  have Hv6 := hI hv6.vs
  clear hv6 hb6
  refine hK.out _ _ (by exact (HS4.out _ (Hb6.out))) (fun hHeld => ?_)
  clear hK K; (try simp only [tkS])
  refine tk1 7 (fun K hK => ?_)
  go_simp
  go_at_call 13
  refine (HD2.out _ _ _ Hv5.out Hv6.out (HTb.out.mono (bw_via Hb3.out (Hb6.out)))).mono ?_
  rintro e5 w7 ⟨v7, rfl, ⟨cv7, rfl, hv7⟩, hb7⟩
  obtain ⟨ma, mc, na, nc, rfl, hl7, hr7⟩ := hv7.open
  have Hb7 := hI (bw_via (Hb6.out) hb7)
  obtain ⟨p1, p2, p3⟩ := cone_put (HR3.out.below Hb7.out) (.int .i64 (c2.dim : Int)) (.slice ma c2.lines.length mc) (.slice na c2.rays.length nc)
  have Hp1 := hI p1
  have Hl9 := hI (hl7.keep p2 (by decide) (by decide))
  have Hr9 := hI (hr7.keep p2 (by decide) (by decide))
  have Hb9 := hI (p3 w.heap.size w (Nat.le_refl _) (bw_via Hb3.out Hb7.out))
  clear hv7 hl7 hr7 hb7 p1 p2 p3
  obtain ⟨⟨G0, G1, G2⟩, F0, F1, F2⟩ := blk3c (HR3.out.below Hb7.out)
  refine hK.out _ _ (by exact (HS4.out _ (Hb7.out))) (fun hHeld => ?_)
  clear hK K; (try simp only [tkS])
  refine' tk 8 ?_; (try simp only [tkS]); refine' tk 9 ?_; (try simp only [tkS])
  refine tk1 10 (fun K hK => ?_)
  go_simp
  refine hK.out _ _ (by exact (by obtain ⟨⟨j0, j1, j2⟩, -⟩ := blk3c (off3 (HD3.out.below Hb7.out) (Nat.ne_of_gt HwD.out) (.int .i64 (c2.dim : Int)) (.slice ma c2.lines.length mc) (.slice na c2.rays.length nc)); exact ⟨j1, j2⟩)) (fun hHeld => ?_)
  clear hK K; (try simp only [tkS])
  refine' tk 11 ?_; (try simp only [tkS])
  refine tkD ?_ _
  go_wp2_with fail
  obtain ⟨⟨E0, E1, E2⟩, -⟩ := blk3c Hp1.out
  exact bodyPost_ret (v := .tuple #[.agg #[.int .i64 (c2.dim : Int), .slice ma c2.lines.length mc, .slice na c2.rays.length nc], .int .i64 0]) (by simp [results, Tryz.results12, go_sem, E0, E1, E2]) rfl ⟨_, rfl, ⟨_, rfl, ma, _, mc, na, _, nc, rfl, Hl9.out, Hr9.out⟩, Hb9.out⟩
end Go.Proofs.YtlcmhbkmpkcajaaGreatDoor
