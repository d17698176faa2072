/-
  Parts of the proof: Scale, Plus, Minus.
-/
import Derived.Test.YtlcmhbkmpkcajaaGreatDoorN02
namespace Go.Proofs.YtlcmhbkmpkcajaaGreatDoor
open Go.RowKit
def MagV (w : World) (v : Value) (N : Nat) : Prop := ∃ a c, v = .slice a (limbs N).length c ∧ Ls w (.slice a (limbs N).length c) (limbs N)
theorem MagV.mono {w w' : World} {v : Value} {N : Nat} (h : MagV w v N) (hb : Below w.heap.size w w') : MagV w' v N := by
  obtain ⟨a, c, hv, h⟩ := h
  exact ⟨a, c, hv, h.mono hb⟩
def Out (M : Nat) (w : World) (g : Nat) (xs : List Nat) : Prop := w.ownsRow M 110 1 (.slice (some ⟨g, 0, none⟩) xs.length xs.length) xs.length (u32s xs)
theorem Out.cell {M : Nat} {w : World} {g : Nat} {xs : List Nat} (h : Out M w g xs) {i d : Nat} (hd : xs[i]? = some d) : w.cell? ⟨g, i, none⟩ = some (.int .u32 (d : Int)) ∧ w.frozen? ⟨g, i, none⟩ = false := by
  constructor
  · have hS : Ls w (.slice (some ⟨g, 0, none⟩) xs.length xs.length) xs := ⟨Sl.own1 h, (own_au h).av⟩
    obtain ⟨b, off, d', ha, hd', hc⟩ := hS.at (Below.refl _ _) (lt_get hd)
    cases ha
    rw [hd] at hd'
    cases hd'
    rwa [Nat.zero_add] at hc
  · rcases h.2 with ⟨h1, h0⟩ | ⟨g', cap', cur, h1, hb, hg, _⟩
    · cases h1
    · cases h1
      exact frozen_of_row w g _ _ _ hg
theorem Out.set {M : Nat} {w : World} {g : Nat} {xs : List Nat} (h : Out M w g xs) {i : Nat} (hi : i < xs.length) (d : Nat) : Out M (w.setCell ⟨g, i, none⟩ (.int .u32 (d : Int))) g (xs.set i d) := by
  have h1 := own_setCell h (i := i) (by omega) (.int .u32 (d : Int))
  unfold Out
  rw [List.length_set]
  have e : u32s (xs.set i d) = (u32s xs).set i (.int .u32 (d : Int)) := by unfold u32s; rw [List.map_set]
  rw [e]
  exact h1
theorem Out.au {M : Nat} {w : World} {g : Nat} {xs : List Nat} (h : Out M w g xs) : AU w (some ⟨g, 0, none⟩) := fun p hp => by
  cases hp
  rcases h.2 with ⟨hv, _⟩ | ⟨g', cap, cur, hv, -, hgb, -⟩
  · cases hv
  · cases hv
    exact ⟨cur, hgb⟩
theorem Out.ls {M : Nat} {w : World} {g : Nat} {xs : List Nat} (h : Out M w g xs) : Ls w (.slice (some ⟨g, 0, none⟩) xs.length xs.length) xs := ⟨Sl.own1 h, (own_au h).av⟩
theorem Out.below {M : Nat} {w w' : World} {g : Nat} {xs : List Nat} (h : Out M w g xs) (hb : Below w.heap.size w w') : Out M w' g xs := own_below h hb
theorem Out.ge {M : Nat} {w : World} {g : Nat} {xs : List Nat} (h : Out M w g xs) : M ≤ g := (h.lt g rfl).1
theorem made_u32 (n : Nat) : (madeCells (Value.int .u32 0).cells (n * 1)).toList = u32s (List.replicate n 0) := by
  simp only [madeCells, Value.cells, Nat.mul_one, u32s, List.map_replicate]
  apply List.ext_getElem <;> simp
  intro i hi
  simp [Nat.mod_one]
theorem Out.made {M : Nat} {w : World} {g n : Nat} (h : w.ownsRow M 110 1 (.slice (some ⟨g, 0, none⟩) n n) n (madeCells (Value.int .u32 0).cells (n * 1)).toList) : Out M w g (List.replicate n 0) := by
  rw [made_u32] at h
  unfold Out
  rw [List.length_replicate]
  exact h
theorem Out.next {M : Nat} {w : World} {g n : Nat} {done : List Nat} (h : Out M w g (done ++ List.replicate (n + 1) 0)) : w.cell? ⟨g, done.length, none⟩ = some (.int .u32 0) ∧ w.frozen? ⟨g, done.length, none⟩ = false := by
  have := h.cell (i := done.length) (d := 0) (by rw [List.getElem?_append_right (Nat.le_refl _), Nat.sub_self]; rfl)
  exact this
theorem Out.write {M : Nat} {w : World} {g n : Nat} {done : List Nat} (h : Out M w g (done ++ List.replicate (n + 1) 0)) (d : Nat) : Out M (w.setCell ⟨g, done.length, none⟩ (.int .u32 (d : Int))) g ((done ++ [d]) ++ List.replicate n 0) := by
  have := h.set (i := done.length) (by simp) d
  rwa [put_done] at this
def MagA (w : World) (v : Value) (N : Nat) : Prop := ∃ a c, v = .slice a (limbs N).length c ∧ Ls w (.slice a (limbs N).length c) (limbs N) ∧ AU w a
theorem MagA.mag {w : World} {v : Value} {N : Nat} (h : MagA w v N) : MagV w v N := by
  obtain ⟨a, c, hv, h, -⟩ := h
  exact ⟨a, c, hv, h⟩
set_option maxHeartbeats 4000000 in
theorem scale_at (a : Option Addr) (n c : Nat) (l : List Nat) (by' plus : Nat) (w : World) (hL : Ls w (.slice a n c) l) (hd : Dg l) (hn1 : l.length < 1000000) (hby : by' < 4294967296) (hplus : plus < 4294967296) :
    Calls Tryz.prog 115 #[.slice a n c, .int .u32 (by' : Int), .int .u32 (plus : Int)] w (RetP (fun v w' => MagA w' v (natL l * by' + plus)) w) := by
  obtain ⟨_, _, hq, hc1, hc2⟩ := hL.open
  cases hq
  unfold maxLen at hc2
  have hi : (Tryz.prog.info? 110).map (fun i => (i.zero, i.size, i.bytes)) = some (some (.int .u32 0), 1, 4) := by kernel_rfl
  obtain ⟨i4, hi4, hz0, hz1, hz2⟩ := info_parts hi
  clear hi
  have HL := hI hL
  have Hd := hI hd
  clear hL hd
  generalize hn : l.length = n at *
  have Hn := hI hn
  clear hn
  go_enter Tryz.func115, Tryz.ntmps115
  go_wp2_with (at_make; refine wpList_make_full _ rfl _ _ 57 rfl (w.heap.size) 110 i4 (.int .u32 0) 1 Tryz.underlying57 hi4 hz0 hz1 .i64 .i64 _ _ (n + 1) rfl rfl (by omega) (by omega) (by rw [hz2]; omega) (by unfold maxLen; omega) (by simp) ?_; intro w1 hown hg)
  have hO := Out.made hown
  have hb1 : Below w.heap.size w w1 := (Below.refl _ _).grown hg (Nat.le_refl _) (fun b hb => by cases hb)
  clear hown hg hi4 hz0 hz1 hz2
  go_loopw [8, 9, 10, 19] (fun cv _ _ i wr => ∃ (k cr : Nat) (done : List Nat), k ≤ n ∧ i = .int .i64 k ∧ cv = .int .u64 (cr : Int) ∧ cr < 4294967296 ∧ Below w.heap.size w wr ∧ Out w.heap.size wr w.heap.size (done ++ List.replicate (n + 1 - k) 0) ∧ Hid (done.length = k ∧ Dg done ∧ natL done + 4294967296 ^ k * cr = natL (l.take k) * by' + plus)) (fun _ _ _ i _ => n - (intOf i).toNat)
  case atStart => exact ⟨0, plus, [], Nat.zero_le _, rfl, rfl, hplus, hb1, hO, rfl, (fun d hd => by simp at hd), by simp [natL]⟩
  case round =>
    clear hO hb1
    obtain ⟨k, cr, done, hk, rfl, rfl, hcr, hbw, hO, hpre⟩ := hrel
    by_cases hlt : k < n
    · obtain ⟨b, off, d, rfl, hdk, c0⟩ := HL.out.at hbw hlt
      have Hdk := hI hdk
      have hdlt := Hd.out d (List.mem_of_getElem? hdk)
      have hm : d * by' ≤ 4294967295 * 4294967295 := Nat.mul_le_mul (by omega) (by omega)
      obtain ⟨p, hp⟩ : ∃ p, d * by' = p := ⟨_, rfl⟩
      have hpi : (d : Int) * (by' : Int) = (p : Int) := by rw [← hp]; push_cast; rfl
      rw [hp] at hm
      obtain ⟨t, ht⟩ : ∃ t, cr + p = t := ⟨_, rfl⟩
      have hw1 : IntKind.u64.wrap ((d : Int) * (by' : Int)) = (p : Int) := by rw [hpi]; exact IntWalk.u64_in _ (by omega)
      have hw2 : IntKind.u64.wrap ((cr : Int) + (p : Int)) = (t : Int) := by rw [← ht]; exact (IntWalk.u64_in _ (by omega)).trans (by omega)
      have hO2 := hO
      rw [show n + 1 - k = (n - k) + 1 by omega] at hO2
      obtain ⟨g0, g1⟩ := hO2.next
      rw [hpre.out.1] at g0 g1
      have e1 : ((t % 4294967296 : Nat) : Int) = (t : Int) % 4294967296 := by omega
      have e2 : ((t / 4294967296 : Nat) : Int) = (t : Int) / 4294967296 := by omega
      have hwr := hO2.write (t % 4294967296)
      rw [hpre.out.1, e1] at hwr
      have Hwr := hI hwr
      have Hbw := hI (hbw.setCell (p := ⟨w.heap.size, k, none⟩) (Nat.le_refl _) (.int .u32 ((t : Int) % 4294967296)))
      have htlt : t / 4294967296 < 4294967296 := by omega
      have Hst := hI (carry_step (T := p) (t := t) hpre.out.1 hpre.out.2.2 ht.symm)
      have hkk0 : (0 : Int) ≤ (k : Int) := Int.natCast_nonneg _
      have hkk1 : (k : Int) < (n : Int) := by omega
      have Hp := hI hp
      have Ht := hI ht
      have HO := hI hO
      clear hO2 hwr hdk hm hpi hp ht hO
      go_wp2_with fail
      go_roundw
      case rel =>
        refine ⟨k + 1, t / 4294967296, done ++ [t % 4294967296], by omega, by go_num, by rw [e2], htlt, Hbw.out, by rw [show n + 1 - (k + 1) = n - k by omega]; exact Hwr.out, by rw [List.length_append, hpre.out.1]; rfl, hpre.out.2.1.append (Dg.one (Nat.mod_lt _ (by decide))), ?_⟩
        rw [Hst.out, take_next Hdk.out, Nat.add_mul, ← Hp.out, ← Nat.mul_assoc]
        omega
      case measure => simp [intOf]; omega
    · obtain rfl : k = n := by omega
      have hO2 := hO
      rw [show k + 1 - k = 0 + 1 by omega] at hO2
      obtain ⟨g0, g1⟩ := hO2.next
      have hwr := hO2.write cr
      rw [hpre.out.1] at g0 g1 hwr
      rw [List.replicate_zero, List.append_nil] at hwr
      have hbel := hbw.setCell (p := ⟨w.heap.size, k, none⟩) (Nat.le_refl _) (.int .u32 (cr : Int))
      have hdg : Dg (done ++ [cr]) := hpre.out.2.1.append (Dg.one hcr)
      have hnat : natL (done ++ [cr]) = natL l * by' + plus := by
        rw [natL_snoc, hpre.out.1, hpre.out.2.2, ← Hn.out, List.take_length]
      have hlen : (done ++ [cr]).length = k + 1 := by rw [List.length_append, hpre.out.1]; rfl
      have hls := hwr.ls
      rw [hlen] at hls
      have H := trim_any _ _ _ _ _ hls hdg
      rw [hnat] at H
      have HT := hI H
      have Hbel := hI hbel
      have HAU := hI (Out.au hwr)
      have hwc : IntKind.u32.wrap (cr : Int) = cr := IntWalk.u32_in _ (by omega)
      have hcm : (cr : Int) % 4294967296 = cr := by omega
      clear hO hO2 hwr hbel hdg hnat hlen hls H
      go_wp2_with (go_at_call 96; refine (HT.out).mono ?_; rintro e w2 ⟨rfl, hl2, hb2⟩)
      go_ret
      exact ⟨_, rfl, ⟨_, _, rfl, hl2.mono hb2, HAU.out.mono hb2⟩, Hbel.out.via hb2 Hbel.out.size⟩
end Go.Proofs.YtlcmhbkmpkcajaaGreatDoor
namespace Go.Proofs.YtlcmhbkmpkcajaaGreatDoor
open Go.RowKit
def RawV (w : World) (v : Value) (N k : Nat) : Prop := ∃ xs a c, v = .slice a xs.length c ∧ Ls w (.slice a xs.length c) xs ∧ Dg xs ∧ natL xs = N ∧ xs.length ≤ k
set_option maxHeartbeats 4000000 in
theorem plus_any (a b : Option Addr) (n m c c' : Nat) (l l' : List Nat) (w : World) (hL : Ls w (.slice a n c) l) (hM : Ls w (.slice b m c') l') (hd : Dg l) (hd' : Dg l') (hn1 : l.length < 1000000) (hm1 : l'.length < 1000000) :
    Calls Tryz.prog 93 #[.slice a n c, .slice b m c'] w (RetP (fun v w' => RawV w' v (natL l + natL l') (max l.length l'.length + 1)) w) := by
  obtain ⟨_, _, hq, hc1, hc2⟩ := hL.open
  cases hq
  obtain ⟨_, _, hq, hc3, hc4⟩ := hM.open
  cases hq
  unfold maxLen at hc2 hc4
  have hi : (Tryz.prog.info? 110).map (fun i => (i.zero, i.size, i.bytes)) = some (some (.int .u32 0), 1, 4) := by kernel_rfl
  obtain ⟨i4, hi4, hz0, hz1, hz2⟩ := info_parts hi
  clear hi
  have HL := hI hL
  have HM := hI hM
  have Hd := hI hd
  have Hd' := hI hd'
  clear hL hM hd hd'
  generalize hn : l.length = n at *
  generalize hm : l'.length = m at *
  have Hn := hI hn
  have Hm := hI hm
  clear hn hm
  by_cases hnm : n < m
  · have hnm2 : (n : Int) < (m : Int) := by omega
    go_enter Tryz.func93, Tryz.ntmps93
    go_wp2_with (at_make; refine wpList_make_full _ rfl _ _ 57 rfl (w.heap.size) 110 i4 (.int .u32 0) 1 Tryz.underlying57 hi4 hz0 hz1 .i64 .i64 _ _ (m + 1) rfl rfl (by omega) (by omega) (by rw [hz2]; omega) (by unfold maxLen; omega) (by simp) ?_; intro w1 hown hg)
    have hO := Out.made hown
    have hb1 : Below w.heap.size w w1 := (Below.refl _ _).grown hg (Nat.le_refl _) (fun b hb => by cases hb)
    clear hown hg hi4 hz0 hz1 hz2
    go_loopw [6, 7, 8, 22] (fun cv _ _ i wr => ∃ (k cr : Nat) (done : List Nat), k ≤ m ∧ i = .int .i64 k ∧ cv = .int .u64 (cr : Int) ∧ cr < 4294967296 ∧ Below w.heap.size w wr ∧ Out w.heap.size wr w.heap.size (done ++ List.replicate (m + 1 - k) 0) ∧ Hid (done.length = k ∧ Dg done ∧ natL done + 4294967296 ^ k * cr = natL (l'.take k) + natL (l.take k))) (fun _ _ _ i _ => m - (intOf i).toNat)
    case atStart => exact ⟨0, 0, [], Nat.zero_le _, rfl, rfl, by decide, hb1, hO, rfl, (fun d hd => by simp at hd), by simp [natL]⟩
    case round =>
      clear hO hb1
      obtain ⟨k, cr, done, hk, rfl, rfl, hcr, hbw, hO, hpre⟩ := hrel
      by_cases hlt : k < m
      · obtain ⟨b1, off, d, rfl, hdk, c0⟩ := HM.out.at hbw hlt
        have Hdk := hI hdk
        have hdlt := Hd'.out d (List.mem_of_getElem? hdk)
        have hO2 := hO
        rw [show m + 1 - k = (m - k) + 1 by omega] at hO2
        obtain ⟨g0, g1⟩ := hO2.next
        rw [hpre.out.1] at g0 g1
        have hkk0 : (0 : Int) ≤ (k : Int) := Int.natCast_nonneg _
        have hkk1 : (k : Int) < (m : Int) := by omega
        have hu : IntKind.u64.wrap ((cr : Int) + (d : Int)) = ((cr + d : Nat) : Int) := (IntWalk.u64_in _ (by omega)).trans (by omega)
        obtain ⟨s, hs⟩ : ∃ s, cr + d = s := ⟨_, rfl⟩
        rw [hs] at hu
        have hslt : s < 8589934592 := by omega
        have Hs := hI hs
        clear hs hdk
        by_cases hkm : k < n
        · obtain ⟨b2, off2, e, rfl, hek, d0⟩ := HL.out.at hbw hkm
          have Hek := hI hek
          have helt := Hd.out e (List.mem_of_getElem? hek)
          have hkk2 : (k : Int) < (n : Int) := by omega
          obtain ⟨t, ht⟩ : ∃ t, s + e = t := ⟨_, rfl⟩
          have hu2 : IntKind.u64.wrap ((s : Int) + (e : Int)) = (t : Int) := by rw [← ht]; exact (IntWalk.u64_in _ (by omega)).trans (by omega)
          have Hst := hI (carry_step (T := d + e) (t := t) hpre.out.1 hpre.out.2.2 (by have := Hs.out; omega))
          have Htk := hI (show natL (l'.take (k + 1)) + natL (l.take (k + 1)) = natL (l'.take k) + natL (l.take k) + 4294967296 ^ k * (d + e) by rw [take_next Hdk.out, take_next Hek.out, Nat.mul_add]; omega)
          have htlt : t / 4294967296 < 4294967296 := by omega
          clear ht hek
          have e1 : ((t % 4294967296 : Nat) : Int) = (t : Int) % 4294967296 := by omega
          have e2 : ((t / 4294967296 : Nat) : Int) = (t : Int) / 4294967296 := by omega
          have hwr := hO2.write (t % 4294967296)
          rw [hpre.out.1, e1] at hwr
          have Hwr := hI hwr
          have Hbw := hI (hbw.setCell (p := ⟨w.heap.size, k, none⟩) (Nat.le_refl _) (.int .u32 ((t : Int) % 4294967296)))
          clear hO2 hwr hO
          go_wp2_with fail
          go_roundw
          case rel =>
            refine ⟨k + 1, t / 4294967296, done ++ [t % 4294967296], by omega, by go_num, by rw [e2], htlt, Hbw.out, by rw [show m + 1 - (k + 1) = m - k by omega]; exact Hwr.out, by rw [List.length_append, hpre.out.1]; rfl, hpre.out.2.1.append (Dg.one (Nat.mod_lt _ (by decide))), ?_⟩
            rw [Hst.out, Htk.out]
          case measure => simp [intOf]; omega
        · have hkk2 : ¬ (k : Int) < (n : Int) := by omega
          obtain ⟨t, ht⟩ : ∃ t, s = t := ⟨_, rfl⟩
          subst ht
          have Hst := hI (carry_step (T := d) (t := s) hpre.out.1 hpre.out.2.2 (by have := Hs.out; omega))
          have Htk := hI (show natL (l'.take (k + 1)) + natL (l.take (k + 1)) = natL (l'.take k) + natL (l.take k) + 4294967296 ^ k * d by rw [take_next Hdk.out, List.take_of_length_le (l := l) (by rw [Hn.out]; omega), List.take_of_length_le (l := l) (by rw [Hn.out]; omega)]; omega)
          have htlt : s / 4294967296 < 4294967296 := by omega
          have e1 : ((s % 4294967296 : Nat) : Int) = (s : Int) % 4294967296 := by omega
          have e2 : ((s / 4294967296 : Nat) : Int) = (s : Int) / 4294967296 := by omega
          have hwr := hO2.write (s % 4294967296)
          rw [hpre.out.1, e1] at hwr
          have Hwr := hI hwr
          have Hbw := hI (hbw.setCell (p := ⟨w.heap.size, k, none⟩) (Nat.le_refl _) (.int .u32 ((s : Int) % 4294967296)))
          clear hO2 hwr hO
          go_wp2_with fail
          go_roundw
          case rel =>
            refine ⟨k + 1, s / 4294967296, done ++ [s % 4294967296], by omega, by go_num, by rw [e2], htlt, Hbw.out, by rw [show m + 1 - (k + 1) = m - k by omega]; exact Hwr.out, by rw [List.length_append, hpre.out.1]; rfl, hpre.out.2.1.append (Dg.one (Nat.mod_lt _ (by decide))), ?_⟩
            rw [Hst.out, Htk.out]
          case measure => simp [intOf]; omega
      · obtain rfl : k = m := by omega
        have hO2 := hO
        rw [show k + 1 - k = 0 + 1 by omega] at hO2
        obtain ⟨g0, g1⟩ := hO2.next
        have hwr := hO2.write cr
        rw [hpre.out.1] at g0 g1 hwr
        rw [List.replicate_zero, List.append_nil] at hwr
        have hbel := hbw.setCell (p := ⟨w.heap.size, k, none⟩) (Nat.le_refl _) (.int .u32 (cr : Int))
        have hdg : Dg (done ++ [cr]) := hpre.out.2.1.append (Dg.one hcr)
        have hnat : natL (done ++ [cr]) = natL l + natL l' := by
          rw [natL_snoc, hpre.out.1, hpre.out.2.2, List.take_of_length_le (l := l') (by rw [Hm.out]; omega), List.take_of_length_le (l := l) (by rw [Hn.out]; omega)]; exact Nat.add_comm _ _
        have hlen : (done ++ [cr]).length = k + 1 := by rw [List.length_append, hpre.out.1]; rfl
        have hls := hwr.ls
        have Hls := hI hls
        have Hbel := hI hbel
        have hcm : (cr : Int) % 4294967296 = cr := by omega
        have hmx : k + 1 ≤ max n k + 1 := by omega
        have Hlen := hI hlen
        have Hdg := hI hdg
        have Hnat := hI hnat
        clear hO hO2 hwr hbel hdg hnat hlen hls
        go_wp2_with fail
        go_ret
        exact ⟨_, by rw [← Hlen.out]; rfl, ⟨done ++ [cr], _, _, rfl, Hls.out, Hdg.out, Hnat.out, by rw [Hlen.out]; exact hmx⟩, Hbel.out⟩
  · have hnm2 : ¬ (n : Int) < (m : Int) := by omega
    go_enter Tryz.func93, Tryz.ntmps93
    go_wp2_with (at_make; refine wpList_make_full _ rfl _ _ 57 rfl (w.heap.size) 110 i4 (.int .u32 0) 1 Tryz.underlying57 hi4 hz0 hz1 .i64 .i64 _ _ (n + 1) rfl rfl (by omega) (by omega) (by rw [hz2]; omega) (by unfold maxLen; omega) (by simp) ?_; intro w1 hown hg)
    have hO := Out.made hown
    have hb1 : Below w.heap.size w w1 := (Below.refl _ _).grown hg (Nat.le_refl _) (fun b hb => by cases hb)
    clear hown hg hi4 hz0 hz1 hz2
    go_loopw [6, 7, 8, 22] (fun cv _ _ i wr => ∃ (k cr : Nat) (done : List Nat), k ≤ n ∧ i = .int .i64 k ∧ cv = .int .u64 (cr : Int) ∧ cr < 4294967296 ∧ Below w.heap.size w wr ∧ Out w.heap.size wr w.heap.size (done ++ List.replicate (n + 1 - k) 0) ∧ Hid (done.length = k ∧ Dg done ∧ natL done + 4294967296 ^ k * cr = natL (l.take k) + natL (l'.take k))) (fun _ _ _ i _ => n - (intOf i).toNat)
    case atStart => exact ⟨0, 0, [], Nat.zero_le _, rfl, rfl, by decide, hb1, hO, rfl, (fun d hd => by simp at hd), by simp [natL]⟩
    case round =>
      clear hO hb1
      obtain ⟨k, cr, done, hk, rfl, rfl, hcr, hbw, hO, hpre⟩ := hrel
      by_cases hlt : k < n
      · obtain ⟨b1, off, d, rfl, hdk, c0⟩ := HL.out.at hbw hlt
        have Hdk := hI hdk
        have hdlt := Hd.out d (List.mem_of_getElem? hdk)
        have hO2 := hO
        rw [show n + 1 - k = (n - k) + 1 by omega] at hO2
        obtain ⟨g0, g1⟩ := hO2.next
        rw [hpre.out.1] at g0 g1
        have hkk0 : (0 : Int) ≤ (k : Int) := Int.natCast_nonneg _
        have hkk1 : (k : Int) < (n : Int) := by omega
        have hu : IntKind.u64.wrap ((cr : Int) + (d : Int)) = ((cr + d : Nat) : Int) := (IntWalk.u64_in _ (by omega)).trans (by omega)
        obtain ⟨s, hs⟩ : ∃ s, cr + d = s := ⟨_, rfl⟩
        rw [hs] at hu
        have hslt : s < 8589934592 := by omega
        have Hs := hI hs
        clear hs hdk
        by_cases hkm : k < m
        · obtain ⟨b2, off2, e, rfl, hek, d0⟩ := HM.out.at hbw hkm
          have Hek := hI hek
          have helt := Hd'.out e (List.mem_of_getElem? hek)
          have hkk2 : (k : Int) < (m : Int) := by omega
          obtain ⟨t, ht⟩ : ∃ t, s + e = t := ⟨_, rfl⟩
          have hu2 : IntKind.u64.wrap ((s : Int) + (e : Int)) = (t : Int) := by rw [← ht]; exact (IntWalk.u64_in _ (by omega)).trans (by omega)
          have Hst := hI (carry_step (T := d + e) (t := t) hpre.out.1 hpre.out.2.2 (by have := Hs.out; omega))
          have Htk := hI (show natL (l.take (k + 1)) + natL (l'.take (k + 1)) = natL (l.take k) + natL (l'.take k) + 4294967296 ^ k * (d + e) by rw [take_next Hdk.out, take_next Hek.out, Nat.mul_add]; omega)
          have htlt : t / 4294967296 < 4294967296 := by omega
          clear ht hek
          have e1 : ((t % 4294967296 : Nat) : Int) = (t : Int) % 4294967296 := by omega
          have e2 : ((t / 4294967296 : Nat) : Int) = (t : Int) / 4294967296 := by omega
          have hwr := hO2.write (t % 4294967296)
          rw [hpre.out.1, e1] at hwr
          have Hwr := hI hwr
          have Hbw := hI (hbw.setCell (p := ⟨w.heap.size, k, none⟩) (Nat.le_refl _) (.int .u32 ((t : Int) % 4294967296)))
          clear hO2 hwr hO
          go_wp2_with fail
          go_roundw
          case rel =>
            refine ⟨k + 1, t / 4294967296, done ++ [t % 4294967296], by omega, by go_num, by rw [e2], htlt, Hbw.out, by rw [show n + 1 - (k + 1) = n - k by omega]; exact Hwr.out, by rw [List.length_append, hpre.out.1]; rfl, hpre.out.2.1.append (Dg.one (Nat.mod_lt _ (by decide))), ?_⟩
            rw [Hst.out, Htk.out]
          case measure => simp [intOf]; omega
        · have hkk2 : ¬ (k : Int) < (m : Int) := by omega
          obtain ⟨t, ht⟩ : ∃ t, s = t := ⟨_, rfl⟩
          subst ht
          have Hst := hI (carry_step (T := d) (t := s) hpre.out.1 hpre.out.2.2 (by have := Hs.out; omega))
          have Htk := hI (show natL (l.take (k + 1)) + natL (l'.take (k + 1)) = natL (l.take k) + natL (l'.take k) + 4294967296 ^ k * d by rw [take_next Hdk.out, List.take_of_length_le (l := l') (by rw [Hm.out]; omega), List.take_of_length_le (l := l') (by rw [Hm.out]; omega)]; omega)
          have htlt : s / 4294967296 < 4294967296 := by omega
          have e1 : ((s % 4294967296 : Nat) : Int) = (s : Int) % 4294967296 := by omega
          have e2 : ((s / 4294967296 : Nat) : Int) = (s : Int) / 4294967296 := by omega
          have hwr := hO2.write (s % 4294967296)
          rw [hpre.out.1, e1] at hwr
          have Hwr := hI hwr
          have Hbw := hI (hbw.setCell (p := ⟨w.heap.size, k, none⟩) (Nat.le_refl _) (.int .u32 ((s : Int) % 4294967296)))
          clear hO2 hwr hO
          go_wp2_with fail
          go_roundw
          case rel =>
            refine ⟨k + 1, s / 4294967296, done ++ [s % 4294967296], by omega, by go_num, by rw [e2], htlt, Hbw.out, by rw [show n + 1 - (k + 1) = n - k by omega]; exact Hwr.out, by rw [List.length_append, hpre.out.1]; rfl, hpre.out.2.1.append (Dg.one (Nat.mod_lt _ (by decide))), ?_⟩
            rw [Hst.out, Htk.out]
          case measure => simp [intOf]; omega
      · obtain rfl : k = n := by omega
        have hO2 := hO
        rw [show k + 1 - k = 0 + 1 by omega] at hO2
        obtain ⟨g0, g1⟩ := hO2.next
        have hwr := hO2.write cr
        rw [hpre.out.1] at g0 g1 hwr
        rw [List.replicate_zero, List.append_nil] at hwr
        have hbel := hbw.setCell (p := ⟨w.heap.size, k, none⟩) (Nat.le_refl _) (.int .u32 (cr : Int))
        have hdg : Dg (done ++ [cr]) := hpre.out.2.1.append (Dg.one hcr)
        have hnat : natL (done ++ [cr]) = natL l + natL l' := by
          rw [natL_snoc, hpre.out.1, hpre.out.2.2, List.take_of_length_le (l := l) (by rw [Hn.out]; omega), List.take_of_length_le (l := l') (by rw [Hm.out]; omega)]
        have hlen : (done ++ [cr]).length = k + 1 := by rw [List.length_append, hpre.out.1]; rfl
        have hls := hwr.ls
        have Hls := hI hls
        have Hbel := hI hbel
        have hcm : (cr : Int) % 4294967296 = cr := by omega
        have hmx : k + 1 ≤ max k m + 1 := by omega
        have Hlen := hI hlen
        have Hdg := hI hdg
        have Hnat := hI hnat
        clear hO hO2 hwr hbel hdg hnat hlen hls
        go_wp2_with fail
        go_ret
        exact ⟨_, by rw [← Hlen.out]; rfl, ⟨done ++ [cr], _, _, rfl, Hls.out, Hdg.out, Hnat.out, by rw [Hlen.out]; exact hmx⟩, Hbel.out⟩
end Go.Proofs.YtlcmhbkmpkcajaaGreatDoor
namespace Go.Proofs.YtlcmhbkmpkcajaaGreatDoor
open Go.RowKit
theorem minus_end {N A C D bo : Nat} (h : A + N * bo = D + C) (hD : D < N) (hle : C ≤ A) (hb : bo ≤ 1) : D = A - C := by
  rcases bo with _ | bo
  · rw [Nat.mul_zero] at h; omega
  · obtain rfl : bo = 0 := by omega
    rw [Nat.zero_add, Nat.mul_one] at h; omega
set_option maxHeartbeats 4000000 in
theorem minus_any (a b : Option Addr) (n m c c' : Nat) (l l' : List Nat) (w : World) (hL : Ls w (.slice a n c) l) (hM : Ls w (.slice b m c') l') (hd : Dg l) (hd' : Dg l') (hn1 : l.length < 1000000) (hm1 : l'.length ≤ l.length) (hle : natL l' ≤ natL l) :
    Calls Tryz.prog 95 #[.slice a n c, .slice b m c'] w (RetP (fun v w' => RawV w' v (natL l - natL l') l.length) w) := by
  obtain ⟨_, _, hq, hc1, hc2⟩ := hL.open
  cases hq
  obtain ⟨_, _, hq, hc3, hc4⟩ := hM.open
  cases hq
  unfold maxLen at hc2 hc4
  have hi : (Tryz.prog.info? 110).map (fun i => (i.zero, i.size, i.bytes)) = some (some (.int .u32 0), 1, 4) := by kernel_rfl
  obtain ⟨i4, hi4, hz0, hz1, hz2⟩ := info_parts hi
  clear hi
  have HL := hI hL
  have HM := hI hM
  have Hd := hI hd
  have Hd' := hI hd'
  have Hle := hI hle
  clear hL hM hd hd' hle
  generalize hn : l.length = n at *
  generalize hm : l'.length = m at *
  have Hn := hI hn
  have Hm := hI hm
  clear hn hm
  go_enter Tryz.func95, Tryz.ntmps95
  go_wp2_with (at_make; refine wpList_make_full _ rfl _ _ 57 rfl (w.heap.size) 110 i4 (.int .u32 0) 1 Tryz.underlying57 hi4 hz0 hz1 .i64 .i64 _ _ n rfl rfl (by omega) (by omega) (by rw [hz2]; omega) (by unfold maxLen; omega) (by simp) ?_; intro w1 hown hg)
  have hO := Out.made hown
  have hb1 : Below w.heap.size w w1 := (Below.refl _ _).grown hg (Nat.le_refl _) (fun b hb => by cases hb)
  clear hown hg hi4 hz0 hz1 hz2
  go_loopw [6, 7, 8, 9, 15] (fun bv _ _ _ i wr => ∃ (k bo : Nat) (done : List Nat), k ≤ n ∧ i = .int .i64 k ∧ bv = .int .i64 (bo : Int) ∧ bo ≤ 1 ∧ Below w.heap.size w wr ∧ Out w.heap.size wr w.heap.size (done ++ List.replicate (n - k) 0) ∧ Hid (done.length = k ∧ Dg done ∧ natL (l.take k) + 4294967296 ^ k * bo = natL done + natL (l'.take k))) (fun _ _ _ _ i _ => n - (intOf i).toNat)
  case atStart => exact ⟨0, 0, [], Nat.zero_le _, rfl, rfl, by decide, hb1, hO, rfl, (fun d hd => by simp at hd), by simp [natL]⟩
  case round =>
    clear hO hb1
    obtain ⟨k, bo, done, hk, rfl, rfl, hbo, hbw, hO, hpre⟩ := hrel
    by_cases hlt : k < n
    · obtain ⟨b1, off, d, rfl, hdk, c0⟩ := HL.out.at hbw hlt
      have Hdk := hI hdk
      have hdlt := Hd.out d (List.mem_of_getElem? hdk)
      have hO2 := hO
      rw [show n - k = (n - (k + 1)) + 1 by omega] at hO2
      obtain ⟨g0, g1⟩ := hO2.next
      rw [hpre.out.1] at g0 g1
      have hkk0 : (0 : Int) ≤ (k : Int) := Int.natCast_nonneg _
      have hkk1 : (k : Int) < (n : Int) := by omega
      clear hdk
      by_cases hkm : k < m
      · obtain ⟨b2, off2, e, rfl, hek, d0⟩ := HM.out.at hbw hkm
        have Hek := hI hek
        have helt := Hd'.out e (List.mem_of_getElem? hek)
        have hkk2 : (k : Int) < (m : Int) := by omega
        have Htk := hI (show natL (l'.take (k + 1)) = natL (l'.take k) + 4294967296 ^ k * e from take_next Hek.out)
        clear hek
        by_cases hX0 : ((d : Int) - (bo : Int) - (e : Int)) < 0
        · have hng : ((d : Int) - (bo : Int) - (e : Int)) < 0 := by omega
          obtain ⟨y, hy⟩ : ∃ y : Nat, ((d : Int) - (bo : Int) - (e : Int)) + 4294967296 = (y : Int) := ⟨(((d : Int) - (bo : Int) - (e : Int)) + 4294967296).toNat, by omega⟩
          have Hy := hI hy
          have hylt : y < 4294967296 := by omega
          have hmod : ((d : Int) - (bo : Int) - (e : Int)) % 4294967296 = (y : Int) := by omega
          have Hst := hI (borrow_step (done := done) (i := k) (d := d) (y := e) (x := y) (bo := bo) (bo' := 1) hpre.out.1 hpre.out.2.2 (by have := Hy.out; omega))
          have hwr := hO2.write y
          rw [hpre.out.1] at hwr
          have Hwr := hI hwr
          have Hbw := hI (hbw.setCell (p := ⟨w.heap.size, k, none⟩) (Nat.le_refl _) (.int .u32 (y : Int)))
          clear hO2 hwr hO hy
          go_wp2_with fail
          go_roundw
          case rel =>
            refine ⟨k + 1, 1, done ++ [y], by omega, by go_num, by rfl, by decide, Hbw.out, Hwr.out, by rw [List.length_append, hpre.out.1]; rfl, hpre.out.2.1.append (Dg.one hylt), ?_⟩
            rw [take_next Hdk.out, Htk.out]
            exact Hst.out
          case measure => simp [intOf]; omega
        · have hng : ¬ ((d : Int) - (bo : Int) - (e : Int)) < 0 := by omega
          obtain ⟨y, hy⟩ : ∃ y : Nat, ((d : Int) - (bo : Int) - (e : Int)) + 0 = (y : Int) := ⟨(((d : Int) - (bo : Int) - (e : Int)) + 0).toNat, by omega⟩
          have Hy := hI hy
          have hylt : y < 4294967296 := by omega
          have hmod : ((d : Int) - (bo : Int) - (e : Int)) = (y : Int) := by omega
          have Hst := hI (borrow_step (done := done) (i := k) (d := d) (y := e) (x := y) (bo := bo) (bo' := 0) hpre.out.1 hpre.out.2.2 (by have := Hy.out; omega))
          have hwr := hO2.write y
          rw [hpre.out.1] at hwr
          have Hwr := hI hwr
          have Hbw := hI (hbw.setCell (p := ⟨w.heap.size, k, none⟩) (Nat.le_refl _) (.int .u32 (y : Int)))
          clear hO2 hwr hO hy
          go_wp2_with fail
          go_roundw
          case rel =>
            refine ⟨k + 1, 0, done ++ [y], by omega, by go_num, by rfl, by decide, Hbw.out, Hwr.out, by rw [List.length_append, hpre.out.1]; rfl, hpre.out.2.1.append (Dg.one hylt), ?_⟩
            rw [take_next Hdk.out, Htk.out]
            exact Hst.out
          case measure => simp [intOf]; omega
      · have hkk2 : ¬ (k : Int) < (m : Int) := by omega
        have Htk := hI (show natL (l'.take (k + 1)) = natL (l'.take k) + 4294967296 ^ k * 0 by rw [List.take_of_length_le (l := l') (by rw [Hm.out]; omega), List.take_of_length_le (l := l') (by rw [Hm.out]; omega)]; simp)
        by_cases hX0 : ((d : Int) - (bo : Int)) < 0
        · have hng : ((d : Int) - (bo : Int)) < 0 := by omega
          obtain ⟨y, hy⟩ : ∃ y : Nat, ((d : Int) - (bo : Int)) + 4294967296 = (y : Int) := ⟨(((d : Int) - (bo : Int)) + 4294967296).toNat, by omega⟩
          have Hy := hI hy
          have hylt : y < 4294967296 := by omega
          have hmod : ((d : Int) - (bo : Int)) % 4294967296 = (y : Int) := by omega
          have Hst := hI (borrow_step (done := done) (i := k) (d := d) (y := 0) (x := y) (bo := bo) (bo' := 1) hpre.out.1 hpre.out.2.2 (by have := Hy.out; omega))
          have hwr := hO2.write y
          rw [hpre.out.1] at hwr
          have Hwr := hI hwr
          have Hbw := hI (hbw.setCell (p := ⟨w.heap.size, k, none⟩) (Nat.le_refl _) (.int .u32 (y : Int)))
          clear hO2 hwr hO hy
          go_wp2_with fail
          go_roundw
          case rel =>
            refine ⟨k + 1, 1, done ++ [y], by omega, by go_num, by rfl, by decide, Hbw.out, Hwr.out, by rw [List.length_append, hpre.out.1]; rfl, hpre.out.2.1.append (Dg.one hylt), ?_⟩
            rw [take_next Hdk.out, Htk.out]
            exact Hst.out
          case measure => simp [intOf]; omega
        · have hng : ¬ ((d : Int) - (bo : Int)) < 0 := by omega
          obtain ⟨y, hy⟩ : ∃ y : Nat, ((d : Int) - (bo : Int)) + 0 = (y : Int) := ⟨(((d : Int) - (bo : Int)) + 0).toNat, by omega⟩
          have Hy := hI hy
          have hylt : y < 4294967296 := by omega
          have hmod : ((d : Int) - (bo : Int)) = (y : Int) := by omega
          have Hst := hI (borrow_step (done := done) (i := k) (d := d) (y := 0) (x := y) (bo := bo) (bo' := 0) hpre.out.1 hpre.out.2.2 (by have := Hy.out; omega))
          have hwr := hO2.write y
          rw [hpre.out.1] at hwr
          have Hwr := hI hwr
          have Hbw := hI (hbw.setCell (p := ⟨w.heap.size, k, none⟩) (Nat.le_refl _) (.int .u32 (y : Int)))
          clear hO2 hwr hO hy
          go_wp2_with fail
          go_roundw
          case rel =>
            refine ⟨k + 1, 0, done ++ [y], by omega, by go_num, by rfl, by decide, Hbw.out, Hwr.out, by rw [List.length_append, hpre.out.1]; rfl, hpre.out.2.1.append (Dg.one hylt), ?_⟩
            rw [take_next Hdk.out, Htk.out]
            exact Hst.out
          case measure => simp [intOf]; omega
    · obtain rfl : k = n := by omega
      rw [Nat.sub_self, List.replicate_zero, List.append_nil] at hO
      have hls := hO.ls
      have Hls := hI hls
      have hnat : natL done = natL l - natL l' := by
        have h := hpre.out.2.2
        rw [List.take_of_length_le (l := l) (by rw [Hn.out]; omega), List.take_of_length_le (l := l') (by rw [Hm.out]; omega)] at h
        have hlt := natL_lt hpre.out.2.1
        rw [hpre.out.1] at hlt
        exact minus_end h hlt Hle.out hbo
      have Hnat := hI hnat
      clear hO hls hnat
      go_wp2_with fail
      go_ret
      exact ⟨_, by rw [← hpre.out.1]; rfl, ⟨done, _, _, rfl, Hls.out, hpre.out.2.1, Hnat.out, by rw [hpre.out.1]; exact Nat.le_refl _⟩, hbw⟩
end Go.Proofs.YtlcmhbkmpkcajaaGreatDoor
