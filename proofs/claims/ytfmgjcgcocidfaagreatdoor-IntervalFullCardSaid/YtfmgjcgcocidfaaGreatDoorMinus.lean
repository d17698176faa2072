/-
  Magnitudes: minus.
-/
import Derived.Test.YtfmgjcgcocidfaaGreatDoorPlus
namespace Go.Proofs.YtfmgjcgcocidfaaGreatDoor
open Go.RowKit

theorem minus_end {N A C D bo : Nat} (h : A + N * bo = D + C) (hD : D < N) (hle : C ≤ A) (hb : bo ≤ 1) : D = A - C := by
  rcases bo with _ | bo
  · rw [Nat.mul_zero] at h; omega
  · obtain rfl : bo = 0 := by omega
    rw [Nat.zero_add, Nat.mul_one] at h; omega

set_option maxHeartbeats 4000000 in
theorem minus_any (a b : Option Addr) (n m c c' : Nat) (l l' : List Nat) (w : World) (hL : Ls w (.slice a n c) l) (hM : Ls w (.slice b m c') l') (hd : Dg l) (hd' : Dg l') (hn1 : l.length < 1000000) (hm1 : l'.length ≤ l.length) (hle : natL l' ≤ natL l) :
    Calls Tryz.prog 84 #[.slice a n c, .slice b m c'] w (RetP (fun v w' => RawV w' v (natL l - natL l') l.length) w) := by
  obtain ⟨_, _, hq, hc1, hc2⟩ := hL.open
  cases hq
  obtain ⟨_, _, hq, hc3, hc4⟩ := hM.open
  cases hq
  unfold maxLen at hc2 hc4
  have hi : (Tryz.prog.info? 117).map (fun i => (i.zero, i.size, i.bytes)) = some (some (.int .u32 0), 1, 4) := by kernel_rfl
  obtain ⟨i4, hi4, hz0, hz1, hz2⟩ := info_parts hi
  clear hi
  have HL := Lib.hid hL
  have HM := Lib.hid hM
  have Hd := Lib.hid hd
  have Hd' := Lib.hid hd'
  have Hle := Lib.hid hle
  clear hL hM hd hd' hle
  generalize hn : l.length = n at *
  generalize hm : l'.length = m at *
  have Hn := Lib.hid hn
  have Hm := Lib.hid hm
  clear hn hm
  go_enter Tryz.func84, Tryz.ntmps84
  go_wp2_with (at_make; refine wpList_make_full _ rfl _ _ 46 rfl (w.heap.size) 117 i4 (.int .u32 0) 1 Tryz.underlying46 hi4 hz0 hz1 .i64 .i64 _ _ n rfl rfl (by omega) (by omega) (by rw [hz2]; omega) (by unfold maxLen; omega) (by simp) ?_; intro w1 hown hg)
  have hO := Out.made hown
  have hb1 : Below w.heap.size w w1 := (Below.refl _ _).grown hg (Nat.le_refl _) (fun b hb => by cases hb)
  clear hown hg hi4 hz0 hz1 hz2
  go_loopw [6, 7, 8, 9, 15] (fun bv _ _ _ i wr => ∃ (k bo : Nat) (done : List Nat), k ≤ n ∧ i = .int .i64 k ∧ bv = .int .i64 (bo : Int) ∧ bo ≤ 1 ∧ Below w.heap.size w wr ∧ Out w.heap.size wr w.heap.size (done ++ List.replicate (n - k) 0) ∧ Hid (done.length = k ∧ Dg done ∧ natL (l.take k) + 4294967296 ^ k * bo = natL done + natL (l'.take k))) (fun _ _ _ _ i _ => n - (intOf i).toNat)
  case atStart => exact ⟨0, 0, [], Nat.zero_le _, rfl, rfl, by decide, hb1, hO, rfl, (fun d hd => by simp at hd), by simp [natL]⟩
  case round =>
    clear hO hb1
    obtain ⟨k, bo, done, hk, rfl, rfl, hbo, hbw, hO, hpre⟩ := hrel
    by_cases hlt : k < n
    · obtain ⟨b1, off, d, rfl, hdk, c0⟩ := HL.out.at hbw hlt
      have Hdk := Lib.hid hdk
      have hdlt := Hd.out d (List.mem_of_getElem? hdk)
      have hO2 := hO
      rw [show n - k = (n - (k + 1)) + 1 by omega] at hO2
      obtain ⟨g0, g1⟩ := hO2.next
      rw [hpre.out.1] at g0 g1
      have hkk0 : (0 : Int) ≤ (k : Int) := Int.natCast_nonneg _
      have hkk1 : (k : Int) < (n : Int) := by omega
      clear hdk
      by_cases hkm : k < m
      · obtain ⟨b2, off2, e, rfl, hek, d0⟩ := HM.out.at hbw hkm
        have Hek := Lib.hid hek
        have helt := Hd'.out e (List.mem_of_getElem? hek)
        have hkk2 : (k : Int) < (m : Int) := by omega
        have Htk := Lib.hid (show natL (l'.take (k + 1)) = natL (l'.take k) + 4294967296 ^ k * e from take_next Hek.out)
        clear hek
        by_cases hX0 : ((d : Int) - (bo : Int) - (e : Int)) < 0
        · have hng : ((d : Int) - (bo : Int) - (e : Int)) < 0 := by omega
          obtain ⟨y, hy⟩ : ∃ y : Nat, ((d : Int) - (bo : Int) - (e : Int)) + 4294967296 = (y : Int) := ⟨(((d : Int) - (bo : Int) - (e : Int)) + 4294967296).toNat, by omega⟩
          have Hy := Lib.hid hy
          have hylt : y < 4294967296 := by omega
          have hmod : ((d : Int) - (bo : Int) - (e : Int)) % 4294967296 = (y : Int) := by omega
          have Hst := Lib.hid (borrow_step (done := done) (i := k) (d := d) (y := e) (x := y) (bo := bo) (bo' := 1) hpre.out.1 hpre.out.2.2 (by have := Hy.out; omega))
          have hwr := hO2.write y
          rw [hpre.out.1] at hwr
          have Hwr := Lib.hid hwr
          have Hbw := Lib.hid (hbw.setCell (p := ⟨w.heap.size, k, none⟩) (Nat.le_refl _) (.int .u32 (y : Int)))
          clear hO2 hwr hO hy
          go_wp2_with fail
          go_roundw
          case rel =>
            refine ⟨k + 1, 1, done ++ [y], by omega, by go_num, by rfl, by decide, Hbw.out, Hwr.out, by rw [List.length_append, hpre.out.1]; rfl, hpre.out.2.1.append (Dg.one hylt), ?_⟩
            rw [take_next Hdk.out, Htk.out]
            exact Hst.out
          case measure => simp [intOf]; omega
        · have hng : ¬ ((d : Int) - (bo : Int) - (e : Int)) < 0 := by omega
          obtain ⟨y, hy⟩ : ∃ y : Nat, ((d : Int) - (bo : Int) - (e : Int)) + 0 = (y : Int) := ⟨(((d : Int) - (bo : Int) - (e : Int)) + 0).toNat, by omega⟩
          have Hy := Lib.hid hy
          have hylt : y < 4294967296 := by omega
          have hmod : ((d : Int) - (bo : Int) - (e : Int)) = (y : Int) := by omega
          have Hst := Lib.hid (borrow_step (done := done) (i := k) (d := d) (y := e) (x := y) (bo := bo) (bo' := 0) hpre.out.1 hpre.out.2.2 (by have := Hy.out; omega))
          have hwr := hO2.write y
          rw [hpre.out.1] at hwr
          have Hwr := Lib.hid hwr
          have Hbw := Lib.hid (hbw.setCell (p := ⟨w.heap.size, k, none⟩) (Nat.le_refl _) (.int .u32 (y : Int)))
          clear hO2 hwr hO hy
          go_wp2_with fail
          go_roundw
          case rel =>
            refine ⟨k + 1, 0, done ++ [y], by omega, by go_num, by rfl, by decide, Hbw.out, Hwr.out, by rw [List.length_append, hpre.out.1]; rfl, hpre.out.2.1.append (Dg.one hylt), ?_⟩
            rw [take_next Hdk.out, Htk.out]
            exact Hst.out
          case measure => simp [intOf]; omega
      · have hkk2 : ¬ (k : Int) < (m : Int) := by omega
        have Htk := Lib.hid (show natL (l'.take (k + 1)) = natL (l'.take k) + 4294967296 ^ k * 0 by rw [List.take_of_length_le (l := l') (by rw [Hm.out]; omega), List.take_of_length_le (l := l') (by rw [Hm.out]; omega)]; simp)
        by_cases hX0 : ((d : Int) - (bo : Int)) < 0
        · have hng : ((d : Int) - (bo : Int)) < 0 := by omega
          obtain ⟨y, hy⟩ : ∃ y : Nat, ((d : Int) - (bo : Int)) + 4294967296 = (y : Int) := ⟨(((d : Int) - (bo : Int)) + 4294967296).toNat, by omega⟩
          have Hy := Lib.hid hy
          have hylt : y < 4294967296 := by omega
          have hmod : ((d : Int) - (bo : Int)) % 4294967296 = (y : Int) := by omega
          have Hst := Lib.hid (borrow_step (done := done) (i := k) (d := d) (y := 0) (x := y) (bo := bo) (bo' := 1) hpre.out.1 hpre.out.2.2 (by have := Hy.out; omega))
          have hwr := hO2.write y
          rw [hpre.out.1] at hwr
          have Hwr := Lib.hid hwr
          have Hbw := Lib.hid (hbw.setCell (p := ⟨w.heap.size, k, none⟩) (Nat.le_refl _) (.int .u32 (y : Int)))
          clear hO2 hwr hO hy
          go_wp2_with fail
          go_roundw
          case rel =>
            refine ⟨k + 1, 1, done ++ [y], by omega, by go_num, by rfl, by decide, Hbw.out, Hwr.out, by rw [List.length_append, hpre.out.1]; rfl, hpre.out.2.1.append (Dg.one hylt), ?_⟩
            rw [take_next Hdk.out, Htk.out]
            exact Hst.out
          case measure => simp [intOf]; omega
        · have hng : ¬ ((d : Int) - (bo : Int)) < 0 := by omega
          obtain ⟨y, hy⟩ : ∃ y : Nat, ((d : Int) - (bo : Int)) + 0 = (y : Int) := ⟨(((d : Int) - (bo : Int)) + 0).toNat, by omega⟩
          have Hy := Lib.hid hy
          have hylt : y < 4294967296 := by omega
          have hmod : ((d : Int) - (bo : Int)) = (y : Int) := by omega
          have Hst := Lib.hid (borrow_step (done := done) (i := k) (d := d) (y := 0) (x := y) (bo := bo) (bo' := 0) hpre.out.1 hpre.out.2.2 (by have := Hy.out; omega))
          have hwr := hO2.write y
          rw [hpre.out.1] at hwr
          have Hwr := Lib.hid hwr
          have Hbw := Lib.hid (hbw.setCell (p := ⟨w.heap.size, k, none⟩) (Nat.le_refl _) (.int .u32 (y : Int)))
          clear hO2 hwr hO hy
          go_wp2_with fail
          go_roundw
          case rel =>
            refine ⟨k + 1, 0, done ++ [y], by omega, by go_num, by rfl, by decide, Hbw.out, Hwr.out, by rw [List.length_append, hpre.out.1]; rfl, hpre.out.2.1.append (Dg.one hylt), ?_⟩
            rw [take_next Hdk.out, Htk.out]
            exact Hst.out
          case measure => simp [intOf]; omega
    · obtain rfl : k = n := by omega
      rw [Nat.sub_self, List.replicate_zero, List.append_nil] at hO
      have hls := hO.ls
      have Hls := Lib.hid hls
      have hnat : natL done = natL l - natL l' := by
        have h := hpre.out.2.2
        rw [List.take_of_length_le (l := l) (by rw [Hn.out]; omega), List.take_of_length_le (l := l') (by rw [Hm.out]; omega)] at h
        have hlt := natL_lt hpre.out.2.1
        rw [hpre.out.1] at hlt
        exact minus_end h hlt Hle.out hbo
      have Hnat := Lib.hid hnat
      clear hO hls hnat
      go_wp2_with fail
      go_ret
      exact ⟨_, by rw [← hpre.out.1]; rfl, ⟨done, _, _, rfl, Hls.out, hpre.out.2.1, Hnat.out, by rw [hpre.out.1]; exact Nat.le_refl _⟩, hbw⟩

end Go.Proofs.YtfmgjcgcocidfaaGreatDoor
