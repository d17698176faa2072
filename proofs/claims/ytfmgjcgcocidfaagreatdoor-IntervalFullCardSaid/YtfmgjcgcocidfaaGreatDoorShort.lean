/-
  Magnitudes: short.
-/
import Derived.Test.YtfmgjcgcocidfaaGreatDoorSub
namespace Go.Proofs.YtfmgjcgcocidfaaGreatDoor
open Go.RowKit

theorem or_low (r d : Nat) (hd : d < 4294967296) : r * 4294967296 ||| d = r * 4294967296 + d := by
  have h := Nat.two_pow_add_eq_or_of_lt (i := 32) (b := d) (show d < 2 ^ 32 from hd) r
  rw [Nat.mul_comm r]
  exact h.symm
theorem quo_lt {r d b : Nat} (hr : r < b) (hd : d < 4294967296) : (r * 4294967296 + d) / b < 4294967296 := by
  rw [Nat.div_lt_iff_lt_mul (by omega), Nat.mul_comm 4294967296]
  have : (r + 1) * 4294967296 ≤ b * 4294967296 := Nat.mul_le_mul_right _ hr
  omega
theorem big_lt {r b d : Nat} (hr : r < b) (hb : b < 4294967296) (hd : d < 4294967296) : r * 4294967296 + d < 18446744073709551616 := by
  have : r * 4294967296 ≤ 4294967294 * 4294967296 := Nat.mul_le_mul_right _ (by omega)
  omega

theorem Out.low {M : Nat} {w : World} {g n : Nat} {done : List Nat} (h : Out M w g (List.replicate (n + 1) 0 ++ done)) : w.cell? ⟨g, n, none⟩ = some (.int .u32 0) ∧ w.frozen? ⟨g, n, none⟩ = false :=
  h.cell (i := n) (d := 0) (by rw [List.getElem?_append_left (by simp)]; simp)
theorem Out.writeLow {M : Nat} {w : World} {g n : Nat} {done : List Nat} (h : Out M w g (List.replicate (n + 1) 0 ++ done)) (d : Nat) : Out M (w.setCell ⟨g, n, none⟩ (.int .u32 (d : Int))) g (List.replicate n 0 ++ (d :: done)) := by
  have := h.set (i := n) (by simp; omega) d
  rwa [put_down] at this

set_option maxHeartbeats 4000000 in
theorem short_any (a : Option Addr) (n c : Nat) (l : List Nat) (by' : Nat) (w : World) (hL : Ls w (.slice a n c) l) (hd : Dg l) (hn1 : l.length < 1000000) (hby : by' < 4294967296) (hby0 : 0 < by') :
    Calls Tryz.prog 87 #[.slice a n c, .int .u32 (by' : Int)] w (fun e w' => ∃ v, e = .returned (.tuple #[v, .int .u32 ((natL l % by' : Nat) : Int)]) ∧ MagV w' v (natL l / by') ∧ Below w.heap.size w w') := by
  obtain ⟨_, _, hq, hc1, hc2⟩ := hL.open
  cases hq
  unfold maxLen at hc2
  have hi : (Tryz.prog.info? 117).map (fun i => (i.zero, i.size, i.bytes)) = some (some (.int .u32 0), 1, 4) := by kernel_rfl
  obtain ⟨i4, hi4, hz0, hz1, hz2⟩ := info_parts hi
  clear hi
  have HL := Lib.hid hL
  have Hd := Lib.hid hd
  clear hL hd
  generalize hn : l.length = n at *
  have Hn := Lib.hid hn
  clear hn
  go_enter Tryz.func87, Tryz.ntmps87
  go_wp2_with (at_make; refine wpList_make_full _ rfl _ _ 46 rfl (w.heap.size) 117 i4 (.int .u32 0) 1 Tryz.underlying46 hi4 hz0 hz1 .i64 .i64 _ _ n rfl rfl (by omega) (by omega) (by rw [hz2]; omega) (by unfold maxLen; omega) (by simp) ?_; intro w1 hown hg)
  have hO := Out.made hown
  have hb1 : Below w.heap.size w w1 := (Below.refl _ _).grown hg (Nat.le_refl _) (fun b hb => by cases hb)
  clear hown hg hi4 hz0 hz1 hz2
  go_loopw [7, 8] (fun rv i wr => ∃ (k r : Nat) (done : List Nat), k ≤ n ∧ i = .int .i64 ((k : Int) - 1) ∧ rv = .int .u64 (r : Int) ∧ r < by' ∧ Below w.heap.size w wr ∧ Out w.heap.size wr w.heap.size (List.replicate k 0 ++ done) ∧ Hid (done.length = n - k ∧ Dg done ∧ natL done * by' + r = natL (l.drop k))) (fun _ i _ => (intOf i + 1).toNat)
  case atStart => exact ⟨n, 0, [], Nat.le_refl _, rfl, rfl, hby0, hb1, by rw [List.append_nil]; exact hO, by rw [Nat.sub_self]; rfl, (fun d hd => by simp at hd), by rw [List.drop_eq_nil_of_le (by rw [Hn.out]; exact Nat.le_refl _)]; simp [natL]⟩
  case round =>
    clear hO hb1
    obtain ⟨k, r, done, hk, rfl, rfl, hr, hbw, hO, hpre⟩ := hrel
    rcases k with _ | j
    · rw [List.replicate_zero, List.nil_append] at hO
      have hls := hO.ls
      have hlen : done.length = n := hpre.out.1
      rw [hlen] at hls
      have heq : natL done * by' + r = natL l := by have := hpre.out.2.2; rwa [List.drop_zero] at this
      have hq1 : natL done = natL l / by' := by
        rw [← heq, Nat.mul_comm, Nat.mul_add_div hby0, Nat.div_eq_of_lt hr, Nat.add_zero]
      have hr1 : r = natL l % by' := by
        rw [← heq, Nat.mul_comm, Nat.mul_add_mod, Nat.mod_eq_of_lt hr]
      have H := trim_any _ _ _ _ _ hls hpre.out.2.1
      rw [hq1] at H
      have HT := Lib.hid H
      have Hr1 := Lib.hid hr1
      have hrm : (r : Int) % 4294967296 = r := by omega
      have Hbw := Lib.hid hbw
      clear hO hls hlen heq hq1 hr1 H hbw
      go_wp2_with (go_at_call 121; refine (HT.out).mono ?_; rintro e w2 ⟨rfl, hl2, hb2⟩)
      go_ret2
      exact ⟨_, by rw [← Hr1.out]; rfl, ⟨_, _, rfl, hl2.mono hb2⟩, Hbw.out.via hb2 Hbw.out.size⟩
    · obtain ⟨b1, off, d, rfl, hdk, c0⟩ := HL.out.at hbw (show j < n by omega)
      have Hdk := Lib.hid hdk
      have hdlt := Hd.out d (List.mem_of_getElem? hdk)
      have hij : ((((j + 1 : Nat) : Int) - 1)) = (j : Int) := by omega
      rw [hij]
      have hi64 : IntKind.i64.wrap (j : Int) = j := IntWalk.i64_in _ (by omega)
      have hj0 : (0 : Int) ≤ (j : Int) := Int.natCast_nonneg _
      have hjn : (j : Int) < (n : Int) := by omega
      obtain ⟨g0, g1⟩ := hO.low
      have hm := big_lt hr hby hdlt
      obtain ⟨t, ht⟩ : ∃ t, r * 4294967296 + d = t := ⟨_, rfl⟩
      have hor : bits .or .u64 ((r : Int) * 4294967296) (d : Int) = (t : Int) := by
        have h := u64_or_nat (r * 4294967296) d (Nat.lt_of_le_of_lt (Nat.le_add_right _ d) hm) (Nat.lt_trans hdlt (by decide))
        rw [or_low r d hdlt, ht] at h
        have e : ((r * 4294967296 : Nat) : Int) = (r : Int) * 4294967296 := by omega
        rw [← e]
        exact h
      obtain ⟨q, hq⟩ : ∃ q, t / by' = q := ⟨_, rfl⟩
      obtain ⟨s, hs⟩ : ∃ s, t % by' = s := ⟨_, rfl⟩
      have hqlt : q < 4294967296 := by rw [← hq, ← ht]; exact quo_lt hr hdlt
      have hslt : s < by' := by rw [← hs]; exact Nat.mod_lt _ hby0
      have hqi : (t : Int) / (by' : Int) = (q : Int) := by rw [← hq]; rfl
      have hsi : (t : Int) % (by' : Int) = (s : Int) := by rw [← hs]; rfl
      have hqw : IntKind.u64.wrap ((t : Int) / (by' : Int)) = (q : Int) := by rw [hqi]; exact IntWalk.u64_in _ (by omega)
      have hqm : (q : Int) % 4294967296 = (q : Int) := by omega
      have hby0' : (by' : Int) ≠ 0 := by omega
      have Hst := Lib.hid (short_step (d := d) hpre.out.2.2)
      rw [ht, hq, hs] at Hst
      have hwr := hO.writeLow q
      have Hwr := Lib.hid hwr
      have Hbw := Lib.hid (hbw.setCell (p := ⟨w.heap.size, j, none⟩) (Nat.le_refl _) (.int .u32 (q : Int)))
      have Hhm := Lib.hid hm
      clear hwr hO hqi hq hs ht hm hdk
      go_wp2_with fail
      go_roundw
      case rel =>
        refine ⟨j, s, q :: done, by omega, by go_num, by rw [hsi], hslt, Hbw.out, Hwr.out, by rw [List.length_cons, hpre.out.1]; omega, ?_, ?_⟩
        · intro x hx
          rcases List.mem_cons.1 hx with rfl | hx
          · exact hqlt
          · exact hpre.out.2.1 x hx
        · rw [Hst.out, natL_drop Hdk.out]
      case measure => simp [intOf] <;> omega

end Go.Proofs.YtfmgjcgcocidfaaGreatDoor
