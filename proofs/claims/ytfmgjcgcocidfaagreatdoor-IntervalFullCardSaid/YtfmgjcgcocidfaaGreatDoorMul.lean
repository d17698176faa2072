/-
  Integers: Mul.
-/
import Derived.Test.YtfmgjcgcocidfaaGreatDoorShort
namespace Go.Proofs.YtfmgjcgcocidfaaGreatDoor
open Go.RowKit

theorem mul_step {ys : List Nat} {j o t cr p S : Nat} (hj : ys[j]? = some o) (h : natL ys + 4294967296 ^ j * cr = S) (ht : cr + (p + o) = t) : natL (ys.set j (t % 4294967296)) + 4294967296 ^ (j + 1) * (t / 4294967296) = S + 4294967296 ^ j * p := by
  have h1 := natL_set (lt_get hj) (t % 4294967296)
  rw [getD_of hj] at h1
  have h2 : 4294967296 ^ j * (t % 4294967296) + 4294967296 ^ j * (4294967296 * (t / 4294967296)) = 4294967296 ^ j * t := by rw [← Nat.mul_add, Nat.mod_add_div]
  have h3 : 4294967296 ^ j * t = 4294967296 ^ j * cr + (4294967296 ^ j * p + 4294967296 ^ j * o) := by rw [← ht, Nat.mul_add, Nat.mul_add]
  rw [Nat.pow_succ, Nat.mul_assoc]
  omega
theorem ix_sum {i k n m j : Nat} (h1 : i < n) (h2 : k ≤ m) (hn : n < 1000000) (hm : m < 1000000) (hj : i + k = j) : IntKind.i64.wrap ((i : Int) + (k : Int)) = (j : Int) ∧ wrap64 ((i : Int) + (k : Int)) = (j : Int) ∧ (0 : Int) ≤ (j : Int) ∧ (j : Int) < (n : Int) + (m : Int) := by
  subst hj
  exact ⟨(IntWalk.i64_in _ (by omega)).trans (by omega), (IntWalk.wrap64_in _ (by omega)).trans (by omega), by omega, by omega⟩
theorem mul_le {x y o cr : Nat} (hx : x < 4294967296) (hy : y < 4294967296) (ho : o < 4294967296) (hc : cr < 4294967296) : x * y + o + cr < 18446744073709551616 := by
  have : x * y ≤ 4294967295 * 4294967295 := Nat.mul_le_mul (by omega) (by omega)
  omega
theorem Dg.set {l : List Nat} (h : Dg l) {j v : Nat} (hv : v < 4294967296) : Dg (l.set j v) := fun d hd => by
  rcases List.mem_or_eq_of_mem_set hd with hd | rfl
  · exact h d hd
  · exact hv
theorem Out.setl {M : Nat} {w : World} {g : Nat} {ys zs : List Nat} (h : Out M w g (ys ++ zs)) {j : Nat} (hj : j < ys.length) (d : Nat) : Out M (w.setCell ⟨g, j, none⟩ (.int .u32 (d : Int))) g (ys.set j d ++ zs) := by
  have := h.set (i := j) (by rw [List.length_append]; omega) d
  rwa [List.set_append_left _ _ hj] at this

set_option maxHeartbeats 8000000 in
set_option maxRecDepth 100000 in
theorem mul_any (u v : Value) (y z : Int) (w : World) (h : IntV w u y) (h' : IntV w v z) (hl1 : (limbs y.natAbs).length < 1000000) (hl2 : (limbs z.natAbs).length < 1000000) :
    Calls Tryz.prog 51 #[u, v] w (RetP (fun r w' => IntV w' r (y * z)) w) := by
  obtain ⟨a, c, rfl, hl⟩ := h
  obtain ⟨a', c', rfl, hl'⟩ := h'
  have hsg : sgn (decide (y < 0) != decide (z < 0)) (y.natAbs * z.natAbs) = y * z := by
    have e1 := sgn_of y
    have e2 := sgn_of z
    by_cases hy : y < 0 <;> by_cases hz : z < 0
    · rw [decide_eq_true hy, decide_eq_true hz]; simp only [sgn, bne_self_eq_false, Bool.false_eq_true, if_false]
      rw [Int.natCast_mul, show (y.natAbs : Int) = -y by omega, show (z.natAbs : Int) = -z by omega, Int.neg_mul_neg]
    · rw [decide_eq_true hy, decide_eq_false hz]; simp only [sgn]
      rw [Int.natCast_mul, show (y.natAbs : Int) = -y by omega, show (z.natAbs : Int) = z by omega, Int.neg_mul]; simp
    · rw [decide_eq_false hy, decide_eq_true hz]; simp only [sgn]
      rw [Int.natCast_mul, show (y.natAbs : Int) = y by omega, show (z.natAbs : Int) = -z by omega, Int.mul_neg]; simp
    · rw [decide_eq_false hy, decide_eq_false hz]; simp only [sgn, bne_self_eq_false, Bool.false_eq_true, if_false]
      rw [Int.natCast_mul, show (y.natAbs : Int) = y by omega, show (z.natAbs : Int) = z by omega]
  have HSg := Lib.hid hsg
  clear hsg
  obtain ⟨_, _, hq, hc1, hc2⟩ := hl.open
  cases hq
  obtain ⟨_, _, hq, hc3, hc4⟩ := hl'.open
  cases hq
  unfold maxLen at hc2 hc4
  have hi : (Tryz.prog.info? 117).map (fun i => (i.zero, i.size, i.bytes)) = some (some (.int .u32 0), 1, 4) := by kernel_rfl
  obtain ⟨i4, hi4, hz0, hz1, hz2⟩ := info_parts hi
  clear hi
  have Hd := Lib.hid (limbs_dg y.natAbs)
  have Hd' := Lib.hid (limbs_dg z.natAbs)
  have HN := Lib.hid (natL_limbs y.natAbs)
  have HN' := Lib.hid (natL_limbs z.natAbs)
  have HL := Lib.hid hl
  have HL' := Lib.hid hl'
  clear hl hl'
  generalize limbs y.natAbs = l at *
  generalize limbs z.natAbs = l' at *
  generalize hn : l.length = n at *
  generalize hm : l'.length = m at *
  have Hn := Lib.hid hn
  have Hm := Lib.hid hm
  clear hn hm
  generalize decide (y < 0) = x at *
  generalize decide (z < 0) = x' at *
  have hK := below3 w (.cells #[.bool x, .slice a n c] 48) (.cells #[.bool x', .slice a' m c'] 48) (.cells #[.bool false, .slice none 0 0] 48)
  have hA : Blk (((w.alloc (.cells #[.bool x, .slice a n c] 48)).alloc (.cells #[.bool x', .slice a' m c'] 48)).alloc (.cells #[.bool false, .slice none 0 0] 48)) w.heap.size #[.bool x, .slice a n c] 48 := ((Blk.new w _ _).old _).old _
  have hB : Blk (((w.alloc (.cells #[.bool x, .slice a n c] 48)).alloc (.cells #[.bool x', .slice a' m c'] 48)).alloc (.cells #[.bool false, .slice none 0 0] 48)) (w.heap.size + 1) #[.bool x', .slice a' m c'] 48 := by
    have h := (Blk.new (w.alloc (.cells #[.bool x, .slice a n c] 48)) #[.bool x', .slice a' m c'] 48).old (.cells #[.bool false, .slice none 0 0] 48)
    simpa using h
  have hR : Blk (((w.alloc (.cells #[.bool x, .slice a n c] 48)).alloc (.cells #[.bool x', .slice a' m c'] 48)).alloc (.cells #[.bool false, .slice none 0 0] 48)) (w.heap.size + 1 + 1) #[.bool false, .slice none 0 0] 48 := by
    have h := Blk.new ((w.alloc (.cells #[.bool x, .slice a n c] 48)).alloc (.cells #[.bool x', .slice a' m c'] 48)) #[.bool false, .slice none 0 0] 48
    simpa using h
  have HK := Lib.hid hK
  have HA := Lib.hid hA
  have HB := Lib.hid hB
  have HR := Lib.hid hR
  clear hK hA hB hR
  go_enter Tryz.func51, Tryz.ntmps51
  have hW3 : (((w.alloc (.cells #[.bool x, .slice a n c] 48)).alloc (.cells #[.bool x', .slice a' m c'] 48)).alloc (.cells #[.bool false, .slice none 0 0] 48)).heap.size = w.heap.size + 1 + 1 + 1 := by simp
  go_wp2_with (at_make; refine wpList_make_full _ rfl _ _ 46 rfl (w.heap.size + 1 + 1 + 1) 117 i4 (.int .u32 0) 1 Tryz.underlying46 hi4 hz0 hz1 .i64 .i64 _ _ (n + m) rfl rfl (by omega) (by omega) (by rw [hz2]; omega) (by unfold maxLen; omega) (by simp) ?_; intro w1 hown hg; obtain ⟨⟨p0, p1⟩, -⟩ := blk2v (HA.out.below ((Below.refl _ _).grown hg (Nat.le_refl _) (fun b hb => by cases hb))); obtain ⟨⟨q0, q1⟩, -⟩ := blk2v (HB.out.below ((Below.refl _ _).grown hg (Nat.le_refl _) (fun b hb => by cases hb))))
  rw [hW3] at hown
  have hO := Out.made hown
  have hb1 : Below (((w.alloc (.cells #[.bool x, .slice a n c] 48)).alloc (.cells #[.bool x', .slice a' m c'] 48)).alloc (.cells #[.bool false, .slice none 0 0] 48)).heap.size (((w.alloc (.cells #[.bool x, .slice a n c] 48)).alloc (.cells #[.bool x', .slice a' m c'] 48)).alloc (.cells #[.bool false, .slice none 0 0] 48)) w1 := (Below.refl _ _).grown hg (Nat.le_refl _) (fun b hb => by cases hb)
  clear hown hg hi4 hz0 hz1 hz2 q0 q1 p0 p1
  generalize (((w.alloc (.cells #[.bool x, .slice a n c] 48)).alloc (.cells #[.bool x', .slice a' m c'] 48)).alloc (.cells #[.bool false, .slice none 0 0] 48)) = W3 at *
  have hO1 : Out (w.heap.size + 1 + 1 + 1) w1 (w.heap.size + 1 + 1 + 1) (List.replicate m 0 ++ List.replicate n 0) := by
    rw [List.replicate_append_replicate, Nat.add_comm m n]; exact hO
  have hMle : W3.heap.size ≤ w.heap.size + 1 + 1 + 1 := Nat.le_of_eq hW3
  have HM := Lib.hid hMle
  generalize hMM : w.heap.size + 1 + 1 + 1 = M at *
  have HMM := Lib.hid hMM
  clear hO hW3 hMM hMle
  go_loopw [6, 7, 8, 9, 10, 22] (fun _ _ _ _ _ i wr => ∃ (k : Nat) (ys : List Nat), k ≤ n ∧ i = .int .i64 k ∧ Below W3.heap.size W3 wr ∧ Out M wr M (ys ++ List.replicate (n - k) 0) ∧ Hid (ys.length = k + m ∧ Dg ys ∧ natL ys = natL (l.take k) * natL l')) (fun _ _ _ _ _ i _ => n - (intOf i).toNat)
  case atStart => exact ⟨0, List.replicate m 0, Nat.zero_le _, rfl, hb1, hO1, by simp, Dg.zeros m, by rw [natL_zeros]; simp [natL]⟩
  case round =>
    clear hO1 hb1
    obtain ⟨i, ys, hi, rfl, hbw, hO, hpre⟩ := hrel
    obtain ⟨⟨p0, p1⟩, -⟩ := blk2v (HA.out.below hbw)
    obtain ⟨⟨q0, q1⟩, -⟩ := blk2v (HB.out.below hbw)
    by_cases hlt : i < n
    · obtain ⟨b1, off, d, rfl, hdk, c0⟩ := HL.out.at (HK.out.via hbw HK.out.size) hlt
      have Hdk := Lib.hid hdk
      have hdlt := Hd.out d (List.mem_of_getElem? hdk)
      have hii0 : (0 : Int) ≤ (i : Int) := Int.natCast_nonneg _
      have hii1 : (i : Int) < (n : Int) := by omega
      clear hdk
      go_wp2_with fail
      go_loopw [8, 9, 10, 30] (fun cv _ _ kk wz => ∃ (k cr : Nat) (ys : List Nat), k ≤ m ∧ kk = .int .i64 k ∧ cv = .int .u64 (cr : Int) ∧ cr < 4294967296 ∧ Below W3.heap.size W3 wz ∧ Out M wz M (ys ++ List.replicate (n - i) 0) ∧ Hid (ys.length = i + m ∧ Dg ys ∧ natL ys + 4294967296 ^ (i + k) * cr = natL (l.take i) * natL l' + 4294967296 ^ i * (d * natL (l'.take k)))) (fun _ _ _ kk _ => m - (intOf kk).toNat)
      case atStart => exact ⟨0, 0, ys, Nat.zero_le _, rfl, rfl, by decide, hbw, hO, hpre.out.1, hpre.out.2.1, by rw [hpre.out.2.2]; simp [natL]⟩
      case round =>
        clear hO hbw p0 p1 q0 q1 c0
        rename World => wz
        obtain ⟨k, cr, ys, hk, rfl, rfl, hcr, hbw, hO, hpre⟩ := hrel
        obtain ⟨⟨p0, p1⟩, -⟩ := blk2v (HA.out.below hbw)
        obtain ⟨⟨q0, q1⟩, -⟩ := blk2v (HB.out.below hbw)
        by_cases hltk : k < m
        · obtain ⟨b2, off2, e, rfl, hek, d0⟩ := HL'.out.at (HK.out.via hbw HK.out.size) hltk
          have Hek := Lib.hid hek
          have helt := Hd'.out e (List.mem_of_getElem? hek)
          obtain ⟨o, ho⟩ : ∃ o, ys[i + k]? = some o := ⟨ys[i + k]'(by rw [hpre.out.1]; omega), by simp⟩
          have holt := hpre.out.2.1 o (List.mem_of_getElem? ho)
          obtain ⟨g0, g1⟩ := hO.cell (i := i + k) (d := o) (by rw [List.getElem?_append_left (lt_get ho)]; exact ho)
          have hb := mul_le hdlt helt holt hcr
          obtain ⟨p, hp⟩ : ∃ p, d * e = p := ⟨_, rfl⟩
          obtain ⟨s, hs⟩ : ∃ s, p + o = s := ⟨_, rfl⟩
          obtain ⟨t, ht⟩ : ∃ t, cr + s = t := ⟨_, rfl⟩
          rw [hp] at hb
          have hpi : (d : Int) * (e : Int) = (p : Int) := by rw [← hp]; push_cast; rfl
          have hw1 : IntKind.u64.wrap ((d : Int) * (e : Int)) = (p : Int) := by rw [hpi]; exact IntWalk.u64_in _ (by omega)
          have hw2 : IntKind.u64.wrap ((p : Int) + (o : Int)) = (s : Int) := by rw [← hs]; exact (IntWalk.u64_in _ (by omega)).trans (by omega)
          have hw3 : IntKind.u64.wrap ((cr : Int) + (s : Int)) = (t : Int) := by rw [← ht]; exact (IntWalk.u64_in _ (by omega)).trans (by omega)
          have Hst := Lib.hid (mul_step (t := t) (p := p) ho hpre.out.2.2 (by omega))
          have e1 : ((t % 4294967296 : Nat) : Int) = (t : Int) % 4294967296 := by omega
          have e2 : ((t / 4294967296 : Nat) : Int) = (t : Int) / 4294967296 := by omega
          have htlt : t / 4294967296 < 4294967296 := by omega
          have hwr := hO.setl (lt_get ho) (t % 4294967296)
          rw [e1] at hwr
          have Hwr := Lib.hid hwr
          have Hbw := Lib.hid (hbw.setCell (p := ⟨M, i + k, none⟩) HM.out (.int .u32 ((t : Int) % 4294967296)))
          have hkk0 : (0 : Int) ≤ (k : Int) := Int.natCast_nonneg _
          have hkk1 : (k : Int) < (m : Int) := by omega
          obtain ⟨j, hj⟩ : ∃ j, i + k = j := ⟨_, rfl⟩
          obtain ⟨hA1, hA2, hj0, hj1⟩ := ix_sum hlt (Nat.le_of_lt hltk) hl1 hl2 hj
          have Hj := Lib.hid hj
          rw [hj] at g0 g1 Hwr Hbw
          clear hj
          have Hp := Lib.hid hp
          clear hO hwr hp hs ht hpi ho hek hb
          go_wp2_with fail
          go_roundw
          case rel =>
            refine ⟨k + 1, t / 4294967296, ys.set (i + k) (t % 4294967296), by omega, by go_num, by rw [e2], htlt, Hbw.out, by rw [Hj.out]; exact Hwr.out, by rw [List.length_set]; exact hpre.out.1, hpre.out.2.1.set (Nat.mod_lt _ (by decide)), ?_⟩
            rw [← Nat.add_assoc, Hst.out, take_next Hek.out, ← Hp.out, Nat.pow_add, Nat.mul_add, Nat.mul_add, Nat.mul_assoc, Nat.add_assoc, Nat.mul_left_comm d]
          case measure => simp [intOf]; omega
        · obtain rfl : k = m := by omega
          have hO2 : Out M wz M (ys ++ List.replicate ((n - (i + 1)) + 1) 0) := by rw [show n - (i + 1) + 1 = n - i by omega]; exact hO
          obtain ⟨g0, g1⟩ := hO2.next
          have hwr := hO2.write cr
          obtain ⟨j, hj⟩ : ∃ j, i + k = j := ⟨_, rfl⟩
          have hyl : ys.length = j := by rw [hpre.out.1, hj]
          rw [hyl] at g0 g1 hwr
          obtain ⟨hA1, hA2, hj0, hj1⟩ := ix_sum hlt (Nat.le_refl k) hl1 hl2 hj
          have Hwr := Lib.hid hwr
          have Hbel := Lib.hid (hbw.setCell (p := ⟨M, j, none⟩) HM.out (.int .u32 (cr : Int)))
          have hcm : (cr : Int) % 4294967296 = cr := by omega
          have hnat : natL (ys ++ [cr]) = natL (l.take (i + 1)) * natL l' := by
            rw [natL_snoc, hpre.out.1, hpre.out.2.2, List.take_of_length_le (l := l') (by rw [Hm.out]; omega), take_next Hdk.out, Nat.add_mul, Nat.mul_assoc]
          have Hnat := Lib.hid hnat
          have Hyl := Lib.hid (show (ys ++ [cr]).length = i + 1 + k by rw [List.length_append, hpre.out.1]; simp; omega)
          clear hO hO2 hwr hj hyl hnat
          go_wp2_with fail
          go_roundw
          case rel => exact ⟨i + 1, ys ++ [cr], by omega, by go_num, Hbel.out, Hwr.out, Hyl.out, hpre.out.2.1.append (Dg.one hcr), Hnat.out⟩
          case measure => simp [intOf]; omega
    · obtain rfl : i = n := by omega
      rw [Nat.sub_self, List.replicate_zero, List.append_nil] at hO
      have hls := hO.ls
      rw [hpre.out.1] at hls
      have H := signed_any (x != x') _ _ _ ys wr hls hpre.out.2.1
      have hnat : natL ys = y.natAbs * z.natAbs := by rw [hpre.out.2.2, List.take_of_length_le (l := l) (by rw [Hn.out]; omega), HN.out, HN'.out]
      rw [hnat, HSg.out] at H
      have HS := Lib.hid H
      have Hbw := Lib.hid hbw
      clear hO hls H hnat
      go_wp2_with (go_at_call 82; refine (HS.out).mono ?_; rintro e w5 ⟨v5, rfl, hv5, hb5⟩; obtain ⟨x5, a5, k5, c5, rfl, hv5⟩ := hv5.open; have hr := (HR.out.below Hbw.out).below hb5; obtain ⟨⟨r0, r1⟩, f0, f1⟩ := blk2v hr)
      obtain ⟨hv6, hb6⟩ := IntV.put2 hv5 hr
      have hbel := ((HK.out.via (Hbw.out.via hb5 Hbw.out.size) HK.out.size).setCell (p := ⟨w.heap.size + 1 + 1, 0, none⟩) (by show w.heap.size ≤ w.heap.size + 1 + 1; omega) (.bool x5)).setCell (p := ⟨w.heap.size + 1 + 1, 1, none⟩) (by show w.heap.size ≤ w.heap.size + 1 + 1; omega) (.slice a5 k5 c5)
      obtain ⟨⟨s0, s1⟩, -⟩ := blk2v hb6
      exact bodyPost_ret (v := .agg #[.bool x5, .slice a5 k5 c5]) (by simp [results, Tryz.results51, go_sem, s0, s1]) rfl ⟨_, rfl, hv6, hbel⟩

end Go.Proofs.YtfmgjcgcocidfaaGreatDoor
