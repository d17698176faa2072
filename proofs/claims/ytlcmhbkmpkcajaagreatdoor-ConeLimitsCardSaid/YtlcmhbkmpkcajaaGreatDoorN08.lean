/-
  Parts of the proof: Mul, Div1, Div2, Div3.
-/
import Derived.Deep.LoopGhost
import Derived.Test.YtlcmhbkmpkcajaaGreatDoorN07
namespace Go.Proofs.YtlcmhbkmpkcajaaGreatDoor
open Go.RowKit
theorem mul_step {ys : List Nat} {j o t cr p S : Nat} (hj : ys[j]? = some o) (h : natL ys + 4294967296 ^ j * cr = S) (ht : cr + (p + o) = t) : natL (ys.set j (t % 4294967296)) + 4294967296 ^ (j + 1) * (t / 4294967296) = S + 4294967296 ^ j * p := by
  have h1 := natL_set (lt_get hj) (t % 4294967296)
  rw [getD_of hj] at h1
  have h2 : 4294967296 ^ j * (t % 4294967296) + 4294967296 ^ j * (4294967296 * (t / 4294967296)) = 4294967296 ^ j * t := by rw [← Nat.mul_add, Nat.mod_add_div]
  have h3 : 4294967296 ^ j * t = 4294967296 ^ j * cr + (4294967296 ^ j * p + 4294967296 ^ j * o) := by rw [← ht, Nat.mul_add, Nat.mul_add]
  rw [Nat.pow_succ, Nat.mul_assoc]
  omega
theorem ix_sum {i k n m j : Nat} (h1 : i < n) (h2 : k ≤ m) (hn : n < 1000000) (hm : m < 1000000) (hj : i + k = j) : IntKind.i64.wrap ((i : Int) + (k : Int)) = (j : Int) ∧ wrap64 ((i : Int) + (k : Int)) = (j : Int) ∧ (0 : Int) ≤ (j : Int) ∧ (j : Int) < (n : Int) + (m : Int) := by
  subst hj
  exact ⟨(IntWalk.i64_in _ (by omega)).trans (by omega), (IntWalk.wrap64_in _ (by omega)).trans (by omega), by omega, by omega⟩
theorem mul_le {x y o cr : Nat} (hx : x < 4294967296) (hy : y < 4294967296) (ho : o < 4294967296) (hc : cr < 4294967296) : x * y + o + cr < 18446744073709551616 := by
  have : x * y ≤ 4294967295 * 4294967295 := Nat.mul_le_mul (by omega) (by omega)
  omega
theorem Dg.set {l : List Nat} (h : Dg l) {j v : Nat} (hv : v < 4294967296) : Dg (l.set j v) := fun d hd => by
  rcases List.mem_or_eq_of_mem_set hd with hd | rfl
  · exact h d hd
  · exact hv
theorem Out.setl {M : Nat} {w : World} {g : Nat} {ys zs : List Nat} (h : Out M w g (ys ++ zs)) {j : Nat} (hj : j < ys.length) (d : Nat) : Out M (w.setCell ⟨g, j, none⟩ (.int .u32 (d : Int))) g (ys.set j d ++ zs) := by
  have := h.set (i := j) (by rw [List.length_append]; omega) d
  rwa [List.set_append_left _ _ hj] at this
set_option maxHeartbeats 8000000 in
set_option maxRecDepth 100000 in
theorem mul_any (u v : Value) (y z : Int) (w : World) (h : IntV w u y) (h' : IntV w v z) (hl1 : (limbs y.natAbs).length < 1000000) (hl2 : (limbs z.natAbs).length < 1000000) :
    Calls Tryz.prog 58 #[u, v] w (RetP (fun r w' => IntV w' r (y * z)) w) := by
  obtain ⟨a, c, rfl, hl⟩ := h
  obtain ⟨a', c', rfl, hl'⟩ := h'
  have hsg : sgn (decide (y < 0) != decide (z < 0)) (y.natAbs * z.natAbs) = y * z := by
    have e1 := sgn_of y
    have e2 := sgn_of z
    by_cases hy : y < 0 <;> by_cases hz : z < 0
    · rw [decide_eq_true hy, decide_eq_true hz]; simp only [sgn, bne_self_eq_false, Bool.false_eq_true, if_false]
      rw [Int.natCast_mul, show (y.natAbs : Int) = -y by omega, show (z.natAbs : Int) = -z by omega, Int.neg_mul_neg]
    · rw [decide_eq_true hy, decide_eq_false hz]; simp only [sgn]
      rw [Int.natCast_mul, show (y.natAbs : Int) = -y by omega, show (z.natAbs : Int) = z by omega, Int.neg_mul]; simp
    · rw [decide_eq_false hy, decide_eq_true hz]; simp only [sgn]
      rw [Int.natCast_mul, show (y.natAbs : Int) = y by omega, show (z.natAbs : Int) = -z by omega, Int.mul_neg]; simp
    · rw [decide_eq_false hy, decide_eq_false hz]; simp only [sgn, bne_self_eq_false, Bool.false_eq_true, if_false]
      rw [Int.natCast_mul, show (y.natAbs : Int) = y by omega, show (z.natAbs : Int) = z by omega]
  have HSg := hI hsg
  clear hsg
  obtain ⟨_, _, hq, hc1, hc2⟩ := hl.open
  cases hq
  obtain ⟨_, _, hq, hc3, hc4⟩ := hl'.open
  cases hq
  unfold maxLen at hc2 hc4
  have hi : (Tryz.prog.info? 110).map (fun i => (i.zero, i.size, i.bytes)) = some (some (.int .u32 0), 1, 4) := by kernel_rfl
  obtain ⟨i4, hi4, hz0, hz1, hz2⟩ := info_parts hi
  clear hi
  have Hd := hI (limbs_dg y.natAbs)
  have Hd' := hI (limbs_dg z.natAbs)
  have HN := hI (natL_limbs y.natAbs)
  have HN' := hI (natL_limbs z.natAbs)
  have HL := hI hl
  have HL' := hI hl'
  clear hl hl'
  generalize limbs y.natAbs = l at *
  generalize limbs z.natAbs = l' at *
  generalize hn : l.length = n at *
  generalize hm : l'.length = m at *
  have Hn := hI hn
  have Hm := hI hm
  clear hn hm
  generalize decide (y < 0) = x at *
  generalize decide (z < 0) = x' at *
  have hK := below3 w (.cells #[.bool x, .slice a n c] 59) (.cells #[.bool x', .slice a' m c'] 59) (.cells #[.bool false, .slice none 0 0] 59)
  have hA : Blk (((w.alloc (.cells #[.bool x, .slice a n c] 59)).alloc (.cells #[.bool x', .slice a' m c'] 59)).alloc (.cells #[.bool false, .slice none 0 0] 59)) w.heap.size #[.bool x, .slice a n c] 59 := ((Blk.new w _ _).old _).old _
  have hB : Blk (((w.alloc (.cells #[.bool x, .slice a n c] 59)).alloc (.cells #[.bool x', .slice a' m c'] 59)).alloc (.cells #[.bool false, .slice none 0 0] 59)) (w.heap.size + 1) #[.bool x', .slice a' m c'] 59 := by
    have h := (Blk.new (w.alloc (.cells #[.bool x, .slice a n c] 59)) #[.bool x', .slice a' m c'] 59).old (.cells #[.bool false, .slice none 0 0] 59)
    simpa using h
  have hR : Blk (((w.alloc (.cells #[.bool x, .slice a n c] 59)).alloc (.cells #[.bool x', .slice a' m c'] 59)).alloc (.cells #[.bool false, .slice none 0 0] 59)) (w.heap.size + 1 + 1) #[.bool false, .slice none 0 0] 59 := by
    have h := Blk.new ((w.alloc (.cells #[.bool x, .slice a n c] 59)).alloc (.cells #[.bool x', .slice a' m c'] 59)) #[.bool false, .slice none 0 0] 59
    simpa using h
  have HK := hI hK
  have HA := hI hA
  have HB := hI hB
  have HR := hI hR
  clear hK hA hB hR
  go_enter Tryz.func58, Tryz.ntmps58
  have hW3 : (((w.alloc (.cells #[.bool x, .slice a n c] 59)).alloc (.cells #[.bool x', .slice a' m c'] 59)).alloc (.cells #[.bool false, .slice none 0 0] 59)).heap.size = w.heap.size + 1 + 1 + 1 := by simp
  go_wp2_with (at_make; refine wpList_make_full _ rfl _ _ 57 rfl (w.heap.size + 1 + 1 + 1) 110 i4 (.int .u32 0) 1 Tryz.underlying57 hi4 hz0 hz1 .i64 .i64 _ _ (n + m) rfl rfl (by omega) (by omega) (by rw [hz2]; omega) (by unfold maxLen; omega) (by simp) ?_; intro w1 hown hg; obtain ⟨⟨p0, p1⟩, -⟩ := blk2v (HA.out.below ((Below.refl _ _).grown hg (Nat.le_refl _) (fun b hb => by cases hb))); obtain ⟨⟨q0, q1⟩, -⟩ := blk2v (HB.out.below ((Below.refl _ _).grown hg (Nat.le_refl _) (fun b hb => by cases hb))))
  rw [hW3] at hown
  have hO := Out.made hown
  have hb1 : Below (((w.alloc (.cells #[.bool x, .slice a n c] 59)).alloc (.cells #[.bool x', .slice a' m c'] 59)).alloc (.cells #[.bool false, .slice none 0 0] 59)).heap.size (((w.alloc (.cells #[.bool x, .slice a n c] 59)).alloc (.cells #[.bool x', .slice a' m c'] 59)).alloc (.cells #[.bool false, .slice none 0 0] 59)) w1 := (Below.refl _ _).grown hg (Nat.le_refl _) (fun b hb => by cases hb)
  clear hown hg hi4 hz0 hz1 hz2 q0 q1 p0 p1
  generalize (((w.alloc (.cells #[.bool x, .slice a n c] 59)).alloc (.cells #[.bool x', .slice a' m c'] 59)).alloc (.cells #[.bool false, .slice none 0 0] 59)) = W3 at *
  have hO1 : Out (w.heap.size + 1 + 1 + 1) w1 (w.heap.size + 1 + 1 + 1) (List.replicate m 0 ++ List.replicate n 0) := by
    rw [List.replicate_append_replicate, Nat.add_comm m n]; exact hO
  have hMle : W3.heap.size ≤ w.heap.size + 1 + 1 + 1 := Nat.le_of_eq hW3
  have HM := hI hMle
  generalize hMM : w.heap.size + 1 + 1 + 1 = M at *
  have HMM := hI hMM
  clear hO hW3 hMM hMle
  go_loopw [6, 7, 8, 9, 10, 22] (fun _ _ _ _ _ i wr => ∃ (k : Nat) (ys : List Nat), k ≤ n ∧ i = .int .i64 k ∧ Below W3.heap.size W3 wr ∧ Out M wr M (ys ++ List.replicate (n - k) 0) ∧ Hid (ys.length = k + m ∧ Dg ys ∧ natL ys = natL (l.take k) * natL l')) (fun _ _ _ _ _ i _ => n - (intOf i).toNat)
  case atStart => exact ⟨0, List.replicate m 0, Nat.zero_le _, rfl, hb1, hO1, by simp, Dg.zeros m, by rw [natL_zeros]; simp [natL]⟩
  case round =>
    clear hO1 hb1
    obtain ⟨i, ys, hi, rfl, hbw, hO, hpre⟩ := hrel
    obtain ⟨⟨p0, p1⟩, -⟩ := blk2v (HA.out.below hbw)
    obtain ⟨⟨q0, q1⟩, -⟩ := blk2v (HB.out.below hbw)
    by_cases hlt : i < n
    · obtain ⟨b1, off, d, rfl, hdk, c0⟩ := HL.out.at (HK.out.via hbw HK.out.size) hlt
      have Hdk := hI hdk
      have hdlt := Hd.out d (List.mem_of_getElem? hdk)
      have hii0 : (0 : Int) ≤ (i : Int) := Int.natCast_nonneg _
      have hii1 : (i : Int) < (n : Int) := by omega
      clear hdk
      go_wp2_with fail
      go_loopw [8, 9, 10, 30] (fun cv _ _ kk wz => ∃ (k cr : Nat) (ys : List Nat), k ≤ m ∧ kk = .int .i64 k ∧ cv = .int .u64 (cr : Int) ∧ cr < 4294967296 ∧ Below W3.heap.size W3 wz ∧ Out M wz M (ys ++ List.replicate (n - i) 0) ∧ Hid (ys.length = i + m ∧ Dg ys ∧ natL ys + 4294967296 ^ (i + k) * cr = natL (l.take i) * natL l' + 4294967296 ^ i * (d * natL (l'.take k)))) (fun _ _ _ kk _ => m - (intOf kk).toNat)
      case atStart => exact ⟨0, 0, ys, Nat.zero_le _, rfl, rfl, by decide, hbw, hO, hpre.out.1, hpre.out.2.1, by rw [hpre.out.2.2]; simp [natL]⟩
      case round =>
        clear hO hbw p0 p1 q0 q1 c0
        rename World => wz
        obtain ⟨k, cr, ys, hk, rfl, rfl, hcr, hbw, hO, hpre⟩ := hrel
        obtain ⟨⟨p0, p1⟩, -⟩ := blk2v (HA.out.below hbw)
        obtain ⟨⟨q0, q1⟩, -⟩ := blk2v (HB.out.below hbw)
        by_cases hltk : k < m
        · obtain ⟨b2, off2, e, rfl, hek, d0⟩ := HL'.out.at (HK.out.via hbw HK.out.size) hltk
          have Hek := hI hek
          have helt := Hd'.out e (List.mem_of_getElem? hek)
          obtain ⟨o, ho⟩ : ∃ o, ys[i + k]? = some o := ⟨ys[i + k]'(by rw [hpre.out.1]; omega), by simp⟩
          have holt := hpre.out.2.1 o (List.mem_of_getElem? ho)
          obtain ⟨g0, g1⟩ := hO.cell (i := i + k) (d := o) (by rw [List.getElem?_append_left (lt_get ho)]; exact ho)
          have hb := mul_le hdlt helt holt hcr
          obtain ⟨p, hp⟩ : ∃ p, d * e = p := ⟨_, rfl⟩
          obtain ⟨s, hs⟩ : ∃ s, p + o = s := ⟨_, rfl⟩
          obtain ⟨t, ht⟩ : ∃ t, cr + s = t := ⟨_, rfl⟩
          rw [hp] at hb
          have hpi : (d : Int) * (e : Int) = (p : Int) := by rw [← hp]; push_cast; rfl
          have hw1 : IntKind.u64.wrap ((d : Int) * (e : Int)) = (p : Int) := by rw [hpi]; exact IntWalk.u64_in _ (by omega)
          have hw2 : IntKind.u64.wrap ((p : Int) + (o : Int)) = (s : Int) := by rw [← hs]; exact (IntWalk.u64_in _ (by omega)).trans (by omega)
          have hw3 : IntKind.u64.wrap ((cr : Int) + (s : Int)) = (t : Int) := by rw [← ht]; exact (IntWalk.u64_in _ (by omega)).trans (by omega)
          have Hst := hI (mul_step (t := t) (p := p) ho hpre.out.2.2 (by omega))
          have e1 : ((t % 4294967296 : Nat) : Int) = (t : Int) % 4294967296 := by omega
          have e2 : ((t / 4294967296 : Nat) : Int) = (t : Int) / 4294967296 := by omega
          have htlt : t / 4294967296 < 4294967296 := by omega
          have hwr := hO.setl (lt_get ho) (t % 4294967296)
          rw [e1] at hwr
          have Hwr := hI hwr
          have Hbw := hI (hbw.setCell (p := ⟨M, i + k, none⟩) HM.out (.int .u32 ((t : Int) % 4294967296)))
          have hkk0 : (0 : Int) ≤ (k : Int) := Int.natCast_nonneg _
          have hkk1 : (k : Int) < (m : Int) := by omega
          obtain ⟨j, hj⟩ : ∃ j, i + k = j := ⟨_, rfl⟩
          obtain ⟨hA1, hA2, hj0, hj1⟩ := ix_sum hlt (Nat.le_of_lt hltk) hl1 hl2 hj
          have Hj := hI hj
          rw [hj] at g0 g1 Hwr Hbw
          clear hj
          have Hp := hI hp
          clear hO hwr hp hs ht hpi ho hek hb
          go_wp2_with fail
          go_roundw
          case rel =>
            refine ⟨k + 1, t / 4294967296, ys.set (i + k) (t % 4294967296), by omega, by go_num, by rw [e2], htlt, Hbw.out, by rw [Hj.out]; exact Hwr.out, by rw [List.length_set]; exact hpre.out.1, hpre.out.2.1.set (Nat.mod_lt _ (by decide)), ?_⟩
            rw [← Nat.add_assoc, Hst.out, take_next Hek.out, ← Hp.out, Nat.pow_add, Nat.mul_add, Nat.mul_add, Nat.mul_assoc, Nat.add_assoc, Nat.mul_left_comm d]
          case measure => simp [intOf]; omega
        · obtain rfl : k = m := by omega
          have hO2 : Out M wz M (ys ++ List.replicate ((n - (i + 1)) + 1) 0) := by rw [show n - (i + 1) + 1 = n - i by omega]; exact hO
          obtain ⟨g0, g1⟩ := hO2.next
          have hwr := hO2.write cr
          obtain ⟨j, hj⟩ : ∃ j, i + k = j := ⟨_, rfl⟩
          have hyl : ys.length = j := by rw [hpre.out.1, hj]
          rw [hyl] at g0 g1 hwr
          obtain ⟨hA1, hA2, hj0, hj1⟩ := ix_sum hlt (Nat.le_refl k) hl1 hl2 hj
          have Hwr := hI hwr
          have Hbel := hI (hbw.setCell (p := ⟨M, j, none⟩) HM.out (.int .u32 (cr : Int)))
          have hcm : (cr : Int) % 4294967296 = cr := by omega
          have hnat : natL (ys ++ [cr]) = natL (l.take (i + 1)) * natL l' := by
            rw [natL_snoc, hpre.out.1, hpre.out.2.2, List.take_of_length_le (l := l') (by rw [Hm.out]; omega), take_next Hdk.out, Nat.add_mul, Nat.mul_assoc]
          have Hnat := hI hnat
          have Hyl := hI (show (ys ++ [cr]).length = i + 1 + k by rw [List.length_append, hpre.out.1]; simp; omega)
          clear hO hO2 hwr hj hyl hnat
          go_wp2_with fail
          go_roundw
          case rel => exact ⟨i + 1, ys ++ [cr], by omega, by go_num, Hbel.out, Hwr.out, Hyl.out, hpre.out.2.1.append (Dg.one hcr), Hnat.out⟩
          case measure => simp [intOf]; omega
    · obtain rfl : i = n := by omega
      rw [Nat.sub_self, List.replicate_zero, List.append_nil] at hO
      have hls := hO.ls
      rw [hpre.out.1] at hls
      have H := signed_any (x != x') _ _ _ ys wr hls hpre.out.2.1
      have hnat : natL ys = y.natAbs * z.natAbs := by rw [hpre.out.2.2, List.take_of_length_le (l := l) (by rw [Hn.out]; omega), HN.out, HN'.out]
      rw [hnat, HSg.out] at H
      have HS := hI H
      have Hbw := hI hbw
      clear hO hls H hnat
      go_wp2_with (go_at_call 92; refine (HS.out).mono ?_; rintro e w5 ⟨v5, rfl, hv5, hb5⟩; obtain ⟨x5, a5, k5, c5, rfl, hv5⟩ := hv5.open; have hr := (HR.out.below Hbw.out).below hb5; obtain ⟨⟨r0, r1⟩, f0, f1⟩ := blk2v hr)
      obtain ⟨hv6, hb6⟩ := IntV.put2 hv5 hr
      have hbel := ((HK.out.via (Hbw.out.via hb5 Hbw.out.size) HK.out.size).setCell (p := ⟨w.heap.size + 1 + 1, 0, none⟩) (by show w.heap.size ≤ w.heap.size + 1 + 1; omega) (.bool x5)).setCell (p := ⟨w.heap.size + 1 + 1, 1, none⟩) (by show w.heap.size ≤ w.heap.size + 1 + 1; omega) (.slice a5 k5 c5)
      obtain ⟨⟨s0, s1⟩, -⟩ := blk2v hb6
      exact bodyPost_ret (v := .agg #[.bool x5, .slice a5 k5 c5]) (by simp [results, Tryz.results58, go_sem, s0, s1]) rfl ⟨_, rfl, hv6, hbel⟩
end Go.Proofs.YtlcmhbkmpkcajaaGreatDoor
namespace Go.Proofs.YtlcmhbkmpkcajaaGreatDoor
open Go.RowKit
theorem limbs_one {y : Nat} (h : (limbs y).length = 1) : limbs y = [y] ∧ y < 4294967296 := by
  have h0 : y ≠ 0 := fun e => by subst e; rw [limbs_zero] at h; simp at h
  rw [limbs_pos h0] at h ⊢
  have h1 : limbs (y / 4294967296) = [] := by
    rw [List.length_cons] at h
    exact List.length_eq_zero_iff.1 (by omega)
  have h2 := limbs_nil.1 h1
  have h3 : y < 4294967296 := by omega
  rw [h1, Nat.mod_eq_of_lt h3]
  exact ⟨rfl, h3⟩
theorem MagV.zero (w : World) : MagV w (.slice none 0 0) 0 := ⟨none, 0, by rw [limbs_zero]; rfl, by rw [limbs_zero]; exact Ls.nil w⟩
set_option maxHeartbeats 4000000 in
theorem divide_small (a b : Option Addr) (n m c c' : Nat) (x y : Nat) (w : World) (hA : Ls w (.slice a n c) (limbs x)) (hB : Ls w (.slice b m c') (limbs y)) (hlt : x < y) :
    Calls Tryz.prog 116 #[.slice a n c, .slice b m c'] w (fun e w' => ∃ q r, e = .returned (.tuple #[q, r]) ∧ MagV w' q (x / y) ∧ MagV w' r (x % y) ∧ Below w.heap.size w w') := by
  have H := hI (order_any _ _ _ _ _ _ _ _ w hA hB)
  have hc : cmpN x y = -1 := by unfold cmpN; rw [if_pos hlt]
  rw [hc] at H
  have hq : x / y = 0 := Nat.div_eq_of_lt hlt
  have hr : x % y = x := Nat.mod_eq_of_lt hlt
  rw [hq, hr]
  obtain ⟨_, _, hv, _, _⟩ := hA.open
  cases hv
  have HA := hI hA
  clear hA hB hc hq hr
  go_enter Tryz.func116, Tryz.ntmps116
  go_wp2_with (go_at_call 94; refine (H.out).mono ?_; rintro e w1 ⟨rfl, hb1⟩)
  go_ret2
  exact ⟨_, _, rfl, MagV.zero _, ⟨a, c, rfl, HA.out.mono hb1⟩, hb1⟩
end Go.Proofs.YtlcmhbkmpkcajaaGreatDoor
namespace Go.Proofs.YtlcmhbkmpkcajaaGreatDoor
open Go.RowKit
theorem Ls.one {w : World} {b d : Nat} (h : Blk w b #[.int .u32 (d : Int)] 110) : Ls w (.slice (some ⟨b, 0, none⟩) 1 1) [d] := by
  refine ⟨⟨_, _, rfl, by simp [u32s], by unfold maxLen; omega, .inr ⟨b, 0, rfl, h.lt, fun i j hi hj => ?_⟩⟩, AU.av fun p hp => by cases hp; exact ⟨_, h⟩⟩
  rw [h.cell]
  simp only [u32s, List.map_cons, List.map_nil, List.length_cons, List.length_nil] at hi
  obtain rfl : j = 0 := by omega
  obtain rfl : i = 0 := by omega
  rfl
def Few (N : Nat) : Prop := (limbs N).length < 1000000
set_option maxHeartbeats 4000000 in
theorem divide_one (a b : Option Addr) (n m c c' : Nat) (x y : Nat) (w : World) (hA : Ls w (.slice a n c) (limbs x)) (hB : Ls w (.slice b m c') (limbs y)) (hle : y ≤ x) (h1 : (limbs y).length = 1) (hn : (limbs x).length < 1000000) :
    Calls Tryz.prog 116 #[.slice a n c, .slice b m c'] w (fun e w' => ∃ q r, e = .returned (.tuple #[q, r]) ∧ MagV w' q (x / y) ∧ MagV w' r (x % y) ∧ Below w.heap.size w w') := by
  have H := hI (order_any _ _ _ _ _ _ _ _ w hA hB)
  have hc := cmpN_ge hle
  obtain ⟨hl1, hy32⟩ := limbs_one h1
  have hy0 : 0 < y := by
    rcases Nat.eq_zero_or_pos y with h | h
    · subst h; rw [limbs_zero] at h1; simp at h1
    · exact h
  generalize cmpN x y = R at *
  have hc2 : ¬ R < 0 := by omega
  clear hc hle h1
  obtain ⟨r, hr⟩ : ∃ r, x % y = r := ⟨_, rfl⟩
  obtain ⟨q, hq⟩ : ∃ q, x / y = q := ⟨_, rfl⟩
  have hrlt : r < 4294967296 := by have := Nat.mod_lt x hy0; omega
  have HS := hI (fun w1 (hb1 : Below w.heap.size w w1) => short_any a n c (limbs x) y w1 (hA.mono hb1) (limbs_dg x) hn hy32 hy0)
  rw [natL_limbs, hr, hq] at HS
  rw [hr, hq]
  have HT := hI (fun w2 : World => trim_any (some ⟨w2.heap.size, 0, none⟩) 1 1 [r] (w2.alloc (.cells #[.int .u32 (r : Int)] 110)) (Ls.one (Blk.new _ _ _)) (Dg.one hrlt))
  have hnr : natL [r] = r := by simp [natL]
  rw [hnr] at HT
  obtain ⟨_, _, hv, _, _⟩ := hA.open
  cases hv
  rw [hl1] at hB
  obtain ⟨_, _, hv, _, _⟩ := hB.open
  cases hv
  have HB := hI hB
  clear hA hB hl1 hy32 hrlt hnr hr hq
  simp only [List.length_cons, List.length_nil, Nat.zero_add] at H HB ⊢
  go_enter Tryz.func116, Tryz.ntmps116
  go_wp2_with (first
    | (go_at_call 94; refine (H.out).mono ?_; rintro e w1 ⟨rfl, hb1⟩; obtain ⟨bb, off, d, rfl, hd, c0⟩ := HB.out.at hb1 (show 0 < 1 by decide); cases hd; rw [Nat.add_zero] at c0)
    | (go_at_call 63; refine (HS.out _ hb1).mono ?_; rintro e w2 ⟨v, rfl, hv, hb2⟩)
    | (go_at_call 96; refine (HT.out _).mono ?_; rintro e w3 ⟨rfl, hl3, hb3⟩))
  have hb23 := ((Below.refl w2.heap.size w2).alloc (Nat.le_refl _) _).via hb3 (by simp)
  go_ret2
  exact ⟨_, _, rfl, hv.mono hb23, ⟨_, _, rfl, hl3.mono hb3⟩, (hb1.via hb2 hb1.size).via hb23 (Nat.le_trans hb1.size hb2.size)⟩
end Go.Proofs.YtlcmhbkmpkcajaaGreatDoor
namespace Go.Proofs.YtlcmhbkmpkcajaaGreatDoor
open Go.RowKit
theorem Out.eqb {M B F : Nat} {w w' : World} {g : Nat} {xs : List Nat} (h : Out M w g xs) (he : Eqb B F w w') (hv : g < B) (hne : g ≠ F) : Out M w' g xs := own_eqb h he (fun b hb => by cases hb; exact ⟨hv, hne⟩)
theorem Mid.eqb {g : Nat} {w w' : World} (h : Mid g (g + 1) w w') : Eqb w.heap.size g w w' := ⟨h.size, fun k hk hne => h.block k hk (by omega)⟩
theorem Mid.low {A A' S : Nat} {w w' : World} (h : Mid A S w w') (hA : A' ≤ A) : Mid A' S w w' := ⟨h.os, h.tape, h.output, h.size, fun k hk hx => h.block k hk (by omega)⟩
theorem Out.base {M M' : Nat} {w : World} {g : Nat} {xs : List Nat} (h : Out M w g xs) (hB : M' ≤ M) : Out M' w g xs := own_base h hB
theorem Out.lt {M : Nat} {w : World} {g : Nat} {xs : List Nat} (h : Out M w g xs) : g < w.heap.size := (World.ownsRow.lt h g rfl).2
set_option maxHeartbeats 8000000 in
set_option maxRecDepth 100000 in
theorem divide_long (a b : Option Addr) (n m c c' : Nat) (x y : Nat) (w : World) (hA : Ls w (.slice a n c) (limbs x)) (hB : Ls w (.slice b m c') (limbs y)) (hle : y ≤ x) (h2 : 2 ≤ (limbs y).length) (hn : (limbs x).length < 1000000) :
    Calls Tryz.prog 116 #[.slice a n c, .slice b m c'] w (fun e w' => ∃ q r, e = .returned (.tuple #[q, r]) ∧ MagV w' q (x / y) ∧ MagV w' r (x % y) ∧ Below w.heap.size w w') := by
  have H := hI (order_any _ _ _ _ _ _ _ _ w hA hB)
  have hc := cmpN_ge hle
  generalize cmpN x y = R at *
  have hc2 : ¬ R < 0 := by omega
  clear hc
  have hm : (limbs y).length = m := by
    obtain ⟨_, _, hv, _, _⟩ := hB.open
    cases hv
    rfl
  have hnn : (limbs x).length = n := by
    obtain ⟨_, _, hv, _, _⟩ := hA.open
    cases hv
    rfl
  have hmn : m ≤ n := by
    have := limbs_len_le hle
    omega
  obtain ⟨m1, hm1⟩ : ∃ m1, m = m1 + 1 := ⟨m - 1, by omega⟩
  obtain ⟨top, htop⟩ : ∃ top, (limbs y)[m1]? = some top := ⟨(limbs y)[m1]'(by omega), by simp⟩
  have ht32 : top < 4294967296 := limbs_dg y top (List.mem_of_getElem? htop)
  have ht0 : top ≠ 0 := by
    refine limbs_last (n := y) ?_
    have h := take_last htop
    rwa [List.take_of_length_le (by omega)] at h
  obtain ⟨s, hs, hsI, hs1, hs2⟩ := lz_of ht0 ht32
  obtain ⟨hVl, hVt⟩ := shift_len (by rw [hm, hm1]) htop hs1 hs2
  rw [← hm1] at hVl hVt
  obtain ⟨bb, offb, rfl, hbl, hBc⟩ := hB.cells (by omega)
  have HBc := hI (fun (w1 : World) (h : Below w.heap.size w w1) => (World.cell?_of_block (h.block bb hbl)).trans (hBc m1 top htop))
  have HZ := hI (fun w1 : World => Tryz.bits_lz32 (top : Int) w1 (by omega) (by omega))
  rw [hsI] at HZ
  have HRA := hI (fun w1 (hb1 : Below w.heap.size w w1) => raised_any a n c (limbs x) s w1 (hA.mono hb1) (limbs_dg x) hn hs)
  have HRB := hI (fun w1 (hb1 : Below w.heap.size w w1) => raised_any (some ⟨bb, offb, none⟩) m c' (limbs y) s w1 (hB.mono hb1) (limbs_dg y) (by omega) hs)
  rw [natL_limbs] at HRA HRB
  have hi : (Tryz.prog.info? 110).map (fun i => (i.zero, i.size, i.bytes)) = some (some (.int .u32 0), 1, 4) := by kernel_rfl
  obtain ⟨i4, hi4, hz0, hz1, hz2⟩ := info_parts hi
  have hw1 : IntKind.i64.wrap ((m : Int) - 1) = (m1 : Int) := (IntWalk.i64_in _ (by omega)).trans (by omega)
  have hm1i : (m1 : Int) < (m : Int) := by omega
  have hmne : ¬ m = 1 := by omega
  have hmnei : ¬ (m : Int) = 1 := by omega
  obtain ⟨N, hN⟩ : ∃ N, n = m + N := ⟨n - m, by omega⟩
  have hwN : IntKind.i64.wrap ((n : Int) - (m : Int)) = (N : Int) := (IntWalk.i64_in _ (by omega)).trans (by omega)
  have hwN1 : IntKind.i64.wrap ((N : Int) + 1) = (N : Int) + 1 := IntWalk.i64_in _ (by omega)
  have hy0 : 0 < y := by
    rcases Nat.eq_zero_or_pos y with h | h
    · subst h; rw [limbs_zero] at h2; simp at h2
    · exact h
  have hUlt : x * 2 ^ s < 4294967296 ^ (N + 1) * (y * 2 ^ s) := by
    rw [← Nat.mul_assoc]
    refine Nat.mul_lt_mul_of_pos_right ?_ (Nat.two_pow_pos s)
    have h3 := natL_lt (limbs_dg x)
    rw [natL_limbs, hnn, hN, hm1, Nat.add_assoc, Nat.add_comm m1, Nat.pow_add, Nat.add_comm 1 N] at h3
    have h4 := limbs_pow (n := y) (by omega)
    rw [hm, hm1, Nat.add_sub_cancel] at h4
    exact Nat.lt_of_lt_of_le h3 (Nat.mul_le_mul_left _ h4)
  have Hpl := hI (And.intro hVl (And.intro hVt (And.intro hy0 (And.intro hUlt (And.intro hm hnn)))))
  have Hmm := hI (And.intro hm1 hN)
  have hNb : N < 1000000 := by omega
  have hn1 : n < 1000000 := by omega
  have h2m : 2 ≤ m := by omega
  clear hA hB hBc hbl hVl hVt hy0 hUlt hi hs1 hs2 hsI htop ht0 hle hm hnn h2 hn hm1 hN
  go_enter Tryz.func116, Tryz.ntmps116
  go_wp2_with (first
    | (at_make; refine wpList_make_full _ rfl _ _ 57 rfl (w4.heap.size) 110 i4 (.int .u32 0) 1 Tryz.underlying57 hi4 hz0 hz1 .i64 .i64 _ _ (N + 1) rfl rfl (by omega) (by omega) (by rw [hz2]; omega) (by unfold maxLen; omega) (by simp) ?_; intro w5 hown hg)
    | (go_at_call 94; refine (H.out).mono ?_; rintro e w1 ⟨rfl, hb1⟩; have HB1 := hI hb1; have c0 := HBc.out w1 hb1; clear hb1)
    | (go_at_call 146; refine (HZ.out _).mono ?_; rintro e w1z ⟨rfl, rfl⟩)
    | (have _t := HB3; clear _t; go_at_call 96; refine (HT3.out).mono ?_; rintro e w4 ⟨rfl, hl4, hb4⟩; have HB4 := hI (HB3.out.via hb4 HB3.out.size); have HL4 := hI (hl4.mono hb4); have HU4 := hI (HU3.out.below hb4); clear hl4 hb4)
    | (have _t := HB2; clear _t; go_at_call 147; refine (HRB.out _ HB2.out).mono ?_; rintro e w3 ⟨v3, rfl, ⟨rfl, es, ho3, hl3, hd3, hn3⟩, hb3⟩; have HT3 := hI (trim_any _ _ _ _ _ (show Ls w3 (.slice (some ⟨w2.heap.size, 0, none⟩) (m + 1) (m + 1)) es from by have h := ho3.ls; rw [hl3] at h; exact h) hd3); have HB3 := hI (HB2.out.via hb3 HB2.out.size); have HU3 := hI (HU2.out.below hb3); rw [hn3, Hpl.out.1] at HT3; clear ho3 hl3 hd3 hn3 hb3)
    | (go_at_call 147; refine (HRA.out _ HB1.out).mono ?_; rintro e w2 ⟨v2, rfl, ⟨rfl, us, ho2, hl2, hd2, hn2⟩, hb2⟩; have HB2 := hI (HB1.out.via hb2 HB1.out.size); have HU2 := hI ho2; have HP2 := hI (And.intro hl2 (And.intro hd2 hn2)); clear hl2 hd2 hn2 hb2 ho2))
  have hO := Out.made hown
  have hb5 : Below w4.heap.size w4 w5 := (Below.refl _ _).grown hg (Nat.le_refl _) (fun b hb => by cases hb)
  have hM1 : w.heap.size ≤ w1z.heap.size := HB1.out.size
  have hU := (HU4.out.below hb5).base hM1
  have hL := HL4.out.mono hb5
  have hB := HB4.out.via hb5 HB4.out.size
  have hguv : w1z.heap.size < w2.heap.size := HU2.out.lt
  have hgvq : w2.heap.size < w4.heap.size := by
    obtain ⟨p, o, he, hlt, -⟩ := HL4.out.cells (by omega)
    cases he
    exact hlt
  have hgq := hO.ge
  have hO := hO.base (show w.heap.size ≤ w4.heap.size from HB4.out.size)
  have hup := HP2.out
  have hst : natL (List.replicate (N + 1) 0 ++ []) * (y * 2 ^ s) + natL us = x * 2 ^ s := by rw [List.append_nil, natL_zeros, Nat.zero_mul, Nat.zero_add]; exact hup.2.2
  have hst2 : natL us < 4294967296 ^ (N + 1) * (y * 2 ^ s) := by rw [hup.2.2]; exact Hpl.out.2.2.2.1
  have hVlt : y * 2 ^ s < 4294967296 ^ m := by
    have h := natL_lt (limbs_dg (y * 2 ^ s))
    rwa [natL_limbs, Hpl.out.1] at h
  have HVlt := hI hVlt
  have HV0 := hI (show 0 < y * 2 ^ s from Nat.mul_pos Hpl.out.2.2.1 (Nat.two_pow_pos s))
  generalize w1z.heap.size = gu at *
  generalize w2.heap.size = gv at *
  generalize w4.heap.size = gq at *
  have HG := hI (And.intro hguv (And.intro hgvq hM1))
  clear hown hg hi4 hz0 hz1 hz2 hb5 hguv hgvq hgq hM1 HB1 HB2 HB3 HB4 HU2 HU3 HU4 HL4 HT3 HP2 HRA HRB HZ HBc H hVlt c0
  go_wp2_with fail
  go_loopw [11] (fun ii wr => ∃ (k : Nat) (us qs : List Nat), k ≤ N + 1 ∧ ii = .int .i64 ((k : Int) - 1) ∧ Below w.heap.size w wr ∧ Out w.heap.size wr gu us ∧ Ls wr (.slice (some ⟨gv, 0, none⟩) m (m + 1)) (limbs (y * 2 ^ s)) ∧ Out w.heap.size wr gq (List.replicate k 0 ++ qs) ∧ Hid (us.length = n + 1 ∧ Dg us ∧ qs.length = N + 1 - k ∧ Dg qs ∧ natL us < 4294967296 ^ k * (y * 2 ^ s) ∧ natL (List.replicate k 0 ++ qs) * (y * 2 ^ s) + natL us = x * 2 ^ s)) (fun ii _ => ((intOf ii) + 1).toNat)
  case atStart => exact ⟨N + 1, us, [], Nat.le_refl _, by first | rfl | (congr 1; omega), hB, hU, hL, by rw [List.append_nil]; exact hO, hup.1, hup.2.1, by rw [Nat.sub_self]; rfl, (fun d hd => by simp at hd), hst2, hst⟩
  case round =>
    clear hB hU hL hO hup hst hst2
    obtain ⟨k, us, qs, hk, rfl, hB, hU, hL, hO, hpre⟩ := hrel
    rcases k with _ | j
    · rw [List.replicate_zero, List.nil_append] at hO
      have hql : qs.length = N + 1 := hpre.out.2.2.1
      have hend := hpre.out.2.2.2.2
      rw [List.replicate_zero, List.nil_append, Nat.pow_zero, Nat.one_mul] at hend
      obtain ⟨e1, e2⟩ := long_end Hpl.out.2.2.1 hend.2 hend.1
      have hlq := hO.ls
      rw [hql] at hlq
      have HTq := hI (trim_any _ _ _ _ _ hlq hpre.out.2.2.2.1)
      rw [e1] at HTq
      have hlu := hU.ls
      rw [hpre.out.1] at hlu
      have HTu := hI (fun (w7 : World) (hb : Below wr.heap.size wr w7) => trim_any _ _ _ _ w7 (hlu.mono hb) hpre.out.2.1)
      have hll : (limbs (natL us)).length < 1000000 := by
        have h1 := limbs_len_le (Nat.le_of_lt hend.1)
        rw [Hpl.out.1] at h1
        omega
      have HLo := hI (fun (w8 : World) (c8 : Nat) (hl : Ls w8 (.slice (some ⟨gu, 0, none⟩) (limbs (natL us)).length c8) (limbs (natL us))) => lowered_any gu 0 _ c8 (limbs (natL us)) s w8 hl (limbs_dg _) hll hs)
      rw [natL_limbs, e2] at HLo
      have HB := hI hB
      clear hB hU hL hO hql hend e1 e2 hlq hlu hll
      go_wp2_with (first
        | (have _t := HL8; clear _t; go_at_call 149; refine (HLo.out _ _ HL8.out).mono ?_; rintro e w9 ⟨v9, rfl, hv9, hb9⟩)
        | (have _t := HB7; clear _t; go_at_call 96; refine (HTu.out _ HB7.out).mono ?_; rintro e w8 ⟨rfl, hl8, hb8⟩; have HL8 := hI (hl8.mono hb8); clear hl8)
        | (go_at_call 96; refine (HTq.out).mono ?_; rintro e w7 ⟨rfl, hl7, hb7⟩; have HB7 := hI hb7; have HL7 := hI (hl7.mono hb7); clear hl7 hb7))
      have hb79 := hb8.via hb9 hb8.size
      have hb := ((HB.out.via HB7.out HB.out.size).via hb79 (Nat.le_trans HB.out.size HB7.out.size))
      go_ret2
      exact ⟨_, _, rfl, ⟨_, _, rfl, HL7.out.mono hb79⟩, hv9, hb⟩
    · have hjN : j ≤ N := by omega
      have hij : ((((j + 1 : Nat) : Int) - 1)) = (j : Int) := by omega
      rw [hij]
      obtain ⟨wi1, wi2, wi3⟩ := win_split (j := j) (m := m) (by have := hpre.out.1; have := Hmm.out.2; omega) hpre.out.2.2.2.2.1 HVlt.out
      have hpl : (us.take j).length = j := by rw [List.length_take, hpre.out.1]; have := Hmm.out.2; omega
      have hwl : ((us.drop j).take (m + 1)).length = m + 1 := by rw [List.length_take, List.length_drop, hpre.out.1]; have := Hmm.out.2; omega
      have hsp : us.take j ++ ((us.drop j).take (m + 1) ++ us.drop (j + m + 1)) = us := by
        rw [show us.drop (j + m + 1) = (us.drop j).drop (m + 1) by rw [List.drop_drop, Nat.add_assoc], List.take_append_drop, List.take_append_drop]
      have HD := hI (digit_any w.heap.size gu j (n + 1 - j) (some ⟨gv, 0, none⟩) m (m + 1) (us.take j) ((us.drop j).take (m + 1)) (us.drop (j + m + 1)) (limbs (y * 2 ^ s)) wr (by rw [hsp]; exact hU) hpl hL (fun p hp => by cases hp; exact Nat.ne_of_gt HG.out.1) hwl h2m (by omega) (by omega) (fun d hd => hpre.out.2.1 d (List.mem_of_mem_drop (List.mem_of_mem_take hd))) (limbs_dg _) (by rw [natL_limbs]; exact Hpl.out.2.1) (by rw [natL_limbs]; exact wi2))
      rw [natL_limbs] at HD
      obtain ⟨Q, hQ⟩ : ∃ Q, natL ((us.drop j).take (m + 1)) / (y * 2 ^ s) = Q := ⟨_, rfl⟩
      have hQ32 : Q < 4294967296 := by
        rw [← hQ, Nat.div_lt_iff_lt_mul HV0.out]
        exact wi2
      rw [hQ] at HD
      have HQ := hI hQ
      clear hQ
      obtain ⟨g0, g1⟩ := hO.low
      have hj0 : (0 : Int) ≤ (j : Int) := Int.natCast_nonneg _
      have hjn : (j : Int) < (N : Int) + 1 := by omega
      obtain ⟨jm, hjm⟩ : ∃ jm, j + m = jm := ⟨_, rfl⟩
      obtain ⟨jh, hjh⟩ : ∃ jh, jm + 1 = jh := ⟨_, rfl⟩
      have hwj : IntKind.i64.wrap ((j : Int) + (m : Int)) = (jm : Int) := (IntWalk.i64_in _ (by omega)).trans (by omega)
      have hwj1 : IntKind.i64.wrap ((jm : Int) + 1) = (jh : Int) := (IntWalk.i64_in _ (by omega)).trans (by omega)
      have hjs : jh - j = m + 1 := by omega
      have hjb : (j : Int) ≤ (jh : Int) := by omega
      have hjb0 : (0 : Int) ≤ (jh : Int) := Int.natCast_nonneg _
      have hjb2 : (jh : Int) ≤ (n : Int) + 1 := by have := Hmm.out.2; omega
      have hcj : ¬ n + 1 = j := by have := Hmm.out.2; omega
      have HW2 := hI wi2
      have HLt := hI (show gv < wr.heap.size from by
        obtain ⟨p, o, he, hlt, -⟩ := hL.cells (by omega)
        cases he
        exact hlt)
      have Hwi := hI (And.intro wi1 (And.intro wi3 hpl))
      have HO := hI hO
      have HL := hI hL
      have HB := hI hB
      have Hsp := hI hsp
      have Hj := hI (And.intro hjm hjh)
      clear hO hL hB hU hsp hpl hwl wi1 wi2 wi3 hjm hjh
      go_wp2_with (go_at_call 148; refine (HD.out).mono ?_; rintro e w6 ⟨win', rfl, ho6, hwl6, hdw6, hn6, hm6⟩; have HO6 := hI (HO.out.eqb hm6.eqb HO.out.lt (Nat.ne_of_gt (Nat.lt_trans HG.out.1 HG.out.2.1))); have HM6 := hI hm6; obtain ⟨k0, k1⟩ := HO6.out.low; have HX6 := hI (And.intro ho6 (And.intro hwl6 (And.intro hdw6 hn6))); clear g0 g1 ho6 hwl6 hdw6 hn6 hm6)
      obtain ⟨r1, r2⟩ := long_step Hwi.out.2.2 (hpre.out.2.1.take j) Hwi.out.1 Hwi.out.2.1 HX6.out.2.2.2 HQ.out.symm HV0.out hpre.out.2.2.2.2.2
      rw [← natL_low] at r1
      have hwr := HO6.out.writeLow Q
      have Hwr := hI (hwr.below (Below.refl _ _))
      have Hr := hI (And.intro r1 r2)
      have HB7 := hI (Mid.below HB.out (HM6.out.low HG.out.2.2) HB.out.size)
      have HL7 := hI (show Ls w6 (.slice (some ⟨gv, 0, none⟩) m (m + 1)) (limbs (y * 2 ^ s)) from Ls.eqb HL.out HM6.out.eqb (fun b hb => by cases hb; exact ⟨HLt.out, Nat.ne_of_gt HG.out.1⟩))
      clear r1 r2 hwr
      have HU8 := hI (HX6.out.1.eqb ((Eqb.refl (w := w6) gq).set j (.int .u32 (Q : Int))) HX6.out.1.lt (Nat.ne_of_lt (Nat.lt_trans HG.out.1 HG.out.2.1)))
      have HL8 := hI (show Ls (w6.setCell ⟨gq, j, none⟩ (.int .u32 (Q : Int))) (.slice (some ⟨gv, 0, none⟩) m (m + 1)) (limbs (y * 2 ^ s)) from Ls.eqb HL7.out ((Eqb.refl (w := w6) gq).set j (.int .u32 (Q : Int))) (fun b hb => by cases hb; exact ⟨Nat.lt_of_lt_of_le HLt.out HM6.out.size, Nat.ne_of_lt HG.out.2.1⟩))
      have HB8 := hI (HB7.out.setCell (p := ⟨gq, j, none⟩) HO6.out.ge (.int .u32 (Q : Int)))
      go_wp2_with fail
      go_roundw
      case rel =>
        refine ⟨j, us.take j ++ (win' ++ us.drop (j + m + 1)), Q :: qs, by omega, rfl, HB8.out, HU8.out, HL8.out, Hwr.out, ?_, (hpre.out.2.1.take j).append (HX6.out.2.2.1.append (fun d hd => hpre.out.2.1 d (List.mem_of_mem_drop hd))), by rw [List.length_cons, hpre.out.2.2.1]; omega, ?_, Hr.out.2, Hr.out.1⟩
        · rw [List.length_append, List.length_append, Hwi.out.2.2, HX6.out.2.1, List.length_drop, hpre.out.1]
          have := Hmm.out.2
          omega
        · intro d hd
          rcases List.mem_cons.1 hd with rfl | hd
          · exact hQ32
          · exact hpre.out.2.2.2.1 d hd
      case measure => simp [intOf] <;> omega
end Go.Proofs.YtlcmhbkmpkcajaaGreatDoor
