/-
  Parts of the proof: Short, Mul, Div1, Div2.
-/
import Derived.Deep.LoopGhost
import Derived.Test.YtacihodamichhaaGreatDoorU05
namespace Go.Proofs.YtacihodamichhaaGreatDoor
open Go.RowKit
theorem or_low (r d : Nat) (hd : d < 4294967296) : r * 4294967296 ||| d = r * 4294967296 + d := by
 have h := Nat.two_pow_add_eq_or_of_lt (i := 32) (b := d) (show d < 2 ^ 32 from hd) r
 rw [Nat.mul_comm r]
 exact h.symm
theorem quo_lt {r d b : Nat} (hr : r < b) (hd : d < 4294967296) : (r * 4294967296 + d) / b < 4294967296 := by
 rw [Nat.div_lt_iff_lt_mul (by omega), Nat.mul_comm 4294967296]
 have : (r + 1) * 4294967296 ≤ b * 4294967296 := Nat.mul_le_mul_right _ hr
 omega
theorem big_lt {r b d : Nat} (hr : r < b) (hb : b < 4294967296) (hd : d < 4294967296) : r * 4294967296 + d < 18446744073709551616 := by
 have : r * 4294967296 ≤ 4294967294 * 4294967296 := Nat.mul_le_mul_right _ (by omega)
 omega
theorem Out.low {M : Nat} {w : World} {g n : Nat} {done : List Nat} (h : Out M w g (List.replicate (n + 1) 0 ++ done)) : w.cell? ⟨g, n, none⟩ = some (.int .u32 0) ∧ w.frozen? ⟨g, n, none⟩ = false :=
 h.cell (i := n) (d := 0) (by rw [List.getElem?_append_left (by simp)]; simp)
theorem Out.writeLow {M : Nat} {w : World} {g n : Nat} {done : List Nat} (h : Out M w g (List.replicate (n + 1) 0 ++ done)) (d : Nat) : Out M (w.setCell ⟨g, n, none⟩ (.int .u32 (d : Int))) g (List.replicate n 0 ++ (d :: done)) := by
 have := h.set (i := n) (by simp; omega) d
 rwa [put_down] at this
set_option maxHeartbeats 4000000 in
theorem short_any (a : Option Addr) (n c : Nat) (l : List Nat) (by' : Nat) (w : World) (hL : Ls w (.slice a n c) l) (hd : Dg l) (hn1 : l.length < 1000000) (hby : by' < 4294967296) (hby0 : 0 < by') :
  Calls Tryz.prog 147 #[.slice a n c, .int .u32 (by' : Int)] w (fun e w' => ∃ v, e = .returned (.tuple #[v, .int .u32 ((natL l % by' : Nat) : Int)]) ∧ MagV w' v (natL l / by') ∧ Below w.heap.size w w') := by
 obtain ⟨_, _, hq, hc1, hc2⟩ := hL.open
 cases hq
 unfold maxLen at hc2
 have hi : (Tryz.prog.info? 62).map (fun i => (i.zero, i.size, i.bytes)) = some (some (.int .u32 0), 1, 4) := by kernel_rfl
 obtain ⟨i4, hi4, hz0, hz1, hz2⟩ := info_parts hi
 clear hi
 have HL := hI hL
 have Hd := hI hd
 clear hL hd
 generalize hn : l.length = n at *
 have Hn := hI hn
 clear hn
 go_enter Tryz.func147, Tryz.ntmps147
 go_wp2_with (at_make; refine wpList_make_full _ rfl _ _ 73 rfl (w.heap.size) 62 i4 (.int .u32 0) 1 Tryz.underlying73 hi4 hz0 hz1 .i64 .i64 _ _ n rfl rfl (by omega) (by omega) (by rw [hz2]; omega) (by unfold maxLen; omega) (by simp) ?_; intro w1 hown hg)
 have hO := Out.made hown
 have hb1 : Below w.heap.size w w1 := (Below.refl _ _).grown hg (Nat.le_refl _) (fun b hb => by cases hb)
 clear hown hg hi4 hz0 hz1 hz2
 go_loopw [7, 8] (fun rv i wr => ∃ (k r : Nat) (done : List Nat), k ≤ n ∧ i = .int .i64 ((k : Int) - 1) ∧ rv = .int .u64 (r : Int) ∧ r < by' ∧ Below w.heap.size w wr ∧ Out w.heap.size wr w.heap.size (List.replicate k 0 ++ done) ∧ Hid (done.length = n - k ∧ Dg done ∧ natL done * by' + r = natL (l.drop k))) (fun _ i _ => (intOf i + 1).toNat)
 case atStart => exact ⟨n, 0, [], Nat.le_refl _, rfl, rfl, hby0, hb1, by rw [List.append_nil]; exact hO, by rw [Nat.sub_self]; rfl, (fun d hd => by simp at hd), by rw [List.drop_eq_nil_of_le (by rw [Hn.out]; exact Nat.le_refl _)]; simp [natL]⟩
 case round =>
  clear hO hb1
  obtain ⟨k, r, done, hk, rfl, rfl, hr, hbw, hO, hpre⟩ := hrel
  rcases k with _ | j
  ·rw [List.replicate_zero, List.nil_append] at hO
   have hls := hO.ls
   have hlen : done.length = n := hpre.out.1
   rw [hlen] at hls
   have heq : natL done * by' + r = natL l := by have := hpre.out.2.2; rwa [List.drop_zero] at this
   have hq1 : natL done = natL l / by' := by
    rw [← heq, Nat.mul_comm, Nat.mul_add_div hby0, Nat.div_eq_of_lt hr, Nat.add_zero]
   have hr1 : r = natL l % by' := by
    rw [← heq, Nat.mul_comm, Nat.mul_add_mod, Nat.mod_eq_of_lt hr]
   have H := trim_any _ _ _ _ _ hls hpre.out.2.1
   rw [hq1] at H
   have HT := hI H
   have Hr1 := hI hr1
   have hrm : (r : Int) % 4294967296 = r := by omega
   have Hbw := hI hbw
   clear hO hls hlen heq hq1 hr1 H hbw
   go_wp2_with (go_at_call 172; refine (HT.out).mono ?_; rintro e w2 ⟨rfl, hl2, hb2⟩)
   go_ret2
   exact ⟨_, by rw [← Hr1.out]; rfl, ⟨_, _, rfl, hl2.mono hb2⟩, Hbw.out.via hb2 Hbw.out.size⟩
  ·obtain ⟨b1, off, d, rfl, hdk, c0⟩ := HL.out.at hbw (show j < n by omega)
   have Hdk := hI hdk
   have hdlt := Hd.out d (List.mem_of_getElem? hdk)
   have hij : ((((j + 1 : Nat) : Int) - 1)) = (j : Int) := by omega
   rw [hij]
   have hi64 : IntKind.i64.wrap (j : Int) = j := IntWalk.i64_in _ (by omega)
   have hj0 : (0 : Int) ≤ (j : Int) := Int.natCast_nonneg _
   have hjn : (j : Int) < (n : Int) := by omega
   obtain ⟨g0, g1⟩ := hO.low
   have hm := big_lt hr hby hdlt
   obtain ⟨t, ht⟩ : ∃ t, r * 4294967296 + d = t := ⟨_, rfl⟩
   have hor : bits .or .u64 ((r : Int) * 4294967296) (d : Int) = (t : Int) := by
    have h := u64_or_nat (r * 4294967296) d (Nat.lt_of_le_of_lt (Nat.le_add_right _ d) hm) (Nat.lt_trans hdlt (by decide))
    rw [or_low r d hdlt, ht] at h
    have e : ((r * 4294967296 : Nat) : Int) = (r : Int) * 4294967296 := by omega
    rw [← e]
    exact h
   obtain ⟨q, hq⟩ : ∃ q, t / by' = q := ⟨_, rfl⟩
   obtain ⟨s, hs⟩ : ∃ s, t % by' = s := ⟨_, rfl⟩
   have hqlt : q < 4294967296 := by rw [← hq, ← ht]; exact quo_lt hr hdlt
   have hslt : s < by' := by rw [← hs]; exact Nat.mod_lt _ hby0
   have hqi : (t : Int) / (by' : Int) = (q : Int) := by rw [← hq]; rfl
   have hsi : (t : Int) % (by' : Int) = (s : Int) := by rw [← hs]; rfl
   have hqw : IntKind.u64.wrap ((t : Int) / (by' : Int)) = (q : Int) := by rw [hqi]; exact IntWalk.u64_in _ (by omega)
   have hqm : (q : Int) % 4294967296 = (q : Int) := by omega
   have hby0' : (by' : Int) ≠ 0 := by omega
   have Hst := hI (short_step (d := d) hpre.out.2.2)
   rw [ht, hq, hs] at Hst
   have hwr := hO.writeLow q
   have Hwr := hI hwr
   have Hbw := hI (hbw.setCell (p := ⟨w.heap.size, j, none⟩) (Nat.le_refl _) (.int .u32 (q : Int)))
   have Hhm := hI hm
   clear hwr hO hqi hq hs ht hm hdk
   go_wp2_with fail
   go_roundw
   case rel =>
    refine ⟨j, s, q :: done, by omega, by go_num, by rw [hsi], hslt, Hbw.out, Hwr.out, by rw [List.length_cons, hpre.out.1]; omega, ?_, ?_⟩
    ·intro x hx
     rcases List.mem_cons.1 hx with rfl | hx
     ·exact hqlt
     ·exact hpre.out.2.1 x hx
    ·rw [Hst.out, natL_drop Hdk.out]
   case measure => simp [intOf] <;> omega
end Go.Proofs.YtacihodamichhaaGreatDoor
namespace Go.Proofs.YtacihodamichhaaGreatDoor
open Go.RowKit
theorem mul_step {ys : List Nat} {j o t cr p S : Nat} (hj : ys[j]? = some o) (h : natL ys + 4294967296 ^ j * cr = S) (ht : cr + (p + o) = t) : natL (ys.set j (t % 4294967296)) + 4294967296 ^ (j + 1) * (t / 4294967296) = S + 4294967296 ^ j * p := by
 have h1 := natL_set (lt_get hj) (t % 4294967296)
 rw [getD_of hj] at h1
 have h2 : 4294967296 ^ j * (t % 4294967296) + 4294967296 ^ j * (4294967296 * (t / 4294967296)) = 4294967296 ^ j * t := by rw [← Nat.mul_add, Nat.mod_add_div]
 have h3 : 4294967296 ^ j * t = 4294967296 ^ j * cr + (4294967296 ^ j * p + 4294967296 ^ j * o) := by rw [← ht, Nat.mul_add, Nat.mul_add]
 rw [Nat.pow_succ, Nat.mul_assoc]
 omega
theorem ix_sum {i k n m j : Nat} (h1 : i < n) (h2 : k ≤ m) (hn : n < 1000000) (hm : m < 1000000) (hj : i + k = j) : IntKind.i64.wrap ((i : Int) + (k : Int)) = (j : Int) ∧ wrap64 ((i : Int) + (k : Int)) = (j : Int) ∧ (0 : Int) ≤ (j : Int) ∧ (j : Int) < (n : Int) + (m : Int) := by
 subst hj
 exact ⟨(IntWalk.i64_in _ (by omega)).trans (by omega), (IntWalk.wrap64_in _ (by omega)).trans (by omega), by omega, by omega⟩
theorem mul_le {x y o cr : Nat} (hx : x < 4294967296) (hy : y < 4294967296) (ho : o < 4294967296) (hc : cr < 4294967296) : x * y + o + cr < 18446744073709551616 := by
 have : x * y ≤ 4294967295 * 4294967295 := Nat.mul_le_mul (by omega) (by omega)
 omega
theorem Dg.set {l : List Nat} (h : Dg l) {j v : Nat} (hv : v < 4294967296) : Dg (l.set j v) := fun d hd => by
 rcases List.mem_or_eq_of_mem_set hd with hd | rfl
 ·exact h d hd
 ·exact hv
theorem Out.setl {M : Nat} {w : World} {g : Nat} {ys zs : List Nat} (h : Out M w g (ys ++ zs)) {j : Nat} (hj : j < ys.length) (d : Nat) : Out M (w.setCell ⟨g, j, none⟩ (.int .u32 (d : Int))) g (ys.set j d ++ zs) := by
 have := h.set (i := j) (by rw [List.length_append]; omega) d
 rwa [List.set_append_left _ _ hj] at this
set_option maxHeartbeats 8000000 in
set_option maxRecDepth 100000 in
theorem mul_any (u v : Value) (y z : Int) (w : World) (h : IntV w u y) (h' : IntV w v z) (hl1 : (limbs y.natAbs).length < 1000000) (hl2 : (limbs z.natAbs).length < 1000000) :
  Calls Tryz.prog 112 #[u, v] w (RetP (fun r w' => IntV w' r (y * z)) w) := by
 obtain ⟨a, c, rfl, hl⟩ := h
 obtain ⟨a', c', rfl, hl'⟩ := h'
 have hsg : sgn (decide (y < 0) != decide (z < 0)) (y.natAbs * z.natAbs) = y * z := by
  have e1 := sgn_of y
  have e2 := sgn_of z
  by_cases hy : y < 0 <;> by_cases hz : z < 0
  ·rw [decide_eq_true hy, decide_eq_true hz]; simp only [sgn, bne_self_eq_false, Bool.false_eq_true, if_false]
   rw [Int.natCast_mul, show (y.natAbs : Int) = -y by omega, show (z.natAbs : Int) = -z by omega, Int.neg_mul_neg]
  ·rw [decide_eq_true hy, decide_eq_false hz]; simp only [sgn]
   rw [Int.natCast_mul, show (y.natAbs : Int) = -y by omega, show (z.natAbs : Int) = z by omega, Int.neg_mul]; simp
  ·rw [decide_eq_false hy, decide_eq_true hz]; simp only [sgn]
   rw [Int.natCast_mul, show (y.natAbs : Int) = y by omega, show (z.natAbs : Int) = -z by omega, Int.mul_neg]; simp
  ·rw [decide_eq_false hy, decide_eq_false hz]; simp only [sgn, bne_self_eq_false, Bool.false_eq_true, if_false]
   rw [Int.natCast_mul, show (y.natAbs : Int) = y by omega, show (z.natAbs : Int) = z by omega]
 have HSg := hI hsg
 clear hsg
 obtain ⟨_, _, hq, hc1, hc2⟩ := hl.open
 cases hq
 obtain ⟨_, _, hq, hc3, hc4⟩ := hl'.open
 cases hq
 unfold maxLen at hc2 hc4
 have hi : (Tryz.prog.info? 62).map (fun i => (i.zero, i.size, i.bytes)) = some (some (.int .u32 0), 1, 4) := by kernel_rfl
 obtain ⟨i4, hi4, hz0, hz1, hz2⟩ := info_parts hi
 clear hi
 have Hd := hI (limbs_dg y.natAbs)
 have Hd' := hI (limbs_dg z.natAbs)
 have HN := hI (natL_limbs y.natAbs)
 have HN' := hI (natL_limbs z.natAbs)
 have HL := hI hl
 have HL' := hI hl'
 clear hl hl'
 generalize limbs y.natAbs = l at *
 generalize limbs z.natAbs = l' at *
 generalize hn : l.length = n at *
 generalize hm : l'.length = m at *
 have Hn := hI hn
 have Hm := hI hm
 clear hn hm
 generalize decide (y < 0) = x at *
 generalize decide (z < 0) = x' at *
 have hK := below3 w (.cells #[.bool x, .slice a n c] 75) (.cells #[.bool x', .slice a' m c'] 75) (.cells #[.bool false, .slice none 0 0] 75)
 have hA : Blk (((w.alloc (.cells #[.bool x, .slice a n c] 75)).alloc (.cells #[.bool x', .slice a' m c'] 75)).alloc (.cells #[.bool false, .slice none 0 0] 75)) w.heap.size #[.bool x, .slice a n c] 75 := ((Blk.new w _ _).old _).old _
 have hB : Blk (((w.alloc (.cells #[.bool x, .slice a n c] 75)).alloc (.cells #[.bool x', .slice a' m c'] 75)).alloc (.cells #[.bool false, .slice none 0 0] 75)) (w.heap.size + 1) #[.bool x', .slice a' m c'] 75 := by
  have h := (Blk.new (w.alloc (.cells #[.bool x, .slice a n c] 75)) #[.bool x', .slice a' m c'] 75).old (.cells #[.bool false, .slice none 0 0] 75)
  simpa using h
 have hR : Blk (((w.alloc (.cells #[.bool x, .slice a n c] 75)).alloc (.cells #[.bool x', .slice a' m c'] 75)).alloc (.cells #[.bool false, .slice none 0 0] 75)) (w.heap.size + 1 + 1) #[.bool false, .slice none 0 0] 75 := by
  have h := Blk.new ((w.alloc (.cells #[.bool x, .slice a n c] 75)).alloc (.cells #[.bool x', .slice a' m c'] 75)) #[.bool false, .slice none 0 0] 75
  simpa using h
 have HK := hI hK
 have HA := hI hA
 have HB := hI hB
 have HR := hI hR
 clear hK hA hB hR
 go_enter Tryz.func112, Tryz.ntmps112
 have hW3 : (((w.alloc (.cells #[.bool x, .slice a n c] 75)).alloc (.cells #[.bool x', .slice a' m c'] 75)).alloc (.cells #[.bool false, .slice none 0 0] 75)).heap.size = w.heap.size + 1 + 1 + 1 := by simp
 go_wp2_with (at_make; refine wpList_make_full _ rfl _ _ 73 rfl (w.heap.size + 1 + 1 + 1) 62 i4 (.int .u32 0) 1 Tryz.underlying73 hi4 hz0 hz1 .i64 .i64 _ _ (n + m) rfl rfl (by omega) (by omega) (by rw [hz2]; omega) (by unfold maxLen; omega) (by simp) ?_; intro w1 hown hg; obtain ⟨⟨p0, p1⟩, -⟩ := blk2v (HA.out.below ((Below.refl _ _).grown hg (Nat.le_refl _) (fun b hb => by cases hb))); obtain ⟨⟨q0, q1⟩, -⟩ := blk2v (HB.out.below ((Below.refl _ _).grown hg (Nat.le_refl _) (fun b hb => by cases hb))))
 rw [hW3] at hown
 have hO := Out.made hown
 have hb1 : Below (((w.alloc (.cells #[.bool x, .slice a n c] 75)).alloc (.cells #[.bool x', .slice a' m c'] 75)).alloc (.cells #[.bool false, .slice none 0 0] 75)).heap.size (((w.alloc (.cells #[.bool x, .slice a n c] 75)).alloc (.cells #[.bool x', .slice a' m c'] 75)).alloc (.cells #[.bool false, .slice none 0 0] 75)) w1 := (Below.refl _ _).grown hg (Nat.le_refl _) (fun b hb => by cases hb)
 clear hown hg hi4 hz0 hz1 hz2 q0 q1 p0 p1
 generalize (((w.alloc (.cells #[.bool x, .slice a n c] 75)).alloc (.cells #[.bool x', .slice a' m c'] 75)).alloc (.cells #[.bool false, .slice none 0 0] 75)) = W3 at *
 have hO1 : Out (w.heap.size + 1 + 1 + 1) w1 (w.heap.size + 1 + 1 + 1) (List.replicate m 0 ++ List.replicate n 0) := by
  rw [List.replicate_append_replicate, Nat.add_comm m n]; exact hO
 have hMle : W3.heap.size ≤ w.heap.size + 1 + 1 + 1 := Nat.le_of_eq hW3
 have HM := hI hMle
 generalize hMM : w.heap.size + 1 + 1 + 1 = M at *
 have HMM := hI hMM
 clear hO hW3 hMM hMle
 go_loopw [6, 7, 8, 9, 10, 22] (fun _ _ _ _ _ i wr => ∃ (k : Nat) (ys : List Nat), k ≤ n ∧ i = .int .i64 k ∧ Below W3.heap.size W3 wr ∧ Out M wr M (ys ++ List.replicate (n - k) 0) ∧ Hid (ys.length = k + m ∧ Dg ys ∧ natL ys = natL (l.take k) * natL l')) (fun _ _ _ _ _ i _ => n - (intOf i).toNat)
 case atStart => exact ⟨0, List.replicate m 0, Nat.zero_le _, rfl, hb1, hO1, by simp, Dg.zeros m, by rw [natL_zeros]; simp [natL]⟩
 case round =>
  clear hO1 hb1
  obtain ⟨i, ys, hi, rfl, hbw, hO, hpre⟩ := hrel
  obtain ⟨⟨p0, p1⟩, -⟩ := blk2v (HA.out.below hbw)
  obtain ⟨⟨q0, q1⟩, -⟩ := blk2v (HB.out.below hbw)
  by_cases hlt : i < n
  ·obtain ⟨b1, off, d, rfl, hdk, c0⟩ := HL.out.at (HK.out.via hbw HK.out.size) hlt
   have Hdk := hI hdk
   have hdlt := Hd.out d (List.mem_of_getElem? hdk)
   have hii0 : (0 : Int) ≤ (i : Int) := Int.natCast_nonneg _
   have hii1 : (i : Int) < (n : Int) := by omega
   clear hdk
   go_wp2_with fail
   go_loopw [8, 9, 10, 30] (fun cv _ _ kk wz => ∃ (k cr : Nat) (ys : List Nat), k ≤ m ∧ kk = .int .i64 k ∧ cv = .int .u64 (cr : Int) ∧ cr < 4294967296 ∧ Below W3.heap.size W3 wz ∧ Out M wz M (ys ++ List.replicate (n - i) 0) ∧ Hid (ys.length = i + m ∧ Dg ys ∧ natL ys + 4294967296 ^ (i + k) * cr = natL (l.take i) * natL l' + 4294967296 ^ i * (d * natL (l'.take k)))) (fun _ _ _ kk _ => m - (intOf kk).toNat)
   case atStart => exact ⟨0, 0, ys, Nat.zero_le _, rfl, rfl, by decide, hbw, hO, hpre.out.1, hpre.out.2.1, by rw [hpre.out.2.2]; simp [natL]⟩
   case round =>
    clear hO hbw p0 p1 q0 q1 c0
    rename World => wz
    obtain ⟨k, cr, ys, hk, rfl, rfl, hcr, hbw, hO, hpre⟩ := hrel
    obtain ⟨⟨p0, p1⟩, -⟩ := blk2v (HA.out.below hbw)
    obtain ⟨⟨q0, q1⟩, -⟩ := blk2v (HB.out.below hbw)
    by_cases hltk : k < m
    ·obtain ⟨b2, off2, e, rfl, hek, d0⟩ := HL'.out.at (HK.out.via hbw HK.out.size) hltk
     have Hek := hI hek
     have helt := Hd'.out e (List.mem_of_getElem? hek)
     obtain ⟨o, ho⟩ : ∃ o, ys[i + k]? = some o := ⟨ys[i + k]'(by rw [hpre.out.1]; omega), by simp⟩
     have holt := hpre.out.2.1 o (List.mem_of_getElem? ho)
     obtain ⟨g0, g1⟩ := hO.cell (i := i + k) (d := o) (by rw [List.getElem?_append_left (lt_get ho)]; exact ho)
     have hb := mul_le hdlt helt holt hcr
     obtain ⟨p, hp⟩ : ∃ p, d * e = p := ⟨_, rfl⟩
     obtain ⟨s, hs⟩ : ∃ s, p + o = s := ⟨_, rfl⟩
     obtain ⟨t, ht⟩ : ∃ t, cr + s = t := ⟨_, rfl⟩
     rw [hp] at hb
     have hpi : (d : Int) * (e : Int) = (p : Int) := by rw [← hp]; push_cast; rfl
     have hw1 : IntKind.u64.wrap ((d : Int) * (e : Int)) = (p : Int) := by rw [hpi]; exact IntWalk.u64_in _ (by omega)
     have hw2 : IntKind.u64.wrap ((p : Int) + (o : Int)) = (s : Int) := by rw [← hs]; exact (IntWalk.u64_in _ (by omega)).trans (by omega)
     have hw3 : IntKind.u64.wrap ((cr : Int) + (s : Int)) = (t : Int) := by rw [← ht]; exact (IntWalk.u64_in _ (by omega)).trans (by omega)
     have Hst := hI (mul_step (t := t) (p := p) ho hpre.out.2.2 (by omega))
     have e1 : ((t % 4294967296 : Nat) : Int) = (t : Int) % 4294967296 := by omega
     have e2 : ((t / 4294967296 : Nat) : Int) = (t : Int) / 4294967296 := by omega
     have htlt : t / 4294967296 < 4294967296 := by omega
     have hwr := hO.setl (lt_get ho) (t % 4294967296)
     rw [e1] at hwr
     have Hwr := hI hwr
     have Hbw := hI (hbw.setCell (p := ⟨M, i + k, none⟩) HM.out (.int .u32 ((t : Int) % 4294967296)))
     have hkk0 : (0 : Int) ≤ (k : Int) := Int.natCast_nonneg _
     have hkk1 : (k : Int) < (m : Int) := by omega
     obtain ⟨j, hj⟩ : ∃ j, i + k = j := ⟨_, rfl⟩
     obtain ⟨hA1, hA2, hj0, hj1⟩ := ix_sum hlt (Nat.le_of_lt hltk) hl1 hl2 hj
     have Hj := hI hj
     rw [hj] at g0 g1 Hwr Hbw
     clear hj
     have Hp := hI hp
     clear hO hwr hp hs ht hpi ho hek hb
     go_wp2_with fail
     go_roundw
     case rel =>
      refine ⟨k + 1, t / 4294967296, ys.set (i + k) (t % 4294967296), by omega, by go_num, by rw [e2], htlt, Hbw.out, by rw [Hj.out]; exact Hwr.out, by rw [List.length_set]; exact hpre.out.1, hpre.out.2.1.set (Nat.mod_lt _ (by decide)), ?_⟩
      rw [← Nat.add_assoc, Hst.out, take_next Hek.out, ← Hp.out, Nat.pow_add, Nat.mul_add, Nat.mul_add, Nat.mul_assoc, Nat.add_assoc, Nat.mul_left_comm d]
     case measure => simp [intOf]; omega
    ·obtain rfl : k = m := by omega
     have hO2 : Out M wz M (ys ++ List.replicate ((n - (i + 1)) + 1) 0) := by rw [show n - (i + 1) + 1 = n - i by omega]; exact hO
     obtain ⟨g0, g1⟩ := hO2.next
     have hwr := hO2.write cr
     obtain ⟨j, hj⟩ : ∃ j, i + k = j := ⟨_, rfl⟩
     have hyl : ys.length = j := by rw [hpre.out.1, hj]
     rw [hyl] at g0 g1 hwr
     obtain ⟨hA1, hA2, hj0, hj1⟩ := ix_sum hlt (Nat.le_refl k) hl1 hl2 hj
     have Hwr := hI hwr
     have Hbel := hI (hbw.setCell (p := ⟨M, j, none⟩) HM.out (.int .u32 (cr : Int)))
     have hcm : (cr : Int) % 4294967296 = cr := by omega
     have hnat : natL (ys ++ [cr]) = natL (l.take (i + 1)) * natL l' := by
      rw [natL_snoc, hpre.out.1, hpre.out.2.2, List.take_of_length_le (l := l') (by rw [Hm.out]; omega), take_next Hdk.out, Nat.add_mul, Nat.mul_assoc]
     have Hnat := hI hnat
     have Hyl := hI (show (ys ++ [cr]).length = i + 1 + k by rw [List.length_append, hpre.out.1]; simp; omega)
     clear hO hO2 hwr hj hyl hnat
     go_wp2_with fail
     go_roundw
     case rel => exact ⟨i + 1, ys ++ [cr], by omega, by go_num, Hbel.out, Hwr.out, Hyl.out, hpre.out.2.1.append (Dg.one hcr), Hnat.out⟩
     case measure => simp [intOf]; omega
  ·obtain rfl : i = n := by omega
   rw [Nat.sub_self, List.replicate_zero, List.append_nil] at hO
   have hls := hO.ls
   rw [hpre.out.1] at hls
   have H := signed_any (x != x') _ _ _ ys wr hls hpre.out.2.1
   have hnat : natL ys = y.natAbs * z.natAbs := by rw [hpre.out.2.2, List.take_of_length_le (l := l) (by rw [Hn.out]; omega), HN.out, HN'.out]
   rw [hnat, HSg.out] at H
   have HS := hI H
   have Hbw := hI hbw
   clear hO hls H hnat
   go_wp2_with (go_at_call 140; refine (HS.out).mono ?_; rintro e w5 ⟨v5, rfl, hv5, hb5⟩; obtain ⟨x5, a5, k5, c5, rfl, hv5⟩ := hv5.open; have hr := (HR.out.below Hbw.out).below hb5; obtain ⟨⟨r0, r1⟩, f0, f1⟩ := blk2v hr)
   obtain ⟨hv6, hb6⟩ := IntV.put2 hv5 hr
   have hbel := ((HK.out.via (Hbw.out.via hb5 Hbw.out.size) HK.out.size).setCell (p := ⟨w.heap.size + 1 + 1, 0, none⟩) (by show w.heap.size ≤ w.heap.size + 1 + 1; omega) (.bool x5)).setCell (p := ⟨w.heap.size + 1 + 1, 1, none⟩) (by show w.heap.size ≤ w.heap.size + 1 + 1; omega) (.slice a5 k5 c5)
   obtain ⟨⟨s0, s1⟩, -⟩ := blk2v hb6
   exact bodyPost_ret (v := .agg #[.bool x5, .slice a5 k5 c5]) (by simp [results, Tryz.results112, go_sem, s0, s1]) rfl ⟨_, rfl, hv6, hbel⟩
end Go.Proofs.YtacihodamichhaaGreatDoor
namespace Go.Proofs.YtacihodamichhaaGreatDoor
open Go.RowKit
theorem limbs_one {y : Nat} (h : (limbs y).length = 1) : limbs y = [y] ∧ y < 4294967296 := by
 have h0 : y ≠ 0 := fun e => by subst e; rw [limbs_zero] at h; simp at h
 rw [limbs_pos h0] at h ⊢
 have h1 : limbs (y / 4294967296) = [] := by
  rw [List.length_cons] at h
  exact List.length_eq_zero_iff.1 (by omega)
 have h2 := limbs_nil.1 h1
 have h3 : y < 4294967296 := by omega
 rw [h1, Nat.mod_eq_of_lt h3]
 exact ⟨rfl, h3⟩
theorem MagV.zero (w : World) : MagV w (.slice none 0 0) 0 := ⟨none, 0, by rw [limbs_zero]; rfl, by rw [limbs_zero]; exact Ls.nil w⟩
set_option maxHeartbeats 4000000 in
theorem divide_small (a b : Option Addr) (n m c c' : Nat) (x y : Nat) (w : World) (hA : Ls w (.slice a n c) (limbs x)) (hB : Ls w (.slice b m c') (limbs y)) (hlt : x < y) :
  Calls Tryz.prog 173 #[.slice a n c, .slice b m c'] w (fun e w' => ∃ q r, e = .returned (.tuple #[q, r]) ∧ MagV w' q (x / y) ∧ MagV w' r (x % y) ∧ Below w.heap.size w w') := by
 have H := hI (order_any _ _ _ _ _ _ _ _ w hA hB)
 have hc : cmpN x y = -1 := by unfold cmpN; rw [if_pos hlt]
 rw [hc] at H
 have hq : x / y = 0 := Nat.div_eq_of_lt hlt
 have hr : x % y = x := Nat.mod_eq_of_lt hlt
 rw [hq, hr]
 obtain ⟨_, _, hv, _, _⟩ := hA.open
 cases hv
 have HA := hI hA
 clear hA hB hc hq hr
 go_enter Tryz.func173, Tryz.ntmps173
 go_wp2_with (go_at_call 143; refine (H.out).mono ?_; rintro e w1 ⟨rfl, hb1⟩)
 go_ret2
 exact ⟨_, _, rfl, MagV.zero _, ⟨a, c, rfl, HA.out.mono hb1⟩, hb1⟩
end Go.Proofs.YtacihodamichhaaGreatDoor
namespace Go.Proofs.YtacihodamichhaaGreatDoor
open Go.RowKit
theorem Ls.one {w : World} {b d : Nat} {T : TypeId} (h : Blk w b #[.int .u32 (d : Int)] T) : Ls w (.slice (some ⟨b, 0, none⟩) 1 1) [d] := by
 refine ⟨_, _, rfl, by simp [u32s], by unfold maxLen; omega, .inr ⟨b, 0, rfl, h.lt, fun i j hi hj => ?_⟩⟩
 rw [h.cell]
 simp only [u32s, List.map_cons, List.map_nil, List.length_cons, List.length_nil] at hi
 obtain rfl : j = 0 := by omega
 obtain rfl : i = 0 := by omega
 rfl
theorem limbs_len_of_lt {y : Nat} (h : y < 4294967296) (h0 : y ≠ 0) : (limbs y).length = 1 := by
 rw [limbs_pos h0, show y / 4294967296 = 0 by omega, limbs_zero]; rfl
def Few (N : Nat) : Prop := (limbs N).length < 1000000
set_option maxHeartbeats 4000000 in
theorem divide_one (a b : Option Addr) (n m c c' : Nat) (x y : Nat) (w : World) (hA : Ls w (.slice a n c) (limbs x)) (hB : Ls w (.slice b m c') (limbs y)) (hle : y ≤ x) (h1 : (limbs y).length = 1) (hn : (limbs x).length < 1000000) :
  Calls Tryz.prog 173 #[.slice a n c, .slice b m c'] w (fun e w' => ∃ q r, e = .returned (.tuple #[q, r]) ∧ MagV w' q (x / y) ∧ MagV w' r (x % y) ∧ Below w.heap.size w w') := by
 have H := hI (order_any _ _ _ _ _ _ _ _ w hA hB)
 have hc := cmpN_ge hle
 obtain ⟨hl1, hy32⟩ := limbs_one h1
 have hy0 : 0 < y := by
  rcases Nat.eq_zero_or_pos y with h | h
  ·subst h; rw [limbs_zero] at h1; simp at h1
  ·exact h
 generalize cmpN x y = R at *
 have hc2 : ¬ R < 0 := by omega
 clear hc hle h1
 obtain ⟨r, hr⟩ : ∃ r, x % y = r := ⟨_, rfl⟩
 obtain ⟨q, hq⟩ : ∃ q, x / y = q := ⟨_, rfl⟩
 have hrlt : r < 4294967296 := by have := Nat.mod_lt x hy0; omega
 have HS := hI (fun w1 (hb1 : Below w.heap.size w w1) => short_any a n c (limbs x) y w1 (hA.mono hb1) (limbs_dg x) hn hy32 hy0)
 rw [natL_limbs, hr, hq] at HS
 rw [hr, hq]
 have HT := hI (fun w2 : World => trim_any (some ⟨w2.heap.size, 0, none⟩) 1 1 [r] (w2.alloc (.cells #[.int .u32 (r : Int)] 62)) (Ls.one (Blk.new _ _ _)) (Dg.one hrlt))
 have hnr : natL [r] = r := by simp [natL]
 rw [hnr] at HT
 obtain ⟨_, _, hv, _, _⟩ := hA.open
 cases hv
 rw [hl1] at hB
 obtain ⟨_, _, hv, _, _⟩ := hB.open
 cases hv
 have HB := hI hB
 clear hA hB hl1 hy32 hrlt hnr hr hq
 simp only [List.length_cons, List.length_nil, Nat.zero_add] at H HB ⊢
 go_enter Tryz.func173, Tryz.ntmps173
 go_wp2_with (first
  | (go_at_call 143; refine (H.out).mono ?_; rintro e w1 ⟨rfl, hb1⟩; obtain ⟨bb, off, d, rfl, hd, c0⟩ := HB.out.at hb1 (show 0 < 1 by decide); cases hd; rw [Nat.add_zero] at c0)
  | (go_at_call 147; refine (HS.out _ hb1).mono ?_; rintro e w2 ⟨v, rfl, hv, hb2⟩)
  | (go_at_call 172; refine (HT.out _).mono ?_; rintro e w3 ⟨rfl, hl3, hb3⟩))
 have hb23 := ((Below.refl w2.heap.size w2).alloc (Nat.le_refl _) _).via hb3 (by simp)
 go_ret2
 exact ⟨_, _, rfl, hv.mono hb23, ⟨_, _, rfl, hl3.mono hb3⟩, (hb1.via hb2 hb1.size).via hb23 (Nat.le_trans hb1.size hb2.size)⟩
theorem divide_any1 (a b : Option Addr) (n m c c' : Nat) (x y : Nat) (w : World) (hA : Ls w (.slice a n c) (limbs x)) (hB : Ls w (.slice b m c') (limbs y)) (h0 : y ≠ 0) (h1 : y < 4294967296) (hn : (limbs x).length < 1000000) :
  Calls Tryz.prog 173 #[.slice a n c, .slice b m c'] w (fun e w' => ∃ q r, e = .returned (.tuple #[q, r]) ∧ MagV w' q (x / y) ∧ MagV w' r (x % y) ∧ Below w.heap.size w w') := by
 rcases Nat.lt_or_ge x y with h | h
 ·exact divide_small a b n m c c' x y w hA hB h
 ·exact divide_one a b n m c c' x y w hA hB h (limbs_len_of_lt h1 h0) hn
set_option maxHeartbeats 4000000 in
theorem gcd_small (u v : Value) (y z : Int) (w : World) (h : IntV w u y) (h' : IntV w v z) (hl1 : (limbs y.natAbs).length < 1000000) (hz : z.natAbs < 4294967296) :
  Calls Tryz.prog 145 #[u, v] w (RetP (fun r w' => IntV w' r (Nat.gcd y.natAbs z.natAbs : Nat)) w) := by
 obtain ⟨a, c, rfl, hl⟩ := h
 obtain ⟨a', c', rfl, hl'⟩ := h'
 generalize decide (y < 0) = s1
 generalize decide (z < 0) = s2
 have hK := below3 w (.cells #[.bool s1, .slice a (limbs y.natAbs).length c] 75) (.cells #[.bool s2, .slice a' (limbs z.natAbs).length c'] 75) (.cells #[.bool false, .slice none 0 0] 75)
 have hR : Blk (((w.alloc (.cells #[.bool s1, .slice a (limbs y.natAbs).length c] 75)).alloc (.cells #[.bool s2, .slice a' (limbs z.natAbs).length c'] 75)).alloc (.cells #[.bool false, .slice none 0 0] 75)) (w.heap.size + 1 + 1) #[.bool false, .slice none 0 0] 75 := by
  have h := Blk.new ((w.alloc (.cells #[.bool s1, .slice a (limbs y.natAbs).length c] 75)).alloc (.cells #[.bool s2, .slice a' (limbs z.natAbs).length c'] 75)) #[.bool false, .slice none 0 0] 75
  simpa using h
 have HK := hI hK
 have HR := hI hR
 generalize y.natAbs = Y at *
 generalize z.natAbs = Z at *
 have HX := hI (show MagV w (.slice a (limbs Y).length c) Y ∧ MagV w (.slice a' (limbs Z).length c') Z from ⟨⟨_, _, rfl, hl⟩, ⟨_, _, rfl, hl'⟩⟩)
 have Hl1 := hI (show Few Y from hl1)
 clear hl hl' hK hR hl1
 generalize (limbs Y).length = k0 at *
 generalize (limbs Z).length = k1 at *
 go_enter Tryz.func145, Tryz.ntmps145
 go_wp2_with fail
 go_quiet (fail)
 go_wp2_with fail
 go_loopg [5, 6] Z (fun k u v wr => ∃ X, MagV wr u X ∧ MagV wr v k ∧ k < 4294967296 ∧ Few X ∧ Below (((w.alloc (.cells #[.bool s1, .slice a k0 c] 75)).alloc (.cells #[.bool s2, .slice a' k1 c'] 75)).alloc (.cells #[.bool false, .slice none 0 0] 75)).heap.size (((w.alloc (.cells #[.bool s1, .slice a k0 c] 75)).alloc (.cells #[.bool s2, .slice a' k1 c'] 75)).alloc (.cells #[.bool false, .slice none 0 0] 75)) wr ∧ Hid (Nat.gcd X k = Nat.gcd Y Z))
 case atStart => exact ⟨Y, HX.out.1.mono ((HK.out).dn _), HX.out.2.mono ((HK.out).dn _), hz, Hl1.out, (Below.refl _ _).dn _, rfl⟩
 case round =>
  obtain ⟨X, hX, hY, hk, hlx, hb, hg⟩ := hrel
  have hr := HR.out.below hb
  obtain ⟨⟨r0, r1⟩, f0, f1⟩ := blk2v hr
  obtain ⟨ax, cx, rfl, hX⟩ := hX
  obtain ⟨ay, cy, rfl, hY⟩ := hY
  have Hb := hI hb
  have Hr := hI hr
  clear hb hr
  rcases Nat.eq_zero_or_pos gk with rfl | hpos
  ·have h0 : (limbs 0).length = 0 := by rw [limbs_zero]; rfl
   rw [h0]
   have he : Nat.gcd Y Z = X := by rw [← hg.out, Nat.gcd_zero_right]
   have He := hI he
   have HXl := hI hX
   have hiv : IntV wr (.agg #[.bool false, .slice ax (limbs X).length cx]) (X : Int) := ⟨ax, cx, by simp, hX⟩
   obtain ⟨hv2, hb2⟩ := IntV.put2 hiv Hr.out
   have Hv2 := hI hv2
   have Hb2 := hI hb2
   have hbel := (((HK.out.via Hb.out HK.out.size).setCell (p := ⟨w.heap.size + 1 + 1, 0, none⟩) (by show w.heap.size ≤ w.heap.size + 1 + 1; omega) (.bool false)).setCell (p := ⟨w.heap.size + 1 + 1, 1, none⟩) (by show w.heap.size ≤ w.heap.size + 1 + 1; omega) (.slice ax (limbs X).length cx))
   have Hbel := hI hbel
   clear hv2 hb2 hbel hiv hX hY he hg h0 hlx
   generalize (limbs X).length = kx at *
   go_wp2_with fail
   obtain ⟨⟨q0, q1⟩, -⟩ := blk2v Hb2.out
   refine bodyPost_ret (v := .agg #[.bool false, .slice ax kx cx]) (by simp [results, Tryz.results145, go_sem, q0, q1]) rfl ⟨_, rfl, ?_, Hbel.out⟩
   rw [He.out]
   exact Hv2.out
  ·have HD := hI (divide_any1 _ _ _ _ _ _ _ _ wr hX hY (by omega) hk hlx)
   have hlen : 0 < (limbs gk).length := by
    rcases Nat.eq_zero_or_pos (limbs gk).length with h | h
    ·rw [limbs_len0] at h; omega
    ·exact h
   have HY := hI (show MagV wr (.slice ay (limbs gk).length cy) gk from ⟨_, _, rfl, hY⟩)
   have hlk : (limbs gk).length < 1000000 := by rw [limbs_len_of_lt hk (by omega)]; decide
   have Hlk := hI (show Few gk from hlk)
   clear hX hY hlk
   generalize (limbs gk).length = ky at *
   have hlen2 : (0 : Int) < (ky : Int) := by omega
   go_wp2_with (go_at_call 173; refine (HD.out).mono ?_; rintro e w2 ⟨q, r, rfl, hq, hr2, hb2⟩)
   go_roundg (X % gk)
   case measure => exact Nat.mod_lt _ hpos
   case rel =>
    exact ⟨gk, HY.out.mono hb2, hr2, Nat.lt_trans (Nat.mod_lt _ hpos) hk, Hlk.out, Hb.out.via hb2 Hb.out.size, by unfold Hid; rw [← hg.out, Nat.gcd_comm X gk, Nat.gcd_rec gk X, Nat.gcd_comm]⟩
end Go.Proofs.YtacihodamichhaaGreatDoor
