/-
  Parts of the proof: Kn2, Raise.
-/
import Derived.Test.YtlcmhbkmpkcajaaGreatDoorN04
namespace Go.Proofs.YtlcmhbkmpkcajaaGreatDoor
theorem km_eq {K x y m r : Nat} (hm : m < K) (hr : r < K) (h : K * x + m = K * y + r) : x = y ∧ m = r := by
  have hK : 0 < K := by omega
  have h1 : (K * x + m) / K = x := by rw [Nat.mul_add_div hK, Nat.div_eq_of_lt hm, Nat.add_zero]
  have h2 : (K * y + r) / K = y := by rw [Nat.mul_add_div hK, Nat.div_eq_of_lt hr, Nat.add_zero]
  have h3 : x = y := by rw [← h1, ← h2, h]
  subst h3
  exact ⟨rfl, by omega⟩
theorem dig_fit {q U V un R bo c K Ul : Nat} (h : Ul + K * (bo + c) = R + q * V) (hU : U = Ul + K * un) (hR : R < K) (hV : V ≤ K) (hV0 : 0 < V) (hq : q = U / V) : bo + c = un ∧ R = U % V := by
  have h1 := Nat.div_add_mod U V
  have h2 := Nat.mod_lt U hV0
  rw [← hq, Nat.mul_comm] at h1
  have h3 : K * (bo + c) + U % V = K * un + R := by omega
  obtain ⟨h4, h5⟩ := km_eq (by omega) hR h3
  exact ⟨h4, h5.symm⟩
theorem dig_over {q U V un R bo c K Ul : Nat} (h : Ul + K * (bo + c) = R + q * V) (hU : U = Ul + K * un) (hR : R < K) (hV : V ≤ K) (hV0 : 0 < V) (hq : q = U / V + 1) : bo + c = un + 1 ∧ R + V = K + U % V := by
  have h1 := Nat.div_add_mod U V
  have h2 := Nat.mod_lt U hV0
  have h0 : q * V = V * (U / V) + V := by rw [hq, Nat.add_mul, Nat.one_mul, Nat.mul_comm]
  have h3 : K * (bo + c) + U % V = K * un + (R + V) := by omega
  have h4 : bo + c = un + 1 := by
    rcases Nat.lt_or_ge (bo + c) (un + 1) with h5 | h5
    · have := Nat.mul_le_mul_left K (show bo + c ≤ un by omega); omega
    · rcases Nat.lt_or_ge (un + 1) (bo + c) with h6 | h6
      · have := Nat.mul_le_mul_left K (show un + 2 ≤ bo + c by omega)
        rw [Nat.mul_add] at this
        omega
      · omega
  rw [h4, Nat.mul_add] at h3
  exact ⟨h4, by omega⟩
theorem dig_back {R V K R' c' m : Nat} (h : R' + K * c' = R + V) (h2 : R + V = K + m) (hR : R' < K) (hm : m < K) : c' = 1 ∧ R' = m := by
  obtain ⟨h3, h4⟩ := km_eq (x := c') (y := 1) hR hm (by omega)
  exact ⟨h3, h4⟩
theorem put_at (pre done : List Nat) (d v : Nat) (rest : List Nat) : (pre ++ (done ++ d :: rest)).set (pre.length + done.length) v = pre ++ ((done ++ [v]) ++ rest) := by
  rw [List.set_append_right _ _ (Nat.le_add_right _ _), Nat.add_sub_cancel_left, List.set_append_right _ _ (Nat.le_refl _), Nat.sub_self, List.set_cons_zero, List.append_assoc]; rfl
theorem get_at (pre done : List Nat) (d : Nat) (rest : List Nat) : (pre ++ (done ++ d :: rest))[pre.length + done.length]? = some d := by
  rw [List.getElem?_append_right (Nat.le_add_right _ _), Nat.add_sub_cancel_left, List.getElem?_append_right (Nat.le_refl _), Nat.sub_self]; rfl
theorem drop_next {l : List Nat} {i d : Nat} (h : l[i]? = some d) : l.drop i = d :: l.drop (i + 1) := by
  have hi : i < l.length := by
    rcases Nat.lt_or_ge i l.length with h' | h'
    · exact h'
    · rw [List.getElem?_eq_none h'] at h; cases h
  rw [List.getElem?_eq_getElem hi] at h
  rw [List.drop_eq_getElem_cons hi, Option.some.inj h]
theorem top3 {l : List Nat} {n a b c : Nat} (hl : l.length = n + 1) (hn : 2 ≤ n) (ha : l[n]? = some a) (hb : l[n - 1]? = some b) (hc : l[n - 2]? = some c) : natL l = ((a * 4294967296 + b) * 4294967296 + c) * 4294967296 ^ (n - 2) + natL (l.take (n - 2)) := by
  obtain ⟨m, rfl⟩ : ∃ m, n = m + 2 := ⟨n - 2, by omega⟩
  simp only [Nat.add_sub_cancel, show m + 2 - 1 = m + 1 by omega] at *
  have h1 := take_next ha
  have h2 := take_next hb
  have h3 := take_next hc
  rw [List.take_of_length_le (by omega)] at h1
  have e1 : (4294967296 : Nat) ^ (m + 1) = 4294967296 ^ m * 4294967296 := Nat.pow_succ ..
  have e2 : (4294967296 : Nat) ^ (m + 2) = 4294967296 ^ m * 4294967296 * 4294967296 := by rw [Nat.pow_succ, e1]
  rw [h1, h2, h3, e2, e1]
  generalize 4294967296 ^ m = K
  generalize natL (l.take m) = Z
  rw [Nat.add_mul, Nat.add_mul, Nat.add_mul, Nat.mul_comm (a * 4294967296 * 4294967296), Nat.mul_comm (b * 4294967296), Nat.mul_comm c, Nat.mul_assoc K, Nat.mul_assoc K, Nat.mul_assoc K, show 4294967296 * 4294967296 * a = a * 4294967296 * 4294967296 by omega, Nat.mul_comm 4294967296 b]
  omega
theorem top2 {l : List Nat} {n a b : Nat} (hl : l.length = n) (hn : 2 ≤ n) (ha : l[n - 1]? = some a) (hb : l[n - 2]? = some b) : natL l = (a * 4294967296 + b) * 4294967296 ^ (n - 2) + natL (l.take (n - 2)) := by
  obtain ⟨m, rfl⟩ : ∃ m, n = m + 2 := ⟨n - 2, by omega⟩
  simp only [Nat.add_sub_cancel, show m + 2 - 1 = m + 1 by omega] at *
  have h1 := take_next ha
  have h2 := take_next hb
  rw [List.take_of_length_le (by omega)] at h1
  rw [h1, h2, Nat.pow_succ]
  generalize 4294967296 ^ m = K
  generalize natL (l.take m) = Z
  rw [Nat.add_mul, Nat.mul_comm (a * 4294967296), Nat.mul_comm b, Nat.mul_assoc K, Nat.mul_comm 4294967296 a]
  omega
end Go.Proofs.YtlcmhbkmpkcajaaGreatDoor
namespace Go.Proofs.YtlcmhbkmpkcajaaGreatDoor
open Go.RowKit
theorem drewB (w : World) : Below w.heap.size w w.drew := ⟨rfl, rfl, rfl, Nat.le_refl _, fun _ _ => rfl⟩
theorem raise_digit {d s o : Nat} (hd : d < 4294967296) (hs : s < 32) (ho : o < 2 ^ s) : o ||| (d * 2 ^ s % 4294967296) < 4294967296 ∧ d * 2 ^ s / 4294967296 < 2 ^ s ∧ (o ||| (d * 2 ^ s % 4294967296)) + 4294967296 * (d * 2 ^ s / 4294967296) = o + d * 2 ^ s := by
  obtain ⟨r, hr⟩ : ∃ r, s + r = 32 := ⟨32 - s, by omega⟩
  have hB : (4294967296 : Nat) = 2 ^ s * 2 ^ r := by rw [← Nat.pow_add, hr]
  have h1 : d * 2 ^ s % 4294967296 = 2 ^ s * (d % 2 ^ r) := by rw [hB, Nat.mul_comm d, Nat.mul_mod_mul_left]
  have h2 : o ||| (d * 2 ^ s % 4294967296) = 2 ^ s * (d % 2 ^ r) + o := by
    rw [h1, Nat.or_comm]
    exact (Nat.two_pow_add_eq_or_of_lt ho _).symm
  have h3 : d % 2 ^ r < 2 ^ r := Nat.mod_lt _ (Nat.two_pow_pos r)
  have h4 : 2 ^ s * (d % 2 ^ r) + 2 ^ s ≤ 4294967296 := by
    rw [hB, ← Nat.mul_succ]
    exact Nat.mul_le_mul_left _ h3
  have h5 := Nat.div_add_mod (d * 2 ^ s) 4294967296
  refine ⟨by omega, ?_, by omega⟩
  rw [Nat.div_lt_iff_lt_mul (by decide), Nat.mul_comm (2 ^ s)]
  exact Nat.mul_lt_mul_of_pos_right hd (Nat.two_pow_pos s)
theorem pow_le32 {s : Nat} (hs : s < 32) : 2 ^ s ≤ 2147483648 := Nat.pow_le_pow_right (by decide) (show s ≤ 31 by omega)
set_option maxHeartbeats 4000000 in
set_option maxRecDepth 10000 in
theorem raised_any (a : Option Addr) (n c : Nat) (l : List Nat) (s : Nat) (w : World) (hL : Ls w (.slice a n c) l) (hd : Dg l) (hn1 : l.length < 1000000) (hs : s < 32) :
    Calls Tryz.prog 147 #[.slice a n c, .int .i64 (s : Int)] w (RetP (fun v w' => v = .slice (some ⟨w.heap.size, 0, none⟩) (n + 1) (n + 1) ∧ ∃ ds : List Nat, Out w.heap.size w' w.heap.size ds ∧ ds.length = n + 1 ∧ Dg ds ∧ natL ds = natL l * 2 ^ s) w) := by
  obtain ⟨_, _, hq, hc1, hc2⟩ := hL.open
  cases hq
  unfold maxLen at hc2
  have hi : (Tryz.prog.info? 110).map (fun i => (i.zero, i.size, i.bytes)) = some (some (.int .u32 0), 1, 4) := by kernel_rfl
  obtain ⟨i4, hi4, hz0, hz1, hz2⟩ := info_parts hi
  clear hi
  have HL := hI hL
  have Hd := hI hd
  clear hL hd
  generalize hn : l.length = n at *
  have Hn := hI hn
  clear hn
  have hn1w : IntKind.i64.wrap ((n : Int) + 1) = (n : Int) + 1 := IntWalk.i64_in _ (by omega)
  go_enter Tryz.func147, Tryz.ntmps147
  go_wp2_with (at_make; refine wpList_make_full _ rfl _ _ 57 rfl (w.heap.size) 110 i4 (.int .u32 0) 1 Tryz.underlying57 hi4 hz0 hz1 .i64 .i64 _ _ (n + 1) rfl rfl (by omega) (by omega) (by rw [hz2]; omega) (by unfold maxLen; omega) (by simp) ?_; intro w1 hown hg)
  have hO := Out.made hown
  have hb1 : Below w.heap.size w w1 := (Below.refl _ _).grown hg (Nat.le_refl _) (fun b hb => by cases hb)
  clear hown hg hi4 hz0 hz1 hz2
  go_loopw [14] (fun i wr => ∃ (k o : Nat) (done : List Nat), k ≤ n ∧ i = .int .i64 (k : Int) ∧ Below w.heap.size w wr ∧ Out w.heap.size wr w.heap.size (done ++ o :: List.replicate (n - k) 0) ∧ Hid (done.length = k ∧ o < 2 ^ s ∧ Dg done ∧ natL done + 4294967296 ^ k * o = natL (l.take k) * 2 ^ s)) (fun i _ => n - (intOf i).toNat)
  case atStart => exact ⟨0, 0, [], Nat.zero_le _, rfl, hb1, hO, rfl, Nat.two_pow_pos s, (fun d hd => by simp at hd), by simp [natL]⟩
  case round =>
    clear hO hb1
    obtain ⟨k, o, done, hk, rfl, hbw, hO, hpre⟩ := hrel
    rcases Nat.lt_or_ge k n with hlt | hge
    · obtain ⟨b, off, d, rfl, hdk, e0⟩ := HL.out.at hbw hlt
      have hkn : (k : Int) < (n : Int) := by omega
      have hkn1 : (k : Int) < (n : Int) + 1 := by omega
      have hkn2 : (k : Int) + 1 < (n : Int) + 1 := by omega
      have hk1 : (0 : Int) ≤ (k : Int) + 1 := by omega
      have hkw : IntKind.i64.wrap ((k : Int) + 1) = (k : Int) + 1 := IntWalk.i64_in _ (by omega)
      have hdlt : d < 4294967296 := Hd.out d (List.mem_of_getElem? hdk)
      obtain ⟨r1, r2, r3⟩ := raise_digit hdlt hs hpre.out.2.1
      obtain ⟨t, ht⟩ : ∃ t, d * 2 ^ s = t := ⟨_, rfl⟩
      rw [ht] at r1 r2 r3
      obtain ⟨v, hv⟩ : ∃ v, o ||| (t % 4294967296) = v := ⟨_, rfl⟩
      obtain ⟨hi, hhi⟩ : ∃ hi, t / 4294967296 = hi := ⟨_, rfl⟩
      rw [hv] at r1 r3
      rw [hhi] at r2 r3
      have hpl := pow_le32 hs
      have htlt : t < 18446744073709551616 := by
        rw [← ht]
        exact Nat.lt_of_lt_of_le (Nat.mul_lt_mul_of_pos_right hdlt (Nat.two_pow_pos s)) (Nat.le_trans (Nat.mul_le_mul_left 4294967296 hpl) (by decide))
      have hti : (d : Int) * 2 ^ s = (t : Int) := by rw [← ht]; push_cast; rfl
      have hor : bits .or .u32 (o : Int) ((t : Int) % 4294967296) = (v : Int) := by
        have h := u32_or_nat o (t % 4294967296) (by have := hpre.out.2.1; omega) (Nat.mod_lt _ (by decide))
        rw [hv] at h
        exact h
      have hx3 : IntKind.u64.wrap (d : Int) = (d : Int) := IntWalk.u64_in _ (by omega)
      have hx4 : IntKind.u64.wrap (t : Int) = (t : Int) := IntWalk.u64_in _ (by omega)
      have hx5 : (t : Int) / 4294967296 = (hi : Int) := by omega
      have hx6 : (hi : Int) % 4294967296 = (hi : Int) := by have := pow_le32 hs; omega
      have Hst := hI (show (done ++ [v]).length = k + 1 ∧ hi < 2 ^ s ∧ Dg (done ++ [v]) ∧ natL (done ++ [v]) + 4294967296 ^ (k + 1) * hi = natL (l.take (k + 1)) * 2 ^ s from by
        refine ⟨by rw [List.length_append, hpre.out.1]; rfl, r2, Dg.append hpre.out.2.2.1 (Dg.one r1), ?_⟩
        rw [natL_snoc, hpre.out.1, take_next hdk, Nat.add_mul, ← hpre.out.2.2.2, Nat.pow_succ, Nat.mul_assoc (4294967296 ^ k) d, ht]
        generalize 4294967296 ^ k = K
        have e1 : K * v + K * (4294967296 * hi) = K * o + K * t := by rw [← Nat.mul_add, r3, Nat.mul_add]
        rw [Nat.mul_assoc]
        omega)
      obtain ⟨q, hq⟩ : ∃ q, n - k = q + 1 := ⟨n - k - 1, by omega⟩
      have Hlist := hI (show ((done ++ o :: List.replicate (n - k) 0).set k v).set (k + 1) hi = (done ++ [v]) ++ hi :: List.replicate (n - (k + 1)) 0 from by
        have hl := hpre.out.1
        rw [hq, show n - (k + 1) = q by omega, List.replicate_succ, ← hl, List.set_append_right _ _ (Nat.le_refl _), Nat.sub_self, List.set_cons_zero, List.set_append_right _ _ (Nat.le_succ _), show done.length.succ - done.length = 1 by omega]
        simp)
      have hz : ((done ++ o :: List.replicate (n - k) 0).set k v)[k + 1]? = some 0 := by
        have hl := hpre.out.1
        rw [List.getElem?_set_ne (by omega), List.getElem?_append_right (by omega), hl, Nat.add_sub_cancel_left, hq]
        rfl
      have hO2 := (hO.set (i := k) (by rw [List.length_append, List.length_cons, List.length_replicate]; have := hpre.out.1; omega) v)
      have Hbw := hI hbw
      clear ht hv hhi r1 r2 r3 hbw hdk
      obtain ⟨c0, f0⟩ := hO.cell (i := k) (d := o) (by rw [List.getElem?_append_right (by have := hpre.out.1; omega), hpre.out.1, Nat.sub_self]; rfl)
      go_wp2_with fail
      refine wp_region_pop (S := (fun w' => w'.cell? ⟨w.heap.size, k, none⟩ = some (.int .u32 (o : Int)))) 9 (by kernel_rfl) (by kernel_rfl) (by exact c0) (fun hHeld => ?_)
      simp only [List.take_succ_cons, List.take_zero, List.drop_succ_cons, List.drop_zero]
      refine wpAnyH_take (i := 0) (v := ?v1) rfl (by kernel_rfl) (by kernel_rfl) (by kernel_rfl) (fun _ _ _ h => h) (Or.inl ⟨by rfl, ?hy1⟩) (by assumption) ?rest1
      case hy1 => (intro w hSw; (try dsimp only at hSw); go_simp; try (with_reducible rfl))
      try simp only [Act.put, List.getElem_toArray, List.getElem_cons_zero, List.setIfInBounds_toArray, List.set_cons_zero, List.set_cons_succ]
      refine' tk 1 ?_; (try simp only [tkS]); refine' tk 2 ?_; (try simp only [tkS]); refine' tk 3 ?_; (try simp only [tkS]); refine' tk 4 ?_; (try simp only [tkS]); refine' tk 5 ?_; (try simp only [tkS]); refine' tk 6 ?_; (try simp only [tkS]); refine' tk 7 ?_; (try simp only [tkS]); refine' tk 8 ?_; (try simp only [tkS])
      refine tkD ?_ _
      simp only [Exit.then]
      obtain ⟨c1, f1⟩ := hO2.cell (i := k + 1) (d := 0) hz
      have Hb2 := hI ((((Hbw.out.setCell (p := ⟨w.heap.size, k, none⟩) (Nat.le_refl _) (.int .u32 (v : Int)))).setCell (p := ⟨w.heap.size, k + 1, none⟩) (Nat.le_refl _) (.int .u32 (hi : Int))).drew)
      have HO3 := hI (hO2.set (i := k + 1) (by rw [List.length_set, List.length_append, List.length_cons, List.length_replicate]; have := hpre.out.1; omega) hi |>.below (drewB _))
      clear hO2 hz
      go_wp2_with fail
      go_roundw
      case rel => exact ⟨k + 1, hi, done ++ [v], by omega, by go_num, Hb2.out, by rw [← Hlist.out]; exact HO3.out, Hst.out⟩
      case measure => simp [intOf] <;> omega
    · obtain rfl : k = n := by omega
      have hkn : ¬ (k : Int) < (k : Int) := by omega
      rw [Nat.sub_self] at hO
      have HO := hI hO
      have Hbw := hI hbw
      clear hO hbw hge
      go_wp2_with fail
      go_ret
      refine ⟨_, rfl, ⟨rfl, done ++ [o], HO.out, by rw [List.length_append, hpre.out.1]; rfl, Dg.append hpre.out.2.2.1 (Dg.one (by have := pow_le32 hs; have := hpre.out.2.1; omega)), ?_⟩, Hbw.out⟩
      rw [natL_snoc, hpre.out.1, hpre.out.2.2.2, List.take_of_length_le (by rw [Hn.out]; exact Nat.le_refl _)]
end Go.Proofs.YtlcmhbkmpkcajaaGreatDoor
