/-
  Parts of the proof: Rdd, Rsg, Rcp, Kn, Kn2.
-/
import Derived.Test.YtacihodamichhaaGreatDoorU24
namespace Go.Proofs.YtacihodamichhaaGreatDoor
open Go.RowKit
theorem text_at {l : List UInt8} {q : Nat} {c : UInt8} (h : l[q]? = some c) (hq : q < (⟨l.toArray⟩ : ByteArray).size) : (⟨l.toArray⟩ : ByteArray)[q]'hq = c := by
 have hl : q < l.length := by rw [Lib.size_eq] at hq; exact hq
 have e : (⟨l.toArray⟩ : ByteArray)[q]'hq = l[q]'hl := rfl
 rw [e]
 rw [List.getElem?_eq_getElem hl] at h
 exact Option.some.inj h
set_option maxHeartbeats 4000000 in
set_option maxRecDepth 20000 in
theorem rdigits_any (p : List UInt8) (neg : Bool) (l : List UInt8) (w : World) (hl : l = if neg then 45 :: p else p) (hp : AllD p) (hlen : p.length ≤ 600) :
  Calls Tryz.prog 118 #[.string ⟨l.toArray⟩] w (RetP (fun v w' => DgV w' v (valD p)) w) := by
 have HT := hI (fun w' (a : Option Addr) c (h : Ds w' (.slice a p.length c) (p.reverse.map dv)) => rtrim_g a p.length c (p.reverse.map dv) w' h (D10.dg_text hp))
 rw [D10.natL_text] at HT
 obtain ⟨o, ho⟩ : ∃ o, (if neg then 1 else 0 : Nat) = o := ⟨_, rfl⟩
 have ho1 : o ≤ 1 := by rw [← ho]; split <;> omega
 have hs : (⟨l.toArray⟩ : ByteArray).size = p.length + o := by
  rw [Lib.size_eq, hl, ← ho]
  cases neg <;> simp
 have HC := hI (fun (q j : Nat) (hqj : q + 1 + j = p.length + o) => (show (j < p.length → ∃ c, l[q]? = some c ∧ isD c = true ∧ (p.reverse.map dv)[j]? = some (dv c)) ∧ (¬ j < p.length → l[q]? = some 45) from by
  constructor
  ·intro hj
   obtain ⟨c, hc⟩ : ∃ c, p[p.length - 1 - j]? = some c := ⟨p[p.length - 1 - j]'(by omega), by simp⟩
   refine ⟨c, ?_, hp c (List.mem_of_getElem? hc), ?_⟩
   ·rw [hl]
    cases neg with
    | true =>
     have : o = 1 := ho.symm
     rw [if_pos rfl, show q = (p.length - 1 - j) + 1 by omega, List.getElem?_cons_succ]
     exact hc
    | false =>
     have : o = 0 := ho.symm
     rw [if_neg (by decide), show q = p.length - 1 - j by omega]
     exact hc
   ·rw [List.getElem?_map, List.getElem?_reverse hj, hc]
    rfl
  ·intro hj
   rw [hl]
   cases neg with
   | true =>
    have : o = 1 := ho.symm
    rw [if_pos rfl, show q = 0 by omega]
    rfl
   | false =>
    have : o = 0 := ho.symm
    omega))
 have hlt : (p.reverse.map dv).length = p.length := by simp
 have HX := hI (fun (q : Nat) (c : UInt8) (h : l[q]? = some c) => text_at h)
 generalize p.reverse.map dv = ds at *
 generalize valD p = N at *
 generalize hpl : p.length = n at *
 generalize hS : (⟨l.toArray⟩ : ByteArray) = S at *
 have Hlt := hI hlt
 have HN := hI (fun W : World => World.ownsRow_nil W w.heap.size 3 1)
 have hw1 : IntKind.i64.wrap (((n + o : Nat) : Int) - 1) = ((n + o : Nat) : Int) - 1 := IntWalk.i64_in _ (by omega)
 clear hl hp ho hlt hpl hS
 obtain ⟨len, hlen2⟩ : ∃ len, n + o = len := ⟨_, rfl⟩
 rw [hlen2] at hs hw1
 have Hlen := hI hlen2
 clear hlen2
 go_enter Tryz.func118, Tryz.ntmps118
 go_wp2_with fail
 go_loopw [4, 3] (fun i out wr => ∃ r j : Nat, r + j = len ∧ i = .int .i64 ((r : Int) - 1) ∧ Below w.heap.size w wr ∧ wr.ownsRow w.heap.size 3 1 out (min j n) ((natsI (ds.take j)).map (Value.int .i64))) (fun i _ _ => (intOf i + 1).toNat)
 case atStart => exact ⟨len, 0, rfl, rfl, Below.refl _ _, by rw [Nat.zero_min]; exact HN.out _⟩
 case round =>
  obtain ⟨r, j, hrj, rfl, hbw, hown⟩ := hrel
  have hlo := Hlen.out
  rcases r with _ | q
  ·obtain ⟨ao, co, rfl, hco, -⟩ := own_open hown
   have hjn : min j n = n := by omega
   rw [hjn] at hown
   rw [List.take_of_length_le (by rw [Hlt.out]; omega)] at hown
   have HF := hI (HT.out wr ao co (Ds.own hown))
   have Hbw := hI hbw
   clear hown hbw hlo hrj
   rw [hjn]
   go_wp2_with (go_at_call 157; refine (HF.out).mono ?_; rintro e w5 ⟨v5, rfl, hv5, hb5⟩; obtain ⟨a5, c5, rfl, hv5⟩ := hv5)
   go_ret
   exact ⟨_, rfl, ⟨a5, c5, rfl, hv5⟩, Hbw.out.via hb5 Hbw.out.size⟩
  ·have hij : ((((q + 1 : Nat) : Int) - 1)) = (q : Int) := by omega
   rw [hij]
   have hq0 : (0 : Int) ≤ (q : Int) := Int.natCast_nonneg _
   have hq1 : (q : Int) < (len : Int) := by omega
   have hqs : q < S.size := by rw [hs]; omega
   have hqw : IntKind.i64.wrap ((q : Int) - 1) = (q : Int) - 1 := IntWalk.i64_in _ (by omega)
   by_cases hj : j < n
   ·obtain ⟨c, hc, hcd, hdj⟩ := (HC.out q j (by omega)).1 hj
    have hx := HX.out q c hc hqs
    obtain ⟨cn, hcn⟩ : ∃ cn, c.toNat = cn := ⟨_, rfl⟩
    have hcr := isD_iff.1 hcd
    rw [hcn] at hcr
    have hc1 : ((S[q]'hqs).toNat : Int) = (cn : Int) := by rw [hx, hcn]
    have hc2 : ((cn : Int) != 45) = true := by simp; omega
    obtain ⟨dd, hdd⟩ : ∃ dd, dv c = dd := ⟨_, rfl⟩
    have hc3 : IntKind.i64.wrap ((cn : Int) - 48) = (dd : Int) := (IntWalk.i64_in _ (by omega)).trans (by unfold dv at hdd; omega)
    have hc4 : (cn : Int) - 48 = (dd : Int) := by unfold dv at hdd; omega
    rw [hdd] at hdj
    have hmin : min j n = j := by omega
    rw [hmin] at hown
    have htk : (natsI (ds.take j)).map (Value.int .i64) ++ [.int .i64 (dd : Int)] = (natsI (ds.take (j + 1))).map (Value.int .i64) := by
     rw [List.take_add_one, hdj]
     unfold natsI
     simp
    have Htk := hI htk
    have Hown := hI hown
    have Hbw := hI hbw
    have Hrj := hI (And.intro hrj hj)
    clear hc hcd hdj hx hcn hdd htk hown hbw hmin hlo hij hrj
    go_wp2_with (at_builtin; refine wpApp ED (by decide) [.int .i64 (dd : Int)] rfl _ _ rfl w.heap.size _ _ _ rfl rfl Hown.out rfl (one1 _ rfl) (by omega) (by decide) Hbw.out.size ?_; intro v' w5 hown' hg'; have Hbw3 := hI (below_app Hbw.out Hown.out hg' Hbw.out.size); have Hown5 := hI hown'; clear hown' hg')
    go_roundw
    case rel => exact ⟨q, j + 1, by have := Hrj.out.1; omega, by first | rfl | (congr 1), Hbw3.out, by have h := Hown5.out; rw [Htk.out] at h; rw [show min (j + 1) n = j + 1 by have := Hrj.out.2; omega]; exact h⟩
    case measure => simp [intOf] <;> omega
   ·have hc := (HC.out q j (by omega)).2 hj
    have hx := HX.out q 45 hc hqs
    have hc1 : ((S[q]'hqs).toNat : Int) = 45 := by rw [hx]; rfl
    have Hown := hI hown
    have Hbw := hI hbw
    have Hrj := hI (And.intro hrj hj)
    clear hc hx hown hbw hlo hij hrj
    go_wp2_with fail
    go_roundw
    case rel => exact ⟨q, j + 1, by have := Hrj.out.1; omega, by first | rfl | (congr 1), Hbw.out, by have h := Hown.out; rw [List.take_of_length_le (by rw [Hlt.out]; have := Hrj.out.2; omega)] at h ⊢; rw [show min (j + 1) n = min j n by have := Hrj.out.2; omega]; exact h⟩
    case measure => simp [intOf] <;> omega
end Go.Proofs.YtacihodamichhaaGreatDoor
namespace Go.Proofs.YtacihodamichhaaGreatDoor
open Go.RowKit
theorem txtZ_zero : txtZ 0 = [48] := by
 unfold txtZ txtN txtD
 rw [show (0 : Int).natAbs = 0 from rfl, D10.limbs_zero, if_pos rfl]
theorem bytesD_last {m : List Nat} (h : m ≠ []) : ∃ x r, m.getLast? = some x ∧ bytesD m = UInt8.ofNat (48 + x) :: r := by
 obtain ⟨x, hx⟩ : ∃ x, m.getLast? = some x := by
  cases hl : m.getLast? with
  | none => exact absurd (List.getLast?_eq_none_iff.1 hl) h
  | some x => exact ⟨x, rfl⟩
 obtain ⟨i, hi⟩ := List.getLast?_eq_some_iff.1 hx
 refine ⟨x, bytesD i, hx, ?_⟩
 rw [hi]
 unfold bytesD
 simp
theorem txtZ_head {z : Int} (h : z ≠ 0) : ∃ c r, txtZ z = c :: r ∧ (z < 0 → c = 45) ∧ (0 < z → c ≠ 45 ∧ c ≠ 48) := by
 have hm : D10.limbs z.natAbs ≠ [] := fun e => h (by have := D10.limbs_nil.1 e; omega)
 unfold txtZ txtN txtD
 rw [if_neg hm]
 by_cases hz : z < 0
 ·rw [decide_eq_true hz, if_pos rfl]
  exact ⟨45, _, rfl, fun _ => rfl, fun h2 => by omega⟩
 ·rw [decide_eq_false hz, if_neg (by decide)]
  obtain ⟨x, r, hx, hb⟩ := bytesD_last hm
  rw [hb]
  have hx0 := D10.limbs_last hx
  have hx10 := D10.limbs_dg _ x (List.mem_of_getLast? hx)
  have ht : (UInt8.ofNat (48 + x)).toNat = 48 + x := by rw [UInt8.toNat_ofNat']; omega
  refine ⟨_, r, rfl, fun h2 => absurd h2 hz, fun _ => ⟨fun e => ?_, fun e => ?_⟩⟩
  ·rw [e] at ht
   have : (45 : UInt8).toNat = 45 := rfl
   omega
  ·rw [e] at ht
   have : (48 : UInt8).toNat = 48 := rfl
   omega
set_option maxHeartbeats 2000000 in
theorem zsign_any (z : Int) (w : World) : Calls Tryz.prog 120 #[.string ⟨(txtZ z).toArray⟩] w (Ret (.int .i64 z.sign) w) := by
 by_cases h0 : z = 0
 ·subst h0
  rw [txtZ_zero, show Int.sign 0 = 0 from rfl]
  go_enter Tryz.func120, Tryz.ntmps120
  go_wp2_with fail
  go_ret
  exact ⟨rfl, Below.refl _ _⟩
 ·obtain ⟨c, r, ht, hn, hp⟩ := txtZ_head h0
  have hT : ∀ (h : 0 < (⟨(txtZ z).toArray⟩ : ByteArray).size), (⟨(txtZ z).toArray⟩ : ByteArray)[0]'h = c := fun h => text_at (by rw [ht]; rfl) h
  have hs0 : 0 < (⟨(txtZ z).toArray⟩ : ByteArray).size := by rw [Lib.size_eq, ht]; simp
  have hx := hT hs0
  have hne : ((⟨(txtZ z).toArray⟩ : ByteArray).toList == [48]) = false := by
   rw [ByteArray.toList_eq, beq_eq_false_iff_ne]
   show ¬ txtZ z = [48]
   rw [ht]
   intro e
   rcases Int.lt_or_gt_of_ne h0 with hz | hz
   ·rw [hn hz] at e
    exact absurd e (by simp)
   ·exact (hp hz).2 (List.cons.inj e).1
  generalize (⟨(txtZ z).toArray⟩ : ByteArray) = S at *
  rcases Int.lt_or_gt_of_ne h0 with hz | hz
  ·have hc : ((S[0]'hs0).toNat : Int) = 45 := by rw [hx, hn hz]; rfl
   rw [Int.sign_eq_neg_one_of_neg hz]
   clear hT hx hn hp ht h0 hz
   go_enter Tryz.func120, Tryz.ntmps120
   go_wp2_with fail
   go_ret
   exact ⟨rfl, Below.refl _ _⟩
  ·have hc : (((S[0]'hs0).toNat : Int) == 45) = false := by
    rw [hx, beq_eq_false_iff_ne]
    intro e
    exact (hp hz).1 (UInt8.toNat_inj.1 (by have : (45 : UInt8).toNat = 45 := rfl; omega))
   rw [Int.sign_eq_one_of_pos hz]
   clear hT hx hn hp ht h0 hz
   go_enter Tryz.func120, Tryz.ntmps120
   go_wp2_with fail
   go_ret
   exact ⟨rfl, Below.refl _ _⟩
end Go.Proofs.YtacihodamichhaaGreatDoor
namespace Go.Proofs.YtacihodamichhaaGreatDoor
open Go.RowKit
theorem zdigits_any (neg : Bool) (N : Nat) (w : World) (hf : Few10 N) : Calls Tryz.prog 118 #[.string ⟨(txtN neg N).toArray⟩] w (RetP (fun v w' => DgV w' v N) w) := by
 obtain ⟨p, h1, h2, h3, h4, h5⟩ := txtN_abs neg N
 unfold Few10 at hf
 rcases h4 with h4 | h4
 ·rw [h4]
  have h := rdigits_any p false p w rfl h1 (by omega)
  rw [h3] at h
  exact h
 ·rw [h4]
  have h := rdigits_any p true (45 :: p) w rfl h1 (by omega)
  rw [h3] at h
  exact h
theorem sign3 (z : Int) : (z < 0 ∧ z.sign = -1) ∨ (z = 0 ∧ z.sign = 0) ∨ (0 < z ∧ z.sign = 1) := by
 rcases Int.lt_trichotomy z 0 with h | h | h
 ·exact .inl ⟨h, Int.sign_eq_neg_one_of_neg h⟩
 ·exact .inr (.inl ⟨h, by rw [h]; rfl⟩)
 ·exact .inr (.inr ⟨h, Int.sign_eq_one_of_pos h⟩)
theorem cmp_sign_lt {y z : Int} (h : y.sign < z.sign) : cmpZ y z = -1 := by
 have a := sign3 y; have b := sign3 z
 unfold cmpZ
 rw [if_pos (by omega)]
theorem cmp_sign_gt {y z : Int} (h : z.sign < y.sign) : cmpZ y z = 1 := by
 have a := sign3 y; have b := sign3 z
 unfold cmpZ
 rw [if_neg (by omega), if_pos (by omega)]
theorem cmp_sign_neg {y z : Int} (h : y.sign = z.sign) (hn : y.sign < 0) : cmpZ y z = cmpN z.natAbs y.natAbs := by
 have a := sign3 y; have b := sign3 z
 unfold cmpZ cmpN
 split
 ·rw [if_pos (by omega)]
 ·split
  ·rw [if_neg (by omega), if_pos (by omega)]
  ·rw [if_neg (by omega), if_neg (by omega)]
theorem cmp_sign_pos {y z : Int} (h : y.sign = z.sign) (hn : ¬ y.sign < 0) : cmpZ y z = cmpN y.natAbs z.natAbs := by
 have a := sign3 y; have b := sign3 z
 unfold cmpZ cmpN
 split
 ·rw [if_pos (by omega)]
 ·split
  ·rw [if_neg (by omega), if_pos (by omega)]
  ·rw [if_neg (by omega), if_neg (by omega)]
set_option maxHeartbeats 4000000 in
theorem zcmp_any (y z : Int) (w : World) (hy : Few10 y.natAbs) (hz : Few10 z.natAbs) : Calls Tryz.prog 70 #[.string ⟨(txtZ y).toArray⟩, .string ⟨(txtZ z).toArray⟩] w (Ret (.int .i64 (cmpZ y z)) w) := by
 have H1 := hI (fun w' => zsign_any y w')
 have H2 := hI (fun w' => zsign_any z w')
 have H3 := hI (fun w' => zdigits_any (decide (y < 0)) y.natAbs w' hy)
 have H4 := hI (fun w' => zdigits_any (decide (z < 0)) z.natAbs w' hz)
 have H5 := hI (fun u v w' (hu : DgV w' u y.natAbs) (hv : DgV w' v z.natAbs) => (rorder_g u v y.natAbs z.natAbs w' hu hv).mono fun _ _ h => h.ret)
 have H6 := hI (fun u v w' (hu : DgV w' u z.natAbs) (hv : DgV w' v y.natAbs) => (rorder_g u v z.natAbs y.natAbs w' hu hv).mono fun _ _ h => h.ret)
 change Hid (∀ w', Calls Tryz.prog 118 #[.string ⟨(txtZ y).toArray⟩] w' _) at H3
 change Hid (∀ w', Calls Tryz.prog 118 #[.string ⟨(txtZ z).toArray⟩] w' _) at H4
 have e1 := @cmp_sign_lt y z
 have e2 := @cmp_sign_gt y z
 have e3 := @cmp_sign_neg y z
 have e4 := @cmp_sign_pos y z
 generalize cmpZ y z = R at *
 generalize (⟨(txtZ y).toArray⟩ : ByteArray) = Y at *
 generalize (⟨(txtZ z).toArray⟩ : ByteArray) = Z at *
 generalize y.sign = a at *
 generalize z.sign = b at *
 generalize cmpN y.natAbs z.natAbs = P at *
 generalize cmpN z.natAbs y.natAbs = N at *
 by_cases h1 : a < b
 ·rw [e1 h1]
  clear e1 e2 e3 e4
  go_enter Tryz.func70, Tryz.ntmps70
  go_wp2_with (first
   | (have _t := Hb1; clear _t; go_at_call 120; refine (H2.out _).mono ?_; rintro e w2 ⟨rfl, hb2⟩; have Hb2 := hI (bw_via Hb1.out hb2); clear hb2)
   | (go_at_call 120; refine (H1.out _).mono ?_; rintro e w1 ⟨rfl, hb1⟩; have Hb1 := hI hb1; clear hb1))
  go_ret
  exact ⟨rfl, Hb2.out⟩
 ·by_cases h2 : b < a
  ·rw [e2 h2]
   clear e1 e2 e3 e4
   go_enter Tryz.func70, Tryz.ntmps70
   go_wp2_with (first
    | (have _t := Hb1; clear _t; go_at_call 120; refine (H2.out _).mono ?_; rintro e w2 ⟨rfl, hb2⟩; have Hb2 := hI (bw_via Hb1.out hb2); clear hb2)
    | (go_at_call 120; refine (H1.out _).mono ?_; rintro e w1 ⟨rfl, hb1⟩; have Hb1 := hI hb1; clear hb1))
   go_ret
   exact ⟨rfl, Hb2.out⟩
  ·obtain rfl : a = b := by omega
   by_cases h3 : a < 0
   ·rw [e3 rfl h3]
    clear e1 e2 e3 e4
    go_enter Tryz.func70, Tryz.ntmps70
    go_wp2_with (first
     | (have _t := Hb1; clear _t; go_at_call 120; refine (H2.out _).mono ?_; rintro e w2 ⟨rfl, hb2⟩; have Hb2 := hI (bw_via Hb1.out hb2); clear hb2)
     | (go_at_call 120; refine (H1.out _).mono ?_; rintro e w1 ⟨rfl, hb1⟩; have Hb1 := hI hb1; clear hb1)
     | (have _t := HV3; clear _t; go_at_call 118; refine (H3.out _).mono ?_; rintro e w4 ⟨v4, rfl, hv4, hb4⟩; have HV4 := hI hv4; have HV3' := hI (HV3.out.mono hb4); have Hb4 := hI (bw_via Hb3.out hb4); clear hv4 hb4)
     | (go_at_call 118; refine (H4.out _).mono ?_; rintro e w3 ⟨v3, rfl, hv3, hb3⟩; have HV3 := hI hv3; have Hb3 := hI (bw_via Hb2.out hb3); clear hv3 hb3)
     | (go_at_call 121; refine (H6.out _ _ _ HV3'.out HV4.out).mono ?_; rintro e w5 ⟨rfl, hb5⟩))
    go_ret
    exact ⟨rfl, bw_via Hb4.out hb5⟩
   ·rw [e4 rfl h3]
    clear e1 e2 e3 e4
    go_enter Tryz.func70, Tryz.ntmps70
    go_wp2_with (first
     | (have _t := Hb1; clear _t; go_at_call 120; refine (H2.out _).mono ?_; rintro e w2 ⟨rfl, hb2⟩; have Hb2 := hI (bw_via Hb1.out hb2); clear hb2)
     | (go_at_call 120; refine (H1.out _).mono ?_; rintro e w1 ⟨rfl, hb1⟩; have Hb1 := hI hb1; clear hb1)
     | (have _t := HV3; clear _t; go_at_call 118; refine (H4.out _).mono ?_; rintro e w4 ⟨v4, rfl, hv4, hb4⟩; have HV4 := hI hv4; have HV3' := hI (HV3.out.mono hb4); have Hb4 := hI (bw_via Hb3.out hb4); clear hv4 hb4)
     | (go_at_call 118; refine (H3.out _).mono ?_; rintro e w3 ⟨v3, rfl, hv3, hb3⟩; have HV3 := hI hv3; have Hb3 := hI (bw_via Hb2.out hb3); clear hv3 hb3)
     | (go_at_call 121; refine (H5.out _ _ _ HV3'.out HV4.out).mono ?_; rintro e w5 ⟨rfl, hb5⟩))
    go_ret
    exact ⟨rfl, bw_via Hb4.out hb5⟩
end Go.Proofs.YtacihodamichhaaGreatDoor
namespace Go.Proofs.YtacihodamichhaaGreatDoor
theorem guess_up {q v1 v2 H B D u2 ur vr : Nat} (hu2 : u2 < B) (hur : ur < D) (hD : 0 < D) (h : q * ((v1 * B + v2) * D + vr) ≤ (H * B + u2) * D + ur) : q * v1 ≤ H := by
 have hBD : 0 < B * D := Nat.mul_pos (by omega) hD
 have h1 : q * v1 * (B * D) ≤ q * ((v1 * B + v2) * D + vr) := by
  have e : q * ((v1 * B + v2) * D + vr) = q * v1 * (B * D) + q * (v2 * D + vr) := by
   simp only [Nat.mul_add, Nat.mul_comm, Nat.mul_left_comm]; omega
  rw [e]; exact Nat.le_add_right _ _
 have h2 : (H * B + u2) * D + ur < (H + 1) * (B * D) := by
  have e : (H + 1) * (B * D) = (H * B + B) * D := by
   simp only [Nat.mul_add, Nat.mul_comm, Nat.mul_left_comm, Nat.mul_one]
  rw [e]
  have h3 : (H * B + u2 + 1) * D ≤ (H * B + B) * D := Nat.mul_le_mul_right _ (by omega)
  rw [Nat.add_mul, Nat.one_mul] at h3
  omega
 have h4 : q * v1 * (B * D) < (H + 1) * (B * D) := by omega
 have := Nat.lt_of_mul_lt_mul_right h4
 omega
theorem guess_dec {q v1 v2 H rest B D u2 ur vr : Nat} (h : q * v1 + rest = H) (h2 : rest * B + u2 < q * v2) (hur : ur < D) : (H * B + u2) * D + ur < q * ((v1 * B + v2) * D + vr) := by
 have e1 : q * (v1 * B + v2) = q * v1 * B + q * v2 := by
  simp only [Nat.mul_add, Nat.mul_comm, Nat.mul_left_comm]
 have e2 : H * B = q * v1 * B + rest * B := by rw [← h, Nat.add_mul]
 have h3 : (H * B + u2 + 1) * D ≤ q * (v1 * B + v2) * D := Nat.mul_le_mul_right _ (by omega)
 have e3 : q * ((v1 * B + v2) * D + vr) = q * (v1 * B + v2) * D + q * vr := by rw [Nat.mul_add, Nat.mul_assoc]
 rw [Nat.add_mul, Nat.one_mul] at h3
 omega
theorem guess_fin {q v1 v2 H rest B D u2 ur vr : Nat} (h : q * v1 + rest = H) (h2 : q * v2 ≤ rest * B + u2) (hq : q < B) (hv : 0 < v1) (hvr : vr < D) : q * ((v1 * B + v2) * D + vr) < (H * B + u2) * D + ur + ((v1 * B + v2) * D + vr) := by
 have e1 : q * (v1 * B + v2) = q * v1 * B + q * v2 := by
  simp only [Nat.mul_add, Nat.mul_comm, Nat.mul_left_comm]
 have e2 : H * B = q * v1 * B + rest * B := by rw [← h, Nat.add_mul]
 have h3 : q * (v1 * B + v2) * D ≤ (H * B + u2) * D := Nat.mul_le_mul_right _ (by omega)
 have e3 : q * ((v1 * B + v2) * D + vr) = q * (v1 * B + v2) * D + q * vr := by rw [Nat.mul_add, Nat.mul_assoc]
 have h4 : q * vr < B * D := Nat.lt_of_le_of_lt (Nat.mul_le_mul_left q (Nat.le_of_lt hvr)) (Nat.mul_lt_mul_of_pos_right hq (by omega))
 have h5 : B * D ≤ (v1 * B + v2) * D := Nat.mul_le_mul_right _ (by have := Nat.mul_le_mul_right B hv; omega)
 omega
theorem guess_eq {q U V : Nat} (hV : 0 < V) (h1 : U / V ≤ q) (h2 : q * V < U + V) : q = U / V ∨ q = U / V + 1 := by
 have h3 := Nat.div_mul_le_self U V
 have h4 : q < U / V + 2 := by
  rw [← Nat.mul_lt_mul_right hV]
  have h5 := Nat.lt_div_mul_add (a := U) hV
  rw [Nat.add_mul]
  omega
 omega
theorem sub_step {q d u low c c' bo bo' r i R P S : Nat} (h : S + 4294967296 ^ i * (bo + c) = R + q * P) (hc : c + q * d = low + 4294967296 * c') (hr : u + 4294967296 * bo' = r + low + bo) :
  (S + 4294967296 ^ i * u) + 4294967296 ^ (i + 1) * (bo' + c') = (R + 4294967296 ^ i * r) + q * (P + 4294967296 ^ i * d) := by
 rw [Nat.pow_succ]
 generalize 4294967296 ^ i = K at *
 have e1 : K * c + K * (q * d) = K * low + K * (4294967296 * c') := by rw [← Nat.mul_add, hc, Nat.mul_add]
 have e2 : K * u + K * (4294967296 * bo') = K * r + K * low + K * bo := by rw [← Nat.mul_add, hr, Nat.mul_add, Nat.mul_add]
 have e3 : K * 4294967296 * (bo' + c') = K * (4294967296 * bo') + K * (4294967296 * c') := by rw [Nat.mul_assoc, Nat.mul_add, Nat.mul_add]
 have e4 : q * (P + K * d) = q * P + K * (q * d) := by rw [Nat.mul_add, Nat.mul_left_comm]
 have e5 : K * (bo + c) = K * bo + K * c := Nat.mul_add _ _ _
 omega
theorem carry_le {q d c : Nat} (hd : d < 4294967296) (hc : c ≤ q) : (c + q * d) / 4294967296 ≤ q := by
 apply Nat.le_of_lt_succ
 rw [Nat.div_lt_iff_lt_mul (by decide)]
 have : q * d ≤ q * 4294967295 := Nat.mul_le_mul_left q (by omega)
 omega
end Go.Proofs.YtacihodamichhaaGreatDoor
namespace Go.Proofs.YtacihodamichhaaGreatDoor
theorem km_eq {K x y m r : Nat} (hm : m < K) (hr : r < K) (h : K * x + m = K * y + r) : x = y ∧ m = r := by
 have hK : 0 < K := by omega
 have h1 : (K * x + m) / K = x := by rw [Nat.mul_add_div hK, Nat.div_eq_of_lt hm, Nat.add_zero]
 have h2 : (K * y + r) / K = y := by rw [Nat.mul_add_div hK, Nat.div_eq_of_lt hr, Nat.add_zero]
 have h3 : x = y := by rw [← h1, ← h2, h]
 subst h3
 exact ⟨rfl, by omega⟩
theorem dig_fit {q U V un R bo c K Ul : Nat} (h : Ul + K * (bo + c) = R + q * V) (hU : U = Ul + K * un) (hR : R < K) (hV : V ≤ K) (hV0 : 0 < V) (hq : q = U / V) : bo + c = un ∧ R = U % V := by
 have h1 := Nat.div_add_mod U V
 have h2 := Nat.mod_lt U hV0
 rw [← hq, Nat.mul_comm] at h1
 have h3 : K * (bo + c) + U % V = K * un + R := by omega
 obtain ⟨h4, h5⟩ := km_eq (by omega) hR h3
 exact ⟨h4, h5.symm⟩
theorem dig_over {q U V un R bo c K Ul : Nat} (h : Ul + K * (bo + c) = R + q * V) (hU : U = Ul + K * un) (hR : R < K) (hV : V ≤ K) (hV0 : 0 < V) (hq : q = U / V + 1) : bo + c = un + 1 ∧ R + V = K + U % V := by
 have h1 := Nat.div_add_mod U V
 have h2 := Nat.mod_lt U hV0
 have h0 : q * V = V * (U / V) + V := by rw [hq, Nat.add_mul, Nat.one_mul, Nat.mul_comm]
 have h3 : K * (bo + c) + U % V = K * un + (R + V) := by omega
 have h4 : bo + c = un + 1 := by
  rcases Nat.lt_or_ge (bo + c) (un + 1) with h5 | h5
  ·have := Nat.mul_le_mul_left K (show bo + c ≤ un by omega); omega
  ·rcases Nat.lt_or_ge (un + 1) (bo + c) with h6 | h6
   ·have := Nat.mul_le_mul_left K (show un + 2 ≤ bo + c by omega)
    rw [Nat.mul_add] at this
    omega
   ·omega
 rw [h4, Nat.mul_add] at h3
 exact ⟨h4, by omega⟩
theorem dig_back {R V K R' c' m : Nat} (h : R' + K * c' = R + V) (h2 : R + V = K + m) (hR : R' < K) (hm : m < K) : c' = 1 ∧ R' = m := by
 obtain ⟨h3, h4⟩ := km_eq (x := c') (y := 1) hR hm (by omega)
 exact ⟨h3, h4⟩
theorem put_at (pre done : List Nat) (d v : Nat) (rest : List Nat) : (pre ++ (done ++ d :: rest)).set (pre.length + done.length) v = pre ++ ((done ++ [v]) ++ rest) := by
 rw [List.set_append_right _ _ (Nat.le_add_right _ _), Nat.add_sub_cancel_left, List.set_append_right _ _ (Nat.le_refl _), Nat.sub_self, List.set_cons_zero, List.append_assoc]; rfl
theorem get_at (pre done : List Nat) (d : Nat) (rest : List Nat) : (pre ++ (done ++ d :: rest))[pre.length + done.length]? = some d := by
 rw [List.getElem?_append_right (Nat.le_add_right _ _), Nat.add_sub_cancel_left, List.getElem?_append_right (Nat.le_refl _), Nat.sub_self]; rfl
theorem drop_next {l : List Nat} {i d : Nat} (h : l[i]? = some d) : l.drop i = d :: l.drop (i + 1) := by
 have hi : i < l.length := by
  rcases Nat.lt_or_ge i l.length with h' | h'
  ·exact h'
  ·rw [List.getElem?_eq_none h'] at h; cases h
 rw [List.getElem?_eq_getElem hi] at h
 rw [List.drop_eq_getElem_cons hi, Option.some.inj h]
theorem top3 {l : List Nat} {n a b c : Nat} (hl : l.length = n + 1) (hn : 2 ≤ n) (ha : l[n]? = some a) (hb : l[n - 1]? = some b) (hc : l[n - 2]? = some c) : natL l = ((a * 4294967296 + b) * 4294967296 + c) * 4294967296 ^ (n - 2) + natL (l.take (n - 2)) := by
 obtain ⟨m, rfl⟩ : ∃ m, n = m + 2 := ⟨n - 2, by omega⟩
 simp only [Nat.add_sub_cancel, show m + 2 - 1 = m + 1 by omega] at *
 have h1 := take_next ha
 have h2 := take_next hb
 have h3 := take_next hc
 rw [List.take_of_length_le (by omega)] at h1
 have e1 : (4294967296 : Nat) ^ (m + 1) = 4294967296 ^ m * 4294967296 := Nat.pow_succ ..
 have e2 : (4294967296 : Nat) ^ (m + 2) = 4294967296 ^ m * 4294967296 * 4294967296 := by rw [Nat.pow_succ, e1]
 rw [h1, h2, h3, e2, e1]
 generalize 4294967296 ^ m = K
 generalize natL (l.take m) = Z
 rw [Nat.add_mul, Nat.add_mul, Nat.add_mul, Nat.mul_comm (a * 4294967296 * 4294967296), Nat.mul_comm (b * 4294967296), Nat.mul_comm c, Nat.mul_assoc K, Nat.mul_assoc K, Nat.mul_assoc K, show 4294967296 * 4294967296 * a = a * 4294967296 * 4294967296 by omega, Nat.mul_comm 4294967296 b]
 omega
theorem top2 {l : List Nat} {n a b : Nat} (hl : l.length = n) (hn : 2 ≤ n) (ha : l[n - 1]? = some a) (hb : l[n - 2]? = some b) : natL l = (a * 4294967296 + b) * 4294967296 ^ (n - 2) + natL (l.take (n - 2)) := by
 obtain ⟨m, rfl⟩ : ∃ m, n = m + 2 := ⟨n - 2, by omega⟩
 simp only [Nat.add_sub_cancel, show m + 2 - 1 = m + 1 by omega] at *
 have h1 := take_next ha
 have h2 := take_next hb
 rw [List.take_of_length_le (by omega)] at h1
 rw [h1, h2, Nat.pow_succ]
 generalize 4294967296 ^ m = K
 generalize natL (l.take m) = Z
 rw [Nat.add_mul, Nat.mul_comm (a * 4294967296), Nat.mul_comm b, Nat.mul_assoc K, Nat.mul_comm 4294967296 a]
 omega
end Go.Proofs.YtacihodamichhaaGreatDoor
