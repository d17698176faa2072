/-
  Parts of the proof: Parg, Tx2, Read, Rdg.
-/
import Derived.Test.YtlcmhbkmpkcajaaGreatDoorN10
namespace Go.Proofs.YtlcmhbkmpkcajaaGreatDoor
open Go.RowKit
theorem limbs_ten {M k : Nat} (h : M < 10 ^ k) (hk : k ≤ 900000) : (limbs M).length < 1000000 := by
  rcases Nat.lt_or_ge (limbs M).length 1000000 with h3 | h3
  · exact h3
  · exfalso
    have h0 : M ≠ 0 := fun e => by rw [e, limbs_zero] at h3; simp at h3
    have h4 := limbs_pow h0
    have h5 : (10 : Nat) ^ k ≤ 4294967296 ^ k := Nat.pow_le_pow_left (by decide) k
    have h6 := (Nat.pow_lt_pow_iff_right (by decide)).1 (Nat.lt_of_le_of_lt h4 (Nat.lt_of_lt_of_le h h5))
    omega
theorem valD_take {d : List UInt8} {k g : Nat} (hk : k + g ≤ d.length) : valD (d.take k) * 10 ^ g + valD ((d.drop k).take g) = valD (d.take (k + g)) := by
  rw [List.take_add, valD_append, List.length_take, List.length_drop, Nat.min_eq_left (by omega)]
theorem extract_list {X : ByteArray} {l : List UInt8} (h : X.data.toList = l) (a b : Nat) : (X.extract a b).data.toList = (l.take b).drop a := by
  rw [ByteArray.data_extract, Array.toList_extract, ← h]
  simp [List.extract, List.drop_take]
def badI (d : List UInt8) (neg : Bool) : Bool := d.head? == some 48 && (decide (1 < d.length) || neg)
set_option maxHeartbeats 8000000 in
set_option maxRecDepth 100000 in
theorem parse_g (s : ByteArray) (d : List UInt8) (neg : Bool) (w : World) (hl : s.data.toList = if neg then 45 :: d else d) (hd : AllD d) (hne : d ≠ []) (hlen : d.length ≤ 5010) (hform : badI d neg = false) :
    Calls Tryz.prog 72 #[.string s] w (RetP (fun v w' => ∃ x a n c, v = .tuple #[.agg #[.bool x, .slice a n c], .int .i64 0] ∧ IntV w' (.agg #[.bool x, .slice a n c]) (sgn neg (valD d)) ∧ AU w' a) w) := by
  have H1 := hI (fun w' => Tryz.strings_CutPrefix s ⟨#[45]⟩ w')
  have htrim : Lib.trimPrefix s.data.toList [45] = d := by
    rw [hl]
    cases neg with
    | true => rfl
    | false =>
      cases d with
      | nil => exact absurd rfl hne
      | cons a l =>
        have ha := isD_iff.1 (hd a (by simp))
        have h45 : (45 == a) = false := by
          rw [beq_eq_false_iff_ne]
          rintro rfl
          exact absurd ha.1 (by decide)
        simp [Lib.trimPrefix, Lib.hasPrefix, List.isPrefixOf, h45]
  have hpre : Lib.hasPrefix s.data.toList [45] = neg := by
    rw [hl]
    cases neg with
    | true => rfl
    | false =>
      cases d with
      | nil => exact absurd rfl hne
      | cons a l =>
        have ha := isD_iff.1 (hd a (by simp))
        have h45 : (45 == a) = false := by
          rw [beq_eq_false_iff_ne]
          rintro rfl
          exact absurd ha.1 (by decide)
        simp [Lib.hasPrefix, List.isPrefixOf, h45]
  rw [show (⟨#[45]⟩ : ByteArray).data.toList = [45] from rfl, htrim, hpre] at H1
  have H2 := hI (fun w' => Tryz.strings_ContainsFunc_grows 113 #[] (enters_of Tryz.func113 (by kernel_rfl) rfl) noDig ⟨d.toArray⟩ w' (fun W x hx _ => pnod x W hx))
  rw [idx_none hd, show decide ((0 : Int) ≤ -1) = false from rfl] at H2
  have hsz : (⟨d.toArray⟩ : ByteArray).size = d.length := by rw [Lib.size_eq]
  have hss : s.size ≤ 5011 := by rw [Lib.size_eq, hl]; cases neg <;> simp <;> omega
  have hss2 : ¬ (65536 : Int) < (s.size : Int) := by omega
  have he : (⟨d.toArray⟩ : ByteArray).toList.isEmpty = false := by
    rw [ByteArray.toList_eq]
    cases d with
    | nil => exact absurd rfl hne
    | cons a l => rfl
  have hn0 : 0 < d.length := List.length_pos_iff.2 hne
  have hhead : ∀ c, d.head? = some c → ∀ (p : 0 < (⟨d.toArray⟩ : ByteArray).size), (⟨d.toArray⟩ : ByteArray)[0]'p = c := by
    intro c hc p
    cases d with
    | nil => exact absurd rfl hne
    | cons a l => cases hc; rfl
  have hlen0 := hlen
  have hcase : (d.length = 1 ∧ neg = false ∧ d.head? = some 48) ∨ (∃ c, d.head? = some c ∧ c ≠ 48) := by
    unfold badI at hform
    cases d with
    | nil => exact absurd rfl hne
    | cons a l =>
      by_cases ha : a = 48
      · subst ha
        simp at hform
        exact .inl ⟨by simp [hform.1], hform.2, rfl⟩
      · exact .inr ⟨a, rfl, ha⟩
  have H4 := hI (fun w' a m c M u (by' : Nat) (hL : Ls w' (.slice a m c) (limbs M)) (hM : (limbs M).length < 1000000) (hby : by' < 4294967296) (hu : u < 4294967296) => scale_at a m c (limbs M) by' u w' hL (limbs_dg M) hM hby hu)
  have H5 := hI (fun w' a c (hL : Ls w' (.slice a (limbs (valD d)).length c) (limbs (valD d))) => signed_at neg a _ c (limbs (valD d)) w' hL (limbs_dg (valD d)))
  rw [natL_limbs] at H5
  have HR := hI (Blk.new w #[.bool false, .slice none 0 0] 59)
  have hDl : (⟨d.toArray⟩ : ByteArray).data.toList = d := rfl
  generalize hD : (⟨d.toArray⟩ : ByteArray) = D at *
  have hp0 : 0 < D.size := by omega
  have hvlt := valD_lt hd
  generalize hnn : d.length = n at *
  have Hd := hI (And.intro hd (And.intro hDl (And.intro hnn hvlt)))
  rw [← hsz] at hcase
  clear hform hl hpre htrim hlen hne hn0 hss hD hvlt
  have hn70 : n ≤ 5010 := by omega
  clear hlen0
  rcases hcase with ⟨hA, rfl, hh⟩ | ⟨c, hh, h48⟩
  · have hc := hhead 48 hh hp0
    have hc2 : ((D[0]'hp0).toNat : Int) = 48 := by rw [hc]; rfl
    have hn2 : ¬ (1 : Int) < (n : Int) := by omega
    clear hhead hc hh hA
    go_enter Tryz.func72, Tryz.ntmps72
    go_wp2_with (first
      | (go_at_call 111; refine (H1.out _).mono ?_; rintro e w' ⟨rfl, rfl⟩)
      | (go_at_call 112; refine (H2.out _).mono ?_; rintro e w1 ⟨rfl, hb1⟩; have Hb1 := hI hb1; clear hb1))
    go_loopw [4, 6] (fun x m wr => ∃ k X, x = .string X ∧ k ≤ n ∧ X.data.toList = d.drop k ∧ MagA wr m (valD (d.take k)) ∧ Below w1.heap.size w1 wr) (fun x _ _ => match x with | .string X => X.size | _ => 0)
    case atStart => exact ⟨0, D, rfl, Nat.zero_le _, by rw [Hd.out.2.1]; rfl, by rw [List.take_zero]; exact MagA.zero _, Below.refl _ _⟩
    case round =>
      obtain ⟨k, X, rfl, hk, hX, hm, hbw⟩ := hrel
      have hXs : X.size = n - k := by rw [Lib.size_eq, hX, List.length_drop, Hd.out.2.2.1]
      rcases Nat.lt_or_ge k n with hlt | hge
      · obtain ⟨r, hr⟩ : ∃ r, n - k = r := ⟨_, rfl⟩
        rw [hr] at hXs
        obtain ⟨g1, hg1⟩ : ∃ g1, (r - 1) % 9 = g1 := ⟨_, rfl⟩
        obtain ⟨g, hg⟩ : ∃ g, g1 + 1 = g := ⟨_, rfl⟩
        have hg9 : g ≤ 9 := by omega
        have hgr : g ≤ r := by omega
        have hg0 : 0 < g := by omega
        have hrem : ((r : Int) - 1).tmod 9 = (g1 : Int) := by
          rw [Int.tmod_eq_emod_of_nonneg (by omega)]; omega
        have hw1 : IntKind.i64.wrap ((r : Int) - 1) = (r : Int) - 1 := IntWalk.i64_in _ (by omega)
        have hw2 : IntKind.i64.wrap ((g1 : Int) + 1) = (g : Int) := (IntWalk.i64_in _ (by omega)).trans (by omega)
        have hw3 : IntKind.i64.wrap (g1 : Int) = (g1 : Int) := IntWalk.i64_in _ (by omega)
        have hrp : (0 : Int) < (r : Int) := by omega
        have hgi : (g : Int) ≤ (r : Int) := by omega
        have hgi0 : (0 : Int) ≤ (g : Int) := Int.natCast_nonneg _
        have hPl : (X.extract 0 g).data.toList = (d.drop k).take g := by rw [extract_list hX, List.drop_zero]
        have hRl : (X.extract g r).data.toList = d.drop (k + g) := by rw [extract_list hX, List.take_of_length_le (by rw [List.length_drop, Hd.out.2.2.1]; omega), List.drop_drop]
        obtain ⟨u, hu⟩ : ∃ u, valD ((d.drop k).take g) = u := ⟨_, rfl⟩
        have hpl : ((d.drop k).take g).length = g := by rw [List.length_take, List.length_drop, Hd.out.2.2.1]; omega
        obtain ⟨hp1, hp2⟩ := parse9 (l := (d.drop k).take g) ((Hd.out.1.drop k).take g) (fun e => by rw [e] at hpl; simp at hpl; omega) (by omega)
        rw [hu] at hp1 hp2
        have H3 := hI (fun w' => Tryz.strconv_ParseUint_10_at32_ok (X.extract 0 g) (by rw [Lib.size_eq, hPl, hpl]; omega) u (by rw [hPl]; exact hp1) w')
        have hst := valD_take (g := g) (show k + g ≤ d.length by rw [Hd.out.2.2.1]; omega)
        rw [hu] at hst
        have HM := hI (show (limbs (valD (d.take k))).length < 1000000 from limbs_ten (k := k) (by have h := valD_lt (Hd.out.1.take k); rwa [List.length_take, Hd.out.2.2.1, Nat.min_eq_left hk] at h) (by omega))
        obtain ⟨a, c, rfl, hL, hAU⟩ := hm
        have HL := hI hL
        have Hst := hI (And.intro hst hRl)
        have HRs := hI (show (X.extract g r).size < X.size by rw [Lib.size_eq (X.extract g r), hRl, List.length_drop, Hd.out.2.2.1, hXs]; omega)
        have Hbw := hI hbw
        have hu32 : IntKind.u32.wrap (u : Int) = u := IntWalk.u32_in _ (by omega)
        have Hrg := hI (And.intro hr (And.intro hg1 hg))
        generalize hPP : X.extract 0 g = P at *
        generalize hRR : X.extract g r = R at *
        clear hbw hL hAU hPl hRl hst hp1 hpl hu hr hg1 hg hX
        generalize hML : (limbs (valD (d.take k))).length = ml at *
        have HML := hI hML
        clear hML
        go_wp2_with fail
        go_loopw [48, 8] (fun i b wv => ∃ j p : Nat, j ≤ g ∧ i = .int .i64 (j : Int) ∧ b = .int .u32 (p : Int) ∧ Hid (p = 10 ^ j) ∧ wv = wr) (fun i _ _ => g - (intOf i).toNat)
        case atStart => exact ⟨0, 1, by omega, rfl, rfl, rfl, rfl⟩
        case round =>
          obtain ⟨j, p, hj, rfl, rfl, hpk, rfl⟩ := hrel
          rcases Nat.lt_or_ge j g with hlt | hge
          · have hp8 : p ≤ 100000000 := by rw [hpk.out]; exact ten9 (by omega)
            have hkn : (j : Int) < (g : Int) := by omega
            have hwp : IntKind.u32.wrap ((p : Int) * 10) = ((p * 10 : Nat) : Int) := by rw [Int.natCast_mul]; exact IntWalk.u32_in _ (by omega)
            go_wp2_with fail
            go_roundw
            case rel => exact ⟨j + 1, p * 10, by omega, by go_num, by go_num, by unfold Hid; rw [hpk.out, Nat.pow_succ], trivial⟩
            case measure => simp [intOf] <;> omega
          · obtain rfl : j = g := by omega
            have hp9 : p < 4294967296 := by
              rw [hpk.out]
              exact Nat.lt_of_le_of_lt (Nat.pow_le_pow_right (by decide) hg9) (by decide)
            have hkn : ¬ (j : Int) < (j : Int) := by omega
            go_wp2_with (first
              | (go_at_call 114; refine (H3.out _).mono ?_; rintro e w2 ⟨rfl, hb2⟩; have Hb2 := hI (show Below wr.heap.size wr w2 by rcases hb2 with rfl | rfl <;> first | exact Below.refl _ _ | exact Lib.bytesWorld_below _ _ _); clear hb2)
              | (go_at_call 115; refine (H4.out _ a ml c (valD (d.take k)) u p (HL.out.mono Hb2.out) (by rw [HML.out]; exact HM.out) hp9 (by omega)).mono ?_; rintro e w3 ⟨v3, rfl, hv3, hb3⟩; have Hv3 := hI hv3; have Hb3 := hI hb3; clear hv3 hb3))
            go_roundw
            case rel =>
              refine ⟨k + j, R, rfl, by have := Hrg.out.1; omega, Hst.out.2, ?_, (bw_via Hbw.out (bw_via Hb2.out Hb3.out))⟩
              rw [← Hst.out.1]
              have h := Hv3.out
              rw [natL_limbs, hpk.out] at h
              exact h
            case measure => exact HRs.out
      · obtain rfl : k = n := by omega
        rw [List.take_of_length_le (by rw [Hd.out.2.2.1]; exact Nat.le_refl _)] at hm
        have hX0 : X.size = 0 := by omega
        obtain ⟨a, c, rfl, hL, hAU⟩ := hm
        have HAU := hI hAU
        have H5' := hI (H5.out _ a c hL)
        have Hbw := hI (bw_via Hb1.out hbw)
        clear hL hbw hAU hX hXs
        generalize (limbs (valD d)).length = kl at *
        go_wp2_with (go_at_call 92; refine (H5'.out).mono ?_; rintro e w4 ⟨v4, rfl, ⟨hv, x5, k5, rfl⟩, hb4⟩; have HA4 := hI (((HAU.out.mono hb4).set w.heap.size 0 (.bool x5)).set w.heap.size 1 (.slice a k5 c)); have hr := HR.out.below (bw_via Hbw.out hb4); obtain ⟨⟨r0, r1⟩, f0, f1⟩ := blk2v hr; obtain ⟨hv6, hb6⟩ := IntV.put2 hv hr; have Hv6 := hI hv6; have Hb6 := hI hb6; have Hbel := hI (put_below (b := w.heap.size) x5 a k5 c ((below1 w (.cells #[.bool false, .slice none 0 0] 59)).via (bw_via Hbw.out hb4) (below1 w _).size) (Nat.le_refl _)); clear hr hv6 hb6 hv)
        obtain ⟨⟨q0, q1⟩, -⟩ := blk2v Hb6.out
        exact bodyPost_ret (v := .tuple #[.agg #[.bool x5, .slice a k5 c], .int .i64 0]) (by simp [results, Tryz.results72, go_sem, q0, q1]) rfl ⟨_, rfl, ⟨_, _, _, _, rfl, Hv6.out, HA4.out⟩, Hbel.out⟩
  · have hc := hhead c hh hp0
    have hc2 : (((D[0]'hp0).toNat : Int) == 48) = false := by
      rw [hc, beq_eq_false_iff_ne]
      intro h
      exact h48 (UInt8.toNat_inj.1 (by have : (48 : UInt8).toNat = 48 := rfl; omega))
    clear hhead hc hh h48
    go_enter Tryz.func72, Tryz.ntmps72
    go_wp2_with (first
      | (go_at_call 111; refine (H1.out _).mono ?_; rintro e w' ⟨rfl, rfl⟩)
      | (go_at_call 112; refine (H2.out _).mono ?_; rintro e w1 ⟨rfl, hb1⟩; have Hb1 := hI hb1; clear hb1))
    go_loopw [4, 6] (fun x m wr => ∃ k X, x = .string X ∧ k ≤ n ∧ X.data.toList = d.drop k ∧ MagA wr m (valD (d.take k)) ∧ Below w1.heap.size w1 wr) (fun x _ _ => match x with | .string X => X.size | _ => 0)
    case atStart => exact ⟨0, D, rfl, Nat.zero_le _, by rw [Hd.out.2.1]; rfl, by rw [List.take_zero]; exact MagA.zero _, Below.refl _ _⟩
    case round =>
      obtain ⟨k, X, rfl, hk, hX, hm, hbw⟩ := hrel
      have hXs : X.size = n - k := by rw [Lib.size_eq, hX, List.length_drop, Hd.out.2.2.1]
      rcases Nat.lt_or_ge k n with hlt | hge
      · obtain ⟨r, hr⟩ : ∃ r, n - k = r := ⟨_, rfl⟩
        rw [hr] at hXs
        obtain ⟨g1, hg1⟩ : ∃ g1, (r - 1) % 9 = g1 := ⟨_, rfl⟩
        obtain ⟨g, hg⟩ : ∃ g, g1 + 1 = g := ⟨_, rfl⟩
        have hg9 : g ≤ 9 := by omega
        have hgr : g ≤ r := by omega
        have hg0 : 0 < g := by omega
        have hrem : ((r : Int) - 1).tmod 9 = (g1 : Int) := by
          rw [Int.tmod_eq_emod_of_nonneg (by omega)]; omega
        have hw1 : IntKind.i64.wrap ((r : Int) - 1) = (r : Int) - 1 := IntWalk.i64_in _ (by omega)
        have hw2 : IntKind.i64.wrap ((g1 : Int) + 1) = (g : Int) := (IntWalk.i64_in _ (by omega)).trans (by omega)
        have hw3 : IntKind.i64.wrap (g1 : Int) = (g1 : Int) := IntWalk.i64_in _ (by omega)
        have hrp : (0 : Int) < (r : Int) := by omega
        have hgi : (g : Int) ≤ (r : Int) := by omega
        have hgi0 : (0 : Int) ≤ (g : Int) := Int.natCast_nonneg _
        have hPl : (X.extract 0 g).data.toList = (d.drop k).take g := by rw [extract_list hX, List.drop_zero]
        have hRl : (X.extract g r).data.toList = d.drop (k + g) := by rw [extract_list hX, List.take_of_length_le (by rw [List.length_drop, Hd.out.2.2.1]; omega), List.drop_drop]
        obtain ⟨u, hu⟩ : ∃ u, valD ((d.drop k).take g) = u := ⟨_, rfl⟩
        have hpl : ((d.drop k).take g).length = g := by rw [List.length_take, List.length_drop, Hd.out.2.2.1]; omega
        obtain ⟨hp1, hp2⟩ := parse9 (l := (d.drop k).take g) ((Hd.out.1.drop k).take g) (fun e => by rw [e] at hpl; simp at hpl; omega) (by omega)
        rw [hu] at hp1 hp2
        have H3 := hI (fun w' => Tryz.strconv_ParseUint_10_at32_ok (X.extract 0 g) (by rw [Lib.size_eq, hPl, hpl]; omega) u (by rw [hPl]; exact hp1) w')
        have hst := valD_take (g := g) (show k + g ≤ d.length by rw [Hd.out.2.2.1]; omega)
        rw [hu] at hst
        have HM := hI (show (limbs (valD (d.take k))).length < 1000000 from limbs_ten (k := k) (by have h := valD_lt (Hd.out.1.take k); rwa [List.length_take, Hd.out.2.2.1, Nat.min_eq_left hk] at h) (by omega))
        obtain ⟨a, c, rfl, hL, hAU⟩ := hm
        have HL := hI hL
        have Hst := hI (And.intro hst hRl)
        have HRs := hI (show (X.extract g r).size < X.size by rw [Lib.size_eq (X.extract g r), hRl, List.length_drop, Hd.out.2.2.1, hXs]; omega)
        have Hbw := hI hbw
        have hu32 : IntKind.u32.wrap (u : Int) = u := IntWalk.u32_in _ (by omega)
        have Hrg := hI (And.intro hr (And.intro hg1 hg))
        generalize hPP : X.extract 0 g = P at *
        generalize hRR : X.extract g r = R at *
        clear hbw hL hAU hPl hRl hst hp1 hpl hu hr hg1 hg hX
        generalize hML : (limbs (valD (d.take k))).length = ml at *
        have HML := hI hML
        clear hML
        go_wp2_with fail
        go_loopw [48, 8] (fun i b wv => ∃ j p : Nat, j ≤ g ∧ i = .int .i64 (j : Int) ∧ b = .int .u32 (p : Int) ∧ Hid (p = 10 ^ j) ∧ wv = wr) (fun i _ _ => g - (intOf i).toNat)
        case atStart => exact ⟨0, 1, by omega, rfl, rfl, rfl, rfl⟩
        case round =>
          obtain ⟨j, p, hj, rfl, rfl, hpk, rfl⟩ := hrel
          rcases Nat.lt_or_ge j g with hlt | hge
          · have hp8 : p ≤ 100000000 := by rw [hpk.out]; exact ten9 (by omega)
            have hkn : (j : Int) < (g : Int) := by omega
            have hwp : IntKind.u32.wrap ((p : Int) * 10) = ((p * 10 : Nat) : Int) := by rw [Int.natCast_mul]; exact IntWalk.u32_in _ (by omega)
            go_wp2_with fail
            go_roundw
            case rel => exact ⟨j + 1, p * 10, by omega, by go_num, by go_num, by unfold Hid; rw [hpk.out, Nat.pow_succ], trivial⟩
            case measure => simp [intOf] <;> omega
          · obtain rfl : j = g := by omega
            have hp9 : p < 4294967296 := by
              rw [hpk.out]
              exact Nat.lt_of_le_of_lt (Nat.pow_le_pow_right (by decide) hg9) (by decide)
            have hkn : ¬ (j : Int) < (j : Int) := by omega
            go_wp2_with (first
              | (go_at_call 114; refine (H3.out _).mono ?_; rintro e w2 ⟨rfl, hb2⟩; have Hb2 := hI (show Below wr.heap.size wr w2 by rcases hb2 with rfl | rfl <;> first | exact Below.refl _ _ | exact Lib.bytesWorld_below _ _ _); clear hb2)
              | (go_at_call 115; refine (H4.out _ a ml c (valD (d.take k)) u p (HL.out.mono Hb2.out) (by rw [HML.out]; exact HM.out) hp9 (by omega)).mono ?_; rintro e w3 ⟨v3, rfl, hv3, hb3⟩; have Hv3 := hI hv3; have Hb3 := hI hb3; clear hv3 hb3))
            go_roundw
            case rel =>
              refine ⟨k + j, R, rfl, by have := Hrg.out.1; omega, Hst.out.2, ?_, (bw_via Hbw.out (bw_via Hb2.out Hb3.out))⟩
              rw [← Hst.out.1]
              have h := Hv3.out
              rw [natL_limbs, hpk.out] at h
              exact h
            case measure => exact HRs.out
      · obtain rfl : k = n := by omega
        rw [List.take_of_length_le (by rw [Hd.out.2.2.1]; exact Nat.le_refl _)] at hm
        have hX0 : X.size = 0 := by omega
        obtain ⟨a, c, rfl, hL, hAU⟩ := hm
        have HAU := hI hAU
        have H5' := hI (H5.out _ a c hL)
        have Hbw := hI (bw_via Hb1.out hbw)
        clear hL hbw hAU hX hXs
        generalize (limbs (valD d)).length = kl at *
        go_wp2_with (go_at_call 92; refine (H5'.out).mono ?_; rintro e w4 ⟨v4, rfl, ⟨hv, x5, k5, rfl⟩, hb4⟩; have HA4 := hI (((HAU.out.mono hb4).set w.heap.size 0 (.bool x5)).set w.heap.size 1 (.slice a k5 c)); have hr := HR.out.below (bw_via Hbw.out hb4); obtain ⟨⟨r0, r1⟩, f0, f1⟩ := blk2v hr; obtain ⟨hv6, hb6⟩ := IntV.put2 hv hr; have Hv6 := hI hv6; have Hb6 := hI hb6; have Hbel := hI (put_below (b := w.heap.size) x5 a k5 c ((below1 w (.cells #[.bool false, .slice none 0 0] 59)).via (bw_via Hbw.out hb4) (below1 w _).size) (Nat.le_refl _)); clear hr hv6 hb6 hv)
        obtain ⟨⟨q0, q1⟩, -⟩ := blk2v Hb6.out
        exact bodyPost_ret (v := .tuple #[.agg #[.bool x5, .slice a k5 c], .int .i64 0]) (by simp [results, Tryz.results72, go_sem, q0, q1]) rfl ⟨_, rfl, ⟨_, _, _, _, rfl, Hv6.out, HA4.out⟩, Hbel.out⟩
set_option maxHeartbeats 4000000 in
set_option maxRecDepth 100000 in
theorem parse_bad (s : ByteArray) (d : List UInt8) (neg : Bool) (w : World) (hl : s.data.toList = if neg then 45 :: d else d) (hd : AllD d) (hne : d ≠ []) (hlen : d.length ≤ 5010) (hform : badI d neg = true) :
    Calls Tryz.prog 72 #[.string s] w (Ret (.tuple #[.agg #[.bool false, .slice none 0 0], .int .i64 3]) w) := by
  have H1 := hI (fun w' => Tryz.strings_CutPrefix s ⟨#[45]⟩ w')
  have htrim : Lib.trimPrefix s.data.toList [45] = d := by
    rw [hl]
    cases neg with
    | true => rfl
    | false =>
      cases d with
      | nil => exact absurd rfl hne
      | cons a l =>
        have ha := isD_iff.1 (hd a (by simp))
        have h45 : (45 == a) = false := by
          rw [beq_eq_false_iff_ne]
          rintro rfl
          exact absurd ha.1 (by decide)
        simp [Lib.trimPrefix, Lib.hasPrefix, List.isPrefixOf, h45]
  have hpre : Lib.hasPrefix s.data.toList [45] = neg := by
    rw [hl]
    cases neg with
    | true => rfl
    | false =>
      cases d with
      | nil => exact absurd rfl hne
      | cons a l =>
        have ha := isD_iff.1 (hd a (by simp))
        have h45 : (45 == a) = false := by
          rw [beq_eq_false_iff_ne]
          rintro rfl
          exact absurd ha.1 (by decide)
        simp [Lib.hasPrefix, List.isPrefixOf, h45]
  rw [show (⟨#[45]⟩ : ByteArray).data.toList = [45] from rfl, htrim, hpre] at H1
  have H2 := hI (fun w' => Tryz.strings_ContainsFunc_grows 113 #[] (enters_of Tryz.func113 (by kernel_rfl) rfl) noDig ⟨d.toArray⟩ w' (fun W x hx _ => pnod x W hx))
  rw [idx_none hd, show decide ((0 : Int) ≤ -1) = false from rfl] at H2
  have hsz : (⟨d.toArray⟩ : ByteArray).size = d.length := by rw [Lib.size_eq]
  have hss : s.size ≤ 5011 := by rw [Lib.size_eq, hl]; cases neg <;> simp <;> omega
  have hss2 : ¬ (65536 : Int) < (s.size : Int) := by omega
  have he : (⟨d.toArray⟩ : ByteArray).toList.isEmpty = false := by
    rw [ByteArray.toList_eq]
    cases d with
    | nil => exact absurd rfl hne
    | cons a l => rfl
  have hn0 : 0 < d.length := List.length_pos_iff.2 hne
  have hhead : ∀ c, d.head? = some c → ∀ (p : 0 < (⟨d.toArray⟩ : ByteArray).size), (⟨d.toArray⟩ : ByteArray)[0]'p = c := by
    intro c hc p
    cases d with
    | nil => exact absurd rfl hne
    | cons a l => cases hc; rfl
  have HR := hI (Blk.new w #[.bool false, .slice none 0 0] 59)
  unfold badI at hform
  rw [Bool.and_eq_true, beq_iff_eq, Bool.or_eq_true, decide_eq_true_eq] at hform
  obtain ⟨hh, hor⟩ := hform
  generalize hD : (⟨d.toArray⟩ : ByteArray) = D at *
  have hp0 : 0 < D.size := by omega
  have hc := hhead 48 hh hp0
  have hc2 : ((D[0]'hp0).toNat : Int) = 48 := by rw [hc]; rfl
  rw [← hsz] at hor
  obtain ⟨n, hn⟩ : ∃ n, D.size = n := ⟨_, rfl⟩
  have Hb0 := hI (below1 w (.cells #[.bool false, .slice none 0 0] 59))
  have hcase : (1 : Int) < (D.size : Int) ∨ (¬ (1 : Int) < (D.size : Int) ∧ neg = true) := by
    rcases hor with h | h
    · exact .inl (by omega)
    · by_cases h1 : (1 : Int) < (D.size : Int)
      · exact .inl h1
      · exact .inr ⟨h1, h⟩
  clear hl hpre htrim hne hn0 hss hD hd hlen hhead hc hh hor hsz
  rw [hn] at hcase
  have hn0 : 0 < n := by omega
  rcases hcase with h | ⟨h, rfl⟩
  · go_enter Tryz.func72, Tryz.ntmps72
    go_wp2_with (first
      | (go_at_call 111; refine (H1.out _).mono ?_; rintro e w' ⟨rfl, rfl⟩)
      | (go_at_call 112; refine (H2.out _).mono ?_; rintro e w1 ⟨rfl, hb1⟩; have Hb1 := hI hb1; have hr := HR.out.below hb1; obtain ⟨⟨r0, r1⟩, f0, f1⟩ := blk2v hr; have Hr := hI hr; clear hb1 hr))
    have hr2 := (Hr.out.set 0 (.bool false)).set 1 (.slice none 0 0)
    obtain ⟨⟨q0, q1⟩, -⟩ := blk2v hr2
    exact bodyPost_ret (v := .tuple #[.agg #[.bool false, .slice none 0 0], .int .i64 3]) (by simp [results, Tryz.results72, go_sem, q0, q1]) rfl ⟨rfl, ((Hb0.out.via Hb1.out Hb0.out.size).setCell (p := ⟨w.heap.size, 0, none⟩) (Nat.le_refl _) _).setCell (p := ⟨w.heap.size, 1, none⟩) (Nat.le_refl _) _⟩
  · go_enter Tryz.func72, Tryz.ntmps72
    go_wp2_with (first
      | (go_at_call 111; refine (H1.out _).mono ?_; rintro e w' ⟨rfl, rfl⟩)
      | (go_at_call 112; refine (H2.out _).mono ?_; rintro e w1 ⟨rfl, hb1⟩; have Hb1 := hI hb1; have hr := HR.out.below hb1; obtain ⟨⟨r0, r1⟩, f0, f1⟩ := blk2v hr; have Hr := hI hr; clear hb1 hr))
    have hr2 := (Hr.out.set 0 (.bool false)).set 1 (.slice none 0 0)
    obtain ⟨⟨q0, q1⟩, -⟩ := blk2v hr2
    exact bodyPost_ret (v := .tuple #[.agg #[.bool false, .slice none 0 0], .int .i64 3]) (by simp [results, Tryz.results72, go_sem, q0, q1]) rfl ⟨rfl, ((Hb0.out.via Hb1.out Hb0.out.size).setCell (p := ⟨w.heap.size, 0, none⟩) (Nat.le_refl _) _).setCell (p := ⟨w.heap.size, 1, none⟩) (Nat.le_refl _) _⟩
end Go.Proofs.YtlcmhbkmpkcajaaGreatDoor
namespace Go.Proofs.YtlcmhbkmpkcajaaGreatDoor
def topL (l : List UInt8) : List UInt8 := l.takeWhile (· != 47)
def botL (l : List UInt8) : List UInt8 := (l.dropWhile (· != 47)).drop 1
def divB (l : List UInt8) : Bool := l.any (· == 47)
theorem idx47 (l : List UInt8) : (Lib.indexByte l 47 = -1 ∧ divB l = false ∧ topL l = l ∧ botL l = []) ∨ ∃ i : Nat, Lib.indexByte l 47 = (i : Int) ∧ i < l.length ∧ divB l = true ∧ topL l = l.take i ∧ botL l = l.drop (i + 1) := by
  induction l with
  | nil => exact .inl ⟨rfl, rfl, rfl, rfl⟩
  | cons c r ih =>
    by_cases hc : c = 47
    · subst hc
      exact .inr ⟨0, by simp [Lib.indexByte], by simp, by simp [divB], by simp [topL], by simp [botL]⟩
    · have h1 : (c == 47) = false := by rw [beq_eq_false_iff_ne]; exact hc
      have h2 : (c != 47) = true := by rw [bne_iff_ne]; exact hc
      have e0 : Lib.indexByte (c :: r) 47 = if Lib.indexByte r 47 == -1 then -1 else Lib.indexByte r 47 + 1 := by simp [Lib.indexByte, h1]
      have e1 : topL (c :: r) = c :: topL r := by simp [topL, h2]
      have e2 : botL (c :: r) = botL r := by simp [botL, h2]
      have e3 : divB (c :: r) = divB r := by simp [divB, h1]
      rw [e0, e1, e2, e3]
      rcases ih with ⟨i1, i2, i3, i4⟩ | ⟨i, i1, i2, i3, i4, i5⟩
      · exact .inl ⟨by rw [i1]; rfl, i2, by rw [i3], i4⟩
      · refine .inr ⟨i + 1, ?_, by simp; omega, i3, by rw [i4]; rfl, by rw [i5]; rfl⟩
        rw [i1, if_neg]
        · omega
        · rw [beq_iff_eq]; omega
theorem topL_len (l : List UInt8) : (topL l).length ≤ l.length := by
  rcases idx47 l with ⟨-, -, h, -⟩ | ⟨i, -, -, -, h, -⟩
  · rw [h]; exact Nat.le_refl _
  · rw [h, List.length_take]; omega
theorem botL_len (l : List UInt8) : (botL l).length ≤ l.length := by
  rcases idx47 l with ⟨-, -, -, h⟩ | ⟨i, -, -, -, -, h⟩
  · rw [h]; simp
  · rw [h, List.length_drop]; omega
def negB (t : List UInt8) : Bool := Lib.hasPrefix t [45]
def absL (t : List UInt8) : List UInt8 := Lib.trimPrefix t [45]
theorem neg_abs (t : List UInt8) : t = if negB t then 45 :: absL t else absL t := by
  unfold negB absL Lib.trimPrefix Lib.hasPrefix
  cases t with
  | nil => rfl
  | cons c r =>
    by_cases hc : (45 == c) = true
    · have : c = 45 := (beq_iff_eq.1 hc).symm
      subst this
      simp [List.isPrefixOf]
    · simp only [Bool.not_eq_true] at hc
      simp [List.isPrefixOf, hc]
theorem absL_len (t : List UInt8) : (absL t).length ≤ t.length := by
  unfold absL Lib.trimPrefix
  split
  · rw [List.length_drop]; omega
  · exact Nat.le_refl _
def digB (d : List UInt8) : Bool := !d.isEmpty && d.all isD
theorem digB_iff {d : List UInt8} : digB d = true ↔ d ≠ [] ∧ AllD d := by
  unfold digB AllD
  cases d <;> simp
theorem trim_digB {d : List UInt8} (hne : d ≠ []) : (decide (Lib.trimS d cut10 = [])) = digB d := by
  by_cases h : AllD d
  · rw [decide_eq_true (trim_digits.2 h), digB_iff.2 ⟨hne, h⟩]
  · rw [decide_eq_false (fun e => h (trim_digits.1 e))]
    cases hd : digB d with
    | false => rfl
    | true => exact absurd (digB_iff.1 hd).2 h
def zerB (d : List UInt8) : Bool := d.all (· == 48)
theorem trim_zerB {d : List UInt8} : (decide (Lib.trimS d [48] = [])) = zerB d := by
  unfold zerB
  by_cases h : ∀ c ∈ d, c = 48
  · rw [decide_eq_true (trim_zeros.2 h)]
    simp only [List.all_eq_true.2 (fun c hc => beq_iff_eq.2 (h c hc))]
  · rw [decide_eq_false (fun e => h (trim_zeros.1 e))]
    cases hd : d.all (· == 48) with
    | false => rfl
    | true => exact absurd (fun c hc => beq_iff_eq.1 (List.all_eq_true.1 hd c hc)) h
def numL (l : List UInt8) : Int := sgn (negB (topL l)) (valD (absL (topL l)))
def denL (l : List UInt8) : Nat := if divB l then valD (botL l) else 0
def errL (l : List UInt8) : Int :=
  if !digB (absL (topL l)) || (divB l && !digB (botL l)) then 14
  else if divB l && zerB (botL l) then 19
  else if badI (absL (topL l)) (negB (topL l)) then 3
  else if !divB l then 0
  else if badI (botL l) false then 3
  else if valD (botL l) == 1 || Nat.gcd (valD (absL (topL l))) (valD (botL l)) != 1 then 3
  else 0
end Go.Proofs.YtlcmhbkmpkcajaaGreatDoor
namespace Go.Proofs.YtlcmhbkmpkcajaaGreatDoor
open Go.RowKit
theorem digitsB {d : List UInt8} (h : d ≠ []) : (⟨d.toArray⟩ : ByteArray).toList.isEmpty = false := by
  rw [ByteArray.toList_eq]
  cases d with
  | nil => exact absurd rfl h
  | cons a l => rfl
set_option maxHeartbeats 1000000 in
theorem scut_none (s : ByteArray) (c : UInt8) (w : World) (h : Lib.indexByte s.data.toList c = -1) : Calls Tryz.prog 102 #[.string s, .string ⟨#[c]⟩] w (Ret (.tuple #[.string s, .string ⟨#[]⟩, .bool false]) w) := by
  have H := hI (Tryz.stringslite_Index_one s c w)
  rw [h] at H
  clear h
  go_enter Tryz.func102, Tryz.ntmps102
  go_wp2_with (go_at_call 137; refine (H.out).mono ?_; rintro e w1 ⟨rfl, rfl⟩)
  go_ret3
  exact ⟨rfl, Below.refl _ _⟩
set_option maxHeartbeats 1000000 in
theorem cut_none (s : ByteArray) (c : UInt8) (w : World) (h : Lib.indexByte s.data.toList c = -1) : Calls Tryz.prog 68 #[.string s, .string ⟨#[c]⟩] w (Ret (.tuple #[.string s, .string ⟨#[]⟩, .bool false]) w) := by
  have H := hI (scut_none s c w h)
  clear h
  go_enter Tryz.func68, Tryz.ntmps68
  go_wp2_with (go_at_call 102; refine (H.out).mono ?_; rintro e w1 ⟨rfl, hb⟩)
  go_ret3
  exact ⟨rfl, hb⟩
end Go.Proofs.YtlcmhbkmpkcajaaGreatDoor
namespace Go.Proofs.YtlcmhbkmpkcajaaGreatDoor
open Go.RowKit
set_option maxHeartbeats 2000000 in
theorem digits_g (d : List UInt8) (w : World) (hlen : d.length ≤ 6000) : Calls Tryz.prog 69 #[.string ⟨d.toArray⟩] w (Ret (.bool (digB d)) w) := by
  by_cases hne : d = []
  · subst hne
    rw [show digB [] = false from rfl]
    have he : (⟨([] : List UInt8).toArray⟩ : ByteArray).toList.isEmpty = true := by rw [ByteArray.toList_eq]; rfl
    generalize (⟨([] : List UInt8).toArray⟩ : ByteArray) = D at *
    go_enter Tryz.func69, Tryz.ntmps69
    go_wp2_with fail
    go_ret
    exact ⟨rfl, Below.refl _ _⟩
  · have H := hI (Any.strings_Trim_laid Tryz.lays160 (by kernel_rfl) ⟨d.toArray⟩ ⟨#[48, 49, 50, 51, 52, 53, 54, 55, 56, 57]⟩ w (by rw [Lib.size_eq]; show d.length ≤ _; omega) (by decide) (ascii_of_all (by decide)))
    rw [show (⟨#[48, 49, 50, 51, 52, 53, 54, 55, 56, 57]⟩ : ByteArray).data.toList = cut10 from rfl, show (⟨d.toArray⟩ : ByteArray).data.toList = d from rfl] at H
    change Hid (Calls Tryz.prog 71 _ _ _) at H
    have he := digitsB hne
    have hb := trim_digB hne
    generalize Lib.trimS d cut10 = t at *
    generalize (⟨d.toArray⟩ : ByteArray) = D at *
    rw [← hb]
    clear hb hlen
    cases t with
    | nil =>
      rw [decide_eq_true rfl]
      go_enter Tryz.func69, Tryz.ntmps69
      go_wp2_with (go_at_call 71; refine (H.out).mono ?_; rintro e w1 ⟨rfl, hb⟩)
      go_ret
      exact ⟨rfl, hb⟩
    | cons c r =>
      have ht := digitsB (d := c :: r) (by simp)
      rw [decide_eq_false (by simp)]
      generalize (⟨(c :: r).toArray⟩ : ByteArray) = E at *
      go_enter Tryz.func69, Tryz.ntmps69
      go_wp2_with (go_at_call 71; refine (H.out).mono ?_; rintro e w1 ⟨rfl, hb⟩)
      go_ret
      exact ⟨rfl, hb⟩
theorem trim0_g (d : List UInt8) (w : World) (hlen : d.length ≤ 6000) : Calls Tryz.prog 71 #[.string ⟨d.toArray⟩, .string ⟨#[48]⟩] w (Ret (.string ⟨(Lib.trimS d [48]).toArray⟩) w) :=
  Any.strings_Trim_laid Tryz.lays160 (by kernel_rfl) ⟨d.toArray⟩ ⟨#[48]⟩ w (by rw [Lib.size_eq]; show d.length ≤ _; omega) (by decide) (ascii_of_all (by decide))
set_option maxHeartbeats 2000000 in
theorem scut_some (s : ByteArray) (i : Nat) (w : World) (h : Lib.indexByte s.data.toList 47 = (i : Int)) (hi : i < s.size) (hs : s.size < 1000000) : Calls Tryz.prog 102 #[.string s, .string ⟨#[47]⟩] w (Ret (.tuple #[.string (s.extract 0 i), .string (s.extract (i + 1) s.size), .bool true]) w) := by
  have H := hI (Tryz.stringslite_Index_one s 47 w)
  rw [h] at H
  obtain ⟨n, hn⟩ : ∃ n, s.size = n := ⟨_, rfl⟩
  rw [hn] at hi hs ⊢
  have h1 : IntKind.i64.wrap ((i : Int) + 1) = (i : Int) + 1 := IntWalk.i64_in _ (by omega)
  have h2 : (i : Int) ≤ (n : Int) := by omega
  have h3 : (i : Int) + 1 ≤ (n : Int) := by omega
  have h4 : (0 : Int) ≤ (i : Int) := Int.natCast_nonneg _
  have h5 : (0 : Int) ≤ (i : Int) + 1 := by omega
  have h6 : i ≤ n := by omega
  have h7 : i + 1 ≤ n := by omega
  have h8 : ((i : Int) + 1).toNat = i + 1 := by omega
  clear h
  go_enter Tryz.func102, Tryz.ntmps102
  go_wp2_with (go_at_call 137; refine (H.out).mono ?_; rintro e w1 ⟨rfl, rfl⟩)
  refine wp_region_held_drew (S := (fun _ => True)) (by kernel_rfl) (by exact trivial) (fun hHeld => ?_)
  refine wpAnyH_take (i := 0) (v := ?v1) rfl (by kernel_rfl) (by kernel_rfl) (by kernel_rfl) (fun _ _ _ h => h) (Or.inl ⟨by rfl, ?hy1⟩) (by assumption) ?rest1
  case hy1 => (intro w hSw; (try dsimp only at hSw); go_simp; try (with_reducible rfl))
  try simp only [Act.put, List.getElem_toArray, List.getElem_cons_zero, List.setIfInBounds_toArray, List.set_cons_zero, List.set_cons_succ]
  refine' tk 1 ?_; (try simp only [tkS]); refine' tk 2 ?_; (try simp only [tkS]); refine' tk 3 ?_; (try simp only [tkS]); refine' tk 4 ?_; (try simp only [tkS]); refine' tk 5 ?_; (try simp only [tkS]); refine' tk 6 ?_; (try simp only [tkS]); refine' tk 7 ?_; (try simp only [tkS]); refine' tk 8 ?_; (try simp only [tkS]); refine' tk 9 ?_; (try simp only [tkS]); refine' tk 10 ?_; (try simp only [tkS]); refine' tk 11 ?_; (try simp only [tkS])
  refine tkD ?_ _
  go_wp2_with fail
  go_ret3
  exact ⟨rfl, (Below.refl _ _).dn 1⟩
set_option maxHeartbeats 1000000 in
theorem cut_some (s : ByteArray) (i : Nat) (w : World) (h : Lib.indexByte s.data.toList 47 = (i : Int)) (hi : i < s.size) (hs : s.size < 1000000) : Calls Tryz.prog 68 #[.string s, .string ⟨#[47]⟩] w (Ret (.tuple #[.string (s.extract 0 i), .string (s.extract (i + 1) s.size), .bool true]) w) := by
  have H := hI (scut_some s i w h hi hs)
  clear h
  generalize s.extract 0 i = A at *
  generalize s.extract (i + 1) s.size = B at *
  go_enter Tryz.func68, Tryz.ntmps68
  go_wp2_with (go_at_call 102; refine (H.out).mono ?_; rintro e w1 ⟨rfl, hb⟩)
  go_ret3
  exact ⟨rfl, hb⟩
theorem bytes_of {s : ByteArray} {l : List UInt8} (h : s.data.toList = l) : s = ⟨l.toArray⟩ := by
  subst h
  cases s
  simp
theorem cut_g (s : ByteArray) (w : World) (hs : s.size < 1000000) : Calls Tryz.prog 68 #[.string s, .string ⟨#[47]⟩] w (Ret (.tuple #[.string ⟨(topL s.data.toList).toArray⟩, .string ⟨(botL s.data.toList).toArray⟩, .bool (divB s.data.toList)]) w) := by
  rcases idx47 s.data.toList with ⟨h1, h2, h3, h4⟩ | ⟨i, h1, h2, h3, h4, h5⟩
  · rw [h2, h3, h4, ← bytes_of (s := s) rfl]
    exact cut_none s 47 w h1
  · have hi : i < s.size := by rw [Lib.size_eq]; exact h2
    have e1 : s.extract 0 i = ⟨(s.data.toList.take i).toArray⟩ := bytes_of (by rw [extract_list rfl, List.drop_zero])
    have e2 : s.extract (i + 1) s.size = ⟨(s.data.toList.drop (i + 1)).toArray⟩ := bytes_of (by rw [extract_list rfl, List.take_of_length_le (by rw [← Lib.size_eq]; exact Nat.le_refl _)])
    rw [h3, h4, h5, ← e1, ← e2]
    exact cut_some s i w h1 hi hs
end Go.Proofs.YtlcmhbkmpkcajaaGreatDoor
