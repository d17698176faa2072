/-
  Parts of the proof: Qrd, Qcv, Qsm.
-/
import Derived.Great.Walk
import Derived.Test.YtlcmhbkmpkcajaaGreatDoorN26
namespace Go.Proofs.YtlcmhbkmpkcajaaGreatDoor
open Go.RowKit
theorem piv_le (m : List Vec) : ∀ k, (RS0 m k).2.length ≤ m.length
  | 0 => Nat.zero_le _
  | k + 1 => by
    have h1 := piv_le m k
    rw [red_succ]
    split
    · next h =>
      have h2 := step_piv (RS0 m k) k
      rw [red_len] at h
      omega
    · exact h1
theorem RS0_fit {d : Nat} {m : List Vec} (hl : ∀ a ∈ m, a.length = d) (hf : FitM d m) : ∀ k, k ≤ (m.headD []).length → ∀ l ∈ (RS0 m k).1, FitV (m.headD []).length l := by
  intro k hk
  cases m with
  | nil =>
    intro l hm
    have := red_len ([] : List Vec) k
    rw [List.length_eq_zero_iff.1 this] at hm
    cases hm
  | cons a m =>
    have hc : a.length = d := hl a (List.mem_cons_self ..)
    have h1 := FitF.take hf (k := k) (by rw [List.length_range]; exact hk)
    rw [List.take_range, Nat.min_eq_left hk] at h1
    show ∀ l ∈ (RS0 (a :: m) k).1, FitV a.length l
    rw [hc]
    exact h1
set_option maxHeartbeats 4000000 in
set_option maxRecDepth 10000 in
theorem reduce_g (v : Value) (m : List (List Rat)) (d : Nat) (w : World) (h : Vs w v m) (hn : m.length ≤ 90) (hd : d ≤ 8) (hl : ∀ a ∈ m, a.length = d) (hf : FitM d m) :
    Calls Tryz.prog 48 #[v] w (RetP (fun x w' => ∃ o p, x = .tuple #[o, p, .int .i64 0] ∧ OV w.heap.size w' o (reduceM m).1 ∧ OP w.heap.size w' p (reduceM m).2) w) := by
  have hcd : (m.headD []).length ≤ 8 := by
    cases m with
    | nil => exact Nat.zero_le _
    | cons a m => show a.length ≤ 8; rw [hl a (List.mem_cons_self ..)]; exact hd
  have HSz := hI (size_g v m d w h hl (by omega) (by omega))
  have HCo := hI (fun w' (hb : Below w.heap.size w w') => columns_g v m w' (h.mono hb))
  have HRe := hI (fun w' (hb : Below w.heap.size w w') => redm_g v m (m.headD []).length w' (h.mono hb) (by omega) hcd (RS0_fit hl hf))
  have HFit := hI (fun x hx => RS0_fit hl hf (m.headD []).length (Nat.le_refl _) x hx)
  have HR1 := hI (show (reduceM m).1 = (RS0 m (m.headD []).length).1.take (RS0 m (m.headD []).length).2.length from rfl)
  have HR2 := hI (show (reduceM m).2 = (RS0 m (m.headD []).length).2 from rfl)
  have hpl := piv_le m (m.headD []).length
  have HLn := hI (red_len m (m.headD []).length)
  obtain ⟨ad, cap, rfl, hc1, hc2⟩ := h.open
  obtain ⟨N, hN⟩ : ∃ N, m.length = N := ⟨_, rfl⟩
  obtain ⟨c, hc⟩ : ∃ c, (m.headD []).length = c := ⟨_, rfl⟩
  rw [hN] at hc1 hpl HLn hn HSz HCo HRe ⊢
  rw [hc] at HCo HRe HFit HR1 HR2 hpl HLn hcd
  obtain ⟨rM, hrM⟩ : ∃ rM, (RS0 m c).1 = rM := ⟨_, rfl⟩
  obtain ⟨rP, hrP⟩ : ∃ rP, (RS0 m c).2 = rP := ⟨_, rfl⟩
  obtain ⟨r, hr⟩ : ∃ r, rP.length = r := ⟨_, rfl⟩
  rw [hrM] at HRe HFit HR1 HLn
  rw [hrP] at HRe HR1 HR2 hpl
  rw [hr] at HR1 hpl
  have Hr := hI hr
  unfold maxLen at hc2
  clear h hl hf hN hr hrM hrP hc
  go_enter Tryz.func48, Tryz.ntmps48
  go_upto_region 4 with (go_at_call 81; refine (HSz.out).mono ?_; rintro e5 w1 ⟨rfl, hb1⟩; have Hb1 := hI hb1; clear hb1)
  go_upto_region 5 with (first
    | (go_at_call 83; refine (HCo.out _ Hb1.out).mono ?_; rintro e5 w2 ⟨rfl, hb2⟩; have Hb2 := hI (bw_via Hb1.out hb2); clear hb2)
    | (go_at_call 82; refine (HRe.out _ Hb2.out).mono ?_; rintro e5 w3 ⟨v3, rfl, ⟨ov, pvv, xz, az, nz, cz, yz, ez, lz, dz, rfl, hov, hop⟩, hb3⟩; obtain ⟨oa, oc, rfl, hoc, hom⟩ := hov.open; rw [HLn.out] at hov hoc; obtain ⟨pa, pc, rfl, hpc, hpm⟩ := hop.open; rw [Hr.out] at hop hpc; unfold maxLen at hom hpm; have Hb3 := hI (bw_via Hb2.out hb3); have Hov := hI hov; have Hop := hI hop; have Hs2 := hI (show w.heap.size ≤ w2.heap.size from Hb2.out.size); clear hov hop hb3))
  rw [HLn.out, Hr.out]
  have hA := below1 w3 (.cells #[.bool xz, .slice az nz cz, .bool yz, .slice ez lz dz] 61)
  have Hov4 := hI (Hov.out.below hA)
  have Hop4 := hI (Hop.out.below hA)
  have Hb4 := hI (bw_via Hb3.out hA)
  clear hA Hov Hop Hb3 Hb1 Hb2
  generalize w3.alloc (.cells #[.bool xz, .slice az nz cz, .bool yz, .slice ez lz dz] 61) = w4 at *
  have hr0 : (0 : Int) ≤ (r : Int) := Int.natCast_nonneg _
  have hrN : (r : Int) ≤ (N : Int) := by omega
  have hrc : (r : Int) ≤ (oc : Int) := by omega
  go_wp2_with fail
  go_loopw [29, 8] (fun i o wr => ∃ q : Nat, q ≤ r ∧ i = .int .i64 (q : Int) ∧ Hid (Below w4.heap.size w4 wr ∧ OV w4.heap.size wr o (rM.take q))) (fun i _ _ => r - (intOf i).toNat)
  case atStart => exact ⟨0, by omega, rfl, Below.refl _ _, OV.nil _ _⟩
  case round =>
    obtain ⟨q, hq, rfl, hP⟩ := hrel
    obtain ⟨hbx, hO⟩ := hP.out
    have Hbx := hI hbx
    have HO := hI hO
    obtain ⟨ta, tc, rfl, ho1, ho2⟩ := hO.open
    have hlen : (rM.take q).length = q := by rw [List.length_take]; have := HLn.out; omega
    rw [hlen] at HO ho1 ⊢
    unfold maxLen at ho2
    have Hlen := hI hlen
    clear hlen hO hP
    have hk0 : (0 : Int) ≤ (q : Int) := Int.natCast_nonneg _
    rcases Nat.lt_or_ge q r with hlt | hge
    · obtain ⟨b1, o1, p, x, rfl, hx, c0, hp⟩ := Hov4.out.vs.at hbx (k := q) (by omega)
      obtain ⟨pa1, pc1, rfl, -, -⟩ := hp.open
      have hxl := (HFit.out x (List.mem_of_getElem? hx)).1
      have hkn : (q : Int) < (r : Int) := by omega
      have hkw : IntKind.i64.wrap ((q : Int) + 1) = (q : Int) + 1 := IntWalk.i64_in _ (by omega)
      have HCl := hI (cloneq_g _ x wr hp (by omega))
      have Htk := hI (show rM.take (q + 1) = rM.take q ++ [x] from by rw [List.take_add_one, hx]; rfl)
      clear hx hp hbx hxl
      go_wp2_with (first
        | (go_at_call 84; refine (HCl.out).mono ?_; rintro e5 w5 ⟨v5, rfl, hv5, hb5⟩; obtain ⟨qa, qc, rfl, -, -⟩ := hv5.open; have Hb5 := hI (bw_via hb5 (below1 w5 (.cells #[.slice qa x.length qc] 46))); have HQ5 := hI (hv5.mono (below1 w5 (.cells #[.slice qa x.length qc] 46))); have HBn := hI (Blk.new w5 #[.slice qa x.length qc] 46); clear hv5 hb5)
        | (at_builtin; obtain ⟨ps, hpl, hpo, hpq⟩ := HO.out.below Hb5.out; have hpo2 := hpo; rw [Hlen.out] at hpo2; refine wpAppL EM1 (by decide) [.slice qa x.length qc] rfl _ _ rfl w4.heap.size q _ ps _ rfl rfl hpo2 HBn.out rfl (one1 _ rfl) (by omega) (by decide) (Hbx.out.via Hb5.out Hbx.out.size).size ?_; intro g4 cap4 w6 hown' hg' _ _; have HV4 := hI (OV.snoc2 hpl hpq hpo HQ5.out hg' (by rw [Hlen.out]; exact hown')); have Hb6 := hI (Below.grown (Hbx.out.via Hb5.out Hbx.out.size) hg' (Hbx.out.via Hb5.out Hbx.out.size).size (fun q hq => (hpo.lt q hq).1)); clear hpl hpo hpq hpo2 hown' hg'))
      go_roundw
      case rel => exact ⟨q + 1, by omega, by go_num, Hb6.out, by rw [Htk.out]; exact HV4.out⟩
      case measure => simp [intOf] <;> omega
    · obtain rfl : q = r := by omega
      have hkn : ¬ (q : Int) < (q : Int) := by omega
      clear hbx
      go_wp2_with fail
      have hfin : OV w.heap.size wr (.slice ta q tc) (reduceM m).1 ∧ OP w.heap.size wr (.slice pa q pc) (reduceM m).2 := by
        rw [HR1.out, HR2.out]
        obtain ⟨ps, hl, ho, hq⟩ := HO.out
        refine ⟨⟨ps, hl, own_base ho Hb4.out.size, hq⟩, ?_⟩
        have h1 := Hop4.out.below Hbx.out
        unfold OP at h1 ⊢
        exact own_base h1 Hs2.out
      exact bodyPost_ret (v := .tuple #[.slice ta q tc, .slice pa q pc, .int .i64 0]) (by simp [results, Tryz.results48, go_sem]) rfl ⟨_, rfl, ⟨_, _, rfl, hfin.1, hfin.2⟩, bw_via Hb4.out Hbx.out⟩
end Go.Proofs.YtlcmhbkmpkcajaaGreatDoor
namespace Go.Proofs.YtlcmhbkmpkcajaaGreatDoor
open Go.RowKit
def cmpR (x y : Rat) : Int := if x < y then -1 else if y < x then 1 else 0
theorem few_szc {K : Nat} {r : Rat} {q : Int} (h : Sz K r) (hK : K ≤ 1000) (hq : dn q = (r.den : Int)) : FewR r.num q := by
  refine ⟨limbs_ten h.1 (by omega), ?_⟩
  rw [hq, Int.natAbs_natCast]
  exact limbs_ten h.2 (by omega)
theorem rcmpq_g (u v : Value) (r s : Rat) (w : World) (h : RQ w u r) (h' : RQ w v s) (hz : Sz 100 r) (hz' : Sz 100 s) : Calls Tryz.prog 91 #[u, v] w (Ret (.int .i64 (cmpR r s)) w) := by
  obtain ⟨q, h, hq⟩ := h
  obtain ⟨q', h', hq'⟩ := h'
  have e : cmpR r s = cmpQ r.num q s.num q' := by
    unfold cmpR cmpQ cmpZ
    rw [hq, hq']
    by_cases c1 : r < s
    · rw [if_pos c1, if_pos ((Rat.lt_iff _ _).1 c1)]
    · rw [if_neg c1, if_neg (fun h => c1 ((Rat.lt_iff _ _).2 h))]
      by_cases c2 : s < r
      · rw [if_pos c2, if_pos ((Rat.lt_iff _ _).1 c2)]
      · rw [if_neg c2, if_neg (fun h => c2 ((Rat.lt_iff _ _).2 h))]
  rw [e]
  exact rcmp_g u v _ _ _ _ w h h' (few_szc hz (by omega) hq) (few_szc hz' (by omega) hq')
theorem cmpV_step {a b : Vec} {k : Nat} {x y : Rat} (hx : a[k]? = some x) (hy : b[k]? = some y) : cmpV (a.drop k) (b.drop k) = if cmpR x y = 0 then cmpV (a.drop (k + 1)) (b.drop (k + 1)) else cmpR x y := by
  obtain ⟨h1, h2⟩ := List.getElem?_eq_some_iff.1 hx
  obtain ⟨h3, h4⟩ := List.getElem?_eq_some_iff.1 hy
  rw [List.drop_eq_getElem_cons h1, List.drop_eq_getElem_cons h3, h2, h4]
  unfold cmpR
  rw [cmpV]
  by_cases c1 : x < y
  · rw [if_pos c1, if_pos c1]; rfl
  · by_cases c2 : y < x
    · rw [if_neg c1, if_pos c2, if_neg c1, if_pos c2]; rfl
    · rw [if_neg c1, if_neg c2, if_neg c1, if_neg c2]; rfl
set_option maxHeartbeats 4000000 in
set_option maxRecDepth 10000 in
theorem cmpf_g (u v : Value) (a b : List Rat) (n : Nat) (w : World) (h : QV w u a) (h' : QV w v b) (fa : FitV n a) (fb : FitV n b) (hn : n ≤ 1000) :
    Calls Tryz.prog 90 #[u, v, .func (.func 91) #[] #[]] w (Ret (.int .i64 (cmpV a b)) w) := by
  have HC := hI (fun (k : Nat) (x y : Rat) (hx : a[k]? = some x) (hy : b[k]? = some y) w' p q (hp : RQ w' p x) (hq : RQ w' q y) => rcmpq_g p q x y w' hp hq (fa.2 x (List.mem_of_getElem? hx)) (fb.2 y (List.mem_of_getElem? hy)))
  obtain ⟨ad, cap, rfl, hc1, hc2⟩ := h.open
  obtain ⟨ad', cap', rfl, hc1', hc2'⟩ := h'.open
  rw [fa.1] at h hc1 ⊢
  rw [fb.1] at h' hc1' ⊢
  unfold maxLen at hc2 hc2'
  have HX := hI h
  have HY := hI h'
  have Ha := hI fa.1
  have Hb := hI fb.1
  clear h h' fa fb
  obtain ⟨res, hres⟩ : ∃ c, cmpV a b = c := ⟨_, rfl⟩
  rw [hres]
  go_enter Tryz.func90, Tryz.ntmps90
  go_wp2_with fail
  go_loopw [13] (fun i wr => ∃ k : Nat, k ≤ n ∧ i = .int .i64 (k : Int) ∧ Hid (Below w.heap.size w wr ∧ cmpV (a.drop k) (b.drop k) = res)) (fun i _ => n - (intOf i).toNat)
  case atStart => exact ⟨0, by omega, rfl, Below.refl _ _, hres⟩
  case round =>
    have Hres := hI hres
    clear hres
    obtain ⟨k, hk, rfl, hP⟩ := hrel
    obtain ⟨hbx, he⟩ := hP.out
    have Hbx := hI hbx
    have He := hI he
    clear hP he
    have hk0 : (0 : Int) ≤ (k : Int) := Int.natCast_nonneg _
    rcases Nat.lt_or_ge k n with hlt | hge
    · obtain ⟨b1, o1, x1, a1, n1, c1, y1, e1, l1, d1, x, rfl, hx, hX, z0, z1, z2, z3⟩ := HX.out.at hbx hlt
      obtain ⟨b2, o2, x2, a2, n2, c2, y2, e2, l2, d2, y, rfl, hy, hY, s0, s1, s2, s3⟩ := HY.out.at hbx hlt
      have hkn : (k : Int) < (n : Int) := by omega
      have hkw : IntKind.i64.wrap ((k : Int) + 1) = (k : Int) + 1 := IntWalk.i64_in _ (by omega)
      have hA := below1 wr (.cells #[.bool x1, .slice a1 n1 c1, .bool y1, .slice e1 l1 d1] 61)
      have HB1 := hI (Blk.new wr #[.bool x1, .slice a1 n1 c1, .bool y1, .slice e1 l1 d1] 61)
      have HX1 := hI (hX.mono hA)
      have HY1 := hI (hY.mono hA)
      have HHx := hI hx
      have HHy := hI hy
      have Hst := hI ((cmpV_step hx hy).symm.trans He.out)
      have Hb2 := hI (bw_via hbx hA)
      go_upto_region 4 with (fail)
      have s0 := cell_keep hA s0
      have s1 := cell_keep hA s1
      have s2 := cell_keep hA s2
      have s3 := cell_keep hA s3
      generalize wr.alloc (.cells #[.bool x1, .slice a1 n1 c1, .bool y1, .slice e1 l1 d1] 61) = w4 at *
      generalize wr.heap.size = R1 at *
      clear hA z0 z1 z2 z3 hX hY hx hy
      have hA := below1 w4 (.cells #[.bool x2, .slice a2 n2 c2, .bool y2, .slice e2 l2 d2] 61)
      have HB2 := hI (Blk.new w4 #[.bool x2, .slice a2 n2 c2, .bool y2, .slice e2 l2 d2] 61)
      have HB3 := hI (HB1.out.below hA)
      have HX2 := hI (HX1.out.mono hA)
      have HY2 := hI (HY1.out.mono hA)
      have Hb3 := hI (bw_via Hb2.out hA)
      go_upto_region 7 with (fail)
      generalize w4.alloc (.cells #[.bool x2, .slice a2 n2 c2, .bool y2, .slice e2 l2 d2] 61) = w5 at *
      generalize w4.heap.size = R2 at *
      clear hA s0 s1 s2 s3
      obtain ⟨⟨p0, p1, p2, p3⟩, -⟩ := blk4v HB3.out
      obtain ⟨⟨q0, q1, q2, q3⟩, -⟩ := blk4v HB2.out
      have HCx := hI (HC.out k x y HHx.out HHy.out _ _ _ HX2.out HY2.out)
      generalize cmpR x y = c at *
      clear hbx
      by_cases hc : c = 0
      · subst hc
        have Hst2 := hI (show cmpV (a.drop (k + 1)) (b.drop (k + 1)) = res from by have := Hst.out; rwa [if_pos rfl] at this)
        go_wp2_with (go_at_call 91; refine (HCx.out).mono ?_; rintro e5 w6 ⟨rfl, hb6⟩; have Hb5 := hI (bw_via Hb3.out hb6); clear hb6)
        go_roundw
        case rel => exact ⟨k + 1, by omega, by go_num, Hb5.out, Hst2.out⟩
        case measure => simp [intOf] <;> omega
      · have Hst2 := hI (show c = res from by have := Hst.out; rwa [if_neg hc] at this)
        have hcb : (c != 0) = true := by simpa using hc
        go_wp2_with (go_at_call 91; refine (HCx.out).mono ?_; rintro e5 w6 ⟨rfl, hb6⟩; have Hb5 := hI (bw_via Hb3.out hb6); clear hb6)
        go_ret
        rw [Hst2.out]
        exact Ret.mk Hb5.out
    · obtain rfl : k = n := by omega
      have hkn : ¬ (k : Int) < (k : Int) := by omega
      have Hz := hI (show res = 0 from by
        have := He.out
        rw [List.drop_eq_nil_of_le (by have := Ha.out; omega), List.drop_eq_nil_of_le (by have := Hb.out; omega)] at this
        rw [← this]
        rfl)
      clear hbx
      go_wp2_with fail
      go_ret
      rw [Hz.out]
      exact Ret.mk Hbx.out
set_option maxHeartbeats 1000000 in
theorem cmpv_g (u v : Value) (a b : List Rat) (n : Nat) (w : World) (h : QV w u a) (h' : QV w v b) (fa : FitV n a) (fb : FitV n b) (hn : n ≤ 1000) :
    Calls Tryz.prog 51 #[u, v] w (Ret (.int .i64 (cmpV a b)) w) := by
  have HC := hI (cmpf_g u v a b n w h h' fa fb hn)
  obtain ⟨ad, cap, rfl, -, -⟩ := h.open
  obtain ⟨ad', cap', rfl, -, -⟩ := h'.open
  clear h h' fa fb
  go_enter Tryz.func51, Tryz.ntmps51
  go_wp2_with (go_at_call 90; refine (HC.out).mono ?_; rintro e5 w5 ⟨rfl, hb5⟩; have Hb5 := hI hb5; clear hb5)
  go_ret
  exact Ret.mk Hb5.out
end Go.Proofs.YtlcmhbkmpkcajaaGreatDoor
namespace Go.Proofs.YtlcmhbkmpkcajaaGreatDoor
open Go.RowKit
def setL : List Value → Nat → List Value → List Value
  | xs, _, [] => xs
  | xs, i, v :: r => setL (xs.set i v) (i + 1) r
theorem setL_mid : ∀ (r b a c : List Value), b.length = r.length → setL (a ++ b ++ c) a.length r = a ++ r ++ c
  | [], b, a, c, h => by
    obtain rfl : b = [] := List.length_eq_zero_iff.1 h
    rfl
  | v :: r, [], a, c, h => by simp at h
  | v :: r, x :: b, a, c, h => by
    have := setL_mid r b (a ++ [v]) c (by simpa using h)
    rw [List.length_append, List.length_singleton] at this
    unfold setL
    rw [show (a ++ x :: b ++ c).set a.length v = a ++ [v] ++ b ++ c by simp]
    rw [this]
    simp
theorem setL_flat {sz q : Nat} {rows : List (List Value)} {row : List Value} (h : ∀ r ∈ rows, r.length = sz) (hq : q < rows.length) (hr : row.length = sz) : setL rows.flatten (q * sz) row = (rows.set q row).flatten := by
  have e : rows = rows.take q ++ rows[q] :: rows.drop (q + 1) := by rw [List.getElem_cons_drop, List.take_append_drop]
  have h1 : rows.flatten = (rows.take q).flatten ++ rows[q] ++ (rows.drop (q + 1)).flatten :=
    (congrArg List.flatten e).trans (by rw [List.flatten_append, List.flatten_cons, List.append_assoc])
  have hl : (rows.take q).flatten.length = q * sz := by
    rw [flat_len (sz := sz) (fun r hr => h r (List.mem_of_mem_take hr)), List.length_take]
    congr 1
    omega
  rw [h1, ← hl, setL_mid row rows[q] _ _ (by rw [hr]; exact h _ (List.getElem_mem hq)), List.set_eq_take_append_cons_drop, if_pos hq]
  simp
theorem own_setCells {M e sz n g cap : Nat} : ∀ (vs : List Value) (i : Nat) (xs : List Value) (w : World), w.ownsRow M e sz (.slice (some ⟨g, 0, none⟩) n cap) n xs →
    (w.setCells g i vs).ownsRow M e sz (.slice (some ⟨g, 0, none⟩) n cap) n (setL xs i vs) ∧ Keep (fun T => T ≠ e) w (w.setCells g i vs) ∧ ∀ B, B ≤ g → Below B w (w.setCells g i vs)
  | [], i, xs, w, h => ⟨h, Keep.refl _ _, fun B _ => Below.refl _ _⟩
  | v :: r, i, xs, w, h => by
    obtain ⟨s1, s2⟩ := h.stored i v
    obtain ⟨t1, t2, t3⟩ := own_setCells r (i + 1) _ _ s1
    exact ⟨t1, (Keep.grown h (fun k => k rfl) s2).trans t2, fun B hB => ((Below.refl _ _).setCell (p := ⟨g, i, none⟩) hB v).trans (t3 B hB)⟩
theorem zip_rayC_len {ps : List Value} {rs : List (List Rat × Nat)} : ∀ r ∈ List.zipWith (fun p (r : List Rat × Nat) => rayC p r.2) ps rs, r.length = 17 := by
  intro r hr
  obtain ⟨i, hi⟩ := List.getElem?_of_mem hr
  rw [List.getElem?_zipWith] at hi
  cases hp : ps[i]? with
  | none => simp [hp] at hi
  | some p =>
    cases hx : rs[i]? with
    | none => simp [hp, hx] at hi
    | some x =>
      simp [hp, hx] at hi
      subst hi
      rfl
theorem zip_set {α β γ : Type} (f : α → β → γ) (a : α) (b : β) : ∀ (l : List α) (m : List β) (q : Nat), (List.zipWith f l m).set q (f a b) = List.zipWith f (l.set q a) (m.set q b)
  | [], m, q => by simp
  | l, [], q => by simp
  | x :: l, y :: m, 0 => rfl
  | x :: l, y :: m, q + 1 => by
    rw [List.set_cons_succ, List.set_cons_succ, List.zipWith_cons_cons, List.zipWith_cons_cons, List.set_cons_succ, zip_set]
theorem OR.set {M g n cap q : Nat} {w : World} {rs : List (List Rat × Nat)} {p : Value} {r : List Rat × Nat} (h : OR M w (.slice (some ⟨g, 0, none⟩) n cap) rs) (hq : q < n) (hp : QV w p r.1) :
    OR M (w.setCells g (q * 17) (rayC p r.2)) (.slice (some ⟨g, 0, none⟩) n cap) (rs.set q r) ∧ Keep (fun T => T ≠ 89) w (w.setCells g (q * 17) (rayC p r.2)) ∧ ∀ B, B ≤ M → Below B w (w.setCells g (q * 17) (rayC p r.2)) := by
  obtain ⟨ps, hl, ho, hqv⟩ := h
  obtain ⟨a, c, hv, -, -⟩ := own_open ho
  have hm : rs.length = n := by cases hv; rfl
  have hMg : M ≤ g := (ho.lt g rfl).1
  rw [hm] at ho
  obtain ⟨t1, t2, t3⟩ := own_setCells (rayC p r.2) (q * 17) _ _ ho
  refine ⟨⟨ps.set q p, by simp [hl], ?_, fun k p' r' hk hr => ?_⟩, t2, fun B hB => t3 B (Nat.le_trans hB hMg)⟩
  · rw [List.length_set, hm, ← zip_set (fun p (r : List Rat × Nat) => rayC p r.2)]
    rw [setL_flat zip_rayC_len (by rw [List.length_zipWith, hl, Nat.min_self, hm]; exact hq) rfl] at t1
    exact t1
  · rw [List.getElem?_set] at hk hr
    split at hk
    · next e =>
      subst e
      split at hk
      · cases hk
        rw [if_pos rfl] at hr
        split at hr
        · cases hr
          exact hp.keep t2 (by decide) (by decide)
        · cases hr
      · cases hk
    · next e =>
      rw [if_neg e] at hr
      exact (hqv k p' r' hk hr).keep t2 (by decide) (by decide)
theorem OR.open {M : Nat} {w : World} {v : Value} {rs : List (List Rat × Nat)} (h : OR M w v rs) : ∃ a cap, v = .slice a rs.length cap ∧ rs.length ≤ cap ∧ cap ≤ maxLen ∧ (0 < rs.length → ∃ G, a = some ⟨G, 0, none⟩) := by
  obtain ⟨ps, hl, ho, hq⟩ := h
  obtain ⟨a, cap, rfl, h1, h2⟩ := own_open ho
  exact ⟨a, cap, rfl, h1, h2, fun hn => own_some ho hn⟩
theorem OR.base {M M' : Nat} {w : World} {v : Value} {rs : List (List Rat × Nat)} (h : OR M w v rs) (hM : M' ≤ M) : OR M' w v rs := by
  obtain ⟨ps, hl, ho, hq⟩ := h
  exact ⟨ps, hl, own_base ho hM, hq⟩
theorem OV.base {M M' : Nat} {w : World} {v : Value} {vs : List (List Rat)} (h : OV M w v vs) (hM : M' ≤ M) : OV M' w v vs := by
  obtain ⟨ps, hl, ho, hq⟩ := h
  exact ⟨ps, hl, own_base ho hM, hq⟩
theorem OR.there {M g n cap q : Nat} {w : World} {rs : List (List Rat × Nat)} (h : OR M w (.slice (some ⟨g, 0, none⟩) n cap) rs) (hq : q < n) : w.there g (q * 17) 17 := by
  obtain ⟨b, off, pa, pn, pc, r, ha, -, -, hr⟩ := h.ry.at (Below.refl _ _) hq
  cases ha
  obtain ⟨ps, hl, ho, hqv⟩ := h
  obtain ⟨a, c, hv, -, -⟩ := own_open ho
  have hm : rs.length = n := by cases hv; rfl
  rw [hm] at ho
  intro j hj
  refine ⟨?_, ho.frozenAt _⟩
  have h1 := hr.isSome j (by rw [rayC_len]; exact hj)
  rwa [Nat.zero_add] at h1
theorem OR.snoc {M : Nat} {w w' : World} {u v p : Value} {rs : List (List Rat × Nat)} {r : List Rat × Nat} {ps : List Value} (hl : ps.length = rs.length) (hq : ∀ (k : Nat) (p : Value) (r : List Rat × Nat), ps[k]? = some p → rs[k]? = some r → QV w p r.1)
    (ho : w.ownsRow M 89 17 u rs.length (List.zipWith (fun p (r : List Rat × Nat) => rayC p r.2) ps rs).flatten) (hp : QV w p r.1) (hg : w.grownBy w' u.ownBlock)
    (ho' : w'.ownsRow M 89 17 v (rs.length + 1) ((List.zipWith (fun p (r : List Rat × Nat) => rayC p r.2) ps rs).flatten ++ rayC p r.2)) : OR M w' v (rs ++ [r]) := by
  have hk : Keep (fun T => T ≠ 89) w w' := .grown ho (fun h => h rfl) hg
  refine ⟨ps ++ [p], by simp [hl], ?_, fun k q b hq1 hv => ?_⟩
  · rw [List.length_append, List.zipWith_append hl, List.flatten_append]
    simpa using ho'
  · rcases Nat.lt_trichotomy k ps.length with hlt | rfl | hgt
    · rw [List.getElem?_append_left hlt] at hq1
      rw [List.getElem?_append_left (by omega)] at hv
      exact (hq k q b hq1 hv).keep hk (by decide) (by decide)
    · rw [List.getElem?_append_right (Nat.le_refl _), Nat.sub_self] at hq1
      rw [List.getElem?_append_right (by omega), hl, Nat.sub_self] at hv
      cases hq1
      cases hv
      exact hp.keep hk (by decide) (by decide)
    · have := lt_of_get hq1
      simp at this
      omega
theorem ER : ElemTy 78 89 17 152 := ⟨Tryz.underlying78, by kernel_rfl⟩
theorem rayC_one (a : Option Addr) (n c t : Nat) : ∀ v ∈ rayC (.slice a n c) t, v.oneCell' = true := fun v hv => by
  rcases List.mem_cons.1 hv with rfl | h
  · rfl
  · exact tC_one _ v h
theorem OR.below {M : Nat} {w w' : World} {v : Value} {rs : List (List Rat × Nat)} (h : OR M w v rs) (hb : Below w.heap.size w w') : OR M w' v rs := h.keep (ok := fun _ => True) (.below hb) trivial trivial trivial
theorem erase_take {α : Type} {l : List α} {at' q : Nat} {x : α} (hx : l[q]? = some x) : (l.take (q + 1)).eraseIdx at' = if q = at' then (l.take q).eraseIdx at' else (l.take q).eraseIdx at' ++ [x] := by
  have hq : q < l.length := (List.getElem?_eq_some_iff.1 hx).1
  have e : l.take (q + 1) = l.take q ++ [x] := by rw [List.take_add_one, hx]; rfl
  have hl : (l.take q).length = q := by rw [List.length_take]; omega
  rw [e]
  split
  · next h =>
    subst h
    have e2 : (l.take q).eraseIdx q = l.take q := List.eraseIdx_of_length_le (by omega)
    rw [List.eraseIdx_append_of_length_le (by omega), hl, Nat.sub_self, e2]
    simp
  · next h =>
    rcases Nat.lt_or_ge at' q with h1 | h1
    · rw [List.eraseIdx_append_of_lt_length (by omega)]
    · have e2 : (l.take q).eraseIdx at' = l.take q := List.eraseIdx_of_length_le (by omega)
      have e3 : [x].eraseIdx (at' - q) = [x] := List.eraseIdx_of_length_le (by rw [List.length_singleton]; omega)
      rw [List.eraseIdx_append_of_length_le (by omega), hl, e2, e3]
structure SPl (M : Nat) (w wx wr : World) (B : Nat) (o vr : Value) (c : Int) (ls : List Vec) (rs : List (Vec × Nat)) : Prop where
  keep : Keep (fun T => T ≠ 89 ∧ T ≠ 80) wx wr
  below : Below M w wr
  blk : Blk wr B #[o, vr, .int .i64 c] 80
  ov : OV M wr o ls
  or : OR M wr vr rs
theorem SPl.mono {M : Nat} {w wx wr wr' : World} {B : Nat} {o vr : Value} {c : Int} {ls : List Vec} {rs : List (Vec × Nat)} (h : SPl M w wx wr B o vr c ls rs) (hM : M ≤ wr.heap.size) (hb : Below wr.heap.size wr wr') : SPl M w wx wr' B o vr c ls rs :=
  ⟨h.keep.trans (.below hb), h.below.trans (hb.mono hM), h.blk.below hb, h.ov.below hb, h.or.below hb⟩
theorem SPl.ray {M : Nat} {w wx wr wr' : World} {B : Nat} {o vr : Value} {c : Int} {ls : List Vec} {rs rs' : List (Vec × Nat)} (h : SPl M w wx wr B o vr c ls rs) (hk : Keep (fun T => T ≠ 89) wr wr') (hb : Below M wr wr') (hor : OR M wr' vr rs') : SPl M w wx wr' B o vr c ls rs' :=
  ⟨h.keep.trans (hk.weak fun T hT => hT.1), h.below.trans hb, hk.blk _ _ _ (by decide) h.blk, h.ov.keep hk (by decide) (by decide) (by decide), hor⟩
theorem pow_step (i : Nat) : (2 ^ i - 1) ||| 2 ^ i = 2 ^ (i + 1) - 1 := by
  have h1 : 2 ^ i - 1 < 2 ^ i := by have := Nat.two_pow_pos i; omega
  have h2 := Nat.two_pow_add_eq_or_of_lt h1 1
  rw [Nat.mul_one, Nat.or_comm] at h2
  rw [← h2, Nat.pow_succ]
  have := Nat.two_pow_pos i
  omega
def mixR {α : Type} (f : α → α) (l : List α) (q : Nat) : List α := (l.take q).map f ++ l.drop q
theorem mixR_zero {α : Type} (f : α → α) (l : List α) : mixR f l 0 = l := by simp [mixR]
theorem mixR_all {α : Type} (f : α → α) (l : List α) : mixR f l l.length = l.map f := by simp [mixR]
theorem mixR_at {α : Type} {f : α → α} {l : List α} {q : Nat} {x : α} (h : l[q]? = some x) : (mixR f l q)[q]? = some x := by
  have hq : q < l.length := (List.getElem?_eq_some_iff.1 h).1
  unfold mixR
  rw [List.getElem?_append_right (by rw [List.length_map, List.length_take]; omega), List.length_map, List.length_take, show q - min q l.length = 0 by omega, List.getElem?_drop, Nat.add_zero]
  exact h
theorem mixR_step {α : Type} {f : α → α} {l : List α} {q : Nat} {x : α} (h : l[q]? = some x) : (mixR f l q).set q (f x) = mixR f l (q + 1) := by
  have hq : q < l.length := (List.getElem?_eq_some_iff.1 h).1
  unfold mixR
  have hd : l.drop q = x :: l.drop (q + 1) := by
    rw [List.drop_eq_getElem_cons hq]
    congr 1
    rw [List.getElem?_eq_getElem hq] at h
    exact Option.some.inj h
  rw [List.set_append_right _ _ (by rw [List.length_map, List.length_take]; omega), List.length_map, List.length_take, show q - min q l.length = 0 by omega, hd, List.set_cons_zero, List.take_add_one, h, List.map_append, Option.toList_some]
  simp
theorem ray_set0 (p v : Value) (t : Nat) : (rayC p t).toArray.setIfInBounds 0 v = (rayC v t).toArray := by
  rw [List.setIfInBounds_toArray]
  rfl
theorem ray_set1 (p : Value) (t t' : Nat) : (rayC p t).toArray.setIfInBounds 1 (.int .u64 (t' : Int)) = (rayC p t').toArray := by
  rw [List.setIfInBounds_toArray]
  rfl
theorem ray_c01 {w : World} {b t : Nat} {p : Value} {T : TypeId} (h : Blk w b (rayC p t).toArray T) : (w.cell? ⟨b, 0, none⟩ = some p ∧ w.cell? ⟨b, 1, none⟩ = some (.int .u64 (t : Int))) ∧ w.frozen? ⟨b, 0, none⟩ = false ∧ w.frozen? ⟨b, 1, none⟩ = false :=
  ⟨⟨by rw [h.cell]; rfl, by rw [h.cell]; rfl⟩, h.free 0, h.free 1⟩
theorem own_off {w : World} {M e sz n b i : Nat} {v u : Value} {xs : List Value} (h : w.ownsRow M e sz v n xs) (hne : v.ownBlock ≠ some b) : (w.setCell ⟨b, i, none⟩ u).ownsRow M e sz v n xs :=
  h.kept (row := some b) ⟨rfl, rfl, rfl, by simp [World.setCell], fun k _ hk => heap_setCell_other w ⟨b, i, none⟩ k u (fun e => hk (by simp [e]))⟩ (.inr hne)
theorem OR.off {M b i : Nat} {w : World} {v u : Value} {rs : List (List Rat × Nat)} {cs : Array Value} (h : OR M w v rs) (hB : Blk w b cs 89) (hne : v.ownBlock ≠ some b) : OR M (w.setCell ⟨b, i, none⟩ u) v rs := by
  obtain ⟨ps, hl, ho, hq⟩ := h
  exact ⟨ps, hl, own_off ho hne, fun k p r hp hr => (hq k p r hp hr).keep (Keep.set (ok := fun T => T ≠ 89) hB (fun k => k rfl) i u) (by decide) (by decide)⟩
theorem OR.lt {M b : Nat} {w : World} {v : Value} {rs : List (List Rat × Nat)} (h : OR M w v rs) (hb : v.ownBlock = some b) : b < w.heap.size := by
  obtain ⟨ps, hl, ho, hq⟩ := h
  exact (ho.lt b hb).2
theorem SPl.cell {M : Nat} {w wx wr : World} {B : Nat} {o vr : Value} {c : Int} {ls : List Vec} {rs : List (Vec × Nat)} {b : Nat} {cs : Array Value} (h : SPl M w wx wr B o vr c ls rs) (hB : Blk wr b cs 89) (hM : M ≤ b) (hne : vr.ownBlock ≠ some b) (i : Nat) (u : Value) : SPl M w wx (wr.setCell ⟨b, i, none⟩ u) B o vr c ls rs :=
  h.ray (Keep.set (ok := fun T => T ≠ 89) hB (fun k => k rfl) i u) ((Below.refl _ _).setCell (p := ⟨b, i, none⟩) hM u) (h.or.off hB hne)
theorem fill_ray (a : Option Addr) (n c t : Nat) : Tryz.prog.builtSlice 89 1 [(0, .agg (rayC (.slice a n c) t).toArray)] = some (rayC (.slice a n c) t).toArray := by kernel_rfl
theorem wpList_bsRay {ops : Array Oper} {rest : List Oper} {o : Oper} {act : Act} {w : World} {Q : Exit → Act → World → Prop} (hg : o.guard = none) (x : Operand) (ho : o.op = .buildSlice 78 1 #[(0, x)]) (a : Option Addr) (n c t : Nat) (hx : act.eval x = .agg (rayC (.slice a n c) t).toArray)
    (h : wpList Tryz.prog ops Q rest (act.put o.dst (.slice (some ⟨w.heap.size, 0, none⟩) 1 1)) (w.alloc (.cells (rayC (.slice a n c) t).toArray 89))) : wpList Tryz.prog ops Q (o :: rest) act w :=
  Great.wpList_buildSliceTo hg 78 89 1 _ ho _ rfl _ rfl Tryz.underlying78 (rayC (.slice a n c) t).toArray (by
    have h1 := fill_ray a n c t
    rw [← hx] at h1
    simpa using h1) h
theorem wp_bsRay {o : Oper} {act : Act} {w : World} {K : Act → World → Prop} {Q : Exit → Act → World → Prop} (x : Operand) (ho : o.op = .buildSlice 78 1 #[(0, x)]) (a : Option Addr) (n c t : Nat) (hx : act.eval x = .agg (rayC (.slice a n c) t).toArray)
    (h : K (act.put o.dst (.slice (some ⟨w.heap.size, 0, none⟩) 1 1)) (w.alloc (.cells (rayC (.slice a n c) t).toArray 89))) : o.wp Tryz.prog act w K Q := by
  have hf := fill_ray a n c t
  unfold Program.builtSlice at hf
  cases hie : Tryz.prog.info? 89 with
  | none => simp [hie] at hf
  | some ie =>
    simp only [hie] at hf
    cases hz : ie.zero with
    | none => simp [hz] at hf
    | some z =>
      simp only [hz] at hf
      by_cases hc : 1 * ie.size > 2 ^ 24 ∨ 1 * ie.size = 0
      · rw [if_pos hc] at hf
        cases hf
      · rw [if_neg hc] at hf
        exact wp_buildSlice 78 89 1 _ ho _ ie z Tryz.underlying78 hie hz (fun h' => hc (Or.inl h')) (fun h' => hc (Or.inr h')) (by
          rw [← hx] at hf
          simpa using hf) h
end Go.Proofs.YtlcmhbkmpkcajaaGreatDoor
