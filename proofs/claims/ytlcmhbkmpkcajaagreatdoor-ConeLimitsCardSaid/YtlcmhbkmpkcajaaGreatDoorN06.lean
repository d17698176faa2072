/-
  Parts of the proof: Dig.
-/
import Derived.Test.YtlcmhbkmpkcajaaGreatDoorN05
namespace Go.Proofs.YtlcmhbkmpkcajaaGreatDoor
open Go.RowKit
theorem Ls.cells {w : World} {a : Option Addr} {n c : Nat} {l : List Nat} (h : Ls w (.slice a n c) l) (hn : 0 < n) : ∃ b off, a = some ⟨b, off, none⟩ ∧ b < w.heap.size ∧ ∀ (i d : Nat), l[i]? = some d → w.cell? ⟨b, off + i, none⟩ = some (.int .u32 (d : Int)) := by
  obtain ⟨_, _, hv, _, _⟩ := h.open
  cases hv
  obtain ⟨b, off, d, rfl, hd, c0⟩ := h.at (Below.refl _ _) hn
  refine ⟨b, off, rfl, World.block_lt_of_cell? w _ c0, fun i d' hd' => ?_⟩
  obtain ⟨b', off', d2, he, hd2, c2⟩ := h.at (Below.refl _ _) (lt_get hd')
  cases he
  rw [hd'] at hd2
  cases hd2
  exact c2
theorem Mid.cell {A S : Nat} {w w' : World} (h : Mid A S w w') {b o : Nat} (hb : b < w.heap.size) (hx : b < A ∨ S ≤ b) : w'.cell? ⟨b, o, none⟩ = w.cell? ⟨b, o, none⟩ := World.cell?_of_block (h.block b hb hx)
theorem Mid.dn {A S : Nat} {w w' : World} (h : Mid A S w w') (n : Nat) : Mid A S w (w'.drewN n) := ⟨h.os, h.tape, h.output, h.size, h.block⟩
theorem at_pre (pre win post : List Nat) {i d : Nat} (h : win[i]? = some d) : (pre ++ (win ++ post))[pre.length + i]? = some d := by
  rw [List.getElem?_append_right (Nat.le_add_right _ _), Nat.add_sub_cancel_left, List.getElem?_append_left (lt_get h), h]
set_option maxHeartbeats 8000000 in
set_option maxRecDepth 100000 in
theorem digit_any (M g off c : Nat) (a : Option Addr) (n c' : Nat) (pre win post v : List Nat) (w : World) (hO : Out M w g (pre ++ (win ++ post))) (hpre : pre.length = off) (hV : Ls w (.slice a n c') v) (hne : ∀ p, a = some p → p.block ≠ g) (hwl : win.length = n + 1) (hn : 2 ≤ n) (hn1 : n < 1000000) (_hoff : off < 1000000) (hdw : Dg win) (hdv : Dg v) (htop : 4294967296 ^ n ≤ 2 * natL v) (hlt : natL win < 4294967296 * natL v) :
    Calls Tryz.prog 148 #[.slice (some ⟨g, off, none⟩) (n + 1) c, .slice a n c'] w (fun e w' => ∃ win', e = .returned (.int .u32 ((natL win / natL v : Nat) : Int)) ∧ Out M w' g (pre ++ (win' ++ post)) ∧ win'.length = n + 1 ∧ Dg win' ∧ natL win' = natL win % natL v ∧ Mid g (g + 1) w w') := by
  have hvl : v.length = n := by
    obtain ⟨_, _, hv, _, _⟩ := hV.open
    cases hv
    rfl
  obtain ⟨b, offv, rfl, hbl, hVc⟩ := hV.cells (by omega)
  have hbg : b ≠ g := hne _ rfl
  have HV := hI (fun (wr : World) (hm : Mid g (g + 1) w wr) (i d : Nat) (hd : v[i]? = some d) => (hm.cell hbl (by omega)).trans (hVc i d hd))
  have HO := hI hO
  have HM0 := hI (Mid.refl g (g + 1) w)
  clear hV hVc hO hne hbl
  obtain ⟨n1, hnn1⟩ : ∃ n1, n = n1 + 1 := ⟨n - 1, by omega⟩
  obtain ⟨n2, hnn2⟩ : ∃ n2, n1 = n2 + 1 := ⟨n1 - 1, by omega⟩
  obtain ⟨v1, hv1⟩ : ∃ v1, v[n1]? = some v1 := ⟨v[n1]'(by omega), by simp⟩
  obtain ⟨v2, hv2⟩ : ∃ v2, v[n2]? = some v2 := ⟨v[n2]'(by omega), by simp⟩
  obtain ⟨un, hun⟩ : ∃ un, win[n]? = some un := ⟨win[n]'(by omega), by simp⟩
  obtain ⟨u1, hu1⟩ : ∃ u1, win[n1]? = some u1 := ⟨win[n1]'(by omega), by simp⟩
  obtain ⟨u2, hu2⟩ : ∃ u2, win[n2]? = some u2 := ⟨win[n2]'(by omega), by simp⟩
  have l1 := hdv v1 (List.mem_of_getElem? hv1)
  have l2 := hdv v2 (List.mem_of_getElem? hv2)
  have l3 := hdw un (List.mem_of_getElem? hun)
  have l4 := hdw u1 (List.mem_of_getElem? hu1)
  have l5 := hdw u2 (List.mem_of_getElem? hu2)
  have hVt : natL v = (v1 * 4294967296 + v2) * 4294967296 ^ n2 + natL (v.take n2) := by
    have := top2 (n := n) hvl hn (by rw [show n - 1 = n1 by omega]; exact hv1) (by rw [show n - 2 = n2 by omega]; exact hv2)
    rwa [show n - 2 = n2 by omega] at this
  have hUt : natL win = ((un * 4294967296 + u1) * 4294967296 + u2) * 4294967296 ^ n2 + natL (win.take n2) := by
    have := top3 (n := n) hwl hn hun (by rw [show n - 1 = n1 by omega]; exact hu1) (by rw [show n - 2 = n2 by omega]; exact hu2)
    rwa [show n - 2 = n2 by omega] at this
  have hD0 : 0 < 4294967296 ^ n2 := Nat.pow_pos (by decide)
  have hvr : natL (v.take n2) < 4294967296 ^ n2 := by
    have h := natL_lt (hdv.take n2)
    rwa [List.length_take, Nat.min_eq_left (by omega)] at h
  have hur : natL (win.take n2) < 4294967296 ^ n2 := by
    have h := natL_lt (hdw.take n2)
    rwa [List.length_take, Nat.min_eq_left (by omega)] at h
  have hpn : (4294967296 : Nat) ^ n = 4294967296 * 4294967296 * 4294967296 ^ n2 := by
    rw [hnn1, hnn2, Nat.pow_succ, Nat.pow_succ, Nat.mul_assoc, Nat.mul_comm]
  have hv1t : 2147483648 ≤ v1 := by
    rw [hpn, hVt] at htop
    generalize 4294967296 ^ n2 = D at *
    have h1 : (v1 * 4294967296 + v2) * D + natL (v.take n2) < (v1 + 1) * 4294967296 * D := by
      have h2 : (v1 * 4294967296 + v2 + 1) * D ≤ (v1 + 1) * 4294967296 * D := Nat.mul_le_mul_right _ (by omega)
      rw [Nat.add_mul (v1 * 4294967296 + v2), Nat.one_mul] at h2
      omega
    have h3 : 4294967296 * 4294967296 * D < 2 * (v1 + 1) * 4294967296 * D := by
      have e : 2 * (v1 + 1) * 4294967296 * D = 2 * ((v1 + 1) * 4294967296 * D) := by simp only [Nat.mul_assoc]
      rw [e]; omega
    have h4 := Nat.lt_of_mul_lt_mul_right h3
    omega
  have hunv : un ≤ v1 := by
    rw [hVt, hUt] at hlt
    generalize 4294967296 ^ n2 = D at *
    rcases Nat.lt_or_ge v1 un with h | h
    · exfalso
      have h2 : (v1 * 4294967296 + v2 + 1) * D ≤ un * 4294967296 * D := Nat.mul_le_mul_right _ (by omega)
      rw [Nat.add_mul, Nat.one_mul] at h2
      have h3 : un * 4294967296 * D * 4294967296 ≤ ((un * 4294967296 + u1) * 4294967296 + u2) * D := by
        rw [Nat.mul_right_comm]
        exact Nat.mul_le_mul_right _ (by omega)
      omega
    · exact h
  have hVp : 0 < natL v := by
    have h1 : 0 < 4294967296 ^ n := Nat.pow_pos (by decide)
    omega
  have HVp := hI hVp
  have hUV : natL win / natL v < 4294967296 := by
    rw [Nat.div_lt_iff_lt_mul hVp]
    exact hlt
  obtain ⟨hi, hhi⟩ : ∃ hi, un * 4294967296 + u1 = hi := ⟨_, rfl⟩
  have hhi64 : hi < 18446744073709551616 := by omega
  have hor : bits .or .u64 ((un : Int) * 4294967296) (u1 : Int) = (hi : Int) := by
    have h := u64_or_nat (un * 4294967296) u1 (by omega) (by omega)
    rw [or_low un u1 l4, hhi] at h
    rw [show ((un : Int) * 4294967296) = ((un * 4294967296 : Nat) : Int) by omega]
    exact h
  obtain ⟨q0, hq0⟩ : ∃ q, hi / v1 = q := ⟨_, rfl⟩
  obtain ⟨r0, hr0⟩ : ∃ r, hi % v1 = r := ⟨_, rfl⟩
  have hv1p : 0 < v1 := by omega
  have hr0lt : r0 < v1 := by rw [← hr0]; exact Nat.mod_lt _ hv1p
  have hqr : q0 * v1 + r0 = hi := by rw [← hq0, ← hr0, Nat.mul_comm]; exact Nat.div_add_mod hi v1
  have hq0le : q0 ≤ 4294967297 := by
    rw [← hq0]
    refine Nat.le_of_lt_succ ((Nat.div_lt_iff_lt_mul hv1p).2 ?_)
    have h1 : un * 4294967296 ≤ v1 * 4294967296 := Nat.mul_le_mul_right _ hunv
    omega
  have hqi : (hi : Int) / (v1 : Int) = (q0 : Int) := by rw [← hq0]; rfl
  have hri : (hi : Int) % (v1 : Int) = (r0 : Int) := by rw [← hr0]; rfl
  have hqw : IntKind.u64.wrap ((hi : Int) / (v1 : Int)) = (q0 : Int) := by rw [hqi]; exact IntWalk.u64_in _ (by omega)
  have hrw : IntKind.u64.wrap ((hi : Int) % (v1 : Int)) = (r0 : Int) := by rw [hri]; exact IntWalk.u64_in _ (by omega)
  have hv1z : ¬ (v1 : Int) = 0 := by omega
  have hv1n : ¬ v1 = 0 := by omega
  have hqt : (hi : Int).tdiv (v1 : Int) = (q0 : Int) := by rw [Int.tdiv_eq_ediv_of_nonneg (by omega)]; exact hqi
  have hrt : (hi : Int).tmod (v1 : Int) = (r0 : Int) := by rw [Int.tmod_eq_emod_of_nonneg (by omega)]; exact hri
  have e1 : IntKind.u64.wrap (un : Int) = (un : Int) := IntWalk.u64_in _ (by omega)
  have e2 : IntKind.u64.wrap (u1 : Int) = (u1 : Int) := IntWalk.u64_in _ (by omega)
  have e3 : IntKind.u64.wrap (v1 : Int) = (v1 : Int) := IntWalk.u64_in _ (by omega)
  have e4 : IntKind.u64.wrap ((un : Int) * 4294967296) = (un : Int) * 4294967296 := IntWalk.u64_in _ (by omega)
  have e5 : IntKind.u64.wrap (q0 : Int) = (q0 : Int) := IntWalk.u64_in _ (by omega)
  have e6 : IntKind.u64.wrap (r0 : Int) = (r0 : Int) := IntWalk.u64_in _ (by omega)
  have hgup : natL win / natL v ≤ q0 := by
    generalize hQ : natL win / natL v = Q at *
    have h1 : Q * natL v ≤ natL win := by rw [← hQ]; exact Nat.div_mul_le_self _ _
    rw [hVt, hUt, hhi] at h1
    have h2 := guess_up l5 hur hD0 h1
    rw [← hq0]
    exact (Nat.le_div_iff_mul_le hv1p).2 h2
  obtain ⟨Q, hQ⟩ : ∃ Q, natL win / natL v = Q := ⟨_, rfl⟩
  have HVm := hI (Nat.div_add_mod (natL win) (natL v))
  rw [hQ] at hgup hUV HVm ⊢
  have HQ := hI hQ
  clear hQ
  have hw1 : IntKind.i64.wrap ((n : Int) - 1) = (n1 : Int) := (IntWalk.i64_in _ (by omega)).trans (by omega)
  have hw2 : IntKind.i64.wrap ((n : Int) - 2) = (n2 : Int) := (IntWalk.i64_in _ (by omega)).trans (by omega)
  have hb1 : (n1 : Int) < (n : Int) := by omega
  have hb2 : (n2 : Int) < (n : Int) := by omega
  have hb3 : (n1 : Int) < (n : Int) + 1 := by omega
  have hb4 : (n2 : Int) < (n : Int) + 1 := by omega
  have hb5 : (n : Int) < (n : Int) + 1 := by omega
  have Hpre := hI hpre
  have Hpn := hI hpn
  have Hex := hI (And.intro hVt (And.intro hUt (And.intro hhi (And.intro hD0 (And.intro hvr hur)))))
  have Hq := hI (And.intro hqr (And.intro hgup hUV))
  have Hw := hI (And.intro hdw (And.intro hdv (And.intro hwl (And.intro hvl (And.intro htop hlt)))))
  have Hi := hI (And.intro hv1 (And.intro hv2 (And.intro hun (And.intro hu1 hu2))))
  have Hnn := hI (And.intro hnn1 hnn2)
  have HUc := hI (fun (wr : World) (ho : Out M wr g (pre ++ (win ++ post))) (i d : Nat) (hd : win[i]? = some d) => (show wr.cell? ⟨g, off + i, none⟩ = some (.int .u32 (d : Int)) from hpre ▸ (ho.cell (at_pre pre win post hd)).1))
  clear hVp hpre hpn hVt hUt hD0 hvr hur hqr hgup hUV hdw hdv hwl hvl htop hlt hq0 hr0 hqi hri hnn1 hnn2 hhi
  have cn := HUc.out w HO.out n un Hi.out.2.2.1
  have c1 := HUc.out w HO.out n1 u1 Hi.out.2.2.2.1
  have d1 := HV.out w HM0.out n1 v1 Hi.out.1
  clear hv1 hv2 hun hu1 hu2
  go_enter Tryz.func148, Tryz.ntmps148
  go_wp2_with fail
  refine wp_region_held_drew (S := (fun w' => w'.cell? ⟨g, off + n, none⟩ = some (.int .u32 (un : Int)) ∧ w'.cell? ⟨g, off + n1, none⟩ = some (.int .u32 (u1 : Int)))) (by kernel_rfl) (by exact ⟨cn, c1⟩) (fun hHeld => ?_)
  refine wpAnyH_take (i := 0) (v := ?v1) rfl (by kernel_rfl) (by kernel_rfl) (by kernel_rfl) (fun _ _ _ h => h) (Or.inl ⟨by rfl, ?hy1⟩) (by assumption) ?rest1
  case hy1 => (intro w hSw; (try dsimp only at hSw); go_simp; try (with_reducible rfl))
  try simp only [Act.put, List.getElem_toArray, List.getElem_cons_zero, List.setIfInBounds_toArray, List.set_cons_zero, List.set_cons_succ]
  refine' tk 1 ?_; (try simp only [tkS]); refine' tk 2 ?_; (try simp only [tkS]); refine' tk 3 ?_; (try simp only [tkS]); refine' tk 4 ?_; (try simp only [tkS]); refine' tk 5 ?_; (try simp only [tkS]); refine' tk 6 ?_; (try simp only [tkS]); refine' tk 7 ?_; (try simp only [tkS]); refine' tk 8 ?_; (try simp only [tkS]); refine' tk 9 ?_; (try simp only [tkS]); refine' tk 10 ?_; (try simp only [tkS]); refine' tk 11 ?_; (try simp only [tkS]); refine' tk 12 ?_; (try simp only [tkS]); refine' tk 13 ?_; (try simp only [tkS])
  refine tkD ?_ _
  go_wp2_with fail
  refine wp_region_held_drew (S := (fun w' => w'.cell? ⟨b, offv + n1, none⟩ = some (.int .u32 (v1 : Int)))) (by kernel_rfl) (by exact d1) (fun hHeld => ?_)
  refine wpAnyH_take (i := 0) (v := ?v15) rfl (by kernel_rfl) (by kernel_rfl) (by kernel_rfl) (fun _ _ _ h => h) (Or.inl ⟨by rfl, ?hy15⟩) (by assumption) ?rest15
  case hy15 => (intro w hSw; (try dsimp only at hSw); go_simp; try (with_reducible rfl))
  try simp only [Act.put, List.getElem_toArray, List.getElem_cons_zero, List.setIfInBounds_toArray, List.set_cons_zero, List.set_cons_succ]
  refine' tk 1 ?_; (try simp only [tkS]); refine' tk 2 ?_; (try simp only [tkS]); refine' tk 3 ?_; (try simp only [tkS]); refine' tk 4 ?_; (try simp only [tkS]); refine' tk 5 ?_; (try simp only [tkS]); refine' tk 6 ?_; (try simp only [tkS]); refine' tk 7 ?_; (try simp only [tkS]); refine' tk 8 ?_; (try simp only [tkS]); refine' tk 9 ?_; (try simp only [tkS]); refine' tk 10 ?_; (try simp only [tkS]); refine' tk 11 ?_; (try simp only [tkS]); refine' tk 12 ?_; (try simp only [tkS]); refine' tk 13 ?_; (try simp only [tkS]); refine' tk 14 ?_; (try simp only [tkS]); refine' tk 15 ?_; (try simp only [tkS]); refine' tk 16 ?_; (try simp only [tkS]); refine' tk 17 ?_; (try simp only [tkS])
  refine tkD ?_ _
  go_wp2_with fail
  have hs := True.intro
  go_loopw [7, 8] (fun qv rv wr => ∃ q r, qv = .int .u64 ((q : Nat) : Int) ∧ rv = .int .u64 ((r : Nat) : Int) ∧ q ≤ 4294967297 ∧ r < 8589934592 ∧ Mid g (g + 1) w wr ∧ Out M wr g (pre ++ (win ++ post)) ∧ Hid (q * v1 + r = hi ∧ Q ≤ q ∧ (4294967296 ≤ q → r < 4294967296))) (fun qv _ _ => (intOf qv).toNat)
  case atStart => exact ⟨q0, r0, rfl, rfl, hq0le, by omega, HM0.out.dn 2, HO.out.below ((Below.refl _ _).dn 2), Hq.out.1, Hq.out.2.1, fun _ => by omega⟩
  case round =>
    clear cn c1 d1 hor hqw hrw hqt hrt e1 e2 e4 e5 e6
    obtain ⟨q, r, rfl, rfl, hq, hr, hm, ho, hpre⟩ := hrel
    have d1 := HV.out _ hm n1 v1 Hi.out.1
    have d2 := HV.out _ hm n2 v2 Hi.out.2.1
    have c2 := HUc.out _ ho n2 u2 Hi.out.2.2.2.2
    have Hm := hI hm
    have Ho := hI ho
    clear hm ho
    have f1 : IntKind.u64.wrap (q : Int) = (q : Int) := IntWalk.u64_in _ (by omega)
    have f2 : IntKind.u64.wrap (r : Int) = (r : Int) := IntWalk.u64_in _ (by omega)
    have f3 : IntKind.u64.wrap (v2 : Int) = (v2 : Int) := IntWalk.u64_in _ (by omega)
    have f4 : IntKind.u64.wrap (u2 : Int) = (u2 : Int) := IntWalk.u64_in _ (by omega)
    by_cases hrB : r < 4294967296
    · have hrBi : (r : Int) < 4294967296 := by omega
      by_cases hqB : 4294967296 ≤ q
      · have hqBi : (4294967296 : Int) ≤ (q : Int) := by omega
        have Hup := hI (show Q + 1 ≤ q by have := Hq.out.2.2; omega)
        obtain ⟨q', hq'⟩ : ∃ q', q = q' + 1 := ⟨q - 1, by have := Nat.lt_of_lt_of_le (Nat.succ_pos _) Hup.out; omega⟩
        obtain ⟨r', hr'⟩ : ∃ r', r + v1 = r' := ⟨_, rfl⟩
        have hwq : IntKind.u64.wrap ((q : Int) - 1) = (q' : Int) := (IntWalk.u64_in _ (by omega)).trans (by omega)
        have hwr' : IntKind.u64.wrap ((r : Int) + (v1 : Int)) = (r' : Int) := (IntWalk.u64_in _ (by omega)).trans (by omega)
        have hr'b : r' < 8589934592 := by omega
        have hq'b : q' ≤ 4294967297 := by omega
        have hm : q' < q := by omega
        have Hinv := hI (show q' * v1 + r' = hi ∧ Q ≤ q' ∧ (4294967296 ≤ q' → r' < 4294967296) by
          have h1 := hpre.out.1
          have h2 : q * v1 = q' * v1 + v1 := by rw [hq', Nat.add_mul, Nat.one_mul]
          have h3 := Hup.out
          have h4 := Hex.out.2.2.1
          refine ⟨by omega, by omega, fun h => ?_⟩
          have h5 : 4294967296 * v1 ≤ q' * v1 := Nat.mul_le_mul_right _ h
          have h6 : un * 4294967296 ≤ v1 * 4294967296 := Nat.mul_le_mul_right _ hunv
          omega)
        clear hq' hr'
        go_wp2_with fail
        refine wp_region_held_drew (S := (fun _ => True)) (by kernel_rfl) (by exact trivial) (fun hHeld => ?_)
        refine wpAnyH_take (i := 0) (v := ?v33) rfl (by kernel_rfl) (by kernel_rfl) (by kernel_rfl) (fun _ _ _ h => h) (Or.inl ⟨by rfl, ?hy33⟩) (by assumption) ?rest33
        case hy33 => (intro w hSw; (try dsimp only at hSw); go_simp; try (with_reducible rfl))
        try simp only [Act.put, List.getElem_toArray, List.getElem_cons_zero, List.setIfInBounds_toArray, List.set_cons_zero, List.set_cons_succ]
        refine' tk 1 ?_; (try simp only [tkS]); refine' tk 2 ?_; (try simp only [tkS]); refine' tk 3 ?_; (try simp only [tkS]); refine' tk 4 ?_; (try simp only [tkS]); refine' tk 5 ?_; (try simp only [tkS]); refine' tkU 6 ?_; (try simp only [tkS]); refine' tkU 7 ?_; (try simp only [tkS]); refine' tkU 8 ?_; (try simp only [tkS]); refine' tkU 9 ?_; (try simp only [tkS]); refine' tkU 10 ?_; (try simp only [tkS]); refine' tkU 11 ?_; (try simp only [tkS]); refine' tkU 12 ?_; (try simp only [tkS]); refine' tkU 13 ?_; (try simp only [tkS]); refine' tkU 14 ?_; (try simp only [tkS]); refine' tkU 15 ?_; (try simp only [tkS]); refine' tkU 16 ?_; (try simp only [tkS]); refine' tkU 17 ?_; (try simp only [tkS]); refine' tkU 18 ?_; (try simp only [tkS]); refine' tkU 19 ?_; (try simp only [tkS]); refine' tkU 20 ?_; (try simp only [tkS]); refine' tkU 21 ?_; (try simp only [tkS]); refine' tkU 22 ?_; (try simp only [tkS]); refine' tkU 23 ?_; (try simp only [tkS]); refine' tk 24 ?_; (try simp only [tkS]); refine' tk 25 ?_; (try simp only [tkS])
        refine tkD ?_ _
        go_wp2_with fail
        go_roundw
        case rel => exact ⟨q', r', rfl, rfl, hq'b, hr'b, Hm.out.dn 1, Ho.out.below ((Below.refl _ _).dn 1), Hinv.out⟩
        case measure => simp [intOf]; omega
      · have hqBi : ¬ (4294967296 : Int) ≤ (q : Int) := by omega
        have Hqd := hI (show decide ((4294967296 : Int) ≤ (q : Int)) = false from decide_eq_false (by omega))
        have hqB2 : q < 4294967296 := by omega
        have hqB3 : (q : Int) < 4294967296 := by omega
        obtain ⟨p, hp⟩ : ∃ p, q * v2 = p := ⟨_, rfl⟩
        obtain ⟨s, hs⟩ : ∃ s, r * 4294967296 + u2 = s := ⟨_, rfl⟩
        have hpb : p < 18446744073709551616 := by
          rw [← hp]
          have : q * v2 ≤ 4294967295 * 4294967295 := Nat.mul_le_mul (by omega) (by omega)
          omega
        have hpi : (q : Int) * (v2 : Int) = (p : Int) := by rw [← hp]; push_cast; rfl
        have f5 : IntKind.u64.wrap (p : Int) = (p : Int) := IntWalk.u64_in _ (by omega)
        have f6 : IntKind.u64.wrap ((r : Int) * 4294967296) = (r : Int) * 4294967296 := IntWalk.u64_in _ (by omega)
        have hor : bits .or .u64 ((r : Int) * 4294967296) (u2 : Int) = (s : Int) := by
          have h := u64_or_nat (r * 4294967296) u2 (by omega) (by omega)
          rw [or_low r u2 l5, hs] at h
          rw [show ((r : Int) * 4294967296) = ((r * 4294967296 : Nat) : Int) by omega]
          exact h
        by_cases hps : s < p
        · have hpsi : (s : Int) < (p : Int) := by omega
          have Hup := hI (show Q + 1 ≤ q by
            have h1 := Hex.out
            have h2 := guess_dec (D := 4294967296 ^ n2) hpre.out.1 (show r * 4294967296 + u2 < q * v2 by omega) h1.2.2.2.2.2 (vr := natL (v.take n2))
            rw [← h1.1, ← h1.2.2.1, ← h1.2.1] at h2
            have h3 := (Nat.div_lt_iff_lt_mul HVp.out).2 h2
            rw [HQ.out] at h3
            exact h3)
          have Hpd := hI (show decide ((s : Int) < (p : Int)) = true from decide_eq_true (by omega))
          have Hps := hI (And.intro hp hs)
          clear hp hs
          obtain ⟨q', hq'⟩ : ∃ q', q = q' + 1 := ⟨q - 1, by have := Nat.lt_of_lt_of_le (Nat.succ_pos _) Hup.out; omega⟩
          obtain ⟨r', hr'⟩ : ∃ r', r + v1 = r' := ⟨_, rfl⟩
          have hwq : IntKind.u64.wrap ((q : Int) - 1) = (q' : Int) := (IntWalk.u64_in _ (by omega)).trans (by omega)
          have hwr' : IntKind.u64.wrap ((r : Int) + (v1 : Int)) = (r' : Int) := (IntWalk.u64_in _ (by omega)).trans (by omega)
          have hr'b : r' < 8589934592 := by omega
          have hq'b : q' ≤ 4294967297 := by omega
          have hm : q' < q := by omega
          have Hinv := hI (show q' * v1 + r' = hi ∧ Q ≤ q' ∧ (4294967296 ≤ q' → r' < 4294967296) by
            have h1 := hpre.out.1
            have h2 : q * v1 = q' * v1 + v1 := by rw [hq', Nat.add_mul, Nat.one_mul]
            have h3 := Hup.out
            have h4 := Hex.out.2.2.1
            refine ⟨by omega, by omega, fun h => ?_⟩
            have h5 : 4294967296 * v1 ≤ q' * v1 := Nat.mul_le_mul_right _ h
            have h6 : un * 4294967296 ≤ v1 * 4294967296 := Nat.mul_le_mul_right _ hunv
            omega)
          clear hq' hr'
          go_wp2_with fail
          have hqd := Hqd.out
          have hpd := Hpd.out
          refine wp_region_held_drew (S := (fun w' => w'.cell? ⟨b, offv + n2, none⟩ = some (.int .u32 (v2 : Int)) ∧ w'.cell? ⟨g, off + n2, none⟩ = some (.int .u32 (u2 : Int)))) (by kernel_rfl) (by exact ⟨d2, c2⟩) (fun hHeld => ?_)
          refine wpAnyH_take (i := 0) (v := ?v59) rfl (by kernel_rfl) (by kernel_rfl) (by kernel_rfl) (fun _ _ _ h => h) (Or.inl ⟨by rfl, ?hy59⟩) (by assumption) ?rest59
          case hy59 => (intro w hSw; (try dsimp only at hSw); go_simp; try (with_reducible rfl))
          try simp only [Act.put, List.getElem_toArray, List.getElem_cons_zero, List.setIfInBounds_toArray, List.set_cons_zero, List.set_cons_succ]
          refine' tk 1 ?_; (try simp only [tkS]); refine' tk 2 ?_; (try simp only [tkS]); refine' tk 3 ?_; (try simp only [tkS]); refine' tk 4 ?_; (try simp only [tkS]); refine' tk 5 ?_; (try simp only [tkS]); refine' tk 6 ?_; (try simp only [tkS]); refine' tk 7 ?_; (try simp only [tkS]); refine' tk 8 ?_; (try simp only [tkS]); refine' tk 9 ?_; (try simp only [tkS]); refine' tk 10 ?_; (try simp only [tkS]); refine' tk 11 ?_; (try simp only [tkS]); refine' tk 12 ?_; (try simp only [tkS]); refine' tk 13 ?_; (try simp only [tkS]); refine' tk 14 ?_; (try simp only [tkS]); refine' tk 15 ?_; (try simp only [tkS]); refine' tk 16 ?_; (try simp only [tkS]); refine' tk 17 ?_; (try simp only [tkS]); refine' tk 18 ?_; (try simp only [tkS]); refine' tk 19 ?_; (try simp only [tkS]); refine' tk 20 ?_; (try simp only [tkS]); refine' tk 21 ?_; (try simp only [tkS]); refine' tk 22 ?_; (try simp only [tkS]); refine' tk 23 ?_; (try simp only [tkS]); refine' tk 24 ?_; (try simp only [tkS]); refine' tk 25 ?_; (try simp only [tkS])
          refine tkD ?_ _
          go_wp2_with fail
          go_roundw
          case rel => exact ⟨q', r', rfl, rfl, hq'b, hr'b, Hm.out.dn 1, Ho.out.below ((Below.refl _ _).dn 1), Hinv.out⟩
          case measure => simp [intOf]; omega
        · have hpsi : ¬ (s : Int) < (p : Int) := by omega
          have HX := hI (show Q = q ∨ Q + 1 = q by
            have h1 := Hex.out
            have h2 := guess_fin (D := 4294967296 ^ n2) hpre.out.1 (show q * v2 ≤ r * 4294967296 + u2 by omega) hqB2 hv1p h1.2.2.2.2.1 (ur := natL (win.take n2))
            rw [← h1.1, h1.2.2.1.symm, ← h1.2.1] at h2
            have h3 := guess_eq HVp.out (by rw [HQ.out]; exact hpre.out.2.1) h2
            rw [HQ.out] at h3
            omega)
          have Hpd := hI (show decide ((s : Int) < (p : Int)) = false from decide_eq_false (by omega))
          have Hps := hI (And.intro hp hs)
          clear hp hs
          go_wp2_with fail
          have hqd := Hqd.out
          have hpd := Hpd.out
          refine wp_region_held_drew (S := (fun w' => w'.cell? ⟨b, offv + n2, none⟩ = some (.int .u32 (v2 : Int)) ∧ w'.cell? ⟨g, off + n2, none⟩ = some (.int .u32 (u2 : Int)))) (by kernel_rfl) (by exact ⟨d2, c2⟩) (fun hHeld => ?_)
          refine wpAnyH_take (i := 0) (v := ?v85) rfl (by kernel_rfl) (by kernel_rfl) (by kernel_rfl) (fun _ _ _ h => h) (Or.inl ⟨by rfl, ?hy85⟩) (by assumption) ?rest85
          case hy85 => (intro w hSw; (try dsimp only at hSw); go_simp; try (with_reducible rfl))
          try simp only [Act.put, List.getElem_toArray, List.getElem_cons_zero, List.setIfInBounds_toArray, List.set_cons_zero, List.set_cons_succ]
          refine' tk 1 ?_; (try simp only [tkS]); refine' tk 2 ?_; (try simp only [tkS]); refine' tk 3 ?_; (try simp only [tkS]); refine' tk 4 ?_; (try simp only [tkS]); refine' tk 5 ?_; (try simp only [tkS]); refine' tk 6 ?_; (try simp only [tkS]); refine' tk 7 ?_; (try simp only [tkS]); refine' tk 8 ?_; (try simp only [tkS]); refine' tk 9 ?_; (try simp only [tkS]); refine' tk 10 ?_; (try simp only [tkS]); refine' tk 11 ?_; (try simp only [tkS]); refine' tk 12 ?_; (try simp only [tkS]); refine' tk 13 ?_; (try simp only [tkS]); refine' tk 14 ?_; (try simp only [tkS]); refine' tk 15 ?_; (try simp only [tkS]); refine' tk 16 ?_; (try simp only [tkS]); refine' tk 17 ?_; (try simp only [tkS]); refine' tk 18 ?_; (try simp only [tkS]); refine' tk 19 ?_; (try simp only [tkS]); refine' tk 20 ?_; (try simp only [tkS]); refine' tk 21 ?_; (try simp only [tkS]); refine' tk 22 ?_; (try simp only [tkS]); refine' tk 23 ?_; (try simp only [tkS]); refine' tk 24 ?_; (try simp only [tkS]); refine' tk 25 ?_; (try simp only [tkS])
          refine tkD ?_ _
          clear d1 f1 f2 f3 f4 hrB f5 f6 hor hpi hqB hqBi hqB3 hqd hpd hps hpsi d2 c2
          go_wp2_with fail
          go_loopw [9, 10, 11, 12, 13, 86] (fun cv bv _ _ _ kk wz => ∃ (k cr bo : Nat) (done : List Nat), k ≤ n ∧ kk = .int .i64 (k : Int) ∧ cv = .int .u64 (cr : Int) ∧ bv = .int .i64 (bo : Int) ∧ cr ≤ q ∧ bo ≤ 1 ∧ Mid g (g + 1) w wz ∧ Out M wz g (pre ++ (done ++ (win.drop k ++ post))) ∧ Hid (done.length = k ∧ Dg done ∧ natL (win.take k) + 4294967296 ^ k * (bo + cr) = natL done + q * natL (v.take k))) (fun _ _ _ _ _ kk _ => n - (intOf kk).toNat)
          case atStart => exact ⟨0, 0, 0, [], Nat.zero_le _, rfl, rfl, rfl, Nat.zero_le _, Nat.zero_le _, Hm.out.dn 1, Ho.out.below ((Below.refl _ _).dn 1), rfl, (fun d hd => by simp at hd), by simp [natL]⟩
          case round =>
            clear hpre Hm Ho
            rename World => wz
            obtain ⟨k, cr, bo, done, hk, rfl, rfl, rfl, hcr, hbo, hm, ho, hpre⟩ := hrel
            by_cases hlt : k < n
            · obtain ⟨d, hd⟩ : ∃ d, v[k]? = some d := ⟨v[k]'(by have := Hw.out.2.2.2.1; omega), by simp⟩
              obtain ⟨u, hu⟩ : ∃ u, win[k]? = some u := ⟨win[k]'(by have := Hw.out.2.2.1; omega), by simp⟩
              have dk := HV.out _ hm k d hd
              have hd32 := Hw.out.2.1 d (List.mem_of_getElem? hd)
              have hu32 := Hw.out.1 u (List.mem_of_getElem? hu)
              rw [drop_next hu, List.cons_append] at ho
              have hix : pre.length + done.length = off + k := by rw [Hpre.out, hpre.out.1]
              obtain ⟨ck, fk⟩ := ho.cell (get_at pre done u (win.drop (k + 1) ++ post))
              rw [hix] at ck fk
              obtain ⟨p, hp⟩ : ∃ p, q * d = p := ⟨_, rfl⟩
              have hpb : p ≤ 4294967295 * 4294967295 := by rw [← hp]; exact Nat.mul_le_mul (by omega) (by omega)
              obtain ⟨t, ht⟩ : ∃ t, cr + p = t := ⟨_, rfl⟩
              obtain ⟨low, hlow⟩ : ∃ low, t % 4294967296 = low := ⟨_, rfl⟩
              obtain ⟨c1, hc1⟩ : ∃ c1, t / 4294967296 = c1 := ⟨_, rfl⟩
              have hpi : (q : Int) * (d : Int) = (p : Int) := by rw [← hp]; push_cast; rfl
              have hpw : IntKind.u64.wrap (p : Int) = (p : Int) := IntWalk.u64_in _ (by omega)
              have htw : IntKind.u64.wrap ((cr : Int) + (p : Int)) = (t : Int) := (IntWalk.u64_in _ (by omega)).trans (by omega)
              have hlowi : (t : Int) % 4294967296 = (low : Int) := by omega
              have hc1i : (t : Int) / 4294967296 = (c1 : Int) := by omega
              have hlow32 : low < 4294967296 := by omega
              have hc1q : c1 ≤ q := by
                have := carry_le (q := q) hd32 hcr
                rw [hp, ht, hc1] at this
                exact this
              have hkn : (k : Int) < (n : Int) := by omega
              have hkn1 : (k : Int) < (n : Int) + 1 := by omega
              have hk0 : (0 : Int) ≤ (k : Int) := Int.natCast_nonneg _
              have Hc := hI (show cr + q * d = low + 4294967296 * c1 by rw [hp]; omega)
              have Hdu := hI (And.intro hd hu)
              have Hset := hI (fun (y : Nat) => (show Out M (wz.setCell ⟨g, off + k, none⟩ (.int .u32 (y : Int))) g (pre ++ ((done ++ [y]) ++ (win.drop (k + 1) ++ post))) from by
                have h := ho.set (i := off + k) (lt_get (by rw [← hix]; exact get_at pre done u (win.drop (k + 1) ++ post))) y
                rwa [← hix, put_at, hix] at h))
              have Hm2 := hI (fun (u : Value) => hm.setCell (p := ⟨g, off + k, none⟩) (Nat.le_refl _) (Nat.lt_succ_self _) u)
              have Hno := hI (And.intro hix (And.intro hp (And.intro ht (And.intro hlow hc1))))
              clear ho hm hix hp ht hlow hc1 hd hu
              by_cases hX : ((u : Int) - (bo : Int) - (low : Int)) < 0
              · obtain ⟨y, hy⟩ : ∃ y : Nat, ((u : Int) - (bo : Int) - (low : Int)) + 4294967296 = (y : Int) := ⟨(((u : Int) - (bo : Int) - (low : Int)) + 4294967296).toNat, by omega⟩
                have hy32 : y < 4294967296 := by omega
                have hmod : ((u : Int) - (bo : Int) - (low : Int)) % 4294967296 = (y : Int) := by omega
                have Hst := hI (sub_step (u := u) (bo' := 1) (r := y) hpre.out.2.2 Hc.out (by omega))
                clear hy
                go_wp2_with fail
                go_roundw
                case rel =>
                  refine ⟨k + 1, c1, 1, done ++ [y], by omega, by go_num, rfl, rfl, hc1q, by decide, Hm2.out _, Hset.out y, by rw [List.length_append, hpre.out.1]; rfl, hpre.out.2.1.append (Dg.one hy32), ?_⟩
                  rw [take_next Hdu.out.2, take_next Hdu.out.1, natL_snoc, hpre.out.1]
                  exact Hst.out
                case measure => simp [intOf]; omega
              · obtain ⟨y, hy⟩ : ∃ y : Nat, ((u : Int) - (bo : Int) - (low : Int)) = (y : Int) := ⟨((u : Int) - (bo : Int) - (low : Int)).toNat, by omega⟩
                have hy32 : y < 4294967296 := by omega
                have Hst := hI (sub_step (u := u) (bo' := 0) (r := y) hpre.out.2.2 Hc.out (by omega))
                have hmod : ((u : Int) - (bo : Int) - (low : Int)) % 4294967296 = (y : Int) := by omega
                have hng : ¬ ((u : Int) - (bo : Int) - (low : Int)) < 0 := hX
                have Hy := hI hy
                clear hy
                go_wp2_with fail
                go_roundw
                case rel =>
                  refine ⟨k + 1, c1, 0, done ++ [y], by omega, by go_num, rfl, rfl, hc1q, by decide, Hm2.out _, by rw [Hy.out]; exact Hset.out y, by rw [List.length_append, hpre.out.1]; rfl, hpre.out.2.1.append (Dg.one hy32), ?_⟩
                  rw [take_next Hdu.out.2, take_next Hdu.out.1, natL_snoc, hpre.out.1]
                  exact Hst.out
                case measure => simp [intOf]; omega
            · obtain rfl : k = n := by omega
              have hun := Hi.out.2.2.1
              have hdr : win.drop k = [un] := by
                rw [drop_next hun, List.drop_of_length_le (by rw [Hw.out.2.2.1]; exact Nat.le_refl _)]
              rw [hdr] at ho
              have hix : pre.length + done.length = off + k := by rw [Hpre.out, hpre.out.1]
              obtain ⟨ck, fk⟩ := ho.cell (get_at pre done un ([] ++ post))
              rw [hix] at ck fk
              have hU : natL win = natL (win.take k) + 4294967296 ^ k * un := by
                rw [← take_next hun, List.take_of_length_le (by rw [Hw.out.2.2.1]; exact Nat.le_refl _)]
              have hR : natL done < 4294967296 ^ k := by
                have h := natL_lt hpre.out.2.1
                rwa [hpre.out.1] at h
              have hVlt : natL v < 4294967296 ^ k := by
                have h := natL_lt Hw.out.2.1
                rwa [Hw.out.2.2.2.1] at h
              have hS := hpre.out.2.2
              rw [List.take_of_length_le (l := v) (by rw [Hw.out.2.2.2.1]; exact Nat.le_refl _)] at hS
              have Hset := hI (fun (y : Nat) => (show Out M (wz.setCell ⟨g, off + k, none⟩ (.int .u32 (y : Int))) g (pre ++ ((done ++ [y]) ++ post)) from by
                have h := ho.set (i := off + k) (lt_get (by rw [← hix]; exact get_at pre done un ([] ++ post))) y
                rw [← hix] at h
                rw [← hix]
                exact (put_at pre done un y ([] ++ post)) ▸ h))
              have Hm2 := hI (fun (u : Value) => hm.setCell (p := ⟨g, off + k, none⟩) (Nat.le_refl _) (Nat.lt_succ_self _) u)
              have Hd2 := hI (And.intro hpre.out.1 hpre.out.2.1)
              have hkn : (k : Int) < (k : Int) + 1 := by omega
              have hk0 : (0 : Int) ≤ (k : Int) := Int.natCast_nonneg _
              rcases HX.out with hq | hq
              · obtain ⟨hT, hRm⟩ := dig_fit hS hU hR (Nat.le_of_lt hVlt) HVp.out (by rw [HQ.out]; exact hq.symm)
                have hT0 : ((un : Int) - (bo : Int) - (cr : Int)) = ((0 : Nat) : Int) := by omega
                have Hfin := hI (And.intro hq hRm)
                have hq32 : (q : Int) % 4294967296 = (q : Int) := by omega
                have hunb : (un : Int) < 4294967296 := by omega
                clear ho hm hpre hdr hix hU hR hVlt hS hq hT hRm hun
                go_wp2_with fail
                go_ret
                refine ⟨done ++ [0], by rw [Hfin.out.1]; rfl, by exact Hset.out 0, by rw [List.length_append, Hd2.out.1]; rfl, Hd2.out.2.append (Dg.one (by decide)), ?_, by exact Hm2.out _⟩
                rw [natL_snoc, Nat.mul_zero, Nat.add_zero]
                exact Hfin.out.2
              · obtain ⟨hT, hRm⟩ := dig_over hS hU hR (Nat.le_of_lt hVlt) HVp.out (by rw [HQ.out]; exact hq.symm)
                have hT0 : ((un : Int) - (bo : Int) - (cr : Int)) = -1 := by omega
                have Hfin := hI (And.intro hq hRm)
                clear ho hm hpre hdr hix hU hR hVlt hS hq hT hRm hun
                have HO2 := hI (Hset.out 4294967295)
                have HM3 := hI (Hm2.out (.int .u32 4294967295))
                clear Hset Hm2
                go_wp2_with fail
                clear ck fk hT0
                go_loopw [9, 15, 16, 139] (fun cv _ _ kk wy => ∃ (j c1 : Nat) (dn : List Nat), j ≤ k ∧ kk = .int .i64 (j : Int) ∧ cv = .int .u64 (c1 : Int) ∧ c1 ≤ 1 ∧ Mid g (g + 1) w wy ∧ Out M wy g (pre ++ (dn ++ (done.drop j ++ (4294967295 :: post)))) ∧ Hid (dn.length = j ∧ Dg dn ∧ natL dn + 4294967296 ^ j * c1 = natL (done.take j) + natL (v.take j))) (fun _ _ _ kk _ => k - (intOf kk).toNat)
                case atStart => exact ⟨0, 0, [], Nat.zero_le _, rfl, rfl, by decide, HM3.out, by simpa using HO2.out, rfl, (fun d hd => by simp at hd), by simp [natL]⟩
                case round =>
                  clear HO2 HM3
                  rename World => wy
                  obtain ⟨j, c1, dn, hj, rfl, rfl, hc1, hm, ho, hpre⟩ := hrel
                  by_cases hlt2 : j < k
                  · obtain ⟨d, hd⟩ : ∃ d, v[j]? = some d := ⟨v[j]'(by have := Hw.out.2.2.2.1; omega), by simp⟩
                    obtain ⟨x, hx⟩ : ∃ x, done[j]? = some x := ⟨done[j]'(by have := Hd2.out.1; omega), by simp⟩
                    have dk := HV.out _ hm j d hd
                    have hd32 := Hw.out.2.1 d (List.mem_of_getElem? hd)
                    have hx32 := Hd2.out.2 x (List.mem_of_getElem? hx)
                    rw [drop_next hx, List.cons_append] at ho
                    have hix : pre.length + dn.length = off + j := by rw [Hpre.out, hpre.out.1]
                    obtain ⟨ck, fk⟩ := ho.cell (get_at pre dn x (done.drop (j + 1) ++ 4294967295 :: post))
                    rw [hix] at ck fk
                    obtain ⟨s, hs⟩ : ∃ s, x + d = s := ⟨_, rfl⟩
                    obtain ⟨t, ht⟩ : ∃ t, c1 + s = t := ⟨_, rfl⟩
                    obtain ⟨y, hy⟩ : ∃ y, t % 4294967296 = y := ⟨_, rfl⟩
                    obtain ⟨c2, hc2⟩ : ∃ c2, t / 4294967296 = c2 := ⟨_, rfl⟩
                    have hsw : IntKind.u64.wrap ((x : Int) + (d : Int)) = (s : Int) := (IntWalk.u64_in _ (by omega)).trans (by omega)
                    have htw : IntKind.u64.wrap ((c1 : Int) + (s : Int)) = (t : Int) := (IntWalk.u64_in _ (by omega)).trans (by omega)
                    have hyi : (t : Int) % 4294967296 = (y : Int) := by omega
                    have hc2i : (t : Int) / 4294967296 = (c2 : Int) := by omega
                    have hy32 : y < 4294967296 := by omega
                    have hc21 : c2 ≤ 1 := by omega
                    have hjk : (j : Int) < (k : Int) := by omega
                    have hjk1 : (j : Int) < (k : Int) + 1 := by omega
                    have hj0 : (0 : Int) ≤ (j : Int) := Int.natCast_nonneg _
                    have Hst := hI (carry_step (T := x + d) (t := t) hpre.out.1 hpre.out.2.2 (by omega))
                    rw [hy, hc2] at Hst
                    have Hdu := hI (And.intro hd hx)
                    have Hset := hI (show Out M (wy.setCell ⟨g, off + j, none⟩ (.int .u32 (y : Int))) g (pre ++ ((dn ++ [y]) ++ (done.drop (j + 1) ++ 4294967295 :: post))) from by
                      have h := ho.set (i := off + j) (lt_get (by rw [← hix]; exact get_at pre dn x (done.drop (j + 1) ++ 4294967295 :: post))) y
                      rwa [← hix, put_at, hix] at h)
                    have Hm2 := hI (hm.setCell (p := ⟨g, off + j, none⟩) (Nat.le_refl _) (Nat.lt_succ_self _) (.int .u32 (y : Int)))
                    clear ho hm hix hs ht hy hc2 hd hx
                    go_wp2_with fail
                    go_roundw
                    case rel =>
                      refine ⟨j + 1, c2, dn ++ [y], by omega, by go_num, rfl, hc21, Hm2.out, Hset.out, by rw [List.length_append, hpre.out.1]; rfl, hpre.out.2.1.append (Dg.one hy32), ?_⟩
                      rw [take_next Hdu.out.2, take_next Hdu.out.1, Hst.out, Nat.mul_add]
                      omega
                    case measure => simp [intOf]; omega
                  · obtain rfl : j = k := by omega
                    rw [List.drop_of_length_le (by rw [Hd2.out.1]; exact Nat.le_refl _), List.nil_append] at ho
                    have hix : pre.length + dn.length = off + j := by rw [Hpre.out, hpre.out.1]
                    obtain ⟨ck, fk⟩ := ho.cell (get_at pre dn 4294967295 post)
                    rw [hix] at ck fk
                    have hR' : natL dn < 4294967296 ^ j := by
                      have h := natL_lt hpre.out.2.1
                      rwa [hpre.out.1] at h
                    have hS := hpre.out.2.2
                    rw [List.take_of_length_le (l := v) (by rw [Hw.out.2.2.2.1]; exact Nat.le_refl _), List.take_of_length_le (l := done) (by rw [Hd2.out.1]; exact Nat.le_refl _)] at hS
                    have hVlt : natL win % natL v < 4294967296 ^ j := by
                      have h := natL_lt Hw.out.2.1
                      rw [Hw.out.2.2.2.1] at h
                      exact Nat.lt_trans (Nat.mod_lt _ HVp.out) h
                    obtain ⟨hc, hRm⟩ := dig_back hS Hfin.out.2 hR' hVlt
                    subst hc
                    have Hset := hI (show Out M (wy.setCell ⟨g, off + j, none⟩ (.int .u32 ((0 : Nat) : Int))) g (pre ++ ((dn ++ [0]) ++ post)) from by
                      have h := ho.set (i := off + j) (lt_get (by rw [← hix]; exact get_at pre dn 4294967295 post)) 0
                      rwa [← hix, put_at, hix] at h)
                    have Hm2 := hI (hm.setCell (p := ⟨g, off + j, none⟩) (Nat.le_refl _) (Nat.lt_succ_self _) (.int .u32 ((0 : Nat) : Int)))
                    have Hd3 := hI (And.intro hpre.out.1 hpre.out.2.1)
                    have hqQ := Hfin.out.1
                    have hQ32 : (Q : Int) % 4294967296 = (Q : Int) := by omega
                    have hqw2 : IntKind.u64.wrap ((q : Int) - 1) = (Q : Int) := (IntWalk.u64_in _ (by omega)).trans (by omega)
                    clear ho hm hpre hix hS hR' hVlt hqQ
                    go_wp2_with fail
                    go_ret
                    refine ⟨dn ++ [0], rfl, by exact Hset.out, by rw [List.length_append, Hd3.out.1]; rfl, Hd3.out.2.append (Dg.one (by decide)), ?_, by exact Hm2.out⟩
                    rw [natL_snoc, Nat.mul_zero, Nat.add_zero]
                    exact hRm
    · have Hrd := hI (show decide ((r : Int) < 4294967296) = false from decide_eq_false (by omega))
      have hqB2 : q < 4294967296 := by
        rcases Nat.lt_or_ge q 4294967296 with h | h
        · exact h
        · exact absurd (hpre.out.2.2 h) hrB
      have HX := hI (show Q = q ∨ Q + 1 = q by
        have h1 := Hex.out
        have h4 : q * v2 ≤ r * 4294967296 + u2 := by
          have h5 : q * v2 ≤ 4294967295 * 4294967295 := Nat.mul_le_mul (by omega) (by omega)
          omega
        have h2 := guess_fin (D := 4294967296 ^ n2) hpre.out.1 h4 hqB2 hv1p h1.2.2.2.2.1 (ur := natL (win.take n2))
        rw [← h1.1, h1.2.2.1.symm, ← h1.2.1] at h2
        have h3 := guess_eq HVp.out (by rw [HQ.out]; exact hpre.out.2.1) h2
        rw [HQ.out] at h3
        omega)
      go_wp2_with fail
      have hrd := Hrd.out
      refine wp_region_held_drew (S := (fun _ => True)) (by kernel_rfl) (by exact trivial) (fun hHeld => ?_)
      refine wpAnyH_take (i := 0) (v := ?v111) rfl (by kernel_rfl) (by kernel_rfl) (by kernel_rfl) (fun _ _ _ h => h) (Or.inl ⟨by rfl, ?hy111⟩) (by assumption) ?rest111
      case hy111 => (intro w hSw; (try dsimp only at hSw); go_simp; try (with_reducible rfl))
      try simp only [Act.put, List.getElem_toArray, List.getElem_cons_zero, List.setIfInBounds_toArray, List.set_cons_zero, List.set_cons_succ]
      refine' tk 1 ?_; (try simp only [tkS]); refine' tk 2 ?_; (try simp only [tkS]); refine' tkU 3 ?_; (try simp only [tkS]); refine' tkU 4 ?_; (try simp only [tkS]); refine' tkU 5 ?_; (try simp only [tkS]); refine' tkU 6 ?_; (try simp only [tkS]); refine' tkU 7 ?_; (try simp only [tkS]); refine' tkU 8 ?_; (try simp only [tkS]); refine' tkU 9 ?_; (try simp only [tkS]); refine' tkU 10 ?_; (try simp only [tkS]); refine' tkU 11 ?_; (try simp only [tkS]); refine' tkU 12 ?_; (try simp only [tkS]); refine' tkU 13 ?_; (try simp only [tkS]); refine' tkU 14 ?_; (try simp only [tkS]); refine' tkU 15 ?_; (try simp only [tkS]); refine' tkU 16 ?_; (try simp only [tkS]); refine' tkU 17 ?_; (try simp only [tkS]); refine' tkU 18 ?_; (try simp only [tkS]); refine' tkU 19 ?_; (try simp only [tkS]); refine' tkU 20 ?_; (try simp only [tkS]); refine' tkU 21 ?_; (try simp only [tkS]); refine' tkU 22 ?_; (try simp only [tkS]); refine' tkU 23 ?_; (try simp only [tkS]); refine' tkU 24 ?_; (try simp only [tkS]); refine' tk 25 ?_; (try simp only [tkS])
      refine tkD ?_ _
      clear d1 f1 f2 f3 f4 hrB hrd
      go_wp2_with fail
      go_loopw [9, 10, 11, 12, 13, 86] (fun cv bv _ _ _ kk wz => ∃ (k cr bo : Nat) (done : List Nat), k ≤ n ∧ kk = .int .i64 (k : Int) ∧ cv = .int .u64 (cr : Int) ∧ bv = .int .i64 (bo : Int) ∧ cr ≤ q ∧ bo ≤ 1 ∧ Mid g (g + 1) w wz ∧ Out M wz g (pre ++ (done ++ (win.drop k ++ post))) ∧ Hid (done.length = k ∧ Dg done ∧ natL (win.take k) + 4294967296 ^ k * (bo + cr) = natL done + q * natL (v.take k))) (fun _ _ _ _ _ kk _ => n - (intOf kk).toNat)
      case atStart => exact ⟨0, 0, 0, [], Nat.zero_le _, rfl, rfl, rfl, Nat.zero_le _, Nat.zero_le _, Hm.out.dn 1, Ho.out.below ((Below.refl _ _).dn 1), rfl, (fun d hd => by simp at hd), by simp [natL]⟩
      case round =>
        clear hpre Hm Ho
        rename World => wz
        obtain ⟨k, cr, bo, done, hk, rfl, rfl, rfl, hcr, hbo, hm, ho, hpre⟩ := hrel
        by_cases hlt : k < n
        · obtain ⟨d, hd⟩ : ∃ d, v[k]? = some d := ⟨v[k]'(by have := Hw.out.2.2.2.1; omega), by simp⟩
          obtain ⟨u, hu⟩ : ∃ u, win[k]? = some u := ⟨win[k]'(by have := Hw.out.2.2.1; omega), by simp⟩
          have dk := HV.out _ hm k d hd
          have hd32 := Hw.out.2.1 d (List.mem_of_getElem? hd)
          have hu32 := Hw.out.1 u (List.mem_of_getElem? hu)
          rw [drop_next hu, List.cons_append] at ho
          have hix : pre.length + done.length = off + k := by rw [Hpre.out, hpre.out.1]
          obtain ⟨ck, fk⟩ := ho.cell (get_at pre done u (win.drop (k + 1) ++ post))
          rw [hix] at ck fk
          obtain ⟨p, hp⟩ : ∃ p, q * d = p := ⟨_, rfl⟩
          have hpb : p ≤ 4294967295 * 4294967295 := by rw [← hp]; exact Nat.mul_le_mul (by omega) (by omega)
          obtain ⟨t, ht⟩ : ∃ t, cr + p = t := ⟨_, rfl⟩
          obtain ⟨low, hlow⟩ : ∃ low, t % 4294967296 = low := ⟨_, rfl⟩
          obtain ⟨c1, hc1⟩ : ∃ c1, t / 4294967296 = c1 := ⟨_, rfl⟩
          have hpi : (q : Int) * (d : Int) = (p : Int) := by rw [← hp]; push_cast; rfl
          have hpw : IntKind.u64.wrap (p : Int) = (p : Int) := IntWalk.u64_in _ (by omega)
          have htw : IntKind.u64.wrap ((cr : Int) + (p : Int)) = (t : Int) := (IntWalk.u64_in _ (by omega)).trans (by omega)
          have hlowi : (t : Int) % 4294967296 = (low : Int) := by omega
          have hc1i : (t : Int) / 4294967296 = (c1 : Int) := by omega
          have hlow32 : low < 4294967296 := by omega
          have hc1q : c1 ≤ q := by
            have := carry_le (q := q) hd32 hcr
            rw [hp, ht, hc1] at this
            exact this
          have hkn : (k : Int) < (n : Int) := by omega
          have hkn1 : (k : Int) < (n : Int) + 1 := by omega
          have hk0 : (0 : Int) ≤ (k : Int) := Int.natCast_nonneg _
          have Hc := hI (show cr + q * d = low + 4294967296 * c1 by rw [hp]; omega)
          have Hdu := hI (And.intro hd hu)
          have Hset := hI (fun (y : Nat) => (show Out M (wz.setCell ⟨g, off + k, none⟩ (.int .u32 (y : Int))) g (pre ++ ((done ++ [y]) ++ (win.drop (k + 1) ++ post))) from by
            have h := ho.set (i := off + k) (lt_get (by rw [← hix]; exact get_at pre done u (win.drop (k + 1) ++ post))) y
            rwa [← hix, put_at, hix] at h))
          have Hm2 := hI (fun (u : Value) => hm.setCell (p := ⟨g, off + k, none⟩) (Nat.le_refl _) (Nat.lt_succ_self _) u)
          have Hno := hI (And.intro hix (And.intro hp (And.intro ht (And.intro hlow hc1))))
          clear ho hm hix hp ht hlow hc1 hd hu
          by_cases hX : ((u : Int) - (bo : Int) - (low : Int)) < 0
          · obtain ⟨y, hy⟩ : ∃ y : Nat, ((u : Int) - (bo : Int) - (low : Int)) + 4294967296 = (y : Int) := ⟨(((u : Int) - (bo : Int) - (low : Int)) + 4294967296).toNat, by omega⟩
            have hy32 : y < 4294967296 := by omega
            have hmod : ((u : Int) - (bo : Int) - (low : Int)) % 4294967296 = (y : Int) := by omega
            have Hst := hI (sub_step (u := u) (bo' := 1) (r := y) hpre.out.2.2 Hc.out (by omega))
            clear hy
            go_wp2_with fail
            go_roundw
            case rel =>
              refine ⟨k + 1, c1, 1, done ++ [y], by omega, by go_num, rfl, rfl, hc1q, by decide, Hm2.out _, Hset.out y, by rw [List.length_append, hpre.out.1]; rfl, hpre.out.2.1.append (Dg.one hy32), ?_⟩
              rw [take_next Hdu.out.2, take_next Hdu.out.1, natL_snoc, hpre.out.1]
              exact Hst.out
            case measure => simp [intOf]; omega
          · obtain ⟨y, hy⟩ : ∃ y : Nat, ((u : Int) - (bo : Int) - (low : Int)) = (y : Int) := ⟨((u : Int) - (bo : Int) - (low : Int)).toNat, by omega⟩
            have hy32 : y < 4294967296 := by omega
            have Hst := hI (sub_step (u := u) (bo' := 0) (r := y) hpre.out.2.2 Hc.out (by omega))
            have hmod : ((u : Int) - (bo : Int) - (low : Int)) % 4294967296 = (y : Int) := by omega
            have hng : ¬ ((u : Int) - (bo : Int) - (low : Int)) < 0 := hX
            have Hy := hI hy
            clear hy
            go_wp2_with fail
            go_roundw
            case rel =>
              refine ⟨k + 1, c1, 0, done ++ [y], by omega, by go_num, rfl, rfl, hc1q, by decide, Hm2.out _, by rw [Hy.out]; exact Hset.out y, by rw [List.length_append, hpre.out.1]; rfl, hpre.out.2.1.append (Dg.one hy32), ?_⟩
              rw [take_next Hdu.out.2, take_next Hdu.out.1, natL_snoc, hpre.out.1]
              exact Hst.out
            case measure => simp [intOf]; omega
        · obtain rfl : k = n := by omega
          have hun := Hi.out.2.2.1
          have hdr : win.drop k = [un] := by
            rw [drop_next hun, List.drop_of_length_le (by rw [Hw.out.2.2.1]; exact Nat.le_refl _)]
          rw [hdr] at ho
          have hix : pre.length + done.length = off + k := by rw [Hpre.out, hpre.out.1]
          obtain ⟨ck, fk⟩ := ho.cell (get_at pre done un ([] ++ post))
          rw [hix] at ck fk
          have hU : natL win = natL (win.take k) + 4294967296 ^ k * un := by
            rw [← take_next hun, List.take_of_length_le (by rw [Hw.out.2.2.1]; exact Nat.le_refl _)]
          have hR : natL done < 4294967296 ^ k := by
            have h := natL_lt hpre.out.2.1
            rwa [hpre.out.1] at h
          have hVlt : natL v < 4294967296 ^ k := by
            have h := natL_lt Hw.out.2.1
            rwa [Hw.out.2.2.2.1] at h
          have hS := hpre.out.2.2
          rw [List.take_of_length_le (l := v) (by rw [Hw.out.2.2.2.1]; exact Nat.le_refl _)] at hS
          have Hset := hI (fun (y : Nat) => (show Out M (wz.setCell ⟨g, off + k, none⟩ (.int .u32 (y : Int))) g (pre ++ ((done ++ [y]) ++ post)) from by
            have h := ho.set (i := off + k) (lt_get (by rw [← hix]; exact get_at pre done un ([] ++ post))) y
            rw [← hix] at h
            rw [← hix]
            exact (put_at pre done un y ([] ++ post)) ▸ h))
          have Hm2 := hI (fun (u : Value) => hm.setCell (p := ⟨g, off + k, none⟩) (Nat.le_refl _) (Nat.lt_succ_self _) u)
          have Hd2 := hI (And.intro hpre.out.1 hpre.out.2.1)
          have hkn : (k : Int) < (k : Int) + 1 := by omega
          have hk0 : (0 : Int) ≤ (k : Int) := Int.natCast_nonneg _
          rcases HX.out with hq | hq
          · obtain ⟨hT, hRm⟩ := dig_fit hS hU hR (Nat.le_of_lt hVlt) HVp.out (by rw [HQ.out]; exact hq.symm)
            have hT0 : ((un : Int) - (bo : Int) - (cr : Int)) = ((0 : Nat) : Int) := by omega
            have Hfin := hI (And.intro hq hRm)
            have hq32 : (q : Int) % 4294967296 = (q : Int) := by omega
            have hunb : (un : Int) < 4294967296 := by omega
            clear ho hm hpre hdr hix hU hR hVlt hS hq hT hRm hun
            go_wp2_with fail
            go_ret
            refine ⟨done ++ [0], by rw [Hfin.out.1]; rfl, by exact Hset.out 0, by rw [List.length_append, Hd2.out.1]; rfl, Hd2.out.2.append (Dg.one (by decide)), ?_, by exact Hm2.out _⟩
            rw [natL_snoc, Nat.mul_zero, Nat.add_zero]
            exact Hfin.out.2
          · obtain ⟨hT, hRm⟩ := dig_over hS hU hR (Nat.le_of_lt hVlt) HVp.out (by rw [HQ.out]; exact hq.symm)
            have hT0 : ((un : Int) - (bo : Int) - (cr : Int)) = -1 := by omega
            have Hfin := hI (And.intro hq hRm)
            clear ho hm hpre hdr hix hU hR hVlt hS hq hT hRm hun
            have HO2 := hI (Hset.out 4294967295)
            have HM3 := hI (Hm2.out (.int .u32 4294967295))
            clear Hset Hm2
            go_wp2_with fail
            clear ck fk hT0
            go_loopw [9, 15, 16, 139] (fun cv _ _ kk wy => ∃ (j c1 : Nat) (dn : List Nat), j ≤ k ∧ kk = .int .i64 (j : Int) ∧ cv = .int .u64 (c1 : Int) ∧ c1 ≤ 1 ∧ Mid g (g + 1) w wy ∧ Out M wy g (pre ++ (dn ++ (done.drop j ++ (4294967295 :: post)))) ∧ Hid (dn.length = j ∧ Dg dn ∧ natL dn + 4294967296 ^ j * c1 = natL (done.take j) + natL (v.take j))) (fun _ _ _ kk _ => k - (intOf kk).toNat)
            case atStart => exact ⟨0, 0, [], Nat.zero_le _, rfl, rfl, by decide, HM3.out, by simpa using HO2.out, rfl, (fun d hd => by simp at hd), by simp [natL]⟩
            case round =>
              clear HO2 HM3
              rename World => wy
              obtain ⟨j, c1, dn, hj, rfl, rfl, hc1, hm, ho, hpre⟩ := hrel
              by_cases hlt2 : j < k
              · obtain ⟨d, hd⟩ : ∃ d, v[j]? = some d := ⟨v[j]'(by have := Hw.out.2.2.2.1; omega), by simp⟩
                obtain ⟨x, hx⟩ : ∃ x, done[j]? = some x := ⟨done[j]'(by have := Hd2.out.1; omega), by simp⟩
                have dk := HV.out _ hm j d hd
                have hd32 := Hw.out.2.1 d (List.mem_of_getElem? hd)
                have hx32 := Hd2.out.2 x (List.mem_of_getElem? hx)
                rw [drop_next hx, List.cons_append] at ho
                have hix : pre.length + dn.length = off + j := by rw [Hpre.out, hpre.out.1]
                obtain ⟨ck, fk⟩ := ho.cell (get_at pre dn x (done.drop (j + 1) ++ 4294967295 :: post))
                rw [hix] at ck fk
                obtain ⟨s, hs⟩ : ∃ s, x + d = s := ⟨_, rfl⟩
                obtain ⟨t, ht⟩ : ∃ t, c1 + s = t := ⟨_, rfl⟩
                obtain ⟨y, hy⟩ : ∃ y, t % 4294967296 = y := ⟨_, rfl⟩
                obtain ⟨c2, hc2⟩ : ∃ c2, t / 4294967296 = c2 := ⟨_, rfl⟩
                have hsw : IntKind.u64.wrap ((x : Int) + (d : Int)) = (s : Int) := (IntWalk.u64_in _ (by omega)).trans (by omega)
                have htw : IntKind.u64.wrap ((c1 : Int) + (s : Int)) = (t : Int) := (IntWalk.u64_in _ (by omega)).trans (by omega)
                have hyi : (t : Int) % 4294967296 = (y : Int) := by omega
                have hc2i : (t : Int) / 4294967296 = (c2 : Int) := by omega
                have hy32 : y < 4294967296 := by omega
                have hc21 : c2 ≤ 1 := by omega
                have hjk : (j : Int) < (k : Int) := by omega
                have hjk1 : (j : Int) < (k : Int) + 1 := by omega
                have hj0 : (0 : Int) ≤ (j : Int) := Int.natCast_nonneg _
                have Hst := hI (carry_step (T := x + d) (t := t) hpre.out.1 hpre.out.2.2 (by omega))
                rw [hy, hc2] at Hst
                have Hdu := hI (And.intro hd hx)
                have Hset := hI (show Out M (wy.setCell ⟨g, off + j, none⟩ (.int .u32 (y : Int))) g (pre ++ ((dn ++ [y]) ++ (done.drop (j + 1) ++ 4294967295 :: post))) from by
                  have h := ho.set (i := off + j) (lt_get (by rw [← hix]; exact get_at pre dn x (done.drop (j + 1) ++ 4294967295 :: post))) y
                  rwa [← hix, put_at, hix] at h)
                have Hm2 := hI (hm.setCell (p := ⟨g, off + j, none⟩) (Nat.le_refl _) (Nat.lt_succ_self _) (.int .u32 (y : Int)))
                clear ho hm hix hs ht hy hc2 hd hx
                go_wp2_with fail
                go_roundw
                case rel =>
                  refine ⟨j + 1, c2, dn ++ [y], by omega, by go_num, rfl, hc21, Hm2.out, Hset.out, by rw [List.length_append, hpre.out.1]; rfl, hpre.out.2.1.append (Dg.one hy32), ?_⟩
                  rw [take_next Hdu.out.2, take_next Hdu.out.1, Hst.out, Nat.mul_add]
                  omega
                case measure => simp [intOf]; omega
              · obtain rfl : j = k := by omega
                rw [List.drop_of_length_le (by rw [Hd2.out.1]; exact Nat.le_refl _), List.nil_append] at ho
                have hix : pre.length + dn.length = off + j := by rw [Hpre.out, hpre.out.1]
                obtain ⟨ck, fk⟩ := ho.cell (get_at pre dn 4294967295 post)
                rw [hix] at ck fk
                have hR' : natL dn < 4294967296 ^ j := by
                  have h := natL_lt hpre.out.2.1
                  rwa [hpre.out.1] at h
                have hS := hpre.out.2.2
                rw [List.take_of_length_le (l := v) (by rw [Hw.out.2.2.2.1]; exact Nat.le_refl _), List.take_of_length_le (l := done) (by rw [Hd2.out.1]; exact Nat.le_refl _)] at hS
                have hVlt : natL win % natL v < 4294967296 ^ j := by
                  have h := natL_lt Hw.out.2.1
                  rw [Hw.out.2.2.2.1] at h
                  exact Nat.lt_trans (Nat.mod_lt _ HVp.out) h
                obtain ⟨hc, hRm⟩ := dig_back hS Hfin.out.2 hR' hVlt
                subst hc
                have Hset := hI (show Out M (wy.setCell ⟨g, off + j, none⟩ (.int .u32 ((0 : Nat) : Int))) g (pre ++ ((dn ++ [0]) ++ post)) from by
                  have h := ho.set (i := off + j) (lt_get (by rw [← hix]; exact get_at pre dn 4294967295 post)) 0
                  rwa [← hix, put_at, hix] at h)
                have Hm2 := hI (hm.setCell (p := ⟨g, off + j, none⟩) (Nat.le_refl _) (Nat.lt_succ_self _) (.int .u32 ((0 : Nat) : Int)))
                have Hd3 := hI (And.intro hpre.out.1 hpre.out.2.1)
                have hqQ := Hfin.out.1
                have hQ32 : (Q : Int) % 4294967296 = (Q : Int) := by omega
                have hqw2 : IntKind.u64.wrap ((q : Int) - 1) = (Q : Int) := (IntWalk.u64_in _ (by omega)).trans (by omega)
                clear ho hm hpre hix hS hR' hVlt hqQ
                go_wp2_with fail
                go_ret
                refine ⟨dn ++ [0], rfl, by exact Hset.out, by rw [List.length_append, Hd3.out.1]; rfl, Hd3.out.2.append (Dg.one (by decide)), ?_, by exact Hm2.out⟩
                rw [natL_snoc, Nat.mul_zero, Nat.add_zero]
                exact hRm
end Go.Proofs.YtlcmhbkmpkcajaaGreatDoor
