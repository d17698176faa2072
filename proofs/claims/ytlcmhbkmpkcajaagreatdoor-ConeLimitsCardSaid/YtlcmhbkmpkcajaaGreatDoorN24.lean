/-
  Parts of the proof: Qd, Qi, Qe.
-/
import Derived.Test.YtlcmhbkmpkcajaaGreatDoorN21
import Derived.Test.YtlcmhbkmpkcajaaGreatDoorN23
namespace Go.Proofs.YtlcmhbkmpkcajaaGreatDoor
open Go.RowKit
theorem sum_sz {K : Nat} : ∀ (l : List Rat) (r : Rat) (m : Nat), Sz m r → (∀ x ∈ l, Sz K x) → Sz (m + l.length * (K + 1)) (l.foldl (· + ·) r)
  | [], _, _, h, _ => by simpa using h
  | x :: l, r, m, h, hl => by
    have h1 := sum_sz l (r + x) (m + K + 1) (h.add (hl x List.mem_cons_self)) (fun y hy => hl y (List.mem_cons_of_mem _ hy))
    rw [List.foldl_cons, List.length_cons]
    refine h1.mono ?_
    rw [Nat.add_mul]
    omega
def dotP (a b : List Rat) (k : Nat) : Rat := ((List.zipWith (· * ·) a b).take k).foldl (· + ·) 0
theorem dotP_step {a b : List Rat} {k : Nat} {r s : Rat} (hr : a[k]? = some r) (hs : b[k]? = some s) : dotP a b (k + 1) = dotP a b k + r * s := by
  unfold dotP
  have h : (List.zipWith (· * ·) a b)[k]? = some (r * s) := by rw [List.getElem?_zipWith, hr, hs]
  rw [List.take_add_one, h, List.foldl_append]
  rfl
theorem zip_sz {K : Nat} : ∀ {a b : List Rat}, (∀ x ∈ a, Sz K x) → (∀ x ∈ b, Sz K x) → ∀ x ∈ List.zipWith (· * ·) a b, Sz (K + K) x
  | [], _, _, _, x, hx => by simp at hx
  | _ :: _, [], _, _, x, hx => by simp at hx
  | y :: a, z :: b, ha, hb, x, hx => by
    rw [List.zipWith_cons_cons] at hx
    rcases List.mem_cons.1 hx with rfl | h
    · exact (ha y List.mem_cons_self).mul (hb z List.mem_cons_self)
    · exact zip_sz (fun u hu => ha u (List.mem_cons_of_mem _ hu)) (fun u hu => hb u (List.mem_cons_of_mem _ hu)) x h
theorem dotP_sz {K : Nat} {a b : List Rat} (ha : ∀ x ∈ a, Sz K x) (hb : ∀ x ∈ b, Sz K x) (k : Nat) : Sz (1 + k * (K + K + 1)) (dotP a b k) := by
  have h := sum_sz ((List.zipWith (· * ·) a b).take k) 0 1 ⟨by decide, by decide⟩ (fun x hx => zip_sz ha hb x (List.mem_of_mem_take hx))
  refine h.mono (Nat.add_le_add_left (Nat.mul_le_mul_right _ ?_) 1)
  rw [List.length_take]
  omega
theorem dotP_all {a b : List Rat} {n : Nat} (ha : a.length = n) : dotP a b n = dotV a b := by
  unfold dotP dotV
  rw [List.take_of_length_le]
  rw [List.length_zipWith]
  omega
set_option maxHeartbeats 8000000 in
set_option maxRecDepth 10000 in
theorem dot_g (u v : Value) (a b : List Rat) (n K : Nat) (w : World) (h : QV w u a) (h' : QV w v b) (ha : a.length = n) (hb : b.length = n) (hz : ∀ x ∈ a, Sz K x) (hz' : ∀ x ∈ b, Sz K x) (hK : (n + 1) * (K + K + 1) ≤ 40000) :
    Calls Tryz.prog 22 #[u, v] w (RetP (fun x w' => RQ w' x (dotV a b)) w) := by
  have HA := hI (fun (W : World) (x y : Value) (k : Nat) (r s : Rat) (hr : a[k]? = some r) (hs : b[k]? = some s) (hu : RQ W x (dotP a b k)) (hx : RQ W y (r * s)) => show Calls Tryz.prog 32 #[x, y] W (RetP (fun z w' => RQ w' z (dotP a b (k + 1))) W) from by
    rw [dotP_step hr hs]
    have hk := lt_of_get hr
    have h1 : k * (K + K + 1) ≤ n * (K + K + 1) := Nat.mul_le_mul_right _ (by omega)
    rw [Nat.add_mul] at hK
    exact radd_g x y _ _ (1 + k * (K + K + 1)) (K + K) W hu hx (dotP_sz hz hz' k) ((hz r (List.mem_of_getElem? hr)).mul (hz' s (List.mem_of_getElem? hs))) (by omega))
  have HM := hI (fun (W : World) (x y : Value) (k : Nat) (r s : Rat) (hr : a[k]? = some r) (hs : b[k]? = some s) (hu : RQ W x r) (hx : RQ W y s) => rmul_g x y r s K K W hu hx (hz r (List.mem_of_getElem? hr)) (hz' s (List.mem_of_getElem? hs)) (by rw [Nat.add_mul] at hK; omega))
  have HSg := hI (fun W v r (hv : RQ W v r) => show Calls Tryz.prog 23 #[v] W (Ret (.int .i64 r.num.sign) W) from by
    obtain ⟨q, h, -⟩ := hv
    exact rsign_any v _ q W h)
  have HF := hI (dotP_all (b := b) ha)
  have HStep := hI (fun k r s (hr : a[k]? = some r) (hs : b[k]? = some s) => dotP_step hr hs)
  obtain ⟨ad, cap, rfl, hc1, hc2⟩ := h.open
  obtain ⟨ad', cap', rfl, hc1', hc2'⟩ := h'.open
  rw [ha] at h hc1 ⊢
  rw [hb] at h' hc1' ⊢
  unfold maxLen at hc2
  have HX := hI h
  have HY := hI h'
  have H0 := hI (show dotP a b 0 = 0 from rfl)
  clear h h' hz hz' hK ha hb
  have HZ := hI (fun W => (show RQ W (.agg #[.bool false, .slice none 0 0, .bool false, .slice none 0 0]) 0 from ⟨0, RatV.zero W, rfl⟩))
  go_enter Tryz.func22, Tryz.ntmps22
  go_wp2_with fail
  have HB2 := hI (below1 w (.cells #[.bool false, .slice none 0 0, .bool false, .slice none 0 0] 61))
  have hb5 : Blk ((w.alloc (.cells #[.bool false, .slice none 0 0, .bool false, .slice none 0 0] 61)).alloc (.cells #[.bool false, .slice none 0 0, .bool false, .slice none 0 0] 61)) (w.heap.size + 1) #[.bool false, .slice none 0 0, .bool false, .slice none 0 0] 61 := by
    have h := Blk.new (w.alloc (.cells #[.bool false, .slice none 0 0, .bool false, .slice none 0 0] 61)) #[.bool false, .slice none 0 0, .bool false, .slice none 0 0] 61
    simpa using h
  have HR4 := hI (fun w' (hb : Below (w.alloc (.cells #[.bool false, .slice none 0 0, .bool false, .slice none 0 0] 61)).heap.size (w.alloc (.cells #[.bool false, .slice none 0 0, .bool false, .slice none 0 0] 61)) w') => (Blk.new w #[.bool false, .slice none 0 0, .bool false, .slice none 0 0] 61).below hb)
  go_loopw [10] (fun i wr => ∃ (k : Nat) (x : Bool) (e : Option Addr) (m c : Nat) (x' : Bool) (e' : Option Addr) (m' c' : Nat), k ≤ n ∧ i = .int .i64 (k : Int) ∧ Below (w.alloc (.cells #[.bool false, .slice none 0 0, .bool false, .slice none 0 0] 61)).heap.size (w.alloc (.cells #[.bool false, .slice none 0 0, .bool false, .slice none 0 0] 61)) wr ∧ Blk wr (w.heap.size + 1) #[.bool x, .slice e m c, .bool x', .slice e' m' c'] 61 ∧ Hid (RQ wr (.agg #[.bool x, .slice e m c, .bool x', .slice e' m' c']) (dotP a b k))) (fun i _ => n - (intOf i).toNat)
  case atStart => exact ⟨0, false, none, 0, 0, false, none, 0, 0, by omega, rfl, below1 _ _, hb5, by rw [H0.out]; exact HZ.out _⟩
  case round =>
    obtain ⟨k, x, e, m, c, x', e', m', c', hk, rfl, hbw, hblk, hq⟩ := hrel
    have Hbw := hI hbw
    have Hblk := hI hblk
    have Hq := hI hq.out
    have hbx : Below w.heap.size w wr := HB2.out.via hbw HB2.out.size
    have Hbx := hI hbx
    obtain ⟨⟨q0, q1, q2, q3⟩, -⟩ := blk4v hblk
    rcases Nat.lt_or_ge k n with hlt | hge
    · obtain ⟨b1, o1, y, d, p, g, y', d', p', g', r, rfl, hr, hR, z0, z1, z2, z3⟩ := HX.out.at hbx hlt
      obtain ⟨b2, o2, t, f, l, j, t', f', l', j', s, rfl, hs, hS, y0, y1, y2, y3⟩ := HY.out.at hbx hlt
      have hkn : (k : Int) < (n : Int) := by omega
      have hk0 : (0 : Int) ≤ (k : Int) := Int.natCast_nonneg _
      have hkw : IntKind.i64.wrap ((k : Int) + 1) = (k : Int) + 1 := IntWalk.i64_in _ (by omega)
      have HSx := hI (fun W (hb : Below wr.heap.size wr W) => HSg.out W _ r (hR.mono hb))
      have HSy := hI (fun W (hb : Below wr.heap.size wr W) => HSg.out W _ s (hS.mono hb))
      have HMx := hI (fun W (hb : Below wr.heap.size wr W) => HM.out W _ _ k r s hr hs (hR.mono hb) (hS.mono hb))
      have HAx := hI (fun W z (hb : Below wr.heap.size wr W) (hz : RQ W z (r * s)) => HA.out W _ z k r s hr hs (Hq.out.mono hb) hz)
      have HSt := hI (HStep.out k r s hr hs)
      have HS0 := hI (fun w' (hb : Below wr.heap.size wr w') => show (fun w' => w'.cell? ⟨w.heap.size + 1, 0, none⟩ = some (.bool x) ∧ w'.cell? ⟨w.heap.size + 1, 1, none⟩ = some (.slice e m c) ∧ w'.cell? ⟨w.heap.size + 1, 2, none⟩ = some (.bool x') ∧ w'.cell? ⟨w.heap.size + 1, 3, none⟩ = some (.slice e' m' c') ∧ w'.cell? ⟨b1, o1 + k * 4, none⟩ = some (.bool y) ∧ w'.cell? ⟨b1, o1 + k * 4 + 1, none⟩ = some (.slice d p g) ∧ w'.cell? ⟨b1, o1 + k * 4 + 2, none⟩ = some (.bool y') ∧ w'.cell? ⟨b1, o1 + k * 4 + 3, none⟩ = some (.slice d' p' g') ∧ w'.cell? ⟨b2, o2 + k * 4, none⟩ = some (.bool t) ∧ w'.cell? ⟨b2, o2 + k * 4 + 1, none⟩ = some (.slice f l j) ∧ w'.cell? ⟨b2, o2 + k * 4 + 2, none⟩ = some (.bool t') ∧ w'.cell? ⟨b2, o2 + k * 4 + 3, none⟩ = some (.slice f' l' j')) w' from ⟨cell_keep hb q0, cell_keep hb q1, cell_keep hb q2, cell_keep hb q3, cell_keep hb z0, cell_keep hb z1, cell_keep hb z2, cell_keep hb z3, cell_keep hb y0, cell_keep hb y1, cell_keep hb y2, cell_keep hb y3⟩)
      clear hR hS hr hs hblk hq hbw hbx
      by_cases hr0 : r = 0
      · subst hr0
        have e0 : ((0 : Rat).num.sign != 0) = false := rfl
        generalize (0 : Rat).num.sign = sg at HSx e0
        go_wp2_with (go_at_call 23; refine (HSx.out _ (Below.refl _ _)).mono ?_; rintro z5 w5 ⟨rfl, hb5⟩; have Hb5 := hI hb5; clear hb5)
        go_roundw
        case rel => exact ⟨k + 1, x, e, m, c, x', e', m', c', by omega, by go_num, bw_via Hbw.out Hb5.out, Hblk.out.below Hb5.out, by rw [HSt.out, Rat.zero_mul, Rat.add_zero]; exact Hq.out.mono Hb5.out⟩
        case measure => simp [intOf] <;> omega
      · have er : (r.num.sign != 0) = true := by simpa [Int.sign_eq_zero_iff_zero, Rat.num_eq_zero] using hr0
        by_cases hs0 : s = 0
        · subst hs0
          have e0 : ((0 : Rat).num.sign != 0) = false := rfl
          generalize (0 : Rat).num.sign = sg at HSy e0
          generalize r.num.sign = sr at HSx er
          go_wp2_with (first
            | (have _t := hb5; clear _t; go_at_call 23; refine (HSy.out _ hb5).mono ?_; rintro z6 w6 ⟨rfl, hb6⟩; have Hb56 := hI (bw_via hb5 hb6); clear hb5 hb6 y0 y1 y2 y3)
            | (go_at_call 23; refine (HSx.out _ (Below.refl _ _)).mono ?_; rintro z5 w5 ⟨rfl, hb5⟩; have y0 := cell_keep hb5 y0; have y1 := cell_keep hb5 y1; have y2 := cell_keep hb5 y2; have y3 := cell_keep hb5 y3))
          go_roundw
          case rel => exact ⟨k + 1, x, e, m, c, x', e', m', c', by omega, by go_num, bw_via Hbw.out Hb56.out, Hblk.out.below Hb56.out, by rw [HSt.out, Rat.mul_zero, Rat.add_zero]; exact Hq.out.mono Hb56.out⟩
          case measure => simp [intOf] <;> omega
        · have es : (s.num.sign != 0) = true := by simpa [Int.sign_eq_zero_iff_zero, Rat.num_eq_zero] using hs0
          generalize s.num.sign = ss at HSy es
          generalize r.num.sign = sr at HSx er
          go_wp2_with (first
            | (have _t := hb5; clear _t; go_at_call 23; refine (HSy.out _ hb5).mono ?_; rintro z6 w6 ⟨rfl, hb6⟩; have Hb56 := hI (bw_via hb5 hb6); clear hb5 hb6 y0 y1 y2 y3)
            | (go_at_call 23; refine (HSx.out _ (Below.refl _ _)).mono ?_; rintro z5 w5 ⟨rfl, hb5⟩; have y0 := cell_keep hb5 y0; have y1 := cell_keep hb5 y1; have y2 := cell_keep hb5 y2; have y3 := cell_keep hb5 y3))
          refine wp_region_pop (S := (fun w' => w'.cell? ⟨w.heap.size + 1, 0, none⟩ = some (.bool x) ∧ w'.cell? ⟨w.heap.size + 1, 1, none⟩ = some (.slice e m c) ∧ w'.cell? ⟨w.heap.size + 1, 2, none⟩ = some (.bool x') ∧ w'.cell? ⟨w.heap.size + 1, 3, none⟩ = some (.slice e' m' c') ∧ w'.cell? ⟨b1, o1 + k * 4, none⟩ = some (.bool y) ∧ w'.cell? ⟨b1, o1 + k * 4 + 1, none⟩ = some (.slice d p g) ∧ w'.cell? ⟨b1, o1 + k * 4 + 2, none⟩ = some (.bool y') ∧ w'.cell? ⟨b1, o1 + k * 4 + 3, none⟩ = some (.slice d' p' g') ∧ w'.cell? ⟨b2, o2 + k * 4, none⟩ = some (.bool t) ∧ w'.cell? ⟨b2, o2 + k * 4 + 1, none⟩ = some (.slice f l j) ∧ w'.cell? ⟨b2, o2 + k * 4 + 2, none⟩ = some (.bool t') ∧ w'.cell? ⟨b2, o2 + k * 4 + 3, none⟩ = some (.slice f' l' j'))) 11 (by kernel_rfl) (by kernel_rfl) (by exact (HS0.out _ (Hb56.out.dn 1))) (fun hHeld => ?_)
          simp only [List.take_succ_cons, List.take_zero, List.drop_succ_cons, List.drop_zero]
          refine' tk 0 ?_; (try simp only [tkS]); refine' tk 1 ?_; (try simp only [tkS]); refine' tk 2 ?_; (try simp only [tkS]); refine' tk 3 ?_; (try simp only [tkS]); refine' tk 4 ?_; (try simp only [tkS]); refine' tk 5 ?_; (try simp only [tkS]); refine' tk 6 ?_; (try simp only [tkS]); refine' tk 7 ?_; (try simp only [tkS]); refine' tk 8 ?_; (try simp only [tkS])
          refine tk1 9 (fun K hK => ?_)
          go_simp
          go_at_call 33
          refine (HMx.out _ (Hb56.out.dn 1)).mono ?_
          rintro e5 w9 ⟨v9, rfl, hv9, hb9⟩
          have Hb9 := hI (bw_via (Hb56.out.dn 1) hb9)
          have Hv9 := hI hv9
          clear hv9
          clear hb9
          refine hK.out _ _ (by exact (HS0.out _ (Hb9.out))) (fun hHeld => ?_)
          clear hK K; (try simp only [tkS])
          refine tk1 10 (fun K hK => ?_)
          go_simp
          go_at_call 32
          refine (HAx.out _ _ (Hb9.out) (Hv9.out)).mono ?_
          rintro e5 w10 ⟨v10, rfl, hv10, hb10⟩
          have Hv9 := hI (Hv9.out.mono hb10)
          have Hb10 := hI (bw_via (Hb9.out) hb10)
          have Hv10 := hI hv10
          clear hv10
          clear hb10
          refine hK.out _ _ (by exact (HS0.out _ (Hb10.out))) (fun hHeld => ?_)
          clear hK K; (try simp only [tkS])
          refine tkD ?_ _
          simp only [Exit.then]
          obtain ⟨x5, a5, n5, c5, x6, a6, n6, c6, rfl, hv⟩ := Hv10.out.open
          have hr := Hblk.out.below (Hb10.out)
          obtain ⟨⟨r0, r1, r2, r3⟩, f0, f1, f2, f3⟩ := blk4v hr
          obtain ⟨hv6, hb7⟩ := RQ.put4 hv hr
          have Hv6 := hI hv6
          have Hb7 := hI hb7
          have Hbel := hI (put_below4 (b := w.heap.size + 1) (.bool x5) (.slice a5 n5 c5) (.bool x6) (.slice a6 n6 c6) (Hbw.out.via Hb10.out Hbw.out.size) (by simp))
          clear hv6 hb7 hr hv
          go_wp2_with fail
          go_roundw
          case rel => exact ⟨k + 1, x5, a5, n5, c5, x6, a6, n6, c6, by omega, by go_num, Hbel.out, Hb7.out, Hv6.out⟩
          case measure => simp [intOf] <;> omega
    · obtain rfl : k = n := by omega
      have hkn : ¬ (k : Int) < (k : Int) := by omega
      have hres := HR4.out _ hbw
      obtain ⟨⟨r0, r1, r2, r3⟩, f0, f1, f2, f3⟩ := blk4v hres
      obtain ⟨hv6, hb7⟩ := RQ.put4 (show RQ wr (.agg #[.bool x, .slice e m c, .bool x', .slice e' m' c']) (dotV a b) from by rw [← HF.out]; exact Hq.out) hres
      have Hv6 := hI hv6
      have Hb7 := hI hb7
      have Hbel := hI (put_below4 (b := w.heap.size) (.bool x) (.slice e m c) (.bool x') (.slice e' m' c') hbx (Nat.le_refl _))
      clear hv6 hb7 hres hbw hblk hq hbx
      go_wp2_with fail
      obtain ⟨⟨s0, s1, s2, s3⟩, -⟩ := blk4v Hb7.out
      exact bodyPost_ret (v := .agg #[.bool x, .slice e m c, .bool x', .slice e' m' c']) (by simp [results, Tryz.results22, go_sem, s0, s1, s2, s3]) rfl ⟨_, rfl, Hv6.out, Hbel.out⟩
end Go.Proofs.YtlcmhbkmpkcajaaGreatDoor
namespace Go.Proofs.YtlcmhbkmpkcajaaGreatDoor
open Go.RowKit
theorem div_sz {k l : Nat} {r s : Rat} (h : Sz k r) (h' : Sz l s) (hs : s ≠ 0) : Sz (k + l) (r / s) := by
  have m1 := ten_mul h.1 h'.2
  have m2 := ten_mul h.2 h'.1
  have hp : r.den * s.num.natAbs ≠ 0 := Nat.mul_ne_zero (Nat.ne_of_gt r.den_pos) (by rw [Ne, Int.natAbs_eq_zero, Rat.num_eq_zero]; exact hs)
  rcases (Rat.le_total : (0 : Rat) ≤ s ∨ s ≤ 0) with h1 | h1
  · rw [rat_div_mk (Rat.lt_of_le_of_ne h1 (Ne.symm hs))]
    exact Sz.mk hp (by rw [Int.natAbs_mul, Int.natAbs_natCast]; exact m1) m2
  · rw [rat_div_neg (Rat.lt_of_le_of_ne h1 hs)]
    exact Sz.mk hp (by rw [Int.natAbs_neg, Int.natAbs_mul, Int.natAbs_natCast]; exact m1) m2
theorem szOne {k : Nat} (h : k ≠ 0) : Sz k 1 := ⟨Nat.one_lt_pow h (by decide), Nat.one_lt_pow h (by decide)⟩
set_option maxHeartbeats 8000000 in
set_option maxRecDepth 10000 in
theorem into_g (u rv lv : Value) (X P L : Nat) (x row line : List Rat) (p : Rat) (n : Nat) (xp : Bool) (ap : Option Addr) (np cp : Nat) (yp : Bool) (ep : Option Addr) (lp dp : Nat) (w : World) (hn : n ≤ 8) (h : QV w u x) (hr : QV w rv row) (hl : QV w lv line) (hp : RQ w (.agg #[.bool xp, .slice ap np cp, .bool yp, .slice ep lp dp]) p) (hp0 : p ≠ 0)
    (fx : FitV n x) (fr : FitV n row) (fl : FitV n line) (fp : Sz 1700 p) (hX : w.cell? ⟨X, 0, none⟩ = some rv) (hL : w.cell? ⟨L, 0, none⟩ = some lv) (hP : w.cell? ⟨P, 0, none⟩ = some (.bool xp) ∧ w.cell? ⟨P, 1, none⟩ = some (.slice ap np cp) ∧ w.cell? ⟨P, 2, none⟩ = some (.bool yp) ∧ w.cell? ⟨P, 3, none⟩ = some (.slice ep lp dp)) :
    Calls Tryz.prog 75 #[u, .pointer (some ⟨X, 0, none⟩), .pointer (some ⟨P, 0, none⟩), .pointer (some ⟨L, 0, none⟩)] w (RetP (fun y w' => QV w' y (intoV row line p x)) w) := by
  have hdz : Sz 1700 (dotV row x) := by
    have h1 := dotP_sz (K := 100) fr.2 fx.2 n
    rw [dotP_all fr.1] at h1
    exact h1.mono (by have := Nat.mul_le_mul_right 201 hn; omega)
  have hkz : Sz 3400 (-(dotV row x / p)) := (div_sz hdz fp hp0).neg
  have HDt := hI (fun w' (hb : Below w.heap.size w w') => dot_g rv u row x n 100 w' (hr.mono hb) (h.mono hb) fr.1 fx.1 fr.2 fx.2 (by have := Nat.mul_le_mul_right 201 (Nat.succ_le_succ hn); omega))
  have HDv := hI (fun w' v (hb : Below w.heap.size w w') (hv : RQ w' v (dotV row x)) => rdiv_z v _ (dotV row x) p 1700 1700 w' hv (hp.mono hb) hdz fp (by omega) hp0)
  have HNg := hI (fun w' v (hv : RQ w' v (dotV row x / p)) => rneg_g v _ w' hv)
  have HMx := hI (fun w' v1 v2 (hb : Below w.heap.size w w') (h1 : RQ w' v1 1) (h2 : RQ w' v2 (-(dotV row x / p))) => mix_g u v1 lv v2 x line 1 _ n 100 3400 w' (h.mono hb) h1 (hl.mono hb) h2 fx.1 fl.1 fx.2 fl.2 (szOne (by decide)) hkz (by omega) (by omega))
  have HF := hI (fun w' => show Calls Tryz.prog 39 #[.int .i64 1] w' (RetP (fun v w' => RQ w' v 1) w') from (rfrom_any 1 w' (by omega) (by omega)).mono fun e w2 ⟨v, he, hv, hb⟩ => ⟨v, he, ⟨0, hv, rfl⟩, hb⟩)
  have HIn := hI (show mixV x 1 line (-(dotV row x / p)) = intoV row line p x from rfl)
  obtain ⟨ua, uc, rfl, -, -⟩ := h.open
  obtain ⟨ra, rc, rfl, -, -⟩ := hr.open
  obtain ⟨la, lc, rfl, -, -⟩ := hl.open
  obtain ⟨g0, g1, g2, g3⟩ := hP
  have HS1 := hI (fun w' (hb : Below w.heap.size w w') => show (fun w' => w'.cell? ⟨X, 0, none⟩ = some (.slice ra row.length rc) ∧ w'.cell? ⟨P, 0, none⟩ = some (.bool xp) ∧ w'.cell? ⟨P, 1, none⟩ = some (.slice ap np cp) ∧ w'.cell? ⟨P, 2, none⟩ = some (.bool yp) ∧ w'.cell? ⟨P, 3, none⟩ = some (.slice ep lp dp)) w' from ⟨cell_keep hb hX, cell_keep hb g0, cell_keep hb g1, cell_keep hb g2, cell_keep hb g3⟩)
  have HLc := hI (fun w' (hb : Below w.heap.size w w') => cell_keep hb hL)
  generalize mixV x 1 line (-(dotV row x / p)) = res at *
  rw [← HIn.out]
  generalize dotV row x = dv at *
  generalize dv / p = qv at *
  clear h hr hl hp fx fr fl fp hX hL hdz hkz g0 g1 g2 g3 hp0
  go_enter Tryz.func75, Tryz.ntmps75
  go_wp2_with fail
  go_cut [6, 7] from 8 to 15 (fun s6 _ wx => ∃ (B : Nat) (xk : Bool) (ak : Option Addr) (nk ck : Nat) (yk : Bool) (ek : Option Addr) (lk dk : Nat), s6 = .pointer (some ⟨B, 0, none⟩) ∧ Below w.heap.size w wx ∧ Blk wx B #[.bool xk, .slice ak nk ck, .bool yk, .slice ek lk dk] 61 ∧ Hid (RQ wx (.agg #[.bool xk, .slice ak nk ck, .bool yk, .slice ek lk dk]) qv))
  case first =>
    refine wp_region_held_drew (S := (fun w' => w'.cell? ⟨X, 0, none⟩ = some (.slice ra row.length rc) ∧ w'.cell? ⟨P, 0, none⟩ = some (.bool xp) ∧ w'.cell? ⟨P, 1, none⟩ = some (.slice ap np cp) ∧ w'.cell? ⟨P, 2, none⟩ = some (.bool yp) ∧ w'.cell? ⟨P, 3, none⟩ = some (.slice ep lp dp))) (by kernel_rfl) (by exact (HS1.out _ ((Below.refl _ _).drew))) (fun hHeld => ?_)
    refine' tk 0 ?_; (try simp only [tkS]); refine' tk 1 ?_; (try simp only [tkS]); refine' tk 3 ?_; (try simp only [tkS])
    refine wpAnyH_ready (rs := [2, 8]) (by kernel_rfl) (by simp) ?_
    refine AllReadyH.cons rfl (fun K hK => ?_) (AllReadyH.cons rfl (fun K hK => ?_) AllReadyH.nil)
    · go_simp
      go_at_call 22
      refine (HDt.out _ ((Below.refl _ _).drew)).mono ?_
      rintro e5 w11 ⟨v11, rfl, hv11, hb11⟩
      have Hb11 := hI (bw_via ((Below.refl _ _).drew) hb11)
      have Hv11 := hI hv11
      clear hv11 hb11
      refine hK.out _ _ (by exact (HS1.out _ (Hb11.out))) (fun hHeld => ?_)
      clear hK K; (try simp only [tkS])
      refine wpAnyH_ready (rs := [4, 8]) (by kernel_rfl) (by simp) ?_
      refine AllReadyH.cons rfl (fun K hK => ?_) (AllReadyH.cons rfl (fun K hK => ?_) AllReadyH.nil)
      · go_simp
        go_at_call 76
        refine (HDv.out _ _ (Hb11.out) Hv11.out).mono ?_
        rintro e5 w13 ⟨v13, rfl, ⟨r0, rfl, hv13⟩, hb13⟩
        obtain ⟨xk, ak, nk, ck, yk, ek, lk, dk, rfl, hv13⟩ := hv13.open
        have Hb13 := hI (bw_via (Hb11.out) hb13)
        have Hv11 := hI (Hv11.out.mono hb13)
        have Hv13 := hI hv13
        clear hv13 hb13
        refine hK.out _ _ (by exact (HS1.out _ (Hb13.out))) (fun hHeld => ?_)
        clear hK K; (try simp only [tkS])
        refine' tk 5 ?_; (try simp only [tkS]); refine' tk 6 ?_; (try simp only [tkS]); refine' tk 7 ?_; (try simp only [tkS])
        refine tk1 8 (fun K hK => ?_)
        go_simp
        have Hv11 := hI (Hv11.out.mono (below1 w13 (.cells #[.bool false, .slice none 0 0, .bool false, .slice none 0 0] 61)))
        have Hv13 := hI (Hv13.out.mono (below1 w13 (.cells #[.bool false, .slice none 0 0, .bool false, .slice none 0 0] 61)))
        have HP8 := hI (Blk.new w13 #[.bool false, .slice none 0 0, .bool false, .slice none 0 0] 61)
        have HLHP8 := hI (show w.heap.size ≤ w13.heap.size from (show Below w.heap.size w w13 from Hb13.out).size)
        have HbA8 := hI (show Below w.heap.size w (w13.alloc (.cells #[.bool false, .slice none 0 0, .bool false, .slice none 0 0] 61)) from bwA (Hb13.out) _)
        refine hK.out _ _ (by exact (HS1.out _ (HbA8.out))) (fun hHeld => ?_)
        clear hK K; (try simp only [tkS])
        generalize (w13.alloc (.cells #[.bool false, .slice none 0 0, .bool false, .slice none 0 0] 61)) = wA8 at *
        refine tk1 9 (fun K hK => ?_)
        have hSk := (HS1.out _ (HbA8.out))
        obtain ⟨⟨q0, q1, q2, q3⟩, f0, f1, f2, f3⟩ := blk4v HP8.out
        obtain ⟨hv6, hb7⟩ := RQ.put4 Hv13.out HP8.out
        have HV6 := hI hv6
        have HB7 := hI hb7
        have HW7 := hI (put_below4 (b := w13.heap.size) (.bool xk) (.slice ak nk ck) (.bool yk) (.slice ek lk dk) (HbA8.out) HLHP8.out)
        clear hSk
        clear hv6 hb7
        go_simp
        refine hK.out _ _ (by exact (HS1.out _ (HW7.out))) (fun hHeld => ?_)
        clear hK K; (try simp only [tkS])
        refine' tk 10 ?_; (try simp only [tkS])
        refine tkD ?_ _
        go_wp2_with fail
        go_meet
        exact ⟨_, xk, ak, nk, ck, yk, ek, lk, dk, rfl, HW7.out, HB7.out, HV6.out⟩
      · go_simp
        have Hv11 := hI (Hv11.out.mono (below1 w11 (.cells #[.bool false, .slice none 0 0, .bool false, .slice none 0 0] 61)))
        have HP8 := hI (Blk.new w11 #[.bool false, .slice none 0 0, .bool false, .slice none 0 0] 61)
        have HLHP8 := hI (show w.heap.size ≤ w11.heap.size from (show Below w.heap.size w w11 from Hb11.out).size)
        have HbA8 := hI (show Below w.heap.size w (w11.alloc (.cells #[.bool false, .slice none 0 0, .bool false, .slice none 0 0] 61)) from bwA (Hb11.out) _)
        refine hK.out _ _ (by exact (HS1.out _ (HbA8.out))) (fun hHeld => ?_)
        clear hK K; (try simp only [tkS])
        generalize (w11.alloc (.cells #[.bool false, .slice none 0 0, .bool false, .slice none 0 0] 61)) = wA8 at *
        refine tk1 4 (fun K hK => ?_)
        go_simp
        go_at_call 76
        refine (HDv.out _ _ (HbA8.out) Hv11.out).mono ?_
        rintro e5 w13 ⟨v13, rfl, ⟨r0, rfl, hv13⟩, hb13⟩
        obtain ⟨xk, ak, nk, ck, yk, ek, lk, dk, rfl, hv13⟩ := hv13.open
        have Hb13 := hI (bw_via (HbA8.out) hb13)
        have Hv11 := hI (Hv11.out.mono hb13)
        have HP8 := hI (HP8.out.below hb13)
        have Hv13 := hI hv13
        clear hv13 hb13
        refine hK.out _ _ (by exact (HS1.out _ (Hb13.out))) (fun hHeld => ?_)
        clear hK K; (try simp only [tkS])
        refine' tk 5 ?_; (try simp only [tkS]); refine' tk 6 ?_; (try simp only [tkS]); refine' tk 7 ?_; (try simp only [tkS])
        refine tk1 9 (fun K hK => ?_)
        have hSk := (HS1.out _ (Hb13.out))
        obtain ⟨⟨q0, q1, q2, q3⟩, f0, f1, f2, f3⟩ := blk4v HP8.out
        obtain ⟨hv6, hb7⟩ := RQ.put4 Hv13.out HP8.out
        have HV6 := hI hv6
        have HB7 := hI hb7
        have HW7 := hI (put_below4 (b := w11.heap.size) (.bool xk) (.slice ak nk ck) (.bool yk) (.slice ek lk dk) (Hb13.out) HLHP8.out)
        clear hSk
        clear hv6 hb7
        go_simp
        refine hK.out _ _ (by exact (HS1.out _ (HW7.out))) (fun hHeld => ?_)
        clear hK K; (try simp only [tkS])
        refine' tk 10 ?_; (try simp only [tkS])
        refine tkD ?_ _
        go_wp2_with fail
        go_meet
        exact ⟨_, xk, ak, nk, ck, yk, ek, lk, dk, rfl, HW7.out, HB7.out, HV6.out⟩
    · go_simp
      have HP8 := hI (show Blk (w.alloc (.cells #[.bool false, .slice none 0 0, .bool false, .slice none 0 0] 61)).drew w.heap.size #[.bool false, .slice none 0 0, .bool false, .slice none 0 0] 61 from (Blk.new w #[.bool false, .slice none 0 0, .bool false, .slice none 0 0] 61).below (Below.refl _ _).drew)
      have HLHP8 := hI (show w.heap.size ≤ w.heap.size from (show Below w.heap.size w w.drew from (Below.refl _ _).drew).size)
      have HbA8 := hI (show Below w.heap.size w (w.alloc (.cells #[.bool false, .slice none 0 0, .bool false, .slice none 0 0] 61)).drew from bwA ((Below.refl _ _).drew) _)
      refine hK.out _ _ (by exact (HS1.out _ (HbA8.out))) (fun hHeld => ?_)
      clear hK K; (try simp only [tkS])
      generalize (w.alloc (.cells #[.bool false, .slice none 0 0, .bool false, .slice none 0 0] 61)).drew = wA8 at *
      refine tk1 2 (fun K hK => ?_)
      go_simp
      go_at_call 22
      refine (HDt.out _ (HbA8.out)).mono ?_
      rintro e5 w11 ⟨v11, rfl, hv11, hb11⟩
      have Hb11 := hI (bw_via (HbA8.out) hb11)
      have HP8 := hI (HP8.out.below hb11)
      have Hv11 := hI hv11
      clear hv11 hb11
      refine hK.out _ _ (by exact (HS1.out _ (Hb11.out))) (fun hHeld => ?_)
      clear hK K; (try simp only [tkS])
      refine tk1 4 (fun K hK => ?_)
      go_simp
      go_at_call 76
      refine (HDv.out _ _ (Hb11.out) Hv11.out).mono ?_
      rintro e5 w13 ⟨v13, rfl, ⟨r0, rfl, hv13⟩, hb13⟩
      obtain ⟨xk, ak, nk, ck, yk, ek, lk, dk, rfl, hv13⟩ := hv13.open
      have Hb13 := hI (bw_via (Hb11.out) hb13)
      have HP8 := hI (HP8.out.below hb13)
      have Hv11 := hI (Hv11.out.mono hb13)
      have Hv13 := hI hv13
      clear hv13 hb13
      refine hK.out _ _ (by exact (HS1.out _ (Hb13.out))) (fun hHeld => ?_)
      clear hK K; (try simp only [tkS])
      refine' tk 5 ?_; (try simp only [tkS]); refine' tk 6 ?_; (try simp only [tkS]); refine' tk 7 ?_; (try simp only [tkS])
      refine tk1 9 (fun K hK => ?_)
      have hSk := (HS1.out _ (Hb13.out))
      obtain ⟨⟨q0, q1, q2, q3⟩, f0, f1, f2, f3⟩ := blk4v HP8.out
      obtain ⟨hv6, hb7⟩ := RQ.put4 Hv13.out HP8.out
      have HV6 := hI hv6
      have HB7 := hI hb7
      have HW7 := hI (put_below4 (b := w.heap.size) (.bool xk) (.slice ak nk ck) (.bool yk) (.slice ek lk dk) (Hb13.out) HLHP8.out)
      clear hSk
      clear hv6 hb7
      go_simp
      refine hK.out _ _ (by exact (HS1.out _ (HW7.out))) (fun hHeld => ?_)
      clear hK K; (try simp only [tkS])
      refine' tk 10 ?_; (try simp only [tkS])
      refine tkD ?_ _
      go_wp2_with fail
      go_meet
      exact ⟨_, xk, ak, nk, ck, yk, ek, lk, dk, rfl, HW7.out, HB7.out, HV6.out⟩
  case rest =>
    obtain ⟨B, xk, ak, nk, ck, yk, ek, lk, dk, rfl, hbx, hB, hq⟩ := hcut
    obtain ⟨wx, rfl⟩ : ∃ W, W = wc := ⟨_, rfl⟩
    have Hbx := hI hbx
    have HQ := hI (fun w' (hb : Below wx.heap.size wx w') => hq.out.mono hb)
    have HS2 := hI (fun w' (hb : Below wx.heap.size wx w') => show (fun w' => w'.cell? ⟨L, 0, none⟩ = some (.slice la line.length lc) ∧ w'.cell? ⟨B, 0, none⟩ = some (.bool xk) ∧ w'.cell? ⟨B, 1, none⟩ = some (.slice ak nk ck) ∧ w'.cell? ⟨B, 2, none⟩ = some (.bool yk) ∧ w'.cell? ⟨B, 3, none⟩ = some (.slice ek lk dk)) w' from by
      obtain ⟨j0, j1, j2, j3⟩ := cells4 (hB.below hb) (Below.refl _ _)
      exact ⟨HLc.out _ (Hbx.out.via hb Hbx.out.size), j0, j1, j2, j3⟩)
    clear hbx hB hq
    go_wp2_with fail
    refine wp_region_held_drew (S := (fun w' => w'.cell? ⟨L, 0, none⟩ = some (.slice la line.length lc) ∧ w'.cell? ⟨B, 0, none⟩ = some (.bool xk) ∧ w'.cell? ⟨B, 1, none⟩ = some (.slice ak nk ck) ∧ w'.cell? ⟨B, 2, none⟩ = some (.bool yk) ∧ w'.cell? ⟨B, 3, none⟩ = some (.slice ek lk dk))) (by kernel_rfl) (by exact (HS2.out _ ((Below.refl _ _).drew))) (fun hHeld => ?_)
    refine' tk 0 ?_; (try simp only [tkS]); refine' tk 2 ?_; (try simp only [tkS]); refine' tk 3 ?_; (try simp only [tkS])
    refine tk1 1 (fun K hK => ?_)
    go_simp
    go_at_call 39
    refine (HF.out _).mono ?_
    rintro e5 w17 ⟨v17, rfl, hv17, hb17⟩
    have Hb17 := hI (bw_via ((Below.refl _ _).drew) hb17)
    have Hv17 := hI hv17
    clear hv17 hb17
    refine hK.out _ _ (by exact (HS2.out _ (Hb17.out))) (fun hHeld => ?_)
    clear hK K; (try simp only [tkS])
    refine tk1 4 (fun K hK => ?_)
    go_simp
    go_at_call 35
    refine (HNg.out _ _ (HQ.out _ (Hb17.out))).mono ?_
    rintro e5 w20 ⟨v20, rfl, hv20, hb20⟩
    have Hb20 := hI (bw_via (Hb17.out) hb20)
    have Hv17 := hI (Hv17.out.mono hb20)
    have Hv20 := hI hv20
    clear hv20 hb20
    refine hK.out _ _ (by exact (HS2.out _ (Hb20.out))) (fun hHeld => ?_)
    clear hK K; (try simp only [tkS])
    refine tk1 5 (fun K hK => ?_)
    go_simp
    go_at_call 46
    refine (HMx.out _ _ _ (Hbx.out.via (Hb20.out) Hbx.out.size) Hv17.out Hv20.out).mono ?_
    rintro e5 w21 ⟨v21, rfl, hv21, hb21⟩
    have Hb21 := hI (bw_via (Hb20.out) hb21)
    have Hv17 := hI (Hv17.out.mono hb21)
    have Hv20 := hI (Hv20.out.mono hb21)
    have Hv21 := hI hv21
    clear hv21 hb21
    refine hK.out _ _ (by exact (HS2.out _ (Hb21.out))) (fun hHeld => ?_)
    clear hK K; (try simp only [tkS])
    refine' tk 6 ?_; (try simp only [tkS])
    refine tkD ?_ _
    go_wp2_with fail
    go_ret
    exact ⟨_, rfl, Hv21.out, Hbx.out.via (Hb21.out) Hbx.out.size⟩
end Go.Proofs.YtlcmhbkmpkcajaaGreatDoor
namespace Go.Proofs.YtlcmhbkmpkcajaaGreatDoor
open Go.RowKit
theorem zip_len {a b : List Rat} {f : Rat → Rat → Rat} {n : Nat} (ha : a.length = n) (hb : b.length = n) : (List.zipWith f a b).length = n := by
  rw [List.length_zipWith]
  omega
theorem zip_get {a b : List Rat} {f : Rat → Rat → Rat} {i : Nat} {r s : Rat} (hr : a[i]? = some r) (hs : b[i]? = some s) : (List.zipWith f a b)[i]? = some (f r s) := by
  rw [List.getElem?_zipWith, hr, hs]
set_option maxHeartbeats 8000000 in
set_option maxRecDepth 10000 in
theorem each_g (g : Nat) (X : Addr) (eg : ∀ args w, (callFunc g args).run Tryz.prog w = .ok (.enter g args) w) (u v : Value) (a b : List Rat) (f : Rat → Rat → Rat) (n : Nat) (w : World) (h : QV w u a) (h' : QV w v b) (ha : a.length = n) (hb : b.length = n) (hn : n ≤ 1000)
    (hp : ∀ (k : Nat) (r s : Rat), a[k]? = some r → b[k]? = some s → ∀ w' x y, Below w.heap.size w w' → RQ w' x r → RQ w' y s → Calls Tryz.prog g #[x, y, .pointer (some X)] w' (RetP (fun z w2 => RQ w2 z (f r s)) w')) :
    Calls Tryz.prog 150 #[u, v, .func (.func g) #[] #[.pointer (some X)]] w (RetP (fun x w' => QV w' x (List.zipWith f a b) ∧ ∀ b, x.ownBlock = some b → w.heap.size ≤ b) w) := by
  have HP := hI hp
  have HL := hI (zip_len (f := f) ha hb)
  have HG := hI (fun i r s (hr : a[i]? = some r) (hs : b[i]? = some s) => zip_get (f := f) hr hs)
  obtain ⟨ad, cap, rfl, hc1, hc2⟩ := h.open
  obtain ⟨ad', cap', rfl, hc1', hc2'⟩ := h'.open
  rw [ha] at h hc1 ⊢
  rw [hb] at h' hc1' ⊢
  unfold maxLen at hc2
  have HX := hI h
  have HY := hI h'
  obtain ⟨i4, hi4, hz0, hz1, hz2⟩ := info_rat
  have HB0 := hI (Below.refl w.heap.size w)
  clear h h' ha hb hp
  go_enter Tryz.func150, Tryz.ntmps150
  generalize hLL : List.zipWith f a b = LL at *
  go_wp2_with (at_make; go_loud (refine wpList_make_full _ rfl _ _ 46 rfl w.heap.size 61 i4 (.agg #[.bool false, .slice none 0 0, .bool false, .slice none 0 0]) 4 Tryz.underlying46 hi4 hz0 hz1 .i64 .i64 _ _ n rfl rfl (by omega) (by omega) (by rw [hz2]; omega) (by unfold maxLen; omega) (by simp) ?_; intro wm hown hg; have hvb : VB wm w.heap.size (List.replicate n 0) := (by have h := (VB.made hown).1; first | exact h | (simpa using h)); have Hb1 := hI (((Below.refl _ _).grown hg (Nat.le_refl _) (fun b hb => by cases hb))); have Hvb := hI hvb; clear hown hg hvb))
  go_loopw [14] (fun i wr => ∃ q : Nat, q ≤ n ∧ i = .int .i64 (q : Int) ∧ Below w.heap.size w wr ∧ Hid (VB wr w.heap.size (fillL LL n q))) (fun i _ => n - (intOf i).toNat)
  case atStart => exact ⟨0, by omega, rfl, Hb1.out, by rw [fill_zero]; exact Hvb.out⟩
  case round =>
    obtain ⟨q, hq, rfl, hbx, hvb⟩ := hrel
    have Hbx := hI hbx
    have HVB := hI hvb.out
    rcases Nat.lt_or_ge q n with hlt | hge
    · obtain ⟨b1, o1, x1, a1, n1, c1, y1, e1, l1, d1, r, rfl, hr, hR, z0, z1, z2, z3⟩ := HX.out.at hbx hlt
      obtain ⟨b2, o2, x2, a2, n2, c2, y2, e2, l2, d2, s, rfl, hs, hS, m0, m1, m2, m3⟩ := HY.out.at hbx hlt
      have hkn : (q : Int) < (n : Int) := by omega
      have hk0 : (0 : Int) ≤ (q : Int) := Int.natCast_nonneg _
      have hkw : IntKind.i64.wrap ((q : Int) + 1) = (q : Int) + 1 := IntWalk.i64_in _ (by omega)
      have Hg := hI (HG.out q r s hr hs)
      have HFx := hI (fun W (hb : Below wr.heap.size wr W) => HP.out q r s hr hs W _ _ (hbx.via hb hbx.size) (hR.mono hb) (hS.mono hb))
      have HS0 := hI (fun w' (hb : Below wr.heap.size wr w') => show (fun w' => w'.cell? ⟨b1, o1 + q * 4, none⟩ = some (.bool x1) ∧ w'.cell? ⟨b1, o1 + q * 4 + 1, none⟩ = some (.slice a1 n1 c1) ∧ w'.cell? ⟨b1, o1 + q * 4 + 2, none⟩ = some (.bool y1) ∧ w'.cell? ⟨b1, o1 + q * 4 + 3, none⟩ = some (.slice e1 l1 d1) ∧ w'.cell? ⟨b2, o2 + q * 4, none⟩ = some (.bool x2) ∧ w'.cell? ⟨b2, o2 + q * 4 + 1, none⟩ = some (.slice a2 n2 c2) ∧ w'.cell? ⟨b2, o2 + q * 4 + 2, none⟩ = some (.bool y2) ∧ w'.cell? ⟨b2, o2 + q * 4 + 3, none⟩ = some (.slice e2 l2 d2)) w' from ⟨cell_keep hb z0, cell_keep hb z1, cell_keep hb z2, cell_keep hb z3, cell_keep hb m0, cell_keep hb m1, cell_keep hb m2, cell_keep hb m3⟩)
      have Hq := hI (fill_at HL.out hlt)
      clear hR hS hr hs hbx hvb
      go_wp2_with fail
      refine wp_region_pop (S := (fun w' => w'.cell? ⟨b1, o1 + q * 4, none⟩ = some (.bool x1) ∧ w'.cell? ⟨b1, o1 + q * 4 + 1, none⟩ = some (.slice a1 n1 c1) ∧ w'.cell? ⟨b1, o1 + q * 4 + 2, none⟩ = some (.bool y1) ∧ w'.cell? ⟨b1, o1 + q * 4 + 3, none⟩ = some (.slice e1 l1 d1) ∧ w'.cell? ⟨b2, o2 + q * 4, none⟩ = some (.bool x2) ∧ w'.cell? ⟨b2, o2 + q * 4 + 1, none⟩ = some (.slice a2 n2 c2) ∧ w'.cell? ⟨b2, o2 + q * 4 + 2, none⟩ = some (.bool y2) ∧ w'.cell? ⟨b2, o2 + q * 4 + 3, none⟩ = some (.slice e2 l2 d2))) 13 (by kernel_rfl) (by kernel_rfl) (by exact (HS0.out _ ((Below.refl _ _).dn 1))) (fun hHeld => ?_)
      simp only [List.take_succ_cons, List.take_zero, List.drop_succ_cons, List.drop_zero]
      refine' tk 0 ?_; (try simp only [tkS]); refine' tk 1 ?_; (try simp only [tkS]); refine' tk 2 ?_; (try simp only [tkS]); refine' tk 3 ?_; (try simp only [tkS]); refine' tk 4 ?_; (try simp only [tkS]); refine' tk 5 ?_; (try simp only [tkS]); refine' tk 6 ?_; (try simp only [tkS]); refine' tk 7 ?_; (try simp only [tkS]); refine' tk 8 ?_; (try simp only [tkS]); refine' tk 9 ?_; (try simp only [tkS]); refine' tk 10 ?_; (try simp only [tkS])
      refine tk1 11 (fun K hK => ?_)
      go_simp
      go_at_fn g
      refine (HFx.out _ ((Below.refl _ _).dn 1)).mono ?_
      rintro e5 w14 ⟨v14, rfl, hv14, hb14⟩
      have Hb14 := hI (bw_via ((Below.refl _ _).dn 1) hb14)
      obtain ⟨x5, a5, n5, c5, x6, a6, n6, c6, rfl, hv14⟩ := hv14.open
      have Hv14 := hI hv14
      clear hv14 hb14
      refine hK.out _ _ (by exact (HS0.out _ (Hb14.out))) (fun hHeld => ?_)
      clear hK K; (try simp only [tkS])
      refine' tk 12 ?_; (try simp only [tkS])
      refine tkD ?_ _
      simp only [Exit.then]
      have hV := HVB.out.below (Hb14.out)
      obtain ⟨_, _, _, _, _, _, _, _, -, ⟨p0, p1, p2, p3⟩, f0, f1, f2, f3⟩ := hV.at Hq.out
      have hV2 := hV.set (by rw [fill_len HL.out hq]; exact hlt) Hv14.out
      rw [fill_set HL.out Hg.out] at hV2
      have HV2 := hI hV2
      have HbA := hI (vb_put_below (g := w.heap.size) (k := q) (Hbx.out.via (Hb14.out) Hbx.out.size) (by omega) (.bool x5) (.slice a5 n5 c5) (.bool x6) (.slice a6 n6 c6))
      clear hV hV2
      go_wp2_with fail
      go_roundw
      case rel => exact ⟨q + 1, by omega, by go_num, HbA.out, HV2.out⟩
      case measure => simp [intOf] <;> omega
    · obtain rfl : q = n := by omega
      have hkn : ¬ (q : Int) < (q : Int) := by omega
      have Hres := hI (HVB.out.qv (fill_len HL.out (Nat.le_refl _)) (by unfold maxLen; omega))
      rw [fill_all HL.out] at Hres
      clear hbx hvb
      go_wp2_with fail
      go_ret
      exact ⟨_, rfl, ⟨Hres.out, fun b hb => by cases hb; exact Nat.le_refl _⟩, Hbx.out⟩
end Go.Proofs.YtlcmhbkmpkcajaaGreatDoor
