/-
  Parts of the proof: Qpb.
-/
import Derived.Test.YtlcmhbkmpkcajaaGreatDoorN30
namespace Go.Proofs.YtlcmhbkmpkcajaaGreatDoor
open Go.RowKit
theorem lcm_snoc (l : List Rat) (x : Rat) : lcmD (l ++ [x]) = lcmD l * (x.den / Nat.gcd (lcmD l) x.den) := by
  unfold lcmD
  rw [List.foldl_append]
  rfl
theorem lcm_step {l : List Rat} {k : Nat} {x : Rat} (h : l[k]? = some x) : lcmD (l.take (k + 1)) = lcmD (l.take k) * (x.den / Nat.gcd (lcmD (l.take k)) x.den) := by
  rw [List.take_add_one, h]
  exact lcm_snoc _ _
theorem lcm_pos (l : List Rat) : 0 < lcmD l := by
  unfold lcmD
  suffices h : ∀ (l : List Rat) (d : Nat), 0 < d → 0 < l.foldl (fun d x => d * (x.den / Nat.gcd d x.den)) d from h l 1 (by decide)
  intro l
  induction l with
  | nil => intro d h; exact h
  | cons x l ih =>
    intro d h
    rw [List.foldl_cons]
    exact ih _ (Nat.mul_pos h (Nat.div_pos (Nat.gcd_le_right d x.den_pos) (Nat.gcd_pos_of_pos_right _ x.den_pos)))
theorem lcm_le {K : Nat} (l : List Rat) (h : ∀ x ∈ l, Sz K x) : lcmD l < 10 ^ (l.length * K + 1) := by
  unfold lcmD
  suffices hh : ∀ (l : List Rat) (d m : Nat), (∀ x ∈ l, Sz K x) → d < 10 ^ m → l.foldl (fun d x => d * (x.den / Nat.gcd d x.den)) d < 10 ^ (l.length * K + m) from hh l 1 1 h (by decide)
  intro l
  induction l with
  | nil => intro d m _ h; simpa using h
  | cons x l ih =>
    intro d m h hd
    rw [List.foldl_cons, List.length_cons]
    have h1 := ten_mul hd (h x List.mem_cons_self).2
    have h2 : d * (x.den / Nat.gcd d x.den) < 10 ^ (m + K) := Nat.lt_of_le_of_lt (Nat.mul_le_mul_left d (Nat.div_le_self _ _)) h1
    have := ih _ (m + K) (fun y hy => h y (List.mem_cons_of_mem _ hy)) h2
    rw [show (l.length + 1) * K + m = l.length * K + (m + K) by rw [Nat.add_mul]; omega]
    exact this
theorem gcd_step {l : List Rat} {k : Nat} {x : Rat} (h : l[k]? = some x) : gcdN (l.take (k + 1)) = Nat.gcd (gcdN (l.take k)) x.num.natAbs := by
  rw [List.take_add_one, h]
  unfold gcdN
  rw [Option.toList_some, List.foldl_append]
  rfl
theorem gcd_le {K : Nat} (l : List Rat) (h : ∀ x ∈ l, Sz K x) : gcdN l < 10 ^ K := by
  unfold gcdN
  suffices hh : ∀ (l : List Rat) (d : Nat), (∀ x ∈ l, Sz K x) → d < 10 ^ K → l.foldl (fun d x => Nat.gcd d x.num.natAbs) d < 10 ^ K from hh l 0 h (Nat.pow_pos (by decide))
  intro l
  induction l with
  | nil => intro d _ h; exact h
  | cons x l ih =>
    intro d h hd
    rw [List.foldl_cons]
    refine ih _ (fun y hy => h y (List.mem_cons_of_mem _ hy)) ?_
    have h1 := (h x List.mem_cons_self).1
    rcases Nat.eq_zero_or_pos d with rfl | hp
    · rw [Nat.gcd_zero_left]; exact h1
    · exact Nat.lt_of_le_of_lt (Nat.gcd_le_left _ hp) hd
theorem mk_one (d : Nat) : mkRat (d : Int) 1 = ((d : Nat) : Rat) := by
  rw [Rat.mkRat_one]
  rfl
def Prim2 (w wr : World) (N B O : Nat) (K : Array Value) (mk : Rat) (x : Bool) (e : Option Addr) (m c : Nat) (g : Nat) (l : List Rat) : Prop :=
  Below w.heap.size w wr ∧ Blk wr B K 61 ∧ RQ wr (.agg K) mk ∧ Blk wr N #[.bool x, .slice e m c] 59 ∧ IntV wr (.agg #[.bool x, .slice e m c]) (g : Int) ∧ VB wr O l
def Prim3 (w wr : World) (B O : Nat) (K : Array Value) (mk : Rat) (l : List Rat) : Prop := Below w.heap.size w wr ∧ Blk wr B K 61 ∧ RQ wr (.agg K) mk ∧ VB wr O l
def PrimI (w wr : World) (D : Nat) (a : List Rat) (k : Nat) : Prop := ∃ (x : Bool) (e : Option Addr) (m c : Nat), Blk wr D #[.bool x, .slice e m c] 59 ∧ IntV wr (.agg #[.bool x, .slice e m c]) ((lcmD (a.take k) : Nat) : Int) ∧ Blk wr (D + 1) #[.bool false, .slice none 0 0] 59 ∧ Below w.heap.size w wr ∧ w.heap.size ≤ D
set_option maxHeartbeats 16000000 in
set_option maxRecDepth 10000 in
theorem prim_g (u : Value) (a : List Rat) (n Kz : Nat) (w : World) (h : QV w u a) (ha : a.length = n) (hz : ∀ x ∈ a, Sz Kz x) (hn : n ≤ 8) (hKz : Kz ≤ 4000) :
    Calls Tryz.prog 45 #[u] w (RetP (fun x w' => QV w' x (primV a)) w) := by
  have HR := Lib.hid (fun (k : Nat) (r : Rat) (hr : a[k]? = some r) => show Few (lcmD (a.take k)) ∧ Few r.den ∧ Few (r.den / Nat.gcd (lcmD (a.take k)) r.den) ∧ 0 < lcmD (a.take k) from by
    have h1 := lcm_le (K := Kz) (a.take k) (fun x hx => hz x (List.mem_of_mem_take hx))
    have h2 : (a.take k).length * Kz + 1 ≤ 900000 := by
      have h3 : (a.take k).length ≤ 8 := by rw [List.length_take]; omega
      have h4 := Nat.mul_le_mul h3 hKz
      omega
    have h5 := (hz r (List.mem_of_getElem? hr)).2
    exact ⟨limbs_ten h1 h2, limbs_ten h5 (by omega), limbs_ten (Nat.lt_of_le_of_lt (Nat.div_le_self _ _) h5) (by omega), lcm_pos _⟩)
  have HSt := Lib.hid (fun k r (hr : a[k]? = some r) => lcm_step hr)
  have H0 := Lib.hid (show lcmD (a.take 0) = 1 from rfl)
  obtain ⟨ad, cap, rfl, hc1, hc2⟩ := h.open
  rw [ha] at h hc1 ⊢
  unfold maxLen at hc2
  have HX := Lib.hid h
  have HF1 := Lib.hid (fun w' => from_any 1 w' (by omega) (by omega))
  clear h
  go_enter Tryz.func45, Tryz.ntmps45
  go_wp2_with (go_at_call 74; refine (HF1.out _).mono ?_; rintro e5 w1 ⟨v1, rfl, hv1, hb1⟩; obtain ⟨x1, a1, n1, c1, rfl, hv1⟩ := hv1.open; have Hb1 := Lib.hid hb1; have Hv1 := Lib.hid hv1; clear hv1 hb1)
  have hP0 : PrimI w ((w1.alloc (.cells #[.bool x1, .slice a1 n1 c1] 59)).alloc (.cells #[.bool false, .slice none 0 0] 59)) w1.heap.size a 0 := by
    refine ⟨x1, a1, n1, c1, (Blk.new w1 _ _).old _, ?_, ?_, Hb1.out.via (below2 w1 _ _) Hb1.out.size, Hb1.out.size⟩
    · rw [H0.out]
      exact Hv1.out.mono (below2 w1 _ _)
    · have h := Blk.new (w1.alloc (.cells #[.bool x1, .slice a1 n1 c1] 59)) #[.bool false, .slice none 0 0] 59
      simpa using h
  generalize ((w1.alloc (.cells #[.bool x1, .slice a1 n1 c1] 59)).alloc (.cells #[.bool false, .slice none 0 0] 59)) = W0 at *
  generalize hD : w1.heap.size = D at *
  clear Hb1 Hv1 hD
  go_loopw [20] (fun i wr => ∃ k : Nat, k ≤ n ∧ i = .int .i64 (k : Int) ∧ Hid (PrimI w wr D a k)) (fun i _ => n - (intOf i).toNat)
  case atStart => exact ⟨0, by omega, rfl, hP0⟩
  case round =>
    obtain ⟨k, hk, rfl, hP⟩ := hrel
    obtain ⟨xD, aD, nD, cD, hD, hI, hN, hbx, hwD⟩ := hP.out
    clear hP hP0
    rcases Nat.lt_or_ge k n with hlt | hge
    · obtain ⟨b1, o1, x1, a1, n1, c1, y1, e1, l1, d1, r, rfl, hr, hR, z0, z1, z2, z3⟩ := HX.out.at hbx hlt
      have hkn : (k : Int) < (n : Int) := by omega
      have hk0 : (0 : Int) ≤ (k : Int) := Int.natCast_nonneg _
      have hkw : IntKind.i64.wrap ((k : Int) + 1) = (k : Int) + 1 := IntWalk.i64_in _ (by omega)
      obtain ⟨fL, fd, fq, hLp⟩ := HR.out k r hr
      have hst := HSt.out k r hr
      have hgp : 0 < Nat.gcd (lcmD (a.take k)) r.den := Nat.gcd_pos_of_pos_right _ r.den_pos
      have hgd : Nat.gcd (lcmD (a.take k)) r.den ∣ r.den := Nat.gcd_dvd_right _ _
      have HDn := Lib.hid (fun W (hb : Below (wr.alloc (.cells #[.bool x1, .slice a1 n1 c1, .bool y1, .slice e1 l1 d1] 61)).heap.size (wr.alloc (.cells #[.bool x1, .slice a1 n1 c1, .bool y1, .slice e1 l1 d1] 61)) W) => show Calls Tryz.prog 59 #[.agg #[.bool x1, .slice a1 n1 c1, .bool y1, .slice e1 l1 d1]] W (RetP (fun z w' => IntV w' z (r.den : Int)) W) from by
        obtain ⟨q, hh, hq⟩ := hR.mono ((below1 wr _).via hb (below1 wr _).size)
        have := den_g _ _ q W hh
        rwa [hq] at this)
      have HGc := Lib.hid (fun W u v (hu : IntV W u ((lcmD (a.take k) : Nat) : Int)) (hv : IntV W v ((r.den : Nat) : Int)) => show Calls Tryz.prog 73 #[u, v] W (RetP (fun z w' => IntV w' z ((Nat.gcd (lcmD (a.take k)) r.den : Nat) : Int)) W) from by
        have := gcd_any u v _ _ W hu hv (by rw [Int.natAbs_natCast]; exact fL) (by rw [Int.natAbs_natCast]; exact fd)
        rwa [Int.natAbs_natCast, Int.natAbs_natCast] at this)
      have HDv := Lib.hid (fun W u v (hu : IntV W u ((r.den : Nat) : Int)) (hv : IntV W v ((Nat.gcd (lcmD (a.take k)) r.den : Nat) : Int)) => divmod_y u v ((r.den : Nat) : Int) (Nat.gcd (lcmD (a.take k)) r.den) W hu hv hgp (Int.natCast_dvd_natCast.2 hgd) (by rw [Int.natAbs_natCast]; exact fd))
      rw [← Int.natCast_ediv] at HDv
      have HMl := Lib.hid (fun W u v (hu : IntV W u ((lcmD (a.take k) : Nat) : Int)) (hv : IntV W v ((r.den / Nat.gcd (lcmD (a.take k)) r.den : Nat) : Int)) => show Calls Tryz.prog 58 #[u, v] W (RetP (fun z w' => IntV w' z ((lcmD (a.take (k + 1)) : Nat) : Int)) W) from by
        have := mul_any u v _ _ W hu hv (by rw [Int.natAbs_natCast]; exact fL) (by rw [Int.natAbs_natCast]; exact fq)
        rwa [← Int.natCast_mul, ← hst] at this)
      have Hbx := Lib.hid hbx
      have HDb := Lib.hid (fun w' (hb : Below (wr.alloc (.cells #[.bool x1, .slice a1 n1 c1, .bool y1, .slice e1 l1 d1] 61)).heap.size (wr.alloc (.cells #[.bool x1, .slice a1 n1 c1, .bool y1, .slice e1 l1 d1] 61)) w') => (hD.old (.cells #[.bool x1, .slice a1 n1 c1, .bool y1, .slice e1 l1 d1] 61)).below hb)
      have HNb := Lib.hid (fun w' (hb : Below (wr.alloc (.cells #[.bool x1, .slice a1 n1 c1, .bool y1, .slice e1 l1 d1] 61)).heap.size (wr.alloc (.cells #[.bool x1, .slice a1 n1 c1, .bool y1, .slice e1 l1 d1] 61)) w') => (hN.old (.cells #[.bool x1, .slice a1 n1 c1, .bool y1, .slice e1 l1 d1] 61)).below hb)
      have HIv := Lib.hid (fun w' (hb : Below (wr.alloc (.cells #[.bool x1, .slice a1 n1 c1, .bool y1, .slice e1 l1 d1] 61)).heap.size (wr.alloc (.cells #[.bool x1, .slice a1 n1 c1, .bool y1, .slice e1 l1 d1] 61)) w') => (hI.mono (below1 wr (.cells #[.bool x1, .slice a1 n1 c1, .bool y1, .slice e1 l1 d1] 61))).mono hb)
      have HXb := Lib.hid (fun w' (hb : Below (wr.alloc (.cells #[.bool x1, .slice a1 n1 c1, .bool y1, .slice e1 l1 d1] 61)).heap.size (wr.alloc (.cells #[.bool x1, .slice a1 n1 c1, .bool y1, .slice e1 l1 d1] 61)) w') => (Blk.new wr #[.bool x1, .slice a1 n1 c1, .bool y1, .slice e1 l1 d1] 61).below hb)
      have HS5 := Lib.hid (fun w' (hb : Below (wr.alloc (.cells #[.bool x1, .slice a1 n1 c1, .bool y1, .slice e1 l1 d1] 61)).heap.size (wr.alloc (.cells #[.bool x1, .slice a1 n1 c1, .bool y1, .slice e1 l1 d1] 61)) w') => show (fun w' => w'.cell? ⟨D, 0, none⟩ = some (.bool xD) ∧ w'.cell? ⟨D, 1, none⟩ = some (.slice aD nD cD) ∧ w'.cell? ⟨wr.heap.size, 0, none⟩ = some (.bool x1) ∧ w'.cell? ⟨wr.heap.size, 1, none⟩ = some (.slice a1 n1 c1) ∧ w'.cell? ⟨wr.heap.size, 2, none⟩ = some (.bool y1) ∧ w'.cell? ⟨wr.heap.size, 3, none⟩ = some (.slice e1 l1 d1)) w' from by
        obtain ⟨⟨i0, i1⟩, -⟩ := blk2v (HDb.out w' hb)
        obtain ⟨j0, j1, j2, j3⟩ := cells4 (HXb.out w' hb) (Below.refl _ _)
        exact ⟨i0, i1, j0, j1, j2, j3⟩)
      generalize Nat.gcd (lcmD (a.take k)) r.den = GG at *
      generalize r.den / GG = QQ at *
      generalize r.den = dd at *
      have HD0 := Lib.hid hwD
      have HDlt := Lib.hid hD.lt
      have Hr := Lib.hid hr
      clear hR hr hD hI hN hbx fL fd fq hLp hst hgp hgd hwD
      go_wp2_with fail
      have Hb40 := Lib.hid (below1 wr (.cells #[.bool x1, .slice a1 n1 c1, .bool y1, .slice e1 l1 d1] 61))
      have HXl0 := Lib.hid (show wr.heap.size < (wr.alloc (.cells #[.bool x1, .slice a1 n1 c1, .bool y1, .slice e1 l1 d1] 61)).heap.size from by simp)
      generalize (wr.alloc (.cells #[.bool x1, .slice a1 n1 c1, .bool y1, .slice e1 l1 d1] 61)) = W4 at *
      go_cut [7] from 21 to 39 (fun s7 wx => ∃ (G : Nat) (x7 : Bool) (a7 : Option Addr) (n7 c7 : Nat), s7 = .pointer (some ⟨G, 0, none⟩) ∧ Below W4.heap.size W4 wx ∧ Blk wx G #[.bool x7, .slice a7 n7 c7] 59 ∧ Hid (IntV wx (.agg #[.bool x7, .slice a7 n7 c7]) (GG : Int)))
      case first =>
        refine wp_region_pop (S := (fun w' => w'.cell? ⟨D, 0, none⟩ = some (.bool xD) ∧ w'.cell? ⟨D, 1, none⟩ = some (.slice aD nD cD) ∧ w'.cell? ⟨wr.heap.size, 0, none⟩ = some (.bool x1) ∧ w'.cell? ⟨wr.heap.size, 1, none⟩ = some (.slice a1 n1 c1) ∧ w'.cell? ⟨wr.heap.size, 2, none⟩ = some (.bool y1) ∧ w'.cell? ⟨wr.heap.size, 3, none⟩ = some (.slice e1 l1 d1))) 5 (by kernel_rfl) (by kernel_rfl) (by exact (HS5.out _ ((Below.refl _ _).drew))) (fun hHeld => ?_)
        simp only [List.take_succ_cons, List.take_zero, List.drop_succ_cons, List.drop_zero]
        refine' tk 0 ?_; (try simp only [tkS]); refine' tk 1 ?_; (try simp only [tkS])
        refine wpAnyH_ready (rs := [2, 4]) (by kernel_rfl) (by simp) ?_
        refine AllReadyH.cons rfl (fun K hK => ?_) (AllReadyH.cons rfl (fun K hK => ?_) AllReadyH.nil)
        · go_simp
          go_at_call 59
          refine (HDn.out _ ((Below.refl _ _).drew)).mono ?_
          rintro e5 w26 ⟨v26, rfl, hv26, hb26⟩
          have Hb26 := Lib.hid (bw_via ((Below.refl _ _).drew) hb26)
          have Hv26 := Lib.hid hv26
          clear hv26 hb26
          refine hK.out _ _ (by exact (HS5.out _ (Hb26.out))) (fun hHeld => ?_)
          clear hK K; (try simp only [tkS])
          refine wpAnyH_ready (rs := [3, 4]) (by kernel_rfl) (by simp) ?_
          refine AllReadyH.cons rfl (fun K hK => ?_) (AllReadyH.cons rfl (fun K hK => ?_) AllReadyH.nil)
          · go_simp
            go_at_call 73
            refine (HGc.out _ _ _ (HIv.out _ (Hb26.out)) Hv26.out).mono ?_
            rintro e5 w27 ⟨v27, rfl, hv27, hb27⟩
            have Hb27 := Lib.hid (bw_via (Hb26.out) hb27)
            have Hv26 := Lib.hid (Hv26.out.mono hb27)
            obtain ⟨x7, a7, n7, c7, rfl, hv27⟩ := hv27.open
            have Hv27 := Lib.hid hv27
            clear hv27 hb27
            refine hK.out _ _ (by exact (HS5.out _ (Hb27.out))) (fun hHeld => ?_)
            clear hK K; (try simp only [tkS])
            refine tk1 4 (fun K hK => ?_)
            go_simp
            have Hv26 := Lib.hid (Hv26.out.mono (below1 w27 (.cells #[.bool false, .slice none 0 0] 59)))
            have Hv27 := Lib.hid (Hv27.out.mono (below1 w27 (.cells #[.bool false, .slice none 0 0] 59)))
            have HG := Lib.hid (Blk.new w27 #[.bool false, .slice none 0 0] 59)
            have HLHG := Lib.hid (show W4.heap.size ≤ w27.heap.size from (show Below W4.heap.size W4 w27 from Hb27.out).size)
            have HbA5 := Lib.hid (show Below W4.heap.size W4 (w27.alloc (.cells #[.bool false, .slice none 0 0] 59)) from bwA (Hb27.out) _)
            refine hK.out _ _ (by exact (HS5.out _ (HbA5.out))) (fun hHeld => ?_)
            clear hK K; (try simp only [tkS])
            generalize (w27.alloc (.cells #[.bool false, .slice none 0 0] 59)) = wA5 at *
            refine tkD ?_ _
            simp only [Exit.then]
            obtain ⟨⟨q0, q1⟩, f0, f1⟩ := blk2v HG.out
            obtain ⟨s1, s2, -, s4⟩ := stI x7 a7 n7 c7 HG.out
            have HB1 := Lib.hid s1
            have HV1 := Lib.hid (s2 _ _ Hv27.out)
            have HW1 := Lib.hid (s4 _ _ (HbA5.out) HLHG.out)
            clear s1 s2 s4
            go_wp2_with fail
            go_meet
            exact ⟨_, x7, a7, n7, c7, rfl, HW1.out, HB1.out, HV1.out⟩
          · go_simp
            have Hv26 := Lib.hid (Hv26.out.mono (below1 w26 (.cells #[.bool false, .slice none 0 0] 59)))
            have HG := Lib.hid (Blk.new w26 #[.bool false, .slice none 0 0] 59)
            have HLHG := Lib.hid (show W4.heap.size ≤ w26.heap.size from (show Below W4.heap.size W4 w26 from Hb26.out).size)
            have HbA5 := Lib.hid (show Below W4.heap.size W4 (w26.alloc (.cells #[.bool false, .slice none 0 0] 59)) from bwA (Hb26.out) _)
            refine hK.out _ _ (by exact (HS5.out _ (HbA5.out))) (fun hHeld => ?_)
            clear hK K; (try simp only [tkS])
            generalize (w26.alloc (.cells #[.bool false, .slice none 0 0] 59)) = wA5 at *
            refine tk1 3 (fun K hK => ?_)
            go_simp
            go_at_call 73
            refine (HGc.out _ _ _ (HIv.out _ (HbA5.out)) Hv26.out).mono ?_
            rintro e5 w27 ⟨v27, rfl, hv27, hb27⟩
            have Hb27 := Lib.hid (bw_via (HbA5.out) hb27)
            have Hv26 := Lib.hid (Hv26.out.mono hb27)
            have HG := Lib.hid (HG.out.below hb27)
            obtain ⟨x7, a7, n7, c7, rfl, hv27⟩ := hv27.open
            have Hv27 := Lib.hid hv27
            clear hv27 hb27
            refine hK.out _ _ (by exact (HS5.out _ (Hb27.out))) (fun hHeld => ?_)
            clear hK K; (try simp only [tkS])
            refine tkD ?_ _
            simp only [Exit.then]
            obtain ⟨⟨q0, q1⟩, f0, f1⟩ := blk2v HG.out
            obtain ⟨s1, s2, -, s4⟩ := stI x7 a7 n7 c7 HG.out
            have HB1 := Lib.hid s1
            have HV1 := Lib.hid (s2 _ _ Hv27.out)
            have HW1 := Lib.hid (s4 _ _ (Hb27.out) HLHG.out)
            clear s1 s2 s4
            go_wp2_with fail
            go_meet
            exact ⟨_, x7, a7, n7, c7, rfl, HW1.out, HB1.out, HV1.out⟩
        · go_simp
          have HG := Lib.hid (show Blk (W4.alloc (.cells #[.bool false, .slice none 0 0] 59)).drew W4.heap.size #[.bool false, .slice none 0 0] 59 from (Blk.new W4 #[.bool false, .slice none 0 0] 59).below (Below.refl _ _).drew)
          have HLHG := Lib.hid (show W4.heap.size ≤ W4.heap.size from (show Below W4.heap.size W4 W4.drew from (Below.refl _ _).drew).size)
          have HbA5 := Lib.hid (show Below W4.heap.size W4 (W4.alloc (.cells #[.bool false, .slice none 0 0] 59)).drew from bwA ((Below.refl _ _).drew) _)
          refine hK.out _ _ (by exact (HS5.out _ (HbA5.out))) (fun hHeld => ?_)
          clear hK K; (try simp only [tkS])
          generalize (W4.alloc (.cells #[.bool false, .slice none 0 0] 59)).drew = wA5 at *
          refine tk1 2 (fun K hK => ?_)
          go_simp
          go_at_call 59
          refine (HDn.out _ (HbA5.out)).mono ?_
          rintro e5 w26 ⟨v26, rfl, hv26, hb26⟩
          have Hb26 := Lib.hid (bw_via (HbA5.out) hb26)
          have HG := Lib.hid (HG.out.below hb26)
          have Hv26 := Lib.hid hv26
          clear hv26 hb26
          refine hK.out _ _ (by exact (HS5.out _ (Hb26.out))) (fun hHeld => ?_)
          clear hK K; (try simp only [tkS])
          refine tk1 3 (fun K hK => ?_)
          go_simp
          go_at_call 73
          refine (HGc.out _ _ _ (HIv.out _ (Hb26.out)) Hv26.out).mono ?_
          rintro e5 w27 ⟨v27, rfl, hv27, hb27⟩
          have Hb27 := Lib.hid (bw_via (Hb26.out) hb27)
          have HG := Lib.hid (HG.out.below hb27)
          have Hv26 := Lib.hid (Hv26.out.mono hb27)
          obtain ⟨x7, a7, n7, c7, rfl, hv27⟩ := hv27.open
          have Hv27 := Lib.hid hv27
          clear hv27 hb27
          refine hK.out _ _ (by exact (HS5.out _ (Hb27.out))) (fun hHeld => ?_)
          clear hK K; (try simp only [tkS])
          refine tkD ?_ _
          simp only [Exit.then]
          obtain ⟨⟨q0, q1⟩, f0, f1⟩ := blk2v HG.out
          obtain ⟨s1, s2, -, s4⟩ := stI x7 a7 n7 c7 HG.out
          have HB1 := Lib.hid s1
          have HV1 := Lib.hid (s2 _ _ Hv27.out)
          have HW1 := Lib.hid (s4 _ _ (Hb27.out) HLHG.out)
          clear s1 s2 s4
          go_wp2_with fail
          go_meet
          exact ⟨_, x7, a7, n7, c7, rfl, HW1.out, HB1.out, HV1.out⟩
      case rest =>
        obtain ⟨G, x7, a7, n7, c7, rfl, hbc, hG, hg⟩ := hcut
        obtain ⟨wx, rfl⟩ : ∃ W, W = wc := ⟨_, rfl⟩
        have Hbc := Lib.hid hbc
        have HXlt := Lib.hid (show wr.heap.size < wx.heap.size from Nat.lt_of_lt_of_le HXl0.out hbc.size)
        have HGlt := Lib.hid hG.lt
        have HGb := Lib.hid (fun w' (hb : Below wx.heap.size wx w') => hG.below hb)
        have HGi := Lib.hid (fun w' (hb : Below wx.heap.size wx w') => hg.out.mono hb)
        have HS6 := Lib.hid (fun w' (hb : Below wx.heap.size wx w') => show (fun w' => w'.cell? ⟨wr.heap.size, 0, none⟩ = some (.bool x1) ∧ w'.cell? ⟨wr.heap.size, 1, none⟩ = some (.slice a1 n1 c1) ∧ w'.cell? ⟨wr.heap.size, 2, none⟩ = some (.bool y1) ∧ w'.cell? ⟨wr.heap.size, 3, none⟩ = some (.slice e1 l1 d1) ∧ w'.cell? ⟨G, 0, none⟩ = some (.bool x7) ∧ w'.cell? ⟨G, 1, none⟩ = some (.slice a7 n7 c7)) w' from by
          obtain ⟨j0, j1, j2, j3⟩ := cells4 (HXb.out w' (bw_via Hbc.out hb)) (Below.refl _ _)
          obtain ⟨⟨i0, i1⟩, -⟩ := blk2v (HGb.out w' hb)
          exact ⟨j0, j1, j2, j3, i0, i1⟩)
        clear hbc hG hg
        go_wp2_with fail
        go_cut [8, 9, 10] from 21 to 39 (fun s8 _ _ wy => ∃ (Q : Nat) (x8 : Bool) (a8 : Option Addr) (n8 c8 : Nat), s8 = .pointer (some ⟨Q, 0, none⟩) ∧ Below wx.heap.size wx wy ∧ Blk wy Q #[.bool x8, .slice a8 n8 c8] 59 ∧ Hid (IntV wy (.agg #[.bool x8, .slice a8 n8 c8]) (QQ : Int)))
        case first =>
          refine wp_region_held_drew (S := (fun w' => w'.cell? ⟨wr.heap.size, 0, none⟩ = some (.bool x1) ∧ w'.cell? ⟨wr.heap.size, 1, none⟩ = some (.slice a1 n1 c1) ∧ w'.cell? ⟨wr.heap.size, 2, none⟩ = some (.bool y1) ∧ w'.cell? ⟨wr.heap.size, 3, none⟩ = some (.slice e1 l1 d1) ∧ w'.cell? ⟨G, 0, none⟩ = some (.bool x7) ∧ w'.cell? ⟨G, 1, none⟩ = some (.slice a7 n7 c7))) (by kernel_rfl) (by exact (HS6.out _ ((Below.refl _ _).drew))) (fun hHeld => ?_)
          refine' tk 0 ?_; (try simp only [tkS]); refine' tk 2 ?_; (try simp only [tkS])
          refine wpAnyH_ready (rs := [1, 8, 9]) (by kernel_rfl) (by simp) ?_
          refine AllReadyH.cons rfl (fun K hK => ?_) (AllReadyH.cons rfl (fun K hK => ?_) (AllReadyH.cons rfl (fun K hK => ?_) AllReadyH.nil))
          · go_simp
            go_at_call 59
            refine (HDn.out _ (bw_via Hbc.out ((Below.refl _ _).drew))).mono ?_
            rintro e5 w26 ⟨v26, rfl, hv26, hb26⟩
            have Hb26 := Lib.hid (bw_via ((Below.refl _ _).drew) hb26)
            have Hv26 := Lib.hid hv26
            clear hv26 hb26
            refine hK.out _ _ (by exact (HS6.out _ (Hb26.out))) (fun hHeld => ?_)
            clear hK K; (try simp only [tkS])
            refine wpAnyH_ready (rs := [3, 8, 9]) (by kernel_rfl) (by simp) ?_
            refine AllReadyH.cons rfl (fun K hK => ?_) (AllReadyH.cons rfl (fun K hK => ?_) (AllReadyH.cons rfl (fun K hK => ?_) AllReadyH.nil))
            · go_simp
              go_at_call 78
              refine (HDv.out _ _ _ Hv26.out (HGi.out _ (Hb26.out))).mono ?_
              rintro e5 w30 ⟨v30, rfl, ⟨x8, a8, n8, c8, x9, a9, n9, c9, rfl, hv30⟩, hb30⟩
              have Hb30 := Lib.hid (bw_via (Hb26.out) hb30)
              have Hv26 := Lib.hid (Hv26.out.mono hb30)
              have Hv30 := Lib.hid hv30
              clear hv30 hb30
              refine hK.out _ _ (by exact (HS6.out _ (Hb30.out))) (fun hHeld => ?_)
              clear hK K; (try simp only [tkS])
              refine' tk 4 ?_; (try simp only [tkS]); refine' tk 5 ?_; (try simp only [tkS]); refine' tk 6 ?_; (try simp only [tkS]); refine' tk 7 ?_; (try simp only [tkS])
              refine wpAnyH_ready (rs := [8, 9]) (by kernel_rfl) (by simp) ?_
              refine AllReadyH.cons rfl (fun K hK => ?_) (AllReadyH.cons rfl (fun K hK => ?_) AllReadyH.nil)
              · go_simp
                have Hv26 := Lib.hid (Hv26.out.mono (below1 w30 (.cells #[.bool false, .slice none 0 0] 59)))
                have Hv30 := Lib.hid (Hv30.out.mono (below1 w30 (.cells #[.bool false, .slice none 0 0] 59)))
                have HP := Lib.hid (Blk.new w30 #[.bool false, .slice none 0 0] 59)
                have HLHP := Lib.hid (show wx.heap.size ≤ w30.heap.size from (show Below wx.heap.size wx w30 from Hb30.out).size)
                have HbA8 := Lib.hid (show Below wx.heap.size wx (w30.alloc (.cells #[.bool false, .slice none 0 0] 59)) from bwA (Hb30.out) _)
                refine hK.out _ _ (by exact (HS6.out _ (HbA8.out))) (fun hHeld => ?_)
                clear hK K; (try simp only [tkS])
                generalize (w30.alloc (.cells #[.bool false, .slice none 0 0] 59)) = wA8 at *
                refine tk1 9 (fun K hK => ?_)
                have HL89 := Lib.hid (show w30.heap.size < wA8.heap.size from HP.out.lt)
                go_simp
                have Hv26 := Lib.hid (Hv26.out.mono (below1 wA8 (.cells #[.bool false, .slice none 0 0] 59)))
                have Hv30 := Lib.hid (Hv30.out.mono (below1 wA8 (.cells #[.bool false, .slice none 0 0] 59)))
                have HP := Lib.hid (HP.out.below (below1 wA8 (.cells #[.bool false, .slice none 0 0] 59)))
                have HR9 := Lib.hid (Blk.new wA8 #[.bool false, .slice none 0 0] 59)
                have HLHR9 := Lib.hid (show wx.heap.size ≤ wA8.heap.size from (show Below wx.heap.size wx wA8 from HbA8.out).size)
                have HbA9 := Lib.hid (show Below wx.heap.size wx (wA8.alloc (.cells #[.bool false, .slice none 0 0] 59)) from bwA (HbA8.out) _)
                refine hK.out _ _ (by exact (HS6.out _ (HbA9.out))) (fun hHeld => ?_)
                clear hK K; (try simp only [tkS])
                generalize (wA8.alloc (.cells #[.bool false, .slice none 0 0] 59)) = wA9 at *
                refine tk1 10 (fun K hK => ?_)
                obtain ⟨⟨q0, q1⟩, f0, f1⟩ := blk2v HP.out
                obtain ⟨s1, s2, s3, s4⟩ := stI x8 a8 n8 c8 HP.out
                have HP2 := Lib.hid s1
                have HV2 := Lib.hid (s2 _ _ Hv30.out)
                have HW2 := Lib.hid (s4 _ _ (HbA9.out) HLHP.out)
                have HR2 := Lib.hid (s3 _ _ _ HR9.out (show wA8.heap.size ≠ w30.heap.size from by have h2 := HL89.out; omega))
                have HX2 := Lib.hid (s3 _ _ _ (HXb.out _ (bw_via Hbc.out (HbA9.out))) (show wr.heap.size ≠ w30.heap.size from by have := HXlt.out; have := HLHP.out; omega))
                have HG2 := Lib.hid (s3 _ _ _ (HGb.out _ (HbA9.out)) (show G ≠ w30.heap.size from by have := HGlt.out; have := HLHP.out; omega))
                clear s1 s2 s3 s4
                go_simp
                refine hK.out _ _ (by exact (by obtain ⟨j0, j1, j2, j3⟩ := cells4 HX2.out (Below.refl _ _); obtain ⟨⟨i0, i1⟩, -⟩ := blk2v HG2.out; exact ⟨j0, j1, j2, j3, i0, i1⟩)) (fun hHeld => ?_)
                clear hK K; (try simp only [tkS])
                refine tk1 11 (fun K hK => ?_)
                obtain ⟨⟨q0, q1⟩, f0, f1⟩ := blk2v HR2.out
                obtain ⟨s1, s2, s3, s4⟩ := stI x9 a9 n9 c9 HR2.out
                have HP3 := Lib.hid (s3 _ _ _ HP2.out (show w30.heap.size ≠ wA8.heap.size from by have h2 := HL89.out; omega))
                have HV3 := Lib.hid (s2 _ _ HV2.out)
                have HW3 := Lib.hid (s4 _ _ HW2.out HLHR9.out)
                have HX3 := Lib.hid (s3 _ _ _ HX2.out (show wr.heap.size ≠ wA8.heap.size from by have := HXlt.out; have := HLHR9.out; omega))
                have HG3 := Lib.hid (s3 _ _ _ HG2.out (show G ≠ wA8.heap.size from by have := HGlt.out; have := HLHR9.out; omega))
                clear s1 s2 s3 s4
                go_simp
                refine hK.out _ _ (by exact (by obtain ⟨j0, j1, j2, j3⟩ := cells4 HX3.out (Below.refl _ _); obtain ⟨⟨i0, i1⟩, -⟩ := blk2v HG3.out; exact ⟨j0, j1, j2, j3, i0, i1⟩)) (fun hHeld => ?_)
                clear hK K; (try simp only [tkS])
                refine' tk 12 ?_; (try simp only [tkS])
                refine tkD ?_ _
                go_wp2_with fail
                go_meet
                exact ⟨_, x8, a8, n8, c8, rfl, HW3.out, HP3.out, HV3.out⟩
              · go_simp
                have Hv26 := Lib.hid (Hv26.out.mono (below1 w30 (.cells #[.bool false, .slice none 0 0] 59)))
                have Hv30 := Lib.hid (Hv30.out.mono (below1 w30 (.cells #[.bool false, .slice none 0 0] 59)))
                have HR9 := Lib.hid (Blk.new w30 #[.bool false, .slice none 0 0] 59)
                have HLHR9 := Lib.hid (show wx.heap.size ≤ w30.heap.size from (show Below wx.heap.size wx w30 from Hb30.out).size)
                have HbA9 := Lib.hid (show Below wx.heap.size wx (w30.alloc (.cells #[.bool false, .slice none 0 0] 59)) from bwA (Hb30.out) _)
                refine hK.out _ _ (by exact (HS6.out _ (HbA9.out))) (fun hHeld => ?_)
                clear hK K; (try simp only [tkS])
                generalize (w30.alloc (.cells #[.bool false, .slice none 0 0] 59)) = wA9 at *
                refine tk1 8 (fun K hK => ?_)
                have HL89 := Lib.hid (show w30.heap.size < wA9.heap.size from HR9.out.lt)
                go_simp
                have Hv26 := Lib.hid (Hv26.out.mono (below1 wA9 (.cells #[.bool false, .slice none 0 0] 59)))
                have Hv30 := Lib.hid (Hv30.out.mono (below1 wA9 (.cells #[.bool false, .slice none 0 0] 59)))
                have HR9 := Lib.hid (HR9.out.below (below1 wA9 (.cells #[.bool false, .slice none 0 0] 59)))
                have HP := Lib.hid (Blk.new wA9 #[.bool false, .slice none 0 0] 59)
                have HLHP := Lib.hid (show wx.heap.size ≤ wA9.heap.size from (show Below wx.heap.size wx wA9 from HbA9.out).size)
                have HbA8 := Lib.hid (show Below wx.heap.size wx (wA9.alloc (.cells #[.bool false, .slice none 0 0] 59)) from bwA (HbA9.out) _)
                refine hK.out _ _ (by exact (HS6.out _ (HbA8.out))) (fun hHeld => ?_)
                clear hK K; (try simp only [tkS])
                generalize (wA9.alloc (.cells #[.bool false, .slice none 0 0] 59)) = wA8 at *
                refine tk1 10 (fun K hK => ?_)
                obtain ⟨⟨q0, q1⟩, f0, f1⟩ := blk2v HP.out
                obtain ⟨s1, s2, s3, s4⟩ := stI x8 a8 n8 c8 HP.out
                have HP2 := Lib.hid s1
                have HV2 := Lib.hid (s2 _ _ Hv30.out)
                have HW2 := Lib.hid (s4 _ _ (HbA8.out) HLHP.out)
                have HR2 := Lib.hid (s3 _ _ _ HR9.out (show w30.heap.size ≠ wA9.heap.size from by have h2 := HL89.out; omega))
                have HX2 := Lib.hid (s3 _ _ _ (HXb.out _ (bw_via Hbc.out (HbA8.out))) (show wr.heap.size ≠ wA9.heap.size from by have := HXlt.out; have := HLHP.out; omega))
                have HG2 := Lib.hid (s3 _ _ _ (HGb.out _ (HbA8.out)) (show G ≠ wA9.heap.size from by have := HGlt.out; have := HLHP.out; omega))
                clear s1 s2 s3 s4
                go_simp
                refine hK.out _ _ (by exact (by obtain ⟨j0, j1, j2, j3⟩ := cells4 HX2.out (Below.refl _ _); obtain ⟨⟨i0, i1⟩, -⟩ := blk2v HG2.out; exact ⟨j0, j1, j2, j3, i0, i1⟩)) (fun hHeld => ?_)
                clear hK K; (try simp only [tkS])
                refine tk1 11 (fun K hK => ?_)
                obtain ⟨⟨q0, q1⟩, f0, f1⟩ := blk2v HR2.out
                obtain ⟨s1, s2, s3, s4⟩ := stI x9 a9 n9 c9 HR2.out
                have HP3 := Lib.hid (s3 _ _ _ HP2.out (show wA9.heap.size ≠ w30.heap.size from by have h2 := HL89.out; omega))
                have HV3 := Lib.hid (s2 _ _ HV2.out)
                have HW3 := Lib.hid (s4 _ _ HW2.out HLHR9.out)
                have HX3 := Lib.hid (s3 _ _ _ HX2.out (show wr.heap.size ≠ w30.heap.size from by have := HXlt.out; have := HLHR9.out; omega))
                have HG3 := Lib.hid (s3 _ _ _ HG2.out (show G ≠ w30.heap.size from by have := HGlt.out; have := HLHR9.out; omega))
                clear s1 s2 s3 s4
                go_simp
                refine hK.out _ _ (by exact (by obtain ⟨j0, j1, j2, j3⟩ := cells4 HX3.out (Below.refl _ _); obtain ⟨⟨i0, i1⟩, -⟩ := blk2v HG3.out; exact ⟨j0, j1, j2, j3, i0, i1⟩)) (fun hHeld => ?_)
                clear hK K; (try simp only [tkS])
                refine' tk 12 ?_; (try simp only [tkS])
                refine tkD ?_ _
                go_wp2_with fail
                go_meet
                exact ⟨_, x8, a8, n8, c8, rfl, HW3.out, HP3.out, HV3.out⟩
            · go_simp
              have Hv26 := Lib.hid (Hv26.out.mono (below1 w26 (.cells #[.bool false, .slice none 0 0] 59)))
              have HP := Lib.hid (Blk.new w26 #[.bool false, .slice none 0 0] 59)
              have HLHP := Lib.hid (show wx.heap.size ≤ w26.heap.size from (show Below wx.heap.size wx w26 from Hb26.out).size)
              have HbA8 := Lib.hid (show Below wx.heap.size wx (w26.alloc (.cells #[.bool false, .slice none 0 0] 59)) from bwA (Hb26.out) _)
              refine hK.out _ _ (by exact (HS6.out _ (HbA8.out))) (fun hHeld => ?_)
              clear hK K; (try simp only [tkS])
              generalize (w26.alloc (.cells #[.bool false, .slice none 0 0] 59)) = wA8 at *
              refine wpAnyH_ready (rs := [3, 9]) (by kernel_rfl) (by simp) ?_
              refine AllReadyH.cons rfl (fun K hK => ?_) (AllReadyH.cons rfl (fun K hK => ?_) AllReadyH.nil)
              · go_simp
                go_at_call 78
                refine (HDv.out _ _ _ Hv26.out (HGi.out _ (HbA8.out))).mono ?_
                rintro e5 w30 ⟨v30, rfl, ⟨x8, a8, n8, c8, x9, a9, n9, c9, rfl, hv30⟩, hb30⟩
                have Hb30 := Lib.hid (bw_via (HbA8.out) hb30)
                have Hv26 := Lib.hid (Hv26.out.mono hb30)
                have HP := Lib.hid (HP.out.below hb30)
                have Hv30 := Lib.hid hv30
                clear hv30 hb30
                refine hK.out _ _ (by exact (HS6.out _ (Hb30.out))) (fun hHeld => ?_)
                clear hK K; (try simp only [tkS])
                refine' tk 4 ?_; (try simp only [tkS]); refine' tk 5 ?_; (try simp only [tkS]); refine' tk 6 ?_; (try simp only [tkS]); refine' tk 7 ?_; (try simp only [tkS])
                refine tk1 9 (fun K hK => ?_)
                have HL89 := Lib.hid (show w26.heap.size < w30.heap.size from HP.out.lt)
                go_simp
                have Hv26 := Lib.hid (Hv26.out.mono (below1 w30 (.cells #[.bool false, .slice none 0 0] 59)))
                have HP := Lib.hid (HP.out.below (below1 w30 (.cells #[.bool false, .slice none 0 0] 59)))
                have Hv30 := Lib.hid (Hv30.out.mono (below1 w30 (.cells #[.bool false, .slice none 0 0] 59)))
                have HR9 := Lib.hid (Blk.new w30 #[.bool false, .slice none 0 0] 59)
                have HLHR9 := Lib.hid (show wx.heap.size ≤ w30.heap.size from (show Below wx.heap.size wx w30 from Hb30.out).size)
                have HbA9 := Lib.hid (show Below wx.heap.size wx (w30.alloc (.cells #[.bool false, .slice none 0 0] 59)) from bwA (Hb30.out) _)
                refine hK.out _ _ (by exact (HS6.out _ (HbA9.out))) (fun hHeld => ?_)
                clear hK K; (try simp only [tkS])
                generalize (w30.alloc (.cells #[.bool false, .slice none 0 0] 59)) = wA9 at *
                refine tk1 10 (fun K hK => ?_)
                obtain ⟨⟨q0, q1⟩, f0, f1⟩ := blk2v HP.out
                obtain ⟨s1, s2, s3, s4⟩ := stI x8 a8 n8 c8 HP.out
                have HP2 := Lib.hid s1
                have HV2 := Lib.hid (s2 _ _ Hv30.out)
                have HW2 := Lib.hid (s4 _ _ (HbA9.out) HLHP.out)
                have HR2 := Lib.hid (s3 _ _ _ HR9.out (show w30.heap.size ≠ w26.heap.size from by have h2 := HL89.out; omega))
                have HX2 := Lib.hid (s3 _ _ _ (HXb.out _ (bw_via Hbc.out (HbA9.out))) (show wr.heap.size ≠ w26.heap.size from by have := HXlt.out; have := HLHP.out; omega))
                have HG2 := Lib.hid (s3 _ _ _ (HGb.out _ (HbA9.out)) (show G ≠ w26.heap.size from by have := HGlt.out; have := HLHP.out; omega))
                clear s1 s2 s3 s4
                go_simp
                refine hK.out _ _ (by exact (by obtain ⟨j0, j1, j2, j3⟩ := cells4 HX2.out (Below.refl _ _); obtain ⟨⟨i0, i1⟩, -⟩ := blk2v HG2.out; exact ⟨j0, j1, j2, j3, i0, i1⟩)) (fun hHeld => ?_)
                clear hK K; (try simp only [tkS])
                refine tk1 11 (fun K hK => ?_)
                obtain ⟨⟨q0, q1⟩, f0, f1⟩ := blk2v HR2.out
                obtain ⟨s1, s2, s3, s4⟩ := stI x9 a9 n9 c9 HR2.out
                have HP3 := Lib.hid (s3 _ _ _ HP2.out (show w26.heap.size ≠ w30.heap.size from by have h2 := HL89.out; omega))
                have HV3 := Lib.hid (s2 _ _ HV2.out)
                have HW3 := Lib.hid (s4 _ _ HW2.out HLHR9.out)
                have HX3 := Lib.hid (s3 _ _ _ HX2.out (show wr.heap.size ≠ w30.heap.size from by have := HXlt.out; have := HLHR9.out; omega))
                have HG3 := Lib.hid (s3 _ _ _ HG2.out (show G ≠ w30.heap.size from by have := HGlt.out; have := HLHR9.out; omega))
                clear s1 s2 s3 s4
                go_simp
                refine hK.out _ _ (by exact (by obtain ⟨j0, j1, j2, j3⟩ := cells4 HX3.out (Below.refl _ _); obtain ⟨⟨i0, i1⟩, -⟩ := blk2v HG3.out; exact ⟨j0, j1, j2, j3, i0, i1⟩)) (fun hHeld => ?_)
                clear hK K; (try simp only [tkS])
                refine' tk 12 ?_; (try simp only [tkS])
                refine tkD ?_ _
                go_wp2_with fail
                go_meet
                exact ⟨_, x8, a8, n8, c8, rfl, HW3.out, HP3.out, HV3.out⟩
              · have HL89 := Lib.hid (show w26.heap.size < wA8.heap.size from HP.out.lt)
                go_simp
                have Hv26 := Lib.hid (Hv26.out.mono (below1 wA8 (.cells #[.bool false, .slice none 0 0] 59)))
                have HP := Lib.hid (HP.out.below (below1 wA8 (.cells #[.bool false, .slice none 0 0] 59)))
                have HR9 := Lib.hid (Blk.new wA8 #[.bool false, .slice none 0 0] 59)
                have HLHR9 := Lib.hid (show wx.heap.size ≤ wA8.heap.size from (show Below wx.heap.size wx wA8 from HbA8.out).size)
                have HbA9 := Lib.hid (show Below wx.heap.size wx (wA8.alloc (.cells #[.bool false, .slice none 0 0] 59)) from bwA (HbA8.out) _)
                refine hK.out _ _ (by exact (HS6.out _ (HbA9.out))) (fun hHeld => ?_)
                clear hK K; (try simp only [tkS])
                generalize (wA8.alloc (.cells #[.bool false, .slice none 0 0] 59)) = wA9 at *
                refine tk1 3 (fun K hK => ?_)
                go_simp
                go_at_call 78
                refine (HDv.out _ _ _ Hv26.out (HGi.out _ (HbA9.out))).mono ?_
                rintro e5 w30 ⟨v30, rfl, ⟨x8, a8, n8, c8, x9, a9, n9, c9, rfl, hv30⟩, hb30⟩
                have Hb30 := Lib.hid (bw_via (HbA9.out) hb30)
                have Hv26 := Lib.hid (Hv26.out.mono hb30)
                have HP := Lib.hid (HP.out.below hb30)
                have HR9 := Lib.hid (HR9.out.below hb30)
                have Hv30 := Lib.hid hv30
                clear hv30 hb30
                refine hK.out _ _ (by exact (HS6.out _ (Hb30.out))) (fun hHeld => ?_)
                clear hK K; (try simp only [tkS])
                refine' tk 4 ?_; (try simp only [tkS]); refine' tk 5 ?_; (try simp only [tkS]); refine' tk 6 ?_; (try simp only [tkS]); refine' tk 7 ?_; (try simp only [tkS])
                refine tk1 10 (fun K hK => ?_)
                obtain ⟨⟨q0, q1⟩, f0, f1⟩ := blk2v HP.out
                obtain ⟨s1, s2, s3, s4⟩ := stI x8 a8 n8 c8 HP.out
                have HP2 := Lib.hid s1
                have HV2 := Lib.hid (s2 _ _ Hv30.out)
                have HW2 := Lib.hid (s4 _ _ (Hb30.out) HLHP.out)
                have HR2 := Lib.hid (s3 _ _ _ HR9.out (show wA8.heap.size ≠ w26.heap.size from by have h2 := HL89.out; omega))
                have HX2 := Lib.hid (s3 _ _ _ (HXb.out _ (bw_via Hbc.out (Hb30.out))) (show wr.heap.size ≠ w26.heap.size from by have := HXlt.out; have := HLHP.out; omega))
                have HG2 := Lib.hid (s3 _ _ _ (HGb.out _ (Hb30.out)) (show G ≠ w26.heap.size from by have := HGlt.out; have := HLHP.out; omega))
                clear s1 s2 s3 s4
                go_simp
                refine hK.out _ _ (by exact (by obtain ⟨j0, j1, j2, j3⟩ := cells4 HX2.out (Below.refl _ _); obtain ⟨⟨i0, i1⟩, -⟩ := blk2v HG2.out; exact ⟨j0, j1, j2, j3, i0, i1⟩)) (fun hHeld => ?_)
                clear hK K; (try simp only [tkS])
                refine tk1 11 (fun K hK => ?_)
                obtain ⟨⟨q0, q1⟩, f0, f1⟩ := blk2v HR2.out
                obtain ⟨s1, s2, s3, s4⟩ := stI x9 a9 n9 c9 HR2.out
                have HP3 := Lib.hid (s3 _ _ _ HP2.out (show w26.heap.size ≠ wA8.heap.size from by have h2 := HL89.out; omega))
                have HV3 := Lib.hid (s2 _ _ HV2.out)
                have HW3 := Lib.hid (s4 _ _ HW2.out HLHR9.out)
                have HX3 := Lib.hid (s3 _ _ _ HX2.out (show wr.heap.size ≠ wA8.heap.size from by have := HXlt.out; have := HLHR9.out; omega))
                have HG3 := Lib.hid (s3 _ _ _ HG2.out (show G ≠ wA8.heap.size from by have := HGlt.out; have := HLHR9.out; omega))
                clear s1 s2 s3 s4
                go_simp
                refine hK.out _ _ (by exact (by obtain ⟨j0, j1, j2, j3⟩ := cells4 HX3.out (Below.refl _ _); obtain ⟨⟨i0, i1⟩, -⟩ := blk2v HG3.out; exact ⟨j0, j1, j2, j3, i0, i1⟩)) (fun hHeld => ?_)
                clear hK K; (try simp only [tkS])
                refine' tk 12 ?_; (try simp only [tkS])
                refine tkD ?_ _
                go_wp2_with fail
                go_meet
                exact ⟨_, x8, a8, n8, c8, rfl, HW3.out, HP3.out, HV3.out⟩
            · go_simp
              have Hv26 := Lib.hid (Hv26.out.mono (below1 w26 (.cells #[.bool false, .slice none 0 0] 59)))
              have HR9 := Lib.hid (Blk.new w26 #[.bool false, .slice none 0 0] 59)
              have HLHR9 := Lib.hid (show wx.heap.size ≤ w26.heap.size from (show Below wx.heap.size wx w26 from Hb26.out).size)
              have HbA9 := Lib.hid (show Below wx.heap.size wx (w26.alloc (.cells #[.bool false, .slice none 0 0] 59)) from bwA (Hb26.out) _)
              refine hK.out _ _ (by exact (HS6.out _ (HbA9.out))) (fun hHeld => ?_)
              clear hK K; (try simp only [tkS])
              generalize (w26.alloc (.cells #[.bool false, .slice none 0 0] 59)) = wA9 at *
              refine wpAnyH_ready (rs := [3, 8]) (by kernel_rfl) (by simp) ?_
              refine AllReadyH.cons rfl (fun K hK => ?_) (AllReadyH.cons rfl (fun K hK => ?_) AllReadyH.nil)
              · go_simp
                go_at_call 78
                refine (HDv.out _ _ _ Hv26.out (HGi.out _ (HbA9.out))).mono ?_
                rintro e5 w30 ⟨v30, rfl, ⟨x8, a8, n8, c8, x9, a9, n9, c9, rfl, hv30⟩, hb30⟩
                have Hb30 := Lib.hid (bw_via (HbA9.out) hb30)
                have Hv26 := Lib.hid (Hv26.out.mono hb30)
                have HR9 := Lib.hid (HR9.out.below hb30)
                have Hv30 := Lib.hid hv30
                clear hv30 hb30
                refine hK.out _ _ (by exact (HS6.out _ (Hb30.out))) (fun hHeld => ?_)
                clear hK K; (try simp only [tkS])
                refine' tk 4 ?_; (try simp only [tkS]); refine' tk 5 ?_; (try simp only [tkS]); refine' tk 6 ?_; (try simp only [tkS]); refine' tk 7 ?_; (try simp only [tkS])
                refine tk1 8 (fun K hK => ?_)
                have HL89 := Lib.hid (show w26.heap.size < w30.heap.size from HR9.out.lt)
                go_simp
                have Hv26 := Lib.hid (Hv26.out.mono (below1 w30 (.cells #[.bool false, .slice none 0 0] 59)))
                have HR9 := Lib.hid (HR9.out.below (below1 w30 (.cells #[.bool false, .slice none 0 0] 59)))
                have Hv30 := Lib.hid (Hv30.out.mono (below1 w30 (.cells #[.bool false, .slice none 0 0] 59)))
                have HP := Lib.hid (Blk.new w30 #[.bool false, .slice none 0 0] 59)
                have HLHP := Lib.hid (show wx.heap.size ≤ w30.heap.size from (show Below wx.heap.size wx w30 from Hb30.out).size)
                have HbA8 := Lib.hid (show Below wx.heap.size wx (w30.alloc (.cells #[.bool false, .slice none 0 0] 59)) from bwA (Hb30.out) _)
                refine hK.out _ _ (by exact (HS6.out _ (HbA8.out))) (fun hHeld => ?_)
                clear hK K; (try simp only [tkS])
                generalize (w30.alloc (.cells #[.bool false, .slice none 0 0] 59)) = wA8 at *
                refine tk1 10 (fun K hK => ?_)
                obtain ⟨⟨q0, q1⟩, f0, f1⟩ := blk2v HP.out
                obtain ⟨s1, s2, s3, s4⟩ := stI x8 a8 n8 c8 HP.out
                have HP2 := Lib.hid s1
                have HV2 := Lib.hid (s2 _ _ Hv30.out)
                have HW2 := Lib.hid (s4 _ _ (HbA8.out) HLHP.out)
                have HR2 := Lib.hid (s3 _ _ _ HR9.out (show w26.heap.size ≠ w30.heap.size from by have h2 := HL89.out; omega))
                have HX2 := Lib.hid (s3 _ _ _ (HXb.out _ (bw_via Hbc.out (HbA8.out))) (show wr.heap.size ≠ w30.heap.size from by have := HXlt.out; have := HLHP.out; omega))
                have HG2 := Lib.hid (s3 _ _ _ (HGb.out _ (HbA8.out)) (show G ≠ w30.heap.size from by have := HGlt.out; have := HLHP.out; omega))
                clear s1 s2 s3 s4
                go_simp
                refine hK.out _ _ (by exact (by obtain ⟨j0, j1, j2, j3⟩ := cells4 HX2.out (Below.refl _ _); obtain ⟨⟨i0, i1⟩, -⟩ := blk2v HG2.out; exact ⟨j0, j1, j2, j3, i0, i1⟩)) (fun hHeld => ?_)
                clear hK K; (try simp only [tkS])
                refine tk1 11 (fun K hK => ?_)
                obtain ⟨⟨q0, q1⟩, f0, f1⟩ := blk2v HR2.out
                obtain ⟨s1, s2, s3, s4⟩ := stI x9 a9 n9 c9 HR2.out
                have HP3 := Lib.hid (s3 _ _ _ HP2.out (show w30.heap.size ≠ w26.heap.size from by have h2 := HL89.out; omega))
                have HV3 := Lib.hid (s2 _ _ HV2.out)
                have HW3 := Lib.hid (s4 _ _ HW2.out HLHR9.out)
                have HX3 := Lib.hid (s3 _ _ _ HX2.out (show wr.heap.size ≠ w26.heap.size from by have := HXlt.out; have := HLHR9.out; omega))
                have HG3 := Lib.hid (s3 _ _ _ HG2.out (show G ≠ w26.heap.size from by have := HGlt.out; have := HLHR9.out; omega))
                clear s1 s2 s3 s4
                go_simp
                refine hK.out _ _ (by exact (by obtain ⟨j0, j1, j2, j3⟩ := cells4 HX3.out (Below.refl _ _); obtain ⟨⟨i0, i1⟩, -⟩ := blk2v HG3.out; exact ⟨j0, j1, j2, j3, i0, i1⟩)) (fun hHeld => ?_)
                clear hK K; (try simp only [tkS])
                refine' tk 12 ?_; (try simp only [tkS])
                refine tkD ?_ _
                go_wp2_with fail
                go_meet
                exact ⟨_, x8, a8, n8, c8, rfl, HW3.out, HP3.out, HV3.out⟩
              · have HL89 := Lib.hid (show w26.heap.size < wA9.heap.size from HR9.out.lt)
                go_simp
                have Hv26 := Lib.hid (Hv26.out.mono (below1 wA9 (.cells #[.bool false, .slice none 0 0] 59)))
                have HR9 := Lib.hid (HR9.out.below (below1 wA9 (.cells #[.bool false, .slice none 0 0] 59)))
                have HP := Lib.hid (Blk.new wA9 #[.bool false, .slice none 0 0] 59)
                have HLHP := Lib.hid (show wx.heap.size ≤ wA9.heap.size from (show Below wx.heap.size wx wA9 from HbA9.out).size)
                have HbA8 := Lib.hid (show Below wx.heap.size wx (wA9.alloc (.cells #[.bool false, .slice none 0 0] 59)) from bwA (HbA9.out) _)
                refine hK.out _ _ (by exact (HS6.out _ (HbA8.out))) (fun hHeld => ?_)
                clear hK K; (try simp only [tkS])
                generalize (wA9.alloc (.cells #[.bool false, .slice none 0 0] 59)) = wA8 at *
                refine tk1 3 (fun K hK => ?_)
                go_simp
                go_at_call 78
                refine (HDv.out _ _ _ Hv26.out (HGi.out _ (HbA8.out))).mono ?_
                rintro e5 w30 ⟨v30, rfl, ⟨x8, a8, n8, c8, x9, a9, n9, c9, rfl, hv30⟩, hb30⟩
                have Hb30 := Lib.hid (bw_via (HbA8.out) hb30)
                have Hv26 := Lib.hid (Hv26.out.mono hb30)
                have HR9 := Lib.hid (HR9.out.below hb30)
                have HP := Lib.hid (HP.out.below hb30)
                have Hv30 := Lib.hid hv30
                clear hv30 hb30
                refine hK.out _ _ (by exact (HS6.out _ (Hb30.out))) (fun hHeld => ?_)
                clear hK K; (try simp only [tkS])
                refine' tk 4 ?_; (try simp only [tkS]); refine' tk 5 ?_; (try simp only [tkS]); refine' tk 6 ?_; (try simp only [tkS]); refine' tk 7 ?_; (try simp only [tkS])
                refine tk1 10 (fun K hK => ?_)
                obtain ⟨⟨q0, q1⟩, f0, f1⟩ := blk2v HP.out
                obtain ⟨s1, s2, s3, s4⟩ := stI x8 a8 n8 c8 HP.out
                have HP2 := Lib.hid s1
                have HV2 := Lib.hid (s2 _ _ Hv30.out)
                have HW2 := Lib.hid (s4 _ _ (Hb30.out) HLHP.out)
                have HR2 := Lib.hid (s3 _ _ _ HR9.out (show w26.heap.size ≠ wA9.heap.size from by have h2 := HL89.out; omega))
                have HX2 := Lib.hid (s3 _ _ _ (HXb.out _ (bw_via Hbc.out (Hb30.out))) (show wr.heap.size ≠ wA9.heap.size from by have := HXlt.out; have := HLHP.out; omega))
                have HG2 := Lib.hid (s3 _ _ _ (HGb.out _ (Hb30.out)) (show G ≠ wA9.heap.size from by have := HGlt.out; have := HLHP.out; omega))
                clear s1 s2 s3 s4
                go_simp
                refine hK.out _ _ (by exact (by obtain ⟨j0, j1, j2, j3⟩ := cells4 HX2.out (Below.refl _ _); obtain ⟨⟨i0, i1⟩, -⟩ := blk2v HG2.out; exact ⟨j0, j1, j2, j3, i0, i1⟩)) (fun hHeld => ?_)
                clear hK K; (try simp only [tkS])
                refine tk1 11 (fun K hK => ?_)
                obtain ⟨⟨q0, q1⟩, f0, f1⟩ := blk2v HR2.out
                obtain ⟨s1, s2, s3, s4⟩ := stI x9 a9 n9 c9 HR2.out
                have HP3 := Lib.hid (s3 _ _ _ HP2.out (show wA9.heap.size ≠ w26.heap.size from by have h2 := HL89.out; omega))
                have HV3 := Lib.hid (s2 _ _ HV2.out)
                have HW3 := Lib.hid (s4 _ _ HW2.out HLHR9.out)
                have HX3 := Lib.hid (s3 _ _ _ HX2.out (show wr.heap.size ≠ w26.heap.size from by have := HXlt.out; have := HLHR9.out; omega))
                have HG3 := Lib.hid (s3 _ _ _ HG2.out (show G ≠ w26.heap.size from by have := HGlt.out; have := HLHR9.out; omega))
                clear s1 s2 s3 s4
                go_simp
                refine hK.out _ _ (by exact (by obtain ⟨j0, j1, j2, j3⟩ := cells4 HX3.out (Below.refl _ _); obtain ⟨⟨i0, i1⟩, -⟩ := blk2v HG3.out; exact ⟨j0, j1, j2, j3, i0, i1⟩)) (fun hHeld => ?_)
                clear hK K; (try simp only [tkS])
                refine' tk 12 ?_; (try simp only [tkS])
                refine tkD ?_ _
                go_wp2_with fail
                go_meet
                exact ⟨_, x8, a8, n8, c8, rfl, HW3.out, HP3.out, HV3.out⟩
          · go_simp
            have HP := Lib.hid (show Blk (wx.alloc (.cells #[.bool false, .slice none 0 0] 59)).drew wx.heap.size #[.bool false, .slice none 0 0] 59 from (Blk.new wx #[.bool false, .slice none 0 0] 59).below (Below.refl _ _).drew)
            have HLHP := Lib.hid (show wx.heap.size ≤ wx.heap.size from (show Below wx.heap.size wx wx.drew from (Below.refl _ _).drew).size)
            have HbA8 := Lib.hid (show Below wx.heap.size wx (wx.alloc (.cells #[.bool false, .slice none 0 0] 59)).drew from bwA ((Below.refl _ _).drew) _)
            refine hK.out _ _ (by exact (HS6.out _ (HbA8.out))) (fun hHeld => ?_)
            clear hK K; (try simp only [tkS])
            generalize (wx.alloc (.cells #[.bool false, .slice none 0 0] 59)).drew = wA8 at *
            refine wpAnyH_ready (rs := [1, 9]) (by kernel_rfl) (by simp) ?_
            refine AllReadyH.cons rfl (fun K hK => ?_) (AllReadyH.cons rfl (fun K hK => ?_) AllReadyH.nil)
            · go_simp
              go_at_call 59
              refine (HDn.out _ (bw_via Hbc.out (HbA8.out))).mono ?_
              rintro e5 w26 ⟨v26, rfl, hv26, hb26⟩
              have Hb26 := Lib.hid (bw_via (HbA8.out) hb26)
              have HP := Lib.hid (HP.out.below hb26)
              have Hv26 := Lib.hid hv26
              clear hv26 hb26
              refine hK.out _ _ (by exact (HS6.out _ (Hb26.out))) (fun hHeld => ?_)
              clear hK K; (try simp only [tkS])
              refine wpAnyH_ready (rs := [3, 9]) (by kernel_rfl) (by simp) ?_
              refine AllReadyH.cons rfl (fun K hK => ?_) (AllReadyH.cons rfl (fun K hK => ?_) AllReadyH.nil)
              · go_simp
                go_at_call 78
                refine (HDv.out _ _ _ Hv26.out (HGi.out _ (Hb26.out))).mono ?_
                rintro e5 w30 ⟨v30, rfl, ⟨x8, a8, n8, c8, x9, a9, n9, c9, rfl, hv30⟩, hb30⟩
                have Hb30 := Lib.hid (bw_via (Hb26.out) hb30)
                have HP := Lib.hid (HP.out.below hb30)
                have Hv26 := Lib.hid (Hv26.out.mono hb30)
                have Hv30 := Lib.hid hv30
                clear hv30 hb30
                refine hK.out _ _ (by exact (HS6.out _ (Hb30.out))) (fun hHeld => ?_)
                clear hK K; (try simp only [tkS])
                refine' tk 4 ?_; (try simp only [tkS]); refine' tk 5 ?_; (try simp only [tkS]); refine' tk 6 ?_; (try simp only [tkS]); refine' tk 7 ?_; (try simp only [tkS])
                refine tk1 9 (fun K hK => ?_)
                have HL89 := Lib.hid (show wx.heap.size < w30.heap.size from HP.out.lt)
                go_simp
                have HP := Lib.hid (HP.out.below (below1 w30 (.cells #[.bool false, .slice none 0 0] 59)))
                have Hv26 := Lib.hid (Hv26.out.mono (below1 w30 (.cells #[.bool false, .slice none 0 0] 59)))
                have Hv30 := Lib.hid (Hv30.out.mono (below1 w30 (.cells #[.bool false, .slice none 0 0] 59)))
                have HR9 := Lib.hid (Blk.new w30 #[.bool false, .slice none 0 0] 59)
                have HLHR9 := Lib.hid (show wx.heap.size ≤ w30.heap.size from (show Below wx.heap.size wx w30 from Hb30.out).size)
                have HbA9 := Lib.hid (show Below wx.heap.size wx (w30.alloc (.cells #[.bool false, .slice none 0 0] 59)) from bwA (Hb30.out) _)
                refine hK.out _ _ (by exact (HS6.out _ (HbA9.out))) (fun hHeld => ?_)
                clear hK K; (try simp only [tkS])
                generalize (w30.alloc (.cells #[.bool false, .slice none 0 0] 59)) = wA9 at *
                refine tk1 10 (fun K hK => ?_)
                obtain ⟨⟨q0, q1⟩, f0, f1⟩ := blk2v HP.out
                obtain ⟨s1, s2, s3, s4⟩ := stI x8 a8 n8 c8 HP.out
                have HP2 := Lib.hid s1
                have HV2 := Lib.hid (s2 _ _ Hv30.out)
                have HW2 := Lib.hid (s4 _ _ (HbA9.out) HLHP.out)
                have HR2 := Lib.hid (s3 _ _ _ HR9.out (show w30.heap.size ≠ wx.heap.size from by have h2 := HL89.out; omega))
                have HX2 := Lib.hid (s3 _ _ _ (HXb.out _ (bw_via Hbc.out (HbA9.out))) (show wr.heap.size ≠ wx.heap.size from by have := HXlt.out; have := HLHP.out; omega))
                have HG2 := Lib.hid (s3 _ _ _ (HGb.out _ (HbA9.out)) (show G ≠ wx.heap.size from by have := HGlt.out; have := HLHP.out; omega))
                clear s1 s2 s3 s4
                go_simp
                refine hK.out _ _ (by exact (by obtain ⟨j0, j1, j2, j3⟩ := cells4 HX2.out (Below.refl _ _); obtain ⟨⟨i0, i1⟩, -⟩ := blk2v HG2.out; exact ⟨j0, j1, j2, j3, i0, i1⟩)) (fun hHeld => ?_)
                clear hK K; (try simp only [tkS])
                refine tk1 11 (fun K hK => ?_)
                obtain ⟨⟨q0, q1⟩, f0, f1⟩ := blk2v HR2.out
                obtain ⟨s1, s2, s3, s4⟩ := stI x9 a9 n9 c9 HR2.out
                have HP3 := Lib.hid (s3 _ _ _ HP2.out (show wx.heap.size ≠ w30.heap.size from by have h2 := HL89.out; omega))
                have HV3 := Lib.hid (s2 _ _ HV2.out)
                have HW3 := Lib.hid (s4 _ _ HW2.out HLHR9.out)
                have HX3 := Lib.hid (s3 _ _ _ HX2.out (show wr.heap.size ≠ w30.heap.size from by have := HXlt.out; have := HLHR9.out; omega))
                have HG3 := Lib.hid (s3 _ _ _ HG2.out (show G ≠ w30.heap.size from by have := HGlt.out; have := HLHR9.out; omega))
                clear s1 s2 s3 s4
                go_simp
                refine hK.out _ _ (by exact (by obtain ⟨j0, j1, j2, j3⟩ := cells4 HX3.out (Below.refl _ _); obtain ⟨⟨i0, i1⟩, -⟩ := blk2v HG3.out; exact ⟨j0, j1, j2, j3, i0, i1⟩)) (fun hHeld => ?_)
                clear hK K; (try simp only [tkS])
                refine' tk 12 ?_; (try simp only [tkS])
                refine tkD ?_ _
                go_wp2_with fail
                go_meet
                exact ⟨_, x8, a8, n8, c8, rfl, HW3.out, HP3.out, HV3.out⟩
              · have HL89 := Lib.hid (show wx.heap.size < w26.heap.size from HP.out.lt)
                go_simp
                have HP := Lib.hid (HP.out.below (below1 w26 (.cells #[.bool false, .slice none 0 0] 59)))
                have Hv26 := Lib.hid (Hv26.out.mono (below1 w26 (.cells #[.bool false, .slice none 0 0] 59)))
                have HR9 := Lib.hid (Blk.new w26 #[.bool false, .slice none 0 0] 59)
                have HLHR9 := Lib.hid (show wx.heap.size ≤ w26.heap.size from (show Below wx.heap.size wx w26 from Hb26.out).size)
                have HbA9 := Lib.hid (show Below wx.heap.size wx (w26.alloc (.cells #[.bool false, .slice none 0 0] 59)) from bwA (Hb26.out) _)
                refine hK.out _ _ (by exact (HS6.out _ (HbA9.out))) (fun hHeld => ?_)
                clear hK K; (try simp only [tkS])
                generalize (w26.alloc (.cells #[.bool false, .slice none 0 0] 59)) = wA9 at *
                refine tk1 3 (fun K hK => ?_)
                go_simp
                go_at_call 78
                refine (HDv.out _ _ _ Hv26.out (HGi.out _ (HbA9.out))).mono ?_
                rintro e5 w30 ⟨v30, rfl, ⟨x8, a8, n8, c8, x9, a9, n9, c9, rfl, hv30⟩, hb30⟩
                have Hb30 := Lib.hid (bw_via (HbA9.out) hb30)
                have HP := Lib.hid (HP.out.below hb30)
                have Hv26 := Lib.hid (Hv26.out.mono hb30)
                have HR9 := Lib.hid (HR9.out.below hb30)
                have Hv30 := Lib.hid hv30
                clear hv30 hb30
                refine hK.out _ _ (by exact (HS6.out _ (Hb30.out))) (fun hHeld => ?_)
                clear hK K; (try simp only [tkS])
                refine' tk 4 ?_; (try simp only [tkS]); refine' tk 5 ?_; (try simp only [tkS]); refine' tk 6 ?_; (try simp only [tkS]); refine' tk 7 ?_; (try simp only [tkS])
                refine tk1 10 (fun K hK => ?_)
                obtain ⟨⟨q0, q1⟩, f0, f1⟩ := blk2v HP.out
                obtain ⟨s1, s2, s3, s4⟩ := stI x8 a8 n8 c8 HP.out
                have HP2 := Lib.hid s1
                have HV2 := Lib.hid (s2 _ _ Hv30.out)
                have HW2 := Lib.hid (s4 _ _ (Hb30.out) HLHP.out)
                have HR2 := Lib.hid (s3 _ _ _ HR9.out (show w26.heap.size ≠ wx.heap.size from by have h2 := HL89.out; omega))
                have HX2 := Lib.hid (s3 _ _ _ (HXb.out _ (bw_via Hbc.out (Hb30.out))) (show wr.heap.size ≠ wx.heap.size from by have := HXlt.out; have := HLHP.out; omega))
                have HG2 := Lib.hid (s3 _ _ _ (HGb.out _ (Hb30.out)) (show G ≠ wx.heap.size from by have := HGlt.out; have := HLHP.out; omega))
                clear s1 s2 s3 s4
                go_simp
                refine hK.out _ _ (by exact (by obtain ⟨j0, j1, j2, j3⟩ := cells4 HX2.out (Below.refl _ _); obtain ⟨⟨i0, i1⟩, -⟩ := blk2v HG2.out; exact ⟨j0, j1, j2, j3, i0, i1⟩)) (fun hHeld => ?_)
                clear hK K; (try simp only [tkS])
                refine tk1 11 (fun K hK => ?_)
                obtain ⟨⟨q0, q1⟩, f0, f1⟩ := blk2v HR2.out
                obtain ⟨s1, s2, s3, s4⟩ := stI x9 a9 n9 c9 HR2.out
                have HP3 := Lib.hid (s3 _ _ _ HP2.out (show wx.heap.size ≠ w26.heap.size from by have h2 := HL89.out; omega))
                have HV3 := Lib.hid (s2 _ _ HV2.out)
                have HW3 := Lib.hid (s4 _ _ HW2.out HLHR9.out)
                have HX3 := Lib.hid (s3 _ _ _ HX2.out (show wr.heap.size ≠ w26.heap.size from by have := HXlt.out; have := HLHR9.out; omega))
                have HG3 := Lib.hid (s3 _ _ _ HG2.out (show G ≠ w26.heap.size from by have := HGlt.out; have := HLHR9.out; omega))
                clear s1 s2 s3 s4
                go_simp
                refine hK.out _ _ (by exact (by obtain ⟨j0, j1, j2, j3⟩ := cells4 HX3.out (Below.refl _ _); obtain ⟨⟨i0, i1⟩, -⟩ := blk2v HG3.out; exact ⟨j0, j1, j2, j3, i0, i1⟩)) (fun hHeld => ?_)
                clear hK K; (try simp only [tkS])
                refine' tk 12 ?_; (try simp only [tkS])
                refine tkD ?_ _
                go_wp2_with fail
                go_meet
                exact ⟨_, x8, a8, n8, c8, rfl, HW3.out, HP3.out, HV3.out⟩
            · have HL89 := Lib.hid (show wx.heap.size < wA8.heap.size from HP.out.lt)
              go_simp
              have HP := Lib.hid (HP.out.below (below1 wA8 (.cells #[.bool false, .slice none 0 0] 59)))
              have HR9 := Lib.hid (Blk.new wA8 #[.bool false, .slice none 0 0] 59)
              have HLHR9 := Lib.hid (show wx.heap.size ≤ wA8.heap.size from (show Below wx.heap.size wx wA8 from HbA8.out).size)
              have HbA9 := Lib.hid (show Below wx.heap.size wx (wA8.alloc (.cells #[.bool false, .slice none 0 0] 59)) from bwA (HbA8.out) _)
              refine hK.out _ _ (by exact (HS6.out _ (HbA9.out))) (fun hHeld => ?_)
              clear hK K; (try simp only [tkS])
              generalize (wA8.alloc (.cells #[.bool false, .slice none 0 0] 59)) = wA9 at *
              refine tk1 1 (fun K hK => ?_)
              go_simp
              go_at_call 59
              refine (HDn.out _ (bw_via Hbc.out (HbA9.out))).mono ?_
              rintro e5 w26 ⟨v26, rfl, hv26, hb26⟩
              have Hb26 := Lib.hid (bw_via (HbA9.out) hb26)
              have HP := Lib.hid (HP.out.below hb26)
              have HR9 := Lib.hid (HR9.out.below hb26)
              have Hv26 := Lib.hid hv26
              clear hv26 hb26
              refine hK.out _ _ (by exact (HS6.out _ (Hb26.out))) (fun hHeld => ?_)
              clear hK K; (try simp only [tkS])
              refine tk1 3 (fun K hK => ?_)
              go_simp
              go_at_call 78
              refine (HDv.out _ _ _ Hv26.out (HGi.out _ (Hb26.out))).mono ?_
              rintro e5 w30 ⟨v30, rfl, ⟨x8, a8, n8, c8, x9, a9, n9, c9, rfl, hv30⟩, hb30⟩
              have Hb30 := Lib.hid (bw_via (Hb26.out) hb30)
              have HP := Lib.hid (HP.out.below hb30)
              have HR9 := Lib.hid (HR9.out.below hb30)
              have Hv26 := Lib.hid (Hv26.out.mono hb30)
              have Hv30 := Lib.hid hv30
              clear hv30 hb30
              refine hK.out _ _ (by exact (HS6.out _ (Hb30.out))) (fun hHeld => ?_)
              clear hK K; (try simp only [tkS])
              refine' tk 4 ?_; (try simp only [tkS]); refine' tk 5 ?_; (try simp only [tkS]); refine' tk 6 ?_; (try simp only [tkS]); refine' tk 7 ?_; (try simp only [tkS])
              refine tk1 10 (fun K hK => ?_)
              obtain ⟨⟨q0, q1⟩, f0, f1⟩ := blk2v HP.out
              obtain ⟨s1, s2, s3, s4⟩ := stI x8 a8 n8 c8 HP.out
              have HP2 := Lib.hid s1
              have HV2 := Lib.hid (s2 _ _ Hv30.out)
              have HW2 := Lib.hid (s4 _ _ (Hb30.out) HLHP.out)
              have HR2 := Lib.hid (s3 _ _ _ HR9.out (show wA8.heap.size ≠ wx.heap.size from by have h2 := HL89.out; omega))
              have HX2 := Lib.hid (s3 _ _ _ (HXb.out _ (bw_via Hbc.out (Hb30.out))) (show wr.heap.size ≠ wx.heap.size from by have := HXlt.out; have := HLHP.out; omega))
              have HG2 := Lib.hid (s3 _ _ _ (HGb.out _ (Hb30.out)) (show G ≠ wx.heap.size from by have := HGlt.out; have := HLHP.out; omega))
              clear s1 s2 s3 s4
              go_simp
              refine hK.out _ _ (by exact (by obtain ⟨j0, j1, j2, j3⟩ := cells4 HX2.out (Below.refl _ _); obtain ⟨⟨i0, i1⟩, -⟩ := blk2v HG2.out; exact ⟨j0, j1, j2, j3, i0, i1⟩)) (fun hHeld => ?_)
              clear hK K; (try simp only [tkS])
              refine tk1 11 (fun K hK => ?_)
              obtain ⟨⟨q0, q1⟩, f0, f1⟩ := blk2v HR2.out
              obtain ⟨s1, s2, s3, s4⟩ := stI x9 a9 n9 c9 HR2.out
              have HP3 := Lib.hid (s3 _ _ _ HP2.out (show wx.heap.size ≠ wA8.heap.size from by have h2 := HL89.out; omega))
              have HV3 := Lib.hid (s2 _ _ HV2.out)
              have HW3 := Lib.hid (s4 _ _ HW2.out HLHR9.out)
              have HX3 := Lib.hid (s3 _ _ _ HX2.out (show wr.heap.size ≠ wA8.heap.size from by have := HXlt.out; have := HLHR9.out; omega))
              have HG3 := Lib.hid (s3 _ _ _ HG2.out (show G ≠ wA8.heap.size from by have := HGlt.out; have := HLHR9.out; omega))
              clear s1 s2 s3 s4
              go_simp
              refine hK.out _ _ (by exact (by obtain ⟨j0, j1, j2, j3⟩ := cells4 HX3.out (Below.refl _ _); obtain ⟨⟨i0, i1⟩, -⟩ := blk2v HG3.out; exact ⟨j0, j1, j2, j3, i0, i1⟩)) (fun hHeld => ?_)
              clear hK K; (try simp only [tkS])
              refine' tk 12 ?_; (try simp only [tkS])
              refine tkD ?_ _
              go_wp2_with fail
              go_meet
              exact ⟨_, x8, a8, n8, c8, rfl, HW3.out, HP3.out, HV3.out⟩
          · go_simp
            have HR9 := Lib.hid (show Blk (wx.alloc (.cells #[.bool false, .slice none 0 0] 59)).drew wx.heap.size #[.bool false, .slice none 0 0] 59 from (Blk.new wx #[.bool false, .slice none 0 0] 59).below (Below.refl _ _).drew)
            have HLHR9 := Lib.hid (show wx.heap.size ≤ wx.heap.size from (show Below wx.heap.size wx wx.drew from (Below.refl _ _).drew).size)
            have HbA9 := Lib.hid (show Below wx.heap.size wx (wx.alloc (.cells #[.bool false, .slice none 0 0] 59)).drew from bwA ((Below.refl _ _).drew) _)
            refine hK.out _ _ (by exact (HS6.out _ (HbA9.out))) (fun hHeld => ?_)
            clear hK K; (try simp only [tkS])
            generalize (wx.alloc (.cells #[.bool false, .slice none 0 0] 59)).drew = wA9 at *
            refine wpAnyH_ready (rs := [1, 8]) (by kernel_rfl) (by simp) ?_
            refine AllReadyH.cons rfl (fun K hK => ?_) (AllReadyH.cons rfl (fun K hK => ?_) AllReadyH.nil)
            · go_simp
              go_at_call 59
              refine (HDn.out _ (bw_via Hbc.out (HbA9.out))).mono ?_
              rintro e5 w26 ⟨v26, rfl, hv26, hb26⟩
              have Hb26 := Lib.hid (bw_via (HbA9.out) hb26)
              have HR9 := Lib.hid (HR9.out.below hb26)
              have Hv26 := Lib.hid hv26
              clear hv26 hb26
              refine hK.out _ _ (by exact (HS6.out _ (Hb26.out))) (fun hHeld => ?_)
              clear hK K; (try simp only [tkS])
              refine wpAnyH_ready (rs := [3, 8]) (by kernel_rfl) (by simp) ?_
              refine AllReadyH.cons rfl (fun K hK => ?_) (AllReadyH.cons rfl (fun K hK => ?_) AllReadyH.nil)
              · go_simp
                go_at_call 78
                refine (HDv.out _ _ _ Hv26.out (HGi.out _ (Hb26.out))).mono ?_
                rintro e5 w30 ⟨v30, rfl, ⟨x8, a8, n8, c8, x9, a9, n9, c9, rfl, hv30⟩, hb30⟩
                have Hb30 := Lib.hid (bw_via (Hb26.out) hb30)
                have HR9 := Lib.hid (HR9.out.below hb30)
                have Hv26 := Lib.hid (Hv26.out.mono hb30)
                have Hv30 := Lib.hid hv30
                clear hv30 hb30
                refine hK.out _ _ (by exact (HS6.out _ (Hb30.out))) (fun hHeld => ?_)
                clear hK K; (try simp only [tkS])
                refine' tk 4 ?_; (try simp only [tkS]); refine' tk 5 ?_; (try simp only [tkS]); refine' tk 6 ?_; (try simp only [tkS]); refine' tk 7 ?_; (try simp only [tkS])
                refine tk1 8 (fun K hK => ?_)
                have HL89 := Lib.hid (show wx.heap.size < w30.heap.size from HR9.out.lt)
                go_simp
                have HR9 := Lib.hid (HR9.out.below (below1 w30 (.cells #[.bool false, .slice none 0 0] 59)))
                have Hv26 := Lib.hid (Hv26.out.mono (below1 w30 (.cells #[.bool false, .slice none 0 0] 59)))
                have Hv30 := Lib.hid (Hv30.out.mono (below1 w30 (.cells #[.bool false, .slice none 0 0] 59)))
                have HP := Lib.hid (Blk.new w30 #[.bool false, .slice none 0 0] 59)
                have HLHP := Lib.hid (show wx.heap.size ≤ w30.heap.size from (show Below wx.heap.size wx w30 from Hb30.out).size)
                have HbA8 := Lib.hid (show Below wx.heap.size wx (w30.alloc (.cells #[.bool false, .slice none 0 0] 59)) from bwA (Hb30.out) _)
                refine hK.out _ _ (by exact (HS6.out _ (HbA8.out))) (fun hHeld => ?_)
                clear hK K; (try simp only [tkS])
                generalize (w30.alloc (.cells #[.bool false, .slice none 0 0] 59)) = wA8 at *
                refine tk1 10 (fun K hK => ?_)
                obtain ⟨⟨q0, q1⟩, f0, f1⟩ := blk2v HP.out
                obtain ⟨s1, s2, s3, s4⟩ := stI x8 a8 n8 c8 HP.out
                have HP2 := Lib.hid s1
                have HV2 := Lib.hid (s2 _ _ Hv30.out)
                have HW2 := Lib.hid (s4 _ _ (HbA8.out) HLHP.out)
                have HR2 := Lib.hid (s3 _ _ _ HR9.out (show wx.heap.size ≠ w30.heap.size from by have h2 := HL89.out; omega))
                have HX2 := Lib.hid (s3 _ _ _ (HXb.out _ (bw_via Hbc.out (HbA8.out))) (show wr.heap.size ≠ w30.heap.size from by have := HXlt.out; have := HLHP.out; omega))
                have HG2 := Lib.hid (s3 _ _ _ (HGb.out _ (HbA8.out)) (show G ≠ w30.heap.size from by have := HGlt.out; have := HLHP.out; omega))
                clear s1 s2 s3 s4
                go_simp
                refine hK.out _ _ (by exact (by obtain ⟨j0, j1, j2, j3⟩ := cells4 HX2.out (Below.refl _ _); obtain ⟨⟨i0, i1⟩, -⟩ := blk2v HG2.out; exact ⟨j0, j1, j2, j3, i0, i1⟩)) (fun hHeld => ?_)
                clear hK K; (try simp only [tkS])
                refine tk1 11 (fun K hK => ?_)
                obtain ⟨⟨q0, q1⟩, f0, f1⟩ := blk2v HR2.out
                obtain ⟨s1, s2, s3, s4⟩ := stI x9 a9 n9 c9 HR2.out
                have HP3 := Lib.hid (s3 _ _ _ HP2.out (show w30.heap.size ≠ wx.heap.size from by have h2 := HL89.out; omega))
                have HV3 := Lib.hid (s2 _ _ HV2.out)
                have HW3 := Lib.hid (s4 _ _ HW2.out HLHR9.out)
                have HX3 := Lib.hid (s3 _ _ _ HX2.out (show wr.heap.size ≠ wx.heap.size from by have := HXlt.out; have := HLHR9.out; omega))
                have HG3 := Lib.hid (s3 _ _ _ HG2.out (show G ≠ wx.heap.size from by have := HGlt.out; have := HLHR9.out; omega))
                clear s1 s2 s3 s4
                go_simp
                refine hK.out _ _ (by exact (by obtain ⟨j0, j1, j2, j3⟩ := cells4 HX3.out (Below.refl _ _); obtain ⟨⟨i0, i1⟩, -⟩ := blk2v HG3.out; exact ⟨j0, j1, j2, j3, i0, i1⟩)) (fun hHeld => ?_)
                clear hK K; (try simp only [tkS])
                refine' tk 12 ?_; (try simp only [tkS])
                refine tkD ?_ _
                go_wp2_with fail
                go_meet
                exact ⟨_, x8, a8, n8, c8, rfl, HW3.out, HP3.out, HV3.out⟩
              · have HL89 := Lib.hid (show wx.heap.size < w26.heap.size from HR9.out.lt)
                go_simp
                have HR9 := Lib.hid (HR9.out.below (below1 w26 (.cells #[.bool false, .slice none 0 0] 59)))
                have Hv26 := Lib.hid (Hv26.out.mono (below1 w26 (.cells #[.bool false, .slice none 0 0] 59)))
                have HP := Lib.hid (Blk.new w26 #[.bool false, .slice none 0 0] 59)
                have HLHP := Lib.hid (show wx.heap.size ≤ w26.heap.size from (show Below wx.heap.size wx w26 from Hb26.out).size)
                have HbA8 := Lib.hid (show Below wx.heap.size wx (w26.alloc (.cells #[.bool false, .slice none 0 0] 59)) from bwA (Hb26.out) _)
                refine hK.out _ _ (by exact (HS6.out _ (HbA8.out))) (fun hHeld => ?_)
                clear hK K; (try simp only [tkS])
                generalize (w26.alloc (.cells #[.bool false, .slice none 0 0] 59)) = wA8 at *
                refine tk1 3 (fun K hK => ?_)
                go_simp
                go_at_call 78
                refine (HDv.out _ _ _ Hv26.out (HGi.out _ (HbA8.out))).mono ?_
                rintro e5 w30 ⟨v30, rfl, ⟨x8, a8, n8, c8, x9, a9, n9, c9, rfl, hv30⟩, hb30⟩
                have Hb30 := Lib.hid (bw_via (HbA8.out) hb30)
                have HR9 := Lib.hid (HR9.out.below hb30)
                have Hv26 := Lib.hid (Hv26.out.mono hb30)
                have HP := Lib.hid (HP.out.below hb30)
                have Hv30 := Lib.hid hv30
                clear hv30 hb30
                refine hK.out _ _ (by exact (HS6.out _ (Hb30.out))) (fun hHeld => ?_)
                clear hK K; (try simp only [tkS])
                refine' tk 4 ?_; (try simp only [tkS]); refine' tk 5 ?_; (try simp only [tkS]); refine' tk 6 ?_; (try simp only [tkS]); refine' tk 7 ?_; (try simp only [tkS])
                refine tk1 10 (fun K hK => ?_)
                obtain ⟨⟨q0, q1⟩, f0, f1⟩ := blk2v HP.out
                obtain ⟨s1, s2, s3, s4⟩ := stI x8 a8 n8 c8 HP.out
                have HP2 := Lib.hid s1
                have HV2 := Lib.hid (s2 _ _ Hv30.out)
                have HW2 := Lib.hid (s4 _ _ (Hb30.out) HLHP.out)
                have HR2 := Lib.hid (s3 _ _ _ HR9.out (show wx.heap.size ≠ w26.heap.size from by have h2 := HL89.out; omega))
                have HX2 := Lib.hid (s3 _ _ _ (HXb.out _ (bw_via Hbc.out (Hb30.out))) (show wr.heap.size ≠ w26.heap.size from by have := HXlt.out; have := HLHP.out; omega))
                have HG2 := Lib.hid (s3 _ _ _ (HGb.out _ (Hb30.out)) (show G ≠ w26.heap.size from by have := HGlt.out; have := HLHP.out; omega))
                clear s1 s2 s3 s4
                go_simp
                refine hK.out _ _ (by exact (by obtain ⟨j0, j1, j2, j3⟩ := cells4 HX2.out (Below.refl _ _); obtain ⟨⟨i0, i1⟩, -⟩ := blk2v HG2.out; exact ⟨j0, j1, j2, j3, i0, i1⟩)) (fun hHeld => ?_)
                clear hK K; (try simp only [tkS])
                refine tk1 11 (fun K hK => ?_)
                obtain ⟨⟨q0, q1⟩, f0, f1⟩ := blk2v HR2.out
                obtain ⟨s1, s2, s3, s4⟩ := stI x9 a9 n9 c9 HR2.out
                have HP3 := Lib.hid (s3 _ _ _ HP2.out (show w26.heap.size ≠ wx.heap.size from by have h2 := HL89.out; omega))
                have HV3 := Lib.hid (s2 _ _ HV2.out)
                have HW3 := Lib.hid (s4 _ _ HW2.out HLHR9.out)
                have HX3 := Lib.hid (s3 _ _ _ HX2.out (show wr.heap.size ≠ wx.heap.size from by have := HXlt.out; have := HLHR9.out; omega))
                have HG3 := Lib.hid (s3 _ _ _ HG2.out (show G ≠ wx.heap.size from by have := HGlt.out; have := HLHR9.out; omega))
                clear s1 s2 s3 s4
                go_simp
                refine hK.out _ _ (by exact (by obtain ⟨j0, j1, j2, j3⟩ := cells4 HX3.out (Below.refl _ _); obtain ⟨⟨i0, i1⟩, -⟩ := blk2v HG3.out; exact ⟨j0, j1, j2, j3, i0, i1⟩)) (fun hHeld => ?_)
                clear hK K; (try simp only [tkS])
                refine' tk 12 ?_; (try simp only [tkS])
                refine tkD ?_ _
                go_wp2_with fail
                go_meet
                exact ⟨_, x8, a8, n8, c8, rfl, HW3.out, HP3.out, HV3.out⟩
            · have HL89 := Lib.hid (show wx.heap.size < wA9.heap.size from HR9.out.lt)
              go_simp
              have HR9 := Lib.hid (HR9.out.below (below1 wA9 (.cells #[.bool false, .slice none 0 0] 59)))
              have HP := Lib.hid (Blk.new wA9 #[.bool false, .slice none 0 0] 59)
              have HLHP := Lib.hid (show wx.heap.size ≤ wA9.heap.size from (show Below wx.heap.size wx wA9 from HbA9.out).size)
              have HbA8 := Lib.hid (show Below wx.heap.size wx (wA9.alloc (.cells #[.bool false, .slice none 0 0] 59)) from bwA (HbA9.out) _)
              refine hK.out _ _ (by exact (HS6.out _ (HbA8.out))) (fun hHeld => ?_)
              clear hK K; (try simp only [tkS])
              generalize (wA9.alloc (.cells #[.bool false, .slice none 0 0] 59)) = wA8 at *
              refine tk1 1 (fun K hK => ?_)
              go_simp
              go_at_call 59
              refine (HDn.out _ (bw_via Hbc.out (HbA8.out))).mono ?_
              rintro e5 w26 ⟨v26, rfl, hv26, hb26⟩
              have Hb26 := Lib.hid (bw_via (HbA8.out) hb26)
              have HR9 := Lib.hid (HR9.out.below hb26)
              have HP := Lib.hid (HP.out.below hb26)
              have Hv26 := Lib.hid hv26
              clear hv26 hb26
              refine hK.out _ _ (by exact (HS6.out _ (Hb26.out))) (fun hHeld => ?_)
              clear hK K; (try simp only [tkS])
              refine tk1 3 (fun K hK => ?_)
              go_simp
              go_at_call 78
              refine (HDv.out _ _ _ Hv26.out (HGi.out _ (Hb26.out))).mono ?_
              rintro e5 w30 ⟨v30, rfl, ⟨x8, a8, n8, c8, x9, a9, n9, c9, rfl, hv30⟩, hb30⟩
              have Hb30 := Lib.hid (bw_via (Hb26.out) hb30)
              have HR9 := Lib.hid (HR9.out.below hb30)
              have HP := Lib.hid (HP.out.below hb30)
              have Hv26 := Lib.hid (Hv26.out.mono hb30)
              have Hv30 := Lib.hid hv30
              clear hv30 hb30
              refine hK.out _ _ (by exact (HS6.out _ (Hb30.out))) (fun hHeld => ?_)
              clear hK K; (try simp only [tkS])
              refine' tk 4 ?_; (try simp only [tkS]); refine' tk 5 ?_; (try simp only [tkS]); refine' tk 6 ?_; (try simp only [tkS]); refine' tk 7 ?_; (try simp only [tkS])
              refine tk1 10 (fun K hK => ?_)
              obtain ⟨⟨q0, q1⟩, f0, f1⟩ := blk2v HP.out
              obtain ⟨s1, s2, s3, s4⟩ := stI x8 a8 n8 c8 HP.out
              have HP2 := Lib.hid s1
              have HV2 := Lib.hid (s2 _ _ Hv30.out)
              have HW2 := Lib.hid (s4 _ _ (Hb30.out) HLHP.out)
              have HR2 := Lib.hid (s3 _ _ _ HR9.out (show wx.heap.size ≠ wA9.heap.size from by have h2 := HL89.out; omega))
              have HX2 := Lib.hid (s3 _ _ _ (HXb.out _ (bw_via Hbc.out (Hb30.out))) (show wr.heap.size ≠ wA9.heap.size from by have := HXlt.out; have := HLHP.out; omega))
              have HG2 := Lib.hid (s3 _ _ _ (HGb.out _ (Hb30.out)) (show G ≠ wA9.heap.size from by have := HGlt.out; have := HLHP.out; omega))
              clear s1 s2 s3 s4
              go_simp
              refine hK.out _ _ (by exact (by obtain ⟨j0, j1, j2, j3⟩ := cells4 HX2.out (Below.refl _ _); obtain ⟨⟨i0, i1⟩, -⟩ := blk2v HG2.out; exact ⟨j0, j1, j2, j3, i0, i1⟩)) (fun hHeld => ?_)
              clear hK K; (try simp only [tkS])
              refine tk1 11 (fun K hK => ?_)
              obtain ⟨⟨q0, q1⟩, f0, f1⟩ := blk2v HR2.out
              obtain ⟨s1, s2, s3, s4⟩ := stI x9 a9 n9 c9 HR2.out
              have HP3 := Lib.hid (s3 _ _ _ HP2.out (show wA9.heap.size ≠ wx.heap.size from by have h2 := HL89.out; omega))
              have HV3 := Lib.hid (s2 _ _ HV2.out)
              have HW3 := Lib.hid (s4 _ _ HW2.out HLHR9.out)
              have HX3 := Lib.hid (s3 _ _ _ HX2.out (show wr.heap.size ≠ wx.heap.size from by have := HXlt.out; have := HLHR9.out; omega))
              have HG3 := Lib.hid (s3 _ _ _ HG2.out (show G ≠ wx.heap.size from by have := HGlt.out; have := HLHR9.out; omega))
              clear s1 s2 s3 s4
              go_simp
              refine hK.out _ _ (by exact (by obtain ⟨j0, j1, j2, j3⟩ := cells4 HX3.out (Below.refl _ _); obtain ⟨⟨i0, i1⟩, -⟩ := blk2v HG3.out; exact ⟨j0, j1, j2, j3, i0, i1⟩)) (fun hHeld => ?_)
              clear hK K; (try simp only [tkS])
              refine' tk 12 ?_; (try simp only [tkS])
              refine tkD ?_ _
              go_wp2_with fail
              go_meet
              exact ⟨_, x8, a8, n8, c8, rfl, HW3.out, HP3.out, HV3.out⟩
        case rest =>
          obtain ⟨Q, x8, a8, n8, c8, rfl, hbc, hQ, hq⟩ := hcut
          obtain ⟨wy, rfl⟩ : ∃ W, W = wc := ⟨_, rfl⟩
          have HbY := Lib.hid (bw_via Hbc.out hbc)
          have HQi := Lib.hid hq.out
          obtain ⟨⟨q0, q1⟩, -⟩ := blk2v hQ
          obtain ⟨⟨d0, d1⟩, -⟩ := blk2v (HDb.out _ HbY.out)
          have HMx := Lib.hid (HMl.out wy _ _ (HIv.out _ HbY.out) HQi.out)
          clear hbc hQ hq
          go_wp2_with (go_at_call 58; refine (HMx.out).mono ?_; rintro e5 wm ⟨vm, rfl, hvm, hbm⟩; obtain ⟨xm, am, nm, cm, rfl, hvm⟩ := hvm.open; have hB2 := HDb.out _ (bw_via HbY.out hbm); obtain ⟨⟨r0, r1⟩, f0, f1⟩ := blk2v hB2; obtain ⟨s1, s2, s3, s4⟩ := stI xm am nm cm hB2; have HD2 := Lib.hid s1; have HI2 := Lib.hid (s2 _ _ hvm); have HN2 := Lib.hid (s3 _ _ _ (HNb.out _ (bw_via HbY.out hbm)) (show D + 1 ≠ D by omega)); have Hb2 := Lib.hid (s4 _ _ (Hbx.out.via (bw_via Hb40.out (bw_via HbY.out hbm)) Hbx.out.size) HD0.out); clear s1 s2 s3 s4 hB2 hvm hbm)
          go_roundw
          case rel => exact ⟨k + 1, by omega, by go_num, xm, am, nm, cm, HD2.out, HI2.out, HN2.out, Hb2.out, HD0.out⟩
          case measure => simp [intOf] <;> omega
    · obtain rfl : k = n := by omega
      have hkn : ¬ (k : Int) < (k : Int) := by omega
      have hll : lcmD (a.take k) = lcmD a := by rw [List.take_of_length_le (by omega)]
      rw [hll] at hI
      have hLs := lcm_le a hz
      have h8K : a.length * Kz + 1 ≤ 8 * Kz + 1 := by rw [ha]; have := Nat.mul_le_mul_right Kz hn; omega
      have hFL : Few (lcmD a) := limbs_ten hLs (by omega)
      have zmk : Sz (8 * Kz + 1) (mkRat ((lcmD a : Nat) : Int) 1) := by
        refine Sz.mk (by decide) ?_ (by have : (1 : Nat) < 10 ^ (8 * Kz + 1) := Nat.one_lt_pow (by omega) (by decide); exact this)
        rw [Int.natAbs_natCast]
        exact Nat.lt_of_lt_of_le hLs (Nat.pow_le_pow_right (by decide) h8K)
      have HMk := Lib.hid (fun W u v (hu : IntV W u ((lcmD a : Nat) : Int)) (hv : IntV W v 1) => make_g u v ((lcmD a : Nat) : Int) 1 W hu hv (by decide) (by rw [Int.natAbs_natCast]; exact hFL) (limbs_ten (k := 1) (by decide) (by decide)))
      have hsc : ∀ x ∈ a.map (fun x => x * mkRat ((lcmD a : Nat) : Int) 1), Sz (9 * Kz + 1) x := by
        intro x hx
        obtain ⟨y, hy, rfl⟩ := List.mem_map.1 hx
        exact ((hz y hy).mul zmk).mono (by omega)
      have HPv := Lib.hid (show primV a = if gcdN (a.map (fun x => x * mkRat ((lcmD a : Nat) : Int) 1)) = 0 then a.map (fun x => x * mkRat ((lcmD a : Nat) : Int) 1) else (a.map (fun x => x * mkRat ((lcmD a : Nat) : Int) 1)).map (fun x => x * mkRat 1 (gcdN (a.map (fun x => x * mkRat ((lcmD a : Nat) : Int) 1)))) from by
        unfold primV
        rw [mk_one])
      have HMu := Lib.hid (fun (W : World) (x y : Value) (r : Rat) (hr : r ∈ a) (hu : RQ W x r) (hv : RQ W y (mkRat ((lcmD a : Nat) : Int) 1)) => rmul_g x y r _ Kz (8 * Kz + 1) W hu hv (hz r hr) zmk (by omega))
      generalize hmk : mkRat ((lcmD a : Nat) : Int) 1 = mk at *
      have HGet := Lib.hid (fun (i : Nat) (r : Rat) (hr : a[i]? = some r) => show (a.map (fun x => x * mk))[i]? = some (r * mk) from by rw [List.getElem?_map, hr]; rfl)
      have HLen := Lib.hid (show (a.map (fun x => x * mk)).length = k from by rw [List.length_map]; exact ha)
      generalize a.map (fun x => x * mk) = sc at *
      have HDw := Lib.hid (fun w' (hb : Below wr.heap.size wr w') => hD.below hb)
      have HIw := Lib.hid (fun w' (hb : Below wr.heap.size wr w') => hI.mono hb)
      have HNw := Lib.hid hN
      have Hbx := Lib.hid hbx
      have HwD := Lib.hid hwD
      clear hD hI hN hbx hwD hll h8K hFL hmk hLs HR HSt H0
      go_wp2_with fail
      go_cut [11, 12] from 40 to 96 (fun s11 _ wx => ∃ (B : Nat) (xk : Bool) (ak : Option Addr) (nk ck : Nat) (yk : Bool) (ek : Option Addr) (lk dk : Nat), s11 = .pointer (some ⟨B, 0, none⟩) ∧ wr.heap.size ≤ B ∧ Below wr.heap.size wr wx ∧ Blk wx B #[.bool xk, .slice ak nk ck, .bool yk, .slice ek lk dk] 61 ∧ Hid (RQ wx (.agg #[.bool xk, .slice ak nk ck, .bool yk, .slice ek lk dk]) mk))
      case first =>
        refine wp_region_held_drew (S := (fun w' => w'.cell? ⟨D, 0, none⟩ = some (.bool xD) ∧ w'.cell? ⟨D, 1, none⟩ = some (.slice aD nD cD))) (by kernel_rfl) (by exact ((blk2v (HDw.out _ ((Below.refl _ _).drew))).1)) (fun hHeld => ?_)
        refine' tk 0 ?_; (try simp only [tkS])
        refine wpAnyH_ready (rs := [1, 6]) (by kernel_rfl) (by simp) ?_
        refine AllReadyH.cons rfl (fun K hK => ?_) (AllReadyH.cons rfl (fun K hK => ?_) AllReadyH.nil)
        · go_simp
          go_at_call 74
          refine (HF1.out _).mono ?_
          rintro e5 w42 ⟨v42, rfl, hv42, hb42⟩
          have Hb42 := Lib.hid (bw_via ((Below.refl _ _).drew) hb42)
          have Hv42 := Lib.hid hv42
          clear hv42 hb42
          refine hK.out _ _ (by exact ((blk2v (HDw.out _ (Hb42.out))).1)) (fun hHeld => ?_)
          clear hK K; (try simp only [tkS])
          refine wpAnyH_ready (rs := [2, 6]) (by kernel_rfl) (by simp) ?_
          refine AllReadyH.cons rfl (fun K hK => ?_) (AllReadyH.cons rfl (fun K hK => ?_) AllReadyH.nil)
          · go_simp
            go_at_call 79
            refine (HMk.out _ _ _ (HIw.out _ (Hb42.out)) Hv42.out).mono ?_
            rintro e5 w43 ⟨v43, rfl, ⟨r0, rfl, hv43⟩, hb43⟩
            obtain ⟨xk, ak, nk, ck, yk, ek, lk, dk, rfl, hv43⟩ := hv43.open
            have Hb43 := Lib.hid (bw_via (Hb42.out) hb43)
            have Hv42 := Lib.hid (Hv42.out.mono hb43)
            have Hv43 := Lib.hid hv43
            clear hv43 hb43
            refine hK.out _ _ (by exact ((blk2v (HDw.out _ (Hb43.out))).1)) (fun hHeld => ?_)
            clear hK K; (try simp only [tkS])
            refine' tk 3 ?_; (try simp only [tkS]); refine' tk 4 ?_; (try simp only [tkS]); refine' tk 5 ?_; (try simp only [tkS])
            refine tk1 6 (fun K hK => ?_)
            go_simp
            have Hv42 := Lib.hid (Hv42.out.mono (below1 w43 (.cells #[.bool false, .slice none 0 0, .bool false, .slice none 0 0] 61)))
            have Hv43 := Lib.hid (Hv43.out.mono (below1 w43 (.cells #[.bool false, .slice none 0 0, .bool false, .slice none 0 0] 61)))
            have HP := Lib.hid (Blk.new w43 #[.bool false, .slice none 0 0, .bool false, .slice none 0 0] 61)
            have HLHP := Lib.hid (show wr.heap.size ≤ w43.heap.size from (show Below wr.heap.size wr w43 from Hb43.out).size)
            have HbA6 := Lib.hid (show Below wr.heap.size wr (w43.alloc (.cells #[.bool false, .slice none 0 0, .bool false, .slice none 0 0] 61)) from bwA (Hb43.out) _)
            refine hK.out _ _ (by exact ((blk2v (HDw.out _ (HbA6.out))).1)) (fun hHeld => ?_)
            clear hK K; (try simp only [tkS])
            generalize (w43.alloc (.cells #[.bool false, .slice none 0 0, .bool false, .slice none 0 0] 61)) = wA6 at *
            refine tk1 7 (fun K hK => ?_)
            obtain ⟨⟨q0, q1, q2, q3⟩, f0, f1, f2, f3⟩ := blk4v HP.out
            obtain ⟨hv6, hb7⟩ := RQ.put4 Hv43.out HP.out
            have HV6 := Lib.hid hv6
            have HB7 := Lib.hid hb7
            have HW7 := Lib.hid (put_below4 (b := w43.heap.size) (.bool xk) (.slice ak nk ck) (.bool yk) (.slice ek lk dk) (HbA6.out) HLHP.out)
            have HD7 := Lib.hid ((((HDw.out _ (HbA6.out)).other (p := ⟨w43.heap.size, 0, none⟩) (show D ≠ w43.heap.size from by have := HNw.out.lt; have := HLHP.out; omega) (.bool xk)).other (p := ⟨w43.heap.size, 1, none⟩) (show D ≠ w43.heap.size from by have := HNw.out.lt; have := HLHP.out; omega) (.slice ak nk ck)).other (p := ⟨w43.heap.size, 2, none⟩) (show D ≠ w43.heap.size from by have := HNw.out.lt; have := HLHP.out; omega) (.bool yk) |>.other (p := ⟨w43.heap.size, 3, none⟩) (show D ≠ w43.heap.size from by have := HNw.out.lt; have := HLHP.out; omega) (.slice ek lk dk))
            clear hv6 hb7
            go_simp
            refine hK.out _ _ (by exact ((blk2v HD7.out).1)) (fun hHeld => ?_)
            clear hK K; (try simp only [tkS])
            refine' tk 8 ?_; (try simp only [tkS])
            refine tkD ?_ _
            go_wp2_with fail
            go_meet
            exact ⟨_, xk, ak, nk, ck, yk, ek, lk, dk, rfl, HLHP.out, HW7.out, HB7.out, HV6.out⟩
          · go_simp
            have Hv42 := Lib.hid (Hv42.out.mono (below1 w42 (.cells #[.bool false, .slice none 0 0, .bool false, .slice none 0 0] 61)))
            have HP := Lib.hid (Blk.new w42 #[.bool false, .slice none 0 0, .bool false, .slice none 0 0] 61)
            have HLHP := Lib.hid (show wr.heap.size ≤ w42.heap.size from (show Below wr.heap.size wr w42 from Hb42.out).size)
            have HbA6 := Lib.hid (show Below wr.heap.size wr (w42.alloc (.cells #[.bool false, .slice none 0 0, .bool false, .slice none 0 0] 61)) from bwA (Hb42.out) _)
            refine hK.out _ _ (by exact ((blk2v (HDw.out _ (HbA6.out))).1)) (fun hHeld => ?_)
            clear hK K; (try simp only [tkS])
            generalize (w42.alloc (.cells #[.bool false, .slice none 0 0, .bool false, .slice none 0 0] 61)) = wA6 at *
            refine tk1 2 (fun K hK => ?_)
            go_simp
            go_at_call 79
            refine (HMk.out _ _ _ (HIw.out _ (HbA6.out)) Hv42.out).mono ?_
            rintro e5 w43 ⟨v43, rfl, ⟨r0, rfl, hv43⟩, hb43⟩
            obtain ⟨xk, ak, nk, ck, yk, ek, lk, dk, rfl, hv43⟩ := hv43.open
            have Hb43 := Lib.hid (bw_via (HbA6.out) hb43)
            have Hv42 := Lib.hid (Hv42.out.mono hb43)
            have HP := Lib.hid (HP.out.below hb43)
            have Hv43 := Lib.hid hv43
            clear hv43 hb43
            refine hK.out _ _ (by exact ((blk2v (HDw.out _ (Hb43.out))).1)) (fun hHeld => ?_)
            clear hK K; (try simp only [tkS])
            refine' tk 3 ?_; (try simp only [tkS]); refine' tk 4 ?_; (try simp only [tkS]); refine' tk 5 ?_; (try simp only [tkS])
            refine tk1 7 (fun K hK => ?_)
            obtain ⟨⟨q0, q1, q2, q3⟩, f0, f1, f2, f3⟩ := blk4v HP.out
            obtain ⟨hv6, hb7⟩ := RQ.put4 Hv43.out HP.out
            have HV6 := Lib.hid hv6
            have HB7 := Lib.hid hb7
            have HW7 := Lib.hid (put_below4 (b := w42.heap.size) (.bool xk) (.slice ak nk ck) (.bool yk) (.slice ek lk dk) (Hb43.out) HLHP.out)
            have HD7 := Lib.hid ((((HDw.out _ (Hb43.out)).other (p := ⟨w42.heap.size, 0, none⟩) (show D ≠ w42.heap.size from by have := HNw.out.lt; have := HLHP.out; omega) (.bool xk)).other (p := ⟨w42.heap.size, 1, none⟩) (show D ≠ w42.heap.size from by have := HNw.out.lt; have := HLHP.out; omega) (.slice ak nk ck)).other (p := ⟨w42.heap.size, 2, none⟩) (show D ≠ w42.heap.size from by have := HNw.out.lt; have := HLHP.out; omega) (.bool yk) |>.other (p := ⟨w42.heap.size, 3, none⟩) (show D ≠ w42.heap.size from by have := HNw.out.lt; have := HLHP.out; omega) (.slice ek lk dk))
            clear hv6 hb7
            go_simp
            refine hK.out _ _ (by exact ((blk2v HD7.out).1)) (fun hHeld => ?_)
            clear hK K; (try simp only [tkS])
            refine' tk 8 ?_; (try simp only [tkS])
            refine tkD ?_ _
            go_wp2_with fail
            go_meet
            exact ⟨_, xk, ak, nk, ck, yk, ek, lk, dk, rfl, HLHP.out, HW7.out, HB7.out, HV6.out⟩
        · go_simp
          have HP := Lib.hid (show Blk (wr.alloc (.cells #[.bool false, .slice none 0 0, .bool false, .slice none 0 0] 61)).drew wr.heap.size #[.bool false, .slice none 0 0, .bool false, .slice none 0 0] 61 from (Blk.new wr #[.bool false, .slice none 0 0, .bool false, .slice none 0 0] 61).below (Below.refl _ _).drew)
          have HLHP := Lib.hid (show wr.heap.size ≤ wr.heap.size from (show Below wr.heap.size wr wr.drew from (Below.refl _ _).drew).size)
          have HbA6 := Lib.hid (show Below wr.heap.size wr (wr.alloc (.cells #[.bool false, .slice none 0 0, .bool false, .slice none 0 0] 61)).drew from bwA ((Below.refl _ _).drew) _)
          refine hK.out _ _ (by exact ((blk2v (HDw.out _ (HbA6.out))).1)) (fun hHeld => ?_)
          clear hK K; (try simp only [tkS])
          generalize (wr.alloc (.cells #[.bool false, .slice none 0 0, .bool false, .slice none 0 0] 61)).drew = wA6 at *
          refine tk1 1 (fun K hK => ?_)
          go_simp
          go_at_call 74
          refine (HF1.out _).mono ?_
          rintro e5 w42 ⟨v42, rfl, hv42, hb42⟩
          have Hb42 := Lib.hid (bw_via (HbA6.out) hb42)
          have HP := Lib.hid (HP.out.below hb42)
          have Hv42 := Lib.hid hv42
          clear hv42 hb42
          refine hK.out _ _ (by exact ((blk2v (HDw.out _ (Hb42.out))).1)) (fun hHeld => ?_)
          clear hK K; (try simp only [tkS])
          refine tk1 2 (fun K hK => ?_)
          go_simp
          go_at_call 79
          refine (HMk.out _ _ _ (HIw.out _ (Hb42.out)) Hv42.out).mono ?_
          rintro e5 w43 ⟨v43, rfl, ⟨r0, rfl, hv43⟩, hb43⟩
          obtain ⟨xk, ak, nk, ck, yk, ek, lk, dk, rfl, hv43⟩ := hv43.open
          have Hb43 := Lib.hid (bw_via (Hb42.out) hb43)
          have HP := Lib.hid (HP.out.below hb43)
          have Hv42 := Lib.hid (Hv42.out.mono hb43)
          have Hv43 := Lib.hid hv43
          clear hv43 hb43
          refine hK.out _ _ (by exact ((blk2v (HDw.out _ (Hb43.out))).1)) (fun hHeld => ?_)
          clear hK K; (try simp only [tkS])
          refine' tk 3 ?_; (try simp only [tkS]); refine' tk 4 ?_; (try simp only [tkS]); refine' tk 5 ?_; (try simp only [tkS])
          refine tk1 7 (fun K hK => ?_)
          obtain ⟨⟨q0, q1, q2, q3⟩, f0, f1, f2, f3⟩ := blk4v HP.out
          obtain ⟨hv6, hb7⟩ := RQ.put4 Hv43.out HP.out
          have HV6 := Lib.hid hv6
          have HB7 := Lib.hid hb7
          have HW7 := Lib.hid (put_below4 (b := wr.heap.size) (.bool xk) (.slice ak nk ck) (.bool yk) (.slice ek lk dk) (Hb43.out) HLHP.out)
          have HD7 := Lib.hid ((((HDw.out _ (Hb43.out)).other (p := ⟨wr.heap.size, 0, none⟩) (show D ≠ wr.heap.size from by have := HNw.out.lt; have := HLHP.out; omega) (.bool xk)).other (p := ⟨wr.heap.size, 1, none⟩) (show D ≠ wr.heap.size from by have := HNw.out.lt; have := HLHP.out; omega) (.slice ak nk ck)).other (p := ⟨wr.heap.size, 2, none⟩) (show D ≠ wr.heap.size from by have := HNw.out.lt; have := HLHP.out; omega) (.bool yk) |>.other (p := ⟨wr.heap.size, 3, none⟩) (show D ≠ wr.heap.size from by have := HNw.out.lt; have := HLHP.out; omega) (.slice ek lk dk))
          clear hv6 hb7
          go_simp
          refine hK.out _ _ (by exact ((blk2v HD7.out).1)) (fun hHeld => ?_)
          clear hK K; (try simp only [tkS])
          refine' tk 8 ?_; (try simp only [tkS])
          refine tkD ?_ _
          go_wp2_with fail
          go_meet
          exact ⟨_, xk, ak, nk, ck, yk, ek, lk, dk, rfl, HLHP.out, HW7.out, HB7.out, HV6.out⟩
      case rest =>
        obtain ⟨B, xk, ak, nk, ck, yk, ek, lk, dk, rfl, hBr, hbc, hB, hk2⟩ := hcut
        obtain ⟨wx, rfl⟩ : ∃ W, W = wc := ⟨_, rfl⟩
        have HBlt := Lib.hid hB.lt
        have HNlt := Lib.hid (show D + 1 < wr.heap.size from HNw.out.lt)
        have HBr := Lib.hid hBr
        have hNx := HNw.out.below hbc
        have hbw := Hbx.out.via hbc Hbx.out.size
        obtain ⟨i4, hi4, hz0, hz1, hz2⟩ := info_rat
        have HP2 := Lib.hid (fun wm (hg : Below wx.heap.size wx wm) (hv : VB wm wx.heap.size (List.replicate k 0)) => show Prim2 w wm (D + 1) B wx.heap.size #[.bool xk, .slice ak nk ck, .bool yk, .slice ek lk dk] mk false none 0 0 (gcdN (sc.take 0)) (fillL sc k 0) from
          ⟨hbw.via hg hbw.size, hB.below hg, hk2.out.mono hg, hNx.below hg, IntV.zero wm, by rw [fill_zero]; exact hv⟩)
        have HwO := Lib.hid (show w.heap.size ≤ wx.heap.size from hbw.size)
        clear hB hk2 hbc hNx hbw hBr
        go_wp2_with (at_make; go_loud (refine wpList_make_full _ rfl _ _ 46 rfl wx.heap.size 61 i4 (.agg #[.bool false, .slice none 0 0, .bool false, .slice none 0 0]) 4 Tryz.underlying46 hi4 hz0 hz1 .i64 .i64 _ _ k rfl rfl (by omega) (by omega) (by rw [hz2]; omega) (by unfold maxLen; omega) (by simp) ?_; intro wm hown hg; have HPm := Lib.hid (HP2.out wm ((Below.refl wx.heap.size wx).grown hg (Nat.le_refl _) (fun b hb => by cases hb)) (VB.made hown).1); clear hown hg))
        generalize wx.heap.size = O at *
        go_loopw [51] (fun i wr => ∃ q : Nat, q ≤ k ∧ i = .int .i64 (q : Int) ∧ Hid (∃ (x : Bool) (e : Option Addr) (m c : Nat), Prim2 w wr (D + 1) B O #[.bool xk, .slice ak nk ck, .bool yk, .slice ek lk dk] mk x e m c (gcdN (sc.take q)) (fillL sc k q))) (fun i _ => k - (intOf i).toNat)
        case atStart => exact ⟨0, by omega, rfl, ⟨_, _, _, _, HPm.out⟩⟩
        case round =>
          obtain ⟨q, hq, rfl, hP⟩ := hrel
          obtain ⟨xN, aN, nN, cN, hbx, hB, hK, hN, hI, hV⟩ := hP.out
          clear hP
          rcases Nat.lt_or_ge q k with hlt | hge
          · obtain ⟨b1, o1, x1, a1, n1, c1, y1, e1, l1, d1, r, rfl, hr, hR, z0, z1, z2, z3⟩ := HX.out.at hbx hlt
            have hqn : (q : Int) < (k : Int) := by omega
            have hk0 : (0 : Int) ≤ (q : Int) := Int.natCast_nonneg _
            have hkw : IntKind.i64.wrap ((q : Int) + 1) = (q : Int) + 1 := IntWalk.i64_in _ (by omega)
            have hget := HGet.out q r hr
            have Hget := Lib.hid hget
            have HMx := Lib.hid (fun W (hb : Below wr.heap.size wr W) => HMu.out W _ _ r (List.mem_of_getElem? hr) (hR.mono hb) (hK.mono hb))
            have Hq := Lib.hid (fill_at HLen.out hlt)
            have HS14 := Lib.hid (fun w' (hb : Below wr.heap.size wr w') => show (fun w' => w'.cell? ⟨b1, o1 + q * 4, none⟩ = some (.bool x1) ∧ w'.cell? ⟨b1, o1 + q * 4 + 1, none⟩ = some (.slice a1 n1 c1) ∧ w'.cell? ⟨b1, o1 + q * 4 + 2, none⟩ = some (.bool y1) ∧ w'.cell? ⟨b1, o1 + q * 4 + 3, none⟩ = some (.slice e1 l1 d1) ∧ w'.cell? ⟨B, 0, none⟩ = some (.bool xk) ∧ w'.cell? ⟨B, 1, none⟩ = some (.slice ak nk ck) ∧ w'.cell? ⟨B, 2, none⟩ = some (.bool yk) ∧ w'.cell? ⟨B, 3, none⟩ = some (.slice ek lk dk)) w' from by
              obtain ⟨j0, j1, j2, j3⟩ := cells4 (hB.below hb) (Below.refl _ _)
              exact ⟨cell_keep hb z0, cell_keep hb z1, cell_keep hb z2, cell_keep hb z3, j0, j1, j2, j3⟩)
            have HW := Lib.hid (show Prim2 w wr (D + 1) B O #[.bool xk, .slice ak nk ck, .bool yk, .slice ek lk dk] mk xN aN nN cN (gcdN (sc.take q)) (fillL sc k q) from ⟨hbx, hB, hK, hN, hI, hV⟩)
            clear hbx hB hK hN hI hV hR hr hget
            go_wp2_with fail
            go_cut [14] from 53 to 70 (fun s14 wq => s14 = .int .i64 (q : Int) ∧ Hid (Prim2 w wq (D + 1) B O #[.bool xk, .slice ak nk ck, .bool yk, .slice ek lk dk] mk xN aN nN cN (gcdN (sc.take q)) (fillL sc k (q + 1))))
            case first =>
              refine wp_region_pop (S := (fun w' => w'.cell? ⟨b1, o1 + q * 4, none⟩ = some (.bool x1) ∧ w'.cell? ⟨b1, o1 + q * 4 + 1, none⟩ = some (.slice a1 n1 c1) ∧ w'.cell? ⟨b1, o1 + q * 4 + 2, none⟩ = some (.bool y1) ∧ w'.cell? ⟨b1, o1 + q * 4 + 3, none⟩ = some (.slice e1 l1 d1) ∧ w'.cell? ⟨B, 0, none⟩ = some (.bool xk) ∧ w'.cell? ⟨B, 1, none⟩ = some (.slice ak nk ck) ∧ w'.cell? ⟨B, 2, none⟩ = some (.bool yk) ∧ w'.cell? ⟨B, 3, none⟩ = some (.slice ek lk dk))) 9 (by kernel_rfl) (by kernel_rfl) (by exact (HS14.out _ ((Below.refl _ _).drew))) (fun hHeld => ?_)
              simp only [List.take_succ_cons, List.take_zero, List.drop_succ_cons, List.drop_zero]
              refine' tk 0 ?_; (try simp only [tkS]); refine' tk 1 ?_; (try simp only [tkS]); refine' tk 2 ?_; (try simp only [tkS]); refine' tk 3 ?_; (try simp only [tkS]); refine' tk 4 ?_; (try simp only [tkS]); refine' tk 5 ?_; (try simp only [tkS]); refine' tk 6 ?_; (try simp only [tkS])
              refine tk1 7 (fun K hK => ?_)
              go_simp
              go_at_call 33
              refine (HMx.out _ ((Below.refl _ _).drew)).mono ?_
              rintro e5 w61 ⟨v61, rfl, hv61, hb61⟩
              have Hb61 := Lib.hid (bw_via ((Below.refl _ _).drew) hb61)
              obtain ⟨x5, a5, n5, c5, x6, a6, n6, c6, rfl, hv61⟩ := hv61.open
              have Hv61 := Lib.hid hv61
              clear hv61 hb61
              refine hK.out _ _ (by exact (HS14.out _ (Hb61.out))) (fun hHeld => ?_)
              clear hK K; (try simp only [tkS])
              refine' tk 8 ?_; (try simp only [tkS])
              refine tkD ?_ _
              simp only [Exit.then]
              obtain ⟨hbx, hB, hK, hN, hI, hV⟩ := HW.out
              have hb61 := Hb61.out
              have hV := hV.below hb61
              obtain ⟨_, _, _, _, _, _, _, _, -, ⟨p0, p1, p2, p3⟩, f0, f1, f2, f3⟩ := hV.at Hq.out
              have hV2 := hV.set (by rw [fill_len HLen.out hq]; exact hlt) Hv61.out
              rw [fill_set HLen.out Hget.out] at hV2
              have hkp := hV.kept (q * 4) (.bool x5) (.slice a5 n5 c5) (.bool x6) (.slice a6 n6 c6)
              have HR := Lib.hid (show Prim2 w _ (D + 1) B O #[.bool xk, .slice ak nk ck, .bool yk, .slice ek lk dk] mk xN aN nN cN (gcdN (sc.take q)) (fillL sc k (q + 1)) from ⟨vb_put_below (g := O) (k := q) (hbx.via hb61 hbx.size) HwO.out (.bool x5) (.slice a5 n5 c5) (.bool x6) (.slice a6 n6 c6), Blk.far4 (hB.below hb61) (Nat.ne_of_lt HBlt.out) _ _ _ _, (hK.mono hb61).keep hkp (by decide), Blk.far4 (hN.below hb61) (show D + 1 ≠ O from by have := HNlt.out; have := HBr.out; have := HBlt.out; omega) _ _ _ _, (hI.mono hb61).keep hkp (by decide), hV2⟩)
              clear hbx hB hK hN hI hV hV2 hkp hb61
              go_wp2_with fail
              go_meet
              exact ⟨rfl, HR.out⟩
            case rest =>
              obtain ⟨rfl, hP⟩ := hcut
              obtain ⟨wq, rfl⟩ : ∃ W, W = wc := ⟨_, rfl⟩
              obtain ⟨hbx, hB, hK, hN, hI, hV⟩ := hP.out
              clear hP HS14 HMx
              have hsq : (fillL sc k (q + 1))[q]? = some (r * mk) := by
                unfold fillL
                rw [List.getElem?_append_left (by rw [List.length_take]; have := HLen.out; omega), List.getElem?_take_of_lt (by omega)]
                exact Hget.out
              obtain ⟨x2, a2, n2, c2, y2, e2, l2, d2, hR2, ⟨m0, m1, m2, m3⟩, -⟩ := hV.at hsq
              have hms := hsc _ (List.mem_of_getElem? Hget.out)
              have hgl := gcd_le (sc.take q) (fun x hx => hsc x (List.mem_of_mem_take hx))
              have hgs := gcd_step Hget.out
              have HNu := Lib.hid (fun W (hb : Below wq.heap.size wq W) => num_g _ _ W (hR2.mono hb))
              have HGc := Lib.hid (fun W v (hb : Below wq.heap.size wq W) (hv : IntV W v (r * mk).num) => show Calls Tryz.prog 73 #[.agg #[.bool xN, .slice aN nN cN], v] W (RetP (fun z w' => IntV w' z ((gcdN (sc.take (q + 1)) : Nat) : Int)) W) from by
                have := gcd_any _ v _ _ W (hI.mono hb) hv (by rw [Int.natAbs_natCast]; exact limbs_ten hgl (by omega)) (limbs_ten hms.1 (by omega))
                rwa [Int.natAbs_natCast, ← hgs] at this)
              have HS15 := Lib.hid (fun w' (hb : Below wq.heap.size wq w') => show (fun w' => w'.cell? ⟨D + 1, 0, none⟩ = some (.bool xN) ∧ w'.cell? ⟨D + 1, 1, none⟩ = some (.slice aN nN cN) ∧ w'.cell? ⟨O, q * 4, none⟩ = some (.bool x2) ∧ w'.cell? ⟨O, q * 4 + 1, none⟩ = some (.slice a2 n2 c2) ∧ w'.cell? ⟨O, q * 4 + 2, none⟩ = some (.bool y2) ∧ w'.cell? ⟨O, q * 4 + 3, none⟩ = some (.slice e2 l2 d2)) w' from by
                obtain ⟨⟨i0, i1⟩, -⟩ := blk2v (hN.below hb)
                exact ⟨i0, i1, cell_keep hb m0, cell_keep hb m1, cell_keep hb m2, cell_keep hb m3⟩)
              have HW := Lib.hid (show Prim2 w wq (D + 1) B O #[.bool xk, .slice ak nk ck, .bool yk, .slice ek lk dk] mk xN aN nN cN (gcdN (sc.take q)) (fillL sc k (q + 1)) from ⟨hbx, hB, hK, hN, hI, hV⟩)
              clear hbx hB hK hN hI hV hR2 hsq hms hgl hgs
              go_wp2_with fail
              refine wp_region_pop (S := (fun w' => w'.cell? ⟨D + 1, 0, none⟩ = some (.bool xN) ∧ w'.cell? ⟨D + 1, 1, none⟩ = some (.slice aN nN cN) ∧ w'.cell? ⟨O, q * 4, none⟩ = some (.bool x2) ∧ w'.cell? ⟨O, q * 4 + 1, none⟩ = some (.slice a2 n2 c2) ∧ w'.cell? ⟨O, q * 4 + 2, none⟩ = some (.bool y2) ∧ w'.cell? ⟨O, q * 4 + 3, none⟩ = some (.slice e2 l2 d2))) 7 (by kernel_rfl) (by kernel_rfl) (by exact (HS15.out _ ((Below.refl _ _).drew))) (fun hHeld => ?_)
              simp only [List.take_succ_cons, List.take_zero, List.drop_succ_cons, List.drop_zero]
              refine' tk 0 ?_; (try simp only [tkS]); refine' tk 1 ?_; (try simp only [tkS]); refine' tk 2 ?_; (try simp only [tkS]); refine' tk 3 ?_; (try simp only [tkS]); refine' tk 4 ?_; (try simp only [tkS])
              refine tk1 5 (fun K hK => ?_)
              go_simp
              go_at_call 80
              refine (HNu.out _ ((Below.refl _ _).drew)).mono ?_
              rintro e5 w68 ⟨v68, rfl, hv68, hb68⟩
              have Hb68 := Lib.hid (bw_via ((Below.refl _ _).drew) hb68)
              have Hv68 := Lib.hid hv68
              clear hv68 hb68
              refine hK.out _ _ (by exact (HS15.out _ (Hb68.out))) (fun hHeld => ?_)
              clear hK K; (try simp only [tkS])
              refine tk1 6 (fun K hK => ?_)
              go_simp
              go_at_call 73
              refine (HGc.out _ _ (Hb68.out) Hv68.out).mono ?_
              rintro e5 w69 ⟨v69, rfl, hv69, hb69⟩
              have Hb69 := Lib.hid (bw_via (Hb68.out) hb69)
              have Hv68 := Lib.hid (Hv68.out.mono hb69)
              obtain ⟨x9, a9, n9, c9, rfl, hv69⟩ := hv69.open
              have Hv69 := Lib.hid hv69
              clear hv69 hb69
              refine hK.out _ _ (by exact (HS15.out _ (Hb69.out))) (fun hHeld => ?_)
              clear hK K; (try simp only [tkS])
              refine tkD ?_ _
              simp only [Exit.then]
              obtain ⟨hbx, hB, hK, hN, hI, hV⟩ := HW.out
              have hb69 := Hb69.out
              have hN2 := hN.below hb69
              obtain ⟨⟨q0, q1⟩, f0, f1⟩ := blk2v hN2
              obtain ⟨s1, s2, s3, s4⟩ := stI x9 a9 n9 c9 hN2
              have hkp := keep2 hN2 (.bool x9) (.slice a9 n9 c9)
              have HR := Lib.hid (show Prim2 w _ (D + 1) B O #[.bool xk, .slice ak nk ck, .bool yk, .slice ek lk dk] mk x9 a9 n9 c9 (gcdN (sc.take (q + 1))) (fillL sc k (q + 1)) from ⟨s4 _ _ (hbx.via hb69 hbx.size) (show w.heap.size ≤ D + 1 from by have := HwD.out; omega), s3 _ _ _ (hB.below hb69) (show B ≠ D + 1 from by have := HNlt.out; have := HBr.out; omega), (hK.mono hb69).keep hkp (by decide), s1, s2 _ _ Hv69.out, (hV.below hb69).keep hkp (by decide) (by decide)⟩)
              clear hbx hB hK hN hI hV hN2 hkp hb69 s1 s2 s3 s4
              go_wp2_with fail
              go_roundw
              case rel => exact ⟨q + 1, by omega, by go_num, ⟨_, _, _, _, HR.out⟩⟩
              case measure => simp [intOf] <;> omega
          · obtain rfl : q = k := by omega
            have hqn : ¬ (q : Int) < (q : Int) := by omega
            have hgn : gcdN (sc.take q) = gcdN sc := by rw [List.take_of_length_le (by have := HLen.out; omega)]
            rw [hgn] at hI
            rw [fill_all HLen.out] at hV
            have HSg := Lib.hid (sign_any _ ((gcdN sc : Nat) : Int) wr hI)
            obtain ⟨⟨i0, i1⟩, -⟩ := blk2v hN
            have Hbx2 := Lib.hid hbx
            by_cases hg0 : gcdN sc = 0
            · rw [hg0, show ((0 : Nat) : Int).sign = 0 from rfl] at HSg
              have Hres := Lib.hid (show primV a = sc from by rw [HPv.out, if_pos hg0])
              have HQ := Lib.hid (fun w' (hb : Below wr.heap.size wr w') => (hV.below hb).qv HLen.out (by unfold maxLen; omega))
              clear hbx hB hK hN hI hV hgn
              go_wp2_with (go_at_call 34; refine (HSg.out).mono ?_; rintro e5 ws ⟨rfl, hbs⟩; have Hbs := Lib.hid hbs; clear hbs)
              go_ret
              exact ⟨_, rfl, by rw [Hres.out]; exact HQ.out _ Hbs.out, Hbx2.out.via Hbs.out Hbx2.out.size⟩
            · rw [Int.sign_eq_one_of_pos (show (0 : Int) < ((gcdN sc : Nat) : Int) by omega)] at HSg
              have hgl := gcd_le sc hsc
              have zmk2 : Sz (9 * Kz + 1) (mkRat 1 (gcdN sc)) := Sz.mk hg0 (by have : (1 : Nat) < 10 ^ (9 * Kz + 1) := Nat.one_lt_pow (by omega) (by decide); exact this) hgl
              have HMk2 := Lib.hid (fun W u v (hu : IntV W u 1) (hv : IntV W v ((gcdN sc : Nat) : Int)) => make_g u v 1 (gcdN sc) W hu hv (by omega) (limbs_ten (k := 1) (by decide) (by decide)) (limbs_ten hgl (by omega)))
              have Hres := Lib.hid (show primV a = sc.map (fun x => x * mkRat 1 (gcdN sc)) from by rw [HPv.out, if_neg hg0])
              have HMu2 := Lib.hid (fun (W : World) (x y : Value) (r : Rat) (hr : r ∈ sc) (hu : RQ W x r) (hv : RQ W y (mkRat 1 (gcdN sc))) => rmul_g x y r _ (9 * Kz + 1) (9 * Kz + 1) W hu hv (hsc r hr) zmk2 (by omega))
              generalize mkRat 1 (gcdN sc) = mk2 at *
              have HGet2 := Lib.hid (fun (i : Nat) (r : Rat) (hr : sc[i]? = some r) => show (sc.map (fun x => x * mk2))[i]? = some (r * mk2) from by rw [List.getElem?_map, hr]; rfl)
              have HLen2 := Lib.hid (show (sc.map (fun x => x * mk2)).length = q from by rw [List.length_map]; exact HLen.out)
              generalize sc.map (fun x => x * mk2) = sc2 at *
              have HNs := Lib.hid (fun w' (hb : Below wr.heap.size wr w') => hN.below hb)
              have HIs := Lib.hid (fun w' (hb : Below wr.heap.size wr w') => hI.mono hb)
              have HVs := Lib.hid (fun w' (hb : Below wr.heap.size wr w') => hV.below hb)
              have HBs := Lib.hid (fun w' (hb : Below wr.heap.size wr w') => hB.below hb)
              clear hbx hB hK hN hI hV hgn hgl zmk2 hg0
              go_wp2_with (go_at_call 34; refine (HSg.out).mono ?_; rintro e5 ws ⟨rfl, hbs⟩; have Hbs := Lib.hid hbs; clear hbs)
              go_cut [13] from 75 to 96 (fun s13 wq => s13 = .slice (some ⟨O, 0, none⟩) q q ∧ ∃ (xk : Bool) (ak : Option Addr) (nk ck : Nat) (yk : Bool) (ek : Option Addr) (lk dk : Nat), Below w.heap.size w wq ∧ Blk wq B #[.bool xk, .slice ak nk ck, .bool yk, .slice ek lk dk] 61 ∧ Hid (RQ wq (.agg #[.bool xk, .slice ak nk ck, .bool yk, .slice ek lk dk]) mk2) ∧ Hid (VB wq O sc))
              case first =>
                refine wp_region_held_drew (S := (fun w' => w'.cell? ⟨D + 1, 0, none⟩ = some (.bool xN) ∧ w'.cell? ⟨D + 1, 1, none⟩ = some (.slice aN nN cN))) (by kernel_rfl) (by exact ((blk2v (HNs.out _ (bw_via Hbs.out ((Below.refl _ _).drew)))).1)) (fun hHeld => ?_)
                refine' tk 1 ?_; (try simp only [tkS])
                refine tk1 0 (fun K hK => ?_)
                go_simp
                go_at_call 74
                refine (HF1.out _).mono ?_
                rintro e5 w76 ⟨v76, rfl, hv76, hb76⟩
                have Hb76 := Lib.hid (bw_via ((Below.refl _ _).drew) hb76)
                have Hv76 := Lib.hid hv76
                clear hv76 hb76
                refine hK.out _ _ (by exact ((blk2v (HNs.out _ (bw_via Hbs.out (Hb76.out)))).1)) (fun hHeld => ?_)
                clear hK K; (try simp only [tkS])
                refine tk1 2 (fun K hK => ?_)
                go_simp
                go_at_call 79
                refine (HMk2.out _ _ _ Hv76.out (HIs.out _ (bw_via Hbs.out (Hb76.out)))).mono ?_
                rintro e5 w78 ⟨v78, rfl, ⟨r0, rfl, hv78⟩, hb78⟩
                obtain ⟨xk, ak, nk, ck, yk, ek, lk, dk, rfl, hv78⟩ := hv78.open
                have Hb78 := Lib.hid (bw_via (Hb76.out) hb78)
                have Hv76 := Lib.hid (Hv76.out.mono hb78)
                have Hv78 := Lib.hid hv78
                clear hv78 hb78
                refine hK.out _ _ (by exact ((blk2v (HNs.out _ (bw_via Hbs.out (Hb78.out)))).1)) (fun hHeld => ?_)
                clear hK K; (try simp only [tkS])
                refine' tk 3 ?_; (try simp only [tkS]); refine' tk 4 ?_; (try simp only [tkS]); refine' tk 5 ?_; (try simp only [tkS])
                refine tk1 6 (fun K hK => ?_)
                have hB2 := HBs.out _ (bw_via Hbs.out (Hb78.out))
                obtain ⟨⟨q0, q1, q2, q3⟩, f0, f1, f2, f3⟩ := blk4v hB2
                obtain ⟨hv6, hb7⟩ := RQ.put4 Hv78.out hB2
                have HV6 := Lib.hid hv6
                have HB7 := Lib.hid hb7
                have HW7 := Lib.hid (put_below4 (b := B) (.bool xk) (.slice ak nk ck) (.bool yk) (.slice ek lk dk) (Hbx2.out.via (bw_via Hbs.out (Hb78.out)) Hbx2.out.size) (show w.heap.size ≤ B from by have := HBr.out; have := HwD.out; have := HNlt.out; omega))
                have HN7 := Lib.hid (((((HNs.out _ (bw_via Hbs.out (Hb78.out))).other (p := ⟨B, 0, none⟩) (show D + 1 ≠ B from by have := HBr.out; have := HNlt.out; omega) (.bool xk)).other (p := ⟨B, 1, none⟩) (show D + 1 ≠ B from by have := HBr.out; have := HNlt.out; omega) (.slice ak nk ck)).other (p := ⟨B, 2, none⟩) (show D + 1 ≠ B from by have := HBr.out; have := HNlt.out; omega) (.bool yk)).other (p := ⟨B, 3, none⟩) (show D + 1 ≠ B from by have := HBr.out; have := HNlt.out; omega) (.slice ek lk dk))
                have HV7 := Lib.hid ((HVs.out _ (bw_via Hbs.out (Hb78.out))).far4 (show O ≠ B from by have := HBlt.out; omega) (.bool xk) (.slice ak nk ck) (.bool yk) (.slice ek lk dk) hB2 noU4)
                clear hv6 hb7 hB2
                go_simp
                refine hK.out _ _ (by exact ((blk2v HN7.out).1)) (fun hHeld => ?_)
                clear hK K; (try simp only [tkS])
                refine tkD ?_ _
                go_wp2_with fail
                go_meet
                exact ⟨rfl, xk, ak, nk, ck, yk, ek, lk, dk, HW7.out, HB7.out, HV6.out, HV7.out⟩
              case rest =>
                obtain ⟨rfl, xk, ak, nk, ck, yk, ek, lk, dk, hbx, hB, hK, hV⟩ := hcut
                obtain ⟨wq, rfl⟩ : ∃ W, W = wc := ⟨_, rfl⟩
                have HP3 := Lib.hid (show Prim3 w wq B O #[.bool xk, .slice ak nk ck, .bool yk, .slice ek lk dk] mk2 (swapL sc2 sc 0) from ⟨hbx, hB, hK.out, by rw [swap_zero]; exact hV.out⟩)
                clear hbx hB hK hV HNs HIs HVs HBs
                go_wp2_with fail
                go_loopw [83] (fun i wr => ∃ p : Nat, p ≤ q ∧ i = .int .i64 (p : Int) ∧ Hid (Prim3 w wr B O #[.bool xk, .slice ak nk ck, .bool yk, .slice ek lk dk] mk2 (swapL sc2 sc p))) (fun i _ => q - (intOf i).toNat)
                case atStart => exact ⟨0, by omega, rfl, HP3.out⟩
                case round =>
                  obtain ⟨p, hp, rfl, hP⟩ := hrel
                  obtain ⟨hbx, hB, hK, hV⟩ := hP.out
                  clear hP
                  rcases Nat.lt_or_ge p q with hlt | hge
                  · have hpn : (p : Int) < (q : Int) := by omega
                    have hp0 : (0 : Int) ≤ (p : Int) := Int.natCast_nonneg _
                    have hpw : IntKind.i64.wrap ((p : Int) + 1) = (p : Int) + 1 := IntWalk.i64_in _ (by omega)
                    obtain ⟨r, hr⟩ : ∃ r, sc[p]? = some r := ⟨_, List.getElem?_eq_getElem (by have := HLen.out; omega)⟩
                    have hsw := swap_at HLen2.out hlt hr
                    obtain ⟨x2, a2, n2, c2, y2, e2, l2, d2, hR2, ⟨m0, m1, m2, m3⟩, -⟩ := hV.at hsw
                    have Hsw := Lib.hid hsw
                    have Hget := Lib.hid (HGet2.out p r hr)
                    have HMx := Lib.hid (fun W (hb : Below wr.heap.size wr W) => HMu2.out W _ _ r (List.mem_of_getElem? hr) (hR2.mono hb) (hK.mono hb))
                    have HS23 := Lib.hid (fun w' (hb : Below wr.heap.size wr w') => show (fun w' => w'.cell? ⟨O, p * 4, none⟩ = some (.bool x2) ∧ w'.cell? ⟨O, p * 4 + 1, none⟩ = some (.slice a2 n2 c2) ∧ w'.cell? ⟨O, p * 4 + 2, none⟩ = some (.bool y2) ∧ w'.cell? ⟨O, p * 4 + 3, none⟩ = some (.slice e2 l2 d2) ∧ w'.cell? ⟨B, 0, none⟩ = some (.bool xk) ∧ w'.cell? ⟨B, 1, none⟩ = some (.slice ak nk ck) ∧ w'.cell? ⟨B, 2, none⟩ = some (.bool yk) ∧ w'.cell? ⟨B, 3, none⟩ = some (.slice ek lk dk)) w' from by
                      obtain ⟨j0, j1, j2, j3⟩ := cells4 (hB.below hb) (Below.refl _ _)
                      exact ⟨cell_keep hb m0, cell_keep hb m1, cell_keep hb m2, cell_keep hb m3, j0, j1, j2, j3⟩)
                    have HW := Lib.hid (show Prim3 w wr B O #[.bool xk, .slice ak nk ck, .bool yk, .slice ek lk dk] mk2 (swapL sc2 sc p) from ⟨hbx, hB, hK, hV⟩)
                    clear hbx hB hK hV hR2 hr hsw
                    go_wp2_with fail
                    refine wp_region_pop (S := (fun w' => w'.cell? ⟨O, p * 4, none⟩ = some (.bool x2) ∧ w'.cell? ⟨O, p * 4 + 1, none⟩ = some (.slice a2 n2 c2) ∧ w'.cell? ⟨O, p * 4 + 2, none⟩ = some (.bool y2) ∧ w'.cell? ⟨O, p * 4 + 3, none⟩ = some (.slice e2 l2 d2) ∧ w'.cell? ⟨B, 0, none⟩ = some (.bool xk) ∧ w'.cell? ⟨B, 1, none⟩ = some (.slice ak nk ck) ∧ w'.cell? ⟨B, 2, none⟩ = some (.bool yk) ∧ w'.cell? ⟨B, 3, none⟩ = some (.slice ek lk dk))) 9 (by kernel_rfl) (by kernel_rfl) (by exact (HS23.out _ ((Below.refl _ _).drew))) (fun hHeld => ?_)
                    simp only [List.take_succ_cons, List.take_zero, List.drop_succ_cons, List.drop_zero]
                    refine' tk 0 ?_; (try simp only [tkS]); refine' tk 1 ?_; (try simp only [tkS]); refine' tk 2 ?_; (try simp only [tkS]); refine' tk 3 ?_; (try simp only [tkS]); refine' tk 4 ?_; (try simp only [tkS]); refine' tk 5 ?_; (try simp only [tkS]); refine' tk 6 ?_; (try simp only [tkS])
                    refine tk1 7 (fun K hK => ?_)
                    go_simp
                    go_at_call 33
                    refine (HMx.out _ ((Below.refl _ _).drew)).mono ?_
                    rintro e5 w93 ⟨v93, rfl, hv93, hb93⟩
                    have Hb93 := Lib.hid (bw_via ((Below.refl _ _).drew) hb93)
                    obtain ⟨x5, a5, n5, c5, x6, a6, n6, c6, rfl, hv93⟩ := hv93.open
                    have Hv93 := Lib.hid hv93
                    clear hv93 hb93
                    refine hK.out _ _ (by exact (HS23.out _ (Hb93.out))) (fun hHeld => ?_)
                    clear hK K; (try simp only [tkS])
                    refine' tk 8 ?_; (try simp only [tkS])
                    refine tkD ?_ _
                    simp only [Exit.then]
                    obtain ⟨hbx, hB, hK, hV⟩ := HW.out
                    have hb93 := Hb93.out
                    have hV := hV.below hb93
                    obtain ⟨_, _, _, _, _, _, _, _, -, ⟨p0, p1, p2, p3⟩, f0, f1, f2, f3⟩ := hV.at Hsw.out
                    have hV2 := hV.set (by rw [swap_len HLen2.out HLen.out hp]; exact hlt) Hv93.out
                    rw [swap_set HLen2.out HLen.out Hget.out] at hV2
                    have hkp := hV.kept (p * 4) (.bool x5) (.slice a5 n5 c5) (.bool x6) (.slice a6 n6 c6)
                    have HR := Lib.hid (show Prim3 w _ B O #[.bool xk, .slice ak nk ck, .bool yk, .slice ek lk dk] mk2 (swapL sc2 sc (p + 1)) from ⟨vb_put_below (g := O) (k := p) (hbx.via hb93 hbx.size) HwO.out (.bool x5) (.slice a5 n5 c5) (.bool x6) (.slice a6 n6 c6), Blk.far4 (hB.below hb93) (Nat.ne_of_lt HBlt.out) _ _ _ _, (hK.mono hb93).keep hkp (by decide), hV2⟩)
                    clear hbx hB hK hV hV2 hkp hb93
                    go_wp2_with fail
                    go_roundw
                    case rel => exact ⟨p + 1, by omega, by go_num, HR.out⟩
                    case measure => simp [intOf] <;> omega
                  · obtain rfl : p = q := by omega
                    have hpn : ¬ (p : Int) < (p : Int) := by omega
                    rw [swap_all HLen2.out HLen.out] at hV
                    have HQ := Lib.hid (hV.qv HLen2.out (by unfold maxLen; omega))
                    have HbF := Lib.hid hbx
                    clear hbx hB hK hV
                    go_wp2_with fail
                    go_ret
                    exact ⟨_, rfl, by rw [Hres.out]; exact HQ.out, HbF.out⟩
end Go.Proofs.YtlcmhbkmpkcajaaGreatDoor
