/-
  Parts of the proof: Qso, Qbd, Dtx, Text.
-/
import Derived.Shelf.Strings.Builder1
import Derived.Test.YtlcmhbkmpkcajaaGreatDoorN27
namespace Go.Proofs.YtlcmhbkmpkcajaaGreatDoor
open Go.RowKit
theorem OV.set {M G N cap : Nat} {w : World} {m : List (List Rat)} {p : Value} {x : List Rat} (h : OV M w (.slice (some ⟨G, 0, none⟩) N cap) m) (hp : QV w p x) (J : Nat) :
    OV M (w.setCell ⟨G, J, none⟩ p) (.slice (some ⟨G, 0, none⟩) N cap) (m.set J x) ∧ Keep (fun T => T ≠ 46) w (w.setCell ⟨G, J, none⟩ p) ∧ ∀ B, B ≤ M → Below B w (w.setCell ⟨G, J, none⟩ p) := by
  obtain ⟨ps, hl, ho, hq⟩ := h
  obtain ⟨a, c, hv, -, -⟩ := own_open ho
  have hm : m.length = N := by cases hv; rfl
  rw [hm] at ho
  obtain ⟨s1, s2⟩ := ho.stored J p
  have hk : Keep (fun T => T ≠ 46) w (w.setCell ⟨G, J, none⟩ p) := Keep.grown ho (fun k => k rfl) s2
  refine ⟨⟨ps.set J p, by simp [hl], by rw [List.length_set, hm]; exact s1, fun k q b hq1 hv1 => ?_⟩, hk, fun B hB => (Below.refl _ _).setCell (p := ⟨G, J, none⟩) (Nat.le_trans hB (ho.lt G rfl).1) p⟩
  rw [List.getElem?_set] at hq1 hv1
  split at hq1
  · next e =>
    subst e
    split at hq1
    · cases hq1
      rw [if_pos rfl] at hv1
      split at hv1
      · cases hv1
        exact hp.keep hk (by decide) (by decide)
      · cases hv1
    · cases hq1
  · next e =>
    rw [if_neg e] at hv1
    exact (hq k q b hq1 hv1).keep hk (by decide) (by decide)
theorem OV.cell {M G N cap : Nat} {w : World} {m : List (List Rat)} (h : OV M w (.slice (some ⟨G, 0, none⟩) N cap) m) {J : Nat} (hJ : J < N) :
    ∃ p x, m[J]? = some x ∧ w.cell? ⟨G, J, none⟩ = some p ∧ w.frozen? ⟨G, J, none⟩ = false ∧ QV w p x := by
  obtain ⟨ps, hl, ho, hq⟩ := h
  obtain ⟨a, c, hv, -, -⟩ := own_open ho
  have hm : m.length = N := by cases hv; rfl
  rw [hm] at ho
  have hJp : J < ps.length := by omega
  have hJm : J < m.length := by omega
  have h1 := ho.cellAt J (by omega)
  rw [List.getElem?_eq_getElem hJp] at h1
  exact ⟨_, _, List.getElem?_eq_getElem hJm, h1, ho.frozenAt J, hq J _ _ (List.getElem?_eq_getElem hJp) (List.getElem?_eq_getElem hJm)⟩
theorem OV.some {M : Nat} {w : World} {a : Option Addr} {n c : Nat} {m : List (List Rat)} (h : OV M w (.slice a n c) m) (hn : 0 < m.length) : ∃ G, a = some ⟨G, 0, none⟩ := by
  obtain ⟨ps, hl, ho, hq⟩ := h
  exact own_some ho hn
def lstS (s : List Vec) (x : Vec) (j : Nat) (rest : List Vec) : List Vec := s.take j ++ x :: (s.drop j ++ rest)
theorem lstS_top (s : List Vec) (x : Vec) (rest : List Vec) : lstS s x s.length rest = s ++ x :: rest := by simp [lstS]
theorem lstS_at {s : List Vec} {x : Vec} {j : Nat} {rest : List Vec} (hj : j ≤ s.length) : (lstS s x j rest)[j]? = some x := by
  unfold lstS
  rw [List.getElem?_append_right (by rw [List.length_take]; omega), List.length_take, show j - min j s.length = 0 by omega]
  rfl
theorem lstS_left {s : List Vec} {x : Vec} {k : Nat} {rest : List Vec} (hk : k + 1 ≤ s.length) : (lstS s x (k + 1) rest)[k]? = s[k]? := by
  unfold lstS
  rw [List.getElem?_append_left (by rw [List.length_take]; omega), List.getElem?_take, if_pos (by omega)]
theorem lstS_step {s : List Vec} {x y : Vec} {k : Nat} {rest : List Vec} (hy : s[k]? = some y) : ((lstS s x (k + 1) rest).set (k + 1) y).set k x = lstS s x k rest := by
  obtain ⟨hk, he⟩ := List.getElem?_eq_some_iff.1 hy
  have h1 : s.take (k + 1) = s.take k ++ [y] := by rw [List.take_add_one, hy]; rfl
  have h2 : s.drop k = y :: s.drop (k + 1) := by rw [List.drop_eq_getElem_cons hk, he]
  have hl : (s.take k).length = k := by rw [List.length_take]; omega
  unfold lstS
  rw [h1, h2]
  rw [List.set_append_right _ _ (by simp [hl])]
  rw [List.length_append, hl, List.length_singleton, Nat.sub_self, List.set_cons_zero, List.append_assoc]
  rw [List.set_append_right _ _ (by rw [hl]; exact Nat.le_refl _), hl, Nat.sub_self]
  rfl
theorem ins_at {x : Vec} {s : List Vec} {j : Nat} (h1 : ∀ y ∈ s.drop j, cmpV x y < 0) (h2 : j = 0 ∨ ∃ k y, j = k + 1 ∧ s[k]? = some y ∧ ¬ cmpV x y < 0) : insV x s = s.take j ++ x :: s.drop j := by
  have e : s.reverse = (s.drop j).reverse ++ (s.take j).reverse := by rw [← List.reverse_append, List.take_append_drop]
  have hz : (s.take j).reverse.takeWhile (fun y => decide (cmpV x y < 0)) = [] ∧ (s.take j).reverse.dropWhile (fun y => decide (cmpV x y < 0)) = (s.take j).reverse := by
    rcases h2 with rfl | ⟨k, y, rfl, hy, hn⟩
    · simp
    · rw [List.take_add_one, hy, Option.toList_some, List.reverse_append]
      simp [hn]
  unfold insV
  rw [e, List.takeWhile_append_of_pos (fun y hy => by simpa using h1 y (List.mem_reverse.1 hy)), List.dropWhile_append_of_pos (fun y hy => by simpa using h1 y (List.mem_reverse.1 hy)), hz.1, hz.2]
  simp
theorem ins_len (x : Vec) (s : List Vec) : (insV x s).length = s.length + 1 := by
  unfold insV
  have h := congrArg List.length (List.takeWhile_append_dropWhile (p := fun y => decide (cmpV x y < 0)) (l := s.reverse))
  rw [List.length_append, List.length_reverse] at h
  rw [List.length_append, List.length_cons, List.length_reverse, List.length_reverse]
  omega
theorem sort_snoc (l : List Vec) (x : Vec) : sortV (l ++ [x]) = insV x (sortV l) := by
  unfold sortV
  rw [List.foldl_append]
  rfl
theorem sort_len (l : List Vec) : (sortV l).length = l.length := by
  suffices h : ∀ (l s : List Vec), (l.foldl (fun s x => insV x s) s).length = s.length + l.length by
    have := h l []
    simpa [sortV] using this
  intro l
  induction l with
  | nil => intro s; rfl
  | cons x l ih =>
    intro s
    rw [List.foldl_cons, ih, ins_len, List.length_cons]
    omega
theorem sort_step {vs : List Vec} {i : Nat} {x : Vec} (h : vs[i]? = some x) : sortV (vs.take (i + 1)) = insV x (sortV (vs.take i)) := by
  rw [List.take_add_one, h, Option.toList_some, sort_snoc]
structure SoI (M : Nat) (w wr : World) (v : Value) (d : Nat) (cur : List Vec) : Prop where
  keep : Keep (fun T => T ≠ 46) w wr
  below : Below M w wr
  ov : OV M wr v cur
  fit : ∀ a ∈ cur, FitV d a
theorem SoI.mono {M : Nat} {w wr w' : World} {v : Value} {d : Nat} {cur : List Vec} (h : SoI M w wr v d cur) (hM : M ≤ wr.heap.size) (hb : Below wr.heap.size wr w') : SoI M w w' v d cur :=
  ⟨h.keep.trans (.below hb), h.below.trans (hb.mono hM), h.ov.below hb, h.fit⟩
set_option maxHeartbeats 8000000 in
set_option maxRecDepth 10000 in
theorem isort_g (v : Value) (vs : List (List Rat)) (M n d : Nat) (w : World) (h : OV M w v vs) (hn : vs.length = n) (hn2 : n ≤ 1000) (hd : d ≤ 1000) (hf : ∀ a ∈ vs, FitV d a) (hM : M ≤ w.heap.size) :
    Calls Tryz.prog 122 #[v, .int .i64 0, .int .i64 (n : Int), .func (.func 51) #[] #[]] w (fun e w' => e = .returned (.tuple #[]) ∧ SoI M w w' v d (sortV vs)) := by
  obtain ⟨va, vc, rfl, hv1, hv2⟩ := h.open
  rw [hn] at h hv1 ⊢
  unfold maxLen at hv2
  have HN := hI hn
  have HM := hI hM
  have HS0 := hI (show SoI M w w (.slice va n vc) d (sortV (vs.take 1) ++ vs.drop 1) from ⟨Keep.refl _ _, Below.refl _ _, by
    rw [show sortV (vs.take 1) ++ vs.drop 1 = vs from by cases vs <;> rfl]; exact h, by rw [show sortV (vs.take 1) ++ vs.drop 1 = vs from by cases vs <;> rfl]; exact hf⟩)
  clear h hn hM hf
  go_enter Tryz.func122, Tryz.ntmps122
  go_wp2_with fail
  go_loopw [8] (fun iv wr => ∃ i : Nat, 1 ≤ i ∧ i ≤ n + 1 ∧ iv = .int .i64 (i : Int) ∧ Hid (SoI M w wr (.slice va n vc) d (sortV (vs.take i) ++ vs.drop i))) (fun iv _ => n - (intOf iv).toNat)
  case atStart => exact ⟨1, by omega, by omega, rfl, HS0.out⟩
  case round =>
    obtain ⟨i, hi1, hi2, rfl, hS⟩ := hrel
    obtain ⟨wo, rfl⟩ : ∃ W, W = wr := ⟨_, rfl⟩
    have HS := hI hS.out
    clear hS HS0
    have hi0 : (0 : Int) ≤ (i : Int) := Int.natCast_nonneg _
    rcases Nat.lt_or_ge i n with hlt | hge
    · have hin : (i : Int) < (n : Int) := by omega
      have hiw : IntKind.i64.wrap ((i : Int) + 1) = (i : Int) + 1 := IntWalk.i64_in _ (by omega)
      obtain ⟨x, hx⟩ : ∃ x, vs[i]? = some x := ⟨_, List.getElem?_eq_getElem (by have := HN.out; omega)⟩
      have hdrop : vs.drop i = x :: vs.drop (i + 1) := by
        obtain ⟨h1, h2⟩ := List.getElem?_eq_some_iff.1 hx
        rw [List.drop_eq_getElem_cons h1, h2]
      have Hst := hI (sort_step hx)
      have hsl : (sortV (vs.take i)).length = i := by rw [sort_len, List.length_take]; have := HN.out; omega
      have Hsl := hI hsl
      rw [hdrop] at HS
      obtain ⟨G, rfl⟩ := HS.out.ov.some (by rw [List.length_append, hsl]; simp; omega)
      have HS1 := hI (show SoI M w wo (.slice (some ⟨G, 0, none⟩) n vc) d (lstS (sortV (vs.take i)) x i (vs.drop (i + 1))) from by
        have := lstS_top (sortV (vs.take i)) x (vs.drop (i + 1))
        rw [hsl] at this
        rw [this]
        exact HS.out)
      generalize sortV (vs.take i) = s at *
      generalize hrest : vs.drop (i + 1) = rest at *
      have HRe := hI hrest
      clear hdrop hx hsl HS hrest
      go_wp2_with fail
      go_loopw [9] (fun jv wr => ∃ j : Nat, j ≤ i ∧ jv = .int .i64 (j : Int) ∧ Hid (SoI M w wr (.slice (some ⟨G, 0, none⟩) n vc) d (lstS s x j rest) ∧ ∀ y ∈ s.drop j, cmpV x y < 0)) (fun jv _ => (intOf jv).toNat)
      case atStart => exact ⟨i, by omega, rfl, HS1.out, by rw [List.drop_eq_nil_of_le (by have := Hsl.out; omega)]; intro y hy; cases hy⟩
      case round =>
        obtain ⟨j, hj, rfl, hP⟩ := hrel
        obtain ⟨hS, hA⟩ := hP.out
        obtain ⟨wj, rfl⟩ : ∃ W, W = wr := ⟨_, rfl⟩
        have HS := hI hS
        have HA := hI hA
        have HMj := hI (show M ≤ wj.heap.size from Nat.le_trans HM.out hS.below.size)
        clear hP hS hA HS1
        cases j with
        | zero =>
          have HS2 := hI (show SoI M w wj (.slice (some ⟨G, 0, none⟩) n vc) d (sortV (vs.take (i + 1)) ++ vs.drop (i + 1)) from by
            rw [HRe.out, Hst.out, ins_at HA.out (.inl rfl)]
            have := HS.out
            unfold lstS at this
            simpa using this)
          have hj0 : decide ((0 : Int) < (((0 : Nat) : Nat) : Int)) = false := by decide
          go_wp2_with fail
          refine wp_region_held_drew (S := (fun _ => True)) (by kernel_rfl) (by exact trivial) (fun hHeld => ?_)
          refine' tk 0 ?_; (try simp only [tkS]); refine' tk 1 ?_; (try simp only [tkS]); refine' tk 2 ?_; (try simp only [tkS]); refine' tk 3 ?_; (try simp only [tkS]); refine' tkU 4 ?_; (try simp only [tkS]); refine' tkU 5 ?_; (try simp only [tkS]); refine' tkU 6 ?_; (try simp only [tkS]); refine' tkU 7 ?_; (try simp only [tkS]); refine' tkU 8 ?_; (try simp only [tkS]); refine' tkU 9 ?_; (try simp only [tkS]); refine' tkU 10 ?_; (try simp only [tkS]); refine' tkU 11 ?_; (try simp only [tkS]); refine' tkU 12 ?_; (try simp only [tkS]); refine' tkU 13 ?_; (try simp only [tkS]); refine' tkU 14 ?_; (try simp only [tkS]); refine' tkU 15 ?_; (try simp only [tkS]); refine' tk 16 ?_; (try simp only [tkS])
          refine tkD ?_ _
          go_wp2_with fail
          go_roundw
          case rel => exact ⟨i + 1, by omega, by omega, by go_num, (HS2.out.mono HMj.out ((Below.refl _ _).drew))⟩
          case measure => simp [intOf] <;> omega
        | succ k =>
          have hk0 : (0 : Int) ≤ (k : Int) := Int.natCast_nonneg _
          have hkp : decide ((0 : Int) < (((k + 1 : Nat) : Nat) : Int)) = true := decide_eq_true (by omega)
          have hkp2 : (0 : Int) < (k : Int) + 1 := by omega
          have hkn0 : (0 : Int) ≤ (k : Int) + 1 := by omega
          have hkn1 : (k : Int) + 1 < (n : Int) := by omega
          have hkn2 : (k : Int) < (n : Int) := by omega
          have hkw : IntKind.i64.wrap (k : Int) = (k : Int) := IntWalk.i64_in _ (by omega)
          have hke : (k : Int) + 1 - 1 = (k : Int) := by omega
          obtain ⟨pj, xj, hxj, gj, fj, hQj⟩ := HS.out.ov.cell (J := k + 1) (by omega)
          obtain ⟨pk, y, hy, gk, fk, hQk⟩ := HS.out.ov.cell (J := k) (by omega)
          rw [lstS_at (by have := Hsl.out; omega), Option.some.injEq] at hxj
          subst hxj
          have fx := HS.out.fit x (List.mem_of_getElem? (lstS_at (by have := Hsl.out; omega)))
          have fy := HS.out.fit y (List.mem_of_getElem? hy)
          rw [lstS_left (by have := Hsl.out; omega)] at hy
          obtain ⟨pja, pjc, rfl, -, -⟩ := hQj.open
          obtain ⟨pka, pkc, rfl, -, -⟩ := hQk.open
          rw [fx.1] at hQj gj
          rw [fy.1] at hQk gk
          have HCm := hI (fun w' (hb : Below wj.heap.size wj w') => cmpv_g _ _ x y d w' (hQj.mono hb) (hQk.mono hb) fx fy hd)
          have HQj := hI hQj
          have HQk := hI hQk
          have Hy := hI hy
          have HS4 := hI (fun w' (hb : Below wj.heap.size wj w') => show (fun w' => w'.cell? ⟨G, k + 1, none⟩ = some (.slice pja d pjc) ∧ w'.cell? ⟨G, k, none⟩ = some (.slice pka d pkc)) w' from ⟨cell_keep hb gj, cell_keep hb gk⟩)
          clear hQj hQk fx fy hy gj gk fj fk
          obtain ⟨c, hc⟩ : ∃ c, cmpV x y = c := ⟨_, rfl⟩
          have Hc := hI hc
          rw [hc] at HCm
          clear hc
          go_wp2_with fail
          refine wp_region_held_drew (S := (fun w' => w'.cell? ⟨G, k + 1, none⟩ = some (.slice pja d pjc) ∧ w'.cell? ⟨G, k, none⟩ = some (.slice pka d pkc))) (by kernel_rfl) (by exact (HS4.out _ ((Below.refl _ _).drew))) (fun hHeld => ?_)
          refine' tk 0 ?_; (try simp only [tkS]); refine' tk 1 ?_; (try simp only [tkS]); refine' tk 2 ?_; (try simp only [tkS]); refine' tk 3 ?_; (try simp only [tkS]); refine' tk 4 ?_; (try simp only [tkS]); refine' tk 5 ?_; (try simp only [tkS]); refine' tk 6 ?_; (try simp only [tkS]); refine' tk 7 ?_; (try simp only [tkS]); refine' tk 8 ?_; (try simp only [tkS]); refine' tk 9 ?_; (try simp only [tkS]); refine' tk 10 ?_; (try simp only [tkS]); refine' tk 11 ?_; (try simp only [tkS]); refine' tk 12 ?_; (try simp only [tkS]); refine' tk 13 ?_; (try simp only [tkS])
          refine tk1 14 (fun K hK => ?_)
          go_simp
          go_at_call 51
          refine (HCm.out _ ((Below.refl _ _).drew)).mono ?_
          rintro e5 w14 ⟨rfl, hb14⟩
          have Hb14 := hI (bw_via ((Below.refl _ _).drew) hb14)
          clear hb14
          refine hK.out _ _ (by exact (HS4.out _ (Hb14.out))) (fun hHeld => ?_)
          clear hK K; (try simp only [tkS])
          refine' tk 15 ?_; (try simp only [tkS]); refine' tk 16 ?_; (try simp only [tkS])
          refine tkD ?_ _
          have HS5 := hI (HS.out.mono HMj.out Hb14.out)
          have HMk := hI (show M ≤ w14.heap.size from Nat.le_trans HMj.out Hb14.out.size)
          have HQj5 := hI (HQj.out.mono Hb14.out)
          have HQk5 := hI (HQk.out.mono Hb14.out)
          by_cases hc0 : c < 0
          · have hc1 : decide (c < 0) = true := by simpa using hc0
            obtain ⟨-, -, -, -, fj, -⟩ := HS5.out.ov.cell (J := k + 1) (by omega)
            obtain ⟨-, -, -, -, fk, -⟩ := HS5.out.ov.cell (J := k) (by omega)
            obtain ⟨gj, gk⟩ := HS4.out _ Hb14.out
            have hQj6 := HQj5.out.mono ((Below.refl _ _).dn 1)
            have hQk6 := HQk5.out.mono ((Below.refl _ _).dn 1)
            have hS6 := HS5.out.mono HMk.out ((Below.refl _ _).dn 1)
            obtain ⟨o1, k1, b1⟩ := hS6.ov.set hQk6 (k + 1)
            obtain ⟨o2, k2, b2⟩ := o1.set (hQj6.keep k1 (by decide) (by decide)) k
            rw [lstS_step Hy.out] at o2
            have HS7 := hI (show SoI M w ((w14.drew.setCell ⟨G, k + 1, none⟩ (.slice pka d pkc)).setCell ⟨G, k, none⟩ (.slice pja d pjc)) (.slice (some ⟨G, 0, none⟩) n vc) d (lstS s x k rest) from ⟨hS6.keep.trans (k1.trans k2), hS6.below.trans ((b1 M (Nat.le_refl _)).trans (b2 M (Nat.le_refl _))), o2, fun a ha => by
              rw [← lstS_step Hy.out] at ha
              rcases List.mem_or_eq_of_mem_set ha with h1 | h1
              · rcases List.mem_or_eq_of_mem_set h1 with h2 | h2
                · exact HS5.out.fit a h2
                · rw [h2]; exact HS5.out.fit y (List.mem_of_getElem? ((lstS_left (by have := Hsl.out; omega)).trans Hy.out))
              · rw [h1]; exact HS5.out.fit x (List.mem_of_getElem? (lstS_at (by have := Hsl.out; omega)))⟩)
            have HA7 := hI (show ∀ z ∈ s.drop k, cmpV x z < 0 from fun z hz => by
              obtain ⟨h1, h2⟩ := List.getElem?_eq_some_iff.1 Hy.out
              rw [List.drop_eq_getElem_cons h1, h2] at hz
              rcases List.mem_cons.1 hz with h3 | h3
              · rw [h3, Hc.out]; exact hc0
              · exact HA.out z h3)
            clear hQj6 hQk6 hS6 o1 k1 b1 o2 k2 b2
            go_wp2_with fail
            refine wp_region_pop (S := (fun w' => w'.cell? ⟨G, k, none⟩ = some (.slice pka d pkc))) 17 (by kernel_rfl) (by kernel_rfl) (by exact gk) (fun hHeld => ?_)
            simp only [List.take_succ_cons, List.take_zero, List.drop_succ_cons, List.drop_zero]
            refine' tk 0 ?_; (try simp only [tkS]); refine' tk 1 ?_; (try simp only [tkS]); refine' tk 2 ?_; (try simp only [tkS]); refine' tk 3 ?_; (try simp only [tkS]); refine' tk 4 ?_; (try simp only [tkS]); refine' tk 5 ?_; (try simp only [tkS]); refine' tk 6 ?_; (try simp only [tkS]); refine' tk 7 ?_; (try simp only [tkS]); refine' tk 8 ?_; (try simp only [tkS]); refine' tk 9 ?_; (try simp only [tkS]); refine' tk 10 ?_; (try simp only [tkS]); refine' tk 11 ?_; (try simp only [tkS]); refine' tk 12 ?_; (try simp only [tkS])
            refine tk1 13 (fun K hK => ?_)
            go_simp
            refine hK.out _ _ (by exact gk) (fun hHeld => ?_)
            clear hK K; (try simp only [tkS])
            refine' tk 14 ?_; (try simp only [tkS])
            refine tk1 15 (fun K hK => ?_)
            go_simp
            refine hK.out _ _ (by exact (cell_off (w := w14.drew) (i := k + 1) (u := .slice pka d pkc) gk (by omega))) (fun hHeld => ?_)
            clear hK K; (try simp only [tkS])
            refine' tk 16 ?_; (try simp only [tkS])
            refine tkD ?_ _
            simp only [Exit.then]
            go_wp2_with fail
            go_roundw
            case rel => exact ⟨k, by omega, by go_num, HS7.out, HA7.out⟩
            case measure => simp [intOf] <;> omega
          · have hc1 : decide (c < 0) = false := by simpa using hc0
            have HS2 := hI (show SoI M w w14 (.slice (some ⟨G, 0, none⟩) n vc) d (sortV (vs.take (i + 1)) ++ vs.drop (i + 1)) from by
              rw [HRe.out, Hst.out, ins_at HA.out (.inr ⟨k, y, rfl, Hy.out, by rw [Hc.out]; exact hc0⟩)]
              have := HS5.out
              unfold lstS at this
              simpa using this)
            go_wp2_with fail
            go_roundw
            case rel => exact ⟨i + 1, by omega, by omega, by go_num, HS2.out⟩
            case measure => simp [intOf] <;> omega
    · have hin : ¬ (i : Int) < (n : Int) := by omega
      have hall : sortV (vs.take i) ++ vs.drop i = sortV vs := by
        rw [List.take_of_length_le (by have := HN.out; omega), List.drop_eq_nil_of_le (by have := HN.out; omega), List.append_nil]
      rw [hall] at HS
      clear hall
      go_wp2_with fail
      go_end0
      exact ⟨rfl, HS.out⟩
set_option maxHeartbeats 2000000 in
set_option maxRecDepth 10000 in
theorem pdq_g (v : Value) (vs : List (List Rat)) (M n d : Nat) (lim : Int) (w : World) (h : OV M w v vs) (hn : vs.length = n) (hn2 : n ≤ 12) (hd : d ≤ 1000) (hf : ∀ a ∈ vs, FitV d a) (hM : M ≤ w.heap.size) :
    Calls Tryz.prog 88 #[v, .int .i64 0, .int .i64 (n : Int), .int .i64 lim, .func (.func 51) #[] #[]] w (fun e w' => e = .returned (.tuple #[]) ∧ SoI M w w' v d (sortV vs)) := by
  have HI := hI (isort_g v vs M n d w h hn (by omega) hd hf hM)
  obtain ⟨va, vc, rfl, hv1, hv2⟩ := h.open
  rw [hn] at HI hv1 ⊢
  clear h hn hf hM
  have hn0 : (0 : Int) ≤ (n : Int) := Int.natCast_nonneg _
  have hnw : IntKind.i64.wrap (n : Int) = (n : Int) := IntWalk.i64_in _ (by omega)
  have hn12 : (n : Int) ≤ 12 := by omega
  go_enter Tryz.func88, Tryz.ntmps88
  go_wp2_with fail
  go_loopw [1, 2] (fun a b wr => a = .int .i64 0 ∧ b = .int .i64 (n : Int) ∧ Hid (wr = w)) (fun _ _ _ => 0)
  case atStart => exact ⟨rfl, rfl, rfl⟩
  case round =>
    obtain ⟨rfl, rfl, hw⟩ := hrel
    obtain rfl : wr = w := hw.out
    clear hw
    go_wp2_with (go_at_call 122; refine (HI.out).mono ?_; rintro e5 w5 ⟨rfl, h5⟩; have H5 := hI h5; clear h5)
    exact bodyPost_ret (v := .tuple #[]) (by simp [results, Tryz.results88, go_sem]) rfl ⟨rfl, H5.out⟩
set_option maxHeartbeats 2000000 in
set_option maxRecDepth 10000 in
theorem sortf_g (v : Value) (vs : List (List Rat)) (M n d : Nat) (w : World) (h : OV M w v vs) (hn : vs.length = n) (hn2 : n ≤ 12) (hd : d ≤ 1000) (hf : ∀ a ∈ vs, FitV d a) (hM : M ≤ w.heap.size) :
    Calls Tryz.prog 50 #[v, .func (.func 51) #[] #[]] w (fun e w' => e = .returned (.tuple #[]) ∧ SoI M w w' v d (sortV vs)) := by
  have HI := hI (fun lim => pdq_g v vs M n d lim w h hn hn2 hd hf hM)
  obtain ⟨va, vc, rfl, hv1, hv2⟩ := h.open
  rw [hn] at HI hv1 ⊢
  clear h hn hf hM
  have hn0 : (0 : Int) ≤ (n : Int) := Int.natCast_nonneg _
  have hnw : IntKind.u64.wrap (n : Int) = (n : Int) := IntWalk.u64_in _ (by omega)
  have hn12 : (n : Int) ≤ 18446744073709551615 := by omega
  go_enter Tryz.func50, Tryz.ntmps50
  go_wp2_with (first
    | (go_at_call 89; refine (Tryz.bits_Len _ _ hn0 hn12).mono ?_; rintro e5 w4 ⟨rfl, rfl⟩)
    | (go_at_call 88; refine (HI.out _).mono ?_; rintro e5 w5 ⟨rfl, h5⟩; have H5 := hI h5; clear h5))
  go_end0
  exact ⟨rfl, H5.out⟩
end Go.Proofs.YtlcmhbkmpkcajaaGreatDoor
namespace Go.Proofs.YtlcmhbkmpkcajaaGreatDoor
open Go.RowKit Go.Shelf
theorem sz_bd : (Tryz.prog.info? 138).map (·.size) = some 2 := by kernel_rfl
theorem lies_bd : liesAt Tryz.prog Tryz.prog.depth 138 (2 / Tryz.prog.cellsOf 138) 0 138 1 = true := by kernel_rfl
set_option maxHeartbeats 1000000 in
set_option maxRecDepth 100000 in
theorem ccheck_used (b : Nat) (w : World) (h0 : w.cell? ⟨b, 0, none⟩ = some (.pointer (some ⟨b, 0, none⟩))) :
    Calls Tryz.prog 121 #[.pointer (some ⟨b, 0, none⟩)] w fun e w' => e = .returned (.tuple #[]) ∧ w' = w := by
  obtain ⟨j, hj, _⟩ := Option.map_eq_some_iff.1 sz_bd
  go_enter Tryz.func121, Tryz.ntmps121
  go_wp2
  rw [Lib.run_neq_ptr_same w _ Tryz.underlying135 hj]
  go_wp2
  go_end0
  exact ⟨rfl, rfl⟩
set_option maxHeartbeats 1000000 in
set_option maxRecDepth 100000 in
theorem ccheck_fresh (b : Nat) (w : World) (h0 : w.cell? ⟨b, 0, none⟩ = some (.pointer none)) (hsh : w.shape? b = some (138, 2)) (hfz : w.frozen? ⟨b, 0, none⟩ = false) :
    Calls Tryz.prog 121 #[.pointer (some ⟨b, 0, none⟩)] w fun e w' => e = .returned (.tuple #[]) ∧ w' = w.setCell ⟨b, 0, none⟩ (.pointer (some ⟨b, 0, none⟩)) := by
  obtain ⟨j, hj, hjs⟩ := Option.map_eq_some_iff.1 sz_bd
  go_enter Tryz.func121, Tryz.ntmps121
  go_wp2
  rw [Lib.run_to_unsafe w ⟨b, 0, none⟩ Tryz.underlying135 Tryz.underlying200 hj (by rw [hjs]; decide) hsh (Nat.zero_lt_succ 1)]
  simp only [Result.andThen]
  rw [Oper.upon_value]
  go_wp2
  rw [run_callFunc_extern Tryz.func154 (by kernel_rfl) (by kernel_rfl) (by kernel_rfl) (e := Extern.AbiNoEscape.same) (by kernel_rfl)]
  rw [Lib.run_noEscape]
  simp only [Result.andThen]
  rw [Oper.upon_value]
  go_wp2
  rw [Lib.run_from_unsafe w ⟨b, 0, none⟩ Tryz.underlying200 Tryz.underlying135 hj hsh lies_bd]
  simp only [Result.andThen]
  rw [Oper.upon_value]
  go_wp2
  go_end0
  exact ⟨rfl, rfl⟩
abbrev IsB (B b : Nat) (bs : List Value) (w : World) : Prop := Lib.IsBuilder 138 5 B b bs w
abbrev BAt (B b : Nat) (bs : List Value) (w : World) : Prop := Lib.BuilderAt 138 5 B b (.pointer (some ⟨b, 0, none⟩)) bs w
theorem ccheck_g (B b : Nat) (bs : List Value) (w : World) (h : IsB B b bs w) : Calls Tryz.prog 121 #[.pointer (some ⟨b, 0, none⟩)] w fun e w' => e = .returned (.tuple #[]) ∧ (BAt B b bs w' ∧ Below B w w') := by
  rcases h with h | h
  · refine (ccheck_fresh b w h.cell0 h.shape h.frozen0).mono ?_
    rintro e w' ⟨rfl, rfl⟩
    exact ⟨rfl, h.used _, (Below.refl B w).setCell (p := ⟨b, 0, none⟩) h.1 _⟩
  · refine (ccheck_used b w h.cell0).mono ?_
    rintro e w' ⟨rfl, rfl⟩
    exact ⟨rfl, h, Below.refl B _⟩
theorem info_byte : ∃ i, Tryz.prog.info? 5 = some i ∧ i.zero = some (.int .u8 0) ∧ i.size = 1 ∧ i.bytes = 1 := by
  have hi : (Tryz.prog.info? 5).map (fun i => (i.zero, i.size, i.bytes)) = some (some (.int .u8 0), 1, 1) := by kernel_rfl
  rw [Option.map_eq_some_iff] at hi
  obtain ⟨i1, h, he⟩ := hi
  simp only [Prod.mk.injEq] at he
  exact ⟨i1, h, he.1, he.2.1, he.2.2⟩
theorem heap_lt {w : World} {b : Nat} {o : Obj} (h : w.heap[b]? = some o) : b < w.heap.size := by
  rcases Nat.lt_or_ge b w.heap.size with h' | h'
  · exact h'
  · simp [Array.getElem?_eq_none h'] at h
set_option maxHeartbeats 2000000 in
set_option maxRecDepth 100000 in
theorem wbyte_g (B b : Nat) (bs : List Value) (c : Int) (w : World) (h : IsB B b bs w) (hlen : bs.length + 1 ≤ 140737488355328) (hBw : B ≤ w.heap.size) :
    Calls Tryz.prog 86 #[.pointer (some ⟨b, 0, none⟩), .int .u8 c] w fun e w' => e = .returned .nilIface ∧ (BAt B b (bs ++ [.int .u8 c]) w' ∧ Below B w w') := by
  obtain ⟨i0, hi, hz0, hz1, hz2⟩ := info_byte
  go_enter Tryz.func86, Tryz.ntmps86
  go_wp2_with (go_at_call 121; refine (ccheck_g B b bs _ h).mono ?_)
  rintro e w1 ⟨rfl, h1, hb1⟩
  obtain ⟨hB, v, hbk, hown, hne⟩ := h1
  have c0 : w1.cell? ⟨b, 0, none⟩ = some (.pointer (some ⟨b, 0, none⟩)) := by rw [Lib.cell_of_heap hbk]; rfl
  have c1 : w1.cell? ⟨b, 1, none⟩ = some v := by rw [Lib.cell_of_heap hbk]; rfl
  go_wp2_with (at_builtin; refine wpList_append_own _ rfl _ _ 136 rfl B 5 i0 (.int .u8 0) 1 1 Tryz.underlying136 hi hz0 hz1 hz2 rfl (by decide) _ _ _ rfl (hown.alloc _) ⟨w1.heap.size, 0, none⟩ 1 1 [.int .u8 c] rfl rfl ?c1 ?c2 ?c3 ?c4 ?c5 ?_)
  case c1 =>
    intro j u hj
    match j, hj with
    | 0, hj => simp at hj; subst hj; simp [Addr.add]
  case c2 => intro u hu; simp at hu; subst hu; rfl
  case c3 => unfold maxLen; omega
  case c4 => omega
  case c5 => have := hb1.size; simp; omega
  intro v' w2 hown' hgrow _
  have hb2 : w2.heap[b]? = some (.cells #[.pointer (some ⟨b, 0, none⟩), v] 138 (0, 0)) := by
    rw [hgrow.block b (by have := heap_lt hbk; simp; omega) (fun e => hne e.symm), Lib.alloc_old w1 _ b (heap_lt hbk)]
    exact hbk
  have d0 : w2.cell? ⟨b, 0, none⟩ = some (.pointer (some ⟨b, 0, none⟩)) := by rw [Lib.cell_of_heap hb2]; rfl
  have d1 : w2.cell? ⟨b, 1, none⟩ = some v := by rw [Lib.cell_of_heap hb2]; rfl
  have f1 : w2.frozen? ⟨b, 1, none⟩ = false := Lib.frozen_of_heap hb2 1
  obtain ⟨g, cap, rfl⟩ : ∃ g cap, v' = .slice (some ⟨g, 0, none⟩) (bs.length + 1) cap := by
    rcases hown'.2 with ⟨_, h0⟩ | ⟨g, cap, cur, hv, _⟩
    · omega
    · exact ⟨g, cap, hv⟩
  go_wp2
  go_ret
  refine ⟨rfl, ?_, ?_⟩
  · exact Lib.BuilderAt.put (T := 138) (e := 5) hB hb2 (bs' := bs ++ [.int .u8 c]) (by simpa using hown') (by decide)
  · exact ((hb1.alloc (by have := hb1.size; omega) _).grown hgrow (by have := hb1.size; simp; omega) (fun k hk => (hown.lt k hk).1)).setCell (p := ⟨b, 1, none⟩) hB _
set_option maxHeartbeats 2000000 in
set_option maxRecDepth 100000 in
theorem wstr_g (B b : Nat) (bs : List Value) (s : ByteArray) (w : World) (h : IsB B b bs w) (hlen : bs.length + s.size ≤ 140737488355328) (hBw : B ≤ w.heap.size) :
    Calls Tryz.prog 85 #[.pointer (some ⟨b, 0, none⟩), .string s] w fun e w' => e = .returned (.tuple #[.int .i64 s.size, .nilIface]) ∧ (BAt B b (bs ++ Lib.strCells s) w' ∧ Below B w w') := by
  obtain ⟨i0, hi, hz0, hz1, hz2⟩ := info_byte
  go_enter Tryz.func85, Tryz.ntmps85
  go_wp2_with (go_at_call 121; refine (ccheck_g B b bs _ h).mono ?_)
  rintro e w1 ⟨rfl, h1, hb1⟩
  obtain ⟨hB, v, hbk, hown, hne⟩ := h1
  have c0 : w1.cell? ⟨b, 0, none⟩ = some (.pointer (some ⟨b, 0, none⟩)) := by rw [Lib.cell_of_heap hbk]; rfl
  have c1 : w1.cell? ⟨b, 1, none⟩ = some v := by rw [Lib.cell_of_heap hbk]; rfl
  go_wp2_with (at_builtin; refine Lib.wpList_append_own_string _ rfl _ _ 136 9 rfl B 5 i0 Tryz.underlying136 Tryz.underlying9 hi hz0 hz1 hz2 _ _ _ rfl hown s rfl ?c3 ?c4 ?c5 ?_)
  case c3 => unfold maxLen; omega
  case c4 => omega
  case c5 => have := hb1.size; omega
  intro v' w2 hown' hgrow _
  have hb2 : w2.heap[b]? = some (.cells #[.pointer (some ⟨b, 0, none⟩), v] 138 (0, 0)) := by
    rw [hgrow.block b (heap_lt hbk) (fun e => hne e.symm)]
    exact hbk
  have d0 : w2.cell? ⟨b, 0, none⟩ = some (.pointer (some ⟨b, 0, none⟩)) := by rw [Lib.cell_of_heap hb2]; rfl
  have d1 : w2.cell? ⟨b, 1, none⟩ = some v := by rw [Lib.cell_of_heap hb2]; rfl
  have f1 : w2.frozen? ⟨b, 1, none⟩ = false := Lib.frozen_of_heap hb2 1
  obtain ⟨ao, n', cap, rfl⟩ : ∃ ao n' cap, v' = .slice ao n' cap := by
    rcases hown'.2 with ⟨hv, _⟩ | ⟨g, cap, cur, hv, _⟩
    · exact ⟨_, _, _, hv⟩
    · exact ⟨_, _, _, hv⟩
  go_wp2
  go_ret2
  refine ⟨rfl, ?_, ?_⟩
  · exact Lib.BuilderAt.put (T := 138) (e := 5) hB hb2 (bs' := bs ++ Lib.strCells s) (by simpa [Lib.strCells_length] using hown') (by decide)
  · exact (hb1.grown hgrow (by have := hb1.size; omega) (fun k hk => (hown.lt k hk).1)).setCell (p := ⟨b, 1, none⟩) hB _
end Go.Proofs.YtlcmhbkmpkcajaaGreatDoor
namespace Go.Proofs.YtlcmhbkmpkcajaaGreatDoor
theorem bytesD_step {u : Nat} (h : u ≠ 0) : bytesD (D10.limbs u) = bytesD (D10.limbs (u / 10)) ++ [UInt8.ofNat (48 + u % 10)] := by
  rw [D10.limbs_pos h]
  unfold bytesD
  simp
theorem dec_bytes : ∀ u : Nat, u ≠ 0 → Lib.decDigits u = bytesD (D10.limbs u) := by
  intro u
  induction u using Nat.strongRecOn with
  | _ u ih =>
    intro h
    rw [bytesD_step h, Lib.decDigits]
    split
    · rename_i h1
      rw [Nat.div_eq_of_lt h1, D10.limbs_zero, Nat.mod_eq_of_lt h1]
      rfl
    · rename_i h1
      rw [ih (u / 10) (by omega) (by omega)]
def pad (k r : Nat) : List UInt8 := List.replicate (k - (Lib.decDigits r).length) 48 ++ Lib.decDigits r
theorem pad_cat {q : Nat} (hq : q ≠ 0) : ∀ (k r : Nat), r < 10 ^ (k + 1) → bytesD (D10.limbs (q * 10 ^ (k + 1) + r)) = bytesD (D10.limbs q) ++ pad (k + 1) r
  | 0, r, h => by
    have h' : r < 10 := by simpa using h
    have hd : Lib.decDigits r = [UInt8.ofNat (48 + r)] := Lib.decDigits_one h'
    rw [bytesD_step (by omega)]
    unfold pad
    rw [hd, show (q * 10 ^ (0 + 1) + r) / 10 = q by omega, show (q * 10 ^ (0 + 1) + r) % 10 = r by omega]
    rfl
  | k + 1, r, h => by
    have hp : (10 : Nat) ^ (k + 1 + 1) = 10 ^ (k + 1) * 10 := Nat.pow_succ _ _
    have h1 : r / 10 < 10 ^ (k + 1) := by omega
    have hpos : 0 < (10 : Nat) ^ (k + 1) := Nat.pow_pos (by decide)
    have hne : q * 10 ^ (k + 1 + 1) + r ≠ 0 := by
      have : 0 < q * 10 ^ (k + 1 + 1) := Nat.mul_pos (by omega) (Nat.pow_pos (by decide))
      omega
    have e1 : (q * 10 ^ (k + 1 + 1) + r) / 10 = q * 10 ^ (k + 1) + r / 10 := by
      rw [hp, ← Nat.mul_assoc]
      omega
    have e2 : (q * 10 ^ (k + 1 + 1) + r) % 10 = r % 10 := by
      rw [hp, ← Nat.mul_assoc]
      omega
    rw [bytesD_step hne, e1, e2, pad_cat hq k (r / 10) h1, List.append_assoc]
    congr 1
    unfold pad
    by_cases hr : r < 10
    · have hd : Lib.decDigits r = [UInt8.ofNat (48 + r)] := Lib.decDigits_one hr
      have h0 : Lib.decDigits (r / 10) = [48] := by rw [Nat.div_eq_of_lt hr]; exact Lib.decDigits_one (by decide)
      rw [hd, h0, Nat.mod_eq_of_lt hr]
      simp only [List.length_cons, List.length_nil]
      rw [show k + 1 + 1 - (0 + 1) = (k + 1 - (0 + 1)) + 1 by omega, List.replicate_succ']
    · have hd : Lib.decDigits r = Lib.decDigits (r / 10) ++ [UInt8.ofNat (48 + r % 10)] := by
        rw [Lib.decDigits, dif_neg hr]
      rw [hd]
      simp only [List.length_append, List.length_cons, List.length_nil]
      rw [show k + 1 + 1 - ((Lib.decDigits (r / 10)).length + (0 + 1)) = k + 1 - (Lib.decDigits (r / 10)).length by omega, List.append_assoc]
theorem dec_len {k r : Nat} (h : r < 10 ^ (k + 1)) : (Lib.decDigits r).length ≤ k + 1 := by
  rw [Lib.decDigits_length]
  rcases Nat.lt_or_ge (k + 1) (Lib.nDigits r) with h1 | h1
  · exfalso
    have h2 := Lib.nDigits_pos r
    have h3 : ∀ (j u : Nat), u < 10 ^ (j + 1) → Lib.nDigits u ≤ j + 1 := by
      intro j
      induction j with
      | zero => intro u hu; rw [Lib.nDigits_small (by simpa using hu)]; exact Nat.le_refl _
      | succ j ih =>
        intro u hu
        by_cases h : u < 10
        · rw [Lib.nDigits_small h]; omega
        · rw [Lib.nDigits_big h]
          have hp : (10 : Nat) ^ (j + 1 + 1) = 10 ^ (j + 1) * 10 := Nat.pow_succ _ _
          have := ih (u / 10) (by omega)
          omega
    have := h3 k r h
    omega
  · exact h1
theorem pad_len {k r : Nat} (h : r < 10 ^ (k + 1)) : (pad (k + 1) r).length = k + 1 := by
  have := dec_len h
  unfold pad
  rw [List.length_append, List.length_replicate]
  omega
theorem grp_step {M N : Nat} {gs : List (List UInt8)} (h0 : M ≠ 0) (h : bytesD (D10.limbs N) = bytesD (D10.limbs M) ++ gs.reverse.flatten) :
    bytesD (D10.limbs N) = bytesD (D10.limbs (M / 1000000000)) ++ (gs ++ [if M / 1000000000 = 0 then Lib.decDigits (M % 1000000000) else pad 9 (M % 1000000000)]).reverse.flatten := by
  rw [h]
  simp only [List.reverse_append, List.reverse_cons, List.reverse_nil, List.nil_append, List.cons_append, List.flatten_cons]
  rw [← List.append_assoc]
  congr 1
  by_cases hq : M / 1000000000 = 0
  · rw [if_pos hq, hq, D10.limbs_zero]
    have : M % 1000000000 = M := by omega
    rw [this, dec_bytes M h0]
    rfl
  · rw [if_neg hq, ← pad_cat hq 8 (M % 1000000000) (by omega)]
    congr 2
    omega
end Go.Proofs.YtlcmhbkmpkcajaaGreatDoor
namespace Go.Proofs.YtlcmhbkmpkcajaaGreatDoor
open Go.RowKit
theorem ES : ElemTy 37 9 1 16 := ⟨Tryz.underlying37, by kernel_rfl⟩
theorem bytes_cat (c : UInt8) (l : List UInt8) : (⟨#[c]⟩ : ByteArray) ++ ⟨l.toArray⟩ = ⟨(c :: l).toArray⟩ := by
  apply bytes_inj
  simp [ByteArray.toList_eq]
end Go.Proofs.YtlcmhbkmpkcajaaGreatDoor
