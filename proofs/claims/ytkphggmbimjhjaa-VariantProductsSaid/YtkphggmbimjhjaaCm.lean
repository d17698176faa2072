/-
  The model's conflict.
-/
import Derived.Test.YtkphggmbimjhjaaKn
import Derived.Test.YtkphggmbimjhjaaDv
import Derived.Test.YtkphggmbimjhjaaAll
namespace Go.Proofs.Ytkphggmbimjhjaa
open Go.RowKit

set_option maxHeartbeats 1000000 in
theorem none_own (q0 q1 q2 q3 q4 q5 q6 q8 q9 : Value) (a : Option Addr) (n cap : Nat) (w : World) (hlen : n < 1000) :
    Calls Try.prog 18 #[.agg #[q0, q1, q2, q3, q4, q5, q6, .slice a n cap, q8, q9]] w (RetP (fun v w' => w'.ownsRow w.heap.size 4 1 v n ((List.replicate n false).map Value.bool)) w) := by
  have hi : (Try.prog.info? 4).map (fun i => (i.zero, i.size, i.bytes)) = some (some (.bool false), 1, 1) := by kernel_rfl
  obtain ⟨i4, hi4, hz0, hz1, hz2⟩ := info_parts hi
  clear hi
  go_enter Try.func18, Try.ntmps18
  go_wp2_with (at_make; refine wpList_make_full _ rfl (.tmp 5) (.tmp 5) 52 rfl (w.heap.size) 4 i4 (.bool false) 1 Try.underlying52 hi4 hz0 hz1 .i64 .i64 n n n rfl rfl rfl rfl (by rw [hz2]; omega) (by unfold maxLen; omega) (by simp) ?_; intro w1 hown hg)
  go_ret
  refine ⟨_, rfl, ?_, ((below1 w _).grown hg (by simp) (by simp))⟩
  have e : (madeCells (Value.bool false).cells (n * 1)).toList = (List.replicate n false).map Value.bool := by
    simp only [madeCells, Value.cells, Nat.mul_one, List.map_replicate]
    apply List.ext_getElem <;> simp
    intro i hi
    simp [Nat.mod_one]
  rw [e] at hown
  simp only [World.size_alloc] at hown
  exact hown

/-- Which rules are left out, and the numbers of those that stay, when k rules have been looked at. -/
def mcTo (n : Nat) (ch : List Lit1) (rs : List Rule1) : Nat → List Bool × List Int
  | 0 => (List.replicate rs.length false, [])
  | k + 1 => if (allowedL n ((mcTo n ch rs k).1.set k true) rs ch).isEmpty then ((mcTo n ch rs k).1.set k true, (mcTo n ch rs k).2) else (((mcTo n ch rs k).1.set k true).set k false, (mcTo n ch rs k).2 ++ [(k : Int)])
theorem mcTo_len (n : Nat) (ch : List Lit1) (rs : List Rule1) : ∀ k, (mcTo n ch rs k).1.length = rs.length ∧ (mcTo n ch rs k).2.length ≤ k
  | 0 => by simp [mcTo]
  | k + 1 => by
    have ih := mcTo_len n ch rs k
    rw [mcTo]
    split <;> simp [ih.1] <;> omega

/-- The rules that are not left out. -/
def subR : List Bool → List Rule1 → List Rule1
  | o :: os, r :: rs => if o then subR os rs else r :: subR os rs
  | _, _ => []
theorem subR_none : ∀ rs : List Rule1, subR (List.replicate rs.length false) rs = rs
  | [] => rfl
  | r :: rs => by simp [subR, List.replicate_succ, subR_none rs]
theorem mBroken_sub (s : Int) : ∀ (os : List Bool) (rs : List Rule1), decide (mBroken s os rs < 0) = (subR os rs).all fun r => mSat s r.2
  | [], _ => rfl
  | _ :: _, [] => rfl
  | o :: os, r :: rs => by
    have ih := mBroken_sub s os rs
    unfold mBroken at *
    have hge := ixOf_ge (fun x : Bool × Rule1 => !x.1 && !mSat s x.2.2) (os.zip rs)
    rw [List.zip_cons_cons, ixOf]
    cases o <;> cases hs : mSat s r.2
    · simp [subR, hs]
    · simp only [Bool.not_false, hs, Bool.not_true, Bool.and_false, Bool.false_eq_true, if_false, subR, List.all_cons, Bool.true_and]
      rw [← ih]
      split <;> simp <;> omega
    · simp only [Bool.not_true, Bool.false_and, Bool.false_eq_true, if_false, subR, if_true]
      rw [← ih]
      split <;> simp <;> omega
    · simp only [Bool.not_true, Bool.false_and, Bool.false_eq_true, if_false, subR, if_true]
      rw [← ih]
      split <;> simp <;> omega
theorem cBroken_all (c : Int) (rs : List Rule1) : decide (cBroken c rs < 0) = rs.all fun r => cSat c r.2 := by
  unfold cBroken
  induction rs with
  | nil => rfl
  | cons r rs ih =>
    have hge := ixOf_ge (fun r : Rule1 => !cSat c r.2) rs
    rw [ixOf]
    cases hs : cSat c r.2
    · simp [hs]
    · simp only [Bool.not_true, Bool.false_eq_true, if_false, List.all_cons, hs, Bool.true_and]
      rw [← ih]
      split <;> simp <;> omega
theorem subR_mem {os : List Bool} {rs : List Rule1} : ∀ r ∈ subR os rs, r ∈ rs := by
  induction rs generalizing os with
  | nil => intro r hr; cases os <;> simp [subR] at hr
  | cons x rs ih =>
    intro r hr
    cases os with
    | nil => simp [subR] at hr
    | cons o os =>
      rw [subR] at hr
      split at hr
      · exact List.mem_cons_of_mem _ (ih r hr)
      · rcases List.mem_cons.1 hr with rfl | hr
        · simp
        · exact List.mem_cons_of_mem _ (ih r hr)

/-- The model's allowed sets, rules left out, are as many as the program's configurations of the other rules. -/
theorem allowed_sub {n : Nat} (hn : n ≤ 12) {ch : List Lit1} {rs : List Rule1} {os : List Bool} (hch : LitsOk n ch) (hrs : ∀ r ∈ rs, LitsOk n r.2) : allowedL n os rs ch = (okNums n ch (subR os rs)).map (setN n) := by
  unfold allowedL setsL setsTo okNums
  rw [List.filter_map]
  have : (okSet os rs ch ∘ fun i => (rev n (2 ^ n - 1 - i) : Int)) = fun i => cOk ch (subR os rs) (cfgN n i) := by
    funext i
    show okSet os rs ch (setN n i) = _
    unfold okSet cOk
    rw [mHolds_eq n i hn hch, mBroken_sub, cBroken_all]
    congr 1
    rw [Bool.eq_iff_iff, List.all_eq_true, List.all_eq_true]
    exact forall_congr' fun r => forall_congr' fun hr => by rw [mSat_eq n i hn (hrs r (subR_mem r hr))]
  rw [this]; rfl
theorem allowed_sub_empty {n : Nat} (hn : n ≤ 12) {ch : List Lit1} {rs : List Rule1} {os : List Bool} (hch : LitsOk n ch) (hrs : ∀ r ∈ rs, LitsOk n r.2) : (allowedL n os rs ch).isEmpty = (visL n ch (subR os rs)).isEmpty := by
  rw [allowed_sub hn hch hrs, visL_nums]
  cases okNums n ch (subR os rs) <;> rfl

/-- One flag is raised. -/
theorem subR_set {a b : List Bool} {xs ys : List Rule1} {r : Rule1} (h : a.length = xs.length) (o : Bool) : subR (a ++ o :: b) (xs ++ r :: ys) = subR a xs ++ (if o then [] else [r]) ++ subR b ys := by
  induction a generalizing xs with
  | nil =>
    have : xs = [] := List.length_eq_zero_iff.1 (by simpa using h.symm)
    subst this
    cases o <;> simp [subR]
  | cons x a ih =>
    cases xs with
    | nil => simp at h
    | cons y xs =>
      simp only [List.cons_append, subR]
      rw [ih (by simpa using h)]
      cases x <;> simp

theorem mc_confl {n : Nat} (hn : n ≤ 12) {ch : List Lit1} {rs : List Rule1} (hch : LitsOk n ch) (hrs : ∀ r ∈ rs, LitsOk n r.2) : ∀ k, k ≤ rs.length →
    (mcTo n ch rs k).2 = (conflTo n ch rs k).2 ∧ ∃ a, a.length = k ∧ (mcTo n ch rs k).1 = a ++ List.replicate (rs.length - k) false ∧ subR a (rs.take k) = (conflTo n ch rs k).1
  | 0, _ => ⟨rfl, [], rfl, by simp [mcTo], by simp [subR, conflTo]⟩
  | k + 1, hk => by
    obtain ⟨h1, a, h2, h3, h4⟩ := mc_confl hn hch hrs k (by omega)
    obtain ⟨r, hr⟩ : ∃ r, rs[k]? = some r := ⟨rs[k], by simp⟩
    have hrep : List.replicate (rs.length - k) false = false :: List.replicate (rs.length - (k + 1)) false := by
      rw [show rs.length - k = rs.length - (k + 1) + 1 by omega, List.replicate_succ]
    have hsplit : rs = rs.take k ++ r :: rs.drop (k + 1) := by
      have hget : rs[k] = r := by
        have := hr
        rw [List.getElem?_eq_getElem (by omega)] at this
        simpa using this
      rw [← hget, ← List.drop_eq_getElem_cons (by omega), List.take_append_drop]
    have htl : (rs.take k).length = k := by rw [List.length_take]; omega
    have hset : ∀ o, (mcTo n ch rs k).1.set k o = a ++ o :: List.replicate (rs.length - (k + 1)) false := by
      intro o
      rw [h3, hrep, List.set_append_right _ _ (by omega), h2]
      simp
    have hdl : (rs.drop (k + 1)).length = rs.length - (k + 1) := by simp
    have hsub : ∀ o, subR (a ++ o :: List.replicate (rs.length - (k + 1)) false) rs = (conflTo n ch rs k).1 ++ (if o then [] else [r]) ++ rs.drop (k + 1) := by
      intro o
      generalize hm : rs.length - (k + 1) = m at *
      conv => lhs; rw [hsplit]
      rw [subR_set (by rw [h2, htl]), h4, ← hdl, subR_none]
    have hem : (allowedL n ((mcTo n ch rs k).1.set k true) rs ch).isEmpty = (visL n ch ((conflTo n ch rs k).1 ++ rs.drop (k + 1))).isEmpty := by
      rw [allowed_sub_empty hn hch hrs, hset, hsub]
      simp
    have htake : rs.take (k + 1) = rs.take k ++ [r] := by rw [List.take_add_one, hr]; rfl
    rw [mcTo, conflTo_step hr, hem]
    split
    · refine ⟨h1, a ++ [true], by simp [h2], by rw [hset]; simp, ?_⟩
      rw [htake, show [r] = r :: ([] : List Rule1) from rfl, show a ++ [true] = a ++ true :: [] from rfl, subR_set (by rw [h2, htl]), h4]
      simp [subR]
    · refine ⟨by rw [h1], a ++ [false], by simp [h2], ?_, ?_⟩
      · rw [List.set_set, hset]; simp
      · rw [htake, show [r] = r :: ([] : List Rule1) from rfl, show a ++ [false] = a ++ false :: [] from rfl, subR_set (by rw [h2, htl]), h4]
        simp [subR]


theorem blk_set_alloc (w : World) (p : Addr) (v : Value) (o : Obj) : ((w.setCell p v).alloc o).heap[w.heap.size]? = some o := by
  have := heap_alloc_new (w.setCell p v) o
  simpa [World.setCell] using this
theorem own_at {w : World} {B e n g cap : Nat} {xs : List Value} {j : Nat} {v : Value} (h : w.ownsRow B e 1 (.slice (some ⟨g, 0, none⟩) n cap) n xs) (hx : xs[j]? = some v) : w.cell? ⟨g, j, none⟩ = some v := by
  have := h.cells (g := g) (by simp [Value.ownBlock]) j v hx
  rwa [show (⟨g, 0, none⟩ : Addr).add j = ⟨g, j, none⟩ by unfold Addr.add; split <;> simp_all] at this
theorem own_free {w : World} {B e sz n m g cap : Nat} {xs : List Value} (h : w.ownsRow B e sz (.slice (some ⟨g, 0, none⟩) m cap) n xs) (j : Nat) : w.frozen? ⟨g, j, none⟩ = false := by
  rcases h.2 with ⟨hv, _⟩ | ⟨g', cap', cur, hv, _, hh, _⟩
  · cases hv
  · cases hv; exact frozen_of_row w g j cur e hh
theorem own_other {w : World} {B B' e e' s s' n n' m g cap : Nat} {u : Value} {xs xs' : List Value} (h : w.ownsRow B e s u n xs) (h' : w.ownsRow B' e' s' (.slice (some ⟨g, 0, none⟩) m cap) n' xs') (hne : e ≠ e') (j : Nat) (v : Value) : (w.setCell ⟨g, j, none⟩ v).ownsRow B e s u n xs :=
  own_eqb h ((Eqb.refl (w := w) g).set j v) (fun b hb => ⟨(h.lt b hb).2, fun e0 => by
    rcases own_ne h h' hne with h0 | h0
    · rw [h0] at hb; cases hb
    · exact h0 (by rw [hb, e0]; rfl)⟩)
theorem own_kept_e {w w' : World} {B B' e e' s s' n n' : Nat} {u v : Value} {xs xs' : List Value} (h : w.ownsRow B e s v n xs) (h' : w.ownsRow B' e' s' u n' xs') (hne : e ≠ e') (hg : w.grownBy w' u.ownBlock) : w'.ownsRow B e s v n xs := by
  refine h.kept hg ?_
  rcases own_ne h h' hne with h0 | h0
  · exact .inl h0
  · exact .inr (fun e => h0 e)

set_option maxHeartbeats 2000000 in
theorem mconf_any (q1 q2 q3 q4 q5 q6 q7 q8 q9 q10 cv : Value) (opts : List ByteArray) (rs : List Rule1) (gs : List Guard1) (os : List Ov1) (mI : Nat) (ds : List Dim1) (ch : List Lit1) (w : World)
    (hF : Fam w q1 q2 q3 q4 q5 q6 q7 q8 q9 q10 opts rs gs os mI ds) (hn : opts.length ≤ 6) (hC : Lits w cv ch) (hcl : ch.length < 1000) (he : litErr opts.length ch = 0) :
    Calls Try.prog 26 #[.agg #[q1, q2, q3, q4, q5, q6, q7, q8, q9, q10], cv] w (RetP (fun v w' => Ints w' v (mcTo opts.length ch rs rs.length).2) w) := by
  obtain ⟨a7, p7, rfl, -, -⟩ := hF.opt.open
  obtain ⟨a8, p8, rfl, -, x8⟩ := hF.rul.open
  obtain ⟨ac, pc, rfl, -, -⟩ := hC.open
  have hlok : LitsOk 12 ch := (litErr_ok he).le (by omega)
  have hrok := rulesOk_of hF.ok
  have hr48 := hF.ok.rs48
  have hb0 := below1 w (.cells #[q1, q2, q3, q4, q5, q6, .slice a7 opts.length p7, .slice a8 rs.length p8, q9, q10] 41)
  have hBk := Blk.new w #[q1, q2, q3, q4, q5, q6, .slice a7 opts.length p7, .slice a8 rs.length p8, q9, q10] 41
  have H17 := Lib.hid (fun w' ov outs (h : Below w.heap.size w w') (ho : Bools w' ov outs) (hol : outs.length = rs.length) => allowed_any q1 q2 q3 q4 q5 q6 (.slice a7 opts.length p7) (.slice a8 rs.length p8) q9 q10 ov (.slice ac ch.length pc) a7 opts.length p7 rs outs ch w' rfl hn (hF.rul.mono h) ho (hC.mono h) hrok hlok hcl hol (by omega))
  generalize hnl : opts.length = n at *
  generalize hml : rs.length = m at *
  generalize hcl' : ch.length = c at *
  have Hmc := Lib.hid (fun k => mcTo_len n ch rs k)
  have Hml := Lib.hid hml
  have Hb0 := Lib.hid hb0
  have HBk := Lib.hid hBk
  clear hF hC he hlok hrok hnl hml hcl' hb0 hBk
  go_enter Try.func26, Try.ntmps26
  go_wp2_with (go_at_call 18; refine (none_own _ _ _ _ _ _ _ _ _ _ _ _ _ (by omega)).mono ?_; rintro e w1 ⟨ov, rfl, hown, hb1⟩)
  have Hown := Lib.hid hown
  have Hb1 := Lib.hid hb1
  have hwA : (w.alloc (.cells #[q1, q2, q3, q4, q5, q6, .slice a7 n p7, .slice a8 m p8, q9, q10] 41)).heap.size = w.heap.size + 1 := by simp
  clear hown hb1
  generalize w.alloc (.cells #[q1, q2, q3, q4, q5, q6, .slice a7 n p7, .slice a8 m p8, q9, q10] 41) = wA at *
  have HwA := Lib.hid hwA
  clear hwA
  go_loopw [6, 7] (fun u i wr => ∃ j : Nat, j ≤ m ∧ i = .int .i64 j ∧ Below wA.heap.size wA wr ∧ wr.ownsRow wA.heap.size 4 1 ov m ((mcTo n ch rs j).1.map Value.bool) ∧ wr.ownsRow wA.heap.size 3 1 u (mcTo n ch rs j).2.length ((mcTo n ch rs j).2.map (Value.int .i64))) (fun _ i _ => m - (intOf i).toNat)
  case atStart =>
    refine ⟨0, Nat.zero_le _, rfl, Hb1.out, ?_, World.ownsRow_nil _ _ _ _⟩
    have := Hown.out
    rw [← Hml.out] at this ⊢
    exact this
  case round =>
    obtain ⟨j, hj, rfl, hbr, how, hou⟩ := hrel
    have hml1 := (Hmc.out j).1
    have hml2 := (Hmc.out j).2
    have hblt := HBk.out.lt
    obtain ⟨f0, f1, f2, f3, f4, f5, f6, f7, f8, f9, -⟩ := blk10 (HBk.out.below hbr)
    by_cases hlt : j < m
    · obtain ⟨g, cap, rfl, hgm, hgcap⟩ : ∃ g cap, ov = .slice (some ⟨g, 0, none⟩) m cap ∧ m ≤ cap ∧ cap ≤ maxLen := by
        rcases how.2 with ⟨_, h0⟩ | ⟨g, cap, cur, hv, _, _, h1, h2, _⟩
        · omega
        · exact ⟨g, cap, hv, h1, h2⟩
      have hg := how.lt g (by simp [Value.ownBlock])
      obtain ⟨b0, hb0⟩ : ∃ b, (mcTo n ch rs j).1[j]? = some b := ⟨(mcTo n ch rs j).1[j]'(by rw [hml1, Hml.out]; exact hlt), by simp⟩
      have gc : wr.cell? ⟨g, j, none⟩ = some (.bool b0) := by
        have := how.cells (g := g) (by simp [Value.ownBlock]) j (.bool b0) (by rw [List.getElem?_map, hb0]; rfl)
        rwa [show (⟨g, 0, none⟩ : Addr).add j = ⟨g, j, none⟩ by unfold Addr.add; split <;> simp_all] at this
      have gf : wr.frozen? ⟨g, j, none⟩ = false := by
        rcases how.2 with ⟨hv, _⟩ | ⟨g', cap', cur, hv, _, hh, _⟩
        · cases hv
        · cases hv; exact frozen_of_row wr g j cur 4 hh
      have h2 : (wr.setCell ⟨g, j, none⟩ (.bool true)).ownsRow wA.heap.size 4 1 (.slice (some ⟨g, 0, none⟩) m cap) m (((mcTo n ch rs j).1.set j true).map Value.bool) := by
        have := own_setCell how (i := j) (by omega) (.bool true)
        rwa [List.map_set]
      have hbr2 : Below wA.heap.size wA (wr.setCell ⟨g, j, none⟩ (.bool true)) := hbr.setCell (p := ⟨g, j, none⟩) hg.1 _
      have hou2 : (wr.setCell ⟨g, j, none⟩ (.bool true)).ownsRow wA.heap.size 3 1 _ _ _ := own_eqb hou ((Eqb.refl (w := wr) g).set j (.bool true)) (fun b hb => ⟨(hou.lt b hb).2, fun e => by
        rcases own_ne hou how (by decide) with h0 | h0
        · rw [h0] at hb; cases hb
        · exact h0 (by rw [hb, e]; rfl)⟩)
      obtain ⟨t0, t1, t2, t3, t4, t5, t6, t7, t8, t9, -⟩ := blk10 (HBk.out.below hbr2)
      have HC17 := Lib.hid (H17.out (wr.setCell ⟨g, j, none⟩ (.bool true)) _ ((mcTo n ch rs j).1.set j true) (Hb0.out.via hbr2 Hb0.out.size) (Sl.own1 h2) (by rw [List.length_set]; exact hml1.trans Hml.out))
      have Hst := Lib.hid (show mcTo n ch rs (j + 1) = if (allowedL n ((mcTo n ch rs j).1.set j true) rs ch).isEmpty then ((mcTo n ch rs j).1.set j true, (mcTo n ch rs j).2) else (((mcTo n ch rs j).1.set j true).set j false, (mcTo n ch rs j).2 ++ [(j : Int)]) from rfl)
      have H2 := Lib.hid h2
      have Hou2 := Lib.hid hou2
      have Hbr2 := Lib.hid hbr2
      have hj0 : (0 : Int) ≤ (j : Int) := Int.natCast_nonneg _
      have hj1 : (j : Int) < (m : Int) := by omega
      unfold maxLen at hgcap
      have hg1 := hg.1
      have hg2 := hg.2
      have hgw : g ≠ w.heap.size := by have := HwA.out; omega
      have hml3 : (mcTo n ch rs j).2.length < 1000 := by omega
      have Hlj := Lib.hid (show j < (mcTo n ch rs j).1.length by rw [hml1, Hml.out]; exact hlt)
      clear hbr how hou hb0 h2 hbr2 hou2 hg hml1
      cases hE : allowedL n ((mcTo n ch rs j).1.set j true) rs ch with
      | nil =>
        rw [hE] at HC17 Hst
        have HE := Lib.hid hE
        clear hE
        go_wp2_with (go_at_call 17; refine (HC17.out).mono ?_; rintro e w3 ⟨lv, rfl, hl, hb3⟩; obtain ⟨al, cl, rfl, -, -⟩ := hl.open; clear hl)
        go_roundw
        case rel => exact ⟨j + 1, by omega, by go_num, Hbr2.out.via hb3 Hbr2.out.size, by rw [Hst.out]; exact own_below H2.out hb3, by rw [Hst.out]; exact own_below Hou2.out hb3⟩
        case measure => simp [intOf]; omega
      | cons s ss =>
        rw [hE] at HC17 Hst
        clear hE
        go_wp2_with (first
          | (go_at_call 17
             refine (HC17.out).mono ?_
             rintro e w3 ⟨lv, rfl, hl, hb3⟩
             obtain ⟨al, cl, rfl, -, -⟩ := hl.open
             clear hl
             have hbr3 := Hbr2.out.via hb3 Hbr2.out.size
             have h3 := own_below H2.out hb3
             have hou3 := own_below Hou2.out hb3
             have gc3 : w3.cell? ⟨g, j, none⟩ = some (.bool true) := own_at h3 (by rw [List.getElem?_map, List.getElem?_set_self Hlj.out]; rfl)
             have gf3 := own_free h3 j
             have hg3 := (h3.lt g (by simp [Value.ownBlock])).2
             have h4 := own_setCell h3 (i := j) (by omega) (.bool false)
             have hou4 := own_other hou3 h3 (by decide) j (.bool false)
             have hbr4 := hbr3.setCell (p := ⟨g, j, none⟩) hg1 (.bool false)
             have H4 := Lib.hid h4
             have Hou4 := Lib.hid hou4
             have Hbr4 := Lib.hid hbr4
             clear h3 hou3 h4 hou4 hbr3 hbr4 hb3)
          | (at_builtin
             refine wpAppL E50 (by decide) [.int .i64 (j : Int)] rfl _ _ rfl wA.heap.size _ _ _ w3.heap.size rfl rfl (own_below Hou4.out (below1 _ _)) (blk_set_alloc w3 _ _ _) rfl (one1 _ rfl) (by omega) (by decide) (Hbr4.out.alloc Hbr4.out.size _).size ?_
             intro g5 cap5 w5 hown' hg' hat5 hlt5
             have hbw5 := (Hbr4.out.alloc Hbr4.out.size (.cells #[.int .i64 (j : Int)] 3)).grown hg' (Hbr4.out.alloc Hbr4.out.size _).size (fun k hk => (Hou4.out.lt k hk).1)))
        go_roundw
        case rel =>
          refine ⟨j + 1, by omega, by go_num, hbw5, ?_, by rw [Hst.out]; simpa using hown'⟩
          have h6 := own_below H4.out (below1 _ (.cells #[.int .i64 (j : Int)] 3))
          have h7 := own_kept_e h6 (own_below Hou4.out (below1 _ (.cells #[.int .i64 (j : Int)] 3))) (by decide) hg'
          rw [Hst.out]
          simpa [List.map_set] using h7
        case measure => simp [intOf]; omega
    · obtain rfl : j = m := by omega
      have Hu := Lib.hid (Sl.own1 hou)
      have Hbr := Lib.hid hbr
      clear how hou hbr
      go_wp2
      go_ret
      exact ⟨_, rfl, Hu.out, Hb0.out.via Hbr.out Hb0.out.size⟩

end Go.Proofs.Ytkphggmbimjhjaa
