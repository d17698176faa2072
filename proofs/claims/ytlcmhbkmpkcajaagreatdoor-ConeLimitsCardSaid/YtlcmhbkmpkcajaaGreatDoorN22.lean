/-
  Parts of the proof: Qb, Qk, Qrp.
-/
import Derived.Test.YtlcmhbkmpkcajaaGreatDoorN21
namespace Go.Proofs.YtlcmhbkmpkcajaaGreatDoor
open Go.RowKit
theorem EVs : ElemTy 42 46 1 24 := ⟨Tryz.underlying42, by kernel_rfl⟩
theorem own_keep {ok : TypeId → Prop} {w w' : World} {B e sz n : Nat} {v : Value} {xs : List Value} (h : w.ownsRow B e sz v n xs) (hk : Keep ok w w') (ho : ok e) : w'.ownsRow B e sz v n xs := by
  refine ⟨h.1, ?_⟩
  rcases h.2 with hn | ⟨g, cap, cur, hv, hg, hb, rest⟩
  · exact .inl hn
  · exact .inr ⟨g, cap, cur, hv, hg, hk.blk _ _ _ ho hb, rest⟩
theorem OV.keep {ok : TypeId → Prop} {M : Nat} {w w' : World} {v : Value} {vs : List (List Rat)} (h : OV M w v vs) (hk : Keep ok w w') (h1 : ok 110) (h2 : ok 61) (h3 : ok 46) : OV M w' v vs := by
  obtain ⟨ps, hl, ho, hq⟩ := h
  exact ⟨ps, hl, own_keep ho hk h3, fun k p a hp hv => (hq k p a hp hv).keep hk h1 h2⟩
theorem OV.open {M : Nat} {w : World} {v : Value} {vs : List (List Rat)} (h : OV M w v vs) : ∃ a cap, v = .slice a vs.length cap ∧ vs.length ≤ cap ∧ cap ≤ maxLen := h.vs.open
theorem OV.snoc2 {M : Nat} {w w' : World} {u v p : Value} {vs : List (List Rat)} {a : List Rat} {ps : List Value} (hl : ps.length = vs.length) (hq : ∀ (k : Nat) (p : Value) (a : List Rat), ps[k]? = some p → vs[k]? = some a → QV w p a) (ho : w.ownsRow M 46 1 u vs.length ps) (hp : QV w p a) (hg : w.grownBy w' u.ownBlock) (ho' : w'.ownsRow M 46 1 v (vs.length + 1) (ps ++ [p])) : OV M w' v (vs ++ [a]) := by
  have hk : Keep (fun T => T ≠ 46) w w' := .grown ho (fun h => h rfl) hg
  refine ⟨ps ++ [p], by simp [hl], by rw [List.length_append]; exact ho', fun k q b hq1 hv => ?_⟩
  rcases Nat.lt_trichotomy k ps.length with hlt | rfl | hgt
  · rw [List.getElem?_append_left hlt] at hq1
    rw [List.getElem?_append_left (by omega)] at hv
    exact (hq k q b hq1 hv).keep hk (by decide) (by decide)
  · rw [List.getElem?_append_right (Nat.le_refl _), Nat.sub_self] at hq1
    rw [List.getElem?_append_right (by omega), hl, Nat.sub_self] at hv
    cases hq1
    cases hv
    exact hp.keep hk (by decide) (by decide)
  · have := lt_of_get hq1
    simp at this
    omega
def OR (M : Nat) (w : World) (v : Value) (rs : List (List Rat × Nat)) : Prop := ∃ ps : List Value, ps.length = rs.length ∧ w.ownsRow M 89 17 v rs.length (List.zipWith (fun p r => rayC p r.2) ps rs).flatten ∧ ∀ (k : Nat) (p : Value) (r : List Rat × Nat), ps[k]? = some p → rs[k]? = some r → QV w p r.1
theorem OR.ry {M : Nat} {w : World} {v : Value} {rs : List (List Rat × Nat)} (h : OR M w v rs) : Ry w v rs := by
  obtain ⟨ps, hl, ho, hq⟩ := h
  refine ⟨ps, hl, Sl.own ho (fun r hr => ?_) (by decide), AT.own ho, hq⟩
  obtain ⟨i, hi⟩ := List.getElem?_of_mem hr
  rw [List.getElem?_zipWith] at hi
  cases hp : ps[i]? with
  | none => simp [hp] at hi
  | some p =>
    cases hx : rs[i]? with
    | none => simp [hp, hx] at hi
    | some x =>
      simp [hp, hx] at hi
      subst hi
      rfl
theorem OR.nil (M : Nat) (w : World) : OR M w (.slice none 0 0) [] := ⟨[], rfl, World.ownsRow_nil _ _ _ _, fun k p a hp => by simp at hp⟩
theorem OR.keep {ok : TypeId → Prop} {M : Nat} {w w' : World} {v : Value} {rs : List (List Rat × Nat)} (h : OR M w v rs) (hk : Keep ok w w') (h1 : ok 110) (h2 : ok 61) (h3 : ok 89) : OR M w' v rs := by
  obtain ⟨ps, hl, ho, hq⟩ := h
  exact ⟨ps, hl, own_keep ho hk h3, fun k p r hp hr => (hq k p r hp hr).keep hk h1 h2⟩
def BS (M : Nat) (w : World) (B : Nat) (st : Bld) : Prop := M ≤ B ∧ ∃ vl vr, Blk w B #[vl, vr, .int .i64 (st.count : Int)] 80 ∧ OV M w vl st.lines ∧ OR M w vr st.rays
theorem unit_get (n k : Nat) (hk : k < n) : (List.replicate n (0 : Rat))[k]? = some 0 := by rw [List.getElem?_replicate, if_pos hk]
theorem range_snoc (n k : Nat) : (List.range (k + 1)).map (unitV n) = (List.range k).map (unitV n) ++ [unitV n k] := by rw [List.range_succ, List.map_append]; rfl
set_option maxHeartbeats 8000000 in
set_option maxRecDepth 10000 in
theorem start_g (n : Nat) (w : World) (hn : n ≤ 8) : Calls Tryz.prog 28 #[.int .i64 (n : Int)] w (fun e w' => ∃ B, e = .returned (.pointer (some ⟨B, 0, none⟩)) ∧ BS w.heap.size w' B (startB n) ∧ Below w.heap.size w w') := by
  have HF := hI (fun w' => show Calls Tryz.prog 39 #[.int .i64 1] w' (RetP (fun v w' => RQ w' v 1) w') from (rfrom_any 1 w' (by omega) (by omega)).mono fun e w2 ⟨v, he, hv, hb⟩ => ⟨v, he, ⟨0, hv, rfl⟩, hb⟩)
  obtain ⟨i4, hi4, hz0, hz1, hz2⟩ := info_rat
  go_enter Tryz.func28, Tryz.ntmps28
  go_wp2_with fail
  go_loopw [9] (fun i wr => ∃ k : Nat, k ≤ n ∧ i = .int .i64 (k : Int) ∧ Hid (∃ vl, Below w.heap.size w wr ∧ Blk wr w.heap.size #[vl, .slice none 0 0, .int .i64 0] 80 ∧ OV (w.heap.size + 1) wr vl ((List.range k).map (unitV n)))) (fun i _ => n - (intOf i).toNat)
  case atStart => exact ⟨0, by omega, rfl, ⟨_, below1 _ _, Blk.new _ _ _, OV.nil _ _⟩⟩
  case round =>
    obtain ⟨k, hk, rfl, hP⟩ := hrel
    obtain ⟨vl, hbx, hB, hV⟩ := hP.out
    clear hP
    have Hbx := hI hbx
    have HB := hI hB
    have HV := hI hV
    have HBlt := hI hB.lt
    obtain ⟨la, lc, rfl, hl1, hl2⟩ := hV.open
    rw [List.length_map, List.length_range] at *
    unfold maxLen at hl2
    clear hbx hB hV
    rcases Nat.lt_or_ge k n with hlt | hge
    · have hkn : (k : Int) < (n : Int) := by omega
      have hk0 : (0 : Int) ≤ (k : Int) := Int.natCast_nonneg _
      have hkw : IntKind.i64.wrap ((k : Int) + 1) = (k : Int) + 1 := IntWalk.i64_in _ (by omega)
      go_wp2_with (first
        | (at_make; go_loud (refine wpList_make_full _ rfl _ _ 46 rfl wr.heap.size 61 i4 (.agg #[.bool false, .slice none 0 0, .bool false, .slice none 0 0]) 4 Tryz.underlying46 hi4 hz0 hz1 .i64 .i64 _ _ n rfl rfl (by omega) (by omega) (by rw [hz2]; omega) (by unfold maxLen; omega) (by simp) ?_; intro wm hown hg; have Hvb := hI (VB.made hown).1; have Hbm := hI ((Below.refl wr.heap.size wr).grown hg (Nat.le_refl _) (fun b hb => by cases hb)); clear hown hg))
        | (go_at_call 39; refine (HF.out _).mono ?_; rintro e w2 ⟨v2, rfl, hv, hb2⟩; obtain ⟨x5, a5, n5, c5, x6, a6, n6, c6, rfl, hv⟩ := hv.open; have Hb2 := hI (bw_via Hbm.out hb2); have hV2 := Hvb.out.below hb2; obtain ⟨_, _, _, _, _, _, _, _, -, ⟨p0, p1, p2, p3⟩, f0, f1, f2, f3⟩ := hV2.at (unit_get n k hlt); have HVs := hI (hV2.set (by rw [List.length_replicate]; exact hlt) hv); have HbS := hI (vb_put_below (g := wr.heap.size) (k := k) Hb2.out (Nat.le_refl _) (.bool x5) (.slice a5 n5 c5) (.bool x6) (.slice a6 n6 c6)); obtain ⟨⟨B0, B1, B2⟩, -⟩ := blk3c (HB.out.below HbS.out); have HBn := hI (show Blk (((((w2.setCell ⟨wr.heap.size, k * 4, none⟩ (.bool x5)).setCell ⟨wr.heap.size, k * 4 + 1, none⟩ (.slice a5 n5 c5)).setCell ⟨wr.heap.size, k * 4 + 2, none⟩ (.bool x6)).setCell ⟨wr.heap.size, k * 4 + 3, none⟩ (.slice a6 n6 c6)).alloc (.cells #[(.slice (some ⟨wr.heap.size, 0, none⟩) n n)] 46)) w2.heap.size #[(.slice (some ⟨wr.heap.size, 0, none⟩) n n)] 46 from by have h := Blk.new ((((w2.setCell ⟨wr.heap.size, k * 4, none⟩ (.bool x5)).setCell ⟨wr.heap.size, k * 4 + 1, none⟩ (.slice a5 n5 c5)).setCell ⟨wr.heap.size, k * 4 + 2, none⟩ (.bool x6)).setCell ⟨wr.heap.size, k * 4 + 3, none⟩ (.slice a6 n6 c6)) #[(.slice (some ⟨wr.heap.size, 0, none⟩) n n)] 46; simpa using h); have Hb3 := hI (show Below wr.heap.size wr (((((w2.setCell ⟨wr.heap.size, k * 4, none⟩ (.bool x5)).setCell ⟨wr.heap.size, k * 4 + 1, none⟩ (.slice a5 n5 c5)).setCell ⟨wr.heap.size, k * 4 + 2, none⟩ (.bool x6)).setCell ⟨wr.heap.size, k * 4 + 3, none⟩ (.slice a6 n6 c6)).alloc (.cells #[(.slice (some ⟨wr.heap.size, 0, none⟩) n n)] 46)) from bwA HbS.out _); have HQ3 := hI (show QV (((((w2.setCell ⟨wr.heap.size, k * 4, none⟩ (.bool x5)).setCell ⟨wr.heap.size, k * 4 + 1, none⟩ (.slice a5 n5 c5)).setCell ⟨wr.heap.size, k * 4 + 2, none⟩ (.bool x6)).setCell ⟨wr.heap.size, k * 4 + 3, none⟩ (.slice a6 n6 c6)).alloc (.cells #[(.slice (some ⟨wr.heap.size, 0, none⟩) n n)] 46)) (.slice (some ⟨wr.heap.size, 0, none⟩) n n) (unitV n k) from (HVs.out.below (below1 _ _)).qv (by rw [List.length_set, List.length_replicate]) (by unfold maxLen; omega)); clear hV2 hv hb2)
        | (at_builtin; obtain ⟨ps, hpl, hpo, hpq⟩ := HV.out.below Hb3.out; have hpo2 := hpo; rw [List.length_map, List.length_range] at hpo2; refine wpAppL EVs (by decide) [(.slice (some ⟨wr.heap.size, 0, none⟩) n n)] rfl _ _ rfl (w.heap.size + 1) k _ ps _ rfl rfl hpo2 HBn.out rfl (one1 _ rfl) (by omega) (by decide) (Nat.le_trans (Nat.succ_le_of_lt HBlt.out) Hb3.out.size) ?_; intro g4 cap4 w4 hown' hg' _ _; have HV4 := hI (OV.snoc2 hpl hpq hpo HQ3.out hg' (by rw [List.length_map, List.length_range]; exact hown')); have HB4 := hI ((Keep.grown (ok := fun T => T ≠ 46) hpo (fun k => k rfl) hg').blk _ _ _ (by decide) (HB.out.below Hb3.out)); have Hb4 := hI (Below.grown (Hbx.out.via Hb3.out Hbx.out.size) hg' (Hbx.out.via Hb3.out Hbx.out.size).size (fun q hq => Nat.le_trans (Nat.le_succ _) (hpo.lt q hq).1)); obtain ⟨⟨B0, B1, B2⟩, F0, F1, F2⟩ := blk3c HB4.out; clear hpl hpo hpq hpo2 hown' hg'))
      go_roundw
      case rel => exact ⟨k + 1, by omega, by go_num, ⟨_, Hb4.out.setCell (p := ⟨w.heap.size, 0, none⟩) (Nat.le_refl _) _, HB4.out.set 0 _, by rw [range_snoc]; exact HV4.out.keep (Keep.set (ok := fun T => T ≠ 80) HB4.out (fun k => k rfl) 0 _) (by decide) (by decide) (by decide)⟩⟩
      case measure => simp [intOf] <;> omega
    · obtain rfl : k = n := by omega
      have hkn : ¬ (k : Int) < (k : Int) := by omega
      go_wp2_with fail
      go_ret
      exact ⟨_, rfl, ⟨Nat.le_refl _, _, _, HB.out, ⟨HV.out.choose, HV.out.choose_spec.1, own_base HV.out.choose_spec.2.1 (Nat.le_succ _), HV.out.choose_spec.2.2⟩, OR.nil _ _⟩, Hbx.out⟩
end Go.Proofs.YtlcmhbkmpkcajaaGreatDoor
namespace Go.Proofs.YtlcmhbkmpkcajaaGreatDoor
open Go.RowKit
theorem own_zeroS (w : World) (T : TypeId) (sz : Nat) : (w.alloc (.cells #[] T)).ownsRow w.heap.size T sz (.slice (some ⟨w.heap.size, 0, none⟩) 0 0) 0 [] :=
  ⟨by simp, .inr ⟨w.heap.size, 0, #[], rfl, Nat.le_refl _, heap_alloc_new w _, Nat.le_refl _, Nat.zero_le _, by simp, by simp⟩⟩
theorem Sl.none0 {w : World} {sz n c : Nat} {rows : List (List Value)} (h : Sl w sz (.slice none n c) rows) : n = 0 ∧ c = 0 ∧ rows = [] := by
  obtain ⟨a, cap, hv, hc, hm, h⟩ := h
  cases hv
  rcases h with h0 | ⟨b, off, hb, -⟩
  · have : rows.length = 0 := by omega
    exact ⟨by omega, h0, List.length_eq_zero_iff.1 this⟩
  · cases hb
theorem wpAppS {t e size bytes : Nat} (E : ElemTy t e size bytes) (hsz : 0 < size) {ops : Array Oper} {rest : List Oper} {o : Oper} {a : Act} {Q : Exit → Act → World → Prop} {W : World} (hgd : o.guard = none) (s x : Operand)
    (ho : o.op = .call { callee := .builtin .append, args := #[s, x], argTypes := #[t, t] }) (B n : Nat) (v : Value) (xs : List Value) (ad : Option Addr) (m c : Nat) (rows : List (List Value)) (hs : a.eval s = v) (hx : a.eval x = .slice ad m c)
    (hown : W.ownsRow B e size v n xs) (hS : Sl W size (.slice ad m c) rows) (hl : ∀ r ∈ rows, r.length = size) (h1 : ∀ r ∈ rows, ∀ u ∈ r, u.oneCell' = true) (hn : n + m ≤ 1000000) (hb : bytes ≤ 1000) (hB : B ≤ W.heap.size)
    (h : ∀ v' w', w'.ownsRow B e size v' (n + m) (xs ++ rows.flatten) → W.grownBy w' v.ownBlock → wpList Tryz.prog ops Q rest (a.put o.dst v') w') : wpList Tryz.prog ops Q (o :: rest) a W := by
  have hi := E.info
  simp only [Option.map_eq_some_iff, Prod.mk.injEq] at hi
  obtain ⟨i, hi, ⟨z, hz, hzs⟩, hsize, hby⟩ := hi
  have hm : rows.length = m := by
    obtain ⟨_, _, hv, _⟩ := hS.open
    cases hv
    rfl
  cases ad with
  | none =>
    obtain ⟨rfl, rfl, rfl⟩ := hS.none0
    have hr := run_append_owned_none (P := Tryz.prog) W B t o.type e i size E.und hi v n xs hown
    refine wpList_plain hgd fun _ hK => ?_
    unfold Oper.wp execOp
    simp only [ho, resolve, invoke, builtin, Sem.run_bind, Sem.run_pure, Result.andThen_ok, List.map_toArray, List.map_cons, List.map_nil, hs, hx, hr]
    exact hK _ _ (h _ _ (by simpa using hown) ⟨rfl, rfl, rfl, Nat.le_refl _, fun _ _ _ => rfl⟩)
  | some p =>
    obtain ⟨b, off, x0⟩ := p
    have hpx : x0 = none ∨ rows = [] := by
      obtain ⟨a', cap', hv, hc, hm', hh⟩ := hS
      cases hv
      rcases hh with h0 | ⟨b', off', he, -⟩
      · exact .inr (List.length_eq_zero_iff.1 (by omega))
      · cases he
        exact .inl rfl
    have hnews : ∀ j u, rows.flatten[j]? = some u → W.cell? ((⟨b, off, x0⟩ : Addr).add j) = some u := by
      rcases hpx with rfl | rfl
      · exact Sl.flat hS hl hsz
      · intro j u hu
        simp at hu
    have hbb : (n + m) * bytes ≤ 140737488355328 := Nat.le_trans (Nat.mul_le_mul hn hb) (by decide)
    refine wpList_append_own _ hgd s x t ho B e i z size bytes E.und hi hz hsize hby hzs hsz v n xs hs hown ⟨b, off, x0⟩ m c rows.flatten hx (by rw [flat_len hl, hm]) hnews ?_ (by unfold maxLen; omega) hbb hB (fun v' w' a1 a2 _ => h v' w' a1 a2)
    intro u hu
    obtain ⟨r, hr, hur⟩ := List.mem_flatten.1 hu
    exact h1 r hr u hur
theorem EV1 : ElemTy 46 61 4 64 := ⟨Tryz.underlying46, by kernel_rfl⟩
theorem EM1 : ElemTy 94 46 1 24 := ⟨Tryz.underlying94, by kernel_rfl⟩
theorem rq_row {w : World} {row : List Value} {r : Rat} (h : RQ w (.agg row.toArray) r) : row.length = 4 ∧ ∀ u ∈ row, u.oneCell' = true := by
  obtain ⟨x, a, n, c, y, e, m, k, hv, -⟩ := h.open
  have hr : row = [.bool x, .slice a n c, .bool y, .slice e m k] := by
    have h2 : row.toArray = #[.bool x, .slice a n c, .bool y, .slice e m k] := by
      have := hv
      simp only [Value.agg.injEq] at this
      exact this
    have h3 := congrArg Array.toList h2
    simpa using h3
  subst hr
  exact ⟨rfl, fun u hu => by simp at hu; rcases hu with rfl | rfl | rfl | rfl <;> rfl⟩
set_option maxHeartbeats 2000000 in
set_option maxRecDepth 10000 in
theorem cloneq_g (v : Value) (a : List Rat) (w : World) (h : QV w v a) (hn : a.length ≤ 1000) : Calls Tryz.prog 84 #[v] w (RetP (fun x w' => QV w' x a) w) := by
  obtain ⟨ad, cap, rfl, -, -⟩ := h.open
  obtain ⟨rows, hl, hS, hA, hq⟩ := h
  have hrow : ∀ r ∈ rows, r.length = 4 ∧ ∀ u ∈ r, u.oneCell' = true := fun r hr => by
    obtain ⟨i, hi, rfl⟩ := List.mem_iff_getElem.1 hr
    exact rq_row (hq i _ _ (List.getElem?_eq_getElem hi) (List.getElem?_eq_getElem (by omega)))
  have qT : ∀ (w : World) (a : Option Addr) (n c n' c' : Nat), (binOp .eql 46 (.slice a n c) (.slice none n' c')).run Tryz.prog w = .ok (.bool a.isNone) w := fun w a n c n' c' => Lib.run_eql_slice_nil w _ _ a n c n' c' Tryz.underlying46
  cases ad with
  | none =>
    obtain ⟨h0, -, rfl⟩ := hS.none0
    have ha : a = [] := List.length_eq_zero_iff.1 h0
    subst ha
    have HB := hI (Below.refl w.heap.size w)
    clear hS hA hq hrow hl hn h0
    go_enter Tryz.func84, Tryz.ntmps84
    go_wp2_with fail
    go_ret
    exact ⟨_, rfl, ⟨[], rfl, Sl.nil _ _, AT.nil _ _ _ _, fun k row r hr => by simp at hr⟩, HB.out⟩
  | some p =>
    have HO := hI (own_zeroS w 61 4)
    have HB := hI (below1 w (.cells #[] 61))
    have HS := hI (hS.mono HB.out)
    have Hrow := hI hrow
    have Hq := hI (fun k row r hr hs => (hq k row r hr hs).mono HB.out)
    have Hl := hI hl
    obtain ⟨n, hnm⟩ : ∃ n, a.length = n := ⟨_, rfl⟩
    rw [hnm] at hn HS Hl ⊢
    have Hnm := hI hnm
    clear hS hA hq hrow hl hnm
    go_enter Tryz.func84, Tryz.ntmps84
    go_wp2_with (at_builtin; refine wpAppS EV1 (by decide) rfl _ _ rfl w.heap.size 0 _ [] _ _ _ rows rfl rfl HO.out HS.out (fun r hr => (Hrow.out r hr).1) (fun r hr => (Hrow.out r hr).2) (by omega) (by decide) (by simp) ?_; intro v' w5 hown' hg'; have Hb5 := hI (below_own HB.out HO.out (Nat.le_refl _) (by simp) hg'); have Hown5 := hI hown'; have Hk5 := hI (Keep.grown (ok := fun T => T ≠ 61) HO.out (fun k => k rfl) hg'); obtain ⟨a5, c5, rfl, -, -⟩ := own_open hown'; clear hown' hg')
    go_ret
    rw [List.nil_append, Nat.zero_add] at Hown5
    exact ⟨_, rfl, ⟨rows, by rw [Hl.out, Hnm.out], Sl.own Hown5.out (fun r hr => (Hrow.out r hr).1) (by decide), AT.own Hown5.out, fun k row r hr hs => (Hq.out k row r hr hs).keep Hk5.out (by decide)⟩, Hb5.out⟩
theorem QV.lt {w : World} {p : Value} {a : List Rat} (h : QV w p a) : ∀ b, p.ownBlock = some b → b < w.heap.size := by
  intro b hb
  obtain ⟨x, cap, rfl, -, -⟩ := h.open
  obtain ⟨rows, hl, hS, hA, hq⟩ := h
  cases x with
  | none => cases hb
  | some q =>
    cases hb
    obtain ⟨cs, hB⟩ := hA q _ _ rfl
    exact hB.lt
def VsL (L : Nat) (w : World) (v : Value) (vs : List (List Rat)) : Prop := ∃ ps : List Value, ps.length = vs.length ∧ Sl w 1 v (ps.map c1) ∧ AT w 46 v ∧ ∀ (k : Nat) (p : Value) (a : List Rat), ps[k]? = some p → vs[k]? = some a → QV w p a ∧ ∀ b, p.ownBlock = some b → b < L
def OVL (L M : Nat) (w : World) (v : Value) (vs : List (List Rat)) : Prop := ∃ ps : List Value, ps.length = vs.length ∧ w.ownsRow M 46 1 v vs.length ps ∧ ∀ (k : Nat) (p : Value) (a : List Rat), ps[k]? = some p → vs[k]? = some a → QV w p a ∧ ∀ b, p.ownBlock = some b → b < L
theorem VsL.vs {L : Nat} {w : World} {v : Value} {vs : List (List Rat)} (h : VsL L w v vs) : Vs w v vs := by
  obtain ⟨ps, hl, hS, hA, hq⟩ := h
  exact ⟨ps, hl, hS, hA, fun k p a h1 h2 => (hq k p a h1 h2).1⟩
theorem Vs.vsl {w : World} {v : Value} {vs : List (List Rat)} (h : Vs w v vs) : VsL w.heap.size w v vs := by
  obtain ⟨ps, hl, hS, hA, hq⟩ := h
  exact ⟨ps, hl, hS, hA, fun k p a h1 h2 => ⟨hq k p a h1 h2, (hq k p a h1 h2).lt⟩⟩
theorem VsL.mono {L : Nat} {w w' : World} {v : Value} {vs : List (List Rat)} (h : VsL L w v vs) (hb : Below w.heap.size w w') : VsL L w' v vs := by
  obtain ⟨ps, hl, hS, hA, hq⟩ := h
  exact ⟨ps, hl, hS.mono hb, hA.keep (ok := fun _ => True) (.below hb) trivial, fun k p a h1 h2 => ⟨(hq k p a h1 h2).1.mono hb, (hq k p a h1 h2).2⟩⟩
theorem OVL.ov {L M : Nat} {w : World} {v : Value} {vs : List (List Rat)} (h : OVL L M w v vs) : OV M w v vs := by
  obtain ⟨ps, hl, ho, hq⟩ := h
  exact ⟨ps, hl, ho, fun k p a h1 h2 => (hq k p a h1 h2).1⟩
theorem OVL.below {L M : Nat} {w w' : World} {v : Value} {vs : List (List Rat)} (h : OVL L M w v vs) (hb : Below w.heap.size w w') : OVL L M w' v vs := by
  obtain ⟨ps, hl, ho, hq⟩ := h
  exact ⟨ps, hl, own_below ho hb, fun k p a h1 h2 => ⟨(hq k p a h1 h2).1.mono hb, (hq k p a h1 h2).2⟩⟩
set_option maxHeartbeats 2000000 in
set_option maxRecDepth 10000 in
theorem clonem_g (v : Value) (m : List (List Rat)) (L : Nat) (w : World) (h : VsL L w v m) (hn : m.length ≤ 1000) : Calls Tryz.prog 118 #[v] w (RetP (fun x w' => OVL L w.heap.size w' x m) w) := by
  obtain ⟨ad, cap, rfl, -, -⟩ := h.vs.open
  obtain ⟨ps, hl, hS, hA, hqL⟩ := h
  have hq := fun k p a h1 h2 => (hqL k p a h1 h2).1
  have HqL := hI (fun k p a h1 h2 => (hqL k p a h1 h2).2)
  have hrow : ∀ r ∈ ps.map c1, r.length = 1 ∧ ∀ u ∈ r, u.oneCell' = true := fun r hr => by
    obtain ⟨u, hu, rfl⟩ := List.mem_map.1 hr
    obtain ⟨i, hi, rfl⟩ := List.mem_iff_getElem.1 hu
    obtain ⟨a, c, hv, -, -⟩ := (hq i _ _ (List.getElem?_eq_getElem hi) (List.getElem?_eq_getElem (by omega))).open
    refine ⟨rfl, fun x hx => ?_⟩
    obtain rfl : x = ps[i] := by simpa [c1] using hx
    rw [hv]
    rfl
  have qT : ∀ (w : World) (a : Option Addr) (n c n' c' : Nat), (binOp .eql 94 (.slice a n c) (.slice none n' c')).run Tryz.prog w = .ok (.bool a.isNone) w := fun w a n c n' c' => Lib.run_eql_slice_nil w _ _ a n c n' c' Tryz.underlying94
  cases ad with
  | none =>
    obtain ⟨h0, -, -⟩ := hS.none0
    have ha : m = [] := List.length_eq_zero_iff.1 h0
    subst ha
    have HB := hI (Below.refl w.heap.size w)
    clear hS hA hq hrow hl hn h0
    go_enter Tryz.func118, Tryz.ntmps118
    go_wp2_with fail
    go_ret
    exact ⟨_, rfl, ⟨[], rfl, World.ownsRow_nil _ _ _ _, fun k p a hp => by simp at hp⟩, HB.out⟩
  | some p =>
    have HO := hI (own_zeroS w 46 1)
    have HB := hI (below1 w (.cells #[] 46))
    have HS := hI (hS.mono HB.out)
    have Hrow := hI hrow
    have Hq := hI (fun k p a hr hs => (hq k p a hr hs).mono HB.out)
    have Hl := hI hl
    obtain ⟨n, hnm⟩ : ∃ n, m.length = n := ⟨_, rfl⟩
    rw [hnm] at hn HS ⊢
    have Hnm := hI hnm
    clear hS hA hq hrow hl hnm
    go_enter Tryz.func118, Tryz.ntmps118
    go_wp2_with (at_builtin; refine wpAppS EM1 (by decide) rfl _ _ rfl w.heap.size 0 _ [] _ _ _ (ps.map c1) rfl rfl HO.out HS.out (fun r hr => (Hrow.out r hr).1) (fun r hr => (Hrow.out r hr).2) (by omega) (by decide) (by simp) ?_; intro v' w5 hown' hg'; have Hb5 := hI (below_own HB.out HO.out (Nat.le_refl _) (by simp) hg'); have Hown5 := hI hown'; have Hk5 := hI (Keep.grown (ok := fun T => T ≠ 46) HO.out (fun k => k rfl) hg'); obtain ⟨a5, c5, rfl, -, -⟩ := own_open hown'; clear hown' hg')
    go_ret
    rw [List.nil_append, flat_c1, Nat.zero_add] at Hown5
    exact ⟨_, rfl, ⟨ps, Hl.out, by rw [Hnm.out]; exact Hown5.out, fun k p a hr hs => ⟨(Hq.out k p a hr hs).keep Hk5.out (by decide) (by decide), HqL.out k p a hr hs⟩⟩, Hb5.out⟩
set_option maxHeartbeats 2000000 in
set_option maxRecDepth 10000 in
theorem size_g (v : Value) (m : List (List Rat)) (d : Nat) (w : World) (h : Vs w v m) (hl : ∀ a ∈ m, a.length = d) (hn : m.length ≤ 256) (hd : d ≤ 96) : Calls Tryz.prog 81 #[v] w (Ret (.int .i64 0) w) := by
  obtain ⟨ad, cap, rfl, -, -⟩ := h.open
  obtain ⟨n, hnm⟩ : ∃ n, m.length = n := ⟨_, rfl⟩
  rw [hnm] at hn h ⊢
  have HX := hI h
  have HL := hI (fun (k : Nat) (x : List Rat) (hx : m[k]? = some x) => hl x (List.mem_of_getElem? hx))
  have hnn : ¬ (256 : Int) < (n : Int) := by omega
  have hdd : ¬ (96 : Int) < (d : Int) := by omega
  clear h hl hnm
  go_enter Tryz.func81, Tryz.ntmps81
  go_wp2_with fail
  go_loopw [10] (fun i wr => ∃ k : Nat, k ≤ n ∧ i = .int .i64 (k : Int) ∧ Below w.heap.size w wr) (fun i _ => n - (intOf i).toNat)
  case atStart => exact ⟨0, Nat.zero_le _, rfl, Below.refl _ _⟩
  case round =>
    obtain ⟨k, hk, rfl, hbw⟩ := hrel
    rcases Nat.lt_or_ge k n with hlt | hge
    · obtain ⟨b, off, p, x, rfl, hx, c0, hq⟩ := HX.out.at hbw hlt
      obtain ⟨b', off', p', x', hbe, hx', c0', hq'⟩ := HX.out.at hbw (k := 0) (by omega)
      cases hbe
      obtain ⟨a1, n1, rfl, -, -⟩ := hq.open
      obtain ⟨a2, n2, rfl, -, -⟩ := hq'.open
      rw [HL.out _ _ hx] at c0
      rw [HL.out _ _ hx'] at c0'
      rw [Nat.add_zero] at c0'
      have hkn : (k : Int) < (n : Int) := by omega
      have hk0 : (0 : Int) ≤ (k : Int) := Int.natCast_nonneg _
      have hn0 : (0 : Int) < (n : Int) := by omega
      have hkw : IntKind.i64.wrap ((k : Int) + 1) = (k : Int) + 1 := IntWalk.i64_in _ (by omega)
      have Hbw := hI hbw
      clear hx hx' hq hq' hbw
      go_wp2_with fail
      go_roundw
      case rel => exact ⟨k + 1, by omega, by go_num, Hbw.out⟩
      case measure => simp [intOf] <;> omega
    · obtain rfl : k = n := by omega
      have hkn : ¬ (k : Int) < (k : Int) := by omega
      have Hbw := hI hbw
      clear hbw
      go_wp2_with fail
      go_ret
      exact Ret.mk Hbw.out
set_option maxHeartbeats 2000000 in
set_option maxRecDepth 10000 in
theorem columns_g (v : Value) (m : List (List Rat)) (w : World) (h : Vs w v m) : Calls Tryz.prog 83 #[v] w (Ret (.int .i64 ((m.headD []).length : Nat)) w) := by
  obtain ⟨ad, cap, rfl, -, -⟩ := h.open
  cases m with
  | nil =>
    have HB := hI (Below.refl w.heap.size w)
    clear h
    go_enter Tryz.func83, Tryz.ntmps83
    go_wp2_with fail
    go_ret
    exact Ret.mk HB.out
  | cons x r =>
    obtain ⟨b, off, p, x', rfl, hx, c0, hq⟩ := h.at (Below.refl _ _) (k := 0) (by simp)
    obtain rfl : x = x' := by simpa using hx
    obtain ⟨a1, n1, rfl, -, -⟩ := hq.open
    have HB := hI (Below.refl w.heap.size w)
    have hlen : ¬ (((x :: r).length : Nat) : Int) = 0 := by rw [List.length_cons]; omega
    have hlen2 : (0 : Int) < (((x :: r).length : Nat) : Int) := by rw [List.length_cons]; omega
    have Hh := hI (show ((x :: r).headD []).length = x.length from rfl)
    rw [Hh.out]
    rw [Nat.add_zero] at c0
    generalize (x :: r).length = n at *
    generalize x.length = d at *
    clear h hx hq
    go_enter Tryz.func83, Tryz.ntmps83
    go_wp2_with fail
    go_ret
    exact Ret.mk HB.out
end Go.Proofs.YtlcmhbkmpkcajaaGreatDoor
namespace Go.Proofs.YtlcmhbkmpkcajaaGreatDoor
def RS0 (m : List Vec) (k : Nat) : List Vec × List Nat := (List.range k).foldl (fun s k => if s.2.length < s.1.length then stepM s k else s) (m, [])
theorem red_succ (m : List Vec) (k : Nat) : RS0 m (k + 1) = if (RS0 m k).2.length < (RS0 m k).1.length then stepM (RS0 m k) k else RS0 m k := by
  unfold RS0
  rw [List.range_succ, List.foldl_append]
  rfl
theorem red_stop {m : List Vec} {k : Nat} (h : ¬ (RS0 m k).2.length < (RS0 m k).1.length) : ∀ j, RS0 m (k + j) = RS0 m k
  | 0 => rfl
  | j + 1 => by
    have ih := red_stop h j
    rw [← Nat.add_assoc, red_succ, ih, if_neg h]
theorem clear_len (m : List Vec) (r k : Nat) : (clearM m r k).length = m.length := by simp [clearM]
theorem step_len (s : List Vec × List Nat) (k : Nat) : (stepM s k).1.length = s.1.length := by
  unfold stepM
  split
  · rfl
  · simp [clear_len, swapM]
theorem step_piv (s : List Vec × List Nat) (k : Nat) : (stepM s k).2.length ≤ s.2.length + 1 := by
  unfold stepM
  split
  · omega
  · simp
theorem red_len (m : List Vec) : ∀ k, (RS0 m k).1.length = m.length
  | 0 => rfl
  | k + 1 => by
    rw [red_succ]
    split
    · rw [step_len, red_len m k]
    · exact red_len m k
theorem find_step {m : List Vec} {k f i : Nat} : findRow m k (f + 1) i = if (m.getD i []).getD k 0 ≠ 0 then some i else findRow m k f (i + 1) := rfl
def clearJ (m : List Vec) (r k J : Nat) : List Vec := m.mapIdx fun j row => if j < J ∧ j ≠ r ∧ row.getD k 0 ≠ 0 then lessV row (m.getD r []) (row.getD k 0) else row
theorem clearJ_len (m : List Vec) (r k J : Nat) : (clearJ m r k J).length = m.length := by simp [clearJ]
theorem clearJ_get {m : List Vec} {r k J j : Nat} {row : Vec} (h : m[j]? = some row) : (clearJ m r k J)[j]? = some (if j < J ∧ j ≠ r ∧ row.getD k 0 ≠ 0 then lessV row (m.getD r []) (row.getD k 0) else row) := by
  simp [clearJ, h]
theorem clearJ_zero (m : List Vec) (r k : Nat) : clearJ m r k 0 = m := by
  apply List.ext_getElem?
  intro j
  simp [clearJ]
theorem clearJ_all (m : List Vec) (r k : Nat) : clearJ m r k m.length = clearM m r k := by
  apply List.ext_getElem?
  intro j
  unfold clearJ clearM
  rw [List.getElem?_mapIdx, List.getElem?_mapIdx]
  cases h : m[j]? with
  | none => rfl
  | some row =>
    have hj : j < m.length := (List.getElem?_eq_some_iff.1 h).1
    simp [hj]
theorem clearJ_skip {m : List Vec} {r k J : Nat} {row : Vec} (h : m[J]? = some row) (hs : J = r ∨ row.getD k 0 = 0) : clearJ m r k (J + 1) = clearJ m r k J := by
  apply List.ext_getElem?
  intro j
  unfold clearJ
  rw [List.getElem?_mapIdx, List.getElem?_mapIdx]
  cases h' : m[j]? with
  | none => rfl
  | some row' =>
    rcases Nat.lt_trichotomy j J with hlt | rfl | hgt
    · simp [hlt, Nat.lt_succ_of_lt hlt]
    · rw [h] at h'
      cases h'
      rcases hs with rfl | hs
      · simp
      · rw [Option.map_some, Option.map_some, if_neg (by simp only [hs]; simp), if_neg (by simp)]
    · simp [show ¬ j < J by omega, show ¬ j < J + 1 by omega]
theorem clearJ_step {m : List Vec} {r k J : Nat} {row : Vec} (h : m[J]? = some row) (h1 : J ≠ r) (h2 : row.getD k 0 ≠ 0) : clearJ m r k (J + 1) = (clearJ m r k J).set J (lessV row (m.getD r []) (row.getD k 0)) := by
  have hJ : J < m.length := (List.getElem?_eq_some_iff.1 h).1
  apply List.ext_getElem?
  intro j
  rw [List.getElem?_set]
  rcases Nat.lt_trichotomy j J with hlt | rfl | hgt
  · rw [if_neg (by omega)]
    unfold clearJ
    rw [List.getElem?_mapIdx, List.getElem?_mapIdx]
    cases m[j]? <;> simp [hlt, Nat.lt_succ_of_lt hlt]
  · rw [if_pos rfl, if_pos (by rw [clearJ_len]; exact hJ), clearJ_get h, if_pos ⟨by omega, h1, h2⟩]
  · rw [if_neg (by omega)]
    unfold clearJ
    rw [List.getElem?_mapIdx, List.getElem?_mapIdx]
    cases m[j]? <;> simp [show ¬ j < J by omega, show ¬ j < J + 1 by omega]
def swapO (m : List Vec) (i r k : Nat) : List Vec := (swapM m i r).set r (overV (m.getD i []) ((m.getD i []).getD k 0))
theorem step_some {s : List Vec × List Nat} {k i : Nat} (h : findRow s.1 k (s.1.length - s.2.length) s.2.length = some i) : stepM s k = (clearM (swapO s.1 i s.2.length k) s.2.length k, s.2 ++ [k]) := by
  unfold stepM
  rw [h]
  rfl
theorem step_none {s : List Vec × List Nat} {k : Nat} (h : findRow s.1 k (s.1.length - s.2.length) s.2.length = none) : stepM s k = s := by
  unfold stepM
  rw [h]
theorem swapM_same {m : List Vec} {r : Nat} (h : r < m.length) : swapM m r r = m := by
  unfold swapM
  rw [List.getD_eq_getElem?_getD, List.getElem?_eq_getElem h, Option.getD_some, List.set_getElem_self, List.set_getElem_self]
theorem swapM_len (m : List Vec) (i r : Nat) : (swapM m i r).length = m.length := by simp [swapM]
theorem swapO_len (m : List Vec) (i r k : Nat) : (swapO m i r k).length = m.length := by simp [swapO, swapM_len]
theorem swapM_at {m : List Vec} {i r : Nat} {x : Vec} (hx : m[i]? = some x) (hr : r < m.length) : (swapM m i r)[r]? = some x := by
  unfold swapM
  rw [List.getElem?_set, if_pos rfl, if_pos (by simpa using hr), List.getD_eq_getElem?_getD, hx]
  rfl
theorem clearJ_mem {m : List Vec} {r k J : Nat} {F : Vec → Prop} (h1 : ∀ j row, j ≠ r → m[j]? = some row → F row) (h2 : ∀ row ∈ clearM m r k, F row) : ∀ row ∈ clearJ m r k J, F row := by
  intro row hrow
  obtain ⟨j, hj⟩ := List.getElem?_of_mem hrow
  have hjl : j < m.length := by
    have := (List.getElem?_eq_some_iff.1 hj).1
    rwa [clearJ_len] at this
  obtain ⟨x, hx⟩ : ∃ x, m[j]? = some x := ⟨_, List.getElem?_eq_getElem hjl⟩
  rw [clearJ_get hx] at hj
  have hfin : (clearM m r k)[j]? = some (if j ≠ r ∧ x.getD k 0 ≠ 0 then lessV x (m.getD r []) (x.getD k 0) else x) := by
    unfold clearM
    rw [List.getElem?_mapIdx, hx]
    rfl
  cases hj
  split
  · next h =>
    rw [if_pos h.2] at hfin
    exact h2 _ (List.mem_of_getElem? hfin)
  · by_cases hjr : j = r
    · rw [if_neg (by simp [hjr])] at hfin
      exact h2 _ (List.mem_of_getElem? hfin)
    · exact h1 j x hjr hx
theorem swapO_other {m : List Vec} {i r k j : Nat} {row : Vec} {F : Vec → Prop} (hm : ∀ x ∈ m, F x) (hi : i < m.length) (hr : r < m.length) (hj : j ≠ r) (h : (swapO m i r k)[j]? = some row) : F row := by
  unfold swapO swapM at h
  rw [List.getElem?_set_ne (Ne.symm hj), List.getElem?_set_ne (Ne.symm hj)] at h
  by_cases hij : i = j
  · rw [List.getElem?_set, if_pos hij, if_pos hi] at h
    cases h
    rw [List.getD_eq_getElem?_getD, List.getElem?_eq_getElem hr]
    exact hm _ (List.getElem_mem hr)
  · rw [List.getElem?_set_ne hij] at h
    exact hm _ (List.mem_of_getElem? h)
end Go.Proofs.YtlcmhbkmpkcajaaGreatDoor
