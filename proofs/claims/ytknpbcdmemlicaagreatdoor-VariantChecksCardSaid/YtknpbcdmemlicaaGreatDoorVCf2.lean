/-
  Conflict.
-/
import Derived.Test.YtknpbcdmemlicaaGreatDoorVCf
namespace Go.Proofs.YtknpbcdmemlicaaGreatDoor
open Go.RowKit

theorem pred49 (b : ByteArray) (rv : List (Value × Value)) (ls : List Rule1) (R : Nat) (W w : World) (h : RulesRow W rv ls) (hR : w.cell? ⟨R, 0, none⟩ = some (.string b)) :
    PredOn 39 #[.pointer (some ⟨R, 0, none⟩)] w rv (ls.map fun x => x.1.toList == b.toList) := by
  refine ⟨enters49, by simpa using h.1, fun w' hb k x t hx ht => ?_⟩
  simp only [List.getElem?_map, Option.map_eq_some_iff] at ht
  obtain ⟨r, hr, rfl⟩ := ht
  obtain ⟨x1, x2⟩ := x
  obtain ⟨e1, -⟩ := h.2 k _ r hx hr
  simp only at e1
  subst e1
  exact conf1_any r.1 b x2 R w' (cell_le hR hb)

theorem ix_kept {kept rest : List Rule1} {r : Rule1} (h : ∀ x ∈ kept, x.1 ≠ r.1) : ixOf (fun b => b) ((kept ++ r :: rest).map fun x => x.1.toList == r.1.toList) = (kept.length : Int) := by
  rw [ixOf_map]
  refine ixOf_some (x := r) (fun y hy => ?_) (by simp) (by simp)
  rw [List.take_left'] at hy
  · exact bytes_ne (h y hy)
  · rfl

theorem rulesOk_sub {rs ls : List Rule1} (h : RulesOk 12 rs) (hs : ∀ x ∈ ls, x ∈ rs) : RulesOk 12 ls := fun r hr => h r (hs r hr)

theorem kept_sub {n : Nat} {ch : List Lit1} {rs : List Rule1} {k j : Nat} : ∀ x ∈ (conflTo n ch rs k).1 ++ rs.drop j, x ∈ rs := by
  intro x hx
  simp only [List.mem_append] at hx
  rcases hx with hx | hx
  · obtain ⟨i, _, hi⟩ := conflTo_names x hx; exact List.mem_of_getElem? hi
  · exact List.mem_of_mem_drop hx

theorem kept_len {n : Nat} {ch : List Lit1} {rs : List Rule1} {k j : Nat} (h : rs.length ≤ 48) (hk : k ≤ 48) : ((conflTo n ch rs k).1 ++ rs.drop j).length < 1000 := by
  have := (conflTo_len (n := n) (ch := ch) (rs := rs) k).1
  simp only [List.length_append, List.length_drop]; omega

set_option maxHeartbeats 1000000 in
theorem conflict_bad (q1 q2 q3 q4 q5 q6 q7 q8 q9 q10 cv : Value) (opts : List ByteArray) (rs : List Rule1) (gs : List Guard1) (os : List Ov1) (mI : Nat) (ds : List Dim1) (ch : List Lit1) (w : World) (e : Int)
    (hF : Fam w q1 q2 q3 q4 q5 q6 q7 q8 q9 q10 opts rs gs os mI ds) (hC : Lits w cv ch) (hcl : ch.length < 1000) (he : litErr opts.length ch = e) (hne : e ≠ 0) :
    Calls Tryz.prog 11 #[.agg #[q1, q2, q3, q4, q5, q6, q7, q8, q9, q10], cv] w (Ret (.tuple #[.slice none 0 0, .bool false, .int .i64 e]) w) := by
  have hb0 := below1 w (.cells #[q1, q2, q3, q4, q5, q6, q7, q8, q9, q10] 36)
  have H1 := Lib.hid (asked_any q1 q2 q3 q4 q5 q6 q7 q8 q9 q10 cv opts rs gs os mI ds ch _ (hF.mono hb0) (hC.mono hb0) hcl)
  rw [he] at H1
  have hne' : (e != 0) = true := by simpa using hne
  clear hF hC he hne
  go_enter Tryz.func11, Tryz.ntmps11
  go_wp2_with (go_at_call 29; refine (H1.out).mono ?_; rintro e w1 ⟨rfl, hb1⟩)
  go_ret3
  exact Ret.mk (hb0.via hb1 hb0.size)

set_option maxHeartbeats 1000000 in
theorem conflict_none (q1 q2 q3 q4 q5 q6 q7 q8 q9 q10 cv : Value) (opts : List ByteArray) (rs : List Rule1) (gs : List Guard1) (os : List Ov1) (mI : Nat) (ds : List Dim1) (ch : List Lit1) (w : World)
    (hF : Fam w q1 q2 q3 q4 q5 q6 q7 q8 q9 q10 opts rs gs os mI ds) (hn : opts.length ≤ 6) (hC : Lits w cv ch) (hcl : ch.length < 1000) (he : litErr opts.length ch = 0) (hv : (visL opts.length ch rs).isEmpty = false) :
    Calls Tryz.prog 11 #[.agg #[q1, q2, q3, q4, q5, q6, q7, q8, q9, q10], cv] w (Ret (.tuple #[.slice none 0 0, .bool false, .int .i64 0]) w) := by
  have hb0 := below1 w (.cells #[q1, q2, q3, q4, q5, q6, q7, q8, q9, q10] 36)
  have H1 := Lib.hid (asked_any q1 q2 q3 q4 q5 q6 q7 q8 q9 q10 cv opts rs gs os mI ds ch _ (hF.mono hb0) (hC.mono hb0) hcl)
  rw [he] at H1
  have hrok := rulesOk_of hF.ok
  have hr48 := hF.ok.rs48
  have hlok := (litErr_ok he).le (show (opts.length : Int) ≤ 12 by omega)
  obtain ⟨ao, po, hq7, -, -⟩ := hF.opt.open
  subst hq7
  have hR := hF.rul
  generalize hn0 : opts.length = n at *
  have H2 : Hid (∀ w2, Below w.heap.size w w2 → Calls Tryz.prog 36 #[.agg #[q1, q2, q3, q4, q5, q6, .slice ao n po, q8, q9, q10], cv, q8] w2 (Ret (.bool true) w2)) := fun w2 h2 => by
    have := possible_any q1 q2 q3 q4 q5 q6 q8 q9 q10 cv q8 ao n po ch rs w2 hn (hC.mono h2) (hR.mono h2) hrok hlok hcl (by omega)
    rw [hv] at this
    exact this
  clear hF hC he hR hrok hlok hv
  go_enter Tryz.func11, Tryz.ntmps11
  go_wp2_with (first | (go_at_call 29; refine (H1.out).mono ?_; rintro e w1 ⟨rfl, hb1⟩; have hw1 := hb0.via hb1 hb0.size; obtain ⟨f, f0, f1, f2, f3, f4, f5, f6, f7, f8, f9⟩ := box10 (hb1.mono (by simp))) | (go_at_call 36; refine (H2.out _ hw1).mono ?_; rintro e w2 ⟨rfl, hb2⟩))
  go_ret3
  exact Ret.mk (hw1.via hb2 hw1.size)

theorem own_base {w : World} {B B' e sz n : Nat} {v : Value} {xs : List Value} (h : w.ownsRow B e sz v n xs) (hB : B' ≤ B) : w.ownsRow B' e sz v n xs := by
  refine ⟨h.1, ?_⟩
  rcases h.2 with hn | ⟨g, cap, cur, hv, hg, rest⟩
  · exact .inl hn
  · exact .inr ⟨g, cap, cur, hv, Nat.le_trans hB hg, rest⟩

theorem own_grown {w w' : World} {B e sz n g N : Nat} {v : Value} {xs : List Value} (h : w.ownsRow B e sz v n xs) (hg : w.grownBy w' (some g)) (hlt : ∀ k, v.ownBlock = some k → k < N) (hN : N ≤ g) : w'.ownsRow B e sz v n xs := by
  refine h.kept hg ?_
  cases hv : v.ownBlock with
  | none => exact .inl rfl
  | some k => right; intro e; have := hlt k hv; cases e; omega

theorem erase_kept {kept rest : List Rule1} {r : Rule1} : (kept ++ r :: rest).eraseIdx kept.length = kept ++ rest := by
  rw [List.eraseIdx_append_of_length_le (Nat.le_refl _), Nat.sub_self]; rfl

theorem conflTo_step {n : Nat} {ch : List Lit1} {rs : List Rule1} {k : Nat} {r : Rule1} (h : rs[k]? = some r) : conflTo n ch rs (k + 1) = if (visL n ch ((conflTo n ch rs k).1 ++ rs.drop (k + 1))).isEmpty then conflTo n ch rs k else ((conflTo n ch rs k).1 ++ [r], (conflTo n ch rs k).2 ++ [(k : Int)]) := by
  rw [conflTo, h]

set_option maxHeartbeats 4000000 in
theorem conflict_some (q1 q2 q3 q4 q5 q6 q7 q8 q9 q10 cv : Value) (opts : List ByteArray) (rs : List Rule1) (gs : List Guard1) (os : List Ov1) (mI : Nat) (ds : List Dim1) (ch : List Lit1) (w : World)
    (hF : Fam w q1 q2 q3 q4 q5 q6 q7 q8 q9 q10 opts rs gs os mI ds) (hn : opts.length ≤ 6) (hC : Lits w cv ch) (hcl : ch.length < 1000) (he : litErr opts.length ch = 0) (hv : (visL opts.length ch rs).isEmpty = true) :
    Calls Tryz.prog 11 #[.agg #[q1, q2, q3, q4, q5, q6, q7, q8, q9, q10], cv] w (fun e w' => ∃ v, e = .returned (.tuple #[v, .bool true, .int .i64 0]) ∧ Ints w' v (conflTo opts.length ch rs rs.length).2 ∧ Below w.heap.size w w') := by
  have hb0 := below1 w (.cells #[q1, q2, q3, q4, q5, q6, q7, q8, q9, q10] 36)
  have H1 := Lib.hid (asked_any q1 q2 q3 q4 q5 q6 q7 q8 q9 q10 cv opts rs gs os mI ds ch _ (hF.mono hb0) (hC.mono hb0) hcl)
  rw [he] at H1
  have hrok := rulesOk_of hF.ok
  have hr48 := hF.ok.rs48
  have Huq := Lib.hid hF.ok.rsUniq
  have hlok := (litErr_ok he).le (show (opts.length : Int) ≤ 12 by omega)
  obtain ⟨ao, po, hq7, -, -⟩ := hF.opt.open
  subst hq7
  have hR := hF.rul
  obtain ⟨ar, pr, hq8, -, hpr⟩ := hR.open
  subst hq8
  obtain ⟨rv, hRv, hRl, hRr⟩ := hR
  have hrr : RulesRow w rv rs := ⟨hRl, hRr⟩
  unfold maxLen at hpr
  generalize hn0 : opts.length = n at *
  generalize hm0 : rs.length = m at *
  have Hm := Lib.hid hm0
  have Hpos : Hid (∀ w2 lv ls, Below w.heap.size w w2 → Rules w2 lv ls → (∀ x ∈ ls, x ∈ rs) → ls.length < 1000 → Calls Tryz.prog 36 #[.agg #[q1, q2, q3, q4, q5, q6, .slice ao n po, .slice ar m pr, q9, q10], cv, lv] w2 (Ret (.bool (!(visL n ch ls).isEmpty)) w2)) := fun w2 lv ls h2 hl hs hx =>
    possible_any q1 q2 q3 q4 q5 q6 _ q9 q10 cv lv ao n po ch ls w2 hn (hC.mono h2) hl (rulesOk_sub hrok hs) hlok hcl hx
  have H2 : Hid (∀ w2, Below w.heap.size w w2 → Calls Tryz.prog 36 #[.agg #[q1, q2, q3, q4, q5, q6, .slice ao n po, .slice ar m pr, q9, q10], cv, .slice ar m pr] w2 (Ret (.bool false) w2)) := fun w2 h2 => by
    have := Hpos.out w2 (.slice ar m pr) rs h2 (hrr.rules h2 (hRv.mono h2)) (fun _ h => h) (by have := Hm.out; omega)
    rw [hv] at this
    exact this
  have H3 : Hid (∀ w2, Below w.heap.size w w2 → Calls Tryz.prog 37 #[.slice ar m pr] w2 (RetP (fun v' w' => w'.ownsRow w2.heap.size 40 2 v' m (rv.map c2).flatten) w2)) := fun w2 h2 => by
    have := clone47 (rv.map c2) (.slice ar m pr) w2 (hRv.mono h2) (fun r hr => by obtain ⟨x, _, rfl⟩ := List.mem_map.1 hr; rfl) (fun r hr u hu => by
      obtain ⟨x, hx, rfl⟩ := List.mem_map.1 hr
      have := hrr.one x hx
      simp only [c2, List.mem_cons, List.not_mem_nil, or_false] at hu
      rcases hu with rfl | rfl
      · exact this.1
      · exact this.2) (by simp; omega)
    rw [List.length_map, hRl] at this
    exact this
  clear hF hC he hrok hlok hv hm0
  go_enter Tryz.func11, Tryz.ntmps11
  go_wp2_with (first | (go_at_call 29; refine (H1.out).mono ?_; rintro e w1 ⟨rfl, hb1⟩; have hw1 := hb0.via hb1 hb0.size; obtain ⟨f, f0, f1, f2, f3, f4, f5, f6, f7, f8, f9⟩ := box10 (hb1.mono (by simp))) | (go_at_call 36; refine (H2.out _ hw1).mono ?_; rintro e w2 ⟨rfl, hb2⟩; have hw2 := hw1.via hb2 hw1.size; have y7 := (hb2.cell (p := ⟨w.heap.size, 7, none⟩) f).trans f7; have f2' := Nat.lt_of_lt_of_le f hb2.size) | (go_at_call 37; refine (H3.out _ hw2).mono ?_; rintro e w3 ⟨lv, rfl, hown, hb3⟩; have hw3 := hw2.via hb3 hw2.size; have z7 := (hb3.cell (p := ⟨w.heap.size, 7, none⟩) f2').trans y7))
  have hX0 : Below (w.heap.size + 1) (w.alloc (.cells #[q1, q2, q3, q4, q5, q6, .slice ao n po, .slice ar m pr, q9, q10] 36)) w3 := by
    have e : (w.alloc (.cells #[q1, q2, q3, q4, q5, q6, .slice ao n po, .slice ar m pr, q9, q10] 36)).heap.size = w.heap.size + 1 := by simp
    have a1 : Below (w.heap.size + 1) (w.alloc (.cells #[q1, q2, q3, q4, q5, q6, .slice ao n po, .slice ar m pr, q9, q10] 36)) w1 := by rw [← e]; exact hb1
    have s1 := a1.size
    rw [e] at s1
    have a2 := a1.via hb2 s1
    have s2 := a2.size
    rw [e] at s2
    exact a2.via hb3 s2
  have hown0 := own_base (B' := w.heap.size + 1) hown (by have := hb1.size; have := hb2.size; simp at *; omega)
  clear hown hb1 hb2 hb3 f0 f1 f2 f3 f4 f5 f6 f7 f8 f9 y7 z7 H1 H2 H3 hw1 hw2 hw3 f f2' hb0
  go_loopw [4, 8, 30] (fun ov lv ix wr => ∃ (k : Nat) (rvk : List (Value × Value)), k ≤ m ∧ ix = .int .i64 k ∧ Below (w.heap.size + 1) (w.alloc (.cells #[q1, q2, q3, q4, q5, q6, .slice ao n po, .slice ar m pr, q9, q10] 36)) wr ∧
      wr.ownsRow (w.heap.size + 1) 40 2 lv rvk.length (rvk.map c2).flatten ∧ RulesRow w rvk ((conflTo n ch rs k).1 ++ rs.drop k) ∧
      wr.ownsRow (w.heap.size + 1) 3 1 ov (conflTo n ch rs k).2.length ((conflTo n ch rs k).2.map (Value.int .i64))) (fun _ _ ix _ => m - (intOf ix).toNat)
  case atStart => exact ⟨0, rv, Nat.zero_le _, rfl, hX0, by rw [hRl]; exact hown0, by simpa [conflTo] using hrr, World.ownsRow_nil _ _ _ _⟩
  case round =>
    obtain ⟨k, rvk, hk, rfl, hX, hown, hrk, hout⟩ := hrel
    have e0 : (w.alloc (.cells #[q1, q2, q3, q4, q5, q6, .slice ao n po, .slice ar m pr, q9, q10] 36)).heap.size = w.heap.size + 1 := by simp
    have hXs := hX.size
    rw [e0] at hXs
    have hwr : Below w.heap.size w wr := (below1 w _).trans (hX.mono (by simp))
    by_cases hlt2 : k < m
    · have hkr : k < rs.length := by have := Hm.out; omega
      obtain ⟨r, hr⟩ : ∃ r, rs[k]? = some r := ⟨rs[k], by simp [hkr]⟩
      obtain ⟨b, off, x, rfl, hx, c0, c1⟩ := hRv.at2 hwr hlt2
      obtain ⟨hx1, hxl⟩ := hrr.2 k x r hx hr
      obtain ⟨aa, ac, hx2, -, -⟩ := hxl.open
      obtain ⟨x1, x2⟩ := x
      simp only at hx1 hx2 c0 c1
      subst hx1 hx2
      generalize hrl : r.2.length = rl at *
      have hdrop : rs.drop k = r :: rs.drop (k + 1) := by
        rw [List.drop_eq_getElem_cons hkr]; congr 1; simpa [hkr] using hr
      have hkn : ∀ y ∈ (conflTo n ch rs k).1, y.1 ≠ r.1 := fun y hy => by
        obtain ⟨i, hi, hyi⟩ := conflTo_names y hy; exact Huq.out i k y r hi hyi hr
      have hstep := conflTo_step (n := n) (ch := ch) hr
      have hlens := conflTo_len (n := n) (ch := ch) (rs := rs) k
      rw [hdrop] at hrk
      have hix := ix_kept (rest := rs.drop (k + 1)) hkn
      have herase : ((conflTo n ch rs k).1 ++ r :: rs.drop (k + 1)).eraseIdx (conflTo n ch rs k).1.length = (conflTo n ch rs k).1 ++ rs.drop (k + 1) := erase_kept
      have hsub : ∀ y ∈ (conflTo n ch rs k).1 ++ rs.drop (k + 1), y ∈ rs := kept_sub
      have hless : ((conflTo n ch rs k).1 ++ rs.drop (k + 1)).length < 1000 := kept_len (by have := Hm.out; omega) (by omega)
      generalize hst : conflTo n ch rs k = st at *
      obtain ⟨kept, out⟩ := st
      simp only at *
      generalize hq : kept.length = q at *
      have hrvl : rvk.length = q + 1 + (rs.length - (k + 1)) := by rw [hrk.1, List.length_append, List.length_cons, List.length_drop, hq]; omega
      have hgr := below1 wr (.cells #[.string r.1, .slice aa rl ac] 40)
      have HIx : Hid (Calls Tryz.prog 38 #[u8, .func (.func 39) #[] #[.pointer (some ⟨wr.heap.size, 0, none⟩)]] (wr.alloc (.cells #[.string r.1, .slice aa rl ac] 40)) (Ret (.int .i64 (q : Int)) (wr.alloc (.cells #[.string r.1, .slice aa rl ac] 40)))) := by
        have := ix48 39 #[.pointer (some ⟨wr.heap.size, 0, none⟩)] rvk _ u8 (wr.alloc (.cells #[.string r.1, .slice aa rl ac] 40)) ((own_rows hown).mono hgr) (pred49 r.1 rvk _ wr.heap.size w _ hrk (by simp)) (by have := Hm.out; omega)
        rw [hix] at this
        exact this
      have hone := hrk.one
      have HCl : Hid (∀ w2, Below wr.heap.size wr w2 → Calls Tryz.prog 37 #[u8] w2 (RetP (fun v' w' => w'.ownsRow w2.heap.size 40 2 v' rvk.length (rvk.map c2).flatten) w2)) := fun w2 h2 => by
        have := clone47 (rvk.map c2) u8 w2 ((own_rows hown).mono h2) (fun r hr => by obtain ⟨x, _, rfl⟩ := List.mem_map.1 hr; rfl) (fun r hr u hu => by
          obtain ⟨x, hx, rfl⟩ := List.mem_map.1 hr
          have := hone x hx
          simp only [c2, List.mem_cons, List.not_mem_nil, or_false] at hu
          rcases hu with rfl | rfl
          · exact this.1
          · exact this.2) (by simp; have := Hm.out; omega)
        rw [List.length_map] at this
        exact this
      have HDel : Hid (∀ w2 B v', w2.ownsRow B 40 2 v' rvk.length (rvk.map c2).flatten → Calls Tryz.prog 40 #[v', .int .i64 (q : Int), .int .i64 ((q : Int) + 1)] w2 (fun e w' => ∃ v'' g, e = .returned v'' ∧ w'.ownsRow B 40 2 v'' (rvk.length - 1) ((rvk.eraseIdx q).map c2).flatten ∧ B ≤ g ∧ w2.grownBy w' (some g))) :=
        fun w2 B v' h => delete_rows B rvk.length q v' rvk w2 h (by omega) hone
      have hre := hrk.erase q
      rw [herase] at hre
      have hrel : (rvk.eraseIdx q).length = rvk.length - 1 := by rw [List.length_eraseIdx, if_pos (by omega)]
      rw [← hrel] at HDel
      have HB : Hid (∀ w2, Below (w.heap.size + 1) (w.alloc (.cells #[q1, q2, q3, q4, q5, q6, .slice ao n po, .slice (some ⟨b, off, none⟩) m pr, q9, q10] 36)) w2 → Below w.heap.size w w2) := fun w2 h => (below1 w _).trans (h.mono (by simp))
      have HA : Hid (∀ w2, Below wr.heap.size wr w2 → Below (w.heap.size + 1) (w.alloc (.cells #[q1, q2, q3, q4, q5, q6, .slice ao n po, .slice (some ⟨b, off, none⟩) m pr, q9, q10] 36)) w2) := fun w2 h => hX.via h hXs
      have hq1000 : (q : Int) < 100 := by omega
      cases hP : (visL n ch (kept ++ rs.drop (k + 1))).isEmpty
      all_goals
        have Hp : Hid (∀ w2 lv, Below (w.heap.size + 1) (w.alloc (.cells #[q1, q2, q3, q4, q5, q6, .slice ao n po, .slice (some ⟨b, off, none⟩) m pr, q9, q10] 36)) w2 → w2.ownsRow (w.heap.size + 1) 40 2 lv (rvk.eraseIdx q).length ((rvk.eraseIdx q).map c2).flatten → Calls Tryz.prog 36 #[.agg #[q1, q2, q3, q4, q5, q6, .slice ao n po, .slice (some ⟨b, off, none⟩) m pr, q9, q10], cv, lv] w2 (Ret (.bool (!(visL n ch (kept ++ rs.drop (k + 1))).isEmpty)) w2)) := fun w2 lv h2 hl =>
          Hpos.out w2 lv _ (HB.out _ h2) (hre.rules (HB.out _ h2) (own_rows hl)) hsub hless
        rw [hP] at Hp hstep
        have HS := Lib.hid hstep
        have Hre := Lib.hid hre
        have Hrk := Lib.hid hrk
        have HX := Lib.hid hX
        have HW := Lib.hid (Nat.lt_of_lt_of_le (Nat.lt_succ_self w.heap.size) hXs)
        clear hP hstep hre hrk hr hx hxl hrl hdrop hkn hix herase hsub hless hst hone hrel hX hwr hrvl hkr
        go_wp2_with (first | (go_at_call 38; refine (HIx.out).mono ?_; rintro e wb ⟨rfl, hbb⟩; have hb2 := hgr.via hbb hgr.size) | (go_at_call 37; refine (HCl.out _ hb2).mono ?_; rintro e wc ⟨cl, rfl, hcl2, hbc⟩; have hb3 := hb2.via hbc hb2.size) | (go_at_call 40; refine (HDel.out _ _ _ hcl2).mono ?_; rintro e wd ⟨less, g, rfl, hless, hgle, hgd⟩; have hXd := (HA.out _ hb3).grown hgd (Nat.le_trans hXs hb3.size) (fun j hj => by cases hj; exact Nat.le_trans hXs (Nat.le_trans hb2.size hgle)); have hless2 := own_base hless (Nat.le_trans hXs hb2.size); obtain ⟨f, f0, f1, f2, f3, f4, f5, f6, f7, f8, f9⟩ := box10 hXd) | (go_at_call 36; refine (Hp.out _ _ hXd hless2).mono ?_; rintro e we ⟨rfl, hbe⟩; have hXe := hXd.via hbe (Nat.le_of_lt_succ (Nat.lt_succ_of_le (Nat.succ_le_of_lt f))); have hout2 := own_below (own_grown (own_below hout hb3) hgd (fun j hj => Nat.lt_of_lt_of_le (hout.lt j hj).2 hb2.size) hgle) hbe; have hless3 := own_below hless2 hbe; have hXes := Nat.le_trans hXs (Nat.le_trans hb3.size (Nat.le_trans hgd.size hbe.size))) | (at_builtin; refine wpApp E50 (by decide) [.int .i64 (k : Int)] rfl _ _ rfl (w.heap.size + 1) _ _ _ rfl rfl hout2 rfl (one1 _ rfl) (by omega) (by decide) hXes ?_; intro v' w9 hout3 hg9; have hX9 := below_app hXe hout2 hg9 hXes))
        go_roundw
        case measure => simp [intOf]; omega
        case rel =>
          have hs := HS.out
          first
          | (simp only [Bool.false_eq_true, if_false] at hs
             have hl2 := own_below (own_grown (own_below hown hb3) hgd (fun j hj => Nat.lt_of_lt_of_le (hown.lt j hj).2 hb2.size) hgle) hbe
             refine ⟨k + 1, rvk, by omega, by go_num, hX9, (hl2.alloc _).kept hg9 (own_ne hl2 hout2 (by decide)), ?_, ?_⟩
             · rw [hs]; simpa using Hrk.out
             · rw [hs]; simpa using hout3)
          | (simp only [if_true] at hs
             refine ⟨k + 1, rvk.eraseIdx q, by omega, by go_num, hXe, hless3, ?_, ?_⟩
             · rw [hs]; exact Hre.out
             · rw [hs]; exact hout2)
    · go_wp2
      go_ret3
      have : k = m := by omega
      subst this
      exact ⟨_, rfl, Sl.own1 hout, hwr⟩

end Go.Proofs.YtknpbcdmemlicaaGreatDoor
