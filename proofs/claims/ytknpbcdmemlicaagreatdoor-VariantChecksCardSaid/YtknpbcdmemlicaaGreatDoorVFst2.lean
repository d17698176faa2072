/-
  First.
-/
import Derived.Test.YtknpbcdmemlicaaGreatDoorVFst
namespace Go.Proofs.YtknpbcdmemlicaaGreatDoor
open Go.RowKit

/-- What First hands back as the names. -/
def FirstV (n : Nat) (ch : List Lit1) (rs : List Rule1) (opts : List ByteArray) (v : Value) (w : World) : Prop :=
  match (visL n ch rs).head? with | none => v = .slice none 0 0 | some c => Strs w v (sel (fun i => bitB c i) opts)

set_option maxHeartbeats 1000000 in
theorem first_bad (q1 q2 q3 q4 q5 q6 q7 q8 q9 q10 cv : Value) (opts : List ByteArray) (rs : List Rule1) (gs : List Guard1) (os : List Ov1) (mI : Nat) (ds : List Dim1) (ch : List Lit1) (w : World) (e : Int)
    (hF : Fam w q1 q2 q3 q4 q5 q6 q7 q8 q9 q10 opts rs gs os mI ds) (hC : Lits w cv ch) (hcl : ch.length < 1000) (he : litErr opts.length ch = e) (hne : e ≠ 0) :
    Calls Tryz.prog 9 #[.agg #[q1, q2, q3, q4, q5, q6, q7, q8, q9, q10], cv] w (Ret (.tuple #[.slice none 0 0, .bool false, .int .i64 e]) w) := by
  have hb0 := below3 w (.cells #[q1, q2, q3, q4, q5, q6, q7, q8, q9, q10] 36) (.cells #[.slice none 0 0] 31) (.cells #[.bool false] 4)
  have H1 := Lib.hid (asked_any q1 q2 q3 q4 q5 q6 q7 q8 q9 q10 cv opts rs gs os mI ds ch _ (hF.mono hb0) (hC.mono hb0) hcl)
  rw [he] at H1
  have hne' : (e != 0) = true := by simpa using hne
  have b1 : Box (((w.alloc (.cells #[q1, q2, q3, q4, q5, q6, q7, q8, q9, q10] 36)).alloc (.cells #[.slice none 0 0] 31)).alloc (.cells #[.bool false] 4)) (w.heap.size + 1) 31 (.slice none 0 0) := by
    have := (Box.new (w.alloc (.cells #[q1, q2, q3, q4, q5, q6, q7, q8, q9, q10] 36)) 31 (.slice none 0 0)).old (.cells #[.bool false] 4); simpa using this
  have b2 : Box (((w.alloc (.cells #[q1, q2, q3, q4, q5, q6, q7, q8, q9, q10] 36)).alloc (.cells #[.slice none 0 0] 31)).alloc (.cells #[.bool false] 4)) (w.heap.size + 2) 4 (.bool false) := by
    have := Box.new ((w.alloc (.cells #[q1, q2, q3, q4, q5, q6, q7, q8, q9, q10] 36)).alloc (.cells #[.slice none 0 0] 31)) 4 (.bool false); simpa using this
  have B1 := Lib.hid b1
  have B2 := Lib.hid b2
  clear hF hC he hne b1 b2
  go_enter Tryz.func9, Tryz.ntmps9
  go_wp2_with (go_at_call 29; refine (H1.out).mono ?_; rintro e w1 ⟨rfl, hb1⟩; have e1 := B1.out.below hb1; have e2 := B2.out.below hb1; have g1 := cell_of_one e1; have g2 := cell_of_one e2; have k1 := free_of_one e1; have k2 := free_of_one e2)
  have r1 : Box ((w1.setCell ⟨w.heap.size + 1, 0, none⟩ (.slice none 0 0)).setCell ⟨w.heap.size + 2, 0, none⟩ (.bool false)) (w.heap.size + 1) 31 (.slice none 0 0) := Box.other (one_setCell e1) (p := ⟨w.heap.size + 2, 0, none⟩) (show w.heap.size + 1 ≠ w.heap.size + 2 by omega) _
  have r2 : Box ((w1.setCell ⟨w.heap.size + 1, 0, none⟩ (.slice none 0 0)).setCell ⟨w.heap.size + 2, 0, none⟩ (.bool false)) (w.heap.size + 2) 4 (.bool false) := one_setCell (e2.other (p := ⟨w.heap.size + 1, 0, none⟩) (show w.heap.size + 2 ≠ w.heap.size + 1 by omega) _)
  refine bodyPost_ret (v := .tuple #[.slice none 0 0, .bool false, .int .i64 e]) (by simp [results, Tryz.results9, go_sem, cell_of_one r1, cell_of_one r2]) rfl (Ret.mk ?_)
  exact ((hb0.via hb1 hb0.size).setCell (p := ⟨w.heap.size + 1, 0, none⟩) (show w.heap.size ≤ w.heap.size + 1 by omega) _).setCell (p := ⟨w.heap.size + 2, 0, none⟩) (show w.heap.size ≤ w.heap.size + 2 by omega) _

theorem visL_head_mem {n : Nat} {ch : List Lit1} {rs : List Rule1} {c : Int} (hn : n ≤ 12) (h : c ∈ visL n ch rs) : 0 ≤ c ∧ c < 4096 := cfgsL_mem hn (List.mem_filter.1 h).1

set_option maxHeartbeats 2000000 in
theorem first_ok (q1 q2 q3 q4 q5 q6 q7 q8 q9 q10 cv : Value) (opts : List ByteArray) (rs : List Rule1) (gs : List Guard1) (os : List Ov1) (mI : Nat) (ds : List Dim1) (ch : List Lit1) (w : World)
    (hF : Fam w q1 q2 q3 q4 q5 q6 q7 q8 q9 q10 opts rs gs os mI ds) (hn : opts.length ≤ 6) (hC : Lits w cv ch) (hcl : ch.length < 1000) (he : litErr opts.length ch = 0) :
    Calls Tryz.prog 9 #[.agg #[q1, q2, q3, q4, q5, q6, q7, q8, q9, q10], cv] w (fun e w' => ∃ v, e = .returned (.tuple #[v, .bool (!(visL opts.length ch rs).isEmpty), .int .i64 0]) ∧ FirstV opts.length ch rs opts v w' ∧ Below w.heap.size w w') := by
  have hb0 := below3 w (.cells #[q1, q2, q3, q4, q5, q6, q7, q8, q9, q10] 36) (.cells #[.slice none 0 0] 31) (.cells #[.bool false] 4)
  have H1 := Lib.hid (asked_any q1 q2 q3 q4 q5 q6 q7 q8 q9 q10 cv opts rs gs os mI ds ch _ (hF.mono hb0) (hC.mono hb0) hcl)
  rw [he] at H1
  have hrok := rulesOk_of hF.ok
  have hr48 := hF.ok.rs48
  have hlok := (litErr_ok he).le (show (opts.length : Int) ≤ 12 by omega)
  have hO := hF.opt
  obtain ⟨ao, po, hq7, -, -⟩ := hF.opt.open
  subst hq7
  have hR := hF.rul
  generalize hn0 : opts.length = n at *
  have b1 : Box (((w.alloc (.cells #[q1, q2, q3, q4, q5, q6, .slice ao n po, q8, q9, q10] 36)).alloc (.cells #[.slice none 0 0] 31)).alloc (.cells #[.bool false] 4)) (w.heap.size + 1) 31 (.slice none 0 0) := by
    have := (Box.new (w.alloc (.cells #[q1, q2, q3, q4, q5, q6, .slice ao n po, q8, q9, q10] 36)) 31 (.slice none 0 0)).old (.cells #[.bool false] 4); simpa using this
  have b2 : Box (((w.alloc (.cells #[q1, q2, q3, q4, q5, q6, .slice ao n po, q8, q9, q10] 36)).alloc (.cells #[.slice none 0 0] 31)).alloc (.cells #[.bool false] 4)) (w.heap.size + 2) 4 (.bool false) := by
    have := Box.new ((w.alloc (.cells #[q1, q2, q3, q4, q5, q6, .slice ao n po, q8, q9, q10] 36)).alloc (.cells #[.slice none 0 0] 31)) 4 (.bool false); simpa using this
  have HX : Hid (∀ w1, Below (((w.alloc (.cells #[q1, q2, q3, q4, q5, q6, .slice ao n po, q8, q9, q10] 36)).alloc (.cells #[.slice none 0 0] 31)).alloc (.cells #[.bool false] 4)).heap.size (((w.alloc (.cells #[q1, q2, q3, q4, q5, q6, .slice ao n po, q8, q9, q10] 36)).alloc (.cells #[.slice none 0 0] 31)).alloc (.cells #[.bool false] 4)) w1 → Below (w.heap.size + 1) (w.alloc (.cells #[q1, q2, q3, q4, q5, q6, .slice ao n po, q8, q9, q10] 36)) w1 ∧ w.heap.size + 3 ≤ w1.heap.size ∧ Box w1 (w.heap.size + 1) 31 (.slice none 0 0) ∧ Box w1 (w.heap.size + 2) 4 (.bool false)) := by
    intro w1 h
    have e : (w.alloc (.cells #[q1, q2, q3, q4, q5, q6, .slice ao n po, q8, q9, q10] 36)).heap.size = w.heap.size + 1 := by simp
    refine ⟨?_, by have := h.size; simpa using this, b1.below h, b2.below h⟩
    have h2 := below2 (w.alloc (.cells #[q1, q2, q3, q4, q5, q6, .slice ao n po, q8, q9, q10] 36)) (.cells #[.slice none 0 0] 31) (.cells #[.bool false] 4)
    rw [e] at h2
    exact h2.trans (h.mono (by simp))
  have Hv : Hid (∀ w1, Below (w.heap.size + 1) (w.alloc (.cells #[q1, q2, q3, q4, q5, q6, .slice ao n po, q8, q9, q10] 36)) w1 → w.heap.size + 3 ≤ w1.heap.size → Box w1 (w.heap.size + 1) 31 (.slice none 0 0) → Box w1 (w.heap.size + 2) 4 (.bool false) →
      Calls Tryz.prog 30 #[.agg #[q1, q2, q3, q4, q5, q6, .slice ao n po, q8, q9, q10], cv, q8, .func (.func 32) #[] #[.pointer (some ⟨w.heap.size, 0, none⟩), .pointer (some ⟨w.heap.size + 1, 0, none⟩), .pointer (some ⟨w.heap.size + 2, 0, none⟩)]] w1
      (fun e w' => e = .returned (.tuple #[]) ∧ Mid (w.heap.size + 1) w1.heap.size w1 w' ∧ FirstI (w.heap.size + 1) opts ((visL n ch rs).take 1) w')) := by
    intro w1 hA hS hb1 hb2
    have hbA := below1 w (.cells #[q1, q2, q3, q4, q5, q6, .slice ao n po, q8, q9, q10] 36)
    have := visit_any (w.alloc (.cells #[q1, q2, q3, q4, q5, q6, .slice ao n po, q8, q9, q10] 36)) (FirstI (w.heap.size + 1) opts) (fun _ => false) 32 #[.pointer (some ⟨w.heap.size, 0, none⟩), .pointer (some ⟨w.heap.size + 1, 0, none⟩), .pointer (some ⟨w.heap.size + 2, 0, none⟩)] q1 q2 q3 q4 q5 q6 q8 q9 q10 cv q8 ao n po ch rs w1
      hn (hC.mono hbA) (hR.mono hbA) (by simpa using hA) hrok hlok hcl (by omega) enters41 (fun xs w1 w2 h hb => h.below hb)
      (fun xs c w2 hx hm hI hc hok => ?_) ⟨_, hb1, hb2, ⟨_, _, _, rfl⟩, fun k hk => by simp [Value.ownBlock] at hk, rfl⟩
    · rw [upTo_false] at this
      simp only [World.size_alloc] at this
      exact this
    · simp only [World.size_alloc] at hm ⊢
      obtain ⟨v, i1, i2, i3, -, -⟩ := hI
      have hbA2 := hm.below hA (by omega)
      obtain ⟨-, f0, f1, f2, f3, f4, f5, f6, f7, f8, f9⟩ := box10 hbA2
      have hcm := cfgsL_mem (by omega) hc
      have h2 := hm.size
      refine (first1_any c w.heap.size (w.heap.size + 1) w1.heap.size _ v q1 q2 q3 q4 q5 q6 _ q8 q9 q10 opts w2 (by omega) h2 i3 i1 i2 ((hO.mono hbA).mono (by simpa using hbA2)) (by omega) hcm.1 (by omega) f0 f1 f2 f3 f4 f5 f6 f7 f8 f9).mono ?_
      rintro e w3 ⟨rfl, hm3, v3, j1, j2, j3, jf, j4⟩
      refine ⟨rfl, hm3, v3, j1, ?_, j3, jf, ?_⟩
      · rw [show (xs ++ [c]).isEmpty = false by cases xs <;> rfl]; exact j2
      · rw [List.getLast?_concat]; exact j4
  clear hF hC he hR hrok hlok b1 b2
  go_enter Tryz.func9, Tryz.ntmps9
  go_wp2_with (first | (go_at_call 29; refine (H1.out).mono ?_; rintro e w1 ⟨rfl, hb1⟩; obtain ⟨hA1, hs1, e1, e2⟩ := HX.out _ hb1; obtain ⟨f, f0, f1, f2, f3, f4, f5, f6, f7, f8, f9⟩ := box10 hA1) | (go_at_call 30; go_loud (refine (Hv.out _ hA1 hs1 e1 e2).mono ?_); rintro e w2 ⟨rfl, hm2, hI2⟩))
  obtain ⟨v, i1, i2, ⟨va, vn, vc, rfl⟩, ifr, i4⟩ := hI2
  have g1 := cell_of_one i1
  have g2 := cell_of_one i2
  have k1 := free_of_one i1
  have k2 := free_of_one i2
  have I4 := Lib.hid i4
  have hbw := hm2.below hA1 (by omega)
  clear i4 hm2 f0 f1 f2 f3 f4 f5 f6 f7 f8 f9
  go_region
  go_wp2
  have r1 : Box ((w2.setCell ⟨w.heap.size + 1, 0, none⟩ (.slice va vn vc)).setCell ⟨w.heap.size + 1 + 1, 0, none⟩ (.bool !(List.take 1 (visL n ch rs)).isEmpty)) (w.heap.size + 1) 31 (.slice va vn vc) := Box.other (one_setCell i1) (p := ⟨w.heap.size + 1 + 1, 0, none⟩) (show w.heap.size + 1 ≠ w.heap.size + 1 + 1 by omega) _
  have r2 : Box ((w2.setCell ⟨w.heap.size + 1, 0, none⟩ (.slice va vn vc)).setCell ⟨w.heap.size + 1 + 1, 0, none⟩ (.bool !(List.take 1 (visL n ch rs)).isEmpty)) (w.heap.size + 1 + 1) 4 (.bool !(List.take 1 (visL n ch rs)).isEmpty) := one_setCell (i2.other (p := ⟨w.heap.size + 1, 0, none⟩) (show w.heap.size + 1 + 1 ≠ w.heap.size + 1 by omega) _)
  have et : (List.take 1 (visL n ch rs)).isEmpty = (visL n ch rs).isEmpty := by cases visL n ch rs <;> rfl
  have eh : (List.take 1 (visL n ch rs)).getLast? = (visL n ch rs).head? := by cases visL n ch rs <;> rfl
  refine bodyPost_ret (v := .tuple #[.slice va vn vc, .bool !(List.take 1 (visL n ch rs)).isEmpty, .int .i64 0]) ?_ rfl ⟨_, by rw [et], ?_, ?_⟩
  · have c1 := cell_of_one r1
    have c2 := cell_of_one r2
    simp [results, Tryz.results9, go_sem, c1, c2]
  · have i4 := I4.out
    rw [eh] at i4
    show FirstV n ch rs opts _ _
    unfold FirstV
    split at i4
    · rename_i h
      rw [h]
      exact i4
    · rename_i c h
      rw [h]
      have hA : ∀ k, (Value.slice va vn vc).ownBlock = some k → k ≠ w.heap.size + 1 ∧ k ≠ w.heap.size + 1 + 1 := fun k hk => by have := ifr k hk; omega
      exact Sl.set (Sl.set i4 (p := ⟨w.heap.size + 1, 0, none⟩) (fun k hk => (hA k hk).1) _) (p := ⟨w.heap.size + 1 + 1, 0, none⟩) (fun k hk => (hA k hk).2) _
  · have h0 : Below w.heap.size w w2 := (below1 w _).trans (hbw.mono (by omega))
    exact ((h0.setCell (p := ⟨w.heap.size + 1, 0, none⟩) (show w.heap.size ≤ w.heap.size + 1 by omega) _).setCell (p := ⟨w.heap.size + 1 + 1, 0, none⟩) (show w.heap.size ≤ w.heap.size + 1 + 1 by omega) _).drew

end Go.Proofs.YtknpbcdmemlicaaGreatDoor
