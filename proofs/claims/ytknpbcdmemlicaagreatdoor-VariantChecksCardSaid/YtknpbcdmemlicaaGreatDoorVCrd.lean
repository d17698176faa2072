/-
  VariantChecks returns true for every family that comes in, never panics and changes nothing of its argument: Check and the other functions answer with the family's first error. Conditions: none beside what the statement itself says.
-/
import Derived.Test.YtknpbcdmemlicaaGreatDoorVLaw
import Derived.Test.YtknpbcdmemlicaaGreatDoorVFo
import Derived.Test.YtknpbcdmemlicaaGreatDoorVRw
import Derived.Test.YtknpbcdmemlicaaGreatDoorCards
import Derived.Test.YtknpbcdmemlicaaGreatDoorTie
import Derived.ProofKit
import Derived.OpenShut
import Derived.LaidMore
import Derived.Lay
import Derived.SevenTiedAt
namespace Go.Proofs.YtknpbcdmemlicaaGreatDoor
open Go.ChangeShapes Go.WideShapes Go.ChangeAt Go.RowKit

set_option maxRecDepth 100000 in
/-- A whole family that came in. -/
theorem fam_of_trod {H : Type} {enc : TypeId × Value → H} {w : World} {base : Nat} {held : Bool} {v : Value} {r : Reach} {b0 : Nat} {d : DataW H} {p : List MemPlace} (hv : Value.okWide Tryz.prog w r b0 36 v) (h : DataW.Trod enc Tryz.prog w base (fun _ => true) held 36 v d p) :
    ∃ (q0 q1 dv q4 q5 ov rv gv vv : Value) (ai : Option Addr) (mI ci : Nat) (ds : List Dim1) (opts : List ByteArray) (rs : List Rule1) (gs : List Guard1) (os : List Ov1), v = .agg #[q0, q1, .slice ai mI ci, dv, q4, q5, ov, rv, gv, vv] ∧ mI ≤ ci ∧ ci ≤ maxLen ∧ Dims w dv ds ∧ Strs w ov opts ∧ Rules w rv rs ∧ Gds w gv gs ∧ Ovs w vv os := by
  obtain ⟨cs, rfl, -⟩ := okWide_struct Tryz.underlying36 hv
  obtain ⟨fuel, hf⟩ := h
  obtain ⟨q0, q1, dv, q4, q5, ov, rv, gv, vv, ai, mI, ci, ds, opts, rs, gs, os, hcs, hrest⟩ := fam_cells hf
  refine ⟨q0, q1, dv, q4, q5, ov, rv, gv, vv, ai, mI, ci, ds, opts, rs, gs, os, ?_, hrest⟩
  have := congrArg List.toArray hcs
  simp only [Value.cells, Array.toArray_toList] at this
  rw [this]

set_option maxRecDepth 100000 in
theorem lifted (os : Os) (started : os.Started) (H : Type) (enc : TypeId × Value → H) :
    ReturnsInHanded {} Tryz.checked os 3 .any (fun w args => (Rows.variantChecksSpec.pre enc Tryz.prog Tryz.f3 [] false w args ∧ laidMetH Tryz.prog Rows.variantChecksRow.laid w) ∧ sizedMet enc Tryz.prog Tryz.f3 (OpenSpec.ofChange Rows.variantChecksSpec) false w args)
      (Rows.variantChecksSpec.post enc Tryz.prog Tryz.f3 false true false false) := by
  refine returnsInHanded_of_change_and (C := Tryz.checked) (X := fun w _ => laidMetH Tryz.prog Rows.variantChecksRow.laid w) (fun _ _ _ hh h => h.of_heap hh) try_own started (by kernel_rfl) Tryz.func3
    (ChangeSpec.witness_shaped (enc := enc) (C := Tryz.checked) (os := os) (X := fun w _ => laidMetH Tryz.prog Rows.variantChecksRow.laid w) false (World.laidAll Tryz.prog os Rows.variantChecksRow.laid) #[.agg #[.string ⟨#[]⟩, .slice none 0 0, .slice none 0 0, .slice none 0 0, .slice none 0 0, .slice none 0 0, .slice none 0 0, .slice none 0 0, .slice none 0 0, .slice none 0 0]] 8 (World.laidAll_os _ _ _)
      (World.shaped_of_ZipB (by kernel_rfl) (by kernel_rfl)) (by kernel_rfl) (by kernel_rfl) (by kernel_rfl)
      (by rw [MakeChecks.laidMetH_plain _ _ _ (by kernel_rfl)]; exact laidMet_laidAll _ (by kernel_rfl) (by kernel_rfl))) ?_
  intro W base args ds gs before hval0 hW _ _ hL _
  have hval : ∀ (j : Nat) t v, Tryz.f3.params[j]? = some t → args[j]? = some v → Value.okWide Tryz.prog W .any base t v := hval0
  have hW' := hW
  obtain ⟨p, q, hA0, hV, rfl, _, _⟩ := hW
  have hA : DataW.TrodAll enc Tryz.prog W 0 (fun _ => true) true Tryz.f3.params.toList args.toList ds p := hA0
  rw [Tryz.params3] at hA hval
  obtain ⟨v0, d0, rfl, rfl, h0⟩ := trodAll_one hA
  obtain ⟨rfl, rfl⟩ := trodVars_none hV
  obtain ⟨q0, q1, dv, q4, q5, ov, rv, gv, vv, ai, mI, ci, dds, oopts, rrs, ggs, oos, rfl, hi1, hi2, hD, hO, hR, hG, hV⟩ := fam_of_trod (hval 0 36 v0 rfl rfl) h0
  simp only [List.append_nil] at hW'
  refine (checks_any q0 q1 dv q4 q5 ov rv gv vv ai mI ci dds oopts rrs ggs oos W hi1 hi2 hD hO hR hG hV).mono fun e W' ⟨he, hb⟩ => ?_
  subst he
  refine ⟨_, rfl, post_of_below (pa := p) (pv := []) hW' (fun _ _ _ => trodAll_mk1 (shut_bool Tryz.underlying4 true)) (fun sp hsp => ?_) (fun _ _ => rfl) (by simp) hb (ok_one (by kernel_rfl) rfl (okWide_bool_mk Tryz.underlying4 true))⟩
  have hlt : ∀ x ∈ p, x.block < W.heap.size := fun x hx => hW'.lt x hx
  exact trodAll_mk1 (WideElems.Trod_stays try_laidOut (by kernel_rfl) (of_decide_eq_true (by kernel_rfl)) h0 (fun x hx => hb.same (hlt x hx)) (fun x hx => hsp x hx))

theorem fact1 : (Rows.variantChecksRow.inPlace == Tryz.prog.inPlace 3) = true := by kernel_rfl
theorem fact2 : (Rows.variantChecksRow.unfollowed == Tryz.prog.unfollowed 3) = true := by kernel_rfl
theorem fact3 : (Rows.variantChecksRow.recurses == Tryz.prog.recurses 3) = true := by kernel_rfl
theorem fact4 : (Rows.variantChecksRow.named == Tryz.prog.varsNamed 3) = true := by kernel_rfl
theorem facts : joinedFacts Tryz.prog 3 Tryz.f3 Rows.variantChecksSpec Rows.variantChecksRow = true := by
  unfold joinedFacts
  rw [fact1, fact2, fact3, fact4]
  kernel_rfl
theorem holds : Rows.VariantChecksSaid :=
  OpenClaim.holds_of_wide 3 Tryz.f3 rfl rfl rfl rfl rfl rfl rfl ⟨rfl, rfl, rfl, rfl, rfl⟩ rfl rfl rfl rfl rfl (by kernel_rfl) Tryz.func3 facts
    (of_decide_eq_true (by kernel_rfl)) (by unfold Func.isWrapper; first | (rw [if_pos (by decide +kernel)]; kernel_rfl) | (rw [if_neg (by decide +kernel)]; exact ⟨rfl, rfl⟩))
    (fun os started H enc _ => lifted os started H enc)
theorem card_holds : Rows.VariantChecksCardSaid :=
  Claim7.holds_tied_plain_at .later [] [.data, .data, .data, .data, .sentinel, .sentinel, .pinned] true (true, "839d68b316b8496fb32eeccc738cab57ba048e9ca2c71d5feaa64e1bd9f47158") true holds (fun _ h => by cases h) (by kernel_rfl) (fun _ h => by cases h) variantChecks_row_tie rfl ⟨rfl, rfl⟩ (by kernel_rfl) rfl
    (fun f fn hf hfn => by
      obtain rfl : f = 3 := Option.some.inj ((show Tryz.prog.funcNamed Tryz.f3.name = some 3 by kernel_rfl).symm.trans hf) |>.symm
      obtain rfl : fn = Tryz.f3 := (Option.some.inj (Tryz.func3.symm.trans hfn)).symm
      exact ⟨by kernel_rfl, fun j t ht => by
        rw [Tryz.params3] at ht
        have hm : t ∈ [36] := by simpa using Array.mem_of_getElem? ht
        have hall : ([36].all fun u => !Tryz.prog.wantsStandIn u) = true := by kernel_rfl
        exact (show Tryz.prog.wantsStandIn t = false by simpa using List.all_eq_true.1 hall t hm)⟩)
    (by kernel_rfl)

end Go.Proofs.YtknpbcdmemlicaaGreatDoor
