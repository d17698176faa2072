/-
  known.
-/
import Derived.Test.YtknpbcdmemlicaaGreatDoorVFat
import Derived.Test.YtknpbcdmemlicaaGreatDoorVSame
import Derived.Test.YtknpbcdmemlicaaGreatDoorVFst2
import Derived.Test.YtknpbcdmemlicaaGreatDoorVFor2
import Derived.Test.YtknpbcdmemlicaaGreatDoorVCf2
namespace Go.Proofs.YtknpbcdmemlicaaGreatDoor
open Go.RowKit

def knR : List (List Int) := [[0, 1], [-6, -1], [-1, 2]]
def knRS : List Rule1 := rulesTo 3 knR 3
theorem kn_count : visL 3 [] knRS = [2560, 2048, 1536] := by decide +kernel
theorem kn_first : sel (fun i => bitB 2560 i) (optsTo 3) = [⟨#[97]⟩, ⟨#[99]⟩] := by decide +kernel
theorem kn_forced : forcedTo (visL 3 [(1, true)] knRS) 3 = [(0, false), (1, true), (2, true)] := by decide +kernel
theorem kn_conf0 : (visL 3 [(1, true), (2, false)] knRS).isEmpty = true := by decide +kernel
theorem kn_conf : (conflTo 3 [(1, true), (2, false)] knRS 3).2 = [2] := by decide +kernel
theorem kn_rs : knRS = [(⟨#[114, 49]⟩, [(0, true), (1, true)]), (⟨#[114, 50]⟩, [(0, false), (1, false)]), (⟨#[114, 51]⟩, [(1, false), (2, true)])] := by decide +kernel

theorem own_setCell {w : World} {M e sz n g cap : Nat} {xs : List Value} (h : w.ownsRow M e sz (.slice (some ⟨g, 0, none⟩) n cap) n xs) {i : Nat} (_ : i < n * sz) (v : Value) :
    (w.setCell ⟨g, i, none⟩ v).ownsRow M e sz (.slice (some ⟨g, 0, none⟩) n cap) n (xs.set i v) := by
  refine ⟨by rw [List.length_set]; exact h.1, .inr ?_⟩
  rcases h.2 with ⟨hv, _⟩ | ⟨g', cap', cur, hv, h1, h2, h3, h4, h5, h6⟩
  · cases hv
  · cases hv
    refine ⟨g, cap, cur.setIfInBounds i v, rfl, h1, heap_setCell_same w g i cur e v h2, h3, h4, by simpa using h5, ?_⟩
    rw [← h6, Array.toList_setIfInBounds, List.take_set]

theorem Sl.nil0 {w w' : World} {sz : Nat} {v : Value} (h : Sl w sz v []) (hs : w.heap.size ≤ w'.heap.size) : Sl w' sz v [] := by
  obtain ⟨a, cap, hv, hc, hm, h⟩ := h
  refine ⟨a, cap, hv, hc, hm, ?_⟩
  rcases h with h | ⟨b, off, ha, hlt, hcell⟩
  · exact .inl h
  · exact .inr ⟨b, off, ha, by omega, fun i j hi _ => by simp at hi⟩

theorem kn_fam {w1 w3 w4 : World} {v7 v9 v10 : Value} {a8 : Option Addr} {c8 : Nat} {rvk : List (Value × Value)} {ad : Option Addr} {cd : Nat} {ai : Option Addr} {ci : Nat} (h : FamP w1 w3 3 knR [] [] v7 (.slice a8 3 c8) v9 v10 rvk) (hd : Dims w1 (.slice ad 2 cd) baseDims) (h34 : Below w3.heap.size w3 w4) :
    ∃ g u, a8 = some ⟨g, 0, none⟩ ∧ g < w3.heap.size ∧ w3.cell? ⟨g, 3, none⟩ = some u ∧ w3.frozen? ⟨g, 3, none⟩ = false ∧ 3 ≤ c8 ∧ c8 ≤ maxLen ∧ w1.heap.size ≤ g ∧
      Fam ((w4.alloc (.cells #[.int .i64 0, .bool false, .int .i64 1, .bool false] 73)).setCell ⟨g, 3, none⟩ (.slice (some ⟨w4.heap.size, 0, none⟩) 2 2)) baseS nilV (.slice ai 3 ci) (.slice ad 2 cd) nilV nilV v7 (.slice a8 3 c8) v9 v10 (optsTo 3) knRS [] [] 3 baseDims := by
  have h8 : w3.ownsRow (w1.heap.size + 4) 40 2 (.slice a8 3 c8) 3 ((rvk.map c2).flatten) := h.own8
  obtain ⟨g, rfl⟩ : ∃ g, a8 = some ⟨g, 0, none⟩ := by
    rcases h8.2 with ⟨hv, h0⟩ | ⟨g, cap, cur, hv, _⟩
    · omega
    · cases hv; exact ⟨g, rfl⟩
  have hlen : rvk.length = 3 := h.row.1
  obtain ⟨x0, x1, x2, rfl⟩ : ∃ x0 x1 x2, rvk = [x0, x1, x2] := by
    match rvk, hlen with
    | [x0, x1, x2], _ => exact ⟨x0, x1, x2, rfl⟩
  have hg := h8.lt g (by simp [Value.ownBlock])
  have h4 := own_below h8 h34
  have h5 := own_below h4 (below1 w4 (.cells #[.int .i64 0, .bool false, .int .i64 1, .bool false] 73))
  have h6 := own_setCell h5 (i := 3) (by omega) (.slice (some ⟨w4.heap.size, 0, none⟩) 2 2)
  have he : Eqb w3.heap.size g w3 ((w4.alloc (.cells #[.int .i64 0, .bool false, .int .i64 1, .bool false] 73)).setCell ⟨g, 3, none⟩ (.slice (some ⟨w4.heap.size, 0, none⟩) 2 2)) :=
    (((Eqb.refl g).below h34).below (below1 _ _)).set 3 _
  have hnew : Lits ((w4.alloc (.cells #[.int .i64 0, .bool false, .int .i64 1, .bool false] 73)).setCell ⟨g, 3, none⟩ (.slice (some ⟨w4.heap.size, 0, none⟩) 2 2)) (.slice (some ⟨w4.heap.size, 0, none⟩) 2 2) [(0, false), (1, false)] := by
    refine Sl.set ?_ (p := ⟨g, 3, none⟩) (fun k hk => by simp only [Value.ownBlock, Option.some.injEq] at hk; have := h34.size; show k ≠ g; omega) _
    refine ⟨some ⟨w4.heap.size, 0, none⟩, 2, rfl, Nat.le_refl _, by decide, .inr ⟨w4.heap.size, 0, rfl, by simp, fun i j hi hj => ?_⟩⟩
    rw [Nat.zero_add, (Blk.new w4 #[.int .i64 0, .bool false, .int .i64 1, .bool false] 73).cell]
    have hi : i < 2 := hi
    rcases i with _ | _ | i <;> rcases j with _ | _ | j <;> first | omega | rfl
  have hcap : 3 ≤ c8 ∧ c8 ≤ maxLen := by
    rcases h8.2 with ⟨hv, _⟩ | ⟨g', cap, cur, hv, _, hh, q1, q2, _⟩
    · cases hv
    · cases hv; exact ⟨q1, q2⟩
  refine ⟨g, x1.2, rfl, hg.2, ?_, ?_, hcap.1, hcap.2, by omega, ?_⟩
  · exact h8.cells (g := g) (by simp [Value.ownBlock]) 3 x1.2 rfl
  · rcases h8.2 with ⟨hv, _⟩ | ⟨g', cap, cur, hv, _, hh, _⟩
    · cases hv
    · cases hv; exact frozen_of_row w3 g 3 cur 40 hh
  · have hr0 := h.row.2
    have hrs : rulesTo 3 knR (min knR.length 6) = [(⟨#[114, 49]⟩, [(0, true), (1, true)]), (⟨#[114, 50]⟩, [(0, false), (1, false)]), (⟨#[114, 51]⟩, [(1, false), (2, true)])] := kn_rs
    rw [hrs] at hr0
    obtain ⟨n0, l0⟩ := hr0 0 x0 _ rfl rfl
    obtain ⟨n1, l1⟩ := hr0 1 x1 _ rfl rfl
    obtain ⟨n2, l2⟩ := hr0 2 x2 _ rfl rfl
    have hsp := h.sep
    have v7ne := own_ne h.own7 h8 (by decide)
    have hdl := dims_lt hd
    refine ⟨⟨ai, ci, rfl⟩, ?_, ?_, ?_, ?_, ?_, famOk_of 3 3 0 0 knR [] [] (by omega) (by omega) (by omega) (by omega)⟩
    · exact Sl.eqb (hd.mono h.below) he (fun b hb => by have := hdl b hb; have := h.below.size; omega)
    · refine Sl.own1 (own_eqb h.own7 he (fun b hb => ⟨(h.own7.lt b hb).2, fun e => ?_⟩))
      subst e
      rcases v7ne with h0 | h0
      · rw [h0] at hb; cases hb
      · exact h0 (by rw [hb]; rfl)
    · rw [kn_rs]
      refine ⟨[x0, (x1.1, .slice (some ⟨w4.heap.size, 0, none⟩) 2 2), x2], own_rows (w := _) (B := w1.heap.size + 4) (n := 3) h6, rfl, fun k x r hx hr => ?_⟩
      have far : ∀ y ∈ [x0, x1, x2], ∀ ls, Lits w3 y.2 ls → Lits ((w4.alloc (.cells #[.int .i64 0, .bool false, .int .i64 1, .bool false] 73)).setCell ⟨g, 3, none⟩ (.slice (some ⟨w4.heap.size, 0, none⟩) 2 2)) y.2 ls := fun y hy ls hl =>
        Sl.eqb hl he (fun b hb => ⟨(hsp y hy b hb).2.1, fun e => (hsp y hy b hb).2.2 (by rw [e]; rfl)⟩)
      rcases k with _ | _ | _ | k
      · simp at hx hr; subst hx hr; exact ⟨n0, far x0 (by simp) _ l0⟩
      · simp at hx hr; subst hx hr; exact ⟨n1, hnew⟩
      · simp at hx hr; subst hx hr; exact ⟨n2, far x2 (by simp) _ l2⟩
      · simp at hx
    · have := (h.rest 0 w3 (by omega) (Eqb.refl 0)).1
      obtain ⟨rv, q1, q2, q3⟩ := this
      have : rv = [] := List.length_eq_zero_iff.1 q2
      subst this
      exact ⟨[], Sl.nil0 q1 (by have := he.size; exact this), rfl, fun k x r hx => by simp at hx⟩
    · have := (h.rest 0 w3 (by omega) (Eqb.refl 0)).2
      obtain ⟨rv, q1, q2, q3⟩ := this
      have : rv = [] := by
        have := congrArg List.length q2
        simp [ovsTo] at this
        exact this
      subst this
      exact ⟨[], Sl.nil0 q1 (by have := he.size; exact this), rfl, fun x hx => by simp at hx⟩

theorem blk2 {w : World} {b : Nat} {x0 x1 : Value} {T : TypeId} (h : Blk w b #[x0, x1] T) : w.cell? ⟨b, 0, none⟩ = some x0 ∧ w.cell? ⟨b, 1, none⟩ = some x1 := ⟨h.cell 0, h.cell 1⟩
theorem lits1 (w : World) (a : Int) (b : Bool) : Lits (w.alloc (.cells #[.int .i64 a, .bool b] 73)) (.slice (some ⟨w.heap.size, 0, none⟩) 1 1) [(a, b)] := by
  refine ⟨some ⟨w.heap.size, 0, none⟩, 1, rfl, Nat.le_refl _, by decide, .inr ⟨w.heap.size, 0, rfl, by simp, fun i j hi hj => ?_⟩⟩
  have hi : i < 1 := hi
  rw [Nat.zero_add, (Blk.new w #[.int .i64 a, .bool b] 73).cell]
  rcases i with _ | i <;> rcases j with _ | _ | j <;> first | omega | rfl
theorem lits2 (w : World) (a c : Int) (b d : Bool) : Lits (w.alloc (.cells #[.int .i64 a, .bool b, .int .i64 c, .bool d] 73)) (.slice (some ⟨w.heap.size, 0, none⟩) 2 2) [(a, b), (c, d)] := by
  refine ⟨some ⟨w.heap.size, 0, none⟩, 2, rfl, Nat.le_refl _, by decide, .inr ⟨w.heap.size, 0, rfl, by simp, fun i j hi hj => ?_⟩⟩
  have hi : i < 2 := hi
  rw [Nat.zero_add, (Blk.new w #[.int .i64 a, .bool b, .int .i64 c, .bool d] 73).cell]
  rcases i with _ | _ | i <;> rcases j with _ | _ | j <;> first | omega | rfl
theorem lits3 (w : World) (a c m : Int) (b d n : Bool) : Lits (w.alloc (.cells #[.int .i64 a, .bool b, .int .i64 c, .bool d, .int .i64 m, .bool n] 73)) (.slice (some ⟨w.heap.size, 0, none⟩) 3 3) [(a, b), (c, d), (m, n)] := by
  refine ⟨some ⟨w.heap.size, 0, none⟩, 3, rfl, Nat.le_refl _, by decide, .inr ⟨w.heap.size, 0, rfl, by simp, fun i j hi hj => ?_⟩⟩
  have hi : i < 3 := hi
  rw [Nat.zero_add, (Blk.new w #[.int .i64 a, .bool b, .int .i64 c, .bool d, .int .i64 m, .bool n] 73).cell]
  rcases i with _ | _ | _ | i <;> rcases j with _ | _ | j <;> first | omega | rfl
theorem strs2 (w : World) (a b : ByteArray) (T : TypeId) : Strs (w.alloc (.cells #[.string a, .string b] T)) (.slice (some ⟨w.heap.size, 0, none⟩) 2 2) [a, b] := by
  refine ⟨some ⟨w.heap.size, 0, none⟩, 2, rfl, Nat.le_refl _, by decide, .inr ⟨w.heap.size, 0, rfl, by simp, fun i j hi hj => ?_⟩⟩
  have hi : i < 2 := hi
  rw [Nat.zero_add, (Blk.new w #[.string a, .string b] T).cell]
  rcases i with _ | _ | i <;> rcases j with _ | j <;> first | omega | rfl
theorem ints1 (w : World) (a : Int) (T : TypeId) : Ints (w.alloc (.cells #[.int .i64 a] T)) (.slice (some ⟨w.heap.size, 0, none⟩) 1 1) [a] := by
  refine ⟨some ⟨w.heap.size, 0, none⟩, 1, rfl, Nat.le_refl _, by decide, .inr ⟨w.heap.size, 0, rfl, by simp, fun i j hi hj => ?_⟩⟩
  have hi : i < 1 := hi
  rw [Nat.zero_add, (Blk.new w #[.int .i64 a] T).cell]
  rcases i with _ | i <;> rcases j with _ | j <;> first | omega | rfl
theorem m8_nil (w : World) : M8 w (.slice none 0 0) [] := ⟨[], Sl.nil w 1, rfl, fun k x r h => by simp at h⟩
theorem i8_two {w : World} {b : Nat} {x y : Int} (h : Blk w b #[.int .i8 x, .int .i8 y] 66) : I8s w (.slice (some ⟨b, 0, none⟩) 2 2) [x, y] := by
  refine ⟨some ⟨b, 0, none⟩, 2, rfl, Nat.le_refl _, by decide, .inr ⟨b, 0, rfl, h.lt, fun i j hi hj => ?_⟩⟩
  have hi : i < 2 := hi
  rw [Nat.zero_add, h.cell]
  rcases i with _ | _ | i <;> rcases j with _ | j <;> first | omega | rfl
theorem kn_m8 (w : World) : M8 ((((w.alloc (.cells #[.int .i8 0, .int .i8 1] 66)).alloc (.cells #[.int .i8 (-6), .int .i8 (-1)] 66)).alloc (.cells #[.int .i8 (-1), .int .i8 2] 66)).alloc (.cells #[.slice (some ⟨w.heap.size, 0, none⟩) 2 2, .slice (some ⟨w.heap.size + 1, 0, none⟩) 2 2, .slice (some ⟨w.heap.size + 1 + 1, 0, none⟩) 2 2] 67))
    (.slice (some ⟨w.heap.size + 1 + 1 + 1, 0, none⟩) 3 3) knR := by
  have b0 := (((Blk.new w #[.int .i8 0, .int .i8 1] 66).old (.cells #[.int .i8 (-6), .int .i8 (-1)] 66)).old (.cells #[.int .i8 (-1), .int .i8 2] 66)).old (.cells #[.slice (some ⟨w.heap.size, 0, none⟩) 2 2, .slice (some ⟨w.heap.size + 1, 0, none⟩) 2 2, .slice (some ⟨w.heap.size + 1 + 1, 0, none⟩) 2 2] 67)
  have b1 := ((Blk.new (w.alloc (.cells #[.int .i8 0, .int .i8 1] 66)) #[.int .i8 (-6), .int .i8 (-1)] 66).old (.cells #[.int .i8 (-1), .int .i8 2] 66)).old (.cells #[.slice (some ⟨w.heap.size, 0, none⟩) 2 2, .slice (some ⟨w.heap.size + 1, 0, none⟩) 2 2, .slice (some ⟨w.heap.size + 1 + 1, 0, none⟩) 2 2] 67)
  have b2 := (Blk.new ((w.alloc (.cells #[.int .i8 0, .int .i8 1] 66)).alloc (.cells #[.int .i8 (-6), .int .i8 (-1)] 66)) #[.int .i8 (-1), .int .i8 2] 66).old (.cells #[.slice (some ⟨w.heap.size, 0, none⟩) 2 2, .slice (some ⟨w.heap.size + 1, 0, none⟩) 2 2, .slice (some ⟨w.heap.size + 1 + 1, 0, none⟩) 2 2] 67)
  have b3 := Blk.new (((w.alloc (.cells #[.int .i8 0, .int .i8 1] 66)).alloc (.cells #[.int .i8 (-6), .int .i8 (-1)] 66)).alloc (.cells #[.int .i8 (-1), .int .i8 2] 66)) #[.slice (some ⟨w.heap.size, 0, none⟩) 2 2, .slice (some ⟨w.heap.size + 1, 0, none⟩) 2 2, .slice (some ⟨w.heap.size + 1 + 1, 0, none⟩) 2 2] 67
  simp only [World.size_alloc] at b1 b2 b3
  generalize ((((w.alloc (.cells #[.int .i8 0, .int .i8 1] 66)).alloc (.cells #[.int .i8 (-6), .int .i8 (-1)] 66)).alloc (.cells #[.int .i8 (-1), .int .i8 2] 66)).alloc (.cells #[.slice (some ⟨w.heap.size, 0, none⟩) 2 2, .slice (some ⟨w.heap.size + 1, 0, none⟩) 2 2, .slice (some ⟨w.heap.size + 1 + 1, 0, none⟩) 2 2] 67)) = w0 at *
  refine ⟨[.slice (some ⟨w.heap.size, 0, none⟩) 2 2, .slice (some ⟨w.heap.size + 1, 0, none⟩) 2 2, .slice (some ⟨w.heap.size + 1 + 1, 0, none⟩) 2 2], ?_, rfl, fun k x r hx hr => ?_⟩
  · refine ⟨some ⟨w.heap.size + 1 + 1 + 1, 0, none⟩, 3, rfl, Nat.le_refl _, by decide, .inr ⟨_, 0, rfl, b3.lt, fun i j hi hj => ?_⟩⟩
    have hi : i < 3 := hi
    rw [Nat.zero_add, b3.cell]
    rcases i with _ | _ | _ | i <;> rcases j with _ | j <;> first | omega | rfl
  · rcases k with _ | _ | _ | k
    · simp [knR] at hx hr; subst hx hr; exact i8_two b0
    · simp [knR] at hx hr; subst hx hr; exact i8_two b1
    · simp [knR] at hx hr; subst hx hr; exact i8_two b2
    · simp at hx

set_option maxHeartbeats 2000000 in
set_option maxRecDepth 100000 in
theorem known_any (w : World) : Calls Tryz.prog 4 #[] w (Ret (.bool true) w) := by
  go_enter Tryz.func4, Tryz.ntmps4
  go_wp2_with fail
  have hb4 : Below w.heap.size w ((((w.alloc (.cells #[.int .i8 0, .int .i8 1] 66)).alloc (.cells #[.int .i8 (-6), .int .i8 (-1)] 66)).alloc (.cells #[.int .i8 (-1), .int .i8 2] 66)).alloc (.cells #[.slice (some ⟨w.heap.size, 0, none⟩) 2 2, .slice (some ⟨w.heap.size + 1, 0, none⟩) 2 2, .slice (some ⟨w.heap.size + 1 + 1, 0, none⟩) 2 2] 67)) :=
    (below3 _ _ _ _).alloc (by simp; omega) _
  have hM0 := kn_m8 w
  generalize ((((w.alloc (.cells #[.int .i8 0, .int .i8 1] 66)).alloc (.cells #[.int .i8 (-6), .int .i8 (-1)] 66)).alloc (.cells #[.int .i8 (-1), .int .i8 2] 66)).alloc (.cells #[.slice (some ⟨w.heap.size, 0, none⟩) 2 2, .slice (some ⟨w.heap.size + 1, 0, none⟩) 2 2, .slice (some ⟨w.heap.size + 1 + 1, 0, none⟩) 2 2] 67)) = w0 at *
  refine (plain_any _).mono ?_
  rintro e w1 ⟨ai, ci, ad, cd, rfl, hdim, hfr, hb1⟩
  have Hdim := Lib.hid hdim
  have HM := Lib.hid (hM0.mono hb1)
  have Hb1 := Lib.hid (hb4.via hb1 hb4.size)
  clear hdim hfr hb1 hM0 hb4
  go_wp2_with fail
  refine (family_any 2 knR [] [] _ _ _ ai ci ad cd w1 (by omega) (by omega) (by decide) (by decide) (by decide) HM.out (m8_nil _) (m8_nil _) Hdim.out).mono ?_
  rintro e w3 ⟨a7, c7, a8, c8, a9, c9, a10, c10, rvk, rfl, hP⟩
  obtain ⟨g, u, rfl, hglt, hcell, hfree, hc8, hc8m, hgge, hFam⟩ := kn_fam (w4 := w3.alloc (.cells #[baseS, nilV, .slice ai 3 ci, .slice ad 2 cd, nilV, nilV, .slice a7 3 c7, .slice a8 3 c8, .slice a9 0 c9, .slice a10 0 c10] 36)) (ai := ai) (ci := ci) hP Hdim.out (below1 _ _)
  have HFam := Lib.hid hFam
  have HP := Lib.hid hP
  clear hFam hP
  unfold maxLen at hc8m
  have e1 : (1 + (2 : Int) % 6).toNat = 3 := rfl
  have e2 : min knR.length 6 = 3 := rfl
  have e3 : min ([] : List (List Int)).length 4 = 0 := rfl
  rw [e1, e2, e3]
  clear e1 e2 e3
  go_wp2_with fail
  have hW : ((w3.alloc (.cells #[baseS, nilV, .slice ai 3 ci, .slice ad 2 cd, nilV, nilV, .slice a7 3 c7, .slice (some ⟨g, 0, none⟩) 3 c8, .slice a9 0 c9, .slice a10 0 c10] 36)).alloc (.cells #[.int .i64 0, .bool false, .int .i64 1, .bool false] 73)).setCell ⟨g, 3, none⟩ (.slice (some ⟨w3.heap.size + 1, 0, none⟩) 2 2) =
      ((w3.setCell ⟨g, 3, none⟩ (.slice (some ⟨w3.heap.size + 1, 0, none⟩) 2 2)).alloc (.cells #[baseS, nilV, .slice ai 3 ci, .slice ad 2 cd, nilV, nilV, .slice a7 3 c7, .slice (some ⟨g, 0, none⟩) 3 c8, .slice a9 0 c9, .slice a10 0 c10] 36)).alloc (.cells #[.int .i64 0, .bool false, .int .i64 1, .bool false] 73) := by
    go_simp
  have hFz := HFam.out
  simp only [World.size_alloc] at hFz
  rw [hW] at hFz
  have hBz := (Blk.new (w3.setCell ⟨g, 3, none⟩ (.slice (some ⟨w3.heap.size + 1, 0, none⟩) 2 2)) #[baseS, nilV, .slice ai 3 ci, .slice ad 2 cd, nilV, nilV, .slice a7 3 c7, .slice (some ⟨g, 0, none⟩) 3 c8, .slice a9 0 c9, .slice a10 0 c10] 36).old (.cells #[.int .i64 0, .bool false, .int .i64 1, .bool false] 73)
  have hsS : (w3.setCell ⟨g, 3, none⟩ (.slice (some ⟨w3.heap.size + 1, 0, none⟩) 2 2)).heap.size = w3.heap.size := by simp [World.setCell]
  have hbel : Below w.heap.size w (((w3.setCell ⟨g, 3, none⟩ (.slice (some ⟨w3.heap.size + 1, 0, none⟩) 2 2)).alloc (.cells #[baseS, nilV, .slice ai 3 ci, .slice ad 2 cd, nilV, nilV, .slice a7 3 c7, .slice (some ⟨g, 0, none⟩) 3 c8, .slice a9 0 c9, .slice a10 0 c10] 36)).alloc (.cells #[.int .i64 0, .bool false, .int .i64 1, .bool false] 73)) := by
    have q1 := Hb1.out.size
    have q2 := HP.out.below.size
    exact (((Hb1.out.via HP.out.below q1).setCell (p := ⟨g, 3, none⟩) (show w.heap.size ≤ g by omega) _).alloc (by rw [hsS]; omega) _).alloc (by rw [World.size_alloc, hsS]; omega) _
  have hsz : (((w3.setCell ⟨g, 3, none⟩ (.slice (some ⟨w3.heap.size + 1, 0, none⟩) 2 2)).alloc (.cells #[baseS, nilV, .slice ai 3 ci, .slice ad 2 cd, nilV, nilV, .slice a7 3 c7, .slice (some ⟨g, 0, none⟩) 3 c8, .slice a9 0 c9, .slice a10 0 c10] 36)).alloc (.cells #[.int .i64 0, .bool false, .int .i64 1, .bool false] 73)).heap.size = w3.heap.size + 1 + 1 := by
    rw [World.size_alloc, World.size_alloc, hsS]
  rw [hsS] at hBz
  clear hW hsS hcell hfree
  generalize (((w3.setCell ⟨g, 3, none⟩ (.slice (some ⟨w3.heap.size + 1, 0, none⟩) 2 2)).alloc (.cells #[baseS, nilV, .slice ai 3 ci, .slice ad 2 cd, nilV, nilV, .slice a7 3 c7, .slice (some ⟨g, 0, none⟩) 3 c8, .slice a9 0 c9, .slice a10 0 c10] 36)).alloc (.cells #[.int .i64 0, .bool false, .int .i64 1, .bool false] 73)) = wy at *
  have hbx := Blk.new wy #[.int .i64 1, .bool true] 73
  rw [hsz] at hbx
  have hFz := hFz.mono (below1 wy (.cells #[.int .i64 1, .bool true] 73))
  have hBz := hBz.old (.cells #[.int .i64 1, .bool true] 73)
  have hbel := hbel.alloc (by have := hbel.size; omega) (.cells #[.int .i64 1, .bool true] 73)
  generalize wy.alloc (.cells #[.int .i64 1, .bool true] 73) = wz at *
  have HF := Lib.hid (fun w' (h : Below wz.heap.size wz w') => hFz.mono h)
  have HBf := Lib.hid (fun w' (h : Below wz.heap.size wz w') => hBz.below h)
  have HBb := Lib.hid (fun w' (h : Below wz.heap.size wz w') => blk2 (hbx.below h))
  have Hbel := Lib.hid hbel
  clear hFz hBz hbx hbel hsz HFam HP HM Hdim Hb1 hc8 hc8m hgge hglt
  refine ((count_ok _ _ _ _ _ _ _ _ _ _ nilV _ _ _ _ _ _ [] wz (HF.out wz (Below.refl _ _)) (by decide) (Sl.nil wz 2) (by decide) rfl)).mono ?_
  rintro e w4 ⟨rfl, hb4⟩
  have e1 : (((visL (optsTo 3).length [] knRS).length : Nat) : Int) = 3 := by rw [show (optsTo 3).length = 3 from rfl, kn_count]; rfl
  rw [e1]
  clear e1
  obtain ⟨x0, x1, x2, x3, x4, x5, x6, x7, x8, x9, -⟩ := blk10 (HBf.out w4 hb4)
  obtain ⟨xb0, xb1⟩ := HBb.out w4 hb4
  go_wp2_with fail
  refine (first_ok _ _ _ _ _ _ _ _ _ _ nilV _ _ _ _ _ _ [] w4 (HF.out w4 hb4) (by decide) (Sl.nil w4 2) (by decide) rfl).mono ?_
  rintro e w5 ⟨v, rfl, hfv, hb5⟩
  have e1 : (!(visL (optsTo 3).length [] knRS).isEmpty) = true := by rw [show (optsTo 3).length = 3 from rfl, kn_count]; rfl
  rw [e1]
  have hfv2 : Strs w5 v [⟨#[97]⟩, ⟨#[99]⟩] := by
    rw [show (optsTo 3).length = 3 from rfl] at hfv
    unfold FirstV at hfv
    rw [kn_count] at hfv
    rw [← kn_first]; exact hfv
  obtain ⟨av, cv, rfl, -, -⟩ := hfv2.open
  have Hfv := Lib.hid hfv2
  have hb5 := hb4.via hb5 hb4.size
  clear e1 hfv hfv2 hb4
  obtain ⟨y0, y1, y2, y3, y4, y5, y6, y7, y8, y9, -⟩ := blk10 (HBf.out w5 hb5)
  obtain ⟨yb0, yb1⟩ := HBb.out w5 hb5
  go_wp2_with fail
  have hb5' := hb5.alloc hb5.size (.cells #[.int .i64 1, .bool true] 73)
  refine (forced_ok _ _ _ _ _ _ _ _ _ _ _ _ _ _ _ _ _ [(1, true)] _ (HF.out _ hb5') (by decide) (lits1 w5 1 true) (by decide) rfl (by decide +kernel)).mono ?_
  rintro e w6 ⟨v, rfl, hfl, hb6⟩
  have hfl2 : Lits w6 v [(0, false), (1, true), (2, true)] := by
    rw [show (optsTo 3).length = 3 from rfl, kn_forced] at hfl; exact hfl
  obtain ⟨al, cl, rfl, -, -⟩ := hfl2.open
  have Hfl := Lib.hid hfl2
  have Hb56 := Lib.hid (show Below w5.heap.size w5 w6 from (below1 w5 _).via hb6 (by simp))
  have hb6 := hb5'.via hb6 hb5'.size
  clear hfl hfl2 hb5' hb5
  obtain ⟨t0, t1, t2, t3, t4, t5, t6, t7, t8, t9, -⟩ := blk10 (HBf.out w6 hb6)
  obtain ⟨tb0, tb1⟩ := HBb.out w6 hb6
  go_wp2_with fail
  have hb6' := hb6.alloc hb6.size (.cells #[.int .i64 1, .bool true, .int .i64 2, .bool false] 73)
  refine (conflict_some _ _ _ _ _ _ _ _ _ _ _ _ _ _ _ _ _ [(1, true), (2, false)] _ (HF.out _ hb6') (by decide) (lits2 w6 1 2 true false) (by decide) rfl (by decide +kernel)).mono ?_
  rintro e w7 ⟨v, rfl, hci, hb7⟩
  have hci2 : Ints w7 v [2] := by
    rw [show (optsTo 3).length = 3 from rfl, show knRS.length = 3 from rfl, kn_conf] at hci; exact hci
  obtain ⟨ac, cc, rfl, -, -⟩ := hci2.open
  have Hci := Lib.hid hci2
  have Hb67 := Lib.hid (show Below w6.heap.size w6 w7 from (below1 w6 _).via hb7 (by simp))
  have hb7 := hb6'.via hb7 hb6'.size
  clear hci hci2 hb6' hb6
  obtain ⟨p0, p1, p2, p3, p4, p5, p6, p7, p8, p9, -⟩ := blk10 (HBf.out w7 hb7)
  obtain ⟨pb0, pb1⟩ := HBb.out w7 hb7
  go_wp2_with fail
  refine (sameNames_any _ _ _ _ _ ((Hfv.out.mono (Hb56.out.via Hb67.out Hb56.out.size)).mono (below1 w7 _)) (strs2 w7 ⟨#[97]⟩ ⟨#[99]⟩ 9) (by decide)).mono ?_
  rintro e w8 ⟨rfl, hb8⟩
  have e1 : decide (([⟨#[97]⟩, ⟨#[99]⟩] : List ByteArray) = [⟨#[97]⟩, ⟨#[99]⟩]) = true := by simp
  rw [e1]
  have Hb78 := Lib.hid (show Below w7.heap.size w7 w8 from (below1 w7 _).via hb8 (by simp))
  have hb8 := hb7.via Hb78.out hb7.size
  clear e1 hb7
  obtain ⟨q0, q1, q2, q3, q4, q5, q6, q7, q8, q9, -⟩ := blk10 (HBf.out w8 hb8)
  obtain ⟨qb0, qb1⟩ := HBb.out w8 hb8
  go_wp2_with fail
  refine (sameLits_any _ _ _ _ _ (Hfl.out.mono ((Hb67.out.via Hb78.out Hb67.out.size).alloc (by have := Hb67.out.size; have := Hb78.out.size; omega) _)) (lits3 w8 0 1 2 false true true) (by decide)).mono ?_
  rintro e w9 ⟨rfl, hb9⟩
  have e1 : decide (([(0, false), (1, true), (2, true)] : List Lit1) = [(0, false), (1, true), (2, true)]) = true := by simp
  rw [e1]
  have Hb89 := Lib.hid (show Below w8.heap.size w8 w9 from (below1 w8 _).via hb9 (by simp))
  have hb9 := hb8.via Hb89.out hb8.size
  clear e1 hb8
  go_wp2_with fail
  refine (sameInts_any _ _ _ _ _ (Hci.out.mono ((Hb78.out.via Hb89.out Hb78.out.size).alloc (by have := Hb78.out.size; have := Hb89.out.size; omega) _)) (ints1 w9 2 3) (by decide)).mono ?_
  rintro e w10 ⟨rfl, hb10⟩
  have e1 : decide (([2] : List Int) = [2]) = true := by simp
  rw [e1]
  have hb10 := hb9.via (show Below w9.heap.size w9 w10 from (below1 w9 _).via hb10 (by simp)) hb9.size
  clear e1 hb9
  go_wp2_with fail
  go_ret
  exact Ret.mk (Hbel.out.via hb10 Hbel.out.size)

end Go.Proofs.YtknpbcdmemlicaaGreatDoor
