/-
  slices.Delete at rules, of a row that the call owns.
-/
import Derived.Test.YtknpbcdmemlicaaGreatDoorVClone
import Derived.Deep.RegionLaw
import Derived.Deep.MidRow
namespace Go.Proofs.YtknpbcdmemlicaaGreatDoor
open Go.RowKit

theorem run_clear70 (w : World) (ty : TypeId) (g o c : Nat) (hc : ∀ j, j < 2 → (w.cell? ⟨g, o + j, none⟩).isSome = true) (hf : ∀ j, j < 2 → w.frozen? ⟨g, o + j, none⟩ = false) :
    (Builtin.clear_ #[32] ty #[.slice (some ⟨g, o, none⟩) 1 c]).run Tryz.prog w = .ok (.tuple #[]) (w.setCells g o [.string ⟨#[]⟩, .slice none 0 0]) := by
  have hst := run_storeCells_cells (P := Tryz.prog) g o [.string ⟨#[]⟩, .slice none 0 0] 0 w (by simpa using hc) (by simpa using hf) (by intro v hv; simp at hv; rcases hv with rfl | rfl <;> rfl)
  simp only [Nat.add_zero] at hst
  have hz : (Builtin.zeroCells (Value.agg #[.string ⟨#[]⟩, .slice none 0 0]).cells 1).toList = [.string ⟨#[]⟩, .slice none 0 0] := by simp [Builtin.zeroCells, Value.cells]; rfl
  simp [Builtin.clear_, run_underlying Tryz.underlying32, hz, hst]

theorem info70 : (Tryz.prog.info? 40).map (fun i => (i.size, i.bytes)) = some (2, 40) := by kernel_rfl

/-- The cells that are moved to the left. -/
def movedC (fl : List Value) (i n : Nat) : List Value := (fl.drop ((i + 1) * 2)).take ((n - (i + 1)) * 2)

theorem movedC_len {fl : List Value} {i n : Nat} (h : fl.length = n * 2) (_hi : i < n) : (movedC fl i n).length = (n - (i + 1)) * 2 := by
  simp [movedC]; omega

set_option maxHeartbeats 2000000 in
theorem del_any (g n cap i : Nat) (cur : Array Value) (fl : List Value) (w : World) (hi : i < n) (hl : n ≤ cap) (hm : cap ≤ 9223372036854775807) (hg : w.heap[g]? = some (.cells cur 40 (0, 0))) (hcs : cur.size = cap * 2) (hfl : cur.toList.take (n * 2) = fl)
    (h1 : ∀ u ∈ fl, u.oneCell' = true) :
    Calls Tryz.prog 40 #[.slice (some ⟨g, 0, none⟩) n cap, .int .i64 i, .int .i64 ((i : Int) + 1)] w (fun e w' => e = .returned (.slice (some ⟨g, 0, none⟩) (n - 1) cap) ∧
      w' = (w.drew.setCells g (i * 2) (movedC fl i n)).setCells g ((n - 1) * 2) [.string ⟨#[]⟩, .slice none 0 0]) := by
  have hx := info70
  simp only [Option.map_eq_some_iff, Prod.mk.injEq] at hx
  obtain ⟨i0, hi0, hz1, hz2⟩ := hx
  have hfll : fl.length = n * 2 := by rw [← hfl]; simp; omega
  have hc : ∀ j, j < n * 2 → w.cell? ⟨g, j, none⟩ = fl[j]? := by
    intro j hj
    rw [cell_of_row w g j cur 40 (0, 0) hg, ← hfl, List.getElem?_take, if_pos hj]
    simp
  have hf : ∀ j, w.frozen? ⟨g, j, none⟩ = false := by
    intro j; simp [World.frozen?, hg]
  obtain ⟨A, hA, hnews⟩ : ∃ A : Addr, (if cap = i + 1 then some (⟨g, 0, none⟩ : Addr) else some ⟨g, (i + 1) * 2, none⟩) = some A ∧ Hid (∀ j u, (movedC fl i n)[j]? = some u → w.drew.cell? (A.add j) = some u) := by
    by_cases h : cap = i + 1
    · refine ⟨⟨g, 0, none⟩, by simp [h], fun j u hu => ?_⟩
      have h0 : (movedC fl i n).length = 0 := by rw [movedC_len hfll hi]; omega
      rw [List.length_eq_zero_iff.1 h0] at hu
      simp at hu
    · refine ⟨⟨g, (i + 1) * 2, none⟩, by simp [h], fun j u hu => ?_⟩
      have hj : j < (n - (i + 1)) * 2 := by
        have := (List.getElem?_eq_some_iff.1 hu).1
        rwa [movedC_len hfll hi] at this
      simp only [movedC, List.getElem?_take, hj, if_true, List.getElem?_drop] at hu
      rw [Addr.add_lit]
      exact (hc _ (by omega)).trans hu
  have s1 : Hid ((movedC fl i n).length = (n - (i + 1)) * 2) := movedC_len hfll hi
  have s2 : Hid (∀ u ∈ movedC fl i n, u.oneCell' = true) := fun u hu => h1 u (List.mem_of_mem_drop (List.mem_of_mem_take hu))
  have s3 : Hid (∀ j, j < (movedC fl i n).length → (w.drew.cell? ⟨g, 0 + i * 2 + j, none⟩).isSome = true ∧ w.drew.frozen? ⟨g, 0 + i * 2 + j, none⟩ = false) := by
    intro j hj
    rw [s1.out] at hj
    refine ⟨?_, hf _⟩
    show (w.cell? _).isSome = true
    rw [hc _ (by omega), List.getElem?_eq_getElem (by omega)]
    rfl
  have hic : i ≤ cap := by omega
  have hwr : IntKind.i64.wrap ((i : Int) + 1) = (i : Int) + 1 := by rw [IntKind.wrap_i64]; omega
  have hp0 : (0 : Int) ≤ (i : Int) + 1 := by omega
  have hp1 : (i : Int) + 1 ≤ (n : Int) := by omega
  have hp2 : ((i : Int) + 1).toNat = i + 1 := by omega
  have hne : ((i : Int) == (i : Int) + 1) = false := by simp; omega
  obtain ⟨m, rfl⟩ : ∃ m, n = m + 1 := ⟨n - 1, by omega⟩
  have e1 : i + (m + 1 - (i + 1)) = m := by omega
  have e2 : i + (m - i) = m := by omega
  have him : i ≤ m := by omega
  have S1 : Hid ((movedC fl i (m + 1)).length = (m - i) * 2) := by have := s1.out; unfold Hid; omega
  have hq : ∀ ty c, (Builtin.clear_ #[32] ty #[.slice (some ⟨g, m * 2, none⟩) 1 c]).run Tryz.prog (w.drew.setCells g (i * 2) (movedC fl i (m + 1))) = .ok (.tuple #[]) ((w.drew.setCells g (i * 2) (movedC fl i (m + 1))).setCells g (m * 2) [.string ⟨#[]⟩, .slice none 0 0]) := fun ty c =>
    run_clear70 _ ty g (m * 2) c (fun j hj => World.isSome_setCells g _ _ _ _ (by
      show (w.cell? _).isSome = true
      rw [hc _ (by omega), List.getElem?_eq_getElem (by omega)]; rfl)) (fun j _ => by rw [World.frozen?_setCells]; exact hf _)
  clear hc hf hg hfl hcs h1
  go_enter Tryz.func40, Tryz.ntmps40
  go_wp2
  go_region_law (refine step_append_room rfl (.tmp 22) (.tmp 25) 32 rfl 40 i0 2 Tryz.underlying32 hi0 hz1 g 0 i cap (by simp [Act.eval, Act.put]) A (m - i) (cap - (i + 1)) (movedC fl i (m + 1)) (by simp [Act.eval, Act.put]) S1.out hnews.out s2.out (by omega) s3.out ?_)
  go_wp2
  go_ret
  exact ⟨rfl, rfl⟩

theorem c2_flat (rv : List (Value × Value)) : (rv.map c2).flatten = rv.flatMap c2 := by rw [List.flatMap_def]

theorem grownBy_setCells (w : World) (g o : Nat) (vs : List Value) : w.grownBy (w.setCells g o vs) (some g) := by
  induction vs generalizing w o with
  | nil => exact ⟨rfl, rfl, rfl, Nat.le_refl _, fun _ _ _ => rfl⟩
  | cons v vs ih =>
    have h := ih (w.setCell ⟨g, o, none⟩ v) (o + 1)
    have hs : (w.setCell ⟨g, o, none⟩ v).heap.size = w.heap.size := by simp [World.setCell]
    refine ⟨h.os, h.tape, h.output, by rw [← hs]; exact h.size, fun k hk hne => ?_⟩
    exact (h.block k (by rw [hs]; exact hk) hne).trans (Below.heap_setCell _ _ _ _ (fun e => hne (by rw [e])))

theorem grownBy_trans {a b c : World} {row : Option Nat} (h : a.grownBy b row) (k : b.grownBy c row) : a.grownBy c row :=
  ⟨k.os.trans h.os, k.tape.trans h.tape, k.output.trans h.output, Nat.le_trans h.size k.size, fun i hi hne => (k.block i (Nat.lt_of_lt_of_le hi h.size) hne).trans (h.block i hi hne)⟩

theorem setCells_shape (g : Nat) : ∀ (vs : List Value) (o : Nat) (w : World) (cur : Array Value) (T : TypeId) (fr : Nat × Nat), w.heap[g]? = some (.cells cur T fr) → ∃ cur', cur'.size = cur.size ∧ (w.setCells g o vs).heap[g]? = some (.cells cur' T fr)
  | [], _, _, cur, _, _, h => ⟨cur, rfl, h⟩
  | v :: vs, o, w, cur, T, fr, h => by
    have hlt := (Array.getElem?_eq_some_iff.1 h).1
    have h' : w.heap[g] = .cells cur T fr := (Array.getElem?_eq_some_iff.1 h).2
    have h2 : (w.setCell ⟨g, o, none⟩ v).heap[g]? = some (.cells (cur.setIfInBounds o v) T fr) := by
      show (w.heap.modify g _)[g]? = _
      rw [Array.getElem?_eq_getElem (by simpa using hlt), Array.getElem_modify_self, h']
      rfl
    obtain ⟨c, hc, hh⟩ := setCells_shape g vs (o + 1) _ _ T fr h2
    exact ⟨c, by rw [hc]; simp, hh⟩

set_option maxHeartbeats 2000000 in
theorem delete_rows (B n i : Nat) (v : Value) (rv : List (Value × Value)) (w : World) (hown : w.ownsRow B 40 2 v n (rv.map c2).flatten) (hi : i < n) (h1 : ∀ x ∈ rv, x.1.oneCell' = true ∧ x.2.oneCell' = true) :
    Calls Tryz.prog 40 #[v, .int .i64 i, .int .i64 ((i : Int) + 1)] w (fun e w' => ∃ v' g, e = .returned v' ∧ w'.ownsRow B 40 2 v' (n - 1) ((rv.eraseIdx i).map c2).flatten ∧ B ≤ g ∧ w.grownBy w' (some g)) := by
  have hlen : ∀ r ∈ rv.map c2, r.length = 2 := fun r hr => by obtain ⟨x, _, rfl⟩ := List.mem_map.1 hr; rfl
  have hfl := flat_len hlen
  have hrn : rv.length = n := by
    have h := hown.1
    rw [hfl, List.length_map] at h
    omega
  obtain ⟨-, hv⟩ := hown
  rcases hv with ⟨-, h0⟩ | ⟨g, cap, cur, rfl, hb, hg, hnc, hcm, hcs, htk⟩
  · omega
  · have hone : ∀ u ∈ (rv.map c2).flatten, u.oneCell' = true := fun u hu => by
      rw [c2_flat] at hu
      obtain ⟨x, hx, hu⟩ := List.mem_flatMap.1 hu
      have := h1 x hx
      simp only [c2, List.mem_cons, List.not_mem_nil, or_false] at hu
      rcases hu with rfl | rfl
      · exact this.1
      · exact this.2
    refine (del_any g n cap i cur _ w hi hnc hcm hg hcs htk hone).mono ?_
    rintro e w' ⟨rfl, rfl⟩
    have hgr : w.grownBy ((w.drew.setCells g (i * 2) (movedC (rv.map c2).flatten i n)).setCells g ((n - 1) * 2) [.string ⟨#[]⟩, .slice none 0 0]) (some g) :=
      by
      have a := grownBy_setCells w.drew g (i * 2) (movedC (rv.map c2).flatten i n)
      exact grownBy_trans (b := w.drew.setCells g (i * 2) (movedC (rv.map c2).flatten i n)) ⟨a.os, a.tape, a.output, a.size, a.block⟩ (grownBy_setCells _ g _ _)
    refine ⟨_, g, rfl, ?_, hb, hgr⟩
    have hfn : (rv.map c2).flatten.length = n * 2 := by rw [hfl, List.length_map, hrn]
    have hc : ∀ j, j < n * 2 → w.cell? ⟨g, j, none⟩ = (rv.map c2).flatten[j]? := by
      intro j hj
      rw [cell_of_row w g j cur 40 (0, 0) hg]
      rw [← htk, List.getElem?_take, if_pos hj]
      simp
    have hm := movedC_len hfn hi
    have hsome : ∀ j, j < n * 2 → (w.cell? ⟨g, j, none⟩).isSome = true := fun j hj => by rw [hc j hj, List.getElem?_eq_getElem (by omega)]; rfl
    have hel : (rv.eraseIdx i).length = n - 1 := by rw [List.length_eraseIdx, if_pos (by omega), hrn]
    have hlen2 : ∀ r ∈ (rv.eraseIdx i).map c2, r.length = 2 := fun r hr => by obtain ⟨x, _, rfl⟩ := List.mem_map.1 hr; rfl
    have hfl2 := flat_len hlen2
    rw [List.length_map, hel] at hfl2
    obtain ⟨cur1, hs1, hg1⟩ := setCells_shape g (movedC (rv.map c2).flatten i n) (i * 2) w.drew cur 40 (0, 0) hg
    obtain ⟨cur2, hs2, hg2⟩ := setCells_shape g [.string ⟨#[]⟩, .slice none 0 0] ((n - 1) * 2) _ cur1 40 (0, 0) hg1
    have hsz2 : cur2.size = cap * 2 := by omega
    refine ⟨hfl2, .inr ⟨g, cap, cur2, rfl, hb, hg2, by omega, hcm, hsz2, ?_⟩⟩
    have hcell : ∀ j, j < n - 1 → ∀ r, r < 2 → cur2[j * 2 + r]? = some ((((rv.eraseIdx i).map c2).getD j []).getD r undef) := by
      intro j hj r hr
      have e2 : ((w.drew.setCells g (i * 2) (movedC (rv.map c2).flatten i n)).setCells g ((n - 1) * 2) [.string ⟨#[]⟩, .slice none 0 0]).cell? ⟨g, j * 2 + r, none⟩ = cur2[j * 2 + r]? := by
        rw [cell_of_row _ g _ cur2 40 (0, 0) hg2]
      rw [← e2]
      rw [World.cell?_setCells_out g _ _ _ ⟨g, j * 2 + r, none⟩ (fun _ _ => .inl (show j * 2 + r < (n - 1) * 2 by omega))]
      have key : ∀ k, k < n → ((rv.map c2).flatten)[k * 2 + r]? = some (((rv.map c2).getD k []).getD r undef) := fun k hk => flat_get hlen (by simp; omega) hr
      by_cases hji : j < i
      · rw [World.cell?_setCells_out g _ _ _ ⟨g, j * 2 + r, none⟩ (fun _ _ => .inl (show j * 2 + r < i * 2 by omega))]
        show w.cell? _ = _
        rw [hc _ (by omega), key j (by omega)]
        simp [List.getElem?_eraseIdx, hji]
      · have hin := World.cell?_setCells_in g (movedC (rv.map c2).flatten i n) (i * 2) w.drew (fun k hk => hsome (i * 2 + k) (by omega)) ((j - i) * 2 + r) (by omega)
        rw [show i * 2 + ((j - i) * 2 + r) = j * 2 + r by omega] at hin
        rw [hin]
        have : (movedC (rv.map c2).flatten i n)[(j - i) * 2 + r]? = some (((rv.map c2).getD (j + 1) []).getD r undef) := by
          rw [← key (j + 1) (by omega)]
          unfold movedC
          rw [List.getElem?_take, if_pos (by omega), List.getElem?_drop]
          congr 1; omega
        rw [List.getElem?_eq_getElem (by omega)] at this
        rw [Option.some_inj.1 this]
        simp [List.getElem?_eraseIdx, hji]
    apply List.ext_getElem?
    intro q
    rw [List.getElem?_take]
    by_cases hq : q < (n - 1) * 2
    · rw [if_pos hq]
      have h1 : q / 2 < n - 1 := by omega
      have h2 : q % 2 < 2 := by omega
      have h3 : q / 2 * 2 + q % 2 = q := by omega
      have a1 := hcell _ h1 _ h2
      have a2 := flat_get hlen2 (i := q / 2) (j := q % 2) (by rw [List.length_map, hel]; exact h1) h2
      rw [h3] at a1 a2
      rw [a2, ← a1]
      simp
    · rw [if_neg hq, List.getElem?_eq_none (by omega)]

end Go.Proofs.YtknpbcdmemlicaaGreatDoor
