/-
  Rows are sorted.
-/
import Derived.Test.YtfmgjcgcocidfaaGreatDoorConc
namespace Go.Proofs.YtfmgjcgcocidfaaGreatDoor
open Go.RowKit

theorem world_ext {w w' : World} (h1 : w'.heap = w.heap) (h2 : w'.tape = w.tape) (h3 : w'.drawn = w.drawn) (h4 : w'.os = w.os) (h5 : w'.output = w.output) : w' = w := by
  cases w; cases w'; simp_all
theorem drewN_eq (w : World) (q : Nat) : w.drewN q = { w with drawn := w.drawn + q } := by
  induction q generalizing w with
  | zero => rfl
  | succ n ih => first | rfl | (rw [World.drewN, ih]; simp [World.drew]; omega)
/-- A world that is kept below, without a draw taken back, has grown. -/
theorem bd_grow {W w' : World} (h : BD W w') : ∃ q os', w' = Go.Sort.grow (W.drewN q) os' := by
  refine ⟨w'.drawn - W.drawn, w'.heap.extract W.heap.size w'.heap.size, ?_⟩
  rw [drewN_eq]
  refine world_ext ?_ h.1.tape ?_ h.1.os h.1.output
  · show w'.heap = W.heap ++ w'.heap.extract W.heap.size w'.heap.size
    apply Array.ext_getElem?
    intro i
    rcases Nat.lt_or_ge i W.heap.size with hi | hi
    · rw [h.1.block i hi, Array.getElem?_append_left hi]
    · rw [Array.getElem?_append_right hi, Array.getElem?_extract]
      split
      · congr 1; omega
      · rename_i hn
        rw [Array.getElem?_eq_none]
        omega
  · show w'.drawn = W.drawn + (w'.drawn - W.drawn)
    have := h.2
    omega
theorem sort_grown {α : Type} [Inhabited α] (enc : α → List Value) (k : Nat) (w : World) (blk off m : Nat) (d : Array α) (os : Array Obj) : w.grownBy (sortWorldK enc k w blk off m d os) (some blk) := by
  refine ⟨rfl, rfl, rfl, ?_, fun b hb hne => ?_⟩
  · show w.heap.size ≤ ((Go.Sort.putRowK enc k (Go.Sort.ahead w m) blk off d).heap ++ os).size
    rw [Array.size_append]
    have : (Go.Sort.putRowK enc k (Go.Sort.ahead w m) blk off d).heap.size = w.heap.size := Go.Sort.size_putRow _ _ _ _ _
    omega
  · show ((Go.Sort.putRowK enc k (Go.Sort.ahead w m) blk off d).heap ++ os)[b]? = w.heap[b]?
    have hs : (Go.Sort.putRowK enc k (Go.Sort.ahead w m) blk off d).heap.size = w.heap.size := Go.Sort.size_putRow _ _ _ _ _
    rw [Array.getElem?_append_left (by omega)]
    unfold Go.Sort.putRowK Go.Sort.putRow Go.Sort.mapBlock
    have hne2 : blk ≠ b := fun e => hne (by rw [e])
    first
      | simp [Array.getElem?_modify, hne2]
      | (simp only [Go.Sort.ahead]; rw [Array.getElem?_modify]; simp [hne2])

theorem holds_of_own {β : Type} (cells : β → List Value) (sz : Nat) (hlen : ∀ x, (cells x).length = sz) (hsz : 0 < sz) {α : Type} [Inhabited α] (val : α → β) (d : Array α) (w : World) {B e g cap : Nat}
    (hown : w.ownsRow B e sz (.slice (some ⟨g, 0, none⟩) d.size cap) d.size (((d.toList.map val).map cells).flatten)) : Go.Sort.HoldsK (fun a => cells (val a)) sz w g 0 d := by
  intro t ht
  rw [Go.Sort.size_flatK] at ht
  have hi : t / sz < d.size := Nat.div_lt_of_lt_mul (by rwa [Nat.mul_comm] at ht)
  have hj : t % sz < sz := Nat.mod_lt _ hsz
  have hrl : ∀ r ∈ (d.toList.map val).map cells, r.length = sz := fun r hr => by
    obtain ⟨p, _, rfl⟩ := List.mem_map.1 hr
    exact hlen p
  have hrn : ((d.toList.map val).map cells).length = d.size := by simp
  have hf := flat_get hrl (i := t / sz) (j := t % sz) (by rw [hrn]; exact hi) hj
  rw [Nat.div_add_mod'] at hf
  have hc := hown.cells (g := g) rfl t _ hf
  have ha : (⟨g, 0, none⟩ : Addr).add t = ⟨g, 0 + t, none⟩ := by unfold Addr.add; split <;> simp_all
  rw [ha] at hc
  refine ⟨?_, ?_⟩
  · rw [hc, Go.Sort.get_flatK _ _ _ _ ht]
    congr 1
    simp only [id]
    have e1 : ((d.toList.map val).map cells).getD (t / sz) [] = cells (val d[t / sz]!) := by
      rw [List.getD_eq_getElem?_getD, List.getElem?_map, List.getElem?_map, Array.getElem?_toList, Array.getElem?_eq_getElem hi, getElem!_pos d (t / sz) hi]
      rfl
    rw [e1]
    have hj2 : t % sz < (cells (val d[t / sz]!)).length := by rw [hlen]; exact hj
    rw [List.getD_eq_getElem?_getD, List.getElem?_eq_getElem hj2, getElem!_pos (cells (val d[t / sz]!)) (t % sz) hj2]
    rfl
  · rcases hown.2 with ⟨hv, _⟩ | ⟨g', cap', cur, hv, -, hgb, -⟩
    · cases hv
    · cases hv
      exact frozen_of_row w g _ cur _ hgb

theorem sl_of_holds {β : Type} (cells : β → List Value) (sz : Nat) (hlen : ∀ x, (cells x).length = sz) {α : Type} [Inhabited α] (val : α → β) (d : Array α) (w : World) {g cap : Nat}
    (h : Go.Sort.HoldsK (fun a => cells (val a)) sz w g 0 d) (hg : g < w.heap.size) (hc : d.size ≤ cap) (hm : cap ≤ maxLen) : Sl w sz (.slice (some ⟨g, 0, none⟩) d.size cap) ((d.toList.map val).map cells) := by
  have hrn : ((d.toList.map val).map cells).length = d.size := by simp
  refine ⟨_, _, by rw [hrn], by rw [hrn]; exact hc, hm, .inr ⟨g, 0, rfl, hg, fun i j hi hj => ?_⟩⟩
  rw [hrn] at hi
  have := (h.cell hi hj).1
  rw [this]
  congr 1
  have e1 : ((d.toList.map val).map cells).getD i [] = cells (val d[i]!) := by
    rw [List.getD_eq_getElem?_getD, List.getElem?_map, List.getElem?_map, Array.getElem?_toList, Array.getElem?_eq_getElem hi, getElem!_pos d i hi]
    rfl
  rw [e1]
  have hj2 : j < (cells (val d[i]!)).length := by rw [hlen]; exact hj
  rw [List.getD_eq_getElem?_getD, List.getElem?_eq_getElem hj2, getElem!_pos (cells (val d[i]!)) j hj2]
  rfl

theorem swoC {α : Type} (f : α → Cut) : Go.Sort.SWO (Go.Proofs.ltOf fun x y : α => cmpC (f x) (f y)) where
  irrefl x := by
    unfold Go.Proofs.ltOf
    rw [decide_eq_false_iff_not, cmpC_lt]
    exact CLt.irrefl _
  trans x y z h1 h2 := by
    unfold Go.Proofs.ltOf at *
    rw [decide_eq_true_eq, cmpC_lt] at *
    exact h1.trans h2
  ntrans x y z h1 h2 := by
    unfold Go.Proofs.ltOf at *
    rw [decide_eq_false_iff_not, cmpC_lt] at *
    exact CLt.ntrans h1 h2

/-- What a sort leaves, in lists. -/
theorem sorted_lists {β α : Type} [Inhabited α] (val : α → β) (cf : β → Cut) (d d' : Array α) (hp : Go.Sort.PermIn 0 d.size d d') (hs : Go.Sort.SortedIn (Go.Proofs.ltOf fun x y : α => cmpC (cf (val x)) (cf (val y))) 0 d.size d') :
    (d'.toList.map val).Perm (d.toList.map val) ∧ ∀ (i j : Nat) (x y : β), i < j → (d'.toList.map val)[i]? = some x → (d'.toList.map val)[j]? = some y → ¬ CLt (cf y) (cf x) := by
  obtain ⟨hsz, -, hperm⟩ := hp
  have e1 : d'.extract 0 d.size = d' := by rw [← hsz]; simp
  have e2 : d.extract 0 d.size = d := by simp
  rw [e1, e2] at hperm
  refine ⟨hperm.map val, fun i j x y hij hx hy hlt => ?_⟩
  simp only [List.getElem?_map, Option.map_eq_some_iff, Array.getElem?_toList] at hx hy
  obtain ⟨a, ha, rfl⟩ := hx
  obtain ⟨b, hb, rfl⟩ := hy
  have hj : j < d'.size := (Array.getElem?_eq_some_iff.1 hb).1
  have hi : i < d'.size := by omega
  have := hs i j (Nat.zero_le _) hij (by omega)
  rw [getElem!_pos d' j hj, getElem!_pos d' i hi, (Array.getElem?_eq_some_iff.1 hb).2, (Array.getElem?_eq_some_iff.1 ha).2] at this
  unfold Go.Proofs.ltOf at this
  rw [decide_eq_false_iff_not, cmpC_lt] at this
  exact this hlt

set_option maxHeartbeats 4000000 in
theorem sort_cuts (P : List CC) (w : World) (B g cap : Nat) (hne : P ≠ []) (hown : w.ownsRow B 52 7 (.slice (some ⟨g, 0, none⟩) P.length cap) P.length ((P.map CC.cells).flatten)) (hok : ∀ k ∈ P, k.ok w) (hsz : P.length < 4611686018427387904) :
    Calls Tryz.prog 39 #[.slice (some ⟨g, 0, none⟩) P.length cap, .func (.func 19) #[] #[]] w (fun e w' => e = .returned (.tuple #[]) ∧ w.grownBy w' (some g) ∧ ∃ P' : List CC, P'.Perm P ∧ (∀ (i j : Nat) (x y : CC), i < j → P'[i]? = some x → P'[j]? = some y → ¬ CLt y.c x.c) ∧ Sl w' 7 (.slice (some ⟨g, 0, none⟩) P.length cap) (P'.map CC.cells) ∧ ∀ k ∈ P', k.ok w') := by
  let α := {x : CC // x ∈ P}
  have : Inhabited α := by
    cases P with
    | nil => exact absurd rfl hne
    | cons a l => exact ⟨⟨a, List.mem_cons_self ..⟩⟩
  let d : Array α := P.attach.toArray
  have hd : d.toList.map Subtype.val = P := by simp [d]
  have hds : d.size = P.length := by have h := congrArg List.length hd; rw [List.length_map, Array.length_toList] at h; exact h
  have hown' := hown
  rw [← hds] at hown'
  rw [← hd] at hown'
  have hH := holds_of_own CC.cells 7 CC.cells_len (by decide) (α := α) Subtype.val d w hown'
  obtain ⟨_, _, hv, hcap1, hcap2⟩ := own_open hown
  cases hv
  have hgl : g < w.heap.size := (hown.lt g rfl).2
  have hcmp : CmpLays Tryz.prog 19 #[] (fun a : α => CC.cells a.val) 7 (fun x y => cmpC x.val.c y.val.c) g 0 d.size w := by
    intro m os dk hdk x y
    have hg := sort_grown (fun a : α => CC.cells a.val) 7 w g 0 m dk os
    have hx := (hok x.1 x.2).grown hown (by decide) hg
    have hy := (hok y.1 y.2).grown hown (by decide) hg
    refine (cutcmp_d x.1 y.1 _ hx hy).mono fun e w' h => ⟨h.1, bd_grow h.2⟩
  have h := AnyQ.slices_SortFunc Tryz.sortC 7 Tryz.isAgg52 Tryz.sizeOf52 (fun a : α => CC.cells a.val) (fun a => rfl) (fun a => one7 a.1) (fun x y => cmpC x.val.c y.val.c) (swoC fun x : α => x.val.c) 19 #[] g 0 cap d w (enters_of Tryz.func19 (by kernel_rfl) rfl) hcmp hH hgl (by rw [hds]; exact hsz)
  rw [hds] at h
  change Calls Tryz.prog 39 _ _ _ at h
  refine h.mono fun e w' ⟨he, d', n, os, hp, hs, hw⟩ => ⟨he, by rw [hw]; exact sort_grown _ _ _ _ _ _ _ _, d'.toList.map Subtype.val, ?_⟩
  have hg : w.grownBy w' (some g) := by rw [hw]; exact sort_grown _ _ _ _ _ _ _ _
  rw [← hds] at hp hs
  obtain ⟨hperm, hsort⟩ := sorted_lists (β := CC) (α := α) Subtype.val CC.c d d' hp hs
  rw [hd] at hperm
  have hd's : d'.size = P.length := by rw [hp.1, hds]
  refine ⟨hperm, hsort, ?_, fun k hk => (hok k (hperm.mem_iff.1 hk)).grown hown (by decide) hg⟩
  have hH' : Go.Sort.HoldsK (fun a : α => CC.cells a.val) 7 w' g 0 d' := by
    rw [hw]
    exact Go.Sort.holdsK_grow _ _ _ _ _ _ _ (by rw [show (Go.Sort.putRowK _ _ _ _ _ _).heap.size = _ from Go.Sort.size_putRow _ _ _ _ _]; exact hgl) (Go.Sort.holdsK_putRowK _ _ _ _ _ d _ hH hp.1)
  have := sl_of_holds CC.cells 7 CC.cells_len (α := α) Subtype.val d' w' (cap := cap) hH' (Nat.lt_of_lt_of_le hgl hg.size) (by omega) hcap2
  rw [hd's] at this
  exact this

end Go.Proofs.YtfmgjcgcocidfaaGreatDoor
