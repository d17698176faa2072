/-
  Parts are sorted.
-/
import Derived.Test.YtfmgjcgcocidfaaGreatDoorUni
namespace Go.Proofs.YtfmgjcgcocidfaaGreatDoor
open Go.RowKit

set_option maxHeartbeats 4000000 in
theorem partcmp_d (p q : PP) (w : World) (hp : p.ok w) (hq : q.ok w) : Calls Tryz.prog 21 #[pagg p.l p.h, pagg q.l q.h] w (RetD (.int .i64 (cmpC p.l.c q.l.c)) w) := by
  have H := Lib.hid (fun w' (hb : Below w.heap.size w w') => cutcmp_d p.l q.l w' (hp.1.mono hb) (hq.1.mono hb))
  unfold CC.agg at H
  generalize cmpC p.l.c q.l.c = R at *
  unfold pagg
  clear hp hq
  go_enter Tryz.func21, Tryz.ntmps21
  go_wp2_with (go_at_call 19; refine (H.out _ (below2 w _ _)).mono ?_; rintro e w1 ⟨rfl, hb1⟩)
  go_ret
  exact ⟨rfl, (below2 w _ _).via hb1.1 (below2 w _ _).size, by have := hb1.2; simpa using this⟩

set_option maxHeartbeats 4000000 in
theorem sort_parts (P : List PP) (N : Nat) (hN : P.length = N) (w : World) (B g cap : Nat) (hne : P ≠ []) (hown : w.ownsRow B 54 14 (.slice (some ⟨g, 0, none⟩) N cap) N ((P.map PP.row).flatten)) (hok : ∀ k ∈ P, k.ok w) (hsz : N < 4611686018427387904) :
    Calls Tryz.prog 20 #[.slice (some ⟨g, 0, none⟩) N cap, .func (.func 21) #[] #[]] w (fun e w' => e = .returned (.tuple #[]) ∧ w.grownBy w' (some g) ∧ ∃ P' : List PP, P'.Perm P ∧ (∀ (i j : Nat) (x y : PP), i < j → P'[i]? = some x → P'[j]? = some y → ¬ CLt y.l.c x.l.c) ∧ Parts w' (.slice (some ⟨g, 0, none⟩) N cap) P') := by
  subst hN
  let α := {x : PP // x ∈ P}
  have : Inhabited α := by
    cases P with
    | nil => exact absurd rfl hne
    | cons a l => exact ⟨⟨a, List.mem_cons_self ..⟩⟩
  let d : Array α := P.attach.toArray
  have hd : d.toList.map Subtype.val = P := by simp [d]
  have hds : d.size = P.length := by have h := congrArg List.length hd; rw [List.length_map, Array.length_toList] at h; exact h
  have hown' := hown
  rw [← hds] at hown'
  rw [← hd] at hown'
  have hH := holds_of_own PP.row 14 PP.row_len (by decide) (α := α) Subtype.val d w hown'
  obtain ⟨_, _, hv, hcap1, hcap2⟩ := own_open hown
  cases hv
  have hgl : g < w.heap.size := (hown.lt g rfl).2
  have hcmp : CmpLays Tryz.prog 21 #[] (fun a : α => PP.row a.val) 14 (fun x y => cmpC x.val.l.c y.val.l.c) g 0 d.size w := by
    intro m os dk hdk x y
    have hg := sort_grown (fun a : α => PP.row a.val) 14 w g 0 m dk os
    have hx : x.1.ok _ := ⟨(hok x.1 x.2).1.grown hown (by decide) hg, (hok x.1 x.2).2.grown hown (by decide) hg⟩
    have hy : y.1.ok _ := ⟨(hok y.1 y.2).1.grown hown (by decide) hg, (hok y.1 y.2).2.grown hown (by decide) hg⟩
    refine (partcmp_d x.1 y.1 _ hx hy).mono fun e w' h => ⟨h.1, bd_grow h.2⟩
  have h := AnyQ.slices_SortFunc Tryz.sortP 14 Tryz.isAgg54 Tryz.sizeOf54 (fun a : α => PP.row a.val) (fun a => rfl) (fun a => one14 a.1) (fun x y => cmpC x.val.l.c y.val.l.c) (swoC fun x : α => x.val.l.c) 21 #[] g 0 cap d w (enters_of Tryz.func21 (by kernel_rfl) rfl) hcmp hH hgl (by rw [hds]; exact hsz)
  rw [hds] at h
  change Calls Tryz.prog 20 _ _ _ at h
  refine h.mono fun e w' ⟨he, d', n, os, hp, hs, hw⟩ => ⟨he, by rw [hw]; exact sort_grown _ _ _ _ _ _ _ _, d'.toList.map Subtype.val, ?_⟩
  have hg : w.grownBy w' (some g) := by rw [hw]; exact sort_grown _ _ _ _ _ _ _ _
  rw [← hds] at hp hs
  obtain ⟨hperm, hsort⟩ := sorted_lists (β := PP) (α := α) Subtype.val (fun p => p.l.c) d d' hp hs
  rw [hd] at hperm
  have hd's : d'.size = P.length := by rw [hp.1, hds]
  refine ⟨hperm, hsort, ?_, fun k hk => ⟨(hok k (hperm.mem_iff.1 hk)).1.grown hown (by decide) hg, (hok k (hperm.mem_iff.1 hk)).2.grown hown (by decide) hg⟩⟩
  have hH' : Go.Sort.HoldsK (fun a : α => PP.row a.val) 14 w' g 0 d' := by
    rw [hw]
    exact Go.Sort.holdsK_grow _ _ _ _ _ _ _ (by rw [show (Go.Sort.putRowK _ _ _ _ _ _).heap.size = _ from Go.Sort.size_putRow _ _ _ _ _]; exact hgl) (Go.Sort.holdsK_putRowK _ _ _ _ _ d _ hH hp.1)
  have := sl_of_holds PP.row 14 PP.row_len (α := α) Subtype.val d' w' (cap := cap) hH' (Nat.lt_of_lt_of_le hgl hg.size) (by omega) hcap2
  rw [hd's] at this
  exact this

end Go.Proofs.YtfmgjcgcocidfaaGreatDoor
