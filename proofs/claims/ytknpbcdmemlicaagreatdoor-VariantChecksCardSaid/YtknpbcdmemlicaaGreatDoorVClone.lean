/-
  slices.Clone at rows of any size.
-/
import Derived.Test.YtknpbcdmemlicaaGreatDoorVBase
namespace Go.Proofs.YtknpbcdmemlicaaGreatDoor
open Go.RowKit

theorem flat_get {sz : Nat} {rows : List (List Value)} (hl : ∀ r ∈ rows, r.length = sz) : ∀ {i j : Nat}, i < rows.length → j < sz → rows.flatten[i * sz + j]? = some ((rows.getD i []).getD j undef) := by
  induction rows with
  | nil => intro i j hi; simp at hi
  | cons r rs ih =>
    intro i j hi hj
    have hr : r.length = sz := hl r (by simp)
    cases i with
    | zero => simp [List.getElem?_append_left (by omega : j < r.length), hr, hj]
    | succ i =>
      have := ih (fun r hr => hl r (by simp [hr])) (i := i) (j := j) (by simpa using hi) hj
      rw [List.flatten_cons, List.getElem?_append_right (by rw [hr, Nat.succ_mul]; omega), hr, show (i + 1) * sz + j - sz = i * sz + j by rw [Nat.succ_mul]; omega, this]
      simp

theorem flat_len {sz : Nat} {rows : List (List Value)} (hl : ∀ r ∈ rows, r.length = sz) : rows.flatten.length = rows.length * sz := by
  induction rows with
  | nil => simp
  | cons r rs ih =>
    have hr : r.length = sz := hl r (by simp)
    rw [List.flatten_cons, List.length_append, hr, ih (fun r hr => hl r (by simp [hr])), List.length_cons, Nat.succ_mul]; omega

theorem Sl.own {w : World} {base n sz : Nat} {e : TypeId} {v : Value} {rows : List (List Value)} (h : w.ownsRow base e sz v n rows.flatten) (hl : ∀ r ∈ rows, r.length = sz) (hsz : 0 < sz) : Sl w sz v rows := by
  have hn : rows.length = n := by
    have h1 := h.1
    rw [flat_len hl] at h1
    exact Nat.eq_of_mul_eq_mul_right hsz h1
  rcases h.2 with ⟨rfl, h0⟩ | ⟨g, cap, cur, rfl, hb, hg, hnc, hcm, hcs, htk⟩
  · have : rows = [] := List.length_eq_zero_iff.1 (by omega)
    subst this
    exact Sl.nil _ _
  · refine ⟨_, cap, by simp [hn], by omega, hcm, .inr ⟨g, 0, rfl, (Array.getElem?_eq_some_iff.1 hg).1, fun i j hi hj => ?_⟩⟩
    have hc := h.cells (g := g) (by simp [Value.ownBlock]) _ _ (flat_get hl hi hj)
    rw [show (⟨g, 0, none⟩ : Addr).add (i * sz + j) = ⟨g, i * sz + j, none⟩ by unfold Addr.add; split <;> simp_all] at hc
    rw [Nat.zero_add]; exact hc

theorem Sl.flat {w : World} {sz n cap b off : Nat} {rows : List (List Value)} (h : Sl w sz (.slice (some ⟨b, off, none⟩) n cap) rows) (hl : ∀ r ∈ rows, r.length = sz) (hsz : 0 < sz) :
    ∀ j u, rows.flatten[j]? = some u → w.cell? ((⟨b, off, none⟩ : Addr).add j) = some u := by
  intro j u hu
  obtain ⟨a, c, hv, hc, hm, h⟩ := h
  cases hv
  rcases h with h | ⟨b', off', h, hlt, hcell⟩
  · have : rows = [] := List.length_eq_zero_iff.1 (by omega)
    subst this
    simp at hu
  · cases h
    have hj : j < rows.length * sz := by
      have := (List.getElem?_eq_some_iff.1 hu).1
      rwa [flat_len hl] at this
    have h1 : j / sz < rows.length := Nat.div_lt_of_lt_mul (by rwa [Nat.mul_comm])
    have h2 : j % sz < sz := Nat.mod_lt _ hsz
    have h3 : j / sz * sz + j % sz = j := Nat.div_add_mod' j sz
    have hf := flat_get hl h1 h2
    rw [h3, hu] at hf
    have := hcell _ _ h1 h2
    rw [Nat.add_assoc, h3, ← Option.some_inj.1 hf] at this
    rw [show (⟨b, off, none⟩ : Addr).add j = ⟨b, off + j, none⟩ by unfold Addr.add; split <;> simp_all]
    exact this

theorem Ec37 : ElemTy 32 40 2 40 := ⟨Tryz.underlying32, by kernel_rfl⟩

set_option maxHeartbeats 1000000 in
theorem clone47 (rows : List (List Value)) (v : Value) (w : World) (hS : Sl w 2 v rows) (hl : ∀ r ∈ rows, r.length = 2) (h1 : ∀ r ∈ rows, ∀ u ∈ r, u.oneCell' = true) (hlen : rows.length < 1000) :
    Calls Tryz.prog 37 #[v] w (RetP (fun v' w' => w'.ownsRow w.heap.size 40 2 v' rows.length rows.flatten) w) := by
  obtain ⟨a, cap, rfl, hcp, hcm⟩ := hS.open
  have qT : ∀ (w : World) (a : Option Addr) (n c n' c' : Nat), (binOp .eql 32 (.slice a n c) (.slice none n' c')).run Tryz.prog w = .ok (.bool a.isNone) w := fun w a n c n' c' => Lib.run_eql_slice_nil w _ _ a n c n' c' Tryz.underlying32
  have hi := (Ec37).info
  simp only [Option.map_eq_some_iff, Prod.mk.injEq] at hi
  obtain ⟨i, hi, ⟨z, hz, hzs⟩, hsize, hby⟩ := hi
  have hfl := flat_len hl
  have hone : ∀ u ∈ rows.flatten, u.oneCell' = true := fun u hu => by obtain ⟨r, hr, hur⟩ := List.mem_flatten.1 hu; exact h1 r hr u hur
  have hown : (w.alloc (.cells #[] 40)).ownsRow w.heap.size 40 2 (.slice (some ⟨w.heap.size, 0, none⟩) 0 0) 0 [] := World.ownsRow_made w #[] 0 (Nat.le_refl _) (by decide) (by simp)
  rcases a with _ | ad
  · go_enter Tryz.func37, Tryz.ntmps37
    go_wp2
    go_ret
    refine ⟨_, rfl, ?_, Below.refl _ _⟩
    have h0 : rows.length = 0 := by
      obtain ⟨a', c', hv, _, _, hh⟩ := hS
      cases hv
      rcases hh with hc0 | ⟨_, _, hh, _⟩
      · omega
      · cases hh
    have : rows = [] := List.length_eq_zero_iff.1 h0
    subst this
    exact World.ownsRow_nil _ _ _ _
  · have hnew : ∀ j u, rows.flatten[j]? = some u → (w.alloc (.cells #[] 40)).cell? (ad.add j) = some u := by
      have hS' := hS
      obtain ⟨a', c', hv, hle, _, hh⟩ := hS'
      cases hv
      rcases hh with h0 | ⟨b, off, hh, _⟩
      · have : rows = [] := List.length_eq_zero_iff.1 (by omega)
        subst this
        intro j u hu
        simp at hu
      · cases hh
        exact (hS.mono (below1 w (.cells #[] 40))).flat hl (by decide)
    generalize hn : rows.length = n at *
    have HF := Lib.hid hfl
    have HN := Lib.hid hn
    clear hn hfl hS
    go_enter Tryz.func37, Tryz.ntmps37
    go_wp2_with (at_builtin; refine wpList_append_own _ rfl _ _ 32 rfl w.heap.size 40 i z 2 40 (Ec37).und hi hz hsize hby hzs (by decide) _ 0 [] rfl hown ad n cap rows.flatten rfl HF.out hnew hone (by unfold maxLen; omega) (by omega) (by simp) ?_; intro v' w1 hown' hg _)
    go_ret
    refine ⟨_, rfl, by simpa using hown', (below1 w _).grown hg (by simp) (fun k hk => by cases hk; exact Nat.le_refl _)⟩

end Go.Proofs.YtknpbcdmemlicaaGreatDoor
