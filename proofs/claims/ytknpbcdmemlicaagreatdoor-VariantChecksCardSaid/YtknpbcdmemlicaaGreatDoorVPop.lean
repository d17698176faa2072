/-
  A drawn region whose last operation waits for all others: the others are walked as a drawn region, the last one behind them.
-/
import Derived.StillTail
import Derived.Deep.RegionHeld
namespace Go.Proofs.YtknpbcdmemlicaaGreatDoor

/-- Edges point back; guards lie ahead of the last; the last one waits, in the end, for all. -/
def popB (l : List Oper) (n : Nat) : Bool :=
  l.length == n + 1 && ((List.range (n + 1)).all fun i => match l[i]? with
    | some o => (o.after.all fun e => !Region.binds .any e || decide (e.on < i)) && (match o.guard with | none => true | some (g, _) => decide (g < n))
    | none => false) && Region.sinkB .any l.toArray n && Region.chainB .any l.toArray n

section
variable {P : Program} {l : List Oper} {n : Nat}

theorem popB_len (h : popB l n = true) : l.length = n + 1 := by
  simp only [popB, Bool.and_eq_true, beq_iff_eq] at h; exact h.1.1.1
theorem popB_edge (h : popB l n = true) {i : Nat} {o : Oper} (hi : l[i]? = some o) : (∀ e ∈ o.after, Region.binds .any e = true → e.on < i) ∧ (∀ g b, o.guard = some (g, b) → g < n) := by
  have hl := popB_len h
  simp only [popB, Bool.and_eq_true] at h
  have h2 := h.1.1.2
  rw [List.all_eq_true] at h2
  have hlt : i < l.length := by rcases Nat.lt_or_ge i l.length with h' | h'; exact h'; simp [List.getElem?_eq_none h'] at hi
  have h3 := h2 i (List.mem_range.2 (by omega))
  simp only [hi, Bool.and_eq_true] at h3
  refine ⟨fun e he hb => ?_, fun g b hg => ?_⟩
  · have h4 := Array.all_eq_true'.1 h3.1 e he
    simp only [hb, Bool.not_true, Bool.false_or, decide_eq_true_eq] at h4
    exact h4
  · have h4 := h3.2
    simp only [hg, decide_eq_true_eq] at h4
    exact h4

theorem pop_get {i : Nat} (hi : i < n) : (l.take n).toArray[i]? = l.toArray[i]? := by simp [hi]
theorem push_getD {L : Array Bool} (hL : L.size = n) {i : Nat} (hi : i < n) (d : Bool) : (L.push false).getD i d = L.getD i d := by
  have h1 : i < L.size := by omega
  have h2 : i < L.size + 1 := by omega
  simp only [Array.getD, Array.size_push, h1, h2, dif_pos]
  exact Array.getElem_push_lt h1
theorem push_last {L : Array Bool} (hL : L.size = n) (d : Bool) : (L.push false).getD n d = false := by
  subst hL
  simp [Array.getD]
theorem push_set {L : Array Bool} (hL : L.size = n) {i : Nat} (hi : i < n) : (L.push false).setIfInBounds i true = (L.setIfInBounds i true).push false := by
  apply Array.ext_getElem?
  intro j
  simp only [Array.getElem?_setIfInBounds, Array.getElem?_push, Array.size_setIfInBounds, Array.size_push, hL]
  by_cases h1 : i = j
  · subst h1
    simp [hi, show i < n + 1 by omega, show i ≠ n by omega]
  · simp [h1]

theorem pop_ready (hB : popB l n = true) {L : Array Bool} (hL : L.size = n) {i : Nat} (hi : i < n) : i ∈ Region.ready .any l.toArray (L.push false) ↔ i ∈ Region.ready .any (l.take n).toArray L := by
  rw [mem_ready, mem_ready, push_getD hL hi, pop_get hi]
  refine and_congr_right fun _ => ?_
  constructor
  · rintro ⟨o, ho, h⟩
    have he := (popB_edge hB (by simpa using ho)).1
    exact ⟨o, ho, fun e hm hb => by have := h e hm hb; rwa [push_getD hL (by have := he e hm hb; omega)] at this⟩
  · rintro ⟨o, ho, h⟩
    have he := (popB_edge hB (by simpa using ho)).1
    exact ⟨o, ho, fun e hm hb => by rw [push_getD hL (by have := he e hm hb; omega)]; exact h e hm hb⟩

theorem pop_all (hB : popB l n = true) {L : Array Bool} (hL : L.size = n) (h : Region.ready .any (l.take n).toArray L = []) : ∀ i, i < n → L.getD i false = true := by
  have hlen := popB_len hB
  intro i
  induction i using Nat.strongRecOn with
  | _ i ih =>
    intro hi
    cases hc : L.getD i false with
    | true => rfl
    | false =>
      exfalso
      have hget : l.toArray[i]? = some l[i] := by simp
      have he := (popB_edge hB (i := i) (o := l[i]) (by simp)).1
      have : i ∈ Region.ready .any (l.take n).toArray L := by
        rw [mem_ready, pop_get hi]
        exact ⟨getD_in (by omega) hc, _, hget, fun e hm hb => ih e.on (he e hm hb) (by have := he e hm hb; omega)⟩
      rw [h] at this
      cases this

theorem pop_upon {o : Oper} {a : Act} {w : World} {K K' next : Act → World → Prop} {Q : Exit → Act → World → Prop} (hK : ∀ a w, K a w → K' a w) (h : o.wp P a w K (Exit.then next Q)) : o.wp P a w K' Q := by
  have h := Oper.wp_mono hK h
  unfold Oper.wp at *
  generalize (execOp a.eval o).run P w = r at *
  cases r with
  | ok x w' =>
    cases x <;> simp only [Oper.upon] at h ⊢ <;>
      first
        | exact h
        | exact Calls.mono h (fun e w'' he => by cases e <;> exact he)
  | halt x w' => cases x <;> simp only [Oper.upon] at h ⊢ <;> exact h

theorem pop_op (hB : popB l n = true) {i : Nat} (hi : i < n) {a : Act} {w : World} {K K' next : Act → World → Prop} {Q : Exit → Act → World → Prop} (hK : ∀ a w, K a w → K' a w)
    (h : wpOp P (l.take n).toArray (Exit.then next Q) i K a w) : wpOp P l.toArray Q i K' a w := by
  have hlen := popB_len hB
  have hget : l.toArray[i]? = some l[i] := by simp
  have hg := (popB_edge hB (i := i) (o := l[i]) (by simp)).2
  have hw : Region.wanted l[i] (yielded l.toArray a.tmps) = Region.wanted l[i] (yielded (l.take n).toArray a.tmps) := by
    unfold Region.wanted
    cases hq : l[i].guard with
    | none => rfl
    | some gb =>
      obtain ⟨g, b⟩ := gb
      have := hg g b hq
      simp only
      unfold yielded
      rw [pop_get this]
  unfold wpOp at *
  rw [pop_get hi] at h
  simp only [hget] at h ⊢
  rw [hw]
  split
  · rename_i hc
    simp only [hc, if_true] at h
    exact h.imp (pop_upon hK) (fun ⟨h1, h2⟩ => ⟨h1, h2⟩)
  · rename_i hc
    simp only [hc] at h
    exact hK _ _ h

theorem pop_fin (hB : popB l n = true) {L : Array Bool} (hL : L.size = n) (hall : ∀ i, i < n → L.getD i false = true) {a : Act} {w : World} {Q : Exit → Act → World → Prop} (f : Nat)
    (h : wpList P l.toArray Q (l.drop n) a w) : wpAny P .any l.toArray Q (f + 1) (L.push false) a w := by
  have hlen := popB_len hB
  have hr : ∀ i, i ∈ Region.ready .any l.toArray (L.push false) ↔ i = n := by
    intro i
    constructor
    · intro hi
      obtain ⟨h1, o, ho, _⟩ := mem_ready.1 hi
      have hlt : i < n + 1 := by have := (Array.getElem?_eq_some_iff.1 ho).1; simp at this; omega
      rcases Nat.lt_or_ge i n with hin | hin
      · rw [push_getD hL hin] at h1
        have := hall i hin
        rw [getD_both h1] at this
        cases this
      · omega
    · rintro rfl
      refine mem_ready.2 ⟨push_last hL _, l[i], by simp, fun e hm hb => ?_⟩
      have := (popB_edge hB (i := i) (o := l[i]) (by simp)).1 e hm hb
      rw [push_getD hL this]
      exact hall _ this
  have hd : Region.ready .any l.toArray ((L.push false).setIfInBounds n true) = [] := by
    apply List.eq_nil_iff_forall_not_mem.2
    intro i hi
    obtain ⟨h1, o, ho, _⟩ := mem_ready.1 hi
    have hlt : i < n + 1 := by have := (Array.getElem?_eq_some_iff.1 ho).1; simp at this; omega
    rcases Nat.lt_or_ge i n with hin | hin
    · rw [getD_set_ne true (by omega), push_getD hL hin] at h1
      have := hall i hin
      rw [getD_both h1] at this
      cases this
    · obtain rfl : i = n := by omega
      have : ((L.push false).setIfInBounds i true).getD i true = true := by simp [Array.getD, hL]
      rw [this] at h1
      cases h1
  refine ⟨fun h0 => (by have := (hr n).2 rfl; rw [h0] at this; cases this), fun i hi => ?_⟩
  obtain rfl := (hr i).1 hi
  have hdrop : l.drop i = [l[i]] := by rw [List.drop_eq_getElem_cons (by omega), List.drop_of_length_le (by omega)]
  rw [hdrop] at h
  have hw : wpOp P l.toArray Q i (wpList P l.toArray Q []) a w := by unfold wpOp; simp only [show l.toArray[i]? = some l[i] by simp]; exact h
  exact wpOp_mono (fun a' w' h' => wpAny_done hd h' f) hw

theorem pop_any (hB : popB l n = true) {Q : Exit → Act → World → Prop} : ∀ (f : Nat) (L : Array Bool) (a : Act) (w : World), L.size = n → HeadInv .any l.toArray n (L.push false) →
    wpAny P .any (l.take n).toArray (Exit.then (wpList P l.toArray Q (l.drop n)) Q) f L a w → wpAny P .any l.toArray Q (f + 1) (L.push false) a w
  | 0, L, a, w, hL, _, h => pop_fin hB hL (pop_all hB hL h.1) 0 h.2
  | f + 1, L, a, w, hL, inv, h => by
    have hlen := popB_len hB
    by_cases hr : Region.ready .any (l.take n).toArray L = []
    · exact pop_fin hB hL (pop_all hB hL hr) (f + 1) (h.1 hr)
    · have hB' := hB
      simp only [popB, Bool.and_eq_true] at hB'
      have hsz : n < l.toArray.size := by simp; omega
      obtain ⟨i0, hi0⟩ := List.exists_mem_of_ne_nil _ hr
      have h0 := mem_ready.1 hi0
      have hi0n : i0 < n := by obtain ⟨_, o, ho, _⟩ := h0; have := (Array.getElem?_eq_some_iff.1 ho).1; simp at this; omega
      have hnot : n ∉ Region.ready .any l.toArray (L.push false) :=
        tail_waits hB'.1.2 hB'.2 hsz inv (n - i0) i0 rfl hi0n (by rw [push_getD hL hi0n]; exact h0.1) n (Nat.le_refl _)
      refine ⟨fun hn => ?_, fun i hi => ?_⟩
      · have := (pop_ready hB hL hi0n).2 hi0
        rw [hn] at this
        cases this
      · have hin : i < n := by
          obtain ⟨_, o, ho, _⟩ := mem_ready.1 hi
          have := (Array.getElem?_eq_some_iff.1 ho).1
          simp at this
          rcases Nat.lt_or_ge i n with h' | h'
          · exact h'
          · obtain rfl : i = n := by omega
            exact absurd hi hnot
        refine pop_op hB hin (fun a' w' h' => ?_) (h.2 i ((pop_ready hB hL hin).1 hi))
        have inv' := inv.set hi hin
        rw [push_set hL hin] at inv' ⊢
        exact pop_any hB f _ a' w' (by simpa using hL) inv' h'

/-- The region's last operation waits for all others and comes behind them; S holds till then. -/
theorem wp_region_pop {id : Nat} {Q : Exit → Act → World → Prop} {a : Act} {w : World} {S : World → Prop} (n : Nat) (hm : P.follows .mixedOrders = true) (hB : popB l n = true) (hS : S w.drew)
    (h : S w.drew → wpAnyH P .any (l.take n).toArray (Exit.then (wpList P l.toArray Q (l.drop n)) Q) S n (Array.replicate n false) a w.drew) : (Code.region id l.toArray true).wp P Q a w := by
  have hlen := popB_len hB
  refine wp_region_any hm ?_
  have h2 := wpAny_of_held _ _ _ _ (h hS)
  have inv : HeadInv .any l.toArray n ((Array.replicate n false).push false) := by
    have e : (Array.replicate n false).push false = Array.replicate (n + 1) false := by rw [Array.replicate_succ]
    rw [e]
    exact ⟨by simp; omega, fun j oj _ hl => (by rw [getD_replicate_false] at hl; cases hl), fun t _ ht => getD_in (by simp at ht ⊢; omega) (getD_replicate_false _ _)⟩
  have h3 := pop_any (P := P) hB n _ a w.drew (by simp) inv h2
  have e : l.toArray.size = n + 1 := by simp; omega
  rw [e, Array.replicate_succ]
  exact h3
end
end Go.Proofs.YtknpbcdmemlicaaGreatDoor
