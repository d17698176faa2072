/-
  Parts of the proof: Lin, Cg, Sortg.
-/
import Derived.Shelf.SlSortCmp.NoneTotal
import Derived.Test.YtacihodamichhaaGreatDoorN22
import Derived.Test.YtacihodamichhaaGreatDoorN25
import Derived.Test.YtacihodamichhaaGreatDoorN29
namespace Go.Proofs.YtacihodamichhaaGreatDoor
structure SWk {α : Type} (lt : α → α → Prop) : Prop where
 irr : ∀ x, ¬ lt x x
 tr : ∀ {x y z}, lt x y → lt y z → lt x z
 ntr : ∀ {x y z}, ¬ lt x y → ¬ lt y z → ¬ lt x z
theorem SWk.asym {α : Type} {lt : α → α → Prop} (H : SWk lt) {x y : α} (h : lt x y) : ¬ lt y x := fun k => H.irr _ (H.tr h k)
theorem SWk.lt_of_le {α : Type} {lt : α → α → Prop} (H : SWk lt) {x y z : α} (h : ¬ lt y x) (k : lt y z) : lt x z := Classical.byContradiction fun hn => by
 have h1 : ¬ lt y z := H.ntr h hn
 exact h1 k
theorem SWk.lt_le {α : Type} {lt : α → α → Prop} (H : SWk lt) {x y z : α} (h : lt x y) (k : ¬ lt z y) : lt x z := Classical.byContradiction fun hn => by
 have h1 : ¬ lt x y := H.ntr hn k
 exact h1 h
def Mem {α : Type} (lt : α → α → Prop) (X : List (α × α)) (c : α) : Prop := ∃ p ∈ X, ¬ lt c p.1 ∧ lt c p.2
structure IsSet {α : Type} (lt : α → α → Prop) (X : List (α × α)) : Prop where
 ne : ∀ p ∈ X, lt p.1 p.2
 gap : X.Pairwise fun p q => lt p.2 q.1
theorem Mem.nil {α : Type} {lt : α → α → Prop} {c : α} : ¬ Mem lt [] c := fun ⟨_, h, _⟩ => by cases h
theorem Mem.cons {α : Type} {lt : α → α → Prop} {p : α × α} {X : List (α × α)} {c : α} : Mem lt (p :: X) c ↔ (¬ lt c p.1 ∧ lt c p.2) ∨ Mem lt X c := by
 unfold Mem; simp
theorem Mem.app {α : Type} {lt : α → α → Prop} {X Y : List (α × α)} {c : α} : Mem lt (X ++ Y) c ↔ Mem lt X c ∨ Mem lt Y c := by
 unfold Mem; simp only [List.mem_append]
 exact ⟨fun ⟨p, h, k⟩ => h.elim (fun h => .inl ⟨p, h, k⟩) (fun h => .inr ⟨p, h, k⟩), fun h => h.elim (fun ⟨p, h, k⟩ => ⟨p, .inl h, k⟩) (fun ⟨p, h, k⟩ => ⟨p, .inr h, k⟩)⟩
theorem IsSet.nil {α : Type} {lt : α → α → Prop} : IsSet lt ([] : List (α × α)) := ⟨fun _ h => (by cases h), List.Pairwise.nil⟩
theorem IsSet.tail {α : Type} {lt : α → α → Prop} {p : α × α} {X : List (α × α)} (h : IsSet lt (p :: X)) : IsSet lt X := ⟨fun q hq => h.ne q (List.mem_cons_of_mem _ hq), (List.pairwise_cons.1 h.gap).2⟩
theorem IsSet.uniq {α : Type} {lt : α → α → Prop} (H : SWk lt) (P : α → Prop) (anti : ∀ x y, P x → P y → ¬ lt x y → ¬ lt y x → x = y) : ∀ {X Y : List (α × α)}, IsSet lt X → IsSet lt Y → (∀ p ∈ X, P p.1 ∧ P p.2) → (∀ p ∈ Y, P p.1 ∧ P p.2) → (∀ c, P c → (Mem lt X c ↔ Mem lt Y c)) → X = Y
 | [], [], _, _, _, _, _ => rfl
 | [], q :: Y, _, hY, _, pY, h => by
  have hq := hY.ne q (List.mem_cons_self ..)
  exact absurd ((h q.1 (pY q (List.mem_cons_self ..)).1).2 (Mem.cons.2 (.inl ⟨H.irr _, hq⟩))) Mem.nil
 | p :: X, [], hX, _, pX, _, h => by
  have hq := hX.ne p (List.mem_cons_self ..)
  exact absurd ((h p.1 (pX p (List.mem_cons_self ..)).1).1 (Mem.cons.2 (.inl ⟨H.irr _, hq⟩))) Mem.nil
 | p :: X, q :: Y, hX, hY, pX, pY, h => by
  have hp := hX.ne p (List.mem_cons_self ..)
  have hq := hY.ne q (List.mem_cons_self ..)
  obtain ⟨pp1, pp2⟩ := pX p (List.mem_cons_self ..)
  obtain ⟨pq1, pq2⟩ := pY q (List.mem_cons_self ..)
  have gX := (List.pairwise_cons.1 hX.gap).1
  have gY := (List.pairwise_cons.1 hY.gap).1
  -- the tail lies behind
  have tX : ∀ c, Mem lt X c → lt p.2 c := fun c ⟨r, hr, h1, _⟩ => H.lt_le (gX r hr) h1
  have tY : ∀ c, Mem lt Y c → lt q.2 c := fun c ⟨r, hr, h1, _⟩ => H.lt_le (gY r hr) h1
  have low1 : ¬ lt p.1 q.1 := fun hl => by
   rcases Mem.cons.1 ((h p.1 pp1).1 (Mem.cons.2 (.inl ⟨H.irr _, hp⟩))) with h1 | h1
   ·exact h1.1 hl
   ·exact H.asym hl (H.tr hq (tY _ h1))
  have low2 : ¬ lt q.1 p.1 := fun hl => by
   rcases Mem.cons.1 ((h q.1 pq1).2 (Mem.cons.2 (.inl ⟨H.irr _, hq⟩))) with h1 | h1
   ·exact h1.1 hl
   ·exact H.asym hl (H.tr hp (tX _ h1))
  have e1 : p.1 = q.1 := anti _ _ pp1 pq1 low1 low2
  have hi1 : ¬ lt p.2 q.2 := fun hl => by
   rcases Mem.cons.1 ((h p.2 pp2).2 (Mem.cons.2 (.inl ⟨fun h1 => H.asym h1 (e1 ▸ hp), hl⟩))) with h1 | h1
   ·exact H.irr _ h1.2
   ·exact H.irr _ (tX _ h1)
  have hi2 : ¬ lt q.2 p.2 := fun hl => by
   rcases Mem.cons.1 ((h q.2 pq2).1 (Mem.cons.2 (.inl ⟨fun h1 => H.asym h1 (e1 ▸ hq), hl⟩))) with h1 | h1
   ·exact H.irr _ h1.2
   ·exact H.irr _ (tY _ h1)
  have e2 : p.2 = q.2 := anti _ _ pp2 pq2 hi1 hi2
  have e : p = q := by cases p; cases q; simp only at e1 e2; rw [e1, e2]
  rw [e, IsSet.uniq H P anti hX.tail hY.tail (fun r hr => pX r (List.mem_cons_of_mem _ hr)) (fun r hr => pY r (List.mem_cons_of_mem _ hr)) (fun c hc => ⟨fun hm => by
   rcases Mem.cons.1 ((h c hc).1 (Mem.cons.2 (.inr hm))) with h1 | h1
   ·exact absurd (tX _ hm) (H.asym (e2 ▸ h1.2))
   ·exact h1, fun hm => by
   rcases Mem.cons.1 ((h c hc).2 (Mem.cons.2 (.inr hm))) with h1 | h1
   ·exact absurd (tY _ hm) (H.asym (e2 ▸ h1.2))
   ·exact h1⟩)]
def putR {α : Type} (lt : α → α → Prop) [DecidableRel lt] (O : List (α × α)) (p : α × α) : List (α × α) :=
 match O.getLast? with
 | none => [p]
 | some q => if lt q.2 p.1 then O ++ [p] else if lt q.2 p.2 then O.dropLast ++ [(q.1, p.2)] else O
def mergeR {α : Type} (lt : α → α → Prop) [DecidableRel lt] (l : List (α × α)) : List (α × α) := l.foldl (putR lt) []
theorem getLast_snoc {β : Type} {O : List β} {q : β} (h : O.getLast? = some q) : O = O.dropLast ++ [q] := by
 obtain ⟨ys, rfl⟩ := List.getLast?_eq_some_iff.1 h
 rw [List.dropLast_concat]
theorem isSet_snoc {α : Type} {lt : α → α → Prop} {O : List (α × α)} {p : α × α} (h : IsSet lt O) (hp : lt p.1 p.2) (hg : ∀ q ∈ O, lt q.2 p.1) : IsSet lt (O ++ [p]) :=
 ⟨fun q hq => by
  rcases List.mem_append.1 hq with h1 | h1
  ·exact h.ne q h1
  ·cases List.mem_singleton.1 h1; exact hp, List.pairwise_append.2 ⟨h.gap, List.pairwise_singleton _ _, fun a ha b hb => by cases List.mem_singleton.1 hb; exact hg a ha⟩⟩
theorem isSet_init {α : Type} {lt : α → α → Prop} {O : List (α × α)} {p : α × α} (h : IsSet lt (O ++ [p])) : IsSet lt O ∧ lt p.1 p.2 ∧ ∀ q ∈ O, lt q.2 p.1 :=
 ⟨⟨fun q hq => h.ne q (List.mem_append_left _ hq), (List.pairwise_append.1 h.gap).1⟩, h.ne p (List.mem_append_right _ (List.mem_singleton.2 rfl)), fun q hq => (List.pairwise_append.1 h.gap).2.2 q hq p (List.mem_singleton.2 rfl)⟩
theorem putR_ok {α : Type} {lt : α → α → Prop} [DecidableRel lt] (H : SWk lt) {O : List (α × α)} {p : α × α} (h : IsSet lt O) (hp : lt p.1 p.2) (hl : ∀ q ∈ O, ¬ lt p.1 q.1) :
  IsSet lt (putR lt O p) ∧ (∀ c, Mem lt (putR lt O p) c ↔ Mem lt O c ∨ (¬ lt c p.1 ∧ lt c p.2)) ∧ ∀ q ∈ putR lt O p, ¬ lt p.1 q.1 := by
 unfold putR
 cases e : O.getLast? with
 | none =>
  rw [List.getLast?_eq_none_iff] at e
  subst e
  refine ⟨⟨fun q hq => ?_, List.pairwise_singleton _ _⟩, fun c => ?_, fun q hq => ?_⟩
  ·cases List.mem_singleton.1 hq; exact hp
  ·constructor
   ·intro hm
    rcases Mem.cons.1 hm with h1 | h1
    ·exact .inr h1
    ·exact absurd h1 Mem.nil
   ·intro hm
    rcases hm with h1 | h1
    ·exact absurd h1 Mem.nil
    ·exact Mem.cons.2 (.inl h1)
  ·cases List.mem_singleton.1 hq; exact H.irr _
 | some q =>
  have hO := getLast_snoc e
  generalize O.dropLast = I at hO
  subst hO
  obtain ⟨hI, hq, hgI⟩ := isSet_init h
  have hlq : ¬ lt p.1 q.1 := hl q (List.mem_append_right _ (List.mem_singleton.2 rfl))
  dsimp only
  split
  ·rename_i h1
   refine ⟨isSet_snoc h hp fun r hr => ?_, fun c => ?_, fun r hr => ?_⟩
   ·rcases List.mem_append.1 hr with h2 | h2
    ·exact H.tr (H.tr (hgI r h2) hq) h1
    ·cases List.mem_singleton.1 h2; exact h1
   ·rw [Mem.app (X := I ++ [q])]
    exact or_congr Iff.rfl ⟨fun hm => (Mem.cons.1 hm).elim id (fun h => absurd h Mem.nil), fun hm => Mem.cons.2 (.inl hm)⟩
   ·rcases List.mem_append.1 hr with h2 | h2
    ·exact hl r h2
    ·cases List.mem_singleton.1 h2; exact H.irr _
  ·rename_i h1
   split
   ·rename_i h2
    refine ⟨isSet_snoc hI (H.tr hq h2) hgI, fun c => ?_, fun r hr => ?_⟩
    ·rw [Mem.app, Mem.app, Mem.cons, Mem.cons]
     have n1 := @Mem.nil α lt c
     constructor
     ·rintro (a | ⟨a, b⟩ | a)
      ·exact .inl (.inl a)
      ·by_cases hc : lt c q.2
       ·exact .inl (.inr (.inl ⟨a, hc⟩))
       ·exact .inr ⟨fun hh => hc (H.lt_le hh h1), b⟩
      ·exact absurd a n1
     ·rintro ((a | ⟨a, b⟩ | a) | ⟨a, b⟩)
      ·exact .inl a
      ·exact .inr (.inl ⟨a, H.tr b h2⟩)
      ·exact absurd a n1
      ·exact .inr (.inl ⟨H.ntr a hlq, b⟩)
    ·rcases List.mem_append.1 hr with h3 | h3
     ·exact hl r (List.mem_append_left _ h3)
     ·cases List.mem_singleton.1 h3; exact hlq
   ·rename_i h2
    refine ⟨h, fun c => ?_, hl⟩
    constructor
    ·exact .inl
    ·rintro (a | ⟨a, b⟩)
     ·exact a
     ·exact Mem.app.2 (.inr (Mem.cons.2 (.inl ⟨H.ntr a hlq, H.lt_le b h2⟩)))
theorem mergeR_from {α : Type} {lt : α → α → Prop} [DecidableRel lt] (H : SWk lt) : ∀ (l O : List (α × α)), IsSet lt O → (∀ p ∈ l, lt p.1 p.2) → l.Pairwise (fun p q => ¬ lt q.1 p.1) → (∀ p ∈ l, ∀ q ∈ O, ¬ lt p.1 q.1) →
  IsSet lt (l.foldl (putR lt) O) ∧ ∀ c, Mem lt (l.foldl (putR lt) O) c ↔ Mem lt O c ∨ Mem lt l c
 | [], O, hO, _, _, _ => ⟨hO, fun c => ⟨.inl, fun h => h.elim id fun h => absurd h Mem.nil⟩⟩
 | p :: l, O, hO, hne, hs, hlow => by
  obtain ⟨h1, h2, h3⟩ := putR_ok H hO (hne p (List.mem_cons_self ..)) (hlow p (List.mem_cons_self ..))
  obtain ⟨k1, k2⟩ := mergeR_from H l (putR lt O p) h1 (fun q hq => hne q (List.mem_cons_of_mem _ hq)) (List.pairwise_cons.1 hs).2 (fun q hq r hr => H.ntr ((List.pairwise_cons.1 hs).1 q hq) (h3 r hr))
  refine ⟨k1, fun c => ?_⟩
  rw [List.foldl_cons, k2, h2, Mem.cons, or_assoc]
theorem mergeR_ok {α : Type} {lt : α → α → Prop} [DecidableRel lt] (H : SWk lt) {l : List (α × α)} (hne : ∀ p ∈ l, lt p.1 p.2) (hs : l.Pairwise (fun p q => ¬ lt q.1 p.1)) : IsSet lt (mergeR lt l) ∧ ∀ c, Mem lt (mergeR lt l) c ↔ Mem lt l c := by
 obtain ⟨h1, h2⟩ := mergeR_from H l [] IsSet.nil hne hs (fun _ _ _ h => by cases h)
 exact ⟨h1, fun c => by rw [mergeR, h2]; exact ⟨fun h => h.elim (fun h => absurd h Mem.nil) id, .inr⟩⟩
theorem Mem.perm {α : Type} {lt : α → α → Prop} {X Y : List (α × α)} (h : X.Perm Y) (c : α) : Mem lt X c ↔ Mem lt Y c := ⟨fun ⟨p, hp, k⟩ => ⟨p, h.mem_iff.1 hp, k⟩, fun ⟨p, hp, k⟩ => ⟨p, h.mem_iff.2 hp, k⟩⟩
theorem mergeR_all {α : Type} {lt : α → α → Prop} [DecidableRel lt] {P : α → Prop} : ∀ (l O : List (α × α)), (∀ p ∈ l, P p.1 ∧ P p.2) → (∀ p ∈ O, P p.1 ∧ P p.2) → ∀ p ∈ l.foldl (putR lt) O, P p.1 ∧ P p.2
 | [], _, _, hO => hO
 | p :: l, O, hl, hO => by
  refine mergeR_all l _ (fun q hq => hl q (List.mem_cons_of_mem _ hq)) fun q hq => ?_
  have hp := hl p (List.mem_cons_self ..)
  unfold putR at hq
  cases e : O.getLast? with
  | none =>
   rw [e] at hq
   cases List.mem_singleton.1 hq; exact hp
  | some r =>
   rw [e] at hq
   have hr := hO r (List.mem_of_getLast? e)
   dsimp only at hq
   split at hq
   ·rcases List.mem_append.1 hq with h | h
    ·exact hO q h
    ·cases List.mem_singleton.1 h; exact hp
   ·split at hq
    ·rcases List.mem_append.1 hq with h | h
     ·exact hO q (List.dropLast_subset _ h)
     ·cases List.mem_singleton.1 h; exact ⟨hr.1, hp.2⟩
    ·exact hO q hq
theorem mem_filter {α : Type} {lt : α → α → Prop} [DecidableRel lt] (H : SWk lt) {X : List (α × α)} {c : α} : Mem lt (X.filter fun p => decide (lt p.1 p.2)) c ↔ Mem lt X c := by
 constructor
 ·rintro ⟨p, hp, k⟩
  exact ⟨p, (List.mem_filter.1 hp).1, k⟩
 ·rintro ⟨p, hp, k1, k2⟩
  exact ⟨p, List.mem_filter.2 ⟨hp, by simpa using H.lt_of_le k1 k2⟩, k1, k2⟩
end Go.Proofs.YtacihodamichhaaGreatDoor
namespace Go.Proofs.YtacihodamichhaaGreatDoor
def CG (x y : Cut) : Prop := cmpG x y < 0
instance (x y : Cut) : Decidable (CG x y) := inferInstanceAs (Decidable (_ < _))
theorem dn_pos {q : Int} (h : 0 ≤ q) : 0 < dn q := by
 unfold dn
 split
 ·decide
 ·omega
theorem denR_nn (l : List UInt8) : 0 ≤ denR l := by
 unfold denR
 split
 ·exact Int.natCast_nonneg _
 ·exact Int.le_refl _
def QL (x y : Cut) : Prop := numR x.s.data.toList * dn (denR y.s.data.toList) ≤ numR y.s.data.toList * dn (denR x.s.data.toList)
theorem ql_tr {x y z : Cut} (h : QL x y) (k : QL y z) : QL x z := by
 unfold QL at *
 have hx := dn_pos (denR_nn x.s.data.toList)
 have hy := dn_pos (denR_nn y.s.data.toList)
 have hz := dn_pos (denR_nn z.s.data.toList)
 generalize dn (denR x.s.data.toList) = b at *
 generalize dn (denR y.s.data.toList) = d at *
 generalize dn (denR z.s.data.toList) = f at *
 generalize numR x.s.data.toList = a at *
 generalize numR y.s.data.toList = c at *
 generalize numR z.s.data.toList = e at *
 have h1 := Int.mul_le_mul_of_nonneg_right h (Int.le_of_lt hz)
 have h2 := Int.mul_le_mul_of_nonneg_right k (Int.le_of_lt hx)
 have h3 : a * f * d ≤ e * b * d := by
  have e1 : a * f * d = a * d * f := by rw [Int.mul_assoc, Int.mul_comm f, ← Int.mul_assoc]
  have e2 : e * b * d = e * d * b := by rw [Int.mul_assoc, Int.mul_comm b, ← Int.mul_assoc]
  have e3 : c * b * f = c * f * b := by rw [Int.mul_assoc, Int.mul_comm b, ← Int.mul_assoc]
  omega
 exact Int.le_of_mul_le_mul_right h3 hy
theorem cg_iff {x y : Cut} : CG x y ↔ x.b < y.b ∨ (x.b = y.b ∧ (¬ QL y x ∨ (QL x y ∧ QL y x ∧ x.d < y.d))) := by
 have a := @cmpZ_lt x.b y.b; have a' := @cmpZ_eq x.b y.b; have c := @cmpZ_lt x.d y.d
 have b := @cmpZ_lt (numR x.s.data.toList * dn (denR y.s.data.toList)) (numR y.s.data.toList * dn (denR x.s.data.toList))
 have b' := @cmpZ_eq (numR x.s.data.toList * dn (denR y.s.data.toList)) (numR y.s.data.toList * dn (denR x.s.data.toList))
 unfold CG cmpG or3 QL
 rw [show cmpQ (numR x.s.data.toList) (denR x.s.data.toList) (numR y.s.data.toList) (denR y.s.data.toList) = cmpZ (numR x.s.data.toList * dn (denR y.s.data.toList)) (numR y.s.data.toList * dn (denR x.s.data.toList)) from rfl]
 generalize numR x.s.data.toList * dn (denR y.s.data.toList) = u at *
 generalize numR y.s.data.toList * dn (denR x.s.data.toList) = v at *
 generalize cmpZ u v = r at *
 split
 ·omega
 ·split <;> omega
theorem ql_total (x y : Cut) : QL x y ∨ QL y x := Int.le_total _ _
theorem cg_swk : SWk CG where
 irr x h := by
  rw [cg_iff] at h
  have := ql_total x x
  rcases h with h | ⟨_, h | ⟨_, _, h⟩⟩
  ·omega
  ·exact h (this.elim id id)
  ·omega
 tr {x y z} h k := by
  rw [cg_iff] at *
  have t1 := @ql_tr x y z; have t2 := @ql_tr z x y; have t3 := @ql_tr y z x; have t4 := @ql_tr z y x; have t5 := @ql_tr x z y; have t6 := @ql_tr y x z
  have u1 := ql_total x y; have u2 := ql_total y z; have u3 := ql_total x z
  by_cases a : QL x y <;> by_cases b : QL y x <;> by_cases c : QL y z <;> by_cases d : QL z y <;> by_cases e : QL x z <;> by_cases f : QL z x <;> simp_all <;> omega
 ntr {x y z} h k := by
  rw [cg_iff] at *
  have t1 := @ql_tr x y z; have t2 := @ql_tr z x y; have t3 := @ql_tr y z x; have t4 := @ql_tr z y x; have t5 := @ql_tr x z y; have t6 := @ql_tr y x z
  have u1 := ql_total x y; have u2 := ql_total y z; have u3 := ql_total x z
  by_cases a : QL x y <;> by_cases b : QL y x <;> by_cases c : QL y z <;> by_cases d : QL z y <;> by_cases e : QL x z <;> by_cases f : QL z x <;> simp_all <;> omega
theorem cmpG_neg (x y : Cut) : cmpG y x = -cmpG x y := by
 have a := cmpZ_neg x.b y.b; have b := cmpZ_neg (numR x.s.data.toList * dn (denR y.s.data.toList)) (numR y.s.data.toList * dn (denR x.s.data.toList)); have c := cmpZ_neg x.d y.d
 unfold cmpG or3 cmpQ
 rw [a, b, c]
 split <;> split <;> (try split) <;> (try split) <;> omega
theorem cg_gt {x y : Cut} : 0 < cmpG x y ↔ CG y x := by
 unfold CG
 rw [cmpG_neg x y]; omega
theorem cg_nle {x y : Cut} : ¬ CG y x ↔ cmpG x y ≤ 0 := by rw [← cg_gt]; omega
theorem cg_eq0 {x y : Cut} : cmpG x y = 0 ↔ ¬ CG x y ∧ ¬ CG y x := by
 have h := @cg_gt x y
 unfold CG at *
 omega
theorem split47 : ∀ {l : List UInt8}, divB l = true → l = topL l ++ 47 :: botL l
 | [], h => by cases h
 | c :: l, h => by
  by_cases hc : c = 47
  ·subst hc; rfl
  ·have h1 : divB l = true := by
    unfold divB at h ⊢
    rw [List.any_cons] at h
    have : (c == 47) = false := beq_eq_false_iff_ne.2 hc
    rw [this, Bool.false_or] at h
    exact h
   have ih := split47 h1
   have e1 : topL (c :: l) = c :: topL l := by
    unfold topL
    rw [List.takeWhile_cons, if_pos (by simpa using hc)]
   have e2 : botL (c :: l) = botL l := by
    unfold botL
    rw [List.dropWhile_cons, if_pos (by simpa using hc)]
   rw [e1, e2, List.cons_append, ← ih]
theorem noSl : ∀ {l : List UInt8}, divB l = false → topL l = l
 | [], _ => rfl
 | c :: l, h => by
  unfold divB at h
  rw [List.any_cons, Bool.or_eq_false_iff] at h
  have hc : c ≠ 47 := beq_eq_false_iff_ne.1 h.1
  unfold topL
  rw [List.takeWhile_cons, if_pos (by simpa using hc)]
  have := noSl (l := l) h.2
  unfold topL at this
  rw [this]
structure Good (l : List UInt8) : Prop where
 top : digB (absL (topL l)) = true
 sgn : badI (absL (topL l)) (negB (topL l)) = false
 bot : divB l = true → digB (botL l) = true ∧ (botL l).head? ≠ some 48 ∧ 1 < valD (botL l) ∧ Nat.gcd (valD (absL (topL l))) (valD (botL l)) = 1
theorem good_of {l : List UInt8} (h : errL l = 0) : Good l := by
 unfold errL at h
 split at h
 ·cases h
 rename_i h1
 split at h
 ·cases h
 rename_i h2
 split at h
 ·cases h
 rename_i h3
 have t1 : digB (absL (topL l)) = true := by
  cases e : digB (absL (topL l)) with
  | true => rfl
  | false => rw [e] at h1; simp at h1
 split at h
 ·rename_i h4
  exact ⟨t1, by simpa using h3, fun hd => by rw [hd] at h4; cases h4⟩
 rename_i h4
 split at h
 ·cases h
 rename_i h5
 split at h
 ·cases h
 rename_i h6
 refine ⟨t1, by simpa using h3, fun hd => ?_⟩
 have t2 : digB (botL l) = true := by
  cases e : digB (botL l) with
  | true => rfl
  | false => rw [hd, e, t1] at h1; simp at h1
 have hz : zerB (botL l) = false := by
  cases e2 : zerB (botL l) with
  | false => rfl
  | true => rw [hd, e2] at h2; simp at h2
 have hbad := head_bad t2 hz
 have t3 : (botL l).head? ≠ some 48 := by
  intro e
  rw [e] at hbad
  exact h5 hbad.symm
 simp only [Bool.or_eq_true, beq_iff_eq, bne_iff_ne, ne_eq, not_or, Classical.not_not] at h6
 have t4 : valD (botL l) ≠ 0 := by
  intro e
  have hc := canon_den t2 t3
  rw [e, txtN_zero] at hc
  exact t3 (by rw [hc]; rfl)
 exact ⟨t2, t3, by omega, h6.2⟩
theorem numR_of {l : List UInt8} (h : errL l = 0) : numR l = numL l := by unfold numR; rw [if_pos h]
theorem denR_of {l : List UInt8} (h : errL l = 0) : denR l = (denL l : Int) := by unfold denR; rw [if_pos h]
theorem text_eq {l m : List UInt8} (h : errL l = 0) (k : errL m = 0) (he : numR l * dn (denR m) = numR m * dn (denR l)) : l = m := by
 rw [numR_of h, numR_of k, denR_of h, denR_of k] at he
 have gl := good_of h
 have gm := good_of k
 have red : ∀ {l : List UInt8}, Good l → 0 < dn (denL l : Int) ∧ Nat.gcd (numL l).natAbs (dn (denL l : Int)).natAbs = 1 ∧ (divB l = true ↔ dn (denL l : Int) ≠ 1) ∧ (divB l = true → dn (denL l : Int) = (valD (botL l) : Int)) := by
  intro l g
  have hn : (numL l).natAbs = valD (absL (topL l)) := sgn_abs _ _
  rw [hn]
  by_cases hd : divB l = true
  ·obtain ⟨_, _, h3, h4⟩ := g.bot hd
   have hv : dn (denL l : Int) = (valD (botL l) : Int) := by
    unfold denL dn
    rw [if_pos hd, if_neg (by omega)]
   rw [hv]
   exact ⟨by omega, by simpa using h4, ⟨fun _ => by omega, fun _ => hd⟩, fun _ => rfl⟩
  ·have hv : dn (denL l : Int) = 1 := by
    unfold denL dn
    rw [if_neg hd]; rfl
   rw [hv]
   exact ⟨by decide, by simp, ⟨fun h => absurd h hd, fun h => absurd rfl h⟩, fun h => absurd h hd⟩
 obtain ⟨pl, cl, dl, vl⟩ := red gl
 obtain ⟨pm, cm, dm, vm⟩ := red gm
 have hden : dn (denL l : Int) = dn (denL m : Int) := by
  have d1 : (dn (denL l : Int)).natAbs ∣ (numL l).natAbs * (dn (denL m : Int)).natAbs := by
   rw [← Int.natAbs_mul, he, Int.natAbs_mul]
   exact Nat.dvd_mul_left _ _
  have d2 : (dn (denL m : Int)).natAbs ∣ (numL m).natAbs * (dn (denL l : Int)).natAbs := by
   rw [← Int.natAbs_mul, ← he, Int.natAbs_mul]
   exact Nat.dvd_mul_left _ _
  have e1 := (Nat.Coprime.dvd_of_dvd_mul_left (Nat.Coprime.symm (show Nat.Coprime _ _ from cl))) d1
  have e2 := (Nat.Coprime.dvd_of_dvd_mul_left (Nat.Coprime.symm (show Nat.Coprime _ _ from cm))) d2
  have := Nat.dvd_antisymm e1 e2
  omega
 have hnum : numL l = numL m := by
  rw [hden] at he
  exact Int.eq_of_mul_eq_mul_right (by omega) he
 have htop : topL l = topL m := by
  rw [canon_top gl.top gl.sgn, canon_top gm.top gm.sgn]
  show txtZ (numL l) = txtZ (numL m)
  rw [hnum]
 by_cases hd : divB l = true
 ·have hd' : divB m = true := dm.2 (by rw [← hden]; exact dl.1 hd)
  obtain ⟨b1, b2, _, _⟩ := gl.bot hd
  obtain ⟨c1, c2, _, _⟩ := gm.bot hd'
  have hv : valD (botL l) = valD (botL m) := by
   have := vl hd; have := vm hd'; omega
  rw [split47 hd, split47 hd', htop, canon_den b1 b2, canon_den c1 c2, hv]
 ·have hd' : ¬ divB m = true := fun e => hd (dl.2 (by rw [hden]; exact dm.1 e))
  rw [← noSl (by simpa using hd : divB l = false), ← noSl (by simpa using hd' : divB m = false), htop]
def CokG (c : Cut) : Prop := (c.b = 0 ∧ errL c.s.data.toList = 0 ∧ (c.d = 1 ∨ c.d = -1)) ∨ ((c.b = 1 ∨ c.b = -1) ∧ c.s = ⟨#[]⟩ ∧ c.d = 0)
theorem cg_anti (x y : Cut) (hx : CokG x) (hy : CokG y) (h : ¬ CG x y) (k : ¬ CG y x) : x = y := by
 have e := cg_eq0.2 ⟨h, k⟩
 unfold cmpG or3 at e
 split at e
 ·rename_i h1; exact absurd e h1
 rename_i h1
 have hb : x.b = y.b := cmpZ_eq.1 (by omega)
 rcases hx with ⟨x1, x2, x3⟩ | ⟨x1, x2, x3⟩ <;> rcases hy with ⟨y1, y2, y3⟩ | ⟨y1, y2, y3⟩
 ·split at e
  ·rename_i h2; exact absurd e h2
  rename_i h2
  have hd : x.d = y.d := cmpZ_eq.1 e
  have hs := text_eq x2 y2 (cmpZ_eq.1 (show cmpZ _ _ = 0 by unfold cmpQ at h2; omega))
  have hs2 : x.s = y.s := by
   have := congrArg (fun l : List UInt8 => (⟨l.toArray⟩ : ByteArray)) hs
   rw [bytes_of (s := x.s) rfl, bytes_of (s := y.s) rfl]
   exact this
  cases x; cases y; simp only at hb hd hs2; rw [hb, hd, hs2]
 ·omega
 ·omega
 ·cases x; cases y; simp only at hb x2 x3 y2 y3; rw [hb, x2, x3, y2, y3]
end Go.Proofs.YtacihodamichhaaGreatDoor
namespace Go.Proofs.YtacihodamichhaaGreatDoor
open Go.RowKit
theorem GC.cells_len (k : GC) : k.cells.length = 7 := rfl
theorem GP.row_len (p : GP) : p.row.length = 14 := rfl
theorem cutcmp_gd (k l : GC) (w : World) (hk : k.ok w) (hl : l.ok w) : Calls Tryz.prog 73 #[k.agg, l.agg] w (RetD (.int .i64 (cmpG k.c l.c)) w) := (Dr.cutcmp_g k l w hk hl).mono fun _ _ h => h.bd
theorem swoG {α : Type} (f : α → Cut) : Go.Sort.SWO (Go.Proofs.ltOf fun x y : α => cmpG (f x) (f y)) where
 irrefl x := by
  unfold Go.Proofs.ltOf
  rw [decide_eq_false_iff_not]
  exact cg_swk.irr (f x)
 trans x y z h1 h2 := by
  unfold Go.Proofs.ltOf at *
  rw [decide_eq_true_eq] at *
  exact cg_swk.tr (x := f x) (y := f y) (z := f z) h1 h2
 ntrans x y z h1 h2 := by
  unfold Go.Proofs.ltOf at *
  rw [decide_eq_false_iff_not] at *
  exact cg_swk.ntr (x := f x) (y := f y) (z := f z) h1 h2
theorem sorted_listsG {β α : Type} [Inhabited α] (val : α → β) (cf : β → Cut) (d d' : Array α) (hp : Go.Sort.PermIn 0 d.size d d') (hs : Go.Sort.SortedIn (Go.Proofs.ltOf fun x y : α => cmpG (cf (val x)) (cf (val y))) 0 d.size d') :
  (d'.toList.map val).Perm (d.toList.map val) ∧ ∀ (i j : Nat) (x y : β), i < j → (d'.toList.map val)[i]? = some x → (d'.toList.map val)[j]? = some y → ¬ CG (cf y) (cf x) := by
 obtain ⟨hsz, -, hperm⟩ := hp
 have e1 : d'.extract 0 d.size = d' := by rw [← hsz]; simp
 have e2 : d.extract 0 d.size = d := by simp
 rw [e1, e2] at hperm
 refine ⟨hperm.map val, fun i j x y hij hx hy hlt => ?_⟩
 simp only [List.getElem?_map, Option.map_eq_some_iff, Array.getElem?_toList] at hx hy
 obtain ⟨a, ha, rfl⟩ := hx
 obtain ⟨b, hb, rfl⟩ := hy
 have hj : j < d'.size := (Array.getElem?_eq_some_iff.1 hb).1
 have hi : i < d'.size := by omega
 have := hs i j (Nat.zero_le _) hij (by omega)
 rw [getElem!_pos d' j hj, getElem!_pos d' i hi, (Array.getElem?_eq_some_iff.1 hb).2, (Array.getElem?_eq_some_iff.1 ha).2] at this
 unfold Go.Proofs.ltOf at this
 rw [decide_eq_false_iff_not] at this
 exact this hlt
set_option maxHeartbeats 4000000 in
theorem partcmp_gd (p q : GP) (w : World) (hp : p.ok w) (hq : q.ok w) : Calls Tryz.prog 75 #[gpagg p.l p.h, gpagg q.l q.h] w (RetD (.int .i64 (cmpG p.l.c q.l.c)) w) := by
 have H := hI (fun w' (hb : Below w.heap.size w w') => cutcmp_gd p.l q.l w' (hp.1.mono hb) (hq.1.mono hb))
 unfold GC.agg at H
 generalize cmpG p.l.c q.l.c = R at *
 unfold gpagg
 clear hp hq
 go_enter Tryz.func75, Tryz.ntmps75
 go_wp2_with (go_at_call 73; refine (H.out _ (below2 w _ _)).mono ?_; rintro e w1 ⟨rfl, hb1⟩)
 go_ret
 exact ⟨rfl, (below2 w _ _).via hb1.1 (below2 w _ _).size, by have := hb1.2; simpa using this⟩
set_option maxHeartbeats 4000000 in
theorem sort_gparts (P : List GP) (N : Nat) (hN : P.length = N) (w : World) (B g cap : Nat) (hne : P ≠ []) (hown : w.ownsRow B 84 14 (.slice (some ⟨g, 0, none⟩) N cap) N ((P.map GP.row).flatten)) (hok : ∀ k ∈ P, k.ok w) (hsz : N < 4611686018427387904) :
  Calls Tryz.prog 74 #[.slice (some ⟨g, 0, none⟩) N cap, .func (.func 75) #[] #[]] w (fun e w' => e = .returned (.tuple #[]) ∧ w.grownBy w' (some g) ∧ ∃ P' : List GP, P'.Perm P ∧ (∀ (i j : Nat) (x y : GP), i < j → P'[i]? = some x → P'[j]? = some y → ¬ CG y.l.c x.l.c) ∧ GParts w' (.slice (some ⟨g, 0, none⟩) N cap) P') := by
 subst hN
 let α := {x : GP // x ∈ P}
 have : Inhabited α := by
  cases P with
  | nil => exact absurd rfl hne
  | cons a l => exact ⟨⟨a, List.mem_cons_self ..⟩⟩
 let d : Array α := P.attach.toArray
 have hd : d.toList.map Subtype.val = P := by simp [d]
 have hds : d.size = P.length := by have h := congrArg List.length hd; rw [List.length_map, Array.length_toList] at h; exact h
 have hown' := hown
 rw [← hds] at hown'
 rw [← hd] at hown'
 have hH := holds_of_own GP.row 14 GP.row_len (by decide) (α := α) Subtype.val d w hown'
 obtain ⟨_, _, hv, hcap1, hcap2⟩ := own_open hown
 cases hv
 have hgl : g < w.heap.size := (hown.lt g rfl).2
 have hcmp : CmpLays Tryz.prog 75 #[] (fun a : α => GP.row a.val) 14 (fun x y => cmpG x.val.l.c y.val.l.c) g 0 d.size w := by
  intro m os dk hdk x y
  have hg := sort_grown (fun a : α => GP.row a.val) 14 w g 0 m dk os
  have hx : x.1.ok _ := ⟨(hok x.1 x.2).1.grown hown (by decide) hg, (hok x.1 x.2).2.grown hown (by decide) hg⟩
  have hy : y.1.ok _ := ⟨(hok y.1 y.2).1.grown hown (by decide) hg, (hok y.1 y.2).2.grown hown (by decide) hg⟩
  refine (partcmp_gd x.1 y.1 _ hx hy).mono fun e w' h => ⟨h.1, bd_grow h.2⟩
 have h := AnyQ.slices_SortFunc Tryz.sortP 14 Tryz.isAgg84 Tryz.sizeOf84 (fun a : α => GP.row a.val) (fun a => rfl) (fun a => one14g a.1) (fun x y => cmpG x.val.l.c y.val.l.c) (swoG fun x : α => x.val.l.c) 75 #[] g 0 cap d w (enters_of Tryz.func75 (by kernel_rfl) rfl) hcmp hH hgl (by rw [hds]; exact hsz)
 rw [hds] at h
 change Calls Tryz.prog 74 _ _ _ at h
 refine h.mono fun e w' ⟨he, d', n, os, hp, hs, hw⟩ => ⟨he, by rw [hw]; exact sort_grown _ _ _ _ _ _ _ _, d'.toList.map Subtype.val, ?_⟩
 have hg : w.grownBy w' (some g) := by rw [hw]; exact sort_grown _ _ _ _ _ _ _ _
 rw [← hds] at hp hs
 obtain ⟨hperm, hsort⟩ := sorted_listsG (β := GP) (α := α) Subtype.val (fun p => p.l.c) d d' hp hs
 rw [hd] at hperm
 have hd's : d'.size = P.length := by rw [hp.1, hds]
 refine ⟨hperm, hsort, ?_, fun k hk => ⟨(hok k (hperm.mem_iff.1 hk)).1.grown hown (by decide) hg, (hok k (hperm.mem_iff.1 hk)).2.grown hown (by decide) hg⟩⟩
 have hH' : Go.Sort.HoldsK (fun a : α => GP.row a.val) 14 w' g 0 d' := by
  rw [hw]
  exact Go.Sort.holdsK_grow _ _ _ _ _ _ _ (by rw [show (Go.Sort.putRowK _ _ _ _ _ _).heap.size = _ from Go.Sort.size_putRow _ _ _ _ _]; exact hgl) (Go.Sort.holdsK_putRowK _ _ _ _ _ d _ hH hp.1)
 have := sl_of_holds GP.row 14 GP.row_len (α := α) Subtype.val d' w' (cap := cap) hH' (Nat.lt_of_lt_of_le hgl hg.size) (by omega) hcap2
 rw [hd's] at this
 exact this
set_option maxHeartbeats 4000000 in
theorem sort_gparts_any (P : List GP) (N : Nat) (hN : P.length = N) (w : World) (B cap : Nat) (a : Option Addr) (hown : w.ownsRow B 84 14 (.slice a N cap) N ((P.map GP.row).flatten)) (hok : ∀ k ∈ P, k.ok w) (hsz : N < 4611686018427387904) :
  Calls Tryz.prog 74 #[.slice a N cap, .func (.func 75) #[] #[]] w (fun e w' => e = .returned (.tuple #[]) ∧ w.grownBy w' (Value.slice a N cap).ownBlock ∧ ∃ P' : List GP, P'.Perm P ∧ (∀ (i j : Nat) (x y : GP), i < j → P'[i]? = some x → P'[j]? = some y → ¬ CG y.l.c x.l.c) ∧ GParts w' (.slice a N cap) P') := by
 rcases Nat.eq_zero_or_pos N with h0 | h0
 ·subst h0
  obtain rfl := List.length_eq_zero_iff.1 hN
  have h := AnyF.slices_SortFunc_none Tryz.sortP a cap (.func (.func 75) #[] #[]) w
  change Calls Tryz.prog 74 _ _ _ at h
  refine h.mono ?_
  rintro e w' ⟨rfl, rfl⟩
  exact ⟨rfl, ⟨rfl, rfl, rfl, Nat.le_refl _, fun _ _ _ => rfl⟩, [], List.Perm.refl _, (fun i j x y _ hx => by simp at hx), own_gparts hown hok⟩
 ·obtain ⟨g, rfl⟩ := own_some hown h0
  refine (sort_gparts P N hN w B g cap (by rintro rfl; simp at hN; omega) hown hok hsz).mono ?_
  rintro e w' ⟨he, hg, h⟩
  exact ⟨he, hg, h⟩
end Go.Proofs.YtacihodamichhaaGreatDoor
