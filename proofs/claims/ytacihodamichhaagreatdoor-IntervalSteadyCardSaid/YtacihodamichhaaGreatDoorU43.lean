/-
  Parts of the proof: Cg, Jp, Jg.
-/
import Derived.Deep.RegionLawGrows
import Derived.Test.YtacihodamichhaaGreatDoorU42
namespace Go.Proofs.YtacihodamichhaaGreatDoor
def CG (x y : Cut) : Prop := cmpG x y < 0
instance (x y : Cut) : Decidable (CG x y) := inferInstanceAs (Decidable (_ < _))
theorem dn_pos {q : Int} (h : 0 ≤ q) : 0 < dn q := by
 unfold dn
 split
 ·decide
 ·omega
theorem denR_nn (l : List UInt8) : 0 ≤ denR l := by
 unfold denR
 split
 ·exact Int.natCast_nonneg _
 ·exact Int.le_refl _
def QL (x y : Cut) : Prop := numR x.s.data.toList * dn (denR y.s.data.toList) ≤ numR y.s.data.toList * dn (denR x.s.data.toList)
theorem ql_tr {x y z : Cut} (h : QL x y) (k : QL y z) : QL x z := by
 unfold QL at *
 have hx := dn_pos (denR_nn x.s.data.toList)
 have hy := dn_pos (denR_nn y.s.data.toList)
 have hz := dn_pos (denR_nn z.s.data.toList)
 generalize dn (denR x.s.data.toList) = b at *
 generalize dn (denR y.s.data.toList) = d at *
 generalize dn (denR z.s.data.toList) = f at *
 generalize numR x.s.data.toList = a at *
 generalize numR y.s.data.toList = c at *
 generalize numR z.s.data.toList = e at *
 have h1 := Int.mul_le_mul_of_nonneg_right h (Int.le_of_lt hz)
 have h2 := Int.mul_le_mul_of_nonneg_right k (Int.le_of_lt hx)
 have h3 : a * f * d ≤ e * b * d := by
  have e1 : a * f * d = a * d * f := by rw [Int.mul_assoc, Int.mul_comm f, ← Int.mul_assoc]
  have e2 : e * b * d = e * d * b := by rw [Int.mul_assoc, Int.mul_comm b, ← Int.mul_assoc]
  have e3 : c * b * f = c * f * b := by rw [Int.mul_assoc, Int.mul_comm b, ← Int.mul_assoc]
  omega
 exact Int.le_of_mul_le_mul_right h3 hy
theorem cg_iff {x y : Cut} : CG x y ↔ x.b < y.b ∨ (x.b = y.b ∧ (¬ QL y x ∨ (QL x y ∧ QL y x ∧ x.d < y.d))) := by
 have a := @cmpZ_lt x.b y.b; have a' := @cmpZ_eq x.b y.b; have c := @cmpZ_lt x.d y.d
 have b := @cmpZ_lt (numR x.s.data.toList * dn (denR y.s.data.toList)) (numR y.s.data.toList * dn (denR x.s.data.toList))
 have b' := @cmpZ_eq (numR x.s.data.toList * dn (denR y.s.data.toList)) (numR y.s.data.toList * dn (denR x.s.data.toList))
 unfold CG cmpG or3 QL
 rw [show cmpQ (numR x.s.data.toList) (denR x.s.data.toList) (numR y.s.data.toList) (denR y.s.data.toList) = cmpZ (numR x.s.data.toList * dn (denR y.s.data.toList)) (numR y.s.data.toList * dn (denR x.s.data.toList)) from rfl]
 generalize numR x.s.data.toList * dn (denR y.s.data.toList) = u at *
 generalize numR y.s.data.toList * dn (denR x.s.data.toList) = v at *
 generalize cmpZ u v = r at *
 split
 ·omega
 ·split <;> omega
theorem ql_total (x y : Cut) : QL x y ∨ QL y x := Int.le_total _ _
theorem cg_swk : SWk CG where
 irr x h := by
  rw [cg_iff] at h
  have := ql_total x x
  rcases h with h | ⟨_, h | ⟨_, _, h⟩⟩
  ·omega
  ·exact h (this.elim id id)
  ·omega
 tr {x y z} h k := by
  rw [cg_iff] at *
  have t1 := @ql_tr x y z; have t2 := @ql_tr z x y; have t3 := @ql_tr y z x; have t4 := @ql_tr z y x; have t5 := @ql_tr x z y; have t6 := @ql_tr y x z
  have u1 := ql_total x y; have u2 := ql_total y z; have u3 := ql_total x z
  by_cases a : QL x y <;> by_cases b : QL y x <;> by_cases c : QL y z <;> by_cases d : QL z y <;> by_cases e : QL x z <;> by_cases f : QL z x <;> simp_all <;> omega
 ntr {x y z} h k := by
  rw [cg_iff] at *
  have t1 := @ql_tr x y z; have t2 := @ql_tr z x y; have t3 := @ql_tr y z x; have t4 := @ql_tr z y x; have t5 := @ql_tr x z y; have t6 := @ql_tr y x z
  have u1 := ql_total x y; have u2 := ql_total y z; have u3 := ql_total x z
  by_cases a : QL x y <;> by_cases b : QL y x <;> by_cases c : QL y z <;> by_cases d : QL z y <;> by_cases e : QL x z <;> by_cases f : QL z x <;> simp_all <;> omega
theorem cmpG_neg (x y : Cut) : cmpG y x = -cmpG x y := by
 have a := cmpZ_neg x.b y.b; have b := cmpZ_neg (numR x.s.data.toList * dn (denR y.s.data.toList)) (numR y.s.data.toList * dn (denR x.s.data.toList)); have c := cmpZ_neg x.d y.d
 unfold cmpG or3 cmpQ
 rw [a, b, c]
 split <;> split <;> (try split) <;> (try split) <;> omega
theorem cg_gt {x y : Cut} : 0 < cmpG x y ↔ CG y x := by
 unfold CG
 rw [cmpG_neg x y]; omega
theorem cg_nle {x y : Cut} : ¬ CG y x ↔ cmpG x y ≤ 0 := by rw [← cg_gt]; omega
structure Good (l : List UInt8) : Prop where
 top : digB (absL (topL l)) = true
 sgn : badI (absL (topL l)) (negB (topL l)) = false
 bot : divB l = true → digB (botL l) = true ∧ (botL l).head? ≠ some 48 ∧ 1 < valD (botL l) ∧ Nat.gcd (valD (absL (topL l))) (valD (botL l)) = 1
end Go.Proofs.YtacihodamichhaaGreatDoor
namespace Go.Proofs.YtacihodamichhaaGreatDoor
open Go.RowKit
def ltR (x y : Cut) : Prop := CG (toP x) (toP y)
instance (x y : Cut) : Decidable (ltR x y) := inferInstanceAs (Decidable (CG _ _))
theorem ltR_swk : SWk ltR := ⟨fun _x => cg_swk.irr _, fun h k => cg_swk.tr h k, fun h k => cg_swk.ntr h k⟩
def OkR (r : RP) : Prop := RokC r.1 ∧ RokC r.2
def insR (S : List RP) (x : RP) : List RP := S.takeWhile (fun s => decide (¬ ltR x.1 s.1)) ++ x :: S.dropWhile (fun s => decide (¬ ltR x.1 s.1))
def sortF (rs : List RP) (S : List RP) : List RP := (rs.filter fun r => decide (ltR r.1 r.2)).foldl insR S
def sortR (rs : List RP) : List RP := sortF rs []
def joinR (rs : List RP) : List RP := mergeR ltR (sortR rs)
theorem tw_mem {α : Type} {p : α → Bool} : ∀ {S : List α} {s : α}, s ∈ S.takeWhile p → p s = true
 | [], s, h => by cases h
 | a :: S, s, h => by
  rw [List.takeWhile_cons] at h
  split at h
  ·rename_i ha
   rcases List.mem_cons.1 h with rfl | h
   ·exact ha
   ·exact tw_mem h
  ·cases h
theorem dw_head {α : Type} {p : α → Bool} : ∀ {S D : List α} {d : α}, S.dropWhile p = d :: D → p d = false
 | [], D, d, h => by cases h
 | a :: S, D, d, h => by
  rw [List.dropWhile_cons] at h
  split at h
  ·exact dw_head h
  ·rename_i ha
   cases h
   simpa using ha
theorem insR_perm (S : List RP) (x : RP) : (insR S x).Perm (x :: S) := by
 unfold insR
 refine List.perm_middle.trans (List.Perm.cons x ?_)
 rw [List.takeWhile_append_dropWhile]
theorem insR_sorted {S : List RP} {x : RP} (h : S.Pairwise fun p q => ¬ ltR q.1 p.1) : (insR S x).Pairwise fun p q => ¬ ltR q.1 p.1 := by
 have hS := List.takeWhile_append_dropWhile (p := fun s : RP => decide (¬ ltR x.1 s.1)) (l := S)
 unfold insR
 have h1 : ∀ s ∈ S.takeWhile (fun s => decide (¬ ltR x.1 s.1)), ¬ ltR x.1 s.1 := fun s hs => by
  have := tw_mem hs
  simpa using this
 have h2 : ∀ s ∈ S.dropWhile (fun s => decide (¬ ltR x.1 s.1)), ltR x.1 s.1 := by
  intro s hs
  cases e : S.dropWhile (fun s => decide (¬ ltR x.1 s.1)) with
  | nil => rw [e] at hs; cases hs
  | cons d D =>
   have hd : ltR x.1 d.1 := by
    have := dw_head e
    simpa using this
   rw [e] at hs
   rcases List.mem_cons.1 hs with rfl | hs
   ·exact hd
   ·rw [← hS, e] at h
    have := (List.pairwise_cons.1 (List.pairwise_append.1 h).2.1).1 s hs
    exact ltR_swk.lt_le hd this
 rw [← hS] at h
 obtain ⟨a1, a2, a3⟩ := List.pairwise_append.1 h
 refine List.pairwise_append.2 ⟨a1, List.pairwise_cons.2 ⟨fun s hs => ltR_swk.asym (h2 s hs), a2⟩, fun p hp q hq => ?_⟩
 rcases List.mem_cons.1 hq with rfl | hq
 ·exact h1 p hp
 ·exact a3 p hp q hq
theorem foldl_ins (l : List RP) : ∀ S : List RP, S.Pairwise (fun p q => ¬ ltR q.1 p.1) → (l.foldl insR S).Pairwise (fun p q => ¬ ltR q.1 p.1) ∧ (l.foldl insR S).Perm (S ++ l) := by
 induction l with
 | nil => intro S h; exact ⟨h, by rw [List.append_nil]; exact List.Perm.refl _⟩
 | cons x l ih =>
  intro S h
  obtain ⟨a, b⟩ := ih (insR S x) (insR_sorted h)
  refine ⟨a, b.trans ?_⟩
  refine (List.Perm.append_right l (insR_perm S x)).trans ?_
  exact (List.perm_middle (l₁ := S) (a := x) (l₂ := l)).symm
theorem sortR_ok (rs : List RP) : (sortR rs).Pairwise (fun p q => ¬ ltR q.1 p.1) ∧ (sortR rs).Perm (rs.filter fun r => decide (ltR r.1 r.2)) := by
 have := foldl_ins (rs.filter fun r => decide (ltR r.1 r.2)) [] .nil
 rwa [List.nil_append] at this
theorem sortR_ne (rs : List RP) : ∀ r ∈ sortR rs, ltR r.1 r.2 := fun r hr => by
 have := (List.mem_filter.1 ((sortR_ok rs).2.mem_iff.1 hr)).2
 simpa using this
theorem joinR_ok (rs : List RP) : IsSet ltR (joinR rs) ∧ ∀ c, Mem ltR (joinR rs) c ↔ Mem ltR rs c := by
 obtain ⟨h1, h2⟩ := sortR_ok rs
 obtain ⟨k1, k2⟩ := mergeR_ok ltR_swk (sortR_ne rs) h1
 exact ⟨k1, fun c => by rw [joinR, k2, Mem.perm h2, mem_filter ltR_swk]⟩
theorem joinR_all {rs : List RP} {P : Cut → Prop} (h : ∀ r ∈ rs, P r.1 ∧ P r.2) : ∀ r ∈ joinR rs, P r.1 ∧ P r.2 :=
 mergeR_all _ _ (fun r hr => h r (List.mem_filter.1 ((sortR_ok rs).2.mem_iff.1 hr)).1) (fun r hr => by cases hr)
theorem sortF_skip {r : RP} (h : ¬ ltR r.1 r.2) (l S : List RP) : sortF (l ++ [r]) S = sortF l S := by
 unfold sortF
 rw [List.filter_append, List.filter_cons_of_neg (by simpa using h), List.filter_nil, List.append_nil]
theorem sortF_put {r : RP} (h : ltR r.1 r.2) (l S : List RP) : sortF (l ++ [r]) S = insR (sortF l S) r := by
 unfold sortF
 rw [List.filter_append, List.filter_cons_of_pos (by simpa using h), List.filter_nil, List.foldl_append]
 rfl
theorem insR_at {S : List RP} {x : RP} {k : Nat} (h1 : ∀ s ∈ S.take k, ¬ ltR x.1 s.1) (h2 : ∀ s, S[k]? = some s → ltR x.1 s.1) : insR S x = S.take k ++ x :: S.drop k := by
 have e : S.takeWhile (fun s => decide (¬ ltR x.1 s.1)) = S.take k ∧ S.dropWhile (fun s => decide (¬ ltR x.1 s.1)) = S.drop k := by
  induction S generalizing k with
  | nil => simp
  | cons a S ih =>
   cases k with
   | zero =>
    have := h2 a rfl
    constructor
    ·rw [List.takeWhile_cons, if_neg (by simpa using this)]; rfl
    ·rw [List.dropWhile_cons, if_neg (by simpa using this)]; rfl
   | succ k =>
    have ha := h1 a (by simp)
    obtain ⟨i1, i2⟩ := ih (k := k) (fun s hs => h1 s (by simp [hs])) (fun s hs => h2 s (by simpa using hs))
    constructor
    ·rw [List.takeWhile_cons, if_pos (by simpa using ha), i1]; rfl
    ·rw [List.dropWhile_cons, if_pos (by simpa using ha), i2]; rfl
 unfold insR
 rw [e.1, e.2]
end Go.Proofs.YtacihodamichhaaGreatDoor
namespace Go.Proofs.YtacihodamichhaaGreatDoor
open Go.RowKit
theorem Sl.takeK {w : World} {sz n cap k : Nat} {a : Option Addr} {rows : List (List Value)} (h : Sl w sz (.slice a n cap) rows) (hk : k ≤ n) : Sl w sz (.slice a k k) (rows.take k) := by
 obtain ⟨a', cap', hv, hc, hm, h⟩ := h
 simp only [Value.slice.injEq] at hv
 obtain ⟨rfl, rfl, rfl⟩ := hv
 refine ⟨a, k, by rw [List.length_take, Nat.min_eq_left hk], by rw [List.length_take]; omega, by omega, ?_⟩
 rcases h with h | ⟨b, off, rfl, hb, h⟩
 ·exact .inl (by omega)
 ·refine .inr ⟨b, off, rfl, hb, fun i j hi hj => ?_⟩
  rw [List.length_take] at hi
  rw [h i j (by omega) hj]
  simp only [List.getD_eq_getElem?_getD]
  rw [List.getElem?_take_of_lt (by omega)]
theorem Sl.dropK {w : World} {sz n cap k b off : Nat} {rows : List (List Value)} (h : Sl w sz (.slice (some ⟨b, off, none⟩) n cap) rows) (hk : k < n) : Sl w sz (.slice (some ⟨b, off + k * sz, none⟩) (n - k) (cap - k)) (rows.drop k) := by
 obtain ⟨a', cap', hv, hc, hm, h⟩ := h
 simp only [Value.slice.injEq] at hv
 obtain ⟨rfl, rfl, rfl⟩ := hv
 refine ⟨some ⟨b, off + k * sz, none⟩, cap - k, by rw [List.length_drop], by rw [List.length_drop]; omega, by omega, ?_⟩
 rcases h with h | ⟨b', off', he, hb, h⟩
 ·omega
 ·cases he
  refine .inr ⟨b, off + k * sz, rfl, hb, fun i j hi hj => ?_⟩
  rw [List.length_drop] at hi
  have := h (k + i) j (by omega) hj
  rw [show off + k * sz + i * sz + j = off + (k + i) * sz + j by rw [Nat.add_mul]; omega, this]
  simp only [List.getD_eq_getElem?_getD]
  rw [List.getElem?_drop]
theorem stepGrow {t e size bytes : Nat} (E : ElemTy t e size bytes) (hsz : 0 < size) {ops : Array Oper} {o : Oper} {a : Act} {K : Act → World → Prop} {Q : Exit → Act → World → Prop} {E' : Prop} {W : World}
  (hgd : o.guard = none) (s x : Operand) (ho : o.op = .call { callee := .builtin .append, args := #[s, x], argTypes := #[t, t] }) (ao ad : Option Addr) (n cap m c : Nat) (R1 R2 : List (List Value))
  (hs : a.eval s = .slice ao n cap) (hx : a.eval x = .slice ad m c) (h1 : Sl W size (.slice ao n cap) R1) (h2 : Sl W size (.slice ad m c) R2) (hl1 : ∀ r ∈ R1, r.length = size) (hl2 : ∀ r ∈ R2, r.length = size) (hu : ∀ r ∈ R2, ∀ u ∈ r, u.oneCell' = true)
  (hm : 0 < m) (hnone : ao = none → cap = 0) (hfull : cap < n + m) (hn : n + m < 1000000) (hb : bytes ≤ 1000)
  (h : ∀ v' w', w'.ownsRow W.heap.size e size v' (n + m) (R1.flatten ++ R2.flatten) → W.grownBy w' none → K (a.put o.dst v') w') :
  if Region.wanted o (yielded ops a.tmps) = true then Oper.wp Tryz.prog o a W K Q else E' := by
 have hi := E.info
 simp only [Option.map_eq_some_iff, Prod.mk.injEq] at hi
 obtain ⟨i, hi, ⟨z, hz, hzs⟩, hsize, hby⟩ := hi
 have hbb : (n + m) * bytes ≤ 140737488355328 := Nat.le_trans (Nat.mul_le_mul (show n + m ≤ 1000000 by omega) hb) (by decide)
 have hn1 : R1.length = n := by obtain ⟨_, _, hv, _⟩ := Sl.open h1; cases hv; rfl
 have hn2 : R2.length = m := by obtain ⟨_, _, hv, _⟩ := Sl.open h2; cases hv; rfl
 have hcap : n ≤ cap := by obtain ⟨_, _, hv, hc, _⟩ := Sl.open h1; cases hv; omega
 obtain ⟨b2, off2, rfl⟩ : ∃ b off, ad = some ⟨b, off, none⟩ := by
  obtain ⟨_, _, hv, h1, _, h2⟩ := h2
  cases hv
  rcases h2 with h2 | ⟨b, off, rfl, -, -⟩
  ·omega
  ·exact ⟨b, off, rfl⟩
 refine step_append_grows hgd s x t ho e i z size bytes E.und hi hz hsize hby hzs hsz ao n cap R1.flatten hs (fun hq => ?_) (by rw [flat_len hl1, hn1]) (fun b hq j u hj => ?_) ⟨b2, off2, none⟩ m c R2.flatten hx (by rw [flat_len hl2, hn2]) (Sl.flat h2 hl2 hsz) ?_ hfull (by unfold maxLen; omega) hbb h
 ·have := hnone hq; omega
 ·subst hq
  obtain ⟨_, _, hv, q1, _, q2⟩ := id h1
  cases hv
  rcases q2 with q2 | ⟨b1, off1, he, -, -⟩
  ·rw [List.length_eq_zero_iff.1 (show R1.length = 0 by omega)] at hj
   simp at hj
  ·cases he
   exact Sl.flat h1 hl1 hsz j u hj
 ·intro u hu'
  obtain ⟨r, hr, hu'⟩ := List.mem_flatten.1 hu'
  exact hu r hr u hu'
theorem stepApp0 {t e size bytes : Nat} (E : ElemTy t e size bytes) {ops : Array Oper} {o : Oper} {a : Act} {K : Act → World → Prop} {Q : Exit → Act → World → Prop} {E' : Prop} {W : World}
  (hgd : o.guard = none) (s x : Operand) (ho : o.op = .call { callee := .builtin .append, args := #[s, x], argTypes := #[t, t] }) (ao ad : Option Addr) (n cap c : Nat)
  (hs : a.eval s = .slice ao n cap) (hx : a.eval x = .slice ad 0 c) (hk : n ≤ cap) (h : K (a.put o.dst (.slice ao n cap)) W) :
  if Region.wanted o (yielded ops a.tmps) = true then Oper.wp Tryz.prog o a W K Q else E' := by
 have hi := E.info
 simp only [Option.map_eq_some_iff, Prod.mk.injEq] at hi
 obtain ⟨i, hi, ⟨z, hz, hzs⟩, hsize, hby⟩ := hi
 have hr : (Builtin.append_ #[t, t] o.type #[.slice ao n cap, .slice ad 0 c]).run Tryz.prog W = .ok (.slice ao n cap) W := by
  cases ao <;> cases ad <;> simp [Builtin.append_, run_underlying E.und, sizeOf, typeInfo, hi, Builtin.lenOf, Builtin.firstCells, loadCells, loadCellsFrom, hk, storeCells]
 have hw : Region.wanted o (yielded ops a.tmps) = true := by simp [Region.wanted, hgd]
 rw [if_pos hw]
 unfold Oper.wp
 simp [execOp, ho, resolve, invoke, builtin, hs, hx, hr, Result.andThen]
 exact h
theorem grown_none_below {w w' : World} (h : w.grownBy w' none) : Below w.heap.size w w' := ⟨h.os, h.tape, h.output, h.size, fun k hk => h.block k hk (by simp)⟩
end Go.Proofs.YtacihodamichhaaGreatDoor
