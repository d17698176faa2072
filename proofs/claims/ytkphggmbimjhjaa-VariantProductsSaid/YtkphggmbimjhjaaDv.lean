/-
  Plain laws: a choice with one more literal, on and off.
-/
import Derived.Test.YtkphggmbimjhjaaFok
import Derived.Test.YtkphggmbimjhjaaUs
namespace Go.Proofs.Ytkphggmbimjhjaa
open Go.RowKit

theorem litErrFrom_pair {n : Int} : ∀ {ls : List Lit1} {q : Option Int}, litErrFrom n q ls = 0 → ls.Pairwise (fun x y => x.1 < y.1) ∧ ∀ x ∈ ls, ∀ y, q = some y → y < x.1
  | [], _, _ => ⟨List.Pairwise.nil, fun x hx => by simp at hx⟩
  | l :: ls, q, h => by
    unfold litErrFrom at h
    split at h
    · omega
    · split at h
      · omega
      · rename_i h1 h2
        obtain ⟨p1, p2⟩ := litErrFrom_pair h
        have hq : ∀ y, q = some y → y < l.1 := fun y hy => by
          subst hy
          simp at h2
          omega
        refine ⟨List.pairwise_cons.2 ⟨fun x hx => p2 x hx l.1 rfl, p1⟩, fun x hx y hy => ?_⟩
        simp only [List.mem_cons] at hx
        rcases hx with rfl | hx
        · exact hq y hy
        · have := p2 x hx l.1 rfl
          have := hq y hy
          omega
theorem litErr_pair {n : Int} {ls : List Lit1} (h : litErr n ls = 0) : ls.Pairwise (fun x y => x.1 < y.1) := (litErrFrom_pair h).1

theorem filter_one {ls : List Lit1} (h : ls.Pairwise (fun x y => x.1 < y.1)) (v : Int) : ls.filter (fun l => l.1 == v) = [] ∨ ∃ l, ls.filter (fun l => l.1 == v) = [l] ∧ l.1 = v := by
  induction ls with
  | nil => exact .inl rfl
  | cons l ls ih =>
    obtain ⟨h1, h2⟩ := List.pairwise_cons.1 h
    cases hh : l.1 == v
    · rw [List.filter_cons, if_neg (by simp [hh])]
      exact ih h2
    · have hv : l.1 = v := by simpa using hh
      right
      refine ⟨l, ?_, hv⟩
      rw [List.filter_cons, if_pos (by simp [hh])]
      congr 1
      refine List.filter_eq_nil_iff.2 fun x hx => ?_
      have := h1 x hx
      simp
      omega

/-- The choice's literals up to option i, with the literal (q, b) in its place. -/
def onTo (ch : List Lit1) (q : Nat) (b : Bool) : Nat → List Lit1
  | 0 => []
  | i + 1 => onTo ch q b i ++ ch.filter (fun l => l.1 == (i : Int)) ++ (if i = q then [((i : Int), b)] else [])

theorem mem_onTo {ch : List Lit1} {q : Nat} {b : Bool} {l : Lit1} : ∀ {i : Nat}, l ∈ onTo ch q b i ↔ (l ∈ ch ∧ 0 ≤ l.1 ∧ l.1 < i) ∨ (l = ((q : Int), b) ∧ q < i)
  | 0 => by simp [onTo]
            try omega
  | i + 1 => by
    rw [onTo, List.mem_append, List.mem_append, mem_onTo (i := i), List.mem_filter]
    constructor
    · rintro ((h | ⟨h1, h2⟩) | h)
      · rcases h with ⟨h1, h2, h3⟩ | ⟨h1, h2⟩
        · exact .inl ⟨h1, h2, by omega⟩
        · exact .inr ⟨h1, by omega⟩
      · simp at h2
        exact .inl ⟨h1, by omega, by omega⟩
      · split at h
        · simp at h
          exact .inr ⟨by rw [h]; congr 1; omega, by omega⟩
        · simp at h
    · rintro (⟨h1, h2, h3⟩ | ⟨h1, h2⟩)
      · rcases Int.lt_or_le l.1 i with h4 | h4
        · exact .inl (.inl (.inl ⟨h1, h2, h4⟩))
        · exact .inl (.inr ⟨h1, by simp; omega⟩)
      · by_cases hi : i = q
        · subst hi
          exact .inr (by simp [h1])
        · exact .inl (.inl (.inr ⟨h1, by omega⟩))

theorem litErr_onTo {n : Nat} {ch : List Lit1} {q : Nat} {b : Bool} (hp : ch.Pairwise (fun x y => x.1 < y.1)) (hq : ∀ l ∈ ch, l.1 ≠ q) : ∀ {i : Nat}, i ≤ n → litErr n (onTo ch q b i) = 0 ∧ ∀ l ∈ onTo ch q b i, l.1 < i
  | 0, _ => ⟨rfl, fun l hl => by simp [onTo] at hl⟩
  | i + 1, hi => by
    obtain ⟨h1, h2⟩ := litErr_onTo (n := n) (b := b) hp hq (i := i) (by omega)
    refine ⟨?_, fun l hl => ?_⟩
    · rw [onTo]
      rcases filter_one hp i with hf | ⟨l, hf, hl⟩
      · rw [hf, List.append_nil]
        split
        · exact litErr_snoc (Int.natCast_nonneg _) (show (i : Int) < (n : Int) by omega) h1 (fun x hx => h2 x hx) (fun y hy => by cases hy)
        · rw [List.append_nil]; exact h1
      · have hne : i ≠ q := fun e => by
          subst e
          have : l ∈ ch.filter (fun l => l.1 == (i : Int)) := by rw [hf]; simp
          exact hq l (List.mem_filter.1 this).1 hl
        rw [hf, if_neg hne, List.append_nil]
        exact litErr_snoc (by omega) (by omega) h1 (fun x hx => by have := h2 x hx; omega) (fun y hy => by cases hy)
    · rcases mem_onTo.1 hl with ⟨_, _, h⟩ | ⟨rfl, h⟩
      · omega
      · simp; omega

theorem onTo_len {n : Nat} {ch : List Lit1} {q : Nat} {b : Bool} (hp : ch.Pairwise (fun x y => x.1 < y.1)) : ∀ i, (onTo ch q b i).length ≤ 2 * i
  | 0 => by simp [onTo]
  | i + 1 => by
    have ih := onTo_len (n := n) (q := q) (b := b) hp i
    rw [onTo, List.length_append, List.length_append]
    have h1 : (ch.filter (fun l => l.1 == (i : Int))).length ≤ 1 := by
      rcases filter_one hp i with hf | ⟨l, hf, _⟩ <;> rw [hf] <;> simp
    split <;> simp <;> omega

theorem cHolds_onTo {k : Nat} {ch : List Lit1} {q : Nat} (hl : LitsOk k ch) (hq : q < k) (b : Bool) (c : Int) : cHolds c (onTo ch q b k) = (cHolds c ch && (bitB c q == b)) := by
  unfold cHolds
  rw [Bool.eq_iff_iff, Bool.and_eq_true, List.all_eq_true, List.all_eq_true]
  constructor
  · intro h
    exact ⟨fun l hm => h l (mem_onTo.2 (.inl ⟨hm, (hl l hm).1, (hl l hm).2⟩)), h ((q : Int), b) (mem_onTo.2 (.inr ⟨rfl, hq⟩))⟩
  · rintro ⟨h1, h2⟩ l hm
    rcases mem_onTo.1 hm with ⟨hm, _⟩ | ⟨rfl, _⟩
    · exact h1 l hm
    · exact h2

theorem visL_onTo {k : Nat} {ch : List Lit1} {rs : List Rule1} {q : Nat} (hl : LitsOk k ch) (hq : q < k) (b : Bool) : visL k (onTo ch q b k) rs = (visL k ch rs).filter fun c => bitB c q == b := by
  unfold visL
  rw [List.filter_filter]
  congr 1
  funext c
  unfold cOk
  rw [cHolds_onTo hl hq, Bool.and_comm (bitB c q == b), Bool.and_assoc, Bool.and_assoc, Bool.and_comm (bitB c q == b)]

theorem filter_halves {α : Type} (p : α → Bool) (xs : List α) : xs.length = (xs.filter fun x => p x == true).length + (xs.filter fun x => p x == false).length := by
  induction xs with
  | nil => rfl
  | cons x xs ih =>
    rw [List.filter_cons, List.filter_cons]
    cases p x
    · rw [if_neg (by decide), if_pos (by decide), List.length_cons, List.length_cons]; omega
    · rw [if_pos (by decide), if_neg (by decide), List.length_cons, List.length_cons]; omega

theorem visL_halves {k : Nat} {ch : List Lit1} {rs : List Rule1} {q : Nat} (hl : LitsOk k ch) (hq : q < k) : (visL k ch rs).length = (visL k (onTo ch q true k) rs).length + (visL k (onTo ch q false k) rs).length := by
  rw [visL_onTo hl hq, visL_onTo hl hq]
  exact filter_halves _ _

theorem mentB_forced (X : List Int) (q : Nat) : ∀ k, mentB (forcedTo X k) q = (decide (q < k) && ((X.any fun c => bitB c q) == (X.all fun c => bitB c q)))
  | 0 => by simp [forcedTo, mentB]
  | k + 1 => by
    have ih := mentB_forced X q k
    unfold mentB at *
    rw [forcedTo, List.any_append, ih]
    by_cases hk : q = k
    · subst hk
      simp only [Nat.lt_irrefl, decide_false, Bool.false_and, Bool.false_or, Nat.lt_succ_self, decide_true, Bool.true_and]
      split
      · rename_i h; rw [h]; simp
      · rename_i h; simp at h ⊢; exact h
    · have e : (if ((X.any fun c => bitB c k) == (X.all fun c => bitB c k)) = true then [((k : Int), X.all fun c => bitB c k)] else []).any (fun l => l.1 == (q : Int)) = false := by
        split
        · simp; omega
        · rfl
      rw [e, Bool.or_false]
      congr 1
      simp; omega

theorem forced_names {k : Nat} {ch : List Lit1} {rs : List Rule1} {q : Nat} (hl : LitsOk k ch) (hq : q < k) (hne : visL k ch rs ≠ []) :
    mentB (forcedTo (visL k ch rs) k) q = (decide ((visL k (onTo ch q true k) rs).length = 0) || decide ((visL k (onTo ch q false k) rs).length = 0)) := by
  rw [mentB_forced, visL_onTo hl hq, visL_onTo hl hq, decide_eq_true hq, Bool.true_and]
  generalize visL k ch rs = X at *
  have e1 : decide ((X.filter fun c => bitB c q == true).length = 0) = !(X.any fun c => bitB c q) := by
    rw [Bool.eq_iff_iff, decide_eq_true_eq, List.length_eq_zero_iff, List.filter_eq_nil_iff, Bool.not_eq_true', List.any_eq_false]
    simp
  have e2 : decide ((X.filter fun c => bitB c q == false).length = 0) = X.all fun c => bitB c q := by
    rw [Bool.eq_iff_iff, decide_eq_true_eq, List.length_eq_zero_iff, List.filter_eq_nil_iff, List.all_eq_true]
    simp
  rw [e1, e2]
  obtain ⟨c, cs, rfl⟩ := List.exists_cons_of_ne_nil hne
  cases h1 : (c :: cs).any fun c => bitB c q
  · have : ((c :: cs).all fun c => bitB c q) = false := by
      rw [List.any_eq_false] at h1
      rw [List.all_eq_false]
      exact ⟨c, by simp, h1 c (by simp)⟩
    rw [this]; rfl
  · cases (c :: cs).all fun c => bitB c q <;> rfl

/-- Append, at the list of a plain region's operations; where the new row lies. -/
theorem wpAppL {t e size bytes : Nat} (E : ElemTy t e size bytes) (hsz : 0 < size) {ops : Array Oper} {rest : List Oper} {o : Oper} {a : Act} {Q : Exit → Act → World → Prop} {W : World} (news : List Value) {T : TypeId}
    (hgd : o.guard = none) (s x : Operand) (ho : o.op = .call { callee := .builtin .append, args := #[s, x], argTypes := #[t, t] }) (B n : Nat) (v : Value) (xs : List Value) (g : Nat)
    (hs : a.eval s = v) (hx : a.eval x = .slice (some ⟨g, 0, none⟩) 1 1) (hown : W.ownsRow B e size v n xs) (hblk : W.heap[g]? = some (.cells news.toArray T (0, 0))) (hl : news.length = size) (h1 : ∀ u ∈ news, u.oneCell' = true) (hn : n < 1000000) (hb : bytes ≤ 1000) (hB : B ≤ W.heap.size)
    (h : ∀ g cap w', w'.ownsRow B e size (.slice (some ⟨g, 0, none⟩) (n + 1) cap) (n + 1) (xs ++ news) → W.grownBy w' v.ownBlock → (v.ownBlock = some g ∨ g = W.heap.size) → g < w'.heap.size → wpList Try.prog ops Q rest (a.put o.dst (.slice (some ⟨g, 0, none⟩) (n + 1) cap)) w') :
    wpList Try.prog ops Q (o :: rest) a W := by
  have hi := E.info
  simp only [Option.map_eq_some_iff, Prod.mk.injEq] at hi
  obtain ⟨i, hi, ⟨z, hz, hzs⟩, hsize, hby⟩ := hi
  have hbb : (n + 1) * bytes ≤ 140737488355328 := Nat.le_trans (Nat.mul_le_mul (show n + 1 ≤ 1000000 by omega) hb) (by decide)
  exact wpList_append_lies W hgd s x t ho B e i z size bytes E.und hi hz hsize hby hzs hsz v n xs hs hown ⟨g, 0, none⟩ 1 1 news hx (by omega) (World.news_of_block (cs := news.toArray) (t := T) (fr := (0, 0)) (by simpa using hblk)) h1 (by omega) (by unfold maxLen; omega) hbb hB W.heap.size rfl h

theorem Lits.at_lt {w wr : World} {n cap : Nat} {a : Option Addr} {ls : List Lit1} (hS : Lits w (.slice a n cap) ls) (hb : Below w.heap.size w wr) {k : Nat} (hk : k < n) :
    ∃ b off l, a = some ⟨b, off, none⟩ ∧ ls[k]? = some l ∧ b < w.heap.size ∧ wr.cell? ⟨b, off + k * 2, none⟩ = some (.int .i64 l.1) ∧ wr.cell? ⟨b, off + k * 2 + 1, none⟩ = some (.bool l.2) := by
  obtain ⟨b, off, l, ha, hl, h0, h1⟩ := Lits.at hS hb hk
  refine ⟨b, off, l, ha, hl, ?_, h0, h1⟩
  obtain ⟨b', off', ha', hlt, -⟩ := Sl.row hS hb hk
  rw [ha] at ha'
  cases ha'
  exact hlt

def litF (ls : List Lit1) : List Value := ((ls.map litV).map c2).flatten
theorem litF_snoc (ls : List Lit1) (l : Lit1) : litF (ls ++ [l]) = litF ls ++ [.int .i64 l.1, .bool l.2] := by simp [litF, litV, c2]

/-- Two rows of literals that the call owns, apart from each other. -/
structure Duo (W w : World) (u v : Value) (xs ys : List Lit1) : Prop where
  below : Below W.heap.size W w
  on : w.ownsRow W.heap.size 62 2 u xs.length (litF xs)
  off : w.ownsRow W.heap.size 62 2 v ys.length (litF ys)
  sep : ∀ b, u.ownBlock = some b → v.ownBlock ≠ some b
theorem Duo.start (W : World) : Duo W W (.slice none 0 0) (.slice none 0 0) [] [] := ⟨Below.refl _ _, World.ownsRow_nil _ _ _ _, World.ownsRow_nil _ _ _ _, fun b h => by simp [Value.ownBlock] at h⟩
theorem Duo.via {W w w' : World} {u v : Value} {xs ys : List Lit1} (h : Duo W w u v xs ys) (hb : Below w.heap.size w w') : Duo W w' u v xs ys :=
  ⟨h.below.via hb h.below.size, own_below h.on hb, own_below h.off hb, h.sep⟩
theorem Duo.on_app {W w w' : World} {u v : Value} {xs ys : List Lit1} {l : Lit1} {g cap : Nat} (h : Duo W w u v xs ys) (hg : w.grownBy w' u.ownBlock) (hown : w'.ownsRow W.heap.size 62 2 (.slice (some ⟨g, 0, none⟩) (xs.length + 1) cap) (xs.length + 1) (litF xs ++ [.int .i64 l.1, .bool l.2]))
    (hat : u.ownBlock = some g ∨ w.heap.size ≤ g) : Duo W w' (.slice (some ⟨g, 0, none⟩) (xs.length + 1) cap) v (xs ++ [l]) ys := by
  refine ⟨h.below.grown hg h.below.size (fun k hk => (h.on.lt k hk).1), by rw [litF_snoc, List.length_append]; exact hown, ?_, fun b hb => ?_⟩
  · refine h.off.kept hg ?_
    cases hv : v.ownBlock with
    | none => exact .inl rfl
    | some b => exact .inr (fun e => h.sep b e.symm hv)
  · have e : g = b := by simpa [Value.ownBlock] using hb
    subst e
    rcases hat with h1 | h1
    · exact h.sep g h1
    · intro h2
      have := (h.off.lt g h2).2
      omega
theorem Duo.swap {W w : World} {u v : Value} {xs ys : List Lit1} (h : Duo W w u v xs ys) : Duo W w v u ys xs := ⟨h.below, h.off, h.on, fun b h1 h2 => h.sep b h2 h1⟩
theorem Duo.off_app {W w w' : World} {u v : Value} {xs ys : List Lit1} {l : Lit1} {g cap : Nat} (h : Duo W w u v xs ys) (hg : w.grownBy w' v.ownBlock) (hown : w'.ownsRow W.heap.size 62 2 (.slice (some ⟨g, 0, none⟩) (ys.length + 1) cap) (ys.length + 1) (litF ys ++ [.int .i64 l.1, .bool l.2]))
    (hat : v.ownBlock = some g ∨ w.heap.size ≤ g) : Duo W w' u (.slice (some ⟨g, 0, none⟩) (ys.length + 1) cap) xs (ys ++ [l]) := (h.swap.on_app hg hown hat).swap
theorem Duo.lits {W w : World} {u v : Value} {xs ys : List Lit1} (h : Duo W w u v xs ys) : Lits w u xs ∧ Lits w v ys :=
  ⟨Sl.own h.on (fun r hr => by obtain ⟨x, _, rfl⟩ := List.mem_map.1 hr; rfl) (by decide), Sl.own h.off (fun r hr => by obtain ⟨x, _, rfl⟩ := List.mem_map.1 hr; rfl) (by decide)⟩

end Go.Proofs.Ytkphggmbimjhjaa
