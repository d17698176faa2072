/-
  Redundant.
-/
import Derived.Test.YtkphggmbimjhjaaFst2
import Derived.Test.YtkphggmbimjhjaaPln
import Derived.Test.YtkphggmbimjhjaaPop
import Derived.Deep.RegionHeld
namespace Go.Proofs.Ytkphggmbimjhjaa
open Go.RowKit

/-- Do all configurations satisfy these literals? By the last one that was met. -/
def lastB (ls : List Lit1) (xs : List Int) : Bool := (xs.getLast?.map fun c => cSat c ls).getD true
theorem lastB_snoc (ls : List Lit1) (xs : List Int) (c : Int) : lastB ls (xs ++ [c]) = cSat c ls := by simp [lastB]
theorem upTo_nil {p : Int → Bool} {L : List Int} (h : upTo p L = []) : L = [] := by
  cases L with
  | nil => rfl
  | cons c cs => rw [upTo] at h; split at h <;> simp at h
theorem lastB_upTo (ls : List Lit1) (L : List Int) : lastB ls (upTo (fun c => cSat c ls) L) = L.all fun c => cSat c ls := by
  induction L with
  | nil => rfl
  | cons c cs ih =>
    rw [upTo, List.all_cons]
    cases hp : cSat c ls
    · simp [lastB, hp]
    · simp only [if_true, Bool.true_and]
      rw [← ih]
      cases hu : upTo (fun c => cSat c ls) cs with
      | nil => simp [lastB, hp]
      | cons d ds => simp [lastB, List.getLast?_cons_cons]

set_option maxHeartbeats 1000000 in
theorem red1_any (c : Int) (ls : List Lit1) (nm : ByteArray) (lv : Value) (b : Bool) (A S : Nat) (W w : World) (hc : 0 ≤ c) (hc2 : c < 18446744073709551616) (hW : Below W.heap.size W w) (hL : Lits W lv ls) (hok : LitsOk 12 ls) (hlen : ls.length < 1000) (hAS : A + 1 < S)
    (hB1 : Blk w A #[.string nm, lv] 70) (hB2 : Box w (A + 1) 4 (.bool b)) :
    Calls Try.prog 52 #[.int .u64 c, .pointer (some ⟨A, 0, none⟩), .pointer (some ⟨A + 1, 0, none⟩)] w
      (fun e w' => e = .returned (.bool (cSat c ls)) ∧ Mid A S w w' ∧ Blk w' A #[.string nm, lv] 70 ∧ Box w' (A + 1) 4 (.bool (cSat c ls))) := by
  have c0 := hB1.cell 0
  have c1 := hB1.cell 1
  simp only [List.getElem?_toArray, List.getElem?_cons_succ, List.getElem?_cons_zero] at c0 c1
  have H53 := Lib.hid (sat_any c ls (.string nm) lv w (hL.mono hW) hok hlen hc hc2)
  have H1 := Lib.hid hB1
  have H2 := Lib.hid hB2
  generalize cSat c ls = q at *
  clear hB1 hB2 hL hW
  go_enter Try.func52, Try.ntmps52
  go_wp2_with (go_at_call 53; refine (H53.out).mono ?_; rintro e w3 ⟨rfl, hb3⟩; have e3 := H2.out.below hb3; have g1 := cell_of_one e3; have g2 := free_of_one e3)
  go_ret
  have hm := (Mid.of_below (A := A) (S := S) hb3).setCell (p := ⟨A + 1, 0, none⟩) (show A ≤ A + 1 by omega) (show A + 1 < S by omega) (.bool q)
  exact ⟨rfl, hm, (H1.out.below hb3).other (p := ⟨A + 1, 0, none⟩) (show A ≠ A + 1 by omega) _, one_setCell e3⟩

theorem enters52 : ∀ args w, (callFunc 52 args).run Try.prog w = .ok (.enter 52 args) w := enters_of Try.func52 (by kernel_rfl) rfl

def RedI (A : Nat) (nm : ByteArray) (lv : Value) (ls : List Lit1) (xs : List Int) (w : World) : Prop := Blk w A #[.string nm, lv] 70 ∧ Box w (A + 1) 4 (.bool (lastB ls xs))

set_option maxHeartbeats 1000000 in
theorem red_visit (q1 q2 q3 q4 q5 q6 q8 q9 q10 rv lv : Value) (ao : Option Addr) (n po : Nat) (rs : List Rule1) (ls : List Lit1) (nm : ByteArray) (W w1 : World)
    (hn : n ≤ 6) (hR : Rules W rv rs) (hok : RulesOk 12 rs) (hlen : rs.length < 1000) (hL : Lits W lv ls) (hlk : LitsOk 12 ls) (hll : ls.length < 1000) (hA : Below W.heap.size W w1) (hS : W.heap.size + 2 ≤ w1.heap.size) (hI : RedI W.heap.size nm lv ls [] w1) :
    Calls Try.prog 39 #[.agg #[q1, q2, q3, q4, q5, q6, .slice ao n po, q8, q9, q10], .slice none 0 0, rv, .func (.func 52) #[] #[.pointer (some ⟨W.heap.size, 0, none⟩), .pointer (some ⟨W.heap.size + 1, 0, none⟩)]] w1
      (fun e w' => e = .returned (.tuple #[]) ∧ Mid W.heap.size w1.heap.size w1 w' ∧ Box w' (W.heap.size + 1) 4 (.bool ((visL n [] rs).all fun c => cSat c ls))) := by
  have := visit_any W (RedI W.heap.size nm lv ls) (fun c => cSat c ls) 52 #[.pointer (some ⟨W.heap.size, 0, none⟩), .pointer (some ⟨W.heap.size + 1, 0, none⟩)] q1 q2 q3 q4 q5 q6 q8 q9 q10 (.slice none 0 0) rv ao n po [] rs w1
    hn (Sl.nil W 2) hR hA hok (fun l hl => by simp at hl) (by decide) hlen enters52 (fun xs w1 w2 h hb => ⟨h.1.below hb, h.2.below hb⟩)
    (fun xs c w2 hx hm hI hc hok => by
      have hcc := cfgsL_mem (by omega) hc
      exact (red1_any c ls nm lv _ W.heap.size w1.heap.size W w2 hcc.1 (by omega) (Mid.below hA hm (by omega)) hL hlk hll (by omega) hI.1 hI.2).mono fun e w3 ⟨h1, h2, h3, h4⟩ => ⟨h1, h2, h3, by rw [lastB_snoc]; exact h4⟩) hI
  refine this.mono fun e w' ⟨h1, h2, h3⟩ => ⟨h1, h2, ?_⟩
  have h4 := h3.2
  rw [lastB_upTo] at h4
  exact h4

/-- The rules, of the first k, that follow from those before them. -/
def redTo (n : Nat) (rs : List Rule1) : Nat → List Int
  | 0 => []
  | k + 1 => redTo n rs k ++ (match rs[k]? with | none => [] | some r => if (visL n [] (rs.take k)).all (fun c => cSat c r.2) then [(k : Int)] else [])
theorem redTo_succ {n : Nat} {rs : List Rule1} {k : Nat} {r : Rule1} (h : rs[k]? = some r) : redTo n rs (k + 1) = redTo n rs k ++ (if (visL n [] (rs.take k)).all (fun c => cSat c r.2) then [(k : Int)] else []) := by rw [redTo, h]
theorem redTo_len (n : Nat) (rs : List Rule1) : ∀ k, (redTo n rs k).length ≤ k
  | 0 => by simp [redTo]
  | k + 1 => by
    have := redTo_len n rs k
    rw [redTo, List.length_append]
    split
    · simp; omega
    · split <;> simp <;> omega

theorem Rules.take {w : World} {a : Option Addr} {n cap : Nat} {rs : List Rule1} (h : Rules w (.slice a n cap) rs) {k : Nat} (hk : k ≤ n) : Rules w (.slice a k cap) (rs.take k) := by
  obtain ⟨rv, h1, h2, h3⟩ := h
  have hn : rv.length = n := by
    obtain ⟨a', c', hv, _⟩ := h1
    cases hv
    simp
  refine ⟨rv.take k, ?_, by simp [h2], fun i x r hx hr => ?_⟩
  · obtain ⟨a', cap', hv, hc, hm, hh⟩ := h1
    cases hv
    simp only [List.length_map] at hc hh hk
    have hl : (List.map c2 (rv.take k)).length = k := by simp; omega
    refine ⟨a, cap, by rw [hl], by rw [hl]; omega, hm, ?_⟩
    rcases hh with h0 | ⟨b, off, ha, hlt, hcell⟩
    · exact .inl h0
    · refine .inr ⟨b, off, ha, hlt, fun i j hi hj => ?_⟩
      rw [hl] at hi
      rw [hcell i j (by omega) hj, List.map_take]
      simp [List.getD_eq_getElem?_getD, hi]
  · have hi : i < k := by
      have := lt_of_get hx
      rw [List.length_take] at this
      omega
    rw [List.getElem?_take, if_pos hi] at hx hr
    exact h3 i x r hx hr

end Go.Proofs.Ytkphggmbimjhjaa
