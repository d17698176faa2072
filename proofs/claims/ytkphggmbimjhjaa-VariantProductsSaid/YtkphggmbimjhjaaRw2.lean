/-
  Further arguments as lists: small numbers, strings.
-/
import Derived.Test.YtkphggmbimjhjaaRw
namespace Go.Proofs.Ytkphggmbimjhjaa
open Go.ChangeShapes Go.WideShapes Go.ChangeAt Go.RowKit

section
variable {H : Type} {enc : TypeId × Value → H} {w : World} {base : Nat} {held : Bool}

set_option maxRecDepth 100000 in
theorem i8s_of_trod {v : Value} {r : Reach} {b0 : Nat} {d : DataW H} {p : List MemPlace} (hv : Value.okWide Try.prog w r b0 57 v) (h : DataW.Trod enc Try.prog w base (fun _ => true) held 57 v d p) :
    ∃ (a : Option Addr) (c : Nat) (zs : List Int), v = .slice a zs.length c ∧ I8s w (.slice a zs.length c) zs ∧ ∀ y ∈ zs, -128 ≤ y ∧ y ≤ 127 := by
  obtain ⟨a, len, cap, rfl⟩ := okWide_slice Try.underlying57 hv
  obtain ⟨fuel, hf⟩ := h
  rcases open_ints Try.underlying57 Try.underlying95 (by kernel_rfl) hf with ⟨hc, _⟩ | ⟨a, len, cap, zs, hc, hb, hl, hm, hz, _, hcell, hwf⟩
  · simp [Value.cells] at hc
    obtain ⟨rfl, rfl, rfl⟩ := hc
    exact ⟨none, 0, [], rfl, Sl.nil w 1, fun y hy => by simp at hy⟩
  · simp [Value.cells] at hc
    obtain ⟨rfl, rfl, rfl⟩ := hc
    simp only [if_true] at hz
    have hzl : (zs.take len).length = len := by rw [List.length_take]; omega
    refine ⟨some a, cap, zs.take len, by rw [hzl], ?_, fun y hy => ?_⟩
    · rw [hzl]
      show Sl w 1 _ _
      refine sl_of (by omega) (by simp; omega) hl hm fun i j hi hj => ?_
      obtain rfl : j = 0 := by omega
      rw [Nat.mul_one, Nat.add_zero]
      refine ⟨_, hcell i (by omega), fun hil => ?_⟩
      have : i < zs.length := by omega
      simp [hil, c1, this]
    · have := hwf y (List.mem_of_mem_take hy)
      simp only [Lit.wf, Bool.and_eq_true, decide_eq_true_eq] at this
      have m1 : IntKind.i8.min = -128 := rfl
      have m2 : IntKind.i8.max = 127 := rfl
      omega

set_option maxRecDepth 100000 in
theorem strs_of_trod {v : Value} {r : Reach} {b0 : Nat} {d : DataW H} {p : List MemPlace} (hv : Value.okWide Try.prog w r b0 36 v) (h : DataW.Trod enc Try.prog w base (fun _ => true) held 36 v d p) :
    ∃ (a : Option Addr) (c : Nat) (ss : List ByteArray), v = .slice a ss.length c ∧ Strs w (.slice a ss.length c) ss := by
  obtain ⟨a, len, cap, rfl⟩ := okWide_slice Try.underlying36 hv
  obtain ⟨fuel, hf⟩ := h
  rcases Deep.open_slice1 Try.underlying36 (by kernel_rfl) hf with ⟨hc, _⟩ | ⟨a, len, cap, m, n, V, D, Pl, hc, hb, hl, hm, hmm, _, hx⟩
  · simp [Value.cells] at hc
    obtain ⟨rfl, rfl, rfl⟩ := hc
    exact ⟨none, 0, [], rfl, Sl.nil w 1⟩
  · simp [Value.cells] at hc
    obtain ⟨rfl, rfl, rfl⟩ := hc
    simp only [if_true] at hmm
    have hmm' := hmm.symm
    subst hmm'
    obtain ⟨S, hS⟩ := Deep.choose_lt (α := ByteArray) (p := fun i y => w.cell? (a.add i) = some (.string y)) (fun i hi => by
      obtain ⟨c0, t0⟩ := hx i hi
      obtain ⟨s0, e0, -⟩ := DataW.trod_string Try.underlying9 t0
      simp only [List.cons.injEq, and_true] at e0
      exact ⟨s0, by rw [c0, e0]⟩)
    have hlen : ((List.range len).map S).length = len := by simp
    refine ⟨some a, cap, (List.range len).map S, by rw [hlen], ?_⟩
    rw [hlen]
    show Sl w 1 _ _
    refine sl_of (by omega) (by simp) hl hm fun i j hi hj => ?_
    obtain rfl : j = 0 := by omega
    rw [Nat.mul_one, Nat.add_zero]
    exact ⟨_, hS i hi, fun hil => by simp [hil, c1]⟩
end

end Go.Proofs.Ytkphggmbimjhjaa
