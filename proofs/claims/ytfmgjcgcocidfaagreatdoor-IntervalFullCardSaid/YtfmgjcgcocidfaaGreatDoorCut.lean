/-
  Places between numbers: the plain model.
-/
import Derived.Test.YtfmgjcgcocidfaaGreatDoorCmp
namespace Go.Proofs.YtfmgjcgcocidfaaGreatDoor
open Go.RowKit

/-- What decimal digits say. -/
def natS (l : List UInt8) : Nat := l.foldl (fun n c => n * 10 + (c.toNat - 48)) 0
/-- What the text of an integer says (0 for the empty one). -/
def valS : List UInt8 → Int
  | [] => 0
  | c :: r => if c = 45 then -(natS r : Int) else natS (c :: r)
def val (s : ByteArray) : Int := valS s.data.toList

/-- A place: beyond all numbers or 0, the text of its number, its side. -/
structure Cut where
  b : Int
  s : ByteArray
  d : Int

/-- The first of three that is not 0. -/
def or3 (x y z : Int) : Int := if x ≠ 0 then x else if y ≠ 0 then y else z
/-- How two places compare. -/
def cmpC (x y : Cut) : Int := or3 (cmpZ x.b y.b) (cmpZ (val x.s) (val y.s)) (cmpZ x.d y.d)

theorem cmpZ_lt {a b : Int} : cmpZ a b < 0 ↔ a < b := by
  unfold cmpZ; split
  · simp [*]
  · split <;> simp <;> omega
theorem cmpZ_gt {a b : Int} : 0 < cmpZ a b ↔ b < a := by
  unfold cmpZ; split
  · simp; omega
  · split <;> simp <;> omega
theorem cmpZ_eq {a b : Int} : cmpZ a b = 0 ↔ a = b := by
  unfold cmpZ; split
  · simp; omega
  · split <;> simp <;> omega
theorem cmpZ_neg (a b : Int) : cmpZ b a = -cmpZ a b := by
  unfold cmpZ; split <;> split <;> first | rfl | omega | (split <;> first | rfl | omega)
/-- Less, as an order. -/
def CLt (x y : Cut) : Prop := x.b < y.b ∨ (x.b = y.b ∧ (val x.s < val y.s ∨ (val x.s = val y.s ∧ x.d < y.d)))
instance (x y : Cut) : Decidable (CLt x y) := by unfold CLt; infer_instance
theorem cmpC_lt {x y : Cut} : cmpC x y < 0 ↔ CLt x y := by
  have a := @cmpZ_lt x.b y.b; have a' := @cmpZ_eq x.b y.b; have b := @cmpZ_lt (val x.s) (val y.s); have b' := @cmpZ_eq (val x.s) (val y.s); have c := @cmpZ_lt x.d y.d
  unfold cmpC or3 CLt
  split
  · omega
  · split <;> omega
theorem cmpC_neg (x y : Cut) : cmpC y x = -cmpC x y := by
  have a := cmpZ_neg x.b y.b; have b := cmpZ_neg (val x.s) (val y.s); have c := cmpZ_neg x.d y.d
  unfold cmpC or3
  rw [a, b, c]
  split <;> split <;> (try split) <;> (try split) <;> omega
theorem cmpC_gt {x y : Cut} : 0 < cmpC x y ↔ CLt y x := by
  rw [← cmpC_lt, cmpC_neg y x]; omega
theorem CLt.trans {x y z : Cut} (h : CLt x y) (k : CLt y z) : CLt x z := by unfold CLt at *; omega
theorem CLt.irrefl (x : Cut) : ¬ CLt x x := by unfold CLt; omega
theorem CLt.asymm {x y : Cut} (h : CLt x y) : ¬ CLt y x := by unfold CLt at *; omega
theorem cmpC_self (x : Cut) : cmpC x x = 0 := by
  have a := (@cmpZ_eq x.b x.b).2 rfl; have b := (@cmpZ_eq (val x.s) (val x.s)).2 rfl; have c := (@cmpZ_eq x.d x.d).2 rfl
  unfold cmpC or3; rw [a, b, c]; rfl
/-- Two places of which none is less. -/
theorem clt_tri {x y : Cut} (h : ¬ CLt x y) (k : ¬ CLt y x) : cmpC x y = 0 := by
  rw [← cmpC_lt] at h; rw [← cmpC_gt] at k; omega
theorem CLt.ntrans {x y z : Cut} (h : ¬ CLt x y) (k : ¬ CLt y z) : ¬ CLt x z := by unfold CLt at *; omega

end Go.Proofs.YtfmgjcgcocidfaaGreatDoor
