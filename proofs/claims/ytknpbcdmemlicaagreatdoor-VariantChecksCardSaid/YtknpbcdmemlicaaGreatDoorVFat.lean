/-
  A described family in a variable.
-/
import Derived.Test.YtknpbcdmemlicaaGreatDoorVFok
namespace Go.Proofs.YtknpbcdmemlicaaGreatDoor
open Go.RowKit

abbrev baseS : Value := .string ⟨#[98, 97, 115, 101]⟩
abbrev nilV : Value := .slice none 0 0
abbrev set10 (w : World) (B : Nat) (y0 y1 y2 y3 y4 y5 y6 y7 y8 y9 : Value) : World :=
  (((((((((w.setCell ⟨B, 0, none⟩ y0).setCell ⟨B, 1, none⟩ y1).setCell ⟨B, 2, none⟩ y2).setCell ⟨B, 3, none⟩ y3).setCell ⟨B, 4, none⟩ y4).setCell ⟨B, 5, none⟩ y5).setCell ⟨B, 6, none⟩ y6).setCell ⟨B, 7, none⟩ y7).setCell ⟨B, 8, none⟩ y8).setCell ⟨B, 9, none⟩ y9
theorem Blk.set10 {w : World} {B : Nat} {x0 x1 x2 x3 x4 x5 x6 x7 x8 x9 : Value} {T : TypeId} (h : Blk w B #[x0, x1, x2, x3, x4, x5, x6, x7, x8, x9] T) (y0 y1 y2 y3 y4 y5 y6 y7 y8 y9 : Value) :
    Blk (set10 w B y0 y1 y2 y3 y4 y5 y6 y7 y8 y9) B #[y0, y1, y2, y3, y4, y5, y6, y7, y8, y9] T := by
  have := (((((((((h.set 0 y0).set 1 y1).set 2 y2).set 3 y3).set 4 y4).set 5 y5).set 6 y6).set 7 y7).set 8 y8).set 9 y9
  simpa using this
theorem eqb_set10 (w : World) (B : Nat) (y0 y1 y2 y3 y4 y5 y6 y7 y8 y9 : Value) : Eqb w.heap.size B w (set10 w B y0 y1 y2 y3 y4 y5 y6 y7 y8 y9) :=
  ((((((((((Eqb.refl (w := w) B).set 0 y0).set 1 y1).set 2 y2).set 3 y3).set 4 y4).set 5 y5).set 6 y6).set 7 y7).set 8 y8).set 9 y9
theorem below_set10 {A : Nat} {w0 w : World} {B : Nat} (h : Below A w0 w) (hB : A ≤ B) (y0 y1 y2 y3 y4 y5 y6 y7 y8 y9 : Value) : Below A w0 (set10 w B y0 y1 y2 y3 y4 y5 y6 y7 y8 y9) :=
  (((((((((h.setCell (p := ⟨B, 0, none⟩) hB y0).setCell (p := ⟨B, 1, none⟩) hB y1).setCell (p := ⟨B, 2, none⟩) hB y2).setCell (p := ⟨B, 3, none⟩) hB y3).setCell (p := ⟨B, 4, none⟩) hB y4).setCell (p := ⟨B, 5, none⟩) hB y5).setCell (p := ⟨B, 6, none⟩) hB y6).setCell (p := ⟨B, 7, none⟩) hB y7).setCell (p := ⟨B, 8, none⟩) hB y8).setCell (p := ⟨B, 9, none⟩) hB y9

theorem FamP.fam_eqb {w w' w'' : World} {k F : Nat} {R D O : List (List Int)} {v7 v8 v9 v10 dv : Value} {ai : Option Addr} {ci : Nat} {rvk : List (Value × Value)} (h : FamP w w' k R D O v7 v8 v9 v10 rvk) (hk : k ≤ 6) (hF : F < w.heap.size + 4) (he : Eqb w'.heap.size F w' w'') (hd : Dims w'' dv baseDims) :
    Fam w'' baseS nilV (.slice ai 3 ci) dv nilV nilV v7 v8 v9 v10 (optsTo k) (rulesTo k R (min R.length 6)) (guardsTo k D (min D.length 4)) (ovsTo k O (min O.length 4)) 3 baseDims := by
  have hr := h.rest F w'' hF he
  refine ⟨⟨ai, ci, rfl⟩, hd, ?_, ?_, hr.1, hr.2, famOk_of k _ _ _ R D O hk (Nat.min_le_right _ _) (Nat.min_le_right _ _) (Nat.min_le_right _ _)⟩
  · exact Sl.own1 (own_eqb h.own7 he (fun b hb => by have := h.own7.lt b hb; omega))
  · have h8 := own_eqb h.own8 he (fun b hb => by have := h.own8.lt b hb; omega)
    have hrr : RulesRow w'' rvk (rulesTo k R (min R.length 6)) := h.row.step fun x hx ls hl => Sl.eqb hl he (fun b hb => by have := h.sep x hx b hb; omega)
    exact hrr.rules (Below.refl _ _) (own_rows h8)

/-- A described family lies in the variable at B. -/
structure FamAt (wx : World) (B k : Nat) (R D O : List (List Int)) (ai : Option Addr) (ci : Nat) (ad : Option Addr) (cd : Nat) (a7 : Option Addr) (c7 : Nat) (a8 : Option Addr) (c8 : Nat) (a9 : Option Addr) (c9 : Nat) (a10 : Option Addr) (c10 : Nat) : Prop where
  blk : Blk wx B #[baseS, nilV, .slice ai 3 ci, .slice ad 2 cd, nilV, nilV, .slice a7 k c7, .slice a8 (min R.length 6) c8, .slice a9 (min D.length 4) c9, .slice a10 (min O.length 4) c10] 36
  fam : Fam wx baseS nilV (.slice ai 3 ci) (.slice ad 2 cd) nilV nilV (.slice a7 k c7) (.slice a8 (min R.length 6) c8) (.slice a9 (min D.length 4) c9) (.slice a10 (min O.length 4) c10) (optsTo k) (rulesTo k R (min R.length 6)) (guardsTo k D (min D.length 4)) (ovsTo k O (min O.length 4)) 3 baseDims
  k6 : k ≤ 6

theorem FamAt.below {wx wy : World} {B k : Nat} {R D O : List (List Int)} {ai : Option Addr} {ci : Nat} {ad : Option Addr} {cd : Nat} {a7 : Option Addr} {c7 : Nat} {a8 : Option Addr} {c8 : Nat} {a9 : Option Addr} {c9 : Nat} {a10 : Option Addr} {c10 : Nat}
    (h : FamAt wx B k R D O ai ci ad cd a7 c7 a8 c8 a9 c9 a10 c10) (hb : Below wx.heap.size wx wy) : FamAt wy B k R D O ai ci ad cd a7 c7 a8 c8 a9 c9 a10 c10 := ⟨h.blk.below hb, h.fam.mono hb, h.k6⟩

/-- Family's result is stored into a variable that was there before. -/
theorem famAt_store {w2 w3 : World} {B k : Nat} {R D O : List (List Int)} {ai : Option Addr} {ci : Nat} {ad : Option Addr} {cd : Nat} {a7 : Option Addr} {c7 : Nat} {a8 : Option Addr} {c8 : Nat} {a9 : Option Addr} {c9 : Nat} {a10 : Option Addr} {c10 : Nat} {rvk : List (Value × Value)}
    (h : FamP w2 w3 k R D O (.slice a7 k c7) (.slice a8 (min R.length 6) c8) (.slice a9 (min D.length 4) c9) (.slice a10 (min O.length 4) c10) rvk) (hk : k ≤ 6) {x0 x1 x2 x3 x4 x5 x6 x7 x8 x9 : Value} (hB : Blk w3 B #[x0, x1, x2, x3, x4, x5, x6, x7, x8, x9] 36) (hlt : B < w2.heap.size)
    (hd : Dims w2 (.slice ad 2 cd) baseDims) (hne : ∀ b, (Value.slice ad 2 cd).ownBlock = some b → b ≠ B) :
    FamAt (set10 w3 B baseS nilV (.slice ai 3 ci) (.slice ad 2 cd) nilV nilV (.slice a7 k c7) (.slice a8 (min R.length 6) c8) (.slice a9 (min D.length 4) c9) (.slice a10 (min O.length 4) c10)) B k R D O ai ci ad cd a7 c7 a8 c8 a9 c9 a10 c10 := by
  have he := eqb_set10 w3 B baseS nilV (.slice ai 3 ci) (.slice ad 2 cd) nilV nilV (.slice a7 k c7) (.slice a8 (min R.length 6) c8) (.slice a9 (min D.length 4) c9) (.slice a10 (min O.length 4) c10)
  refine ⟨hB.set10 _ _ _ _ _ _ _ _ _ _, h.fam_eqb hk (by omega) he ?_, hk⟩
  have hd3 := hd.mono h.below
  refine Sl.eqb hd3 he (fun b hb => ⟨?_, hne b hb⟩)
  obtain ⟨a, cap, hv, hle, _, hh⟩ := hd3
  cases hv
  rcases hh with h0 | ⟨b', off, rfl, hlt', _⟩
  · simp [baseDims] at hle
    omega
  · simp only [Value.ownBlock, Option.some.injEq] at hb
    omega

/-- .. into one that is made behind it. -/
theorem famAt_new {w2 w3 : World} {k : Nat} {R D O : List (List Int)} {ai : Option Addr} {ci : Nat} {ad : Option Addr} {cd : Nat} {a7 : Option Addr} {c7 : Nat} {a8 : Option Addr} {c8 : Nat} {a9 : Option Addr} {c9 : Nat} {a10 : Option Addr} {c10 : Nat} {rvk : List (Value × Value)}
    (h : FamP w2 w3 k R D O (.slice a7 k c7) (.slice a8 (min R.length 6) c8) (.slice a9 (min D.length 4) c9) (.slice a10 (min O.length 4) c10) rvk) (hk : k ≤ 6) (hd : Dims w2 (.slice ad 2 cd) baseDims) :
    FamAt (w3.alloc (.cells #[baseS, nilV, .slice ai 3 ci, .slice ad 2 cd, nilV, nilV, .slice a7 k c7, .slice a8 (min R.length 6) c8, .slice a9 (min D.length 4) c9, .slice a10 (min O.length 4) c10] 36)) w3.heap.size k R D O ai ci ad cd a7 c7 a8 c8 a9 c9 a10 c10 :=
  ⟨Blk.new _ _ _, (h.fam_eqb (w'' := w3) (F := 0) hk (by omega) (Eqb.refl 0) (hd.mono h.below)).mono (below1 _ _), hk⟩

theorem blk10 {w : World} {b : Nat} {x0 x1 x2 x3 x4 x5 x6 x7 x8 x9 : Value} {T : TypeId} (h : Blk w b #[x0, x1, x2, x3, x4, x5, x6, x7, x8, x9] T) :
    w.cell? ⟨b, 0, none⟩ = some x0 ∧ w.cell? ⟨b, 1, none⟩ = some x1 ∧ w.cell? ⟨b, 2, none⟩ = some x2 ∧ w.cell? ⟨b, 3, none⟩ = some x3 ∧ w.cell? ⟨b, 4, none⟩ = some x4 ∧ w.cell? ⟨b, 5, none⟩ = some x5 ∧ w.cell? ⟨b, 6, none⟩ = some x6 ∧ w.cell? ⟨b, 7, none⟩ = some x7 ∧ w.cell? ⟨b, 8, none⟩ = some x8 ∧ w.cell? ⟨b, 9, none⟩ = some x9 ∧
    w.frozen? ⟨b, 0, none⟩ = false ∧ w.frozen? ⟨b, 1, none⟩ = false ∧ w.frozen? ⟨b, 2, none⟩ = false ∧ w.frozen? ⟨b, 3, none⟩ = false ∧ w.frozen? ⟨b, 4, none⟩ = false ∧ w.frozen? ⟨b, 5, none⟩ = false ∧ w.frozen? ⟨b, 6, none⟩ = false ∧ w.frozen? ⟨b, 7, none⟩ = false ∧ w.frozen? ⟨b, 8, none⟩ = false ∧ w.frozen? ⟨b, 9, none⟩ = false :=
  ⟨h.cell 0, h.cell 1, h.cell 2, h.cell 3, h.cell 4, h.cell 5, h.cell 6, h.cell 7, h.cell 8, h.cell 9, h.free 0, h.free 1, h.free 2, h.free 3, h.free 4, h.free 5, h.free 6, h.free 7, h.free 8, h.free 9⟩
theorem blk10c {a0 a1 a2 a3 a4 a5 a6 a7 a8 a9 p : Prop} (h : a0 ∧ a1 ∧ a2 ∧ a3 ∧ a4 ∧ a5 ∧ a6 ∧ a7 ∧ a8 ∧ a9 ∧ p) : a0 ∧ a1 ∧ a2 ∧ a3 ∧ a4 ∧ a5 ∧ a6 ∧ a7 ∧ a8 ∧ a9 :=
  ⟨h.1, h.2.1, h.2.2.1, h.2.2.2.1, h.2.2.2.2.1, h.2.2.2.2.2.1, h.2.2.2.2.2.2.1, h.2.2.2.2.2.2.2.1, h.2.2.2.2.2.2.2.2.1, h.2.2.2.2.2.2.2.2.2.1⟩
theorem setN_lt (n i : Nat) (hn : n ≤ 6) : setN n i < 4096 := by
  have := revTo_lt n (2 ^ n - 1 - i) n
  have h2 : (2 : Nat) ^ n ≤ 2 ^ 6 := Nat.pow_le_pow_right (by omega) hn
  unfold setN rev
  omega
theorem blk4 {w : World} {b : Nat} {x0 x1 x2 x3 : Value} {T : TypeId} (h : Blk w b #[x0, x1, x2, x3] T) :
    w.cell? ⟨b, 0, none⟩ = some x0 ∧ w.cell? ⟨b, 1, none⟩ = some x1 ∧ w.cell? ⟨b, 2, none⟩ = some x2 ∧ w.cell? ⟨b, 3, none⟩ = some x3 := ⟨h.cell 0, h.cell 1, h.cell 2, h.cell 3⟩
theorem dims_lt {w : World} {v : Value} (h : Dims w v baseDims) (b : Nat) (hb : v.ownBlock = some b) : b < w.heap.size := by
  obtain ⟨a, cap, rfl, hle, _, hh⟩ := h
  rcases hh with h0 | ⟨b', off, rfl, hlt', _⟩
  · simp [baseDims] at hle
    omega
  · simp only [Value.ownBlock, Option.some.injEq] at hb
    omega

end Go.Proofs.YtknpbcdmemlicaaGreatDoor
