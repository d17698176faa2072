/-
  Rows of intervals, of parts, of places in memory.
-/
import Derived.Test.YtfmgjcgcocidfaaGreatDoorIpar
namespace Go.Proofs.YtfmgjcgcocidfaaGreatDoor
open Go.RowKit

def Iv.row (x : Iv) : List Value := [.string x.lo, .string x.hi, .int .i64 x.le, .int .i64 x.he]
/-- A part: two places. -/
structure PP where
  l : CC
  h : CC
def PP.row (p : PP) : List Value := p.l.cells ++ p.h.cells
def PP.ok (w : World) (p : PP) : Prop := p.l.ok w ∧ p.h.ok w
def PP.cuts (p : PP) : Cut × Cut := (p.l.c, p.h.c)
def Iv.cuts (x : Iv) : Cut × Cut := (x.low, x.high)
theorem PP.ok.mono {w w' : World} {p : PP} (h : p.ok w) (hb : Below w.heap.size w w') : p.ok w' := ⟨h.1.mono hb, h.2.mono hb⟩
theorem PP.row_len (p : PP) : p.row.length = 14 := rfl
theorem CC.cells_len (k : CC) : k.cells.length = 7 := rfl
theorem Iv.row_len (x : Iv) : x.row.length = 4 := rfl
/-- A slice of intervals, of parts, of places. -/
def Ivs (w : World) (v : Value) (xs : List Iv) : Prop := Sl w 4 v (xs.map Iv.row)
def Parts (w : World) (v : Value) (ps : List PP) : Prop := Sl w 14 v (ps.map PP.row) ∧ ∀ p ∈ ps, p.ok w
theorem Ivs.mono {w w' : World} {v : Value} {xs : List Iv} (h : Ivs w v xs) (hb : Below w.heap.size w w') : Ivs w' v xs := Sl.mono h hb
theorem Parts.mono {w w' : World} {v : Value} {ps : List PP} (h : Parts w v ps) (hb : Below w.heap.size w w') : Parts w' v ps := ⟨Sl.mono h.1 hb, fun p hp => (h.2 p hp).mono hb⟩
theorem Ivs.open {w : World} {v : Value} {xs : List Iv} (h : Ivs w v xs) : ∃ a cap, v = .slice a xs.length cap ∧ xs.length ≤ cap ∧ cap ≤ maxLen := by
  have := Sl.open h; simpa using this
theorem Parts.open {w : World} {v : Value} {ps : List PP} (h : Parts w v ps) : ∃ a cap, v = .slice a ps.length cap ∧ ps.length ≤ cap ∧ cap ≤ maxLen := by
  have := Sl.open h.1; simpa using this
theorem Ivs.at {w wr : World} {n cap : Nat} {a : Option Addr} {xs : List Iv} (h : Ivs w (.slice a n cap) xs) (hb : Below w.heap.size w wr) {k : Nat} (hk : k < n) :
    ∃ b off x, a = some ⟨b, off, none⟩ ∧ xs[k]? = some x ∧ wr.cell? ⟨b, off + k * 4, none⟩ = some (.string x.lo) ∧ wr.cell? ⟨b, off + k * 4 + 1, none⟩ = some (.string x.hi) ∧ wr.cell? ⟨b, off + k * 4 + 2, none⟩ = some (.int .i64 x.le) ∧ wr.cell? ⟨b, off + k * 4 + 3, none⟩ = some (.int .i64 x.he) := by
  obtain ⟨b, off, ha, hlt, r, hr, hc⟩ := Sl.row h hb hk
  simp only [List.getElem?_map, Option.map_eq_some_iff] at hr
  obtain ⟨l, hl, rfl⟩ := hr
  exact ⟨b, off, l, ha, hl, hc 0 (by decide), hc 1 (by decide), hc 2 (by decide), hc 3 (by decide)⟩
/-- The cells of a part, from a place on. -/
def PCells (w : World) (b o : Nat) (p : PP) : Prop := w.cell? ⟨b, o, none⟩ = some (.int .i64 p.l.c.b) ∧ w.cell? ⟨b, o + 1, none⟩ = some (.string p.l.c.s) ∧ w.cell? ⟨b, o + 2, none⟩ = some (.int .i64 p.l.c.d) ∧ w.cell? ⟨b, o + 3, none⟩ = some (.bool p.l.x) ∧ w.cell? ⟨b, o + 4, none⟩ = some (.slice p.l.a p.l.n p.l.cap) ∧ w.cell? ⟨b, o + 5, none⟩ = some (.bool false) ∧ w.cell? ⟨b, o + 6, none⟩ = some (.slice none 0 0) ∧ w.cell? ⟨b, o + 7, none⟩ = some (.int .i64 p.h.c.b) ∧ w.cell? ⟨b, o + 8, none⟩ = some (.string p.h.c.s) ∧ w.cell? ⟨b, o + 9, none⟩ = some (.int .i64 p.h.c.d) ∧ w.cell? ⟨b, o + 10, none⟩ = some (.bool p.h.x) ∧ w.cell? ⟨b, o + 11, none⟩ = some (.slice p.h.a p.h.n p.h.cap) ∧ w.cell? ⟨b, o + 12, none⟩ = some (.bool false) ∧ w.cell? ⟨b, o + 13, none⟩ = some (.slice none 0 0)
theorem Parts.at {w wr : World} {n cap : Nat} {a : Option Addr} {ps : List PP} (h : Parts w (.slice a n cap) ps) (hb : Below w.heap.size w wr) {k : Nat} (hk : k < n) :
    ∃ b off p, a = some ⟨b, off, none⟩ ∧ ps[k]? = some p ∧ p.ok wr ∧ PCells wr b (off + k * 14) p := by
  obtain ⟨b, off, ha, hlt, r, hr, hc⟩ := Sl.row h.1 hb hk
  simp only [List.getElem?_map, Option.map_eq_some_iff] at hr
  obtain ⟨l, hl, rfl⟩ := hr
  exact ⟨b, off, l, ha, hl, (h.2 l (List.mem_of_getElem? hl)).mono hb, hc 0 (by decide), hc 1 (by decide), hc 2 (by decide), hc 3 (by decide), hc 4 (by decide), hc 5 (by decide), hc 6 (by decide), hc 7 (by decide), hc 8 (by decide), hc 9 (by decide), hc 10 (by decide), hc 11 (by decide), hc 12 (by decide), hc 13 (by decide)⟩
theorem CC.ok.app {w w' : World} {B e sz n : Nat} {v : Value} {xs : List Value} {k : CC} {o : Obj} (h : k.ok w) (hown : w.ownsRow B e sz v n xs) (he : e ≠ 117) (hg : (w.alloc o).grownBy w' v.ownBlock) : k.ok w' := (h.mono (below1 w o)).grown (own_below hown (below1 w o)) he hg
theorem PP.ok.app {w w' : World} {B e sz n : Nat} {v : Value} {xs : List Value} {p : PP} {o : Obj} (h : p.ok w) (hown : w.ownsRow B e sz v n xs) (he : e ≠ 117) (hg : (w.alloc o).grownBy w' v.ownBlock) : p.ok w' := ⟨h.1.app hown he hg, h.2.app hown he hg⟩
theorem rows_flat {α : Type} (f : α → List Value) (ps : List α) (p : α) : (ps.map f).flatten ++ f p = ((ps ++ [p]).map f).flatten := by simp
theorem own_parts {w : World} {B n : Nat} {v : Value} {ps : List PP} (h : w.ownsRow B 54 14 v n ((ps.map PP.row).flatten)) (hok : ∀ p ∈ ps, p.ok w) : Parts w v ps :=
  ⟨Sl.own h (fun r hr => by obtain ⟨p, _, rfl⟩ := List.mem_map.1 hr; rfl) (by decide), hok⟩
theorem own_ivs {w : World} {B n : Nat} {v : Value} {xs : List Iv} (h : w.ownsRow B 27 4 v n ((xs.map Iv.row).flatten)) : Ivs w v xs :=
  Sl.own h (fun r hr => by obtain ⟨p, _, rfl⟩ := List.mem_map.1 hr; rfl) (by decide)
theorem EP : ElemTy 43 54 14 192 := ⟨Tryz.underlying43, by kernel_rfl⟩
theorem EI : ElemTy 24 27 4 48 := ⟨Tryz.underlying24, by kernel_rfl⟩
theorem EC : ElemTy 61 52 7 96 := ⟨Tryz.underlying61, by kernel_rfl⟩
theorem one14 (p : PP) : ∀ u ∈ p.row, u.oneCell' = true := by
  intro u hu
  simp [PP.row, CC.cells] at hu
  rcases hu with rfl | rfl | rfl | rfl | rfl | rfl | rfl | rfl | rfl | rfl | rfl | rfl | rfl | rfl <;> rfl
theorem one7 (k : CC) : ∀ u ∈ k.cells, u.oneCell' = true := by
  intro u hu
  simp [CC.cells] at hu
  rcases hu with rfl | rfl | rfl | rfl | rfl | rfl | rfl <;> rfl
theorem one4 (x : Iv) : ∀ u ∈ x.row, u.oneCell' = true := by
  intro u hu
  simp [Iv.row] at hu
  rcases hu with rfl | rfl | rfl | rfl <;> rfl
/-- The intervals make a set. -/
def SetOk (xs : List (Cut × Cut)) : Prop := (∀ (i : Nat) (p : Cut × Cut), xs[i]? = some p → cmpC p.1 p.2 < 0) ∧ ∀ (i : Nat) (p q : Cut × Cut), xs[i]? = some p → xs[i + 1]? = some q → cmpC p.2 q.1 < 0

end Go.Proofs.YtfmgjcgcocidfaaGreatDoor
