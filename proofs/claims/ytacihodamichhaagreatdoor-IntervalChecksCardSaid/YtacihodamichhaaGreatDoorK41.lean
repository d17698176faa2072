/-
  Parts of the proof: Wk.
-/
import Derived.Test.YtacihodamichhaaGreatDoorK10
import Derived.Test.YtacihodamichhaaGreatDoorK02
namespace Go.Proofs.YtacihodamichhaaGreatDoor
open Go.RowKit
theorem bwD (w : World) : Below w.heap.size w (w.drewN 1) := (Below.refl _ _).dn 1
theorem bwA {w W : World} (h : Below w.heap.size w W) (o : Obj) : Below w.heap.size w (W.alloc o) := h.alloc h.size o
theorem Blk.offN {b c : Nat} {T : TypeId} {cs : Array Value} : ∀ (vs : List Value) (i : Nat) (w : World), Blk w c cs T → c ≠ b → Blk (setN w b i vs) c cs T
  | [], _, _, h, _ => h
  | v :: r, i, w, h, hne => Blk.offN r (i + 1) (w.setCell ⟨b, i, none⟩ v) (h.other (p := ⟨b, i, none⟩) hne v) hne
theorem blk3v {w : World} {b : Nat} {x y z : Value} {T : TypeId} (h : Blk w b #[x, y, z] T) : (w.cell? ⟨b, 0, none⟩ = some x ∧ w.cell? ⟨b, 1, none⟩ = some y ∧ w.cell? ⟨b, 2, none⟩ = some z) ∧ w.frozen? ⟨b, 0, none⟩ = false ∧ w.frozen? ⟨b, 1, none⟩ = false ∧ w.frozen? ⟨b, 2, none⟩ = false :=
  ⟨⟨h.cell 0, h.cell 1, h.cell 2⟩, h.free 0, h.free 1, h.free 2⟩
theorem Blk.put3 {w : World} {b : Nat} {x y z : Value} {T : TypeId} (u0 u1 u2 : Value) (h : Blk w b #[x, y, z] T) : Blk (((w.setCell ⟨b, 0, none⟩ u0).setCell ⟨b, 1, none⟩ u1).setCell ⟨b, 2, none⟩ u2) b #[u0, u1, u2] T :=
  setN_blk h [u0, u1, u2] rfl
theorem Blk.off3 {w : World} {b c : Nat} {cs : Array Value} {T : TypeId} (u0 u1 u2 : Value) (h : Blk w c cs T) (hne : c ≠ b) : Blk (((w.setCell ⟨b, 0, none⟩ u0).setCell ⟨b, 1, none⟩ u1).setCell ⟨b, 2, none⟩ u2) c cs T :=
  Blk.offN [u0, u1, u2] 0 w h hne
theorem below_put3 {B b : Nat} {w0 w : World} (u0 u1 u2 : Value) (h : Below B w0 w) (hB : B ≤ b) : Below B w0 (((w.setCell ⟨b, 0, none⟩ u0).setCell ⟨b, 1, none⟩ u1).setCell ⟨b, 2, none⟩ u2) := ((h.setCell hB _).setCell hB _).setCell hB _
end Go.Proofs.YtacihodamichhaaGreatDoor
