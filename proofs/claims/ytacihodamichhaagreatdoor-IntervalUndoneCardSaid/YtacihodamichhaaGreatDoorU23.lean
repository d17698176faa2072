/- Parts of the proof. -/
import Derived.Test.YtacihodamichhaaGreatDoorU14
namespace Go.Proofs.YtacihodamichhaaGreatDoor
open Go.RowKit
abbrev PC:=Cut × Cut
def lowest:Cut:=⟨-1,⟨#[]⟩,0⟩
def highest:Cut:=⟨1,⟨#[]⟩,0⟩
def qbj(l:List PC):List Cut:=[lowest,highest]++(l.map fun p=>[p.1,p.2]).flatten
def ivOf(p:PC):Iv:=⟨p.1.s,p.2.s,qd0 p.1 1,qd0 p.2 (-1)⟩
theorem qcx{α:Type}{R:α→α→Prop}:∀{l:List α},(∀(i j:Nat) (x y:α),i<j→l[i]?=some x→l[j]?=some y→R x y)→l.Pairwise R
 |[],_=>List.Pairwise.nil
 |a::l,h=>List.Pairwise.cons (fun y hy=>by
   obtain⟨j,hj⟩:=List.mem_iff_getElem?.1 hy
   exact h 0 (j+1) a y (by omega) rfl (by simpa using hj)) (qcx fun i j x y hij hx hy=>h (i+1) (j+1) x y (by omega) (by simpa using hx) (by simpa using hy))
theorem bwD(w:World):Below w.heap.size w (w.drewN 1):=(Below.refl _ _).dn 1
theorem bwA{w W:World}(h:Below w.heap.size w W)(o:Obj):Below w.heap.size w (W.alloc o):=h.alloc h.size o
end Go.Proofs.YtacihodamichhaaGreatDoor
