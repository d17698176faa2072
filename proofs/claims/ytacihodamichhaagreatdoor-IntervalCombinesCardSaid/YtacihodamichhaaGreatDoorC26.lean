/- Parts of the proof. -/
import Derived.Test.YtacihodamichhaaGreatDoorC17
namespace Go.Proofs.YtacihodamichhaaGreatDoor
open Go.RowKit
def Cuts(w:World)(v:Value)(P:List CC):Prop:=Sl w 7 v (P.map CC.cells)∧∀k∈P,k.ok w
def quy(w:World)(b o:Nat)(k:CC):Prop:=w.cell? ⟨b,o,none⟩=some (.int .i64 k.c.b)∧w.cell? ⟨b,o+1,none⟩=some (.string k.c.s)∧w.cell? ⟨b,o+2,none⟩=some (.int .i64 k.c.d)∧w.cell? ⟨b,o+3,none⟩=some (.bool k.x)∧w.cell? ⟨b,o+4,none⟩=some (.slice k.a k.n k.cap)∧w.cell? ⟨b,o+5,none⟩=some (.bool false)∧w.cell? ⟨b,o+6,none⟩=some (.slice none 0 0)
theorem Cuts.at{w wr:World}{n cap:Nat}{a:Option Addr}{P:List CC}(h:Cuts w (.slice a n cap) P)(hb:Below w.heap.size w wr){k:Nat}(hk:k<n):
  ∃b off p,a=some ⟨b,off,none⟩∧P[k]?=some p∧p.ok wr∧quy wr b (off+k*7) p:=by
 obtain⟨b,off,ha,hlt,r,hr,hc⟩:=Sl.row h.1 hb hk;simp only[List.getElem?_map,Option.map_eq_some_iff]at hr;obtain⟨l,hl,rfl⟩:=hr;exact⟨b,off,l,ha,hl,(h.2 l (List.mem_of_getElem? hl)).mono hb,hc 0 (by decide),hc 1 (by decide),hc 2 (by decide),hc 3 (by decide),hc 4 (by decide),hc 5 (by decide),hc 6 (by decide)⟩
abbrev PC:=Cut × Cut
def lowest:Cut:=⟨-1,⟨#[]⟩,0⟩
def highest:Cut:=⟨1,⟨#[]⟩,0⟩
def qbb(l:List PC):List Cut:=[lowest,highest]++(l.map fun p=>[p.1,p.2]).flatten
def ivOf(p:PC):Iv:=⟨p.1.s,p.2.s,qdt p.1 1,qdt p.2 (-1)⟩
theorem qcu{α:Type}{R:α→α→Prop}:∀{l:List α},(∀(i j:Nat) (x y:α),i<j→l[i]?=some x→l[j]?=some y→R x y)→l.Pairwise R
 |[],_=>List.Pairwise.nil
 |a::l,h=>List.Pairwise.cons (fun y hy=>by
   obtain⟨j,hj⟩:=List.mem_iff_getElem?.1 hy
   exact h 0 (j+1) a y (by omega) rfl (by simpa using hj)) (qcu fun i j x y hij hx hy=>h (i+1) (j+1) x y (by omega) (by simpa using hx) (by simpa using hy))
theorem bwD(w:World):Below w.heap.size w (w.drewN 1):=(Below.refl _ _).dn 1
theorem bwA{w W:World}(h:Below w.heap.size w W)(o:Obj):Below w.heap.size w (W.alloc o):=h.alloc h.size o
theorem qrv{w:World}{b:Nat}{x y z:Value}{T:TypeId}(h:Blk w b #[x,y,z] T):(w.cell? ⟨b,0,none⟩=some x∧w.cell? ⟨b,1,none⟩=some y∧w.cell? ⟨b,2,none⟩=some z)∧w.frozen? ⟨b,0,none⟩=false∧w.frozen? ⟨b,1,none⟩=false∧w.frozen? ⟨b,2,none⟩=false:=
 ⟨⟨h.cell 0,h.cell 1,h.cell 2⟩,h.free 0,h.free 1,h.free 2⟩
theorem Blk.put3{w:World}{b:Nat}{x y z:Value}{T:TypeId}(u0 u1 u2:Value)(h:Blk w b #[x,y,z] T):Blk (((w.setCell ⟨b,0,none⟩ u0).setCell ⟨b,1,none⟩ u1).setCell ⟨b,2,none⟩ u2) b #[u0,u1,u2] T:=
 qcx h [u0,u1,u2] rfl
theorem qm2{B b:Nat}{w0 w:World}(u0 u1 u2:Value)(h:Below B w0 w)(hB:B≤b):Below B w0 (((w.setCell ⟨b,0,none⟩ u0).setCell ⟨b,1,none⟩ u1).setCell ⟨b,2,none⟩ u2):=((h.setCell hB _).setCell hB _).setCell hB _
end Go.Proofs.YtacihodamichhaaGreatDoor
