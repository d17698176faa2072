/- Parts of the proof. -/
import Derived.Test.YtacihodamichhaaGreatDoorU01
set_option maxHeartbeats 2000000
namespace Go.Proofs.YtacihodamichhaaGreatDoor
open Go.RowKit
def u32s(l:List Nat):List Value:=l.map fun d:Nat=>.int .u32 (d:Int)
def Ls(w:World)(v:Value)(l:List Nat):Prop:=Sl w 1 v ((u32s l).map c1)
theorem Ls.mono{w w':World}{v:Value}{l:List Nat}(h:Ls w v l)(hb:Below w.heap.size w w'):Ls w' v l:=Sl.mono h hb
theorem Ls.open{w:World}{v:Value}{l:List Nat}(h:Ls w v l):∃a cap,v=.slice a l.length cap∧l.length≤cap∧cap≤maxLen:=by
 have:=Sl.open h;simpa[u32s]using this
theorem Ls.at{w wr:World}{n cap:Nat}{a:Option Addr}{l:List Nat}(hS:Ls w (.slice a n cap) l)(hb:Below w.heap.size w wr){k:Nat}(hk:k<n):
  ∃b off d,a=some ⟨b,off,none⟩∧l[k]?=some d∧wr.cell? ⟨b,off+k,none⟩=some (.int .u32 (d:Int)):=by
 obtain⟨b,off,x,ha,hx,h0⟩:=Sl.at1 hS hb hk;simp only[u32s,List.getElem?_map,Option.map_eq_some_iff]at hx;obtain⟨d,hd,rfl⟩:=hx;exact⟨b,off,d,ha,hd,h0⟩
theorem Ls.take{w:World}{a:Option Addr}{n cap:Nat}{l:List Nat}(h:Ls w (.slice a n cap) l){k:Nat}(hk:k≤n):Ls w (.slice a k cap) (l.take k):=by
 obtain⟨a',cap',hv,hc,hm,hh⟩:=h;cases hv
 simp only[u32s,List.length_map]at hc hh hk;have hl:((u32s (l.take k)).map c1).length=k:=by simp[u32s];omega
 refine⟨a,cap,by rw[hl],by rw[hl];omega,hm,?_⟩
 rcases hh with h0|⟨b,off,ha,hlt,hcell⟩
 ·exact .inl h0
 ·refine .inr ⟨b,off,ha,hlt,fun i j hi hj=>?_⟩
  rw[hl]at hi;rw[hcell i j (by omega) hj];simp[u32s,List.getD_eq_getElem?_getD,hi]
theorem Ls.nil(w:World):Ls w (.slice none 0 0) []:=Sl.nil w 1
def IntV(w:World)(v:Value)(z:Int):Prop:=∃a c,v=.agg #[.bool (decide (z<0)),.slice a (limbs z.natAbs).length c]∧Ls w (.slice a (limbs z.natAbs).length c) (limbs z.natAbs)
theorem IntV.mono{w w':World}{v:Value}{z:Int}(h:IntV w v z)(hb:Below w.heap.size w w'):IntV w' v z:=by
 obtain⟨a,c,hv,h⟩:=h;exact⟨a,c,hv,h.mono hb⟩
theorem qha{l:List Nat}{j d:Nat}(h:l[j]?=some d):(l.take (j+1)).getLast?=some d:=by
 rw[List.take_add_one,h];simp
namespace Dr
structure Below(B:Nat)(w w':World):Prop where
 b:Go.RowKit.Below B w w'
 d:w.drawn≤w'.drawn
instance {B:Nat} {w w':World}:Coe (Below B w w') (Go.RowKit.Below B w w'):=⟨Below.b⟩
structure Grown(w w':World)(row:Option Nat):Prop where
 g:w.grownBy w' row
 d:w.drawn≤w'.drawn
theorem Below.refl(B:Nat)(w:World):Below B w w:=⟨Go.RowKit.Below.refl B w,Nat.le_refl _⟩
theorem Below.size{B:Nat}{w w':World}(h:Below B w w'):w.heap.size≤w'.heap.size:=h.b.size
theorem Below.alloc{B:Nat}{a w:World}(h:Below B a w)(hB:B≤w.heap.size)(o:Obj):Below B a (w.alloc o):=⟨h.b.alloc hB o,h.d⟩
theorem Below.setCell{B:Nat}{a w:World}(h:Below B a w){p:Addr}(hp:B≤p.block)(u:Value):Below B a (w.setCell p u):=⟨h.b.setCell hp u,h.d⟩
theorem Below.dn{B:Nat}{a w:World}(h:Below B a w)(n:Nat):Below B a (w.drewN n):=⟨h.b.dn n,Nat.le_trans h.d (Nat.le_add_right _ _)⟩
theorem Below.via{B:Nat}{a b c:World}(h:Below B a b)(k:Below b.heap.size b c)(hB:B≤b.heap.size):Below B a c:=⟨h.b.via k.b hB,Nat.le_trans h.d k.d⟩
theorem Below.grown{B:Nat}{a w w':World}{row:Option Nat}(h:Below B a w)(hg:Grown w w' row)(hB:B≤w.heap.size)(hr:∀k,row=some k→B≤k):Below B a w':=⟨h.b.grown hg.g hB hr,Nat.le_trans h.d hg.d⟩
theorem qaa{a b c:World}(h:Below a.heap.size a b)(k:Below b.heap.size b c):Below a.heap.size a c:=h.via k h.size
theorem qac(w:World)(o:Obj):Below w.heap.size w (w.alloc o):=(Below.refl _ _).alloc (Nat.le_refl _) _
theorem qaz(w:World)(o o':Obj):Below w.heap.size w ((w.alloc o).alloc o'):=(qac w o).alloc (by simp) _
theorem qes(w:World)(o o' o'':Obj):Below w.heap.size w (((w.alloc o).alloc o').alloc o''):=(qaz w o o').alloc (by simp;omega) _
theorem qdf{B b:Nat}{w w1:World}(x:Bool)(a:Option Addr)(k c:Nat)(h:Below B w w1)(hB:B≤b):Below B w ((w1.setCell ⟨b,0,none⟩ (.bool x)).setCell ⟨b,1,none⟩ (.slice a k c)):=
 (h.setCell (p:=⟨b,0,none⟩) hB _).setCell (p:=⟨b,1,none⟩) hB _
def Ret(v:Value)(w:World)(e:Ending)(w':World):Prop:=e=.returned v∧Below w.heap.size w w'
def RetP(Post:Value→World→Prop)(w:World)(e:Ending)(w':World):Prop:=∃v,e=.returned v∧Post v w'∧Below w.heap.size w w'
theorem wpList_make_full{P:Program}(w:World){ops:Array Oper}{rest:List Oper}{o:Oper}{a:Act}{Q:Exit→Act→World→Prop}
  (hg:o.guard=none) (l c:Operand) (t:TypeId) (hop:o.op=Op.makeSlice t l c)
  (base:Nat) (e:TypeId) (i:TypeInfo) (z:Value) (size:Nat) (h1:P.underlying t=some (.slice e)) (h2:P.info? e=some i) (h3:i.zero=some z) (h4:i.size=size)
  (kl kc:IntKind) (L C:Int) (n:Nat) (hl:a.eval l=.int kl L) (hc:a.eval c=.int kc C) (hL:L=(n:Int)) (hC:C=(n:Int)) (b2:i.bytes*n≤281474976710656) (b3:n≤maxLen) (b4:base≤w.heap.size)
  (hK:∀w',w'.ownsRow base e size (.slice (some ⟨w.heap.size,0,none⟩) n n) n (madeCells z.cells (n*size)).toList→Grown w w' none→wpList P ops Q rest (a.put o.dst (.slice (some ⟨w.heap.size,0,none⟩) n n)) w'):
  wpList P ops Q (o::rest) a w:=by
 refine wpList_plain hg fun K hK'=>?_
 subst h4
 have h63':(n:Int)≤9223372036854775807:=by
  have h:=b3;simp[maxLen]at h
  omega
 have hb':(i.bytes:Int)*(n:Int)≤281474976710656:=by
  have h:((i.bytes*n:Nat):Int)≤281474976710656:=by omega
  rwa [Int.natCast_mul]at h
 have hr:=run_make (P:=P) w t e i z h1 h2 h3 kl kc n n (by omega) (Int.le_refl _) hb' h63';simp only[Int.toNat_natCast]at hr;subst hL;subst hC;unfold Oper.wp;simp[execOp,hop,hl,hc,hr,Result.andThen];exact hK' _ _ (hK _ (World.ownsRow_lit w _ n b4 b3 (size_madeCells _ _)) ⟨World.grownBy_alloc w _ none,Nat.le_refl _⟩)
theorem Ret.n{v:Value}{w w':World}{e:Ending}(h:Ret v w e w'):Go.Proofs.YtacihodamichhaaGreatDoor.Ret v w e w':=⟨h.1,h.2.b⟩
theorem RetP.n{P:Value→World→Prop}{w w':World}{e:Ending}(h:RetP P w e w'):Go.Proofs.YtacihodamichhaaGreatDoor.RetP P w e w':=h.elim fun v k=>⟨v,k.1,k.2.1,k.2.2.b⟩
end Dr
namespace Dr
theorem qc0(a:Option Addr)(n c:Nat)(l:List Nat)(w:World)(hL:Ls w (.slice a n c) l)(hd:Dg l):
  Calls Tryz.prog 172 #[.slice a n c] w (fun e w'=>e=.returned (.slice a (limbs (natL l)).length c)∧Ls w (.slice a (limbs (natL l)).length c) (limbs (natL l))∧Below w.heap.size w w'):=by
 obtain⟨_,_,hq,hc1,hc2⟩:=hL.open;cases hq
 unfold maxLen at hc2;have HL:=hI hL;have Hd:=hI hd;clear hL hd;generalize hn:l.length=n at*;have Hn:=hI hn;clear hn
 go_enter Tryz.func172,Tryz.ntmps172
 go_wp2
 go_loopw [0] (fun m wr=>∃k:Nat,k≤n∧m=.slice a k c∧Below w.heap.size w wr∧Hid (natL (l.take k)=natL l)) (fun m _=>match m with|.slice _ k _=>k|_=>0)
 case atStart=>exact⟨n,Nat.le_refl _,rfl,Below.refl _ _,by unfold Hid;rw[←Hn.out,List.take_length]⟩
 case round=>
  obtain⟨k,hk,rfl,hbw,hpre⟩:=hrel;rcases k with _|j
  ·have hl0:limbs (natL l)=[]:=by rw[←hpre.out];exact qah
   have Hl0:=hI hl0;clear hl0
   go_wp2_with fail
   go_ret
   refine⟨?_,?_,hbw⟩
   ·rw[Hl0.out];rfl
   ·rw[Hl0.out];exact HL.out.take (Nat.zero_le _)
  ·obtain⟨b,off,d,rfl,hdk,c0⟩:=HL.out.at hbw.b (show j<n by omega)
   have Hdk:=hI hdk;have hij:((((j+1:Nat):Int)-1))=(j:Int):=by omega
   have hi64:IntKind.i64.wrap (j:Int)=j:=IntWalk.i64_in _ (by omega);have hjn:(j:Int)<(n:Int):=by omega
   have hjp:(0:Int)<((j+1:Nat):Int):=by omega
   clear hdk
   by_cases hz:d=0
   ·subst hz
    go_wp2_with fail
    go_roundw
    case rel=>exact⟨j,by omega,by go_num,hbw,by unfold Hid;rw[←hpre.out,qaj Hdk.out];simp⟩
    case measure=>simp
   ·have hz2:((d:Int)==0)=false:=by simpa using hz
    have hfin:limbs (natL l)=l.take (j+1):=by
     rw[←hpre.out];exact qdq (Hd.out.take _) (fun e he=>by rw[qha Hdk.out]at he;cases he;exact hz)
    have hlen:(limbs (natL l)).length=j+1:=by rw[hfin,List.length_take,Hn.out];omega
    have Hfin:=hI hfin;have Hlen:=hI hlen;clear hfin hlen
    go_wp2_with fail
    go_ret
    refine⟨?_,?_,hbw⟩
    ·rw[Hlen.out];rfl
    ·rw[Hlen.out,Hfin.out];exact HL.out.take (by omega)
end Dr
theorem qc0(a:Option Addr)(n c:Nat)(l:List Nat)(w:World)(hL:Ls w (.slice a n c) l)(hd:Dg l):
  Calls Tryz.prog 172 #[.slice a n c] w (fun e w'=>e=.returned (.slice a (limbs (natL l)).length c)∧Ls w (.slice a (limbs (natL l)).length c) (limbs (natL l))∧Below w.heap.size w w'):=(Dr.qc0 a n c l w hL hd).mono fun _ _ h=>⟨h.1,h.2.1,h.2.2.b⟩
theorem qsl{w:World}{a:Option Addr}{n c:Nat}{l:List Nat}(hL:Ls w (.slice a n c) l)(hd:Dg l):Ls w (.slice a (limbs (natL l)).length c) (limbs (natL l)):=by
 obtain⟨_,_,hq,_,_⟩:=hL.open;cases hq
 obtain⟨k,hk,he⟩:=qe2 hd;rw[he,List.length_take,Nat.min_eq_left hk];exact hL.take hk
theorem qu8{neg:Bool}{n:Nat}:decide (sgn neg n<0)=(neg&&decide (0<n)):=by
 cases neg
 ·simp[sgn]
 ·simp[sgn]
def AU(w:World)(a:Option Addr):Prop:=∀p,a=some p→∃cs,Blk w p.block cs 62
theorem AU.none(w:World):AU w none:=fun p h=>by cases h
theorem AU.mono{w w':World}{a:Option Addr}(h:AU w a)(hb:Below w.heap.size w w'):AU w' a:=fun p hp=>by
 obtain⟨cs,hc⟩:=h p hp;exact⟨cs,hc.below hb⟩
theorem AU.set{w:World}{a:Option Addr}(h:AU w a)(b i:Nat)(u:Value):AU (w.setCell ⟨b,i,.none⟩ u) a:=fun p hp=>by
 obtain⟨cs,hc⟩:=h p hp
 by_cases hb:p.block=b
 ·subst hb
  exact⟨_,hc.set i u⟩
 ·exact⟨cs,hc.other hb u⟩
theorem AU.grown{w w':World}{B e sz n:Nat}{v:Value}{xs:List Value}{a:Option Addr}(h:AU w a)(hown:w.ownsRow B e sz v n xs)(he:e≠62)(hg:w.grownBy w' v.ownBlock):AU w' a:=fun p hp=>by
 obtain⟨cs,hc⟩:=h p hp;refine⟨cs,(hg.block p.block hc.lt ?_).trans hc⟩
 intro heq;rcases hown.2 with⟨rfl,_⟩|⟨g,cap,cur,rfl,-,hgb,-⟩
 ·cases heq
 ·simp only[Value.ownBlock,Option.some.injEq]at heq
  rw[←heq,hc]at hgb;cases hgb
  exact he rfl
theorem Ls.grown{w w':World}{B e sz n k c:Nat}{v:Value}{xs:List Value}{a:Option Addr}{l:List Nat}(h:Ls w (.slice a k c) l)(ha:AU w a)(hown:w.ownsRow B e sz v n xs)(he:e≠62)(hg:w.grownBy w' v.ownBlock):Ls w' (.slice a k c) l:=by
 obtain⟨a',c',hv,hc,hm,hh⟩:=h;refine⟨a',c',hv,hc,hm,?_⟩
 cases hv
 rcases hh with h0|⟨b,off,rfl,hlt,hcell⟩
 ·exact .inl h0
 ·refine .inr ⟨b,off,rfl,Nat.lt_of_lt_of_le hlt hg.size,fun i j hi hj=>?_⟩
  obtain⟨cs,hcs⟩:=ha _ rfl
  have hne:some b≠v.ownBlock:=by
   intro heq;rcases hown.2 with⟨rfl,_⟩|⟨g,cap,cur,rfl,-,hgb,-⟩
   ·cases heq
   ·simp only[Value.ownBlock,Option.some.injEq]at heq
    rw[←heq]at hgb;rw[show((⟨b,off,.none⟩:Addr).block)=b from rfl]at hcs;rw[hcs]at hgb;cases hgb
    exact he rfl
  rw[World.cell?_of_block (a:=⟨b,_,.none⟩) (hg.block b hlt hne)];exact hcell i j hi hj
namespace Dr
theorem qfq(neg:Bool)(a:Option Addr)(n c:Nat)(l:List Nat)(w:World)(hL:Ls w (.slice a n c) l)(hd:Dg l):
  Calls Tryz.prog 140 #[.bool neg,.slice a n c] w (RetP (fun v w'=>IntV w' v (sgn neg (natL l))∧∃x k,v=.agg #[.bool x,.slice a k c]) w):=by
 have hb0:=qac w (.cells #[.bool false,.slice none 0 0] 75);have hT:=qc0 a n c l _ (hL.mono hb0.b) hd;have hLw:Ls w (.slice a (limbs (natL l)).length c) (limbs (natL l)):=qsl hL hd;have HLw:=hI hLw;have H:=hI hT;have hB:Blk (w.alloc (.cells #[.bool false,.slice none 0 0] 75)) w.heap.size #[.bool false,.slice none 0 0] 75:=Blk.new _ _ _;have HB:=hI hB;have Hb0:=hI hb0;have hneg:=qu8 (neg:=neg) (n:=natL l);have hz:=qcc neg (natL l);have hlz:(limbs (natL l)).length=0↔natL l=0:=by rw[List.length_eq_zero_iff];exact qbs
 clear hL hd hb0 hB hT hLw;generalize hS:sgn neg (natL l)=S at*;generalize natL l=N at*;unfold RetP IntV;rw[hz,hneg];generalize hk:(limbs N).length=k at*;have Hk:=hI hk;clear hneg hz hk hS
 have hdec:decide (0<N)=decide (0<k):=by
  rw[decide_eq_decide];omega
 rw[hdec];clear hdec hlz
 go_enter Tryz.func140,Tryz.ntmps140
 rcases neg with _|_
 ·go_wp2_with (go_at_call 172;refine(H.out).mono ?_;rintro e w1 ⟨rfl,-,hb1⟩;have hb:=HB.out.below hb1.b;have c0:=hb.cell 0;have c1':=hb.cell 1;have f0:=hb.free 0;have f1:=hb.free 1;simp only[List.getElem?_toArray,List.getElem?_cons_succ,List.getElem?_cons_zero]at c0 c1')
  have h2:=(hb.set 0 (.bool false)).set 1 (.slice a k c);have r0:=h2.cell 0;have r1:=h2.cell 1;have hbel:Below w.heap.size w ((w1.setCell ⟨w.heap.size,0,none⟩ (.bool false)).setCell ⟨w.heap.size,1,none⟩ (.slice a k c)):=((Hb0.out.via hb1 Hb0.out.size).setCell (p:=⟨w.heap.size,0,none⟩) (Nat.le_refl _) _).setCell (p:=⟨w.heap.size,1,none⟩) (Nat.le_refl _) _;simp at r0 r1;exact bodyPost_ret (v:=.agg #[.bool false,.slice a k c]) (by simp[results,Tryz.results140,go_sem,r0,r1]) rfl ⟨_,rfl,⟨⟨a,c,by simp,HLw.out.mono hbel.b⟩,_,_,rfl⟩,hbel⟩
 ·by_cases hk0:0<k
  ·have hk1:(0:Int)<(k:Int):=by omega
   go_wp2_with (go_at_call 172;refine(H.out).mono ?_;rintro e w1 ⟨rfl,-,hb1⟩;have hb:=HB.out.below hb1.b;have c0:=hb.cell 0;have c1':=hb.cell 1;have f0:=hb.free 0;have f1:=hb.free 1;simp only[List.getElem?_toArray,List.getElem?_cons_succ,List.getElem?_cons_zero]at c0 c1')
   have h2:=(hb.set 0 (.bool true)).set 1 (.slice a k c);have r0:=h2.cell 0;have r1:=h2.cell 1;have hbel:Below w.heap.size w ((w1.setCell ⟨w.heap.size,0,none⟩ (.bool true)).setCell ⟨w.heap.size,1,none⟩ (.slice a k c)):=((Hb0.out.via hb1 Hb0.out.size).setCell (p:=⟨w.heap.size,0,none⟩) (Nat.le_refl _) _).setCell (p:=⟨w.heap.size,1,none⟩) (Nat.le_refl _) _;simp at r0 r1;exact bodyPost_ret (v:=.agg #[.bool true,.slice a k c]) (by simp[results,Tryz.results140,go_sem,r0,r1]) rfl ⟨_,rfl,⟨⟨a,c,by simp[hk0],HLw.out.mono hbel.b⟩,_,_,rfl⟩,hbel⟩
  ·have hk1:¬(0:Int)<(k:Int):=by omega
   go_wp2_with (go_at_call 172;refine(H.out).mono ?_;rintro e w1 ⟨rfl,-,hb1⟩;have hb:=HB.out.below hb1.b;have c0:=hb.cell 0;have c1':=hb.cell 1;have f0:=hb.free 0;have f1:=hb.free 1;simp only[List.getElem?_toArray,List.getElem?_cons_succ,List.getElem?_cons_zero]at c0 c1')
   have h2:=(hb.set 0 (.bool false)).set 1 (.slice a k c);have r0:=h2.cell 0;have r1:=h2.cell 1;have hbel:Below w.heap.size w ((w1.setCell ⟨w.heap.size,0,none⟩ (.bool false)).setCell ⟨w.heap.size,1,none⟩ (.slice a k c)):=((Hb0.out.via hb1 Hb0.out.size).setCell (p:=⟨w.heap.size,0,none⟩) (Nat.le_refl _) _).setCell (p:=⟨w.heap.size,1,none⟩) (Nat.le_refl _) _;simp at r0 r1;exact bodyPost_ret (v:=.agg #[.bool false,.slice a k c]) (by simp[results,Tryz.results140,go_sem,r0,r1]) rfl ⟨_,rfl,⟨⟨a,c,by simp[hk0],HLw.out.mono hbel.b⟩,_,_,rfl⟩,hbel⟩
end Dr
theorem qfq(neg:Bool)(a:Option Addr)(n c:Nat)(l:List Nat)(w:World)(hL:Ls w (.slice a n c) l)(hd:Dg l):
  Calls Tryz.prog 140 #[.bool neg,.slice a n c] w (RetP (fun v w'=>IntV w' v (sgn neg (natL l))∧∃x k,v=.agg #[.bool x,.slice a k c]) w):=(Dr.qfq neg a n c l w hL hd).mono fun _ _ h=>h.n
namespace Dr
theorem qbp(neg:Bool)(a:Option Addr)(n c:Nat)(l:List Nat)(w:World)(hL:Ls w (.slice a n c) l)(hd:Dg l):
  Calls Tryz.prog 140 #[.bool neg,.slice a n c] w (RetP (fun v w'=>IntV w' v (sgn neg (natL l))) w):=(qfq neg a n c l w hL hd).mono fun _ _ ⟨v,he,h,hb⟩=>⟨v,he,h.1,hb⟩
end Dr
theorem qbp(neg:Bool)(a:Option Addr)(n c:Nat)(l:List Nat)(w:World)(hL:Ls w (.slice a n c) l)(hd:Dg l):
  Calls Tryz.prog 140 #[.bool neg,.slice a n c] w (RetP (fun v w'=>IntV w' v (sgn neg (natL l))) w):=(Dr.qbp neg a n c l w hL hd).mono fun _ _ h=>h.n
end Go.Proofs.YtacihodamichhaaGreatDoor
namespace Go.Proofs.YtacihodamichhaaGreatDoor
open Go.RowKit
theorem Ls.two{w:World}{b lo hi:Nat}{T:TypeId}(h:Blk w b #[.int .u32 (lo:Int),.int .u32 (hi:Int)] T):Ls w (.slice (some ⟨b,0,none⟩) 2 2) [lo,hi]:=by
 refine⟨_,_,rfl,by simp[u32s],by unfold maxLen;omega,.inr ⟨b,0,rfl,h.lt,fun i j hi hj=>?_⟩⟩
 rw[h.cell];simp only[u32s,List.map_cons,List.map_nil,List.length_cons,List.length_nil]at hi;obtain rfl:j=0:=by omega
 rcases i with _|_|i<;>first|omega|rfl
def NoU(cs:Array Value):Prop:=∀x∈cs.toList,∀d:Int,x≠.int .u32 d
theorem Ls.put{w:World}{v:Value}{l:List Nat}(h:Ls w v l){R i:Nat}{cs:Array Value}{T:TypeId}(hB:Blk w R cs T)(hcs:NoU cs)(u:Value):Ls (w.setCell ⟨R,i,none⟩ u) v l:=by
 obtain⟨a,cap,rfl,hc,hm,hh⟩:=h;refine⟨a,cap,rfl,hc,hm,?_⟩
 rcases hh with h0|⟨b,off,rfl,hlt,hcell⟩
 ·exact .inl h0
 ·refine .inr ⟨b,off,rfl,by simpa[World.setCell]using hlt,fun i' j hi hj=>?_⟩
  have hx:=hcell i' j hi hj
  have hne:b≠R:=by
   rintro rfl;obtain rfl:j=0:=by omega
   rw[hB.cell]at hx;have hi2:i'<l.length:=by simpa[u32s]using hi
   have e:((u32s l).map c1).getD i' []=[.int .u32 ((l[i']:Nat):Int)]:=by
    rw[List.getD_eq_getElem?_getD,List.getElem?_map,u32s,List.getElem?_map,List.getElem?_eq_getElem hi2];rfl
   rw[e]at hx;have hmem:=Array.mem_of_getElem? hx;exact hcs _ (by simpa using hmem) _ rfl
  rw[World.cell?_of_block (w:=w) (a:=⟨b,_,none⟩) (Below.heap_setCell w ⟨R,i,none⟩ u b hne)];exact hx
theorem IntV.put{w:World}{v:Value}{z:Int}(h:IntV w v z){R i:Nat}{cs:Array Value}{T:TypeId}(hB:Blk w R cs T)(hcs:NoU cs)(u:Value):IntV (w.setCell ⟨R,i,none⟩ u) v z:=by
 obtain⟨a,c,hv,h⟩:=h;exact⟨a,c,hv,h.put hB hcs u⟩
theorem IntV.open{w:World}{v:Value}{z:Int}(h:IntV w v z):∃x a k c,v=.agg #[.bool x,.slice a k c]∧IntV w (.agg #[.bool x,.slice a k c]) z:=by
 obtain⟨a,c,rfl,hl⟩:=h;exact⟨_,_,_,_,rfl,_,_,rfl,hl⟩
theorem noU2{x:Bool}{a:Option Addr}{n c:Nat}:NoU #[.bool x,.slice a n c]:=by
 intro y hy d e;simp only[List.mem_cons,List.not_mem_nil,or_false]at hy;rcases hy with rfl|rfl<;>cases e
theorem IntV.put2{w:World}{z:Int}{R n c n' c':Nat}{x x':Bool}{a a':Option Addr}{T:TypeId}(h:IntV w (.agg #[.bool x,.slice a n c]) z)(hB:Blk w R #[.bool x',.slice a' n' c'] T):
  IntV ((w.setCell ⟨R,0,none⟩ (.bool x)).setCell ⟨R,1,none⟩ (.slice a n c)) (.agg #[.bool x,.slice a n c]) z∧Blk ((w.setCell ⟨R,0,none⟩ (.bool x)).setCell ⟨R,1,none⟩ (.slice a n c)) R #[.bool x,.slice a n c] T:=by
 have h1:=hB.set 0 (.bool x);have h2:=h1.set 1 (.slice a n c);simp at h1 h2;exact⟨(h.put hB noU2 _).put h1 noU2 _,h2⟩
namespace Dr
theorem qg5(n:Int)(w:World)(h1:-9223372036854775808≤n)(h2:n≤9223372036854775807):
  Calls Tryz.prog 108 #[.int .i64 n] w (RetP (fun v w'=>IntV w' v n) w):=by
 obtain⟨N,hN⟩:∃N,n.natAbs=N:=⟨_,rfl⟩
 have hNb:N≤9223372036854775808:=by omega
 have hS:sgn (decide (n<0)) N=n:=by rw[←hN];exact qj6 n
 have hnat:natL [N%4294967296,N/4294967296]=N:=by simp only[natL];omega
 have hDg:Dg [N%4294967296,N/4294967296]:=fun d hd=>by
  simp only[List.mem_cons,List.not_mem_nil,or_false]at hd;rcases hd with rfl|rfl<;>omega
 have hb0:=qaz w (.cells #[.bool false,.slice none 0 0] 75) (.cells #[.int .u32 ((N%4294967296:Nat):Int),.int .u32 ((N/4294967296:Nat):Int)] 62)
 have hLs:Ls ((w.alloc (.cells #[.bool false,.slice none 0 0] 75)).alloc (.cells #[.int .u32 ((N%4294967296:Nat):Int),.int .u32 ((N/4294967296:Nat):Int)] 62)) (.slice (some ⟨w.heap.size+1,0,none⟩) 2 2) [N%4294967296,N/4294967296]:=by
  have h:=Ls.two (Blk.new (w.alloc (.cells #[.bool false,.slice none 0 0] 75)) #[.int .u32 ((N%4294967296:Nat):Int),.int .u32 ((N/4294967296:Nat):Int)] 62)
  simpa using h
 have H:=hI (qbp (decide (n<0)) _ _ _ _ _ hLs hDg);rw[hnat,hS]at H;have e1:((N%4294967296:Nat):Int)=(N:Int)%4294967296:=by omega
 have e2:((N/4294967296:Nat):Int)=(N:Int)/4294967296:=by omega
 rw[e1,e2]at H hb0;have HB:=hI (fun(b:Bool)=>Blk.new w #[.bool false,.slice none 0 0] 75);have Hb0:=hI hb0;have hbB:=((Blk.new w #[.bool false,.slice none 0 0] 75).old (.cells #[.int .u32 ((N:Int)%4294967296),.int .u32 ((N:Int)/4294967296)] 62))
 have HbB:=hI hbB;clear hb0 hbB hLs hDg hnat e1 e2 HB
 by_cases hneg:n<0
 ·have hw:IntKind.u64.wrap n=n+18446744073709551616:=by unfold IntKind.wrap;simp[IntKind.bits,IntKind.signed];omega
  have hw2:IntKind.u64.wrap (-(n+18446744073709551616))=(N:Int):=by unfold IntKind.wrap;simp[IntKind.bits,IntKind.signed];omega
  have hd:decide (n<0)=true:=by simp;omega
  rw[hd]at H
  go_enter Tryz.func108,Tryz.ntmps108
  go_wp2_with (go_at_call 140;refine(H.out).mono ?_;rintro e w1 ⟨v,rfl,hv,hb1⟩;have hb:=HbB.out.below hb1.b;have c0:=hb.cell 0;have c1':=hb.cell 1;have f0:=hb.free 0;have f1:=hb.free 1;simp only[List.getElem?_toArray,List.getElem?_cons_succ,List.getElem?_cons_zero]at c0 c1';obtain⟨x,a,k,c,rfl,hl⟩:=hv.open)
  obtain⟨hv2,hb2⟩:=IntV.put2 hl hb;have hbel:=((Hb0.out.via hb1 Hb0.out.size).setCell (p:=⟨w.heap.size,0,none⟩) (Nat.le_refl _) (.bool x)).setCell (p:=⟨w.heap.size,1,none⟩) (Nat.le_refl _) (.slice a k c);have r0:=hb2.cell 0;have r1:=hb2.cell 1;simp only[List.getElem?_toArray,List.getElem?_cons_succ,List.getElem?_cons_zero]at r0 r1;exact bodyPost_ret (v:=.agg #[.bool x,.slice a k c]) (by simp[results,Tryz.results108,go_sem,r0,r1]) rfl ⟨_,rfl,hv2,hbel⟩
 ·obtain rfl:n=(N:Int):=by omega
  have hw:IntKind.u64.wrap (N:Int)=N:=IntWalk.u64_in _ (by omega);have hd:decide ((N:Int)<0)=false:=by simp
  rw[hd]at H
  go_enter Tryz.func108,Tryz.ntmps108
  go_wp2_with (go_at_call 140;refine(H.out).mono ?_;rintro e w1 ⟨v,rfl,hv,hb1⟩;have hb:=HbB.out.below hb1.b;have c0:=hb.cell 0;have c1':=hb.cell 1;have f0:=hb.free 0;have f1:=hb.free 1;simp only[List.getElem?_toArray,List.getElem?_cons_succ,List.getElem?_cons_zero]at c0 c1';obtain⟨x,a,k,c,rfl,hl⟩:=hv.open)
  obtain⟨hv2,hb2⟩:=IntV.put2 hl hb;have hbel:=((Hb0.out.via hb1 Hb0.out.size).setCell (p:=⟨w.heap.size,0,none⟩) (Nat.le_refl _) (.bool x)).setCell (p:=⟨w.heap.size,1,none⟩) (Nat.le_refl _) (.slice a k c);have r0:=hb2.cell 0;have r1:=hb2.cell 1;simp only[List.getElem?_toArray,List.getElem?_cons_succ,List.getElem?_cons_zero]at r0 r1;exact bodyPost_ret (v:=.agg #[.bool x,.slice a k c]) (by simp[results,Tryz.results108,go_sem,r0,r1]) rfl ⟨_,rfl,hv2,hbel⟩
end Dr
theorem qg5(n:Int)(w:World)(h1:-9223372036854775808≤n)(h2:n≤9223372036854775807):
  Calls Tryz.prog 108 #[.int .i64 n] w (RetP (fun v w'=>IntV w' v n) w):=(Dr.qg5 n w h1 h2).mono fun _ _ h=>h.n
end Go.Proofs.YtacihodamichhaaGreatDoor
