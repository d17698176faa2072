/- Parts of the proof. -/
import Derived.Test.YtacihodamichhaaGreatDoorL24
set_option maxHeartbeats 16000000
namespace Go.Proofs.YtacihodamichhaaGreatDoor
open Go.RowKit
theorem qrl(k:GC)(side:Int)(w:World):Calls Tryz.prog 127 #[k.agg,.int .i64 side] w (Ret (.int .i64 (qdo k.c side)) w):=by
 unfold GC.agg qdo;obtain⟨⟨b,s,d⟩,x,a,n,c,y,e,m,r⟩:=k;dsimp only
 by_cases hb:b=0
 ·rw[if_neg (by simpa using hb)]
  have e1:(b !=0)=false:=by simpa using hb
  by_cases hd:d=side
  ·rw[if_pos hd]
   have e2:(d==side)=true:=by simpa using hd
   clear hb hd
   go_enter Tryz.func127,Tryz.ntmps127
   go_wp2_with fail
   go_ret
   exact⟨rfl,qac w _⟩
  ·rw[if_neg hd]
   have e2:(d==side)=false:=by simpa using hd
   clear hb hd
   go_enter Tryz.func127,Tryz.ntmps127
   go_wp2_with fail
   go_ret
   exact⟨rfl,qac w _⟩
 ·rw[if_pos hb]
  have e1:(b !=0)=true:=by simpa using hb
  clear hb
  go_enter Tryz.func127,Tryz.ntmps127
  go_wp2_with fail
  go_ret
  exact⟨rfl,qac w _⟩
def GP.iv(p:GP):Iv:=⟨p.l.c.s,p.h.c.s,qdo p.l.c 1,qdo p.h.c (-1)⟩
set_option maxRecDepth 10000 in
theorem qgh(v:Value)(ps:List GP)(w:World)(h:qaw w v ps)(hn:ps.length≤1000):
  Calls Tryz.prog 76 #[v] w (RetP (fun v w'=>∃a c,v=.slice a ps.length c∧Ivs w' (.slice a ps.length c) (ps.map GP.iv)) w):=by
 obtain⟨a,c,rfl,hc1,hc2⟩:=h.open;unfold maxLen at hc2;have HX:=hI h;clear h;generalize hln:ps.length=n at*;have Hln:=hI hln;clear hln;have HN:=hI (fun W:World=>World.ownsRow_nil W w.heap.size 46 4)
 go_enter Tryz.func76,Tryz.ntmps76
 go_wp2_with fail
 go_loopw [9,3] (fun i out wr=>∃k:Nat,k≤n∧i=.int .i64 (k:Int)∧Below w.heap.size w wr∧wr.ownsRow w.heap.size 46 4 out k ((((ps.take k).map GP.iv).map Iv.row).flatten)) (fun i _ _=>n-(intOf i).toNat)
 case atStart=>exact⟨0,by omega,rfl,Below.refl _ _,HN.out _⟩
 case round=>
  obtain⟨k,hk,rfl,hbw,hown⟩:=hrel;rcases Nat.lt_or_ge k n with hlt|hge
  ·obtain⟨b,off,p,rfl,hx,-,cells⟩:=HX.out.at hbw hlt
   obtain⟨e0,e1,e2,e3,e4,e5,e6,e7,e8,e9,e10,e11,e12,e13⟩:=cells;have hkn:(k:Int)<(n:Int):=by omega
   have hik:IntKind.i64.wrap ((k:Int)+1)=(k:Int)+1:=IntWalk.i64_in _ (by omega);have Htk:=hI (show((((ps.take k).map GP.iv).map Iv.row).flatten)++Iv.row p.iv=((((ps.take (k+1)).map GP.iv).map Iv.row).flatten)by rw[geti hx];simp);have Hbw:=hI hbw;have Hown:=hI hown;have hPB:Blk ((wr.alloc (.cells #[.int .i64 p.l.c.b,.string p.l.c.s,.int .i64 p.l.c.d,.bool p.l.x,.slice p.l.a p.l.n p.l.cap,.bool p.l.y,.slice p.l.e p.l.m p.l.cap2,.int .i64 p.h.c.b,.string p.h.c.s,.int .i64 p.h.c.d,.bool p.h.x,.slice p.h.a p.h.n p.h.cap,.bool p.h.y,.slice p.h.e p.h.m p.h.cap2] 84)).alloc (.cells #[.string p.l.c.s,.string p.h.c.s,.int .i64 0,.int .i64 0] 46)) wr.heap.size #[.int .i64 p.l.c.b,.string p.l.c.s,.int .i64 p.l.c.d,.bool p.l.x,.slice p.l.a p.l.n p.l.cap,.bool p.l.y,.slice p.l.e p.l.m p.l.cap2,.int .i64 p.h.c.b,.string p.h.c.s,.int .i64 p.h.c.d,.bool p.h.x,.slice p.h.a p.h.n p.h.cap,.bool p.h.y,.slice p.h.e p.h.m p.h.cap2] 84:=(Blk.new wr _ _).old _
   have hXB:Blk ((wr.alloc (.cells #[.int .i64 p.l.c.b,.string p.l.c.s,.int .i64 p.l.c.d,.bool p.l.x,.slice p.l.a p.l.n p.l.cap,.bool p.l.y,.slice p.l.e p.l.m p.l.cap2,.int .i64 p.h.c.b,.string p.h.c.s,.int .i64 p.h.c.d,.bool p.h.x,.slice p.h.a p.h.n p.h.cap,.bool p.h.y,.slice p.h.e p.h.m p.h.cap2] 84)).alloc (.cells #[.string p.l.c.s,.string p.h.c.s,.int .i64 0,.int .i64 0] 46)) (wr.heap.size+1) #[.string p.l.c.s,.string p.h.c.s,.int .i64 0,.int .i64 0] 46:=by
    have h:=Blk.new (wr.alloc (.cells #[.int .i64 p.l.c.b,.string p.l.c.s,.int .i64 p.l.c.d,.bool p.l.x,.slice p.l.a p.l.n p.l.cap,.bool p.l.y,.slice p.l.e p.l.m p.l.cap2,.int .i64 p.h.c.b,.string p.h.c.s,.int .i64 p.h.c.d,.bool p.h.x,.slice p.h.a p.h.n p.h.cap,.bool p.h.y,.slice p.h.e p.h.m p.h.cap2] 84)) #[.string p.l.c.s,.string p.h.c.s,.int .i64 0,.int .i64 0] 46
    simpa using h
   have HPB:=hI hPB;have HXB:=hI hXB;have HK2:=hI (qa1 wr (.cells #[.int .i64 p.l.c.b,.string p.l.c.s,.int .i64 p.l.c.d,.bool p.l.x,.slice p.l.a p.l.n p.l.cap,.bool p.l.y,.slice p.l.e p.l.m p.l.cap2,.int .i64 p.h.c.b,.string p.h.c.s,.int .i64 p.h.c.d,.bool p.h.x,.slice p.h.a p.h.n p.h.cap,.bool p.h.y,.slice p.h.e p.h.m p.h.cap2] 84) (.cells #[.string p.l.c.s,.string p.h.c.s,.int .i64 0,.int .i64 0] 46));have HS:=hI (fun w' (hb:Below ((wr.alloc (.cells #[.int .i64 p.l.c.b,.string p.l.c.s,.int .i64 p.l.c.d,.bool p.l.x,.slice p.l.a p.l.n p.l.cap,.bool p.l.y,.slice p.l.e p.l.m p.l.cap2,.int .i64 p.h.c.b,.string p.h.c.s,.int .i64 p.h.c.d,.bool p.h.x,.slice p.h.a p.h.n p.h.cap,.bool p.h.y,.slice p.h.e p.h.m p.h.cap2] 84)).alloc (.cells #[.string p.l.c.s,.string p.h.c.s,.int .i64 0,.int .i64 0] 46)).heap.size ((wr.alloc (.cells #[.int .i64 p.l.c.b,.string p.l.c.s,.int .i64 p.l.c.d,.bool p.l.x,.slice p.l.a p.l.n p.l.cap,.bool p.l.y,.slice p.l.e p.l.m p.l.cap2,.int .i64 p.h.c.b,.string p.h.c.s,.int .i64 p.h.c.d,.bool p.h.x,.slice p.h.a p.h.n p.h.cap,.bool p.h.y,.slice p.h.e p.h.m p.h.cap2] 84)).alloc (.cells #[.string p.l.c.s,.string p.h.c.s,.int .i64 0,.int .i64 0] 46)) w')=>qaz hPB hb);have H1:=hI (fun w'=>qrl p.l 1 w');have H2:=hI (fun w'=>qrl p.h (-1) w');have Hiv:=hI (show p.iv=⟨p.l.c.s,p.h.c.s,qdo p.l.c 1,qdo p.h.c (-1)⟩from rfl);generalize qdo p.l.c 1=K1 at*;generalize qdo p.h.c (-1)=K2 at*;unfold GC.agg at H1 H2;clear hx hbw hown hPB hXB
   go_wp2_with fail
   refine qa5 (S:=(fun w'=>w'.cell? ⟨wr.heap.size,0,none⟩=some (.int .i64 p.l.c.b)∧w'.cell? ⟨wr.heap.size,1,none⟩=some (.string p.l.c.s)∧w'.cell? ⟨wr.heap.size,2,none⟩=some (.int .i64 p.l.c.d)∧w'.cell? ⟨wr.heap.size,3,none⟩=some (.bool p.l.x)∧w'.cell? ⟨wr.heap.size,4,none⟩=some (.slice p.l.a p.l.n p.l.cap)∧w'.cell? ⟨wr.heap.size,5,none⟩=some (.bool p.l.y)∧w'.cell? ⟨wr.heap.size,6,none⟩=some (.slice p.l.e p.l.m p.l.cap2)∧w'.cell? ⟨wr.heap.size,7,none⟩=some (.int .i64 p.h.c.b)∧w'.cell? ⟨wr.heap.size,8,none⟩=some (.string p.h.c.s)∧w'.cell? ⟨wr.heap.size,9,none⟩=some (.int .i64 p.h.c.d)∧w'.cell? ⟨wr.heap.size,10,none⟩=some (.bool p.h.x)∧w'.cell? ⟨wr.heap.size,11,none⟩=some (.slice p.h.a p.h.n p.h.cap)∧w'.cell? ⟨wr.heap.size,12,none⟩=some (.bool p.h.y)∧w'.cell? ⟨wr.heap.size,13,none⟩=some (.slice p.h.e p.h.m p.h.cap2))) 9 (by kernel_rfl) (by kernel_rfl) (by exact HS.out _ ((Below.refl _ _).dn 1)) (fun hHeld=>?_)
   simp only[List.take_succ_cons,List.take_zero,List.drop_succ_cons,List.drop_zero];refine wpAnyH_take (i:=0) (v:=?v1) rfl (by kernel_rfl) (by kernel_rfl) (by kernel_rfl) (fun _ _ _ h=>h) (Or.inl ⟨by rfl,?hy1⟩) (by assumption) ?rest1
   case hy1=>(intro w hSw;(try dsimp only at hSw);go_simp;try(with_reducible rfl))
   try simp only[Act.put,List.getElem_toArray,List.getElem_cons_zero,List.setIfInBounds_toArray,List.set_cons_zero,List.set_cons_succ]
   refine' tk 1 ?_;(try simp only[tkS]);refine' tk 3 ?_;(try simp only[tkS]);refine' tk 4 ?_;(try simp only[tkS]);refine tk1 2 (fun K hK=>?_)
   go_simp;go_at_call 127;refine(H1.out _).mono ?_
   rintro e5 w2 ⟨rfl,hb2⟩;have Hb2:=hI (qaa ((Below.refl _ _).dn 1) hb2);clear hb2;refine hK.out _ _ (by exact HS.out _ (Hb2.out)) (fun hHeld=>?_)
   clear hK K;(try simp only[tkS]);refine' tk 6 ?_;(try simp only[tkS]);refine tk1 5 (fun K hK=>?_)
   go_simp;go_at_call 127;refine(H2.out _).mono ?_
   rintro e5 w5 ⟨rfl,hb5⟩;have Hb5:=hI (qaa (Hb2.out) hb5);clear hb5;refine hK.out _ _ (by exact HS.out _ (Hb5.out)) (fun hHeld=>?_)
   clear hK K;(try simp only[tkS]);refine tk1 7 (fun K hK=>?_)
   have Hbk:=hI (Hb5.out);have hX8:=HXB.out.below Hbk.out;have HX9:=hX8.set 2 (.int .i64 K1);have HX10:=HX9.set 3 (.int .i64 K2);simp at HX9 HX10;have g0:=hX8.free 2;have g1:=hX8.free 3;have s2:=hX8.cell 2;have s3:=hX8.cell 3;have z2:=HX9.cell 3;have z3:=HX9.free 3;simp only[List.getElem?_toArray,List.getElem?_cons_succ,List.getElem?_cons_zero]at s2 s3 z2;have HX11:=hI HX10;have HS9:=hI (HS.out _ Hbk.out);have Hbk2:=hI ((Hbw.out.via (qaa HK2.out Hbk.out) Hbw.out.size));clear hX8 HX9 HX10;go_simp;refine hK.out _ _ (by exact⟨qbe HS9.out.1 (show wr.heap.size+1≠wr.heap.size by omega),qbe HS9.out.2.1 (show wr.heap.size+1≠wr.heap.size by omega),qbe HS9.out.2.2.1 (show wr.heap.size+1≠wr.heap.size by omega),qbe HS9.out.2.2.2.1 (show wr.heap.size+1≠wr.heap.size by omega),qbe HS9.out.2.2.2.2.1 (show wr.heap.size+1≠wr.heap.size by omega),qbe HS9.out.2.2.2.2.2.1 (show wr.heap.size+1≠wr.heap.size by omega),qbe HS9.out.2.2.2.2.2.2.1 (show wr.heap.size+1≠wr.heap.size by omega),qbe HS9.out.2.2.2.2.2.2.2.1 (show wr.heap.size+1≠wr.heap.size by omega),qbe HS9.out.2.2.2.2.2.2.2.2.1 (show wr.heap.size+1≠wr.heap.size by omega),qbe HS9.out.2.2.2.2.2.2.2.2.2.1 (show wr.heap.size+1≠wr.heap.size by omega),qbe HS9.out.2.2.2.2.2.2.2.2.2.2.1 (show wr.heap.size+1≠wr.heap.size by omega),qbe HS9.out.2.2.2.2.2.2.2.2.2.2.2.1 (show wr.heap.size+1≠wr.heap.size by omega),qbe HS9.out.2.2.2.2.2.2.2.2.2.2.2.2.1 (show wr.heap.size+1≠wr.heap.size by omega),qbe HS9.out.2.2.2.2.2.2.2.2.2.2.2.2.2 (show wr.heap.size+1≠wr.heap.size by omega)⟩) (fun hHeld=>?_)
   clear hK K;(try simp only[tkS]);refine' tk 8 ?_;(try simp only[tkS]);refine tkD ?_ _
   simp only[Exit.then];have Hb8:=hI ((Hbk2.out.setCell (p:=⟨wr.heap.size+1,2,none⟩) (Nat.le_trans Hbw.out.size (Nat.le_succ _)) (.int .i64 K1)).setCell (p:=⟨wr.heap.size+1,3,none⟩) (Nat.le_trans Hbw.out.size (Nat.le_succ _)) (.int .i64 K2));have Hb9:=hI (((HK2.out.via Hbk.out HK2.out.size).setCell (p:=⟨wr.heap.size+1,2,none⟩) (Nat.le_succ _) (.int .i64 K1)).setCell (p:=⟨wr.heap.size+1,3,none⟩) (Nat.le_succ _) (.int .i64 K2));have Hown4:=hI (qaf Hown.out Hb9.out);obtain⟨y0,y1,y2,y3⟩:=qcm HX11.out (Below.refl _ _);have hszz:((w5.setCell ⟨wr.heap.size+1,2,none⟩ (.int .i64 K1)).setCell ⟨wr.heap.size+1,3,none⟩ (.int .i64 K2)).heap.size=w5.heap.size:=by simp
   have Hblk:=hI (show(((w5.setCell ⟨wr.heap.size+1,2,none⟩ (.int .i64 K1)).setCell ⟨wr.heap.size+1,3,none⟩ (.int .i64 K2)).alloc (.cells (Iv.row (⟨p.l.c.s,p.h.c.s,K1,K2⟩:Iv)).toArray 46)).heap[w5.heap.size]?=some (.cells (Iv.row (⟨p.l.c.s,p.h.c.s,K1,K2⟩:Iv)).toArray 46 (0,0))by have h:=Blk.new ((w5.setCell ⟨wr.heap.size+1,2,none⟩ (.int .i64 K1)).setCell ⟨wr.heap.size+1,3,none⟩ (.int .i64 K2)) (Iv.row (⟨p.l.c.s,p.h.c.s,K1,K2⟩:Iv)).toArray 46;unfold Blk at h;rw[hszz]at h;exact h);have Hown4a:=hI (qaf Hown4.out (qac _ (.cells (Iv.row (⟨p.l.c.s,p.h.c.s,K1,K2⟩:Iv)).toArray 46)));clear hszz
   go_wp2_with (at_builtin;refine qkp EI (by decide) (Iv.row (⟨p.l.c.s,p.h.c.s,K1,K2⟩:Iv)) rfl _ _ rfl w.heap.size _ _ _ _ rfl rfl Hown4a.out Hblk.out rfl (one4 _) (by omega) (by decide) (Nat.le_trans Hb8.out.size (qac _ _).size) ?_;intro gg cap' w6 hown' hg' _ _;have Hbw3:=hI (qau Hb8.out Hown4.out hg' Hb8.out.size);have Hown5:=hI hown';clear hown' hg')
   go_roundw
   case rel=>exact⟨k+1,by omega,by go_num,Hbw3.out,by have:=Hown5.out;rw[←Hiv.out,Htk.out]at this;exact this⟩
   case measure=>simp[intOf]<;>omega
  ·obtain rfl:k=n:=by omega
   have hkn:¬(k:Int)<(k:Int):=by omega
   obtain⟨aa,cap,rfl,-,-⟩:=qan hown;have hprt:=qjz hown;rw[List.take_of_length_le (by rw[Hln.out];exact Nat.le_refl _)]at hprt;have Hprt:=hI hprt;have Hbw:=hI hbw;clear hown hprt hbw
   go_wp2_with fail
   go_ret
   exact⟨_,rfl,⟨aa,cap,rfl,Hprt.out⟩,Hbw.out⟩
end Go.Proofs.YtacihodamichhaaGreatDoor
namespace Go.Proofs.YtacihodamichhaaGreatDoor
open Go.RowKit
def qba:List Iv→Int
 |[]=>0
 |x::r=>if qbq x≠0 then qbq x else qba r
def qa6(xs:List Iv):Int:=if 256<xs.length then 6 else qba xs
theorem qdu:∀{xs:List Iv},qba xs=0→∀x∈xs,qbq x=0
 |[],_,x,h=>by cases h
 |y::r,he,x,h=>by
  unfold qba at he
  split at he
  ·rename_i h1;exact absurd he h1
  ·rename_i h1
   rcases List.mem_cons.1 h with rfl|h
   ·simpa using h1
   ·exact qdu he x h
def Cuts(w:World)(v:Value)(P:List CC):Prop:=Sl w 7 v (P.map CC.cells)∧∀k∈P,k.ok w
def quh(w:World)(b o:Nat)(k:CC):Prop:=w.cell? ⟨b,o,none⟩=some (.int .i64 k.c.b)∧w.cell? ⟨b,o+1,none⟩=some (.string k.c.s)∧w.cell? ⟨b,o+2,none⟩=some (.int .i64 k.c.d)∧w.cell? ⟨b,o+3,none⟩=some (.bool k.x)∧w.cell? ⟨b,o+4,none⟩=some (.slice k.a k.n k.cap)∧w.cell? ⟨b,o+5,none⟩=some (.bool false)∧w.cell? ⟨b,o+6,none⟩=some (.slice none 0 0)
theorem Cuts.at{w wr:World}{n cap:Nat}{a:Option Addr}{P:List CC}(h:Cuts w (.slice a n cap) P)(hb:Below w.heap.size w wr){k:Nat}(hk:k<n):
  ∃b off p,a=some ⟨b,off,none⟩∧P[k]?=some p∧p.ok wr∧quh wr b (off+k*7) p:=by
 obtain⟨b,off,ha,hlt,r,hr,hc⟩:=Sl.row h.1 hb hk;simp only[List.getElem?_map,Option.map_eq_some_iff]at hr;obtain⟨l,hl,rfl⟩:=hr;exact⟨b,off,l,ha,hl,(h.2 l (List.mem_of_getElem? hl)).mono hb,hc 0 (by decide),hc 1 (by decide),hc 2 (by decide),hc 3 (by decide),hc 4 (by decide),hc 5 (by decide),hc 6 (by decide)⟩
abbrev PC:=Cut × Cut
def lowest:Cut:=⟨-1,⟨#[]⟩,0⟩
def highest:Cut:=⟨1,⟨#[]⟩,0⟩
def qa8(l:List PC):List Cut:=[lowest,highest]++(l.map fun p=>[p.1,p.2]).flatten
def ivOf(p:PC):Iv:=⟨p.1.s,p.2.s,qdo p.1 1,qdo p.2 (-1)⟩
theorem qcn{α:Type}{R:α→α→Prop}:∀{l:List α},(∀(i j:Nat) (x y:α),i<j→l[i]?=some x→l[j]?=some y→R x y)→l.Pairwise R
 |[],_=>List.Pairwise.nil
 |a::l,h=>List.Pairwise.cons (fun y hy=>by
   obtain⟨j,hj⟩:=List.mem_iff_getElem?.1 hy
   exact h 0 (j+1) a y (by omega) rfl (by simpa using hj)) (qcn fun i j x y hij hx hy=>h (i+1) (j+1) x y (by omega) (by simpa using hx) (by simpa using hy))
theorem bwD(w:World):Below w.heap.size w (w.drewN 1):=(Below.refl _ _).dn 1
end Go.Proofs.YtacihodamichhaaGreatDoor
