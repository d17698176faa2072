/- Parts of the proof. -/
import Derived.Test.YtacihodamichhaaGreatDoorC32
namespace Go.Proofs.YtacihodamichhaaGreatDoor
open Go.RowKit
set_option maxHeartbeats 8000000
def lowR:Cut:=⟨-1,⟨#[]⟩,0⟩
def qaz:Cut:=⟨1,⟨#[]⟩,0⟩
theorem qfj:RokC lowR:=.inr ⟨.inr rfl,rfl,rfl⟩
theorem qel:RokC qaz:=.inr ⟨.inl rfl,rfl,rfl⟩
theorem qdw{α:Type}(en_:α):∀(X:List (α × α)) (a:α),(qbd a en_ X).length=X.length+1
 |[],_=>rfl
 |p::X,_=>by show(qbd p.2 en_ X).length+1=_;rw[qdw en_ X];rfl
theorem qpt{w w':World}{b:Nat}{cs:Array Value}{T:TypeId}{v:Value}(h:Blk w b cs T)(hg:w.grownBy w' v.ownBlock)(hb:∀q,v.ownBlock=some q→b<q):Blk w' b cs T:=by
 have hlt:=h.lt;unfold Blk at*;rw[hg.block b hlt (fun e=>Nat.lt_irrefl _ (hb b e.symm))];exact h
set_option maxRecDepth 10000 in
theorem qgk(v:Value)(rs:List RP)(w:World)(h:Rgs w v rs)(hok:∀r∈rs,OkR r)(hn:rs.length≤900):
  Calls Tryz.prog 102 #[v] w (RetP (fun r w'=>w'.ownsRow w.heap.size 119 6 r (qaq (qbd lowR qaz rs)).length (qbo (qaq (qbd lowR qaz rs)))) w):=by
 obtain⟨a,c,rfl,hc1,hc2⟩:=h.open;unfold maxLen at hc2;have HX:=hI h;have Hok:=hI hok;clear h hok;generalize hln:rs.length=n at*;have Hln:=hI hln;clear hln;have HN:=hI (fun W:World=>World.ownsRow_nil W (w.heap.size+1) 119 6);have HA:=hI (Blk.new w #[.int .i64 (-1),.string ⟨#[]⟩,.int .i64 0] 116);have HB1:=hI (qac w (.cells #[.int .i64 (-1),.string ⟨#[]⟩,.int .i64 0] 116));have Hsz:(w.alloc (.cells #[.int .i64 (-1),.string ⟨#[]⟩,.int .i64 0] 116)).heap.size=w.heap.size+1:=by simp
 have HJ:=hI (fun v' ls w' (h':Rgs w' v' ls) ho hl=>qeq v' ls w' h' ho hl);clear Hsz
 go_enter Tryz.func102,Tryz.ntmps102
 go_wp2_with fail
 go_loopw [5,3] (fun i out wr=>∃(k:Nat) (at_:Cut) (G:List RP),k≤n∧i=.int .i64 (k:Int)∧Below w.heap.size w wr∧Blk wr w.heap.size #[.int .i64 at_.b,.string at_.s,.int .i64 at_.d] 116∧wr.ownsRow (w.heap.size+1) 119 6 out k (qbo G)∧Hid (G.length=k∧qbd lowR qaz rs=G++qbd at_ qaz (rs.drop k)∧RokC at_∧∀r∈G,OkR r)) (fun i _ _=>n-(intOf i).toNat)
 case atStart=>exact⟨0,lowR,[],by omega,rfl,HB1.out,HA.out,HN.out _,rfl,rfl,qfj,fun r hr=>by cases hr⟩
 case round=>
  obtain⟨k,at_,G,hk,rfl,hbw,hat,hown,hpre⟩:=hrel;have Hbw:=hI hbw;have Hat:=hI hat;have Hown:=hI hown;have Hlt:=hI (show w.heap.size+1≤wr.heap.size from hat.lt);rcases Nat.lt_or_ge k n with hlt|hge
  ·obtain⟨b,off,x,rfl,hx,d0,d1,d2,d3,d4,d5⟩:=HX.out.at (Below.refl _ _) hlt
   have hbl:=World.block_lt_of_cell? _ _ d0;have hkn:(k:Int)<(n:Int):=by omega
   have hk0:(0:Int)≤(k:Int):=Int.natCast_nonneg _;have hkw:IntKind.i64.wrap ((k:Int)+1)=(k:Int)+1:=IntWalk.i64_in _ (by omega);have Hc1:=hI (fun w' (hb:Below w.heap.size w w')=>And.intro ((hb.cell (p:=⟨b,off+k*6+3,none⟩) hbl).trans d3) (And.intro ((hb.cell (p:=⟨b,off+k*6+4,none⟩) hbl).trans d4) ((hb.cell (p:=⟨b,off+k*6+5,none⟩) hbl).trans d5)));have Hc0:=hI (fun w' (hb:Below w.heap.size w w')=>And.intro ((hb.cell (p:=⟨b,off+k*6,none⟩) hbl).trans d0) (And.intro ((hb.cell (p:=⟨b,off+k*6+1,none⟩) hbl).trans d1) ((hb.cell (p:=⟨b,off+k*6+2,none⟩) hbl).trans d2)));have hat3:=(qrv hat).1;have HSx:=hI (fun w' (hb:Below wr.heap.size wr w')=>show w'.cell? ⟨w.heap.size,0,none⟩=some (.int .i64 at_.b)∧w'.cell? ⟨w.heap.size,1,none⟩=some (.string at_.s)∧w'.cell? ⟨w.heap.size,2,none⟩=some (.int .i64 at_.d)∧w'.cell? ⟨b,off+k*6,none⟩=some (.int .i64 x.1.b)∧w'.cell? ⟨b,off+k*6+1,none⟩=some (.string x.1.s)∧w'.cell? ⟨b,off+k*6+2,none⟩=some (.int .i64 x.1.d)from⟨qaa hb hat3.1,qaa hb hat3.2.1,qaa hb hat3.2.2,((hbw.via hb hbw.size).cell (p:=⟨b,off+k*6,none⟩) hbl).trans d0,((hbw.via hb hbw.size).cell (p:=⟨b,off+k*6+1,none⟩) hbl).trans d1,((hbw.via hb hbw.size).cell (p:=⟨b,off+k*6+2,none⟩) hbl).trans d2⟩)
   have Hnx:=hI (show qbd lowR qaz rs=(G++[(at_,x.1)])++qbd x.2 qaz (rs.drop (k+1))by
    obtain⟨h1,h2⟩:=List.getElem?_eq_some_iff.1 hx
    rw[hpre.out.2.1,List.drop_eq_getElem_cons h1,h2,List.append_assoc];rfl)
   have Hxok:=hI (Hok.out x (List.mem_of_getElem? hx));have Hrow:=hI (show qbo (G++[(at_,x.1)])=qbo G++rrow (at_,x.1)from qbs _ _);clear hx hbw hat hown d0 d1 d2 d3 d4 d5 hat3 hbl;go_upto_region 6 with fail
   refine wpRg HSx.out (bwD wr) (by kernel_rfl) (fun hHeld=>?_)
   refine' tk 0 ?_;(try simp only[tkS]);refine' tk 1 ?_;(try simp only[tkS]);refine' tk 2 ?_;(try simp only[tkS]);refine' tk 3 ?_;(try simp only[tkS]);refine' tk 4 ?_;(try simp only[tkS]);refine' tk 5 ?_;(try simp only[tkS]);refine' tk 6 ?_;(try simp only[tkS]);refine' tk 7 ?_;(try simp only[tkS]);refine tk1 8 (fun K hK=>?_)
   go_simp;refine hK.out _ _ (by exact HSx.out _ (bwA (bwD wr) (.cells #[.int .i64 at_.b,.string at_.s,.int .i64 at_.d,.int .i64 x.1.b,.string x.1.s,.int .i64 x.1.d] 119))) (fun hHeld=>?_)
   clear hK K;(try simp only[tkS]);refine tk1 9 (fun K hK=>?_)
   refine qnc ER (by decide) (rrow (at_,x.1)) (by rfl) _ _ (by rfl) (w.heap.size+1) k _ _ _ (by rfl) (by rfl) (by exact World.ownsRow.alloc (qae Hown.out (bwD wr)) _) (by exact heap_alloc_new _ _) (by rfl) (one6 (at_,x.1)) (by omega) (by decide) (by exact Nat.le_trans Hlt.out (Below.size (bwA (bwD wr) (.cells #[.int .i64 at_.b,.string at_.s,.int .i64 at_.d,.int .i64 x.1.b,.string x.1.s,.int .i64 x.1.d] 119)))) ?_
   intro g5 cap5 w5 hown' hg' _ _;have Hb5:=hI (Below.grown (Hbw.out.via (bwA (bwD wr) (.cells #[.int .i64 at_.b,.string at_.s,.int .i64 at_.d,.int .i64 x.1.b,.string x.1.s,.int .i64 x.1.d] 119)) Hbw.out.size) hg' (Hbw.out.via (bwA (bwD wr) (.cells #[.int .i64 at_.b,.string at_.s,.int .i64 at_.d,.int .i64 x.1.b,.string x.1.s,.int .i64 x.1.d] 119)) Hbw.out.size).size (fun q hq=>Nat.le_of_succ_le (Hown.out.lt q hq).1));have Hat5:=hI (qpt (Blk.below Hat.out (bwA (bwD wr) (.cells #[.int .i64 at_.b,.string at_.s,.int .i64 at_.d,.int .i64 x.1.b,.string x.1.s,.int .i64 x.1.d] 119))) hg' (fun q hq=>(Hown.out.lt q hq).1));rw[←Hrow.out]at hown';have Hown5:=hI hown';clear hown' hg';refine hK.out _ _ (by exact(by obtain⟨y0,y1,y2⟩:=(qrv Hat5.out).1;exact⟨y0,y1,y2,(Hc0.out _ Hb5.out).1,(Hc0.out _ Hb5.out).2.1,(Hc0.out _ Hb5.out).2.2⟩)) (fun hHeld=>?_)
   clear hK K;(try simp only[tkS]);refine' tk 10 ?_;(try simp only[tkS]);refine tkD ?_ _
   obtain⟨f3,f4,f5⟩:=Hc1.out _ Hb5.out;obtain⟨⟨y0,y1,y2⟩,z0,z1,z2⟩:=qrv Hat5.out
   go_wp2_with fail
   go_roundw
   case rel=>exact⟨k+1,x.2,G++[(at_,x.1)],by omega,by go_num,qm2 _ _ _ Hb5.out (Nat.le_refl _),Blk.put3 _ _ _ Hat5.out,ownsRow_setCell_below (ownsRow_setCell_below (ownsRow_setCell_below Hown5.out (Nat.lt_succ_self _) _) (Nat.lt_succ_self _) _) (Nat.lt_succ_self _) _,by rw[List.length_append,hpre.out.1];rfl,Hnx.out,Hxok.out.2,fun r hr=>by
    rcases List.mem_append.1 hr with h|h
    ·exact hpre.out.2.2.2 r h
    ·cases List.mem_singleton.1 h
     exact⟨hpre.out.2.2.1,Hxok.out.1⟩⟩
   case measure=>simp[intOf]<;>omega
  ·obtain rfl:k=n:=by omega
   have hkn:¬(k:Int)<(k:Int):=by omega
   have Hfin:=hI (show qbd lowR qaz rs=G++[(at_,qaz)]by rw[hpre.out.2.1,List.drop_of_length_le (by rw[Hln.out];exact Nat.le_refl _)];rfl)
   have Hok2:=hI (show ∀r∈G++[(at_,qaz)],OkR r from fun r hr=>by
    rcases List.mem_append.1 hr with h|h
    ·exact hpre.out.2.2.2 r h
    ·cases List.mem_singleton.1 h
     exact⟨hpre.out.2.2.1,qel⟩)
   have Hl2:=hI (show(G++[(at_,qaz)]).length≤1000 by rw[List.length_append,hpre.out.1];show k+1≤1000;omega);have Hrow:=hI (show qbo (G++[(at_,qaz)])=qbo G++rrow (at_,qaz)from qbs _ _);have Hown1:=hI (qce hown (Nat.le_succ w.heap.size));obtain⟨z0,z1,z2⟩:=(qrv hat).1;clear hbw hat hown
   go_wp2_with (first
    |(at_builtin;refine qct ER (by decide) (rrow (at_,qaz)) rfl _ _ rfl w.heap.size _ _ _ rfl rfl Hown1.out rfl (one6 (at_,qaz)) (by omega) (by decide) Hbw.out.size ?_;intro v' w5 hown' hg';have Hb5:=hI (qap Hbw.out Hown1.out hg' Hbw.out.size);rw[←Hrow.out]at hown';have Hown5:=hI hown';clear hown' hg')
    |(go_at_call 79;refine(HJ.out _ _ _ (qa8 Hown5.out) Hok2.out Hl2.out).mono ?_;rintro e w6 ⟨v6,rfl,hown6,hb6⟩;have Hown6:=hI hown6;have Hb6:=hI hb6;clear hown6 hb6))
   go_ret
   exact⟨_,rfl,by rw[Hfin.out];exact qce Hown6.out Hb5.out.size,Hb5.out.via Hb6.out Hb5.out.size⟩
end Go.Proofs.YtacihodamichhaaGreatDoor
