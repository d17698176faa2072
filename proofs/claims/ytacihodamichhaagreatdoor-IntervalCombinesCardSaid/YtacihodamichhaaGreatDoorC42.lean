/- Parts of the proof. -/
import Derived.Test.YtacihodamichhaaGreatDoorC33
namespace Go.Proofs.YtacihodamichhaaGreatDoor
open Go.RowKit
set_option maxHeartbeats 16000000
theorem qs7{w:World}{B g c:Nat}{k:CC}(h:w.ownsRow B 79 7 (.slice (some ⟨g,0,none⟩) 1 c) 1 (([k].map CC.cells).flatten)):w.cell? ⟨g,1,none⟩=some (.string k.c.s):=by
 have:=h.cells (g:=g) rfl 1 _ rfl
 simpa[Addr.add]using this
set_option maxRecDepth 10000 in
theorem qmy(u:Value)(w:World)(h:Ivs w u xsC):
  Calls Tryz.prog 55 #[u] w (RetP (fun v w'=>∃(a:Option Addr) (c:Nat),v=.tuple #[.slice a 2 c,.int .i64 0]∧∃(x y:CC),Cuts w' (.slice a 2 c) [x,y]∧x.c.s=⟨#[48]⟩∧y.c.s=⟨#[49]⟩) w):=by
 have hok:∀x∈xsC,x.ok:=fun x hx=>by
  rcases List.mem_cons.1 hx with rfl|hx
  ·exact⟨.inl ⟨rfl,rfl⟩,.inr ⟨.inr rfl,wt_0⟩⟩
  ·cases List.mem_singleton.1 hx
   exact⟨.inr ⟨.inl rfl,wt_1⟩,.inl ⟨rfl,rfl⟩⟩
 have hset:qrx (xsC.map Iv.cuts):=by
  refine⟨fun i p hp=>?_,fun i p q hp hq=>?_⟩
  ·rcases i with _|_|i
   ·cases hp;decide
   ·cases hp;decide
   ·simp[xsC]at hp
  ·rcases i with _|i
   ·cases hp;cases hq;decide
   ·simp[xsC]at hq
 have HP:=hI (fun w' (hb:Below w.heap.size w w')=>qgo u _ w' (h.mono hb) hok hset (by decide));obtain⟨a,c,rfl,hc1,hc2⟩:=h.open;clear h hok hset hc1 hc2;rw[show xsC.length=2 from rfl]at HP⊢
 go_enter Tryz.func55,Tryz.ntmps55
 go_wp2_with (go_at_call 56;refine(HP.out _ (Below.refl _ _)).mono ?_;rintro e w1 ⟨r1,rfl,⟨ap,cp,ps,rfl,hps,hcs⟩,hb1⟩;have hl1:ps.length=2:=(by have:=congrArg List.length hcs;simpa[xsC]using this);rw[hl1]at hps;rw[hl1];have Hps:=hI hps;have Hcs:=hI hcs;have Hl1:=hI hl1;have Hb1:=hI hb1;clear hps hcs hl1 hb1)
 obtain⟨p,q,rfl⟩:∃p q,ps=[p,q]:=by
  have hl:=Hl1.out
  match ps,hl with
  |[p,q],_=>exact⟨p,q,rfl⟩
 have hcs:=Hcs.out;obtain⟨⟨c1,x1,a1,n1,k1⟩,⟨c2,x2,a2,n2,k2⟩⟩:=p;obtain⟨⟨c3,x3,a3,n3,k3⟩,⟨c4,x4,a4,n4,k4⟩⟩:=q;simp only[List.map_cons,List.map_nil,xsC,PP.cuts,Iv.cuts,List.cons.injEq,Prod.mk.injEq,and_true]at hcs;obtain⟨⟨e1,e2⟩,e3,e4⟩:=hcs;obtain rfl:c1=⟨-1,⟨#[]⟩,0⟩:=e1;obtain rfl:c2=⟨0,⟨#[48]⟩,1⟩:=e2;obtain rfl:c3=⟨0,⟨#[49]⟩,1⟩:=e3;obtain rfl:c4=⟨1,⟨#[]⟩,0⟩:=e4;clear Hcs Hl1 HP;have HN:=hI (World.ownsRow_nil w1 w1.heap.size 79 7)
 go_loopw [19,6] (fun i out wr=>∃(j n:Nat) (O:List CC),j≤2∧i=.int .i64 (j:Int)∧Below w1.heap.size w1 wr∧wr.ownsRow w1.heap.size 79 7 out n ((O.map CC.cells).flatten)∧Hid ((j=0∧n=0∧O=[])∨(j=1∧n=1∧O=[(⟨⟨0,⟨#[48]⟩,1⟩,x2,a2,n2,k2⟩:CC)])∨(j=2∧n=2∧O=[(⟨⟨0,⟨#[48]⟩,1⟩,x2,a2,n2,k2⟩:CC),(⟨⟨0,⟨#[49]⟩,1⟩,x3,a3,n3,k3⟩:CC)]))) (fun i _ _=>2-(intOf i).toNat)
 case atStart=>exact⟨0,0,[],by omega,rfl,Below.refl _ _,HN.out,.inl ⟨rfl,rfl,rfl⟩⟩
 case round=>
  obtain⟨j,n,O,hj,rfl,hbw,hown,hst⟩:=hrel;have Hbw:=hI hbw;have Hown:=hI hown;clear hbw hown;rcases hst.out with⟨hj0,rfl,rfl⟩|⟨hj0,rfl,rfl⟩|⟨hj0,rfl,rfl⟩
  ·obtain⟨b,off,p,hb,hp,hpok,hpc⟩:=Parts.at Hps.out Hbw.out (show j<2 by omega)
   cases hb
   rw[hj0]at hp;cases hp
   have Hj:=hI hj0;have hjn:(j:Int)<2:=by omega
   have hjw:IntKind.i64.wrap ((j:Int)+1)=(j:Int)+1:=IntWalk.i64_in _ (by omega);obtain⟨e0,e1,e2,e3,e4,e5,e6,e7,e8,e9,e10,e11,e12,e13⟩:=hpc;dsimp only at e0 e1 e2 e3 e4 e5 e6 e7 e8 e9 e10 e11 e12 e13;obtain⟨ao,co,rfl,hco,-⟩:=qam Hown.out;clear hpok hj0 hj hst;obtain⟨wq,hwq⟩:∃x,x=wr:=⟨_,rfl⟩
   subst hwq
   go_wp2_with fail
   have HB2:=hI (show Blk ((wq.alloc (.cells #[.int .i64 (-1),.string ⟨#[]⟩,.int .i64 0,.bool x1,.slice a1 n1 k1,.bool false,.slice none 0 0,.int .i64 0,.string ⟨#[48]⟩,.int .i64 1,.bool x2,.slice a2 n2 k2,.bool false,.slice none 0 0] 84)).alloc (.cells #[.int .i64 (-1),.string ⟨#[]⟩,.int .i64 0,.bool x1,.slice a1 n1 k1,.bool false,.slice none 0 0,.int .i64 0,.string ⟨#[48]⟩,.int .i64 1,.bool x2,.slice a2 n2 k2,.bool false,.slice none 0 0] 79)) (wq.heap.size+1) #[.int .i64 (-1),.string ⟨#[]⟩,.int .i64 0,.bool x1,.slice a1 n1 k1,.bool false,.slice none 0 0,.int .i64 0,.string ⟨#[48]⟩,.int .i64 1,.bool x2,.slice a2 n2 k2,.bool false,.slice none 0 0] 79 by
    have h:=Blk.new (wq.alloc (.cells #[.int .i64 (-1),.string ⟨#[]⟩,.int .i64 0,.bool x1,.slice a1 n1 k1,.bool false,.slice none 0 0,.int .i64 0,.string ⟨#[48]⟩,.int .i64 1,.bool x2,.slice a2 n2 k2,.bool false,.slice none 0 0] 84)) #[.int .i64 (-1),.string ⟨#[]⟩,.int .i64 0,.bool x1,.slice a1 n1 k1,.bool false,.slice none 0 0,.int .i64 0,.string ⟨#[48]⟩,.int .i64 1,.bool x2,.slice a2 n2 k2,.bool false,.slice none 0 0] 79
    simpa using h)
   have Hbwb:=hI (qad (qad Hbw.out (.cells #[.int .i64 (-1),.string ⟨#[]⟩,.int .i64 0,.bool x1,.slice a1 n1 k1,.bool false,.slice none 0 0,.int .i64 0,.string ⟨#[48]⟩,.int .i64 1,.bool x2,.slice a2 n2 k2,.bool false,.slice none 0 0] 84)) (.cells #[.int .i64 (-1),.string ⟨#[]⟩,.int .i64 0,.bool x1,.slice a1 n1 k1,.bool false,.slice none 0 0,.int .i64 0,.string ⟨#[48]⟩,.int .i64 1,.bool x2,.slice a2 n2 k2,.bool false,.slice none 0 0] 79));have Hownb:=hI (qae Hown.out (qa2 wq (.cells #[.int .i64 (-1),.string ⟨#[]⟩,.int .i64 0,.bool x1,.slice a1 n1 k1,.bool false,.slice none 0 0,.int .i64 0,.string ⟨#[48]⟩,.int .i64 1,.bool x2,.slice a2 n2 k2,.bool false,.slice none 0 0] 84) (.cells #[.int .i64 (-1),.string ⟨#[]⟩,.int .i64 0,.bool x1,.slice a1 n1 k1,.bool false,.slice none 0 0,.int .i64 0,.string ⟨#[48]⟩,.int .i64 1,.bool x2,.slice a2 n2 k2,.bool false,.slice none 0 0] 79)));have HNE:=hI (show(Value.slice ao 0 co).ownBlock≠some (wq.heap.size+1)from fun h=>absurd ((Hown.out.lt _ h).2) (by omega));clear e0 e1 e2 e3 e4 e5 e6 e7 e8 e9 e10 e11 e12 e13
   go_loopw [29,6] (fun ii out wz=>∃(i n:Nat) (O:List CC),i≤2∧ii=.int .i64 (i:Int)∧Below w1.heap.size w1 wz∧wz.ownsRow w1.heap.size 79 7 out n ((O.map CC.cells).flatten)∧Hid (Blk wz (wq.heap.size+1) #[.int .i64 (-1),.string ⟨#[]⟩,.int .i64 0,.bool x1,.slice a1 n1 k1,.bool false,.slice none 0 0,.int .i64 0,.string ⟨#[48]⟩,.int .i64 1,.bool x2,.slice a2 n2 k2,.bool false,.slice none 0 0] 79)∧Hid (wq.heap.size+1<wz.heap.size)∧Hid (out.ownBlock≠some (wq.heap.size+1))∧Hid ((i=0∧n=0∧O=[])∨(i=1∧n=0∧O=[])∨(i=2∧n=1∧O=[(⟨⟨0,⟨#[48]⟩,1⟩,x2,a2,n2,k2⟩:CC)]))) (fun i _ _=>2-(intOf i).toNat)
   case atStart=>exact⟨0,0,[],by omega,rfl,Hbwb.out,Hownb.out,HB2.out,HB2.out.lt,HNE.out,.inl ⟨rfl,rfl,rfl⟩⟩
   case round=>
    obtain⟨i,n,O,hi,rfl,hbw,hown,hblk,hlt2,hne,hsi⟩:=hrel;have Hbi:=hI hbw;have Howni:=hI hown;obtain⟨ai,ci,rfl,hci,-⟩:=qam hown;clear hbw hown;have hiw:IntKind.i64.wrap ((i:Int)+1)=(i:Int)+1:=IntWalk.i64_in _ (by omega);rcases hsi.out with⟨hi0,rfl,rfl⟩|⟨hi0,rfl,rfl⟩|⟨hi0,rfl,rfl⟩
    ·have hin:(i:Int)<2:=by omega
     have Hi:=hI hi0;have e0:wr.cell? ⟨wq.heap.size+1,i*7,none⟩=some (.int .i64 (-1)):=by rw[hblk.out.cell,hi0];rfl
     have e1:wr.cell? ⟨wq.heap.size+1,i*7+1,none⟩=some (.string ⟨#[]⟩):=by rw[hblk.out.cell,hi0];rfl
     have e2:wr.cell? ⟨wq.heap.size+1,i*7+2,none⟩=some (.int .i64 0):=by rw[hblk.out.cell,hi0];rfl
     have e3:wr.cell? ⟨wq.heap.size+1,i*7+3,none⟩=some (.bool x1):=by rw[hblk.out.cell,hi0];rfl
     have e4:wr.cell? ⟨wq.heap.size+1,i*7+4,none⟩=some (.slice a1 n1 k1):=by rw[hblk.out.cell,hi0];rfl
     have e5:wr.cell? ⟨wq.heap.size+1,i*7+5,none⟩=some (.bool false):=by rw[hblk.out.cell,hi0];rfl
     have e6:wr.cell? ⟨wq.heap.size+1,i*7+6,none⟩=some (.slice none 0 0):=by rw[hblk.out.cell,hi0];rfl
     clear hi0 hi hsi
     go_wp2_with fail
     have HSx:=hI (fun w' (hb:Below (wr.alloc (.cells #[.int .i64 (-1),.string ⟨#[]⟩,.int .i64 0,.bool x1,.slice a1 n1 k1,.bool false,.slice none 0 0] 79)).heap.size (wr.alloc (.cells #[.int .i64 (-1),.string ⟨#[]⟩,.int .i64 0,.bool x1,.slice a1 n1 k1,.bool false,.slice none 0 0] 79)) w')=>show w'.cell? ⟨wr.heap.size,0,none⟩=some (.int .i64 (-1))∧w'.cell? ⟨wr.heap.size,1,none⟩=some (.string ⟨#[]⟩)∧w'.cell? ⟨wr.heap.size,2,none⟩=some (.int .i64 0)∧w'.cell? ⟨wr.heap.size,3,none⟩=some (.bool x1)∧w'.cell? ⟨wr.heap.size,4,none⟩=some (.slice a1 n1 k1)∧w'.cell? ⟨wr.heap.size,5,none⟩=some (.bool false)∧w'.cell? ⟨wr.heap.size,6,none⟩=some (.slice none 0 0)from by
      have hc7:=qa5 (Blk.new wr #[.int .i64 (-1),.string ⟨#[]⟩,.int .i64 0,.bool x1,.slice a1 n1 k1,.bool false,.slice none 0 0] 79) hb
      exact hc7)
     refine wp_region_held_drew (S:=(fun w'=>w'.cell? ⟨wr.heap.size,0,none⟩=some (.int .i64 (-1))∧w'.cell? ⟨wr.heap.size,1,none⟩=some (.string ⟨#[]⟩)∧w'.cell? ⟨wr.heap.size,2,none⟩=some (.int .i64 0)∧w'.cell? ⟨wr.heap.size,3,none⟩=some (.bool x1)∧w'.cell? ⟨wr.heap.size,4,none⟩=some (.slice a1 n1 k1)∧w'.cell? ⟨wr.heap.size,5,none⟩=some (.bool false)∧w'.cell? ⟨wr.heap.size,6,none⟩=some (.slice none 0 0))) (by kernel_rfl) (by exact HSx.out _ (qf1 (wr.alloc (.cells #[.int .i64 (-1),.string ⟨#[]⟩,.int .i64 0,.bool x1,.slice a1 n1 k1,.bool false,.slice none 0 0] 79)))) (fun hHeld=>?_)
     refine wpAnyH_take (i:=0) (v:=?v1) rfl (by kernel_rfl) (by kernel_rfl) (by kernel_rfl) (fun _ _ _ h=>h) (Or.inl ⟨by rfl,?hy1⟩) (by assumption) ?rest1
     case hy1=>(intro w hSw;(try dsimp only at hSw);go_simp;try(with_reducible rfl))
     try simp only[Act.put,List.getElem_toArray,List.getElem_cons_zero,List.setIfInBounds_toArray,List.set_cons_zero,List.set_cons_succ]
     refine' tk 1 ?_;(try simp only[tkS]);refine' tk 2 ?_;(try simp only[tkS]);refine' tk 3 ?_;(try simp only[tkS]);refine' tk 4 ?_;(try simp only[tkS]);refine' tkU 5 ?_;(try simp only[tkS]);refine' tkU 6 ?_;(try simp only[tkS]);refine' tkU 7 ?_;(try simp only[tkS]);refine' tkU 8 ?_;(try simp only[tkS]);refine' tkU 9 ?_;(try simp only[tkS]);refine' tkU 10 ?_;(try simp only[tkS]);refine' tkU 11 ?_;(try simp only[tkS]);refine' tkU 12 ?_;(try simp only[tkS]);refine' tkU 13 ?_;(try simp only[tkS]);refine' tkU 14 ?_;(try simp only[tkS]);refine' tkU 15 ?_;(try simp only[tkS]);refine' tkU 16 ?_;(try simp only[tkS]);refine' tkU 17 ?_;(try simp only[tkS]);refine' tkU 18 ?_;(try simp only[tkS]);refine' tkU 19 ?_;(try simp only[tkS]);refine' tk 20 ?_;(try simp only[tkS]);refine tkD ?_ _
     go_wp2_with fail
     have hbd:=qab (qac wr (.cells #[.int .i64 (-1),.string ⟨#[]⟩,.int .i64 0,.bool x1,.slice a1 n1 k1,.bool false,.slice none 0 0] 79)) (qf1 (wr.alloc (.cells #[.int .i64 (-1),.string ⟨#[]⟩,.int .i64 0,.bool x1,.slice a1 n1 k1,.bool false,.slice none 0 0] 79)));go_roundw
     case rel=>exact⟨i+1,0,[],by have:=Hi.out;omega,by go_num,Hbi.out.via hbd Hbi.out.size,qae Howni.out hbd,hblk.out.below hbd,Nat.lt_of_lt_of_le hlt2.out hbd.size,hne.out,.inr (.inl ⟨by rw[Hi.out],rfl,rfl⟩)⟩
     case measure=>simp[intOf]<;>omega
    ·have hin:(i:Int)<2:=by omega
     have Hi:=hI hi0;have e0:wr.cell? ⟨wq.heap.size+1,i*7,none⟩=some (.int .i64 0):=by rw[hblk.out.cell,hi0];rfl
     have e1:wr.cell? ⟨wq.heap.size+1,i*7+1,none⟩=some (.string ⟨#[48]⟩):=by rw[hblk.out.cell,hi0];rfl
     have e2:wr.cell? ⟨wq.heap.size+1,i*7+2,none⟩=some (.int .i64 1):=by rw[hblk.out.cell,hi0];rfl
     have e3:wr.cell? ⟨wq.heap.size+1,i*7+3,none⟩=some (.bool x2):=by rw[hblk.out.cell,hi0];rfl
     have e4:wr.cell? ⟨wq.heap.size+1,i*7+4,none⟩=some (.slice a2 n2 k2):=by rw[hblk.out.cell,hi0];rfl
     have e5:wr.cell? ⟨wq.heap.size+1,i*7+5,none⟩=some (.bool false):=by rw[hblk.out.cell,hi0];rfl
     have e6:wr.cell? ⟨wq.heap.size+1,i*7+6,none⟩=some (.slice none 0 0):=by rw[hblk.out.cell,hi0];rfl
     clear hi0 hi hsi
     go_wp2_with fail
     have HSx:=hI (fun w' (hb:Below (wr.alloc (.cells #[.int .i64 0,.string ⟨#[48]⟩,.int .i64 1,.bool x2,.slice a2 n2 k2,.bool false,.slice none 0 0] 79)).heap.size (wr.alloc (.cells #[.int .i64 0,.string ⟨#[48]⟩,.int .i64 1,.bool x2,.slice a2 n2 k2,.bool false,.slice none 0 0] 79)) w')=>show w'.cell? ⟨wr.heap.size,0,none⟩=some (.int .i64 0)∧w'.cell? ⟨wr.heap.size,1,none⟩=some (.string ⟨#[48]⟩)∧w'.cell? ⟨wr.heap.size,2,none⟩=some (.int .i64 1)∧w'.cell? ⟨wr.heap.size,3,none⟩=some (.bool x2)∧w'.cell? ⟨wr.heap.size,4,none⟩=some (.slice a2 n2 k2)∧w'.cell? ⟨wr.heap.size,5,none⟩=some (.bool false)∧w'.cell? ⟨wr.heap.size,6,none⟩=some (.slice none 0 0)from by
      have hc7:=qa5 (Blk.new wr #[.int .i64 0,.string ⟨#[48]⟩,.int .i64 1,.bool x2,.slice a2 n2 k2,.bool false,.slice none 0 0] 79) hb
      exact hc7)
     refine wp_region_held_drew (S:=(fun w'=>w'.cell? ⟨wr.heap.size,0,none⟩=some (.int .i64 0)∧w'.cell? ⟨wr.heap.size,1,none⟩=some (.string ⟨#[48]⟩)∧w'.cell? ⟨wr.heap.size,2,none⟩=some (.int .i64 1)∧w'.cell? ⟨wr.heap.size,3,none⟩=some (.bool x2)∧w'.cell? ⟨wr.heap.size,4,none⟩=some (.slice a2 n2 k2)∧w'.cell? ⟨wr.heap.size,5,none⟩=some (.bool false)∧w'.cell? ⟨wr.heap.size,6,none⟩=some (.slice none 0 0))) (by kernel_rfl) (by exact HSx.out _ (qf1 (wr.alloc (.cells #[.int .i64 0,.string ⟨#[48]⟩,.int .i64 1,.bool x2,.slice a2 n2 k2,.bool false,.slice none 0 0] 79)))) (fun hHeld=>?_)
     refine wpAnyH_take (i:=0) (v:=?v22) rfl (by kernel_rfl) (by kernel_rfl) (by kernel_rfl) (fun _ _ _ h=>h) (Or.inl ⟨by rfl,?hy22⟩) (by assumption) ?rest22
     case hy22=>(intro w hSw;(try dsimp only at hSw);go_simp;try(with_reducible rfl))
     try simp only[Act.put,List.getElem_toArray,List.getElem_cons_zero,List.setIfInBounds_toArray,List.set_cons_zero,List.set_cons_succ]
     refine' tk 1 ?_;(try simp only[tkS]);refine' tk 2 ?_;(try simp only[tkS]);refine' tk 3 ?_;(try simp only[tkS]);refine' tk 4 ?_;(try simp only[tkS]);refine' tk 5 ?_;(try simp only[tkS]);refine' tk 6 ?_;(try simp only[tkS]);refine' tk 7 ?_;(try simp only[tkS]);refine' tkU 8 ?_;(try simp only[tkS]);refine' tkU 9 ?_;(try simp only[tkS]);refine' tkU 10 ?_;(try simp only[tkS]);refine' tkU 11 ?_;(try simp only[tkS]);refine' tkU 12 ?_;(try simp only[tkS]);refine' tkU 13 ?_;(try simp only[tkS]);refine' tkU 14 ?_;(try simp only[tkS]);refine' tkU 15 ?_;(try simp only[tkS]);refine' tkU 16 ?_;(try simp only[tkS]);refine' tkU 17 ?_;(try simp only[tkS]);refine' tkU 18 ?_;(try simp only[tkS]);refine' tk 19 ?_;(try simp only[tkS]);refine' tk 20 ?_;(try simp only[tkS]);refine tkD ?_ _
     have hb1:=(qab (qac wr (.cells #[.int .i64 0,.string ⟨#[48]⟩,.int .i64 1,.bool x2,.slice a2 n2 k2,.bool false,.slice none 0 0] 79)) (qf1 (wr.alloc (.cells #[.int .i64 0,.string ⟨#[48]⟩,.int .i64 1,.bool x2,.slice a2 n2 k2,.bool false,.slice none 0 0] 79)))).alloc (qab (qac wr (.cells #[.int .i64 0,.string ⟨#[48]⟩,.int .i64 1,.bool x2,.slice a2 n2 k2,.bool false,.slice none 0 0] 79)) (qf1 (wr.alloc (.cells #[.int .i64 0,.string ⟨#[48]⟩,.int .i64 1,.bool x2,.slice a2 n2 k2,.bool false,.slice none 0 0] 79)))).size (.cells #[.int .i64 0,.string ⟨#[48]⟩,.int .i64 1,.bool x2,.slice a2 n2 k2,.bool false,.slice none 0 0] 79);obtain⟨u0,u1,u2,u3,u4,u5,u6⟩:=qa5 (Blk.new wr #[.int .i64 0,.string ⟨#[48]⟩,.int .i64 1,.bool x2,.slice a2 n2 k2,.bool false,.slice none 0 0] 79) (qf1 (wr.alloc (.cells #[.int .i64 0,.string ⟨#[48]⟩,.int .i64 1,.bool x2,.slice a2 n2 k2,.bool false,.slice none 0 0] 79)));have Hblk:=hI (show Blk (((wr.alloc (.cells #[.int .i64 0,.string ⟨#[48]⟩,.int .i64 1,.bool x2,.slice a2 n2 k2,.bool false,.slice none 0 0] 79)).drewN 1).alloc (.cells #[.int .i64 0,.string ⟨#[48]⟩,.int .i64 1,.bool x2,.slice a2 n2 k2,.bool false,.slice none 0 0] 79)) (wr.heap.size+1) #[.int .i64 0,.string ⟨#[48]⟩,.int .i64 1,.bool x2,.slice a2 n2 k2,.bool false,.slice none 0 0] 79 from by have h:=Blk.new ((wr.alloc (.cells #[.int .i64 0,.string ⟨#[48]⟩,.int .i64 1,.bool x2,.slice a2 n2 k2,.bool false,.slice none 0 0] 79)).drewN 1) #[.int .i64 0,.string ⟨#[48]⟩,.int .i64 1,.bool x2,.slice a2 n2 k2,.bool false,.slice none 0 0] 79;simpa using h);have Hb1:=hI hb1;have Hb4:=hI (Hbi.out.via hb1 Hbi.out.size);have Hown4:=hI (qae Howni.out hb1);clear hb1
     go_wp2_with (at_builtin;refine qk0 EC (by decide) (CC.cells (⟨⟨0,⟨#[48]⟩,1⟩,x2,a2,n2,k2⟩:CC)) rfl _ _ rfl w1.heap.size _ _ _ _ rfl rfl Hown4.out Hblk.out rfl (one7 (⟨⟨0,⟨#[48]⟩,1⟩,x2,a2,n2,k2⟩:CC)) (by omega) (by decide) Hb4.out.size ?_;intro g5 cap5 w5 hown' hg' hor hgl;have Hb5:=hI (Below.grown Hb4.out hg' Hb4.out.size (fun q hq=>(Hown4.out.lt q hq).1));have Hown5:=hI hown';have Hbl5:=hI ((hblk.out.below Hb1.out).grown hg' hne.out);have Hlt5:=hI (Nat.lt_of_lt_of_le hlt2.out (Nat.le_trans Hb1.out.size hg'.size));have Hor:=hI hor;clear hown' hg' hor hgl)
     have hne5:∀m:Nat,(Value.slice (some ⟨g5,0,none⟩) m cap5).ownBlock≠some (wq.heap.size+1):=fun m h=>by
      have hg5:g5=wq.heap.size+1:=Option.some.inj h;rcases Hor.out with ho|ho
      ·exact hne.out (ho.trans (congrArg some hg5))
      ·have h3:wq.heap.size+1<g5:=Nat.lt_of_lt_of_le hlt2.out (Nat.le_trans Hb1.out.size (Nat.le_of_eq ho.symm))
       omega
     go_roundw
     case rel=>exact⟨i+1,_,_++[(⟨⟨0,⟨#[48]⟩,1⟩,x2,a2,n2,k2⟩:CC)],by have:=Hi.out;omega,by go_num,Hb5.out,by have:=Hown5.out;rw[qbr]at this;exact this,Hbl5.out,Hlt5.out,hne5 _,.inr (.inr ⟨by rw[Hi.out],rfl,rfl⟩)⟩
     case measure=>simp[intOf]<;>omega
    ·have hin:¬(i:Int)<2:=by omega
     clear hi0 hi hsi
     go_wp2_with fail
     go_roundw
     case rel=>exact⟨j+1,1,[(⟨⟨0,⟨#[48]⟩,1⟩,x2,a2,n2,k2⟩:CC)],by have:=Hj.out;omega,by go_num,Hbi.out,Howni.out,.inr (.inl ⟨by rw[Hj.out],rfl,rfl⟩)⟩
     case measure=>simp[intOf]<;>omega
  ·obtain⟨b,off,p,hb,hp,hpok,hpc⟩:=Parts.at Hps.out Hbw.out (show j<2 by omega)
   cases hb
   rw[hj0]at hp;cases hp
   have Hj:=hI hj0;have hjn:(j:Int)<2:=by omega
   have hjw:IntKind.i64.wrap ((j:Int)+1)=(j:Int)+1:=IntWalk.i64_in _ (by omega);obtain⟨e0,e1,e2,e3,e4,e5,e6,e7,e8,e9,e10,e11,e12,e13⟩:=hpc;dsimp only at e0 e1 e2 e3 e4 e5 e6 e7 e8 e9 e10 e11 e12 e13;obtain⟨ao,co,rfl,hco,-⟩:=qam Hown.out;clear hpok hj0 hj hst;obtain⟨wq,hwq⟩:∃x,x=wr:=⟨_,rfl⟩
   subst hwq
   go_wp2_with fail
   have HB2:=hI (show Blk ((wq.alloc (.cells #[.int .i64 0,.string ⟨#[49]⟩,.int .i64 1,.bool x3,.slice a3 n3 k3,.bool false,.slice none 0 0,.int .i64 1,.string ⟨#[]⟩,.int .i64 0,.bool x4,.slice a4 n4 k4,.bool false,.slice none 0 0] 84)).alloc (.cells #[.int .i64 0,.string ⟨#[49]⟩,.int .i64 1,.bool x3,.slice a3 n3 k3,.bool false,.slice none 0 0,.int .i64 1,.string ⟨#[]⟩,.int .i64 0,.bool x4,.slice a4 n4 k4,.bool false,.slice none 0 0] 79)) (wq.heap.size+1) #[.int .i64 0,.string ⟨#[49]⟩,.int .i64 1,.bool x3,.slice a3 n3 k3,.bool false,.slice none 0 0,.int .i64 1,.string ⟨#[]⟩,.int .i64 0,.bool x4,.slice a4 n4 k4,.bool false,.slice none 0 0] 79 by
    have h:=Blk.new (wq.alloc (.cells #[.int .i64 0,.string ⟨#[49]⟩,.int .i64 1,.bool x3,.slice a3 n3 k3,.bool false,.slice none 0 0,.int .i64 1,.string ⟨#[]⟩,.int .i64 0,.bool x4,.slice a4 n4 k4,.bool false,.slice none 0 0] 84)) #[.int .i64 0,.string ⟨#[49]⟩,.int .i64 1,.bool x3,.slice a3 n3 k3,.bool false,.slice none 0 0,.int .i64 1,.string ⟨#[]⟩,.int .i64 0,.bool x4,.slice a4 n4 k4,.bool false,.slice none 0 0] 79
    simpa using h)
   have Hbwb:=hI (qad (qad Hbw.out (.cells #[.int .i64 0,.string ⟨#[49]⟩,.int .i64 1,.bool x3,.slice a3 n3 k3,.bool false,.slice none 0 0,.int .i64 1,.string ⟨#[]⟩,.int .i64 0,.bool x4,.slice a4 n4 k4,.bool false,.slice none 0 0] 84)) (.cells #[.int .i64 0,.string ⟨#[49]⟩,.int .i64 1,.bool x3,.slice a3 n3 k3,.bool false,.slice none 0 0,.int .i64 1,.string ⟨#[]⟩,.int .i64 0,.bool x4,.slice a4 n4 k4,.bool false,.slice none 0 0] 79));have Hownb:=hI (qae Hown.out (qa2 wq (.cells #[.int .i64 0,.string ⟨#[49]⟩,.int .i64 1,.bool x3,.slice a3 n3 k3,.bool false,.slice none 0 0,.int .i64 1,.string ⟨#[]⟩,.int .i64 0,.bool x4,.slice a4 n4 k4,.bool false,.slice none 0 0] 84) (.cells #[.int .i64 0,.string ⟨#[49]⟩,.int .i64 1,.bool x3,.slice a3 n3 k3,.bool false,.slice none 0 0,.int .i64 1,.string ⟨#[]⟩,.int .i64 0,.bool x4,.slice a4 n4 k4,.bool false,.slice none 0 0] 79)));have HNE:=hI (show(Value.slice ao 1 co).ownBlock≠some (wq.heap.size+1)from fun h=>absurd ((Hown.out.lt _ h).2) (by omega));clear e0 e1 e2 e3 e4 e5 e6 e7 e8 e9 e10 e11 e12 e13
   go_loopw [29,6] (fun ii out wz=>∃(i n:Nat) (O:List CC),i≤2∧ii=.int .i64 (i:Int)∧Below w1.heap.size w1 wz∧wz.ownsRow w1.heap.size 79 7 out n ((O.map CC.cells).flatten)∧Hid (Blk wz (wq.heap.size+1) #[.int .i64 0,.string ⟨#[49]⟩,.int .i64 1,.bool x3,.slice a3 n3 k3,.bool false,.slice none 0 0,.int .i64 1,.string ⟨#[]⟩,.int .i64 0,.bool x4,.slice a4 n4 k4,.bool false,.slice none 0 0] 79)∧Hid (wq.heap.size+1<wz.heap.size)∧Hid (out.ownBlock≠some (wq.heap.size+1))∧Hid ((i=0∧n=1∧O=[(⟨⟨0,⟨#[48]⟩,1⟩,x2,a2,n2,k2⟩:CC)])∨(i=1∧n=2∧O=[(⟨⟨0,⟨#[48]⟩,1⟩,x2,a2,n2,k2⟩:CC),(⟨⟨0,⟨#[49]⟩,1⟩,x3,a3,n3,k3⟩:CC)])∨(i=2∧n=2∧O=[(⟨⟨0,⟨#[48]⟩,1⟩,x2,a2,n2,k2⟩:CC),(⟨⟨0,⟨#[49]⟩,1⟩,x3,a3,n3,k3⟩:CC)]))) (fun i _ _=>2-(intOf i).toNat)
   case atStart=>exact⟨0,1,[(⟨⟨0,⟨#[48]⟩,1⟩,x2,a2,n2,k2⟩:CC)],by omega,rfl,Hbwb.out,Hownb.out,HB2.out,HB2.out.lt,HNE.out,.inl ⟨rfl,rfl,rfl⟩⟩
   case round=>
    obtain⟨i,n,O,hi,rfl,hbw,hown,hblk,hlt2,hne,hsi⟩:=hrel;have Hbi:=hI hbw;have Howni:=hI hown;obtain⟨ai,ci,rfl,hci,-⟩:=qam hown;clear hbw hown;have hiw:IntKind.i64.wrap ((i:Int)+1)=(i:Int)+1:=IntWalk.i64_in _ (by omega);rcases hsi.out with⟨hi0,rfl,rfl⟩|⟨hi0,rfl,rfl⟩|⟨hi0,rfl,rfl⟩
    ·have hin:(i:Int)<2:=by omega
     have Hi:=hI hi0;obtain⟨g,rfl⟩:=qbg Howni.out (by omega);have e0:wr.cell? ⟨wq.heap.size+1,i*7,none⟩=some (.int .i64 0):=by rw[hblk.out.cell,hi0];rfl
     have e1:wr.cell? ⟨wq.heap.size+1,i*7+1,none⟩=some (.string ⟨#[49]⟩):=by rw[hblk.out.cell,hi0];rfl
     have e2:wr.cell? ⟨wq.heap.size+1,i*7+2,none⟩=some (.int .i64 1):=by rw[hblk.out.cell,hi0];rfl
     have e3:wr.cell? ⟨wq.heap.size+1,i*7+3,none⟩=some (.bool x3):=by rw[hblk.out.cell,hi0];rfl
     have e4:wr.cell? ⟨wq.heap.size+1,i*7+4,none⟩=some (.slice a3 n3 k3):=by rw[hblk.out.cell,hi0];rfl
     have e5:wr.cell? ⟨wq.heap.size+1,i*7+5,none⟩=some (.bool false):=by rw[hblk.out.cell,hi0];rfl
     have e6:wr.cell? ⟨wq.heap.size+1,i*7+6,none⟩=some (.slice none 0 0):=by rw[hblk.out.cell,hi0];rfl
     clear hi0 hi hsi
     go_wp2_with fail
     have HSx:=hI (fun w' (hb:Below (wr.alloc (.cells #[.int .i64 0,.string ⟨#[49]⟩,.int .i64 1,.bool x3,.slice a3 n3 k3,.bool false,.slice none 0 0] 79)).heap.size (wr.alloc (.cells #[.int .i64 0,.string ⟨#[49]⟩,.int .i64 1,.bool x3,.slice a3 n3 k3,.bool false,.slice none 0 0] 79)) w')=>show w'.cell? ⟨wr.heap.size,0,none⟩=some (.int .i64 0)∧w'.cell? ⟨wr.heap.size,1,none⟩=some (.string ⟨#[49]⟩)∧w'.cell? ⟨wr.heap.size,2,none⟩=some (.int .i64 1)∧w'.cell? ⟨wr.heap.size,3,none⟩=some (.bool x3)∧w'.cell? ⟨wr.heap.size,4,none⟩=some (.slice a3 n3 k3)∧w'.cell? ⟨wr.heap.size,5,none⟩=some (.bool false)∧w'.cell? ⟨wr.heap.size,6,none⟩=some (.slice none 0 0)∧w'.cell? ⟨g,1,none⟩=some (.string ⟨#[48]⟩)from by
      have hc7:=qa5 (Blk.new wr #[.int .i64 0,.string ⟨#[49]⟩,.int .i64 1,.bool x3,.slice a3 n3 k3,.bool false,.slice none 0 0] 79) hb
      exact⟨hc7.1,hc7.2.1,hc7.2.2.1,hc7.2.2.2.1,hc7.2.2.2.2.1,hc7.2.2.2.2.2.1,hc7.2.2.2.2.2.2,qs7 (qae Howni.out (qab (qac wr _) hb))⟩)
     have hne1:((⟨#[48]⟩:ByteArray)!=⟨#[49]⟩)=true:=by decide
     have hw0:IntKind.i64.wrap 0=(0:Int):=rfl;refine wp_region_held_drew (S:=(fun w'=>w'.cell? ⟨wr.heap.size,0,none⟩=some (.int .i64 0)∧w'.cell? ⟨wr.heap.size,1,none⟩=some (.string ⟨#[49]⟩)∧w'.cell? ⟨wr.heap.size,2,none⟩=some (.int .i64 1)∧w'.cell? ⟨wr.heap.size,3,none⟩=some (.bool x3)∧w'.cell? ⟨wr.heap.size,4,none⟩=some (.slice a3 n3 k3)∧w'.cell? ⟨wr.heap.size,5,none⟩=some (.bool false)∧w'.cell? ⟨wr.heap.size,6,none⟩=some (.slice none 0 0)∧w'.cell? ⟨g,1,none⟩=some (.string ⟨#[48]⟩))) (by kernel_rfl) (by exact HSx.out _ (qf1 (wr.alloc (.cells #[.int .i64 0,.string ⟨#[49]⟩,.int .i64 1,.bool x3,.slice a3 n3 k3,.bool false,.slice none 0 0] 79)))) (fun hHeld=>?_)
     refine wpAnyH_take (i:=0) (v:=?v43) rfl (by kernel_rfl) (by kernel_rfl) (by kernel_rfl) (fun _ _ _ h=>h) (Or.inl ⟨by rfl,?hy43⟩) (by assumption) ?rest43
     case hy43=>(intro w hSw;(try dsimp only at hSw);go_simp;try(with_reducible rfl))
     try simp only[Act.put,List.getElem_toArray,List.getElem_cons_zero,List.setIfInBounds_toArray,List.set_cons_zero,List.set_cons_succ]
     refine' tk 1 ?_;(try simp only[tkS]);refine' tk 2 ?_;(try simp only[tkS]);refine' tk 3 ?_;(try simp only[tkS]);refine' tk 4 ?_;(try simp only[tkS]);refine' tk 5 ?_;(try simp only[tkS]);refine' tk 6 ?_;(try simp only[tkS]);refine' tk 7 ?_;(try simp only[tkS]);refine' tk 8 ?_;(try simp only[tkS]);refine' tk 9 ?_;(try simp only[tkS]);refine' tk 10 ?_;(try simp only[tkS]);refine' tk 11 ?_;(try simp only[tkS]);refine' tk 12 ?_;(try simp only[tkS]);refine' tk 13 ?_;(try simp only[tkS]);refine' tk 14 ?_;(try simp only[tkS]);refine' tk 15 ?_;(try simp only[tkS]);refine' tk 16 ?_;(try simp only[tkS]);refine' tk 17 ?_;(try simp only[tkS]);refine' tk 18 ?_;(try simp only[tkS]);refine' tk 19 ?_;(try simp only[tkS]);refine' tk 20 ?_;(try simp only[tkS]);refine tkD ?_ _
     have hb1:=(qab (qac wr (.cells #[.int .i64 0,.string ⟨#[49]⟩,.int .i64 1,.bool x3,.slice a3 n3 k3,.bool false,.slice none 0 0] 79)) (qf1 (wr.alloc (.cells #[.int .i64 0,.string ⟨#[49]⟩,.int .i64 1,.bool x3,.slice a3 n3 k3,.bool false,.slice none 0 0] 79)))).alloc (qab (qac wr (.cells #[.int .i64 0,.string ⟨#[49]⟩,.int .i64 1,.bool x3,.slice a3 n3 k3,.bool false,.slice none 0 0] 79)) (qf1 (wr.alloc (.cells #[.int .i64 0,.string ⟨#[49]⟩,.int .i64 1,.bool x3,.slice a3 n3 k3,.bool false,.slice none 0 0] 79)))).size (.cells #[.int .i64 0,.string ⟨#[49]⟩,.int .i64 1,.bool x3,.slice a3 n3 k3,.bool false,.slice none 0 0] 79);obtain⟨u0,u1,u2,u3,u4,u5,u6⟩:=qa5 (Blk.new wr #[.int .i64 0,.string ⟨#[49]⟩,.int .i64 1,.bool x3,.slice a3 n3 k3,.bool false,.slice none 0 0] 79) (qf1 (wr.alloc (.cells #[.int .i64 0,.string ⟨#[49]⟩,.int .i64 1,.bool x3,.slice a3 n3 k3,.bool false,.slice none 0 0] 79)));have Hblk:=hI (show Blk (((wr.alloc (.cells #[.int .i64 0,.string ⟨#[49]⟩,.int .i64 1,.bool x3,.slice a3 n3 k3,.bool false,.slice none 0 0] 79)).drewN 1).alloc (.cells #[.int .i64 0,.string ⟨#[49]⟩,.int .i64 1,.bool x3,.slice a3 n3 k3,.bool false,.slice none 0 0] 79)) (wr.heap.size+1) #[.int .i64 0,.string ⟨#[49]⟩,.int .i64 1,.bool x3,.slice a3 n3 k3,.bool false,.slice none 0 0] 79 from by have h:=Blk.new ((wr.alloc (.cells #[.int .i64 0,.string ⟨#[49]⟩,.int .i64 1,.bool x3,.slice a3 n3 k3,.bool false,.slice none 0 0] 79)).drewN 1) #[.int .i64 0,.string ⟨#[49]⟩,.int .i64 1,.bool x3,.slice a3 n3 k3,.bool false,.slice none 0 0] 79;simpa using h);have Hb1:=hI hb1;have Hb4:=hI (Hbi.out.via hb1 Hbi.out.size);have Hown4:=hI (qae Howni.out hb1);clear hb1
     go_wp2_with (at_builtin;refine qk0 EC (by decide) (CC.cells (⟨⟨0,⟨#[49]⟩,1⟩,x3,a3,n3,k3⟩:CC)) rfl _ _ rfl w1.heap.size _ _ _ _ rfl rfl Hown4.out Hblk.out rfl (one7 (⟨⟨0,⟨#[49]⟩,1⟩,x3,a3,n3,k3⟩:CC)) (by omega) (by decide) Hb4.out.size ?_;intro g5 cap5 w5 hown' hg' hor hgl;have Hb5:=hI (Below.grown Hb4.out hg' Hb4.out.size (fun q hq=>(Hown4.out.lt q hq).1));have Hown5:=hI hown';have Hbl5:=hI ((hblk.out.below Hb1.out).grown hg' hne.out);have Hlt5:=hI (Nat.lt_of_lt_of_le hlt2.out (Nat.le_trans Hb1.out.size hg'.size));have Hor:=hI hor;clear hown' hg' hor hgl)
     have hne5:∀m:Nat,(Value.slice (some ⟨g5,0,none⟩) m cap5).ownBlock≠some (wq.heap.size+1):=fun m h=>by
      have hg5:g5=wq.heap.size+1:=Option.some.inj h;rcases Hor.out with ho|ho
      ·exact hne.out (ho.trans (congrArg some hg5))
      ·have h3:wq.heap.size+1<g5:=Nat.lt_of_lt_of_le hlt2.out (Nat.le_trans Hb1.out.size (Nat.le_of_eq ho.symm))
       omega
     go_roundw
     case rel=>exact⟨i+1,_,_++[(⟨⟨0,⟨#[49]⟩,1⟩,x3,a3,n3,k3⟩:CC)],by have:=Hi.out;omega,by go_num,Hb5.out,by have:=Hown5.out;rw[qbr]at this;exact this,Hbl5.out,Hlt5.out,hne5 _,.inr (.inl ⟨by rw[Hi.out],rfl,rfl⟩)⟩
     case measure=>simp[intOf]<;>omega
    ·have hin:(i:Int)<2:=by omega
     have Hi:=hI hi0;have e0:wr.cell? ⟨wq.heap.size+1,i*7,none⟩=some (.int .i64 1):=by rw[hblk.out.cell,hi0];rfl
     have e1:wr.cell? ⟨wq.heap.size+1,i*7+1,none⟩=some (.string ⟨#[]⟩):=by rw[hblk.out.cell,hi0];rfl
     have e2:wr.cell? ⟨wq.heap.size+1,i*7+2,none⟩=some (.int .i64 0):=by rw[hblk.out.cell,hi0];rfl
     have e3:wr.cell? ⟨wq.heap.size+1,i*7+3,none⟩=some (.bool x4):=by rw[hblk.out.cell,hi0];rfl
     have e4:wr.cell? ⟨wq.heap.size+1,i*7+4,none⟩=some (.slice a4 n4 k4):=by rw[hblk.out.cell,hi0];rfl
     have e5:wr.cell? ⟨wq.heap.size+1,i*7+5,none⟩=some (.bool false):=by rw[hblk.out.cell,hi0];rfl
     have e6:wr.cell? ⟨wq.heap.size+1,i*7+6,none⟩=some (.slice none 0 0):=by rw[hblk.out.cell,hi0];rfl
     clear hi0 hi hsi
     go_wp2_with fail
     have HSx:=hI (fun w' (hb:Below (wr.alloc (.cells #[.int .i64 1,.string ⟨#[]⟩,.int .i64 0,.bool x4,.slice a4 n4 k4,.bool false,.slice none 0 0] 79)).heap.size (wr.alloc (.cells #[.int .i64 1,.string ⟨#[]⟩,.int .i64 0,.bool x4,.slice a4 n4 k4,.bool false,.slice none 0 0] 79)) w')=>show w'.cell? ⟨wr.heap.size,0,none⟩=some (.int .i64 1)∧w'.cell? ⟨wr.heap.size,1,none⟩=some (.string ⟨#[]⟩)∧w'.cell? ⟨wr.heap.size,2,none⟩=some (.int .i64 0)∧w'.cell? ⟨wr.heap.size,3,none⟩=some (.bool x4)∧w'.cell? ⟨wr.heap.size,4,none⟩=some (.slice a4 n4 k4)∧w'.cell? ⟨wr.heap.size,5,none⟩=some (.bool false)∧w'.cell? ⟨wr.heap.size,6,none⟩=some (.slice none 0 0)from by
      have hc7:=qa5 (Blk.new wr #[.int .i64 1,.string ⟨#[]⟩,.int .i64 0,.bool x4,.slice a4 n4 k4,.bool false,.slice none 0 0] 79) hb
      exact hc7)
     refine wp_region_held_drew (S:=(fun w'=>w'.cell? ⟨wr.heap.size,0,none⟩=some (.int .i64 1)∧w'.cell? ⟨wr.heap.size,1,none⟩=some (.string ⟨#[]⟩)∧w'.cell? ⟨wr.heap.size,2,none⟩=some (.int .i64 0)∧w'.cell? ⟨wr.heap.size,3,none⟩=some (.bool x4)∧w'.cell? ⟨wr.heap.size,4,none⟩=some (.slice a4 n4 k4)∧w'.cell? ⟨wr.heap.size,5,none⟩=some (.bool false)∧w'.cell? ⟨wr.heap.size,6,none⟩=some (.slice none 0 0))) (by kernel_rfl) (by exact HSx.out _ (qf1 (wr.alloc (.cells #[.int .i64 1,.string ⟨#[]⟩,.int .i64 0,.bool x4,.slice a4 n4 k4,.bool false,.slice none 0 0] 79)))) (fun hHeld=>?_)
     refine wpAnyH_take (i:=0) (v:=?v64) rfl (by kernel_rfl) (by kernel_rfl) (by kernel_rfl) (fun _ _ _ h=>h) (Or.inl ⟨by rfl,?hy64⟩) (by assumption) ?rest64
     case hy64=>(intro w hSw;(try dsimp only at hSw);go_simp;try(with_reducible rfl))
     try simp only[Act.put,List.getElem_toArray,List.getElem_cons_zero,List.setIfInBounds_toArray,List.set_cons_zero,List.set_cons_succ]
     refine' tk 1 ?_;(try simp only[tkS]);refine' tk 2 ?_;(try simp only[tkS]);refine' tk 3 ?_;(try simp only[tkS]);refine' tk 4 ?_;(try simp only[tkS]);refine' tkU 5 ?_;(try simp only[tkS]);refine' tkU 6 ?_;(try simp only[tkS]);refine' tkU 7 ?_;(try simp only[tkS]);refine' tkU 8 ?_;(try simp only[tkS]);refine' tkU 9 ?_;(try simp only[tkS]);refine' tkU 10 ?_;(try simp only[tkS]);refine' tkU 11 ?_;(try simp only[tkS]);refine' tkU 12 ?_;(try simp only[tkS]);refine' tkU 13 ?_;(try simp only[tkS]);refine' tkU 14 ?_;(try simp only[tkS]);refine' tkU 15 ?_;(try simp only[tkS]);refine' tkU 16 ?_;(try simp only[tkS]);refine' tkU 17 ?_;(try simp only[tkS]);refine' tkU 18 ?_;(try simp only[tkS]);refine' tkU 19 ?_;(try simp only[tkS]);refine' tk 20 ?_;(try simp only[tkS]);refine tkD ?_ _
     go_wp2_with fail
     have hbd:=qab (qac wr (.cells #[.int .i64 1,.string ⟨#[]⟩,.int .i64 0,.bool x4,.slice a4 n4 k4,.bool false,.slice none 0 0] 79)) (qf1 (wr.alloc (.cells #[.int .i64 1,.string ⟨#[]⟩,.int .i64 0,.bool x4,.slice a4 n4 k4,.bool false,.slice none 0 0] 79)));go_roundw
     case rel=>exact⟨i+1,2,[(⟨⟨0,⟨#[48]⟩,1⟩,x2,a2,n2,k2⟩:CC),(⟨⟨0,⟨#[49]⟩,1⟩,x3,a3,n3,k3⟩:CC)],by have:=Hi.out;omega,by go_num,Hbi.out.via hbd Hbi.out.size,qae Howni.out hbd,hblk.out.below hbd,Nat.lt_of_lt_of_le hlt2.out hbd.size,hne.out,.inr (.inr ⟨by rw[Hi.out],rfl,rfl⟩)⟩
     case measure=>simp[intOf]<;>omega
    ·have hin:¬(i:Int)<2:=by omega
     clear hi0 hi hsi
     go_wp2_with fail
     go_roundw
     case rel=>exact⟨j+1,2,[(⟨⟨0,⟨#[48]⟩,1⟩,x2,a2,n2,k2⟩:CC),(⟨⟨0,⟨#[49]⟩,1⟩,x3,a3,n3,k3⟩:CC)],by have:=Hj.out;omega,by go_num,Hbi.out,Howni.out,.inr (.inr ⟨by rw[Hj.out],rfl,rfl⟩)⟩
     case measure=>simp[intOf]<;>omega
  ·have hjn:¬(j:Int)<2:=by omega
   obtain⟨ao,co,rfl,hco,-⟩:=qam Hown.out;clear hj0 hj hst
   go_wp2_with fail
   go_ret2
   have hp:=Hps.out.2 _ (List.mem_cons_self ..);have hq:=Hps.out.2 _ (List.mem_cons_of_mem _ (List.mem_cons_self ..));refine⟨_,rfl,⟨ao,co,rfl,(⟨⟨0,⟨#[48]⟩,1⟩,x2,a2,n2,k2⟩:CC),(⟨⟨0,⟨#[49]⟩,1⟩,x3,a3,n3,k3⟩:CC),⟨Sl.own Hown.out (fun r hr=>by obtain⟨p,_,rfl⟩:=List.mem_map.1 hr;rfl) (by decide),fun k hk=>?_⟩,rfl,rfl⟩,Hb1.out.via Hbw.out Hb1.out.size⟩
   rcases List.mem_cons.1 hk with rfl|hk
   ·exact hp.2.mono Hbw.out
   ·cases List.mem_singleton.1 hk
    exact hq.1.mono Hbw.out
end Go.Proofs.YtacihodamichhaaGreatDoor
