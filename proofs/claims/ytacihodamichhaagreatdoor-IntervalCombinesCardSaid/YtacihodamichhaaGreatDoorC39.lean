/- Parts of the proof. -/
import Derived.Test.YtacihodamichhaaGreatDoorC38
namespace Go.Proofs.YtacihodamichhaaGreatDoor
open Go.RowKit
set_option maxHeartbeats 16000000
theorem qa6{w:World}{b:Nat}{x0 x1 x2 x3 x4 x5:Value}{T:TypeId}(h:Blk w b #[x0,x1,x2,x3,x4,x5] T):(w.cell? ⟨b,0,none⟩=some x0∧w.cell? ⟨b,1,none⟩=some x1∧w.cell? ⟨b,2,none⟩=some x2∧w.cell? ⟨b,3,none⟩=some x3∧w.cell? ⟨b,4,none⟩=some x4∧w.cell? ⟨b,5,none⟩=some x5)∧w.frozen? ⟨b,0,none⟩=false∧w.frozen? ⟨b,1,none⟩=false∧w.frozen? ⟨b,2,none⟩=false∧w.frozen? ⟨b,3,none⟩=false∧w.frozen? ⟨b,4,none⟩=false∧w.frozen? ⟨b,5,none⟩=false:=
 ⟨⟨h.cell 0,h.cell 1,h.cell 2,h.cell 3,h.cell 4,h.cell 5⟩,h.free 0,h.free 1,h.free 2,h.free 3,h.free 4,h.free 5⟩
theorem qjx{w:World}{b:Nat}{x0 x1 x2 x3 x4 x5:Value}{T:TypeId}(h:Blk w b #[x0,x1,x2,x3,x4,x5] T)(y0 y1 y2:Value):Blk (((w.setCell ⟨b,0,none⟩ y0).setCell ⟨b,1,none⟩ y1).setCell ⟨b,2,none⟩ y2) b #[y0,y1,y2,x3,x4,x5] T:=by
 simpa using((h.set 0 y0).set 1 y1).set 2 y2
theorem qpu{w:World}{b:Nat}{x0 x1 x2 x3 x4 x5:Value}{T:TypeId}(h:Blk w b #[x0,x1,x2,x3,x4,x5] T)(y0 y1 y2:Value):Blk (((w.setCell ⟨b,3,none⟩ y0).setCell ⟨b,4,none⟩ y1).setCell ⟨b,5,none⟩ y2) b #[x0,x1,x2,y0,y1,y2] T:=by
 simpa using((h.set 3 y0).set 4 y1).set 5 y2
theorem qhv{B g:Nat}{w W:World}(y0 y1 y2:Value)(h:Below B w W)(hg:B≤g):Below B w (((W.setCell ⟨g,0,none⟩ y0).setCell ⟨g,1,none⟩ y1).setCell ⟨g,2,none⟩ y2):=((h.setCell hg _).setCell hg _).setCell hg _
theorem qjy{B g:Nat}{w W:World}(y0 y1 y2:Value)(h:Below B w W)(hg:B≤g):Below B w (((W.setCell ⟨g,3,none⟩ y0).setCell ⟨g,4,none⟩ y1).setCell ⟨g,5,none⟩ y2):=((h.setCell hg _).setCell hg _).setCell hg _
theorem qbn{w:World}{B e s n b:Nat}{u:Value}{xs:List Value}(h:w.ownsRow B e s u n xs)(hne:∀g,u.ownBlock=some g→g≠b)(j:Nat)(v:Value):(w.setCell ⟨b,j,none⟩ v).ownsRow B e s u n xs:=
 qn5 h ((Eqb.refl (w:=w) b).set j v) (fun g hg=>⟨(h.lt g hg).2,hne g hg⟩)
theorem qmq{X Y:List RP}{i:Nat}{p:RP}(h:X[i]?=some p):qb1 ltR (X.take (i+1)) Y=qb1 ltR (X.take i) Y++Y.map (fun q=>qes ltR p q):=by
 unfold qb1;rw[qcj h,List.map_append,List.flatten_append];simp
theorem qdr(X Y:List RP):(qb1 ltR X Y).length=X.length*Y.length:=by
 unfold qb1
 induction X with
 |nil=>simp
 |cons p X ih=>rw[List.map_cons,List.flatten_cons,List.length_append,ih,List.length_map,List.length_cons,Nat.add_mul,Nat.one_mul,Nat.add_comm]
set_option maxRecDepth 10000 in
theorem qgj(u v:Value)(rs ss:List RP)(w:World)(h:Rgs w u rs)(h':Rgs w v ss)(hok:∀r∈rs,OkR r)(hok':∀r∈ss,OkR r)(hn:rs.length≤30)(hm:ss.length≤30):
  Calls Tryz.prog 101 #[u,v] w (RetP (fun r w'=>w'.ownsRow w.heap.size 119 6 r (qaq (qb1 ltR rs ss)).length (qbo (qaq (qb1 ltR rs ss)))) w):=by
 obtain⟨a,c,rfl,hc1,hc2⟩:=h.open;obtain⟨a',c',rfl,hc1',hc2'⟩:=h'.open;unfold maxLen at hc2 hc2';have HX:=hI h;have HY:=hI h';have Hok:=hI (And.intro hok hok');have Hlen:=hI (qdr rs ss);clear h h' hok hok';generalize hln:rs.length=n at*;generalize hlm:ss.length=m at*;have Hln:=hI hln;have Hlm:=hI hlm;clear hln hlm;have HN:=hI (fun W:World=>World.ownsRow_nil W w.heap.size 119 6);have HJ:=hI (fun v' ls w' (h':Rgs w' v' ls) ho hl=>qeq v' ls w' h' ho hl)
 go_enter Tryz.func101,Tryz.ntmps101
 go_wp2_with fail
 go_loopw [6,5] (fun i out wr=>∃(k:Nat) (G:List RP) (cG:Nat),k≤n∧i=.int .i64 (k:Int)∧Below w.heap.size w wr∧wr.ownsRow w.heap.size 119 6 out cG (qbo G)∧Hid (G=qb1 ltR (rs.take k) ss∧G.length=cG∧∀r∈G,OkR r)) (fun i _ _=>n-(intOf i).toNat)
 case atStart=>exact⟨0,[],0,by omega,rfl,Below.refl _ _,HN.out _,rfl,rfl,fun r hr=>by cases hr⟩
 case round=>
  obtain⟨k,G,cG,hk,rfl,hbw,hown,hpre⟩:=hrel;rcases Nat.lt_or_ge k n with hlt|hge
  ·obtain⟨b,off,p,rfl,hx,d0,d1,d2,d3,d4,d5⟩:=HX.out.at (Below.refl _ _) hlt
   have hbl:=World.block_lt_of_cell? _ _ d0;have hkn:(k:Int)<(n:Int):=by omega
   have hk0:(0:Int)≤(k:Int):=Int.natCast_nonneg _;have hkw:IntKind.i64.wrap ((k:Int)+1)=(k:Int)+1:=IntWalk.i64_in _ (by omega);have HP:=hI (fun w' (hb:Below w.heap.size w w')=>show w'.cell? ⟨b,off+k*6,none⟩=some (.int .i64 p.1.b)∧w'.cell? ⟨b,off+k*6+1,none⟩=some (.string p.1.s)∧w'.cell? ⟨b,off+k*6+2,none⟩=some (.int .i64 p.1.d)∧w'.cell? ⟨b,off+k*6+3,none⟩=some (.int .i64 p.2.b)∧w'.cell? ⟨b,off+k*6+4,none⟩=some (.string p.2.s)∧w'.cell? ⟨b,off+k*6+5,none⟩=some (.int .i64 p.2.d)from⟨(hb.cell (p:=⟨b,off+k*6,none⟩) hbl).trans d0,(hb.cell (p:=⟨b,off+k*6+1,none⟩) hbl).trans d1,(hb.cell (p:=⟨b,off+k*6+2,none⟩) hbl).trans d2,(hb.cell (p:=⟨b,off+k*6+3,none⟩) hbl).trans d3,(hb.cell (p:=⟨b,off+k*6+4,none⟩) hbl).trans d4,(hb.cell (p:=⟨b,off+k*6+5,none⟩) hbl).trans d5⟩);have Hpok:=hI (Hok.out.1 p (List.mem_of_getElem? hx));have Hnx:=hI (show qb1 ltR (rs.take (k+1)) ss=G++ss.map (fun q=>qes ltR p q)by rw[qmq hx,←hpre.out.1]);have Hbw0:=hI hbw;have Hown0:=hI hown;have Hpre:=hI hpre.out
   have HGm:=hI (show cG+m≤900 by
    have h1:cG=k*m:=by
     rw[←hpre.out.2.1,hpre.out.1,qdr,List.length_take,Hln.out,Hlm.out,Nat.min_eq_left hk]
    have h2:(k+1)*m≤30*30:=Nat.mul_le_mul (by omega) hm;rw[Nat.add_mul]at h2
    omega)
   clear hx hbw hown hpre d0 d1 d2 d3 d4 d5 hbl
   go_wp2_with fail
   go_loopw [7,5] (fun i2 out wr=>∃(k2:Nat) (c2:Nat),k2≤m∧i2=.int .i64 (k2:Int)∧Below w.heap.size w wr∧wr.ownsRow w.heap.size 119 6 out c2 (qbo (G++(ss.take k2).map (fun q=>qes ltR p q)))∧Hid (c2=cG+k2∧∀r∈G++(ss.take k2).map (fun q=>qes ltR p q),OkR r)) (fun i2 _ _=>m-(intOf i2).toNat)
   case atStart=>exact⟨0,cG,by omega,rfl,Hbw0.out,by simpa using Hown0.out,rfl,by simpa using Hpre.out.2.2⟩
   case round=>
    obtain⟨k2,c2,hk2,rfl,hbw,hown,hpre⟩:=hrel;rcases Nat.lt_or_ge k2 m with hlt2|hge2
    ·obtain⟨b2,off2,q,rfl,hy,e0,e1,e2,e3,e4,e5⟩:=HY.out.at (Below.refl _ _) hlt2
     have hbl2:=World.block_lt_of_cell? _ _ e0;have hkm:(k2:Int)<(m:Int):=by omega
     have hk20:(0:Int)≤(k2:Int):=Int.natCast_nonneg _;have hk2w:IntKind.i64.wrap ((k2:Int)+1)=(k2:Int)+1:=IntWalk.i64_in _ (by omega);have HQ:=hI (fun w' (hb:Below w.heap.size w w')=>show w'.cell? ⟨b2,off2+k2*6,none⟩=some (.int .i64 q.1.b)∧w'.cell? ⟨b2,off2+k2*6+1,none⟩=some (.string q.1.s)∧w'.cell? ⟨b2,off2+k2*6+2,none⟩=some (.int .i64 q.1.d)∧w'.cell? ⟨b2,off2+k2*6+3,none⟩=some (.int .i64 q.2.b)∧w'.cell? ⟨b2,off2+k2*6+4,none⟩=some (.string q.2.s)∧w'.cell? ⟨b2,off2+k2*6+5,none⟩=some (.int .i64 q.2.d)from⟨(hb.cell (p:=⟨b2,off2+k2*6,none⟩) hbl2).trans e0,(hb.cell (p:=⟨b2,off2+k2*6+1,none⟩) hbl2).trans e1,(hb.cell (p:=⟨b2,off2+k2*6+2,none⟩) hbl2).trans e2,(hb.cell (p:=⟨b2,off2+k2*6+3,none⟩) hbl2).trans e3,(hb.cell (p:=⟨b2,off2+k2*6+4,none⟩) hbl2).trans e4,(hb.cell (p:=⟨b2,off2+k2*6+5,none⟩) hbl2).trans e5⟩);have Hqok:=hI (Hok.out.2 q (List.mem_of_getElem? hy));have Hnx2:=hI (show G++(ss.take (k2+1)).map (fun q=>qes ltR p q)=(G++(ss.take k2).map (fun q=>qes ltR p q))++[qes ltR p q]by rw[qcj hy,List.map_append,←List.append_assoc];rfl);have Hbw:=hI hbw;have Hown:=hI hown;have Hpre2:=hI hpre.out;have hc2:c2≤900:=by have:=hpre.out.1;have:=HGm.out;omega
     have H99:=hI (fun w'=>qfl q.1 p.1 w' Hqok.out.1 Hpok.out.1);have H98:=hI (fun w'=>qfl q.2 p.2 w' Hqok.out.2 Hpok.out.2);unfold rcA rcut at H99 H98
     have Hm1:=hI (show qes ltR p q=(if 0<cmpG (toP q.1) (toP p.1)then q.1 else p.1,if cmpG (toP q.2) (toP p.2)<0 then q.2 else p.2)by
      unfold qes
      congr 1
      ·by_cases h:0<cmpG (toP q.1) (toP p.1)
       ·rw[if_pos h,if_pos (show ltR p.1 q.1 from qf0.1 h)]
       ·rw[if_neg h,if_neg (fun h':ltR p.1 q.1=>h (qf0.2 h'))])
     generalize cmpG (toP q.1) (toP p.1)=R1 at*;generalize cmpG (toP q.2) (toP p.2)=R2 at*;obtain⟨t0,t1,t2,t3,t4,t5⟩:=HP.out _ hbw;clear hy hbw hown hpre e0 e1 e2 e3 e4 e5 hbl2;have HB1:=hI (qac wr (.cells #[.int .i64 p.1.b,.string p.1.s,.int .i64 p.1.d,.int .i64 p.2.b,.string p.2.s,.int .i64 p.2.d] 119));have HBx:=hI (Blk.new wr #[.int .i64 p.1.b,.string p.1.s,.int .i64 p.1.d,.int .i64 p.2.b,.string p.2.s,.int .i64 p.2.d] 119)
     by_cases hA:0<R1
     ·rw[if_pos hA]at Hm1
      by_cases hB:R2<0
      ·rw[if_pos hB]at Hm1
       have HoX:=hI (qae Hown.out HB1.out);have Hne:=hI (fun g hg=>Nat.ne_of_lt (Hown.out.lt g hg).2);have HbX:=hI (Hbw.out.via HB1.out Hbw.out.size);have Hgx:=hI Hbw.out.size;clear Hown Hbw HB1;go_upto_region 9 with fail
       generalize hWx:wr.alloc (.cells #[.int .i64 p.1.b,.string p.1.s,.int .i64 p.1.d,.int .i64 p.2.b,.string p.2.s,.int .i64 p.2.d] 119)=Wx at*;generalize hbx:wr.heap.size=bx at*;clear hbx hWx;have HSx:=hI (fun w' (hb:Below Wx.heap.size Wx w')=>show w'.cell? ⟨bx,0,none⟩=some (.int .i64 p.1.b)∧w'.cell? ⟨bx,1,none⟩=some (.string p.1.s)∧w'.cell? ⟨bx,2,none⟩=some (.int .i64 p.1.d)∧w'.cell? ⟨bx,3,none⟩=some (.int .i64 p.2.b)∧w'.cell? ⟨bx,4,none⟩=some (.string p.2.s)∧w'.cell? ⟨bx,5,none⟩=some (.int .i64 p.2.d)∧w'.cell? ⟨b2,off2+k2*6,none⟩=some (.int .i64 q.1.b)∧w'.cell? ⟨b2,off2+k2*6+1,none⟩=some (.string q.1.s)∧w'.cell? ⟨b2,off2+k2*6+2,none⟩=some (.int .i64 q.1.d)∧w'.cell? ⟨b2,off2+k2*6+3,none⟩=some (.int .i64 q.2.b)∧w'.cell? ⟨b2,off2+k2*6+4,none⟩=some (.string q.2.s)∧w'.cell? ⟨b2,off2+k2*6+5,none⟩=some (.int .i64 q.2.d)from⟨qaa hb (qa6 HBx.out).1.1,qaa hb (qa6 HBx.out).1.2.1,qaa hb (qa6 HBx.out).1.2.2.1,qaa hb (qa6 HBx.out).1.2.2.2.1,qaa hb (qa6 HBx.out).1.2.2.2.2.1,qaa hb (qa6 HBx.out).1.2.2.2.2.2,HQ.out _ (HbX.out.via hb HbX.out.size)⟩);refine wpRg HSx.out (bwD Wx) (by kernel_rfl) (fun hHeld=>?_)
       refine' tk 0 ?_;(try simp only[tkS]);refine' tk 1 ?_;(try simp only[tkS]);refine' tk 2 ?_;(try simp only[tkS]);refine' tk 3 ?_;(try simp only[tkS]);refine' tk 4 ?_;(try simp only[tkS]);refine' tk 5 ?_;(try simp only[tkS]);refine' tk 6 ?_;(try simp only[tkS]);refine tk1 7 (fun K hK=>?_)
       go_simp;go_at_call 99;refine(H99.out _).mono ?_
       rintro e5 w9 ⟨rfl,hb9⟩;have H9:=hI (qab (bwD Wx) hb9);clear hb9;refine hK.out _ _ (by exact HSx.out _ (H9.out)) (fun hHeld=>?_)
       clear hK K;(try simp only[tkS]);refine' tk 8 ?_;(try simp only[tkS]);refine tkD ?_ _
       have H9':=hI (H9.out);have HX9:=hI (HBx.out.below H9'.out);have Hb9:=hI (HbX.out.via H9'.out HbX.out.size);have Ho9:=hI (qae HoX.out H9'.out);obtain⟨s0,s1,s2,s3,s4,s5⟩:=HQ.out _ Hb9.out;obtain⟨⟨x0,x1,x2,x3,x4,x5⟩,f0,f1,f2,f3,f4,f5⟩:=qa6 HX9.out;have HBA:=hI (qjx HX9.out (.int .i64 q.1.b) (.string q.1.s) (.int .i64 q.1.d));have HbA:=hI (qhv (g:=bx) (.int .i64 q.1.b) (.string q.1.s) (.int .i64 q.1.d) Hb9.out Hgx.out);have HoA:=hI (qbn (qbn (qbn Ho9.out Hne.out 0 (.int .i64 q.1.b)) Hne.out 1 (.string q.1.s)) Hne.out 2 (.int .i64 q.1.d));go_upto_region 11 with fail
       clear s0 s1 s2 s3 s4 s5 x0 x1 x2 x3 x4 x5 f0 f1 f2 f3 f4 f5;generalize hWA:((w9.setCell ⟨bx,0,none⟩ (.int .i64 q.1.b)).setCell ⟨bx,1,none⟩ (.string q.1.s)).setCell ⟨bx,2,none⟩ (.int .i64 q.1.d)=WA at*;clear hWA;have HSA:=hI (fun w' (hb:Below WA.heap.size WA w')=>show w'.cell? ⟨bx,0,none⟩=some (.int .i64 q.1.b)∧w'.cell? ⟨bx,1,none⟩=some (.string q.1.s)∧w'.cell? ⟨bx,2,none⟩=some (.int .i64 q.1.d)∧w'.cell? ⟨bx,3,none⟩=some (.int .i64 p.2.b)∧w'.cell? ⟨bx,4,none⟩=some (.string p.2.s)∧w'.cell? ⟨bx,5,none⟩=some (.int .i64 p.2.d)∧w'.cell? ⟨b2,off2+k2*6,none⟩=some (.int .i64 q.1.b)∧w'.cell? ⟨b2,off2+k2*6+1,none⟩=some (.string q.1.s)∧w'.cell? ⟨b2,off2+k2*6+2,none⟩=some (.int .i64 q.1.d)∧w'.cell? ⟨b2,off2+k2*6+3,none⟩=some (.int .i64 q.2.b)∧w'.cell? ⟨b2,off2+k2*6+4,none⟩=some (.string q.2.s)∧w'.cell? ⟨b2,off2+k2*6+5,none⟩=some (.int .i64 q.2.d)from⟨qaa hb (qa6 HBA.out).1.1,qaa hb (qa6 HBA.out).1.2.1,qaa hb (qa6 HBA.out).1.2.2.1,qaa hb (qa6 HBA.out).1.2.2.2.1,qaa hb (qa6 HBA.out).1.2.2.2.2.1,qaa hb (qa6 HBA.out).1.2.2.2.2.2,HQ.out _ (HbA.out.via hb HbA.out.size)⟩);refine wpRg HSA.out (bwD WA) (by kernel_rfl) (fun hHeld=>?_)
       refine' tk 0 ?_;(try simp only[tkS]);refine' tk 1 ?_;(try simp only[tkS]);refine' tk 2 ?_;(try simp only[tkS]);refine' tk 3 ?_;(try simp only[tkS]);refine' tk 4 ?_;(try simp only[tkS]);refine' tk 5 ?_;(try simp only[tkS]);refine' tk 6 ?_;(try simp only[tkS]);refine tk1 7 (fun K hK=>?_)
       go_simp;go_at_call 99;refine(H98.out _).mono ?_
       rintro e5 w7 ⟨rfl,hb7⟩;have H7:=hI (qab (bwD WA) hb7);clear hb7;refine hK.out _ _ (by exact HSA.out _ (H7.out)) (fun hHeld=>?_)
       clear hK K;(try simp only[tkS]);refine' tk 8 ?_;(try simp only[tkS]);refine tkD ?_ _
       have Hc:=hI (H7.out);have HXc:=hI (HBA.out.below Hc.out);have HbC:=hI (HbA.out.via Hc.out HbA.out.size);have HoC:=hI (qae HoA.out Hc.out);obtain⟨s0,s1,s2,s3,s4,s5⟩:=HQ.out _ HbC.out;obtain⟨⟨x0,x1,x2,x3,x4,x5⟩,f0,f1,f2,f3,f4,f5⟩:=qa6 HXc.out;have HXd:=hI (qpu HXc.out (.int .i64 q.2.b) (.string q.2.s) (.int .i64 q.2.d));have HbD:=hI (qjy (g:=bx) (.int .i64 q.2.b) (.string q.2.s) (.int .i64 q.2.d) HbC.out Hgx.out);have HoD:=hI (qbn (qbn (qbn HoC.out Hne.out 3 (.int .i64 q.2.b)) Hne.out 4 (.string q.2.s)) Hne.out 5 (.int .i64 q.2.d));go_upto_region 13 with fail
       clear s0 s1 s2 s3 s4 s5 x0 x1 x2 x3 x4 x5 f0 f1 f2 f3 f4 f5;generalize hWD:((w7.setCell ⟨bx,3,none⟩ (.int .i64 q.2.b)).setCell ⟨bx,4,none⟩ (.string q.2.s)).setCell ⟨bx,5,none⟩ (.int .i64 q.2.d)=WD at*;clear hWD;obtain⟨⟨y0,y1,y2,y3,y4,y5⟩,-⟩:=qa6 HXd.out
       go_wp2_with (at_builtin;refine qct ER (by decide) (rrow (q.1,q.2)) rfl _ _ rfl w.heap.size _ _ _ rfl rfl HoD.out rfl (one6 (q.1,q.2)) (by omega) (by decide) HbD.out.size ?_;intro v' w5 hown' hg';have Hb5:=hI (qap HbD.out HoD.out hg' HbD.out.size);have Hown5:=hI hown';clear hown' hg')
       go_roundw
       case rel=>exact⟨k2+1,c2+1,by omega,by go_num,Hb5.out,by rw[Hnx2.out,Hm1.out,qbs];exact Hown5.out,by rw[Hpre2.out.1];omega,fun r hr=>by
        rw[Hnx2.out]at hr;rcases List.mem_append.1 hr with h|h
        ·exact Hpre2.out.2 r h
        ·cases List.mem_singleton.1 h
         rw[Hm1.out]
         exact⟨Hqok.out.1,Hqok.out.2⟩⟩
       case measure=>simp[intOf]<;>omega
      ·rw[if_neg hB]at Hm1
       have HoX:=hI (qae Hown.out HB1.out);have Hne:=hI (fun g hg=>Nat.ne_of_lt (Hown.out.lt g hg).2);have HbX:=hI (Hbw.out.via HB1.out Hbw.out.size);have Hgx:=hI Hbw.out.size;clear Hown Hbw HB1;go_upto_region 9 with fail
       generalize hWx:wr.alloc (.cells #[.int .i64 p.1.b,.string p.1.s,.int .i64 p.1.d,.int .i64 p.2.b,.string p.2.s,.int .i64 p.2.d] 119)=Wx at*;generalize hbx:wr.heap.size=bx at*;clear hbx hWx;have HSx:=hI (fun w' (hb:Below Wx.heap.size Wx w')=>show w'.cell? ⟨bx,0,none⟩=some (.int .i64 p.1.b)∧w'.cell? ⟨bx,1,none⟩=some (.string p.1.s)∧w'.cell? ⟨bx,2,none⟩=some (.int .i64 p.1.d)∧w'.cell? ⟨bx,3,none⟩=some (.int .i64 p.2.b)∧w'.cell? ⟨bx,4,none⟩=some (.string p.2.s)∧w'.cell? ⟨bx,5,none⟩=some (.int .i64 p.2.d)∧w'.cell? ⟨b2,off2+k2*6,none⟩=some (.int .i64 q.1.b)∧w'.cell? ⟨b2,off2+k2*6+1,none⟩=some (.string q.1.s)∧w'.cell? ⟨b2,off2+k2*6+2,none⟩=some (.int .i64 q.1.d)∧w'.cell? ⟨b2,off2+k2*6+3,none⟩=some (.int .i64 q.2.b)∧w'.cell? ⟨b2,off2+k2*6+4,none⟩=some (.string q.2.s)∧w'.cell? ⟨b2,off2+k2*6+5,none⟩=some (.int .i64 q.2.d)from⟨qaa hb (qa6 HBx.out).1.1,qaa hb (qa6 HBx.out).1.2.1,qaa hb (qa6 HBx.out).1.2.2.1,qaa hb (qa6 HBx.out).1.2.2.2.1,qaa hb (qa6 HBx.out).1.2.2.2.2.1,qaa hb (qa6 HBx.out).1.2.2.2.2.2,HQ.out _ (HbX.out.via hb HbX.out.size)⟩);refine wpRg HSx.out (bwD Wx) (by kernel_rfl) (fun hHeld=>?_)
       refine' tk 0 ?_;(try simp only[tkS]);refine' tk 1 ?_;(try simp only[tkS]);refine' tk 2 ?_;(try simp only[tkS]);refine' tk 3 ?_;(try simp only[tkS]);refine' tk 4 ?_;(try simp only[tkS]);refine' tk 5 ?_;(try simp only[tkS]);refine' tk 6 ?_;(try simp only[tkS]);refine tk1 7 (fun K hK=>?_)
       go_simp;go_at_call 99;refine(H99.out _).mono ?_
       rintro e5 w9 ⟨rfl,hb9⟩;have H9:=hI (qab (bwD Wx) hb9);clear hb9;refine hK.out _ _ (by exact HSx.out _ (H9.out)) (fun hHeld=>?_)
       clear hK K;(try simp only[tkS]);refine' tk 8 ?_;(try simp only[tkS]);refine tkD ?_ _
       have H9':=hI (H9.out);have HX9:=hI (HBx.out.below H9'.out);have Hb9:=hI (HbX.out.via H9'.out HbX.out.size);have Ho9:=hI (qae HoX.out H9'.out);obtain⟨s0,s1,s2,s3,s4,s5⟩:=HQ.out _ Hb9.out;obtain⟨⟨x0,x1,x2,x3,x4,x5⟩,f0,f1,f2,f3,f4,f5⟩:=qa6 HX9.out;have HBA:=hI (qjx HX9.out (.int .i64 q.1.b) (.string q.1.s) (.int .i64 q.1.d));have HbA:=hI (qhv (g:=bx) (.int .i64 q.1.b) (.string q.1.s) (.int .i64 q.1.d) Hb9.out Hgx.out);have HoA:=hI (qbn (qbn (qbn Ho9.out Hne.out 0 (.int .i64 q.1.b)) Hne.out 1 (.string q.1.s)) Hne.out 2 (.int .i64 q.1.d));go_upto_region 11 with fail
       clear s0 s1 s2 s3 s4 s5 x0 x1 x2 x3 x4 x5 f0 f1 f2 f3 f4 f5;generalize hWA:((w9.setCell ⟨bx,0,none⟩ (.int .i64 q.1.b)).setCell ⟨bx,1,none⟩ (.string q.1.s)).setCell ⟨bx,2,none⟩ (.int .i64 q.1.d)=WA at*;clear hWA;have HSA:=hI (fun w' (hb:Below WA.heap.size WA w')=>show w'.cell? ⟨bx,0,none⟩=some (.int .i64 q.1.b)∧w'.cell? ⟨bx,1,none⟩=some (.string q.1.s)∧w'.cell? ⟨bx,2,none⟩=some (.int .i64 q.1.d)∧w'.cell? ⟨bx,3,none⟩=some (.int .i64 p.2.b)∧w'.cell? ⟨bx,4,none⟩=some (.string p.2.s)∧w'.cell? ⟨bx,5,none⟩=some (.int .i64 p.2.d)∧w'.cell? ⟨b2,off2+k2*6,none⟩=some (.int .i64 q.1.b)∧w'.cell? ⟨b2,off2+k2*6+1,none⟩=some (.string q.1.s)∧w'.cell? ⟨b2,off2+k2*6+2,none⟩=some (.int .i64 q.1.d)∧w'.cell? ⟨b2,off2+k2*6+3,none⟩=some (.int .i64 q.2.b)∧w'.cell? ⟨b2,off2+k2*6+4,none⟩=some (.string q.2.s)∧w'.cell? ⟨b2,off2+k2*6+5,none⟩=some (.int .i64 q.2.d)from⟨qaa hb (qa6 HBA.out).1.1,qaa hb (qa6 HBA.out).1.2.1,qaa hb (qa6 HBA.out).1.2.2.1,qaa hb (qa6 HBA.out).1.2.2.2.1,qaa hb (qa6 HBA.out).1.2.2.2.2.1,qaa hb (qa6 HBA.out).1.2.2.2.2.2,HQ.out _ (HbA.out.via hb HbA.out.size)⟩);refine wpRg HSA.out (bwD WA) (by kernel_rfl) (fun hHeld=>?_)
       refine' tk 0 ?_;(try simp only[tkS]);refine' tk 1 ?_;(try simp only[tkS]);refine' tk 2 ?_;(try simp only[tkS]);refine' tk 3 ?_;(try simp only[tkS]);refine' tk 4 ?_;(try simp only[tkS]);refine' tk 5 ?_;(try simp only[tkS]);refine' tk 6 ?_;(try simp only[tkS]);refine tk1 7 (fun K hK=>?_)
       go_simp;go_at_call 99;refine(H98.out _).mono ?_
       rintro e5 w7 ⟨rfl,hb7⟩;have H7:=hI (qab (bwD WA) hb7);clear hb7;refine hK.out _ _ (by exact HSA.out _ (H7.out)) (fun hHeld=>?_)
       clear hK K;(try simp only[tkS]);refine' tk 8 ?_;(try simp only[tkS]);refine tkD ?_ _
       have Hc:=hI (H7.out);have HXc:=hI (HBA.out.below Hc.out);have HbC:=hI (HbA.out.via Hc.out HbA.out.size);have HoC:=hI (qae HoA.out Hc.out);obtain⟨s0,s1,s2,s3,s4,s5⟩:=HQ.out _ HbC.out;obtain⟨⟨x0,x1,x2,x3,x4,x5⟩,f0,f1,f2,f3,f4,f5⟩:=qa6 HXc.out
       go_wp2_with (at_builtin;refine qct ER (by decide) (rrow (q.1,p.2)) rfl _ _ rfl w.heap.size _ _ _ rfl rfl HoC.out rfl (one6 (q.1,p.2)) (by omega) (by decide) HbC.out.size ?_;intro v' w5 hown' hg';have Hb5:=hI (qap HbC.out HoC.out hg' HbC.out.size);have Hown5:=hI hown';clear hown' hg')
       go_roundw
       case rel=>exact⟨k2+1,c2+1,by omega,by go_num,Hb5.out,by rw[Hnx2.out,Hm1.out,qbs];exact Hown5.out,by rw[Hpre2.out.1];omega,fun r hr=>by
        rw[Hnx2.out]at hr;rcases List.mem_append.1 hr with h|h
        ·exact Hpre2.out.2 r h
        ·cases List.mem_singleton.1 h
         rw[Hm1.out]
         exact⟨Hqok.out.1,Hpok.out.2⟩⟩
       case measure=>simp[intOf]<;>omega
     ·rw[if_neg hA]at Hm1
      by_cases hB:R2<0
      ·rw[if_pos hB]at Hm1
       have HoX:=hI (qae Hown.out HB1.out);have Hne:=hI (fun g hg=>Nat.ne_of_lt (Hown.out.lt g hg).2);have HbX:=hI (Hbw.out.via HB1.out Hbw.out.size);have Hgx:=hI Hbw.out.size;clear Hown Hbw HB1;go_upto_region 9 with fail
       generalize hWx:wr.alloc (.cells #[.int .i64 p.1.b,.string p.1.s,.int .i64 p.1.d,.int .i64 p.2.b,.string p.2.s,.int .i64 p.2.d] 119)=Wx at*;generalize hbx:wr.heap.size=bx at*;clear hbx hWx;have HSx:=hI (fun w' (hb:Below Wx.heap.size Wx w')=>show w'.cell? ⟨bx,0,none⟩=some (.int .i64 p.1.b)∧w'.cell? ⟨bx,1,none⟩=some (.string p.1.s)∧w'.cell? ⟨bx,2,none⟩=some (.int .i64 p.1.d)∧w'.cell? ⟨bx,3,none⟩=some (.int .i64 p.2.b)∧w'.cell? ⟨bx,4,none⟩=some (.string p.2.s)∧w'.cell? ⟨bx,5,none⟩=some (.int .i64 p.2.d)∧w'.cell? ⟨b2,off2+k2*6,none⟩=some (.int .i64 q.1.b)∧w'.cell? ⟨b2,off2+k2*6+1,none⟩=some (.string q.1.s)∧w'.cell? ⟨b2,off2+k2*6+2,none⟩=some (.int .i64 q.1.d)∧w'.cell? ⟨b2,off2+k2*6+3,none⟩=some (.int .i64 q.2.b)∧w'.cell? ⟨b2,off2+k2*6+4,none⟩=some (.string q.2.s)∧w'.cell? ⟨b2,off2+k2*6+5,none⟩=some (.int .i64 q.2.d)from⟨qaa hb (qa6 HBx.out).1.1,qaa hb (qa6 HBx.out).1.2.1,qaa hb (qa6 HBx.out).1.2.2.1,qaa hb (qa6 HBx.out).1.2.2.2.1,qaa hb (qa6 HBx.out).1.2.2.2.2.1,qaa hb (qa6 HBx.out).1.2.2.2.2.2,HQ.out _ (HbX.out.via hb HbX.out.size)⟩);refine wpRg HSx.out (bwD Wx) (by kernel_rfl) (fun hHeld=>?_)
       refine' tk 0 ?_;(try simp only[tkS]);refine' tk 1 ?_;(try simp only[tkS]);refine' tk 2 ?_;(try simp only[tkS]);refine' tk 3 ?_;(try simp only[tkS]);refine' tk 4 ?_;(try simp only[tkS]);refine' tk 5 ?_;(try simp only[tkS]);refine' tk 6 ?_;(try simp only[tkS]);refine tk1 7 (fun K hK=>?_)
       go_simp;go_at_call 99;refine(H99.out _).mono ?_
       rintro e5 w9 ⟨rfl,hb9⟩;have H9:=hI (qab (bwD Wx) hb9);clear hb9;refine hK.out _ _ (by exact HSx.out _ (H9.out)) (fun hHeld=>?_)
       clear hK K;(try simp only[tkS]);refine' tk 8 ?_;(try simp only[tkS]);refine tkD ?_ _
       have H9':=hI (H9.out);have HX9:=hI (HBx.out.below H9'.out);have Hb9:=hI (HbX.out.via H9'.out HbX.out.size);have Ho9:=hI (qae HoX.out H9'.out);have HBA:=HX9;have HbA:=Hb9;have HoA:=Ho9;go_upto_region 11 with fail
       generalize hWA:w9=WA at*;clear hWA;have HSA:=hI (fun w' (hb:Below WA.heap.size WA w')=>show w'.cell? ⟨bx,0,none⟩=some (.int .i64 p.1.b)∧w'.cell? ⟨bx,1,none⟩=some (.string p.1.s)∧w'.cell? ⟨bx,2,none⟩=some (.int .i64 p.1.d)∧w'.cell? ⟨bx,3,none⟩=some (.int .i64 p.2.b)∧w'.cell? ⟨bx,4,none⟩=some (.string p.2.s)∧w'.cell? ⟨bx,5,none⟩=some (.int .i64 p.2.d)∧w'.cell? ⟨b2,off2+k2*6,none⟩=some (.int .i64 q.1.b)∧w'.cell? ⟨b2,off2+k2*6+1,none⟩=some (.string q.1.s)∧w'.cell? ⟨b2,off2+k2*6+2,none⟩=some (.int .i64 q.1.d)∧w'.cell? ⟨b2,off2+k2*6+3,none⟩=some (.int .i64 q.2.b)∧w'.cell? ⟨b2,off2+k2*6+4,none⟩=some (.string q.2.s)∧w'.cell? ⟨b2,off2+k2*6+5,none⟩=some (.int .i64 q.2.d)from⟨qaa hb (qa6 HBA.out).1.1,qaa hb (qa6 HBA.out).1.2.1,qaa hb (qa6 HBA.out).1.2.2.1,qaa hb (qa6 HBA.out).1.2.2.2.1,qaa hb (qa6 HBA.out).1.2.2.2.2.1,qaa hb (qa6 HBA.out).1.2.2.2.2.2,HQ.out _ (HbA.out.via hb HbA.out.size)⟩);refine wpRg HSA.out (bwD WA) (by kernel_rfl) (fun hHeld=>?_)
       refine' tk 0 ?_;(try simp only[tkS]);refine' tk 1 ?_;(try simp only[tkS]);refine' tk 2 ?_;(try simp only[tkS]);refine' tk 3 ?_;(try simp only[tkS]);refine' tk 4 ?_;(try simp only[tkS]);refine' tk 5 ?_;(try simp only[tkS]);refine' tk 6 ?_;(try simp only[tkS]);refine tk1 7 (fun K hK=>?_)
       go_simp;go_at_call 99;refine(H98.out _).mono ?_
       rintro e5 w7 ⟨rfl,hb7⟩;have H7:=hI (qab (bwD WA) hb7);clear hb7;refine hK.out _ _ (by exact HSA.out _ (H7.out)) (fun hHeld=>?_)
       clear hK K;(try simp only[tkS]);refine' tk 8 ?_;(try simp only[tkS]);refine tkD ?_ _
       have Hc:=hI (H7.out);have HXc:=hI (HBA.out.below Hc.out);have HbC:=hI (HbA.out.via Hc.out HbA.out.size);have HoC:=hI (qae HoA.out Hc.out);obtain⟨s0,s1,s2,s3,s4,s5⟩:=HQ.out _ HbC.out;obtain⟨⟨x0,x1,x2,x3,x4,x5⟩,f0,f1,f2,f3,f4,f5⟩:=qa6 HXc.out;have HXd:=hI (qpu HXc.out (.int .i64 q.2.b) (.string q.2.s) (.int .i64 q.2.d));have HbD:=hI (qjy (g:=bx) (.int .i64 q.2.b) (.string q.2.s) (.int .i64 q.2.d) HbC.out Hgx.out);have HoD:=hI (qbn (qbn (qbn HoC.out Hne.out 3 (.int .i64 q.2.b)) Hne.out 4 (.string q.2.s)) Hne.out 5 (.int .i64 q.2.d));go_upto_region 13 with fail
       clear s0 s1 s2 s3 s4 s5 x0 x1 x2 x3 x4 x5 f0 f1 f2 f3 f4 f5;generalize hWD:((w7.setCell ⟨bx,3,none⟩ (.int .i64 q.2.b)).setCell ⟨bx,4,none⟩ (.string q.2.s)).setCell ⟨bx,5,none⟩ (.int .i64 q.2.d)=WD at*;clear hWD;obtain⟨⟨y0,y1,y2,y3,y4,y5⟩,-⟩:=qa6 HXd.out
       go_wp2_with (at_builtin;refine qct ER (by decide) (rrow (p.1,q.2)) rfl _ _ rfl w.heap.size _ _ _ rfl rfl HoD.out rfl (one6 (p.1,q.2)) (by omega) (by decide) HbD.out.size ?_;intro v' w5 hown' hg';have Hb5:=hI (qap HbD.out HoD.out hg' HbD.out.size);have Hown5:=hI hown';clear hown' hg')
       go_roundw
       case rel=>exact⟨k2+1,c2+1,by omega,by go_num,Hb5.out,by rw[Hnx2.out,Hm1.out,qbs];exact Hown5.out,by rw[Hpre2.out.1];omega,fun r hr=>by
        rw[Hnx2.out]at hr;rcases List.mem_append.1 hr with h|h
        ·exact Hpre2.out.2 r h
        ·cases List.mem_singleton.1 h
         rw[Hm1.out]
         exact⟨Hpok.out.1,Hqok.out.2⟩⟩
       case measure=>simp[intOf]<;>omega
      ·rw[if_neg hB]at Hm1
       have HoX:=hI (qae Hown.out HB1.out);have Hne:=hI (fun g hg=>Nat.ne_of_lt (Hown.out.lt g hg).2);have HbX:=hI (Hbw.out.via HB1.out Hbw.out.size);have Hgx:=hI Hbw.out.size;clear Hown Hbw HB1;go_upto_region 9 with fail
       generalize hWx:wr.alloc (.cells #[.int .i64 p.1.b,.string p.1.s,.int .i64 p.1.d,.int .i64 p.2.b,.string p.2.s,.int .i64 p.2.d] 119)=Wx at*;generalize hbx:wr.heap.size=bx at*;clear hbx hWx;have HSx:=hI (fun w' (hb:Below Wx.heap.size Wx w')=>show w'.cell? ⟨bx,0,none⟩=some (.int .i64 p.1.b)∧w'.cell? ⟨bx,1,none⟩=some (.string p.1.s)∧w'.cell? ⟨bx,2,none⟩=some (.int .i64 p.1.d)∧w'.cell? ⟨bx,3,none⟩=some (.int .i64 p.2.b)∧w'.cell? ⟨bx,4,none⟩=some (.string p.2.s)∧w'.cell? ⟨bx,5,none⟩=some (.int .i64 p.2.d)∧w'.cell? ⟨b2,off2+k2*6,none⟩=some (.int .i64 q.1.b)∧w'.cell? ⟨b2,off2+k2*6+1,none⟩=some (.string q.1.s)∧w'.cell? ⟨b2,off2+k2*6+2,none⟩=some (.int .i64 q.1.d)∧w'.cell? ⟨b2,off2+k2*6+3,none⟩=some (.int .i64 q.2.b)∧w'.cell? ⟨b2,off2+k2*6+4,none⟩=some (.string q.2.s)∧w'.cell? ⟨b2,off2+k2*6+5,none⟩=some (.int .i64 q.2.d)from⟨qaa hb (qa6 HBx.out).1.1,qaa hb (qa6 HBx.out).1.2.1,qaa hb (qa6 HBx.out).1.2.2.1,qaa hb (qa6 HBx.out).1.2.2.2.1,qaa hb (qa6 HBx.out).1.2.2.2.2.1,qaa hb (qa6 HBx.out).1.2.2.2.2.2,HQ.out _ (HbX.out.via hb HbX.out.size)⟩);refine wpRg HSx.out (bwD Wx) (by kernel_rfl) (fun hHeld=>?_)
       refine' tk 0 ?_;(try simp only[tkS]);refine' tk 1 ?_;(try simp only[tkS]);refine' tk 2 ?_;(try simp only[tkS]);refine' tk 3 ?_;(try simp only[tkS]);refine' tk 4 ?_;(try simp only[tkS]);refine' tk 5 ?_;(try simp only[tkS]);refine' tk 6 ?_;(try simp only[tkS]);refine tk1 7 (fun K hK=>?_)
       go_simp;go_at_call 99;refine(H99.out _).mono ?_
       rintro e5 w9 ⟨rfl,hb9⟩;have H9:=hI (qab (bwD Wx) hb9);clear hb9;refine hK.out _ _ (by exact HSx.out _ (H9.out)) (fun hHeld=>?_)
       clear hK K;(try simp only[tkS]);refine' tk 8 ?_;(try simp only[tkS]);refine tkD ?_ _
       have H9':=hI (H9.out);have HX9:=hI (HBx.out.below H9'.out);have Hb9:=hI (HbX.out.via H9'.out HbX.out.size);have Ho9:=hI (qae HoX.out H9'.out);have HBA:=HX9;have HbA:=Hb9;have HoA:=Ho9;go_upto_region 11 with fail
       generalize hWA:w9=WA at*;clear hWA;have HSA:=hI (fun w' (hb:Below WA.heap.size WA w')=>show w'.cell? ⟨bx,0,none⟩=some (.int .i64 p.1.b)∧w'.cell? ⟨bx,1,none⟩=some (.string p.1.s)∧w'.cell? ⟨bx,2,none⟩=some (.int .i64 p.1.d)∧w'.cell? ⟨bx,3,none⟩=some (.int .i64 p.2.b)∧w'.cell? ⟨bx,4,none⟩=some (.string p.2.s)∧w'.cell? ⟨bx,5,none⟩=some (.int .i64 p.2.d)∧w'.cell? ⟨b2,off2+k2*6,none⟩=some (.int .i64 q.1.b)∧w'.cell? ⟨b2,off2+k2*6+1,none⟩=some (.string q.1.s)∧w'.cell? ⟨b2,off2+k2*6+2,none⟩=some (.int .i64 q.1.d)∧w'.cell? ⟨b2,off2+k2*6+3,none⟩=some (.int .i64 q.2.b)∧w'.cell? ⟨b2,off2+k2*6+4,none⟩=some (.string q.2.s)∧w'.cell? ⟨b2,off2+k2*6+5,none⟩=some (.int .i64 q.2.d)from⟨qaa hb (qa6 HBA.out).1.1,qaa hb (qa6 HBA.out).1.2.1,qaa hb (qa6 HBA.out).1.2.2.1,qaa hb (qa6 HBA.out).1.2.2.2.1,qaa hb (qa6 HBA.out).1.2.2.2.2.1,qaa hb (qa6 HBA.out).1.2.2.2.2.2,HQ.out _ (HbA.out.via hb HbA.out.size)⟩);refine wpRg HSA.out (bwD WA) (by kernel_rfl) (fun hHeld=>?_)
       refine' tk 0 ?_;(try simp only[tkS]);refine' tk 1 ?_;(try simp only[tkS]);refine' tk 2 ?_;(try simp only[tkS]);refine' tk 3 ?_;(try simp only[tkS]);refine' tk 4 ?_;(try simp only[tkS]);refine' tk 5 ?_;(try simp only[tkS]);refine' tk 6 ?_;(try simp only[tkS]);refine tk1 7 (fun K hK=>?_)
       go_simp;go_at_call 99;refine(H98.out _).mono ?_
       rintro e5 w7 ⟨rfl,hb7⟩;have H7:=hI (qab (bwD WA) hb7);clear hb7;refine hK.out _ _ (by exact HSA.out _ (H7.out)) (fun hHeld=>?_)
       clear hK K;(try simp only[tkS]);refine' tk 8 ?_;(try simp only[tkS]);refine tkD ?_ _
       have Hc:=hI (H7.out);have HXc:=hI (HBA.out.below Hc.out);have HbC:=hI (HbA.out.via Hc.out HbA.out.size);have HoC:=hI (qae HoA.out Hc.out);obtain⟨s0,s1,s2,s3,s4,s5⟩:=HQ.out _ HbC.out;obtain⟨⟨x0,x1,x2,x3,x4,x5⟩,f0,f1,f2,f3,f4,f5⟩:=qa6 HXc.out
       go_wp2_with (at_builtin;refine qct ER (by decide) (rrow (p.1,p.2)) rfl _ _ rfl w.heap.size _ _ _ rfl rfl HoC.out rfl (one6 (p.1,p.2)) (by omega) (by decide) HbC.out.size ?_;intro v' w5 hown' hg';have Hb5:=hI (qap HbC.out HoC.out hg' HbC.out.size);have Hown5:=hI hown';clear hown' hg')
       go_roundw
       case rel=>exact⟨k2+1,c2+1,by omega,by go_num,Hb5.out,by rw[Hnx2.out,Hm1.out,qbs];exact Hown5.out,by rw[Hpre2.out.1];omega,fun r hr=>by
        rw[Hnx2.out]at hr;rcases List.mem_append.1 hr with h|h
        ·exact Hpre2.out.2 r h
        ·cases List.mem_singleton.1 h
         rw[Hm1.out]
         exact⟨Hpok.out.1,Hpok.out.2⟩⟩
       case measure=>simp[intOf]<;>omega
    ·obtain rfl:k2=m:=by omega
     have hkm:¬(k2:Int)<(k2:Int):=by omega
     have Hbw:=hI hbw;have Hfin:=hI (show G++(ss.take k2).map (fun q=>qes ltR p q)=qb1 ltR (rs.take (k+1)) ss by rw[List.take_of_length_le (by rw[Hlm.out];exact Nat.le_refl _),←Hnx.out]);have Hown:=hI hown;have Hpre2:=hI hpre.out;clear hbw hown hpre
     go_wp2_with fail
     go_roundw
     case rel=>exact⟨k+1,_,c2,by omega,by go_num,Hbw.out,Hown.out,Hfin.out,by rw[List.length_append,Hpre.out.2.1,List.length_map,List.length_take,Hlm.out,Nat.min_self,Hpre2.out.1],Hpre2.out.2⟩
     case measure=>simp[intOf]<;>omega
  ·obtain rfl:k=n:=by omega
   have hkn:¬(k:Int)<(k:Int):=by omega
   have Hfin:=hI (show G=qb1 ltR rs ss by rw[hpre.out.1,List.take_of_length_le (by rw[Hln.out];exact Nat.le_refl _)])
   have Hl2:=hI (show G.length≤1000 by
    rw[Hfin.out,Hlen.out];have:=Nat.mul_le_mul hn hm
    omega)
   have Hbw:=hI hbw;have Hown:=hI hown;have HGok:=hI hpre.out.2.2;clear hbw hown hpre
   go_wp2_with (go_at_call 79;refine(HJ.out _ _ _ (qa8 Hown.out) HGok.out Hl2.out).mono ?_;rintro e w6 ⟨v6,rfl,hown6,hb6⟩;have Hown6:=hI hown6;have Hb6:=hI hb6;clear hown6 hb6)
   go_ret
   exact⟨_,rfl,by rw[←Hfin.out];exact qce Hown6.out Hbw.out.size,Hbw.out.via Hb6.out Hbw.out.size⟩
end Go.Proofs.YtacihodamichhaaGreatDoor
