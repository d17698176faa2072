/- Parts of the proof. -/
import Derived.Test.YtacihodamichhaaGreatDoorU27
set_option maxHeartbeats 32000000
namespace Go.Proofs.YtacihodamichhaaGreatDoor
open Go.RowKit
theorem qqf{w wr:World}{B m g cap:Nat}{S:List RP}(h:w.ownsRow B 119 6 (.slice (some ⟨g,0,none⟩) m cap) m (qcp S))(hb:Below w.heap.size w wr){q:Nat}(hq:q<m):∃s,S[q]?=some s∧qur wr g (q*6) s:=by
 obtain⟨b,off,s,he,hs,hc⟩:=(qeb h).at hb hq;cases he
 rw[Nat.zero_add]at hc;exact⟨s,hs,hc⟩
theorem of6(r:RP)(j:Nat)(hj:j<6):(#[.int .i64 r.1.b,.string r.1.s,.int .i64 r.1.d,.int .i64 r.2.b,.string r.2.s,.int .i64 r.2.d]:Array Value)[j]?=some (([rrow r].getD 0 []).getD j undef):=by
 match j,hj with
 |0,_=>rfl
 |1,_=>rfl
 |2,_=>rfl
 |3,_=>rfl
 |4,_=>rfl
 |5,_=>rfl
theorem qlf(l:List RP):∀r∈l.map rrow,r.length=6:=fun r hr=>by obtain⟨p,_,rfl⟩:=List.mem_map.1 hr;rfl
theorem qs8(l:List RP):∀r∈l.map rrow,∀u∈r,u.oneCell'=true:=fun r hr=>by obtain⟨p,_,rfl⟩:=List.mem_map.1 hr;exact one6 p
theorem qj7(I:List RP):(qcp I).length=I.length*6:=by
 unfold qcp;rw[qcr (qlf I),List.length_map]
theorem qw5{W:World}{B g cap j:Nat}{I:List RP}{q:RP}(c:Cut)(hI:I.length=j)(hown:W.ownsRow B 119 6 (.slice (some ⟨g,0,none⟩) (j+1) cap) (j+1) (qcp (I++[q]))):
  (((W.setCell ⟨g,j*6+3,none⟩ (.int .i64 c.b)).setCell ⟨g,j*6+4,none⟩ (.string c.s)).setCell ⟨g,j*6+5,none⟩ (.int .i64 c.d)).ownsRow B 119 6 (.slice (some ⟨g,0,none⟩) (j+1) cap) (j+1) (qcp (I++[(q.1,c)])):=by
 have h1:=qak hown (i:=j*6+3) (by omega) (.int .i64 c.b);have h2:=qak h1 (i:=j*6+4) (by omega) (.string c.s);have h3:=qak h2 (i:=j*6+5) (by omega) (.int .i64 c.d)
 have e:∀i v (r:List Value),(qcp I++r).set (j*6+i) v=qcp I++r.set i v:=fun i v r=>by
  rw[List.set_append_right _ _ (by rw[qj7,hI];omega),qj7,hI,Nat.add_sub_cancel_left]
 rw[qdx,e,e,e]at h3;rw[qdx];exact h3
theorem qt5{B g o:Nat}{w W:World}(c:Cut)(h:Below B w W)(hg:B≤g):Below B w (((W.setCell ⟨g,o+3,none⟩ (.int .i64 c.b)).setCell ⟨g,o+4,none⟩ (.string c.s)).setCell ⟨g,o+5,none⟩ (.int .i64 c.d)):=((h.setCell hg _).setCell hg _).setCell hg _
theorem qw9{w:World}{M e sz n g cap:Nat}{xs:List Value}(h:w.ownsRow M e sz (.slice (some ⟨g,0,none⟩) n cap) n xs)(i:Nat):w.frozen? ⟨g,i,none⟩=false:=by
 rcases h.2 with⟨hv,_⟩|⟨g2,cap2,cur,hv,-,hgb,-⟩
 ·cases hv
 ·cases hv
  exact frozen_of_row w g i cur _ hgb
set_option maxRecDepth 10000 in
theorem qov(v:Value)(rs:List RP)(w:World)(h:Rgs w v rs)(hok:∀r∈rs,OkR r)(hn:rs.length≤1000):
  Calls Tryz.prog 79 #[v] w (RetP (fun r w'=>w'.ownsRow w.heap.size 119 6 r (qa1 rs).length (qcp (qa1 rs))) w):=by
 obtain⟨a,c,rfl,hc1,hc2⟩:=h.open;unfold maxLen at hc2;have HX:=hI h;have Hok:=hI hok;clear h hok;generalize hln:rs.length=n at*;have Hln:=hI hln;clear hln;have HN:=hI (fun W:World=>World.ownsRow_nil W w.heap.size 119 6)
 go_enter Tryz.func79,Tryz.ntmps79
 go_wp2_with fail
 go_loopw [4,3] (fun i s wr=>∃(k m:Nat) (S:List RP),k≤n∧i=.int .i64 (k:Int)∧Below w.heap.size w wr∧wr.ownsRow w.heap.size 119 6 s m (qcp S)∧m≤k∧Hid (S=qh6 (rs.take k) []∧S.length=m∧∀r∈S,OkR r)) (fun i _ _=>n-(intOf i).toNat)
 case atStart=>exact⟨0,0,[],by omega,rfl,Below.refl _ _,HN.out _,by omega,rfl,rfl,fun r hr=>by cases hr⟩
 case round=>
  obtain⟨k,m,S,hk,rfl,hbw,hown,hmk,hpre⟩:=hrel;have Hbw:=hI hbw;have Hown:=hI hown;obtain⟨aa,cap,rfl,hcp,hcm⟩:=qas hown;unfold maxLen at hcm;rcases Nat.lt_or_ge k n with hlt|hge
  ·obtain⟨b,off,r,rfl,hx,d0,d1,d2,d3,d4,d5⟩:=HX.out.at (Below.refl _ _) hlt
   have hkn:(k:Int)<(n:Int):=by omega
   have hk0:(0:Int)≤(k:Int):=Int.natCast_nonneg _;have hkw:IntKind.i64.wrap ((k:Int)+1)=(k:Int)+1:=IntWalk.i64_in _ (by omega);have hblt:=World.block_lt_of_cell? _ _ d0;have Hcell:=hI (fun w' (hb:Below w.heap.size w w')=>show w'.cell? ⟨b,off+k*6,none⟩=some (.int .i64 r.1.b)∧w'.cell? ⟨b,off+k*6+1,none⟩=some (.string r.1.s)∧w'.cell? ⟨b,off+k*6+2,none⟩=some (.int .i64 r.1.d)∧w'.cell? ⟨b,off+k*6+3,none⟩=some (.int .i64 r.2.b)∧w'.cell? ⟨b,off+k*6+4,none⟩=some (.string r.2.s)∧w'.cell? ⟨b,off+k*6+5,none⟩=some (.int .i64 r.2.d)from⟨(hb.cell (p:=⟨b,off+k*6,none⟩) hblt).trans d0,(hb.cell (p:=⟨b,off+k*6+1,none⟩) hblt).trans d1,(hb.cell (p:=⟨b,off+k*6+2,none⟩) hblt).trans d2,(hb.cell (p:=⟨b,off+k*6+3,none⟩) hblt).trans d3,(hb.cell (p:=⟨b,off+k*6+4,none⟩) hblt).trans d4,(hb.cell (p:=⟨b,off+k*6+5,none⟩) hblt).trans d5⟩);obtain⟨c0,c1,c2,c3,c4,c5⟩:=Hcell.out _ hbw;have hrok:=Hok.out r (List.mem_of_getElem? hx);have H99:=hI (fun w'=>qja r.1 r.2 w' hrok.1 hrok.2);unfold rcA rcut at H99;have Hrok:=hI hrok;have Hx:=hI hx;have Hpre:=hI hpre.out;have Hmk:=hI hmk;clear hx hbw hown d0 d1 d2 d3 d4 d5 hblt hrok hpre hmk;generalize hR:cmpG (toP r.1) (toP r.2)=R at*;have HR:=hI hR;clear hR
   by_cases hRs:0≤R
   ·have Hnx:=hI (show S=qh6 (rs.take (k+1)) []by
     rw[qbd Hx.out,qn6 (show ¬CG _ _ by unfold CG;rw[HR.out];omega)]
     exact Hpre.out.1)
    go_upto_region 5 with fail
    refine wp_region_held_drew (S:=(fun w'=>w'.cell? ⟨b,off+k*6,none⟩=some (.int .i64 r.1.b)∧w'.cell? ⟨b,off+k*6+1,none⟩=some (.string r.1.s)∧w'.cell? ⟨b,off+k*6+2,none⟩=some (.int .i64 r.1.d)∧w'.cell? ⟨b,off+k*6+3,none⟩=some (.int .i64 r.2.b)∧w'.cell? ⟨b,off+k*6+4,none⟩=some (.string r.2.s)∧w'.cell? ⟨b,off+k*6+5,none⟩=some (.int .i64 r.2.d))) (by kernel_rfl) (by exact Hcell.out _ (Below.via Hbw.out (bwD wr) Hbw.out.size)) (fun hHeld=>?_)
    refine' tk 0 ?_;(try simp only[tkS]);refine' tk 1 ?_;(try simp only[tkS]);refine' tk 2 ?_;(try simp only[tkS]);refine' tk 3 ?_;(try simp only[tkS]);refine' tk 4 ?_;(try simp only[tkS]);refine' tk 5 ?_;(try simp only[tkS]);refine' tk 6 ?_;(try simp only[tkS]);refine' tk 7 ?_;(try simp only[tkS]);refine' tk 8 ?_;(try simp only[tkS]);refine' tk 9 ?_;(try simp only[tkS]);refine tk1 10 (fun K hK=>?_)
    go_simp;go_at_call 99;refine(H99.out _).mono ?_
    rintro e5 w1 ⟨rfl,hb1⟩;have Hq1:=hI (qaa (bwD wr) hb1);have H1:=hI (Below.via (Below.via Hbw.out (bwD wr) Hbw.out.size) hb1 (Below.size (Below.via Hbw.out (bwD wr) Hbw.out.size)));clear hb1;refine hK.out _ _ (by exact Hcell.out _ (H1.out)) (fun hHeld=>?_)
    clear hK K;(try simp only[tkS]);refine' tk 11 ?_;(try simp only[tkS]);refine tkD ?_ _
    go_wp2_with fail
    go_roundw
    case rel=>exact⟨k+1,m,S,by omega,by go_num,H1.out,qaf Hown.out Hq1.out,by have:=Hmk.out;omega,Hnx.out,Hpre.out.2⟩
    case measure=>simp[intOf]<;>omega
   ·have hR2:¬0≤R:=hRs
    have Hnx:=hI (show insR S r=qh6 (rs.take (k+1)) []by
     rw[qbd Hx.out,qph (show CG _ _ by unfold CG;rw[HR.out];omega),Hpre.out.1])
    clear hRs;go_upto_region 5 with fail
    refine wp_region_held_drew (S:=(fun w'=>w'.cell? ⟨b,off+k*6,none⟩=some (.int .i64 r.1.b)∧w'.cell? ⟨b,off+k*6+1,none⟩=some (.string r.1.s)∧w'.cell? ⟨b,off+k*6+2,none⟩=some (.int .i64 r.1.d)∧w'.cell? ⟨b,off+k*6+3,none⟩=some (.int .i64 r.2.b)∧w'.cell? ⟨b,off+k*6+4,none⟩=some (.string r.2.s)∧w'.cell? ⟨b,off+k*6+5,none⟩=some (.int .i64 r.2.d))) (by kernel_rfl) (by exact Hcell.out _ (Below.via Hbw.out (bwD wr) Hbw.out.size)) (fun hHeld=>?_)
    refine' tk 0 ?_;(try simp only[tkS]);refine' tk 1 ?_;(try simp only[tkS]);refine' tk 2 ?_;(try simp only[tkS]);refine' tk 3 ?_;(try simp only[tkS]);refine' tk 4 ?_;(try simp only[tkS]);refine' tk 5 ?_;(try simp only[tkS]);refine' tk 6 ?_;(try simp only[tkS]);refine' tk 7 ?_;(try simp only[tkS]);refine' tk 8 ?_;(try simp only[tkS]);refine' tk 9 ?_;(try simp only[tkS]);refine tk1 10 (fun K hK=>?_)
    go_simp;go_at_call 99;refine(H99.out _).mono ?_
    rintro e5 w1 ⟨rfl,hb1⟩;have Hq1:=hI (qaa (bwD wr) hb1);have H1:=hI (Below.via (Below.via Hbw.out (bwD wr) Hbw.out.size) hb1 (Below.size (Below.via Hbw.out (bwD wr) Hbw.out.size)));clear hb1;refine hK.out _ _ (by exact Hcell.out _ (H1.out)) (fun hHeld=>?_)
    clear hK K;(try simp only[tkS]);refine' tk 11 ?_;(try simp only[tkS]);refine tkD ?_ _
    have hown1:=qaf Hown.out Hq1.out;have Hown1:=hI hown1;have HW1:=hI H1.out;have hm1000:m≤1000:=by have:=Hmk.out;omega
    clear hown1;go_upto_block 2 with fail
    go_cut [5]from 27 to 46 (fun kk wz=>∃q:Nat,q≤m∧kk=.int .i64 (q:Int)∧Below w1.heap.size w1 wz∧Hid ((∀s∈S.take q,¬ltR r.1 s.1)∧(∀s,S[q]?=some s→ltR r.1 s.1)))
    case first=>
     go_wp2_with fail
     go_loopw [5] (fun kk wz=>∃q:Nat,q≤m∧kk=.int .i64 (q:Int)∧Below w1.heap.size w1 wz∧Hid (∀s∈S.take q,¬ltR r.1 s.1)) (fun kk _=>m-(intOf kk).toNat)
     case atStart=>exact⟨0,by omega,rfl,Below.refl _ _,fun s hs=>by simp at hs⟩
     case round=>
      rename World=>wz
      obtain⟨q,hq,rfl,hbz,hpr2⟩:=hrel;have Hbz:=hI hbz;have Hpr2:=hI hpr2.out;have hqw:IntKind.i64.wrap ((q:Int)+1)=(q:Int)+1:=IntWalk.i64_in _ (by omega);have hq0:(0:Int)≤(q:Int):=Int.natCast_nonneg _;rcases Nat.lt_or_ge q m with hlq|hgq
      ·obtain⟨g,rfl⟩:=qbk Hown.out (by omega)
       obtain⟨s2,hs2,e0,e1,e2,e3,e4,e5⟩:=qqf Hown1.out (Below.refl _ _) hlq;have hglt:=World.block_lt_of_cell? _ _ e0;have Hs7:=hI (fun w' (hb:Below w1.heap.size w1 w')=>show w'.cell? ⟨g,q*6,none⟩=some (.int .i64 s2.1.b)∧w'.cell? ⟨g,q*6+1,none⟩=some (.string s2.1.s)∧w'.cell? ⟨g,q*6+2,none⟩=some (.int .i64 s2.1.d)∧w'.cell? ⟨b,off+k*6,none⟩=some (.int .i64 r.1.b)∧w'.cell? ⟨b,off+k*6+1,none⟩=some (.string r.1.s)∧w'.cell? ⟨b,off+k*6+2,none⟩=some (.int .i64 r.1.d)from⟨(hb.cell (p:=⟨g,q*6,none⟩) hglt).trans e0,(hb.cell (p:=⟨g,q*6+1,none⟩) hglt).trans e1,(hb.cell (p:=⟨g,q*6+2,none⟩) hglt).trans e2,(Hcell.out _ (HW1.out.via hb HW1.out.size)).1,(Hcell.out _ (HW1.out.via hb HW1.out.size)).2.1,(Hcell.out _ (HW1.out.via hb HW1.out.size)).2.2.1⟩);have Hs2:=hI hs2;have hsok:=Hpre.out.2.2 s2 (List.mem_of_getElem? hs2);have H98:=hI (fun w'=>qja s2.1 r.1 w' hsok.1 Hrok.out.1);unfold rcA rcut at H98;generalize hQ:cmpG (toP s2.1) (toP r.1)=Q at*;have HQ:=hI hQ;clear hQ hs2 hsok hglt e0 e1 e2 e3 e4 e5 hbz hpr2;have hqm:(q:Int)<(m:Int):=by omega
       by_cases hQs:Q≤0
       ·go_upto_region 7 with fail
        have hd1:decide ((q:Int)<(m:Int))=true:=decide_eq_true hqm;have hd2:decide (q<m)=true:=decide_eq_true hlq;refine wp_region_held_drew (S:=(fun w'=>w'.cell? ⟨g,q*6,none⟩=some (.int .i64 s2.1.b)∧w'.cell? ⟨g,q*6+1,none⟩=some (.string s2.1.s)∧w'.cell? ⟨g,q*6+2,none⟩=some (.int .i64 s2.1.d)∧w'.cell? ⟨b,off+k*6,none⟩=some (.int .i64 r.1.b)∧w'.cell? ⟨b,off+k*6+1,none⟩=some (.string r.1.s)∧w'.cell? ⟨b,off+k*6+2,none⟩=some (.int .i64 r.1.d))) (by kernel_rfl) (by exact Hs7.out _ (Below.via Hbz.out (bwD _) Hbz.out.size)) (fun hHeld=>?_)
        refine' tk 0 ?_;(try simp only[tkS]);refine' tk 1 ?_;(try simp only[tkS]);refine' tk 2 ?_;(try simp only[tkS]);refine' tk 3 ?_;(try simp only[tkS]);refine' tk 4 ?_;(try simp only[tkS]);refine' tk 5 ?_;(try simp only[tkS]);refine' tk 6 ?_;(try simp only[tkS]);refine' tk 7 ?_;(try simp only[tkS]);refine' tk 8 ?_;(try simp only[tkS]);refine' tk 9 ?_;(try simp only[tkS]);refine' tk 10 ?_;(try simp only[tkS]);refine' tk 11 ?_;(try simp only[tkS]);refine' tk 12 ?_;(try simp only[tkS]);refine' tk 13 ?_;(try simp only[tkS]);refine' tk 14 ?_;(try simp only[tkS]);refine tk1 15 (fun K hK=>?_)
        go_simp;go_at_call 99;refine(H98.out _).mono ?_
        rintro e5 w2 ⟨rfl,hb2⟩;have H2:=hI (Below.via (Below.via Hbz.out (bwD _) Hbz.out.size) hb2 (Below.size (Below.via Hbz.out (bwD _) Hbz.out.size)));clear hb2;refine hK.out _ _ (by exact Hs7.out _ (H2.out)) (fun hHeld=>?_)
        clear hK K;(try simp only[tkS]);refine' tk 16 ?_;(try simp only[tkS]);refine' tk 17 ?_;(try simp only[tkS]);refine tkD ?_ _
        go_wp2_with fail
        go_roundw
        case rel=>exact⟨q+1,by omega,by go_num,H2.out,fun s hs=>by
         rw[qbd Hs2.out]at hs;rcases List.mem_append.1 hs with h|h
         ·exact Hpr2.out s h
         ·cases List.mem_singleton.1 h
          exact qnu.2 (by rw[HQ.out];exact hQs)⟩
        case measure=>simp[intOf]<;>omega
       ·have hQ2:¬Q≤0:=hQs
        go_upto_region 7 with fail
        have hd1:decide ((q:Int)<(m:Int))=true:=decide_eq_true hqm;have hd2:decide (q<m)=true:=decide_eq_true hlq;refine wp_region_held_drew (S:=(fun w'=>w'.cell? ⟨g,q*6,none⟩=some (.int .i64 s2.1.b)∧w'.cell? ⟨g,q*6+1,none⟩=some (.string s2.1.s)∧w'.cell? ⟨g,q*6+2,none⟩=some (.int .i64 s2.1.d)∧w'.cell? ⟨b,off+k*6,none⟩=some (.int .i64 r.1.b)∧w'.cell? ⟨b,off+k*6+1,none⟩=some (.string r.1.s)∧w'.cell? ⟨b,off+k*6+2,none⟩=some (.int .i64 r.1.d))) (by kernel_rfl) (by exact Hs7.out _ (Below.via Hbz.out (bwD _) Hbz.out.size)) (fun hHeld=>?_)
        refine' tk 0 ?_;(try simp only[tkS]);refine' tk 1 ?_;(try simp only[tkS]);refine' tk 2 ?_;(try simp only[tkS]);refine' tk 3 ?_;(try simp only[tkS]);refine' tk 4 ?_;(try simp only[tkS]);refine' tk 5 ?_;(try simp only[tkS]);refine' tk 6 ?_;(try simp only[tkS]);refine' tk 7 ?_;(try simp only[tkS]);refine' tk 8 ?_;(try simp only[tkS]);refine' tk 9 ?_;(try simp only[tkS]);refine' tk 10 ?_;(try simp only[tkS]);refine' tk 11 ?_;(try simp only[tkS]);refine' tk 12 ?_;(try simp only[tkS]);refine' tk 13 ?_;(try simp only[tkS]);refine' tk 14 ?_;(try simp only[tkS]);refine tk1 15 (fun K hK=>?_)
        go_simp;go_at_call 99;refine(H98.out _).mono ?_
        rintro e5 w2 ⟨rfl,hb2⟩;have H2:=hI (Below.via (Below.via Hbz.out (bwD _) Hbz.out.size) hb2 (Below.size (Below.via Hbz.out (bwD _) Hbz.out.size)));clear hb2;refine hK.out _ _ (by exact Hs7.out _ (H2.out)) (fun hHeld=>?_)
        clear hK K;(try simp only[tkS]);refine' tk 16 ?_;(try simp only[tkS]);refine' tk 17 ?_;(try simp only[tkS]);refine tkD ?_ _
        go_wp2_with fail
        go_meet
        exact⟨q,by omega,rfl,H2.out,Hpr2.out,fun s hs=>by
         rw[Hs2.out]at hs;cases hs
         exact qia.1 (by rw[HQ.out];omega)⟩
      ·obtain rfl:q=m:=by omega
       clear hbz hpr2;go_upto_region 7 with fail
       have hd1:decide ((q:Int)<(q:Int))=false:=decide_eq_false (by omega);have hd2:decide (q<q)=false:=decide_eq_false (by omega);refine wp_region_held_drew (S:=(fun _=>True)) (by kernel_rfl) (by exact trivial) (fun hHeld=>?_)
       refine' tk 0 ?_;(try simp only[tkS]);refine' tk 1 ?_;(try simp only[tkS]);refine' tk 2 ?_;(try simp only[tkS]);refine' tk 3 ?_;(try simp only[tkS]);refine' tk 4 ?_;(try simp only[tkS]);refine' tkU 5 ?_;(try simp only[tkS]);refine' tkU 6 ?_;(try simp only[tkS]);refine' tkU 7 ?_;(try simp only[tkS]);refine' tkU 8 ?_;(try simp only[tkS]);refine' tkU 9 ?_;(try simp only[tkS]);refine' tkU 10 ?_;(try simp only[tkS]);refine' tkU 11 ?_;(try simp only[tkS]);refine' tkU 12 ?_;(try simp only[tkS]);refine' tkU 13 ?_;(try simp only[tkS]);refine' tkU 14 ?_;(try simp only[tkS]);refine' tkU 15 ?_;(try simp only[tkS]);refine' tkU 16 ?_;(try simp only[tkS]);refine' tk 17 ?_;(try simp only[tkS]);refine tkD ?_ _
       go_wp2_with fail
       go_meet
       exact⟨q,Nat.le_refl _,rfl,Below.via Hbz.out (bwD _) Hbz.out.size,Hpr2.out,fun s hs=>by
        rw[List.getElem?_eq_none (by rw[Hpre.out.2.1];exact Nat.le_refl _)]at hs
        cases hs⟩
    case rest=>
     obtain⟨q,hq,rfl,hbz,hcond⟩:=hcut
     rename World=>wz
     have HWZ:=hI (HW1.out.via hbz HW1.out.size);have Hown3:=hI (qaf Hown1.out hbz);have Hins:=hI (qwa hcond.out.1 hcond.out.2);have hqw:IntKind.i64.wrap ((q:Int)+1)=(q:Int)+1:=IntWalk.i64_in _ (by omega);have hq0:(0:Int)≤(q:Int):=Int.natCast_nonneg _;have hqm:(q:Int)≤(m:Int):=by omega
     have hqc:(q:Int)≤(cap:Int):=by omega
     have hcap0:(cap:Int)≤9223372036854775807:=by omega
     clear hbz hcond;rcases Nat.lt_or_ge q m with hlq|hgq
     ·obtain⟨g,rfl⟩:=qbk Hown.out (by omega)
      have hqc2:(q:Int)<(cap:Int):=by omega
      have hqne:¬(cap:Int)=(q:Int):=by omega
      go_upto_region 9 with fail
      refine wp_region_held_drew (S:=(fun w'=>w'.cell? ⟨b,off+k*6,none⟩=some (.int .i64 r.1.b)∧w'.cell? ⟨b,off+k*6+1,none⟩=some (.string r.1.s)∧w'.cell? ⟨b,off+k*6+2,none⟩=some (.int .i64 r.1.d)∧w'.cell? ⟨b,off+k*6+3,none⟩=some (.int .i64 r.2.b)∧w'.cell? ⟨b,off+k*6+4,none⟩=some (.string r.2.s)∧w'.cell? ⟨b,off+k*6+5,none⟩=some (.int .i64 r.2.d))) (by kernel_rfl) (by exact Hcell.out _ (HWZ.out.via (bwD _) HWZ.out.size)) (fun hHeld=>?_)
      refine' tk 0 ?_;(try simp only[tkS]);refine' tk 1 ?_;(try simp only[tkS]);refine' tk 2 ?_;(try simp only[tkS]);refine' tk 3 ?_;(try simp only[tkS]);refine' tk 4 ?_;(try simp only[tkS]);refine' tk 5 ?_;(try simp only[tkS]);refine' tk 6 ?_;(try simp only[tkS]);refine' tk 7 ?_;(try simp only[tkS]);refine' tk 9 ?_;(try simp only[tkS]);refine' tk 10 ?_;(try simp only[tkS]);refine' tk 11 ?_;(try simp only[tkS]);have hbd:Below w.heap.size w wz.drew:=HWZ.out.via (bwD _) HWZ.out.size;have hownd:=qaf Hown3.out (bwD wz);have hownd:wz.drew.ownsRow w.heap.size 119 6 (.slice (some ⟨g,0,none⟩) m cap) m (qcp S):=hownd;clear hHeld;generalize wz.drew=wd at*;have HBD:=hI hbd;have HownD:=hI hownd;clear hbd hownd;refine tk1 8 (fun K hK=>?_)
      go_simp;refine hK.out _ _ (by exact Hcell.out _ (HBD.out.alloc HBD.out.size (.cells #[.int .i64 r.1.b,.string r.1.s,.int .i64 r.1.d,.int .i64 r.2.b,.string r.2.s,.int .i64 r.2.d] 119))) (fun hHeld=>?_)
      clear hK K;(try simp only[tkS]);have hb6:=Blk.new wd #[.int .i64 r.1.b,.string r.1.s,.int .i64 r.1.d,.int .i64 r.2.b,.string r.2.s,.int .i64 r.2.d] 119
      have hs6:Sl (wd.alloc (.cells #[.int .i64 r.1.b,.string r.1.s,.int .i64 r.1.d,.int .i64 r.2.b,.string r.2.s,.int .i64 r.2.d] 119)) 6 (.slice (some ⟨wd.heap.size,0,none⟩) 1 1) [rrow r]:=by
       refine⟨some ⟨wd.heap.size,0,none⟩,1,rfl,Nat.le_refl _,by decide,.inr ⟨wd.heap.size,0,rfl,by simp,fun i j hi hj=>?_⟩⟩
       have hi:i<1:=hi;obtain rfl:i=0:=by omega
       rw[hb6.cell];simp only[Nat.zero_mul,Nat.add_zero,Nat.zero_add];exact of6 r j hj
      have HS6:=hI hs6;have HB6:=hI (HBD.out.alloc HBD.out.size (.cells #[.int .i64 r.1.b,.string r.1.s,.int .i64 r.1.d,.int .i64 r.2.b,.string r.2.s,.int .i64 r.2.d] 119));have HO6:=hI (HownD.out.alloc (.cells #[.int .i64 r.1.b,.string r.1.s,.int .i64 r.1.d,.int .i64 r.2.b,.string r.2.s,.int .i64 r.2.d] 119));clear hs6 hb6;refine tk1 12 (fun K hK=>?_)
      have hdr:=Sl.dropK (qeb HO6.out) hlq;rw[Nat.zero_add,←List.map_drop]at hdr;rw[←if_neg (c:=cap=q) (t:=some (⟨g,0,none⟩:Addr)) (e:=some (⟨g,q*6,none⟩:Addr)) (show ¬cap=q by omega)]at hdr;refine qgz ER (by decide) (by rfl) _ _ (by rfl) _ _ 1 1 (m-q) _ [rrow r] ((S.drop q).map rrow) (by rfl) (by rfl) (by exact HS6.out) (by exact hdr) (fun r' hr'=>by cases List.mem_singleton.1 hr';rfl) (qlf _) (qs8 _) (by omega) (fun h=>by cases h) (by omega) (by omega) (by decide) ?_
      intro v12 w12 hown12 hg12;obtain⟨a12,c12,rfl,-,-⟩:=qas hown12;have hb12:=qcg hg12;have HV12:=hI (show w12.ownsRow _ 119 6 (.slice a12 (1+(m-q)) c12) (1+(m-q)) (qcp (r::S.drop q))from hown12);have HO12:=hI (qaf HO6.out hb12);have HB12:=hI (HB6.out.via hb12 HB6.out.size);clear hown12 hg12 hb12 hdr;refine hK.out _ _ (by exact Hcell.out _ HB12.out) (fun hHeld=>?_)
      clear hK K;(try simp only[tkS]);refine tk1 13 (fun K hK=>?_)
      have hs1:=qeb HV12.out;have hs0:=Sl.takeK (qeb HO12.out) (show q≤m by omega);rw[←List.map_take]at hs0;refine qgz ER (by decide) (by rfl) _ _ (by rfl) _ _ q q (1+(m-q)) _ ((S.take q).map rrow) ((r::S.drop q).map rrow) (by rfl) (by rfl) (by exact hs0) (by exact hs1) (qlf _) (qlf _) (qs8 _) (by omega) (fun h=>by cases h) (by omega) (by omega) (by decide) ?_
      intro v13 w13 hown13 hg13;have hb13:=HB12.out.via (qcg hg13) HB12.out.size;have HB13:=hI hb13;have hown14:=qda hown13 HB12.out.size
      have hown15:w13.ownsRow w.heap.size 119 6 v13 (m+1) (qcp (insR S r)):=by
       have h:=hown14;rw[show q+(1+(m-q))=m+1 by omega]at h;rw[show insR S r=S.take q++(r::S.drop q)from Hins.out];unfold qcp;rw[List.map_append,List.flatten_append];exact h
      have Hown15:=hI hown15;clear hown13 hg13 hown14 hown15 hb13 hs0 hs1;refine hK.out _ _ (by exact Hcell.out _ HB13.out) (fun hHeld=>?_)
      clear hK K;(try simp only[tkS]);refine' tk 14 ?_;(try simp only[tkS]);refine tkD ?_ _
      go_wp2_with fail
      go_roundw
      case rel=>exact⟨k+1,m+1,insR S r,by omega,by go_num,HB13.out,Hown15.out,by have:=Hmk.out;omega,Hnx.out,by rw[(qdj S r).length_eq,List.length_cons,Hpre.out.2.1],fun s hs=>by
       rcases List.mem_cons.1 ((qdj S r).mem_iff.1 hs)with rfl|h
       ·exact Hrok.out
       ·exact Hpre.out.2.2 s h⟩
      case measure=>simp[intOf]<;>omega
     ·have hmq:m-q=0:=by omega
      have hqe:q=m:=by omega
      rcases Hown.out.2 with⟨hv,hm0⟩|⟨g,cap',cur,hv,-⟩
      ·simp only[Value.slice.injEq]at hv
       obtain⟨rfl,-,rfl⟩:=hv;obtain rfl:q=0:=by omega
       clear hqe hmq;subst hm0;have hm0:(0:Nat)=0:=rfl;go_upto_region 9 with fail
       refine wp_region_held_drew (S:=(fun w'=>w'.cell? ⟨b,off+k*6,none⟩=some (.int .i64 r.1.b)∧w'.cell? ⟨b,off+k*6+1,none⟩=some (.string r.1.s)∧w'.cell? ⟨b,off+k*6+2,none⟩=some (.int .i64 r.1.d)∧w'.cell? ⟨b,off+k*6+3,none⟩=some (.int .i64 r.2.b)∧w'.cell? ⟨b,off+k*6+4,none⟩=some (.string r.2.s)∧w'.cell? ⟨b,off+k*6+5,none⟩=some (.int .i64 r.2.d))) (by kernel_rfl) (by exact Hcell.out _ (HWZ.out.via (bwD _) HWZ.out.size)) (fun hHeld=>?_)
       refine' tk 0 ?_;(try simp only[tkS]);refine' tk 1 ?_;(try simp only[tkS]);refine' tk 2 ?_;(try simp only[tkS]);refine' tk 3 ?_;(try simp only[tkS]);refine' tk 4 ?_;(try simp only[tkS]);refine' tk 5 ?_;(try simp only[tkS]);refine' tk 6 ?_;(try simp only[tkS]);refine' tk 7 ?_;(try simp only[tkS]);refine' tk 9 ?_;(try simp only[tkS]);refine' tk 10 ?_;(try simp only[tkS]);refine' tk 11 ?_;(try simp only[tkS]);have hbd:Below w.heap.size w wz.drew:=HWZ.out.via (bwD _) HWZ.out.size;have hownd:=qaf Hown3.out (bwD wz);have hownd:wz.drew.ownsRow w.heap.size 119 6 (.slice none 0 0) 0 (qcp S):=hownd;clear hHeld;generalize wz.drew=wd at*;have HBD:=hI hbd;have HownD:=hI hownd;clear hbd hownd;refine tk1 8 (fun K hK=>?_)
       go_simp;refine hK.out _ _ (by exact Hcell.out _ (HBD.out.alloc HBD.out.size (.cells #[.int .i64 r.1.b,.string r.1.s,.int .i64 r.1.d,.int .i64 r.2.b,.string r.2.s,.int .i64 r.2.d] 119))) (fun hHeld=>?_)
       clear hK K;(try simp only[tkS]);have hb6:=Blk.new wd #[.int .i64 r.1.b,.string r.1.s,.int .i64 r.1.d,.int .i64 r.2.b,.string r.2.s,.int .i64 r.2.d] 119
       have hs6:Sl (wd.alloc (.cells #[.int .i64 r.1.b,.string r.1.s,.int .i64 r.1.d,.int .i64 r.2.b,.string r.2.s,.int .i64 r.2.d] 119)) 6 (.slice (some ⟨wd.heap.size,0,none⟩) 1 1) [rrow r]:=by
        refine⟨some ⟨wd.heap.size,0,none⟩,1,rfl,Nat.le_refl _,by decide,.inr ⟨wd.heap.size,0,rfl,by simp,fun i j hi hj=>?_⟩⟩
        have hi:i<1:=hi;obtain rfl:i=0:=by omega
        rw[hb6.cell];simp only[Nat.zero_mul,Nat.add_zero,Nat.zero_add];exact of6 r j hj
       have HS6:=hI hs6;have HB6:=hI (HBD.out.alloc HBD.out.size (.cells #[.int .i64 r.1.b,.string r.1.s,.int .i64 r.1.d,.int .i64 r.2.b,.string r.2.s,.int .i64 r.2.d] 119));have HO6:=hI (HownD.out.alloc (.cells #[.int .i64 r.1.b,.string r.1.s,.int .i64 r.1.d,.int .i64 r.2.b,.string r.2.s,.int .i64 r.2.d] 119));clear hs6 hb6;refine tk1 12 (fun K hK=>?_)
       refine qmd ER (by rfl) _ _ (by rfl) _ _ 1 1 _ (by rfl) (by rfl) (Nat.le_refl _) ?_
       have hb12:=Below.refl (wd.alloc (.cells #[.int .i64 r.1.b,.string r.1.s,.int .i64 r.1.d,.int .i64 r.2.b,.string r.2.s,.int .i64 r.2.d] 119)).heap.size (wd.alloc (.cells #[.int .i64 r.1.b,.string r.1.s,.int .i64 r.1.d,.int .i64 r.2.b,.string r.2.s,.int .i64 r.2.d] 119));have HV12:=hI (show(wd.alloc (.cells #[.int .i64 r.1.b,.string r.1.s,.int .i64 r.1.d,.int .i64 r.2.b,.string r.2.s,.int .i64 r.2.d] 119)).ownsRow wd.heap.size 119 6 (.slice (some ⟨wd.heap.size,0,none⟩) 1 1) 1 (qcp [r])from⟨rfl,.inr ⟨wd.heap.size,1,_,rfl,Nat.le_refl _,heap_alloc_new wd _,Nat.le_refl _,by decide,rfl,rfl⟩⟩);have HO12:=hI (qaf HO6.out hb12);have HB12:=hI (HB6.out.via hb12 HB6.out.size);clear hb12;refine hK.out _ _ (by exact Hcell.out _ HB12.out) (fun hHeld=>?_)
       clear hK K;(try simp only[tkS]);generalize hw12:wd.alloc (.cells #[.int .i64 r.1.b,.string r.1.s,.int .i64 r.1.d,.int .i64 r.2.b,.string r.2.s,.int .i64 r.2.d] 119)=w12 at*;clear hw12;refine tk1 13 (fun K hK=>?_)
       have hs1:=qeb HV12.out;have hs0:=Sl.nil w12 6;refine qgz ER (by decide) (by rfl) _ _ (by rfl) _ _ 0 0 1 _ [] ([r].map rrow) (by rfl) (by rfl) (by exact hs0) (by exact hs1) (fun _ h=>by cases h) (qlf _) (qs8 _) (by omega) (fun _=>rfl) (by omega) (by omega) (by decide) ?_
       intro v13 w13 hown13 hg13;have hb13:=HB12.out.via (qcg hg13) HB12.out.size;have HB13:=hI hb13;have hown14:=qda hown13 HB12.out.size
       have hown15:w13.ownsRow w.heap.size 119 6 v13 (0+1) (qcp (insR S r)):=by
        have h:=hown14;rw[show 0+1=0+1 by omega]at h;rw[show insR S r=[]++[r]from(by rw[List.length_eq_zero_iff.1 (show S.length=0 from Hpre.out.2.1.trans hm0)];rfl)];unfold qcp;rw[List.map_append,List.flatten_append];exact h
       have Hown15:=hI hown15;clear hown13 hg13 hown14 hown15 hb13 hs0 hs1;refine hK.out _ _ (by exact Hcell.out _ HB13.out) (fun hHeld=>?_)
       clear hK K;(try simp only[tkS]);refine' tk 14 ?_;(try simp only[tkS]);refine tkD ?_ _
       go_wp2_with fail
       go_roundw
       case rel=>exact⟨k+1,0+1,insR S r,by omega,by go_num,HB13.out,Hown15.out,by have:=Hmk.out;omega,Hnx.out,by rw[(qdj S r).length_eq,List.length_cons,Hpre.out.2.1],fun s hs=>by
        rcases List.mem_cons.1 ((qdj S r).mem_iff.1 hs)with rfl|h
        ·exact Hrok.out
        ·exact Hpre.out.2.2 s h⟩
       case measure=>simp[intOf]<;>omega
      ·simp only[Value.slice.injEq]at hv
       obtain⟨rfl,-,rfl⟩:=hv;have Hqe:=hI hqe;clear hqe;go_upto_region 9 with fail
       refine wp_region_held_drew (S:=(fun w'=>w'.cell? ⟨b,off+k*6,none⟩=some (.int .i64 r.1.b)∧w'.cell? ⟨b,off+k*6+1,none⟩=some (.string r.1.s)∧w'.cell? ⟨b,off+k*6+2,none⟩=some (.int .i64 r.1.d)∧w'.cell? ⟨b,off+k*6+3,none⟩=some (.int .i64 r.2.b)∧w'.cell? ⟨b,off+k*6+4,none⟩=some (.string r.2.s)∧w'.cell? ⟨b,off+k*6+5,none⟩=some (.int .i64 r.2.d))) (by kernel_rfl) (by exact Hcell.out _ (HWZ.out.via (bwD _) HWZ.out.size)) (fun hHeld=>?_)
       refine' tk 0 ?_;(try simp only[tkS]);refine' tk 1 ?_;(try simp only[tkS]);refine' tk 2 ?_;(try simp only[tkS]);refine' tk 3 ?_;(try simp only[tkS]);refine' tk 4 ?_;(try simp only[tkS]);refine' tk 5 ?_;(try simp only[tkS]);refine' tk 6 ?_;(try simp only[tkS]);refine' tk 7 ?_;(try simp only[tkS]);refine' tk 9 ?_;(try simp only[tkS]);refine' tk 10 ?_;(try simp only[tkS]);refine' tk 11 ?_;(try simp only[tkS]);have hbd:Below w.heap.size w wz.drew:=HWZ.out.via (bwD _) HWZ.out.size;have hownd:=qaf Hown3.out (bwD wz);have hownd:wz.drew.ownsRow w.heap.size 119 6 (.slice (some ⟨g,0,none⟩) m cap) m (qcp S):=hownd;clear hHeld;generalize wz.drew=wd at*;have HBD:=hI hbd;have HownD:=hI hownd;clear hbd hownd;refine tk1 8 (fun K hK=>?_)
       go_simp;refine hK.out _ _ (by exact Hcell.out _ (HBD.out.alloc HBD.out.size (.cells #[.int .i64 r.1.b,.string r.1.s,.int .i64 r.1.d,.int .i64 r.2.b,.string r.2.s,.int .i64 r.2.d] 119))) (fun hHeld=>?_)
       clear hK K;(try simp only[tkS]);have hb6:=Blk.new wd #[.int .i64 r.1.b,.string r.1.s,.int .i64 r.1.d,.int .i64 r.2.b,.string r.2.s,.int .i64 r.2.d] 119
       have hs6:Sl (wd.alloc (.cells #[.int .i64 r.1.b,.string r.1.s,.int .i64 r.1.d,.int .i64 r.2.b,.string r.2.s,.int .i64 r.2.d] 119)) 6 (.slice (some ⟨wd.heap.size,0,none⟩) 1 1) [rrow r]:=by
        refine⟨some ⟨wd.heap.size,0,none⟩,1,rfl,Nat.le_refl _,by decide,.inr ⟨wd.heap.size,0,rfl,by simp,fun i j hi hj=>?_⟩⟩
        have hi:i<1:=hi;obtain rfl:i=0:=by omega
        rw[hb6.cell];simp only[Nat.zero_mul,Nat.add_zero,Nat.zero_add];exact of6 r j hj
       have HS6:=hI hs6;have HB6:=hI (HBD.out.alloc HBD.out.size (.cells #[.int .i64 r.1.b,.string r.1.s,.int .i64 r.1.d,.int .i64 r.2.b,.string r.2.s,.int .i64 r.2.d] 119));have HO6:=hI (HownD.out.alloc (.cells #[.int .i64 r.1.b,.string r.1.s,.int .i64 r.1.d,.int .i64 r.2.b,.string r.2.s,.int .i64 r.2.d] 119));clear hs6 hb6;refine tk1 12 (fun K hK=>?_)
       refine qmd ER (by rfl) _ _ (by rfl) _ _ 1 1 _ (by rfl) (by rfl) (Nat.le_refl _) ?_
       have hb12:=Below.refl (wd.alloc (.cells #[.int .i64 r.1.b,.string r.1.s,.int .i64 r.1.d,.int .i64 r.2.b,.string r.2.s,.int .i64 r.2.d] 119)).heap.size (wd.alloc (.cells #[.int .i64 r.1.b,.string r.1.s,.int .i64 r.1.d,.int .i64 r.2.b,.string r.2.s,.int .i64 r.2.d] 119));have HV12:=hI (show(wd.alloc (.cells #[.int .i64 r.1.b,.string r.1.s,.int .i64 r.1.d,.int .i64 r.2.b,.string r.2.s,.int .i64 r.2.d] 119)).ownsRow wd.heap.size 119 6 (.slice (some ⟨wd.heap.size,0,none⟩) 1 1) 1 (qcp [r])from⟨rfl,.inr ⟨wd.heap.size,1,_,rfl,Nat.le_refl _,heap_alloc_new wd _,Nat.le_refl _,by decide,rfl,rfl⟩⟩);have HO12:=hI (qaf HO6.out hb12);have HB12:=hI (HB6.out.via hb12 HB6.out.size);clear hb12;refine hK.out _ _ (by exact Hcell.out _ HB12.out) (fun hHeld=>?_)
       clear hK K;(try simp only[tkS]);generalize hw12:wd.alloc (.cells #[.int .i64 r.1.b,.string r.1.s,.int .i64 r.1.d,.int .i64 r.2.b,.string r.2.s,.int .i64 r.2.d] 119)=w12 at*;clear hw12;refine tk1 13 (fun K hK=>?_)
       have hs1:=qeb HV12.out;have hs0:=Sl.takeK (qeb HO12.out) (show q≤m by omega);rw[←List.map_take]at hs0;refine qgz ER (by decide) (by rfl) _ _ (by rfl) _ _ q q 1 _ ((S.take q).map rrow) ([r].map rrow) (by rfl) (by rfl) (by exact hs0) (by exact hs1) (qlf _) (qlf _) (qs8 _) (by omega) (fun h=>by cases h) (by omega) (by omega) (by decide) ?_
       intro v13 w13 hown13 hg13;have hb13:=HB12.out.via (qcg hg13) HB12.out.size;have HB13:=hI hb13;have hown14:=qda hown13 HB12.out.size
       have hown15:w13.ownsRow w.heap.size 119 6 v13 (m+1) (qcp (insR S r)):=by
        have h:=hown14;rw[show q+1=m+1 by omega]at h;rw[show insR S r=S.take q++[r]from(Hins.out.trans (by rw[List.drop_of_length_le (by rw[Hpre.out.2.1];exact hgq)]))];unfold qcp;rw[List.map_append,List.flatten_append];exact h
       have Hown15:=hI hown15;clear hown13 hg13 hown14 hown15 hb13 hs0 hs1;refine hK.out _ _ (by exact Hcell.out _ HB13.out) (fun hHeld=>?_)
       clear hK K;(try simp only[tkS]);refine' tk 14 ?_;(try simp only[tkS]);refine tkD ?_ _
       go_wp2_with fail
       go_roundw
       case rel=>exact⟨k+1,m+1,insR S r,by omega,by go_num,HB13.out,Hown15.out,by have:=Hmk.out;omega,Hnx.out,by rw[(qdj S r).length_eq,List.length_cons,Hpre.out.2.1],fun s hs=>by
        rcases List.mem_cons.1 ((qdj S r).mem_iff.1 hs)with rfl|h
        ·exact Hrok.out
        ·exact Hpre.out.2.2 s h⟩
       case measure=>simp[intOf]<;>omega
  ·obtain rfl:k=n:=by omega
   have hkn:¬(k:Int)<(k:Int):=by omega
   have HS:=hI (show S=qn5 rs∧S.length=m∧∀r∈S,OkR r by
    refine⟨?_,hpre.out.2⟩
    have:=hpre.out.1
    rwa [List.take_of_length_le (by rw[Hln.out];exact Nat.le_refl _)]at this)
   have Hmk:=hI hmk;have HN2:=hI (World.ownsRow_nil wr wr.heap.size 119 6);obtain⟨wA,hwA⟩:∃x,x=wr:=⟨_,rfl⟩
   subst hwA;clear hpre hbw hown hmk HN
   go_wp2_with fail
   go_loopw [7,6] (fun i s wr=>∃(p m2:Nat) (O:List RP),p≤m∧i=.int .i64 (p:Int)∧Below wA.heap.size wA wr∧wr.ownsRow wA.heap.size 119 6 s m2 (qcp O)∧m2≤p∧Hid (O=(S.take p).foldl (putR ltR) []∧O.length=m2∧∀r∈O,OkR r)) (fun i _ _=>m-(intOf i).toNat)
   case atStart=>exact⟨0,0,[],by omega,rfl,Below.refl _ _,HN2.out,by omega,rfl,rfl,fun r hr=>by cases hr⟩
   case round=>
    obtain⟨p,m2,O,hp,rfl,hbA,hownO,hm2,hpre2⟩:=hrel;have HbA:=hI hbA;have Hown2:=hI hownO;have Hpre2:=hI hpre2.out;obtain⟨a2,cap2,rfl,hc21,hc22⟩:=qas hownO;unfold maxLen at hc22;have hm1000:m≤1000:=by have:=Hmk.out;omega
    have hpw:IntKind.i64.wrap ((p:Int)+1)=(p:Int)+1:=IntWalk.i64_in _ (by omega);have hp0:(0:Int)≤(p:Int):=Int.natCast_nonneg _;clear hbA hownO hpre2;rcases Nat.lt_or_ge p m with hlp|hgp
    ·have hpm:(p:Int)<(m:Int):=by omega
     obtain⟨g,rfl⟩:=qbk Hown.out (by omega);obtain⟨x,hx,e0,e1,e2,e3,e4,e5⟩:=qqf Hown.out HbA.out hlp;have Hx:=hI hx;have hglt:=World.block_lt_of_cell? _ _ e0;have hxok:=HS.out.2.2 x (List.mem_of_getElem? hx);have Hxok:=hI hxok;have Hxc:=hI (fun w' (hb:Below wr.heap.size wr w')=>show w'.cell? ⟨g,p*6,none⟩=some (.int .i64 x.1.b)∧w'.cell? ⟨g,p*6+1,none⟩=some (.string x.1.s)∧w'.cell? ⟨g,p*6+2,none⟩=some (.int .i64 x.1.d)∧w'.cell? ⟨g,p*6+3,none⟩=some (.int .i64 x.2.b)∧w'.cell? ⟨g,p*6+4,none⟩=some (.string x.2.s)∧w'.cell? ⟨g,p*6+5,none⟩=some (.int .i64 x.2.d)from⟨(hb.cell (p:=⟨g,p*6,none⟩) hglt).trans e0,(hb.cell (p:=⟨g,p*6+1,none⟩) hglt).trans e1,(hb.cell (p:=⟨g,p*6+2,none⟩) hglt).trans e2,(hb.cell (p:=⟨g,p*6+3,none⟩) hglt).trans e3,(hb.cell (p:=⟨g,p*6+4,none⟩) hglt).trans e4,(hb.cell (p:=⟨g,p*6+5,none⟩) hglt).trans e5⟩);have Hfold:=hI (show(S.take (p+1)).foldl (putR ltR) []=putR ltR O x by rw[qbd hx,List.foldl_append,←Hpre2.out.1];rfl);clear hx hxok hglt;rcases m2 with _|j
     ·have HnxA:=hI (show O++[x]=(S.take (p+1)).foldl (putR ltR) []by
       rw[Hfold.out,List.length_eq_zero_iff.1 Hpre2.out.2.1];rfl)
      have Hs2:=hI (fun w' (hb:Below wr.heap.size wr w')=>Hxc.out w' hb);go_upto_region 15 with fail
      have hd0:decide ((0:Int)<0)=false:=rfl;refine wp_region_held_drew (S:=(fun w'=>w'.cell? ⟨g,p*6,none⟩=some (.int .i64 x.1.b)∧w'.cell? ⟨g,p*6+1,none⟩=some (.string x.1.s)∧w'.cell? ⟨g,p*6+2,none⟩=some (.int .i64 x.1.d)∧w'.cell? ⟨g,p*6+3,none⟩=some (.int .i64 x.2.b)∧w'.cell? ⟨g,p*6+4,none⟩=some (.string x.2.s)∧w'.cell? ⟨g,p*6+5,none⟩=some (.int .i64 x.2.d))) (by kernel_rfl) (by exact Hs2.out _ (bwD _)) (fun hHeld=>?_)
      refine' tk 0 ?_;(try simp only[tkS]);refine' tk 1 ?_;(try simp only[tkS]);refine' tk 2 ?_;(try simp only[tkS]);refine' tkU 3 ?_;(try simp only[tkS]);refine' tkU 4 ?_;(try simp only[tkS]);refine' tkU 5 ?_;(try simp only[tkS]);refine' tkU 6 ?_;(try simp only[tkS]);refine' tkU 7 ?_;(try simp only[tkS]);refine' tkU 8 ?_;(try simp only[tkS]);refine' tkU 9 ?_;(try simp only[tkS]);refine' tkU 10 ?_;(try simp only[tkS]);refine' tkU 11 ?_;(try simp only[tkS]);refine' tkU 12 ?_;(try simp only[tkS]);refine' tkU 13 ?_;(try simp only[tkS]);refine' tkU 14 ?_;(try simp only[tkS]);refine' tkU 15 ?_;(try simp only[tkS]);refine' tk 16 ?_;(try simp only[tkS]);refine tkD ?_ _
      have Hbq:=hI (bwD wr);have Hbx:=hI (HbA.out.via Hbq.out HbA.out.size);have HownO:=hI (qaf Hown2.out Hbq.out);obtain⟨x0,x1,x2,x3,x4,x5⟩:=Hs2.out _ Hbq.out
      go_wp2_with (at_builtin;refine qcv ER (by decide) (rrow x) rfl _ _ rfl wA.heap.size _ _ _ rfl rfl HownO.out rfl (one6 x) (by omega) (by decide) Hbx.out.size ?_;intro v' w5 hown' hg';have Hb5:=hI (qau Hbx.out HownO.out hg' Hbx.out.size);have Hown5:=hI hown';clear hown' hg')
      go_roundw
      case rel=>exact⟨p+1,0+1,O++[x],by omega,by go_num,Hb5.out,by have:=Hown5.out;rw[←qdx]at this;exact this,by omega,HnxA.out,by rw[List.length_append,Hpre2.out.2.1];rfl,fun s hs=>by
       rcases List.mem_append.1 hs with h|h
       ·exact Hpre2.out.2.2 s h
       ·cases List.mem_singleton.1 h;exact Hxok.out⟩
      case measure=>simp[intOf]<;>omega
     ·obtain⟨g2,rfl⟩:=qbk Hown2.out (by omega)
      obtain⟨q,hq,f0,f1,f2,f3,f4,f5⟩:=qqf Hown2.out (Below.refl _ _) (show j<j+1 by omega);have hg2lt:=World.block_lt_of_cell? _ _ f0;have hqok:=Hpre2.out.2.2 q (List.mem_of_getElem? hq);have Hq:=hI hq;have Hlast:=hI (show O.getLast?=some q by rw[List.getLast?_eq_getElem?,Hpre2.out.2.1];exact hq);have Hs2:=hI (fun w' (hb:Below wr.heap.size wr w')=>show w'.cell? ⟨g,p*6,none⟩=some (.int .i64 x.1.b)∧w'.cell? ⟨g,p*6+1,none⟩=some (.string x.1.s)∧w'.cell? ⟨g,p*6+2,none⟩=some (.int .i64 x.1.d)∧w'.cell? ⟨g,p*6+3,none⟩=some (.int .i64 x.2.b)∧w'.cell? ⟨g,p*6+4,none⟩=some (.string x.2.s)∧w'.cell? ⟨g,p*6+5,none⟩=some (.int .i64 x.2.d)∧w'.cell? ⟨g2,j*6+3,none⟩=some (.int .i64 q.2.b)∧w'.cell? ⟨g2,j*6+4,none⟩=some (.string q.2.s)∧w'.cell? ⟨g2,j*6+5,none⟩=some (.int .i64 q.2.d)from⟨(Hxc.out w' hb).1,(Hxc.out w' hb).2.1,(Hxc.out w' hb).2.2.1,(Hxc.out w' hb).2.2.2.1,(Hxc.out w' hb).2.2.2.2.1,(Hxc.out w' hb).2.2.2.2.2,(hb.cell (p:=⟨g2,j*6+3,none⟩) hg2lt).trans f3,(hb.cell (p:=⟨g2,j*6+4,none⟩) hg2lt).trans f4,(hb.cell (p:=⟨g2,j*6+5,none⟩) hg2lt).trans f5⟩);have H97:=hI (fun w'=>qja x.1 q.2 w' Hxok.out.1 hqok.2);have H96:=hI (fun w'=>qja x.2 q.2 w' Hxok.out.2 hqok.2);unfold rcA rcut at H97 H96;generalize hR1:cmpG (toP x.1) (toP q.2)=R1 at*;generalize hR2:cmpG (toP x.2) (toP q.2)=R2 at*;have HR1:=hI hR1;have HR2:=hI hR2;have Hqok:=hI hqok;have hj0:(0:Int)<(j:Int)+1:=by omega
      have hj1:(j:Int)<((j+1:Nat):Int):=by omega
      have hj2:IntKind.i64.wrap (j:Int)=(j:Int):=IntWalk.i64_in _ (by omega);have hj3:(0:Int)≤(j:Int):=by omega
      have hj4:(j:Int)<(j:Int)+1:=by omega
      clear hq hg2lt hqok hR1 hR2
      by_cases hA:R1≤0
      ·have hA1:R1≤0:=hA
       have hnlt:¬ltR q.2 x.1:=qnu.2 (by rw[HR1.out];exact hA);have Hnlt:=hI hnlt;clear hnlt hA
       by_cases hB:0<R2
       ·have Hput:=hI (show putR ltR O x=O.dropLast++[(q.1,x.2)]by
         unfold putR;rw[Hlast.out];dsimp only
         rw[if_neg Hnlt.out,if_pos (show ltR q.2 x.2 from qia.1 (by rw[HR2.out];exact hB))])
        go_upto_region 15 with fail
        have hd1:decide ((0:Int)<(j:Int)+1)=true:=decide_eq_true hj0;refine wp_region_held_drew (S:=(fun w'=>w'.cell? ⟨g,p*6,none⟩=some (.int .i64 x.1.b)∧w'.cell? ⟨g,p*6+1,none⟩=some (.string x.1.s)∧w'.cell? ⟨g,p*6+2,none⟩=some (.int .i64 x.1.d)∧w'.cell? ⟨g,p*6+3,none⟩=some (.int .i64 x.2.b)∧w'.cell? ⟨g,p*6+4,none⟩=some (.string x.2.s)∧w'.cell? ⟨g,p*6+5,none⟩=some (.int .i64 x.2.d)∧w'.cell? ⟨g2,j*6+3,none⟩=some (.int .i64 q.2.b)∧w'.cell? ⟨g2,j*6+4,none⟩=some (.string q.2.s)∧w'.cell? ⟨g2,j*6+5,none⟩=some (.int .i64 q.2.d))) (by kernel_rfl) (by exact Hs2.out _ (bwD _)) (fun hHeld=>?_)
        refine' tk 0 ?_;(try simp only[tkS]);refine' tk 1 ?_;(try simp only[tkS]);refine' tk 2 ?_;(try simp only[tkS]);refine' tk 3 ?_;(try simp only[tkS]);refine' tk 4 ?_;(try simp only[tkS]);refine' tk 5 ?_;(try simp only[tkS]);refine' tk 6 ?_;(try simp only[tkS]);refine' tk 7 ?_;(try simp only[tkS]);refine' tk 8 ?_;(try simp only[tkS]);refine' tk 9 ?_;(try simp only[tkS]);refine' tk 10 ?_;(try simp only[tkS]);refine' tk 11 ?_;(try simp only[tkS]);refine' tk 12 ?_;(try simp only[tkS]);refine' tk 13 ?_;(try simp only[tkS]);refine tk1 14 (fun K hK=>?_)
        go_simp;go_at_call 99;refine(H97.out _).mono ?_
        rintro e5 w3 ⟨rfl,hb3⟩;have H3:=hI (qaa (bwD _) hb3);clear hb3;refine hK.out _ _ (by exact Hs2.out _ (H3.out)) (fun hHeld=>?_)
        clear hK K;(try simp only[tkS]);refine' tk 15 ?_;(try simp only[tkS]);refine' tk 16 ?_;(try simp only[tkS]);refine tkD ?_ _
        go_upto_region 16 with fail
        refine wp_region_held_drew (S:=(fun w'=>w'.cell? ⟨g,p*6,none⟩=some (.int .i64 x.1.b)∧w'.cell? ⟨g,p*6+1,none⟩=some (.string x.1.s)∧w'.cell? ⟨g,p*6+2,none⟩=some (.int .i64 x.1.d)∧w'.cell? ⟨g,p*6+3,none⟩=some (.int .i64 x.2.b)∧w'.cell? ⟨g,p*6+4,none⟩=some (.string x.2.s)∧w'.cell? ⟨g,p*6+5,none⟩=some (.int .i64 x.2.d)∧w'.cell? ⟨g2,j*6+3,none⟩=some (.int .i64 q.2.b)∧w'.cell? ⟨g2,j*6+4,none⟩=some (.string q.2.s)∧w'.cell? ⟨g2,j*6+5,none⟩=some (.int .i64 q.2.d))) (by kernel_rfl) (by exact Hs2.out _ (qaa (H3.out) (bwD _))) (fun hHeld=>?_)
        refine' tk 0 ?_;(try simp only[tkS]);refine' tk 1 ?_;(try simp only[tkS]);refine' tk 2 ?_;(try simp only[tkS]);refine' tk 3 ?_;(try simp only[tkS]);refine' tk 4 ?_;(try simp only[tkS]);refine' tk 5 ?_;(try simp only[tkS]);refine' tk 6 ?_;(try simp only[tkS]);refine' tk 7 ?_;(try simp only[tkS]);refine' tk 8 ?_;(try simp only[tkS]);refine' tk 9 ?_;(try simp only[tkS]);refine' tk 10 ?_;(try simp only[tkS]);refine tk1 11 (fun K hK=>?_)
        go_simp;go_at_call 99;refine(H96.out _).mono ?_
        rintro e5 w4 ⟨rfl,hb4⟩;have H4:=hI (qaa (qaa (H3.out) (bwD _)) hb4);clear hb4;refine hK.out _ _ (by exact Hs2.out _ (H4.out)) (fun hHeld=>?_)
        clear hK K;(try simp only[tkS]);refine' tk 12 ?_;(try simp only[tkS]);refine tkD ?_ _
        have Hbq:=hI (H4.out);obtain⟨x0,x1,x2,x3,x4,x5,q0,q1,q2⟩:=Hs2.out _ Hbq.out;have HO4:=hI (qaf Hown2.out Hbq.out);have hfr:=fun i=>qw9 HO4.out i
        have fr3:=hfr (j*6+3);have fr4:=hfr (j*6+4);have fr5:=hfr (j*6+5);clear hfr;have Hsn:=hI (qcn Hlast.out);have HP:=hI (qw5 x.2 (by rw[List.length_dropLast,Hpre2.out.2.1];omega:O.dropLast.length=j) (by have:=HO4.out;rw[Hsn.out]at this;exact this));have hg2:wA.heap.size≤g2:=(Hown2.out.lt g2 rfl).1;have Hb6:=hI (qt5 (o:=j*6) x.2 (HbA.out.via Hbq.out HbA.out.size) hg2)
        go_wp2_with fail
        go_roundw
        case rel=>exact⟨p+1,j+1,O.dropLast++[(q.1,x.2)],by omega,by go_num,Hb6.out,HP.out,by omega,by rw[Hfold.out,Hput.out],by rw[List.length_append,List.length_dropLast,Hpre2.out.2.1];rfl,fun s hs=>by
         rcases List.mem_append.1 hs with h|h
         ·exact Hpre2.out.2.2 s (List.dropLast_subset _ h)
         ·cases List.mem_singleton.1 h;exact⟨Hqok.out.1,Hxok.out.2⟩⟩
        case measure=>simp[intOf]<;>omega
       ·have Hput:=hI (show putR ltR O x=O by
         unfold putR;rw[Hlast.out];dsimp only
         rw[if_neg Hnlt.out,if_neg (fun h=>hB (by have:=qia.2 h;rwa [HR2.out]at this))])
        have hB2:¬0<R2:=hB;clear hB;go_upto_region 15 with fail
        have hd1:decide ((0:Int)<(j:Int)+1)=true:=decide_eq_true hj0;refine wp_region_held_drew (S:=(fun w'=>w'.cell? ⟨g,p*6,none⟩=some (.int .i64 x.1.b)∧w'.cell? ⟨g,p*6+1,none⟩=some (.string x.1.s)∧w'.cell? ⟨g,p*6+2,none⟩=some (.int .i64 x.1.d)∧w'.cell? ⟨g,p*6+3,none⟩=some (.int .i64 x.2.b)∧w'.cell? ⟨g,p*6+4,none⟩=some (.string x.2.s)∧w'.cell? ⟨g,p*6+5,none⟩=some (.int .i64 x.2.d)∧w'.cell? ⟨g2,j*6+3,none⟩=some (.int .i64 q.2.b)∧w'.cell? ⟨g2,j*6+4,none⟩=some (.string q.2.s)∧w'.cell? ⟨g2,j*6+5,none⟩=some (.int .i64 q.2.d))) (by kernel_rfl) (by exact Hs2.out _ (bwD _)) (fun hHeld=>?_)
        refine' tk 0 ?_;(try simp only[tkS]);refine' tk 1 ?_;(try simp only[tkS]);refine' tk 2 ?_;(try simp only[tkS]);refine' tk 3 ?_;(try simp only[tkS]);refine' tk 4 ?_;(try simp only[tkS]);refine' tk 5 ?_;(try simp only[tkS]);refine' tk 6 ?_;(try simp only[tkS]);refine' tk 7 ?_;(try simp only[tkS]);refine' tk 8 ?_;(try simp only[tkS]);refine' tk 9 ?_;(try simp only[tkS]);refine' tk 10 ?_;(try simp only[tkS]);refine' tk 11 ?_;(try simp only[tkS]);refine' tk 12 ?_;(try simp only[tkS]);refine' tk 13 ?_;(try simp only[tkS]);refine tk1 14 (fun K hK=>?_)
        go_simp;go_at_call 99;refine(H97.out _).mono ?_
        rintro e5 w3 ⟨rfl,hb3⟩;have H3:=hI (qaa (bwD _) hb3);clear hb3;refine hK.out _ _ (by exact Hs2.out _ (H3.out)) (fun hHeld=>?_)
        clear hK K;(try simp only[tkS]);refine' tk 15 ?_;(try simp only[tkS]);refine' tk 16 ?_;(try simp only[tkS]);refine tkD ?_ _
        go_upto_region 16 with fail
        refine wp_region_held_drew (S:=(fun w'=>w'.cell? ⟨g,p*6,none⟩=some (.int .i64 x.1.b)∧w'.cell? ⟨g,p*6+1,none⟩=some (.string x.1.s)∧w'.cell? ⟨g,p*6+2,none⟩=some (.int .i64 x.1.d)∧w'.cell? ⟨g,p*6+3,none⟩=some (.int .i64 x.2.b)∧w'.cell? ⟨g,p*6+4,none⟩=some (.string x.2.s)∧w'.cell? ⟨g,p*6+5,none⟩=some (.int .i64 x.2.d)∧w'.cell? ⟨g2,j*6+3,none⟩=some (.int .i64 q.2.b)∧w'.cell? ⟨g2,j*6+4,none⟩=some (.string q.2.s)∧w'.cell? ⟨g2,j*6+5,none⟩=some (.int .i64 q.2.d))) (by kernel_rfl) (by exact Hs2.out _ (qaa (H3.out) (bwD _))) (fun hHeld=>?_)
        refine' tk 0 ?_;(try simp only[tkS]);refine' tk 1 ?_;(try simp only[tkS]);refine' tk 2 ?_;(try simp only[tkS]);refine' tk 3 ?_;(try simp only[tkS]);refine' tk 4 ?_;(try simp only[tkS]);refine' tk 5 ?_;(try simp only[tkS]);refine' tk 6 ?_;(try simp only[tkS]);refine' tk 7 ?_;(try simp only[tkS]);refine' tk 8 ?_;(try simp only[tkS]);refine' tk 9 ?_;(try simp only[tkS]);refine' tk 10 ?_;(try simp only[tkS]);refine tk1 11 (fun K hK=>?_)
        go_simp;go_at_call 99;refine(H96.out _).mono ?_
        rintro e5 w4 ⟨rfl,hb4⟩;have H4:=hI (qaa (qaa (H3.out) (bwD _)) hb4);clear hb4;refine hK.out _ _ (by exact Hs2.out _ (H4.out)) (fun hHeld=>?_)
        clear hK K;(try simp only[tkS]);refine' tk 12 ?_;(try simp only[tkS]);refine tkD ?_ _
        go_wp2_with fail
        have Hb4:=hI (HbA.out.via (H4.out) HbA.out.size);go_roundw
        case rel=>exact⟨p+1,j+1,O,by omega,by go_num,Hb4.out,qaf Hown2.out (H4.out),by omega,by rw[Hfold.out,Hput.out],Hpre2.out.2⟩
        case measure=>simp[intOf]<;>omega
      ·have HnxA:=hI (show O++[x]=(S.take (p+1)).foldl (putR ltR) []by
        rw[Hfold.out];unfold putR;rw[Hlast.out];dsimp only
        rw[if_pos (show ltR q.2 x.1 from qia.1 (by rw[HR1.out];omega))])
       have hA2:¬R1≤0:=hA;clear hA;go_upto_region 15 with fail
       have hd1:decide ((0:Int)<(j:Int)+1)=true:=decide_eq_true hj0;refine wp_region_held_drew (S:=(fun w'=>w'.cell? ⟨g,p*6,none⟩=some (.int .i64 x.1.b)∧w'.cell? ⟨g,p*6+1,none⟩=some (.string x.1.s)∧w'.cell? ⟨g,p*6+2,none⟩=some (.int .i64 x.1.d)∧w'.cell? ⟨g,p*6+3,none⟩=some (.int .i64 x.2.b)∧w'.cell? ⟨g,p*6+4,none⟩=some (.string x.2.s)∧w'.cell? ⟨g,p*6+5,none⟩=some (.int .i64 x.2.d)∧w'.cell? ⟨g2,j*6+3,none⟩=some (.int .i64 q.2.b)∧w'.cell? ⟨g2,j*6+4,none⟩=some (.string q.2.s)∧w'.cell? ⟨g2,j*6+5,none⟩=some (.int .i64 q.2.d))) (by kernel_rfl) (by exact Hs2.out _ (bwD _)) (fun hHeld=>?_)
       refine' tk 0 ?_;(try simp only[tkS]);refine' tk 1 ?_;(try simp only[tkS]);refine' tk 2 ?_;(try simp only[tkS]);refine' tk 3 ?_;(try simp only[tkS]);refine' tk 4 ?_;(try simp only[tkS]);refine' tk 5 ?_;(try simp only[tkS]);refine' tk 6 ?_;(try simp only[tkS]);refine' tk 7 ?_;(try simp only[tkS]);refine' tk 8 ?_;(try simp only[tkS]);refine' tk 9 ?_;(try simp only[tkS]);refine' tk 10 ?_;(try simp only[tkS]);refine' tk 11 ?_;(try simp only[tkS]);refine' tk 12 ?_;(try simp only[tkS]);refine' tk 13 ?_;(try simp only[tkS]);refine tk1 14 (fun K hK=>?_)
       go_simp;go_at_call 99;refine(H97.out _).mono ?_
       rintro e5 w3 ⟨rfl,hb3⟩;have H3:=hI (qaa (bwD _) hb3);clear hb3;refine hK.out _ _ (by exact Hs2.out _ (H3.out)) (fun hHeld=>?_)
       clear hK K;(try simp only[tkS]);refine' tk 15 ?_;(try simp only[tkS]);refine' tk 16 ?_;(try simp only[tkS]);refine tkD ?_ _
       have Hbq:=hI (H3.out);have Hbx:=hI (HbA.out.via Hbq.out HbA.out.size);have HownO:=hI (qaf Hown2.out Hbq.out);obtain⟨x0,x1,x2,x3,x4,x5,-⟩:=Hs2.out _ Hbq.out
       go_wp2_with (at_builtin;refine qcv ER (by decide) (rrow x) rfl _ _ rfl wA.heap.size _ _ _ rfl rfl HownO.out rfl (one6 x) (by omega) (by decide) Hbx.out.size ?_;intro v' w5 hown' hg';have Hb5:=hI (qau Hbx.out HownO.out hg' Hbx.out.size);have Hown5:=hI hown';clear hown' hg')
       go_roundw
       case rel=>exact⟨p+1,(j+1)+1,O++[x],by omega,by go_num,Hb5.out,by have:=Hown5.out;rw[←qdx]at this;exact this,by omega,HnxA.out,by rw[List.length_append,Hpre2.out.2.1];rfl,fun s hs=>by
        rcases List.mem_append.1 hs with h|h
        ·exact Hpre2.out.2.2 s h
        ·cases List.mem_singleton.1 h;exact Hxok.out⟩
       case measure=>simp[intOf]<;>omega
    ·obtain rfl:p=m:=by omega
     have hpm:¬(p:Int)<(p:Int):=by omega
     have Hres:=hI (show O=qa1 rs by
      rw[Hpre2.out.1,List.take_of_length_le (by rw[HS.out.2.1];exact Nat.le_refl _),HS.out.1];rfl)
     go_wp2_with fail
     go_ret
     exact⟨_,rfl,by
      rw[←Hres.out,Hpre2.out.2.1]
      exact qda Hown2.out Hbw.out.size,Hbw.out.via HbA.out Hbw.out.size⟩
end Go.Proofs.YtacihodamichhaaGreatDoor
