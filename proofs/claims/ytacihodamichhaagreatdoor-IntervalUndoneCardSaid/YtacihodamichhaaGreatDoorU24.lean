/- Parts of the proof. -/
import Derived.Test.YtacihodamichhaaGreatDoorU22
import Derived.Test.YtacihodamichhaaGreatDoorU23
set_option maxHeartbeats 32000000
namespace Go.Proofs.YtacihodamichhaaGreatDoor
open Go.RowKit
theorem qn3{α:Type}{l:List α}{k:Nat}{x:α}(h:l[k]?=some x):l.take (k+1)=l.take k++[x]:=by
 rw[List.take_add_one,h];rfl
theorem qay(w:World)(g i:Nat)(v:Value):w.grownBy (w.setCell ⟨g,i,none⟩ v) (some g):=by
 refine⟨rfl,rfl,rfl,by simp,fun b hb hne=>?_⟩
 exact Below.heap_setCell _ _ _ _ (fun e=>hne (by rw[e]))
theorem qjk{w:World}{M e sz n g cap:Nat}{xs:List Value}(h:w.ownsRow M e sz (.slice (some ⟨g,0,none⟩) n cap) n xs)(i:Nat):w.frozen? ⟨g,i,none⟩=false:=by
 rcases h.2 with⟨hv,_⟩|⟨g2,cap2,cur,hv,-,hgb,-⟩
 ·cases hv
 ·cases hv
  exact frozen_of_row w g i cur _ hgb
theorem GP.ok.grownP{w w':World}{B e sz n:Nat}{v:Value}{xs:List Value}{p:GP}(h:p.ok w)(hown:w.ownsRow B e sz v n xs)(he:e≠62)(hg:w.grownBy w' v.ownBlock):p.ok w':=⟨h.1.grown hown he hg,h.2.grown hown he hg⟩
theorem qmu{W:World}{B g cap j:Nat}{I:List GP}{q:GP}(h:GC)(hI:I.length=j)(hown:W.ownsRow B 84 14 (.slice (some ⟨g,0,none⟩) (j+1) cap) (j+1) (((I++[q]).map GP.row).flatten)):
  (((((((W.setCell ⟨g,j*14+7,none⟩ (.int .i64 h.c.b)).setCell ⟨g,j*14+8,none⟩ (.string h.c.s)).setCell ⟨g,j*14+9,none⟩ (.int .i64 h.c.d)).setCell ⟨g,j*14+10,none⟩ (.bool h.x)).setCell ⟨g,j*14+11,none⟩ (.slice h.a h.n h.cap)).setCell ⟨g,j*14+12,none⟩ (.bool h.y)).setCell ⟨g,j*14+13,none⟩ (.slice h.e h.m h.cap2)).ownsRow B 84 14 (.slice (some ⟨g,0,none⟩) (j+1) cap) (j+1) (((I++[(⟨q.l,h⟩:GP)]).map GP.row).flatten)∧W.grownBy (((((((W.setCell ⟨g,j*14+7,none⟩ (.int .i64 h.c.b)).setCell ⟨g,j*14+8,none⟩ (.string h.c.s)).setCell ⟨g,j*14+9,none⟩ (.int .i64 h.c.d)).setCell ⟨g,j*14+10,none⟩ (.bool h.x)).setCell ⟨g,j*14+11,none⟩ (.slice h.a h.n h.cap)).setCell ⟨g,j*14+12,none⟩ (.bool h.y)).setCell ⟨g,j*14+13,none⟩ (.slice h.e h.m h.cap2)) (some g):=by
 have h7:=qak hown (i:=j*14+7) (by omega) (.int .i64 h.c.b);have h8:=qak h7 (i:=j*14+8) (by omega) (.string h.c.s);have h9:=qak h8 (i:=j*14+9) (by omega) (.int .i64 h.c.d);have h10:=qak h9 (i:=j*14+10) (by omega) (.bool h.x);have h11:=qak h10 (i:=j*14+11) (by omega) (.slice h.a h.n h.cap);have h12:=qak h11 (i:=j*14+12) (by omega) (.bool h.y);have h13:=qak h12 (i:=j*14+13) (by omega) (.slice h.e h.m h.cap2)
 have hl:((I.map GP.row).flatten).length=j*14:=by
  rw[qcr (sz:=14) (fun r hr=>by obtain⟨p,_,rfl⟩:=List.mem_map.1 hr;rfl),List.length_map,hI]
 have e:∀i v (r:List Value),((I.map GP.row).flatten++r).set (j*14+i) v=(I.map GP.row).flatten++r.set i v:=fun i v r=>by
  rw[List.set_append_right _ _ (by rw[hl];omega),hl,Nat.add_sub_cancel_left]
 rw[←qb5,e,e,e,e,e,e,e]at h13;rw[←qb5];exact⟨h13,(qax (qax (qax (qax (qax (qax (qay _ _ _ _) (qay _ _ _ _)) (qay _ _ _ _)) (qay _ _ _ _)) (qay _ _ _ _)) (qay _ _ _ _)) (qay _ _ _ _))⟩
def qgu(xs:List Iv):List PC:=(xs.map Iv.cuts).filter fun p=>decide (CG p.1 p.2)
theorem qre{l:List Iv}{x:Iv}(h:CG x.low x.high):qgu (l++[x])=qgu l++[x.cuts]:=by
 unfold qgu;rw[List.map_append,List.filter_append]
 congr 1
 show List.filter _ [x.cuts]=_
 rw[List.filter_cons_of_pos (by exact decide_eq_true h)]
 rfl
theorem qrf{l:List Iv}{x:Iv}(h:¬CG x.low x.high):qgu (l++[x])=qgu l:=by
 unfold qgu;rw[List.map_append,List.filter_append]
 show _++List.filter _ [x.cuts]=_
 rw[List.filter_cons_of_neg (p:=fun p:PC=>decide (CG p.1 p.2)) (a:=x.cuts) (l:=[]) (fun hd=>h (of_decide_eq_true hd))];simp
def qxv(xs:List Iv)(v:Value)(w':World):Prop:=(qa6 xs≠0→v=.tuple #[.slice none 0 0,.int .i64 (qa6 xs)])∧(qa6 xs=0→∃a c,∃Q:List PC,v=.tuple #[.slice a (qdz CG Q).length c,.int .i64 0]∧Ivs w' (.slice a (qdz CG Q).length c) ((qdz CG Q).map ivOf)∧Q.Perm (qgu xs)∧Q.Pairwise fun p q=>¬CG q.1 p.1)
theorem qko(v:Value)(xs:List Iv)(w:World)(h:Ivs w v xs)(hn:256<xs.length):
  Calls Tryz.prog 23 #[v] w (Ret (.tuple #[.slice none 0 0,.int .i64 6]) w):=by
 obtain⟨a,c,rfl,hc1,hc2⟩:=h.open;clear h;generalize xs.length=n at*;have hn2:(256:Int)<(n:Int):=by omega
 go_enter Tryz.func23,Tryz.ntmps23
 go_wp2_with fail
 go_ret2
 exact⟨rfl,Below.refl _ _⟩
set_option maxRecDepth 10000 in
theorem qjh(v:Value)(xs:List Iv)(w:World)(h:Ivs w v xs)(hs:∀x∈xs,x.short)(hn:xs.length≤256):
  Calls Tryz.prog 23 #[v] w (RetP (qxv xs) w):=by
 obtain⟨a,c,rfl,hc1,hc2⟩:=h.open;unfold maxLen at hc2;have HX:=hI h;have Hsh:=hI hs;have HE:=hI (show qa6 xs=qbb xs by unfold qa6;rw[if_neg (by omega)]);clear h hs;generalize hln:xs.length=n at*;have Hln:=hI hln;clear hln;have hn2:¬(256:Int)<(n:Int):=by omega
 have HN:=hI (fun W:World=>World.ownsRow_nil W W.heap.size 84 14)
 go_enter Tryz.func23,Tryz.ntmps23
 go_wp2_with fail
 go_loopw [18,4] (fun i out wr=>∃(k no:Nat) (ps:List GP),k≤n∧no≤k∧i=.int .i64 (k:Int)∧Below w.heap.size w wr∧wr.ownsRow w.heap.size 84 14 out no ((ps.map GP.row).flatten)∧Hid (ps.length=no∧ps.map GP.cuts=qgu (xs.take k)∧(∀p∈ps,p.ok wr)∧qa6 xs=qbb (xs.drop k))) (fun i _ _=>n-(intOf i).toNat)
 case atStart=>exact⟨0,0,[],by omega,by omega,rfl,Below.refl _ _,HN.out _,rfl,rfl,(fun p hp=>by cases hp),HE.out⟩
 case round=>
  obtain⟨k,no,ps,hk,hnk,rfl,hbw,hown,hps⟩:=hrel;rcases Nat.lt_or_ge k n with hlt|hge
  ·obtain⟨b,off,x,rfl,hx,c0,c1,c2,c3⟩:=HX.out.at hbw hlt
   have hkn:(k:Int)<(n:Int):=by omega
   have hik:IntKind.i64.wrap ((k:Int)+1)=(k:Int)+1:=IntWalk.i64_in _ (by omega);have Hxt:=hI (show xs.take (k+1)=xs.take k++[x]from geti hx);have H1:=hI (fun w'=>qkc x w' (Hsh.out x (List.mem_of_getElem? hx)));have hse:=hps.out.2.2.2;rw[qd3 hx]at hse;have Hse:=hI hse;have Hbw:=hI hbw;have Hown:=hI hown;unfold Iv.agg at H1;unfold IvG at H1;clear hx hbw hown hse
   by_cases hiv:qba x=0
   ·rw[hiv]at H1
    have Hnx:=hI (show qa6 xs=qbb (xs.drop (k+1))by
     rw[Hse.out]
     conv=>lhs;unfold qbb
     rw[if_neg (by simpa using hiv)])
    generalize hR:cmpG x.low x.high=R at*;have HR:=hI hR;clear hR hiv
    by_cases hRs:R<0
    ·have Hful:=hI (qre (l:=xs.take k) (x:=x) (show cmpG x.low x.high<0 by rw[HR.out];exact hRs))
     go_wp2_with (first
      |(go_at_call 72;refine(H1.out _).mono ?_;rintro e w2 ⟨v2,rfl,⟨k1,k2,rfl,hk1,hk2,hcc⟩,hb2⟩;obtain⟨⟨b1,s1,d1⟩,x1,a1,n1,c1',y1,e1,m1,l1⟩:=k1;obtain⟨⟨b2,s2,d2⟩,x2,a2,n2,c2',y2,e2,m2,l2⟩:=k2;have Hcc:=hI (hcc rfl);have Hb2:=hI (Hbw.out.via (qaa (qac wr (.cells #[.string x.lo,.string x.hi,.int .i64 x.le,.int .i64 x.he] 46)) hb2) Hbw.out.size);have Hkk:=hI (And.intro (hk1.mono (qac w2 (.cells #[.int .i64 b1,.string s1,.int .i64 d1,.bool x1,.slice a1 n1 c1',.bool y1,.slice e1 m1 l1,.int .i64 b2,.string s2,.int .i64 d2,.bool x2,.slice a2 n2 c2',.bool y2,.slice e2 m2 l2] 84))) (hk2.mono (qac w2 (.cells #[.int .i64 b1,.string s1,.int .i64 d1,.bool x1,.slice a1 n1 c1',.bool y1,.slice e1 m1 l1,.int .i64 b2,.string s2,.int .i64 d2,.bool x2,.slice a2 n2 c2',.bool y2,.slice e2 m2 l2] 84))));have HP2:=hI (Blk.new w2 #[.int .i64 b1,.string s1,.int .i64 d1,.bool x1,.slice a1 n1 c1',.bool y1,.slice e1 m1 l1,.int .i64 b2,.string s2,.int .i64 d2,.bool x2,.slice a2 n2 c2',.bool y2,.slice e2 m2 l2] 84);have Hb2':=hI (qaa (qaa (qac wr (.cells #[.string x.lo,.string x.hi,.int .i64 x.le,.int .i64 x.he] 46)) hb2) (qac w2 (.cells #[.int .i64 b1,.string s1,.int .i64 d1,.bool x1,.slice a1 n1 c1',.bool y1,.slice e1 m1 l1,.int .i64 b2,.string s2,.int .i64 d2,.bool x2,.slice a2 n2 c2',.bool y2,.slice e2 m2 l2] 84)));unfold gpagg;clear hcc hk1 hk2 hb2)
      |(go_at_call 73;refine(qcu ⟨⟨b1,s1,d1⟩,x1,a1,n1,c1',y1,e1,m1,l1⟩ ⟨⟨b2,s2,d2⟩,x2,a2,n2,c2',y2,e2,m2,l2⟩ _ Hkk.out.1 Hkk.out.2).mono ?_;rintro e w3 ⟨rfl,hb3⟩;rw[show cmpG (GC.c ⟨⟨b1,s1,d1⟩,x1,a1,n1,c1',y1,e1,m1,l1⟩) (GC.c ⟨⟨b2,s2,d2⟩,x2,a2,n2,c2',y2,e2,m2,l2⟩)=R by rw[Hcc.out.1,Hcc.out.2,HR.out]];have Hb3:=hI hb3;have hP3:=qa9 HP2.out Hb3.out;obtain⟨p0,p1,p2,p3,p4,p5,p6,p7,p8,p9,p10,p11,p12,p13⟩:=hP3;clear hb3)
      |(at_builtin;have hb4:=Hbw.out.via (qaa Hb2'.out (Hb3.out)) Hbw.out.size;have hown4:=qaf Hown.out (qaa Hb2'.out (Hb3.out));have Hb4:=hI hb4;have Hown4:=hI hown4;clear hb4 hown4;refine qcv EP (by decide) (GP.row (⟨⟨⟨b1,s1,d1⟩,x1,a1,n1,c1',y1,e1,m1,l1⟩,⟨⟨b2,s2,d2⟩,x2,a2,n2,c2',y2,e2,m2,l2⟩⟩:GP)) rfl _ _ rfl w.heap.size _ _ _ rfl rfl Hown4.out rfl (qfw (⟨⟨⟨b1,s1,d1⟩,x1,a1,n1,c1',y1,e1,m1,l1⟩,⟨⟨b2,s2,d2⟩,x2,a2,n2,c2',y2,e2,m2,l2⟩⟩:GP)) (by omega) (by decide) Hb4.out.size ?_;intro v' w5 hown' hg';have Hbw3:=hI (qau Hb4.out Hown4.out hg' Hb4.out.size);have Hown5:=hI hown';have Hg5:=hI hg';clear hown' hg'))
     go_roundw
     case rel=>
      have hbc:=qaa Hb2'.out Hb3.out;refine⟨k+1,no+1,ps++[(⟨⟨⟨b1,s1,d1⟩,x1,a1,n1,c1',y1,e1,m1,l1⟩,⟨⟨b2,s2,d2⟩,x2,a2,n2,c2',y2,e2,m2,l2⟩⟩:GP)],by omega,by omega,by go_num,Hbw3.out,by have:=Hown5.out;rw[qb5]at this;exact this,by rw[List.length_append,hps.out.1];rfl,?_,?_,Hnx.out⟩
      ·rw[List.map_append,hps.out.2.1,Hxt.out,Hful.out,List.map_cons,List.map_nil]
       congr 2
       unfold GP.cuts Iv.cuts;rw[Hcc.out.1,Hcc.out.2]
      ·intro q hq
       rcases List.mem_append.1 hq with h|h
       ·exact((hps.out.2.2.1 q h).mono hbc).app Hown4.out (by decide) Hg5.out
       ·cases List.mem_singleton.1 h
        exact GP.ok.app (⟨Hkk.out.1.mono Hb3.out,Hkk.out.2.mono Hb3.out⟩:GP.ok _ (⟨⟨⟨b1,s1,d1⟩,x1,a1,n1,c1',y1,e1,m1,l1⟩,⟨⟨b2,s2,d2⟩,x2,a2,n2,c2',y2,e2,m2,l2⟩⟩:GP)) Hown4.out (by decide) Hg5.out
     case measure=>simp[intOf]<;>omega
    ·have hR2:¬R<0:=hRs
     have Hful:=hI (qrf (l:=xs.take k) (x:=x) (show ¬cmpG x.low x.high<0 by rw[HR.out];exact hRs));clear hRs
     go_wp2_with (first
      |(go_at_call 72;refine(H1.out _).mono ?_;rintro e w2 ⟨v2,rfl,⟨k1,k2,rfl,hk1,hk2,hcc⟩,hb2⟩;obtain⟨⟨b1,s1,d1⟩,x1,a1,n1,c1',y1,e1,m1,l1⟩:=k1;obtain⟨⟨b2,s2,d2⟩,x2,a2,n2,c2',y2,e2,m2,l2⟩:=k2;have Hcc:=hI (hcc rfl);have Hb2:=hI (Hbw.out.via (qaa (qac wr (.cells #[.string x.lo,.string x.hi,.int .i64 x.le,.int .i64 x.he] 46)) hb2) Hbw.out.size);have Hkk:=hI (And.intro (hk1.mono (qac w2 (.cells #[.int .i64 b1,.string s1,.int .i64 d1,.bool x1,.slice a1 n1 c1',.bool y1,.slice e1 m1 l1,.int .i64 b2,.string s2,.int .i64 d2,.bool x2,.slice a2 n2 c2',.bool y2,.slice e2 m2 l2] 84))) (hk2.mono (qac w2 (.cells #[.int .i64 b1,.string s1,.int .i64 d1,.bool x1,.slice a1 n1 c1',.bool y1,.slice e1 m1 l1,.int .i64 b2,.string s2,.int .i64 d2,.bool x2,.slice a2 n2 c2',.bool y2,.slice e2 m2 l2] 84))));have HP2:=hI (Blk.new w2 #[.int .i64 b1,.string s1,.int .i64 d1,.bool x1,.slice a1 n1 c1',.bool y1,.slice e1 m1 l1,.int .i64 b2,.string s2,.int .i64 d2,.bool x2,.slice a2 n2 c2',.bool y2,.slice e2 m2 l2] 84);have Hb2':=hI (qaa (qaa (qac wr (.cells #[.string x.lo,.string x.hi,.int .i64 x.le,.int .i64 x.he] 46)) hb2) (qac w2 (.cells #[.int .i64 b1,.string s1,.int .i64 d1,.bool x1,.slice a1 n1 c1',.bool y1,.slice e1 m1 l1,.int .i64 b2,.string s2,.int .i64 d2,.bool x2,.slice a2 n2 c2',.bool y2,.slice e2 m2 l2] 84)));unfold gpagg;clear hcc hk1 hk2 hb2)
      |(go_at_call 73;refine(qcu ⟨⟨b1,s1,d1⟩,x1,a1,n1,c1',y1,e1,m1,l1⟩ ⟨⟨b2,s2,d2⟩,x2,a2,n2,c2',y2,e2,m2,l2⟩ _ Hkk.out.1 Hkk.out.2).mono ?_;rintro e w3 ⟨rfl,hb3⟩;rw[show cmpG (GC.c ⟨⟨b1,s1,d1⟩,x1,a1,n1,c1',y1,e1,m1,l1⟩) (GC.c ⟨⟨b2,s2,d2⟩,x2,a2,n2,c2',y2,e2,m2,l2⟩)=R by rw[Hcc.out.1,Hcc.out.2,HR.out]];have Hb3:=hI hb3;have hP3:=qa9 HP2.out Hb3.out;obtain⟨p0,p1,p2,p3,p4,p5,p6,p7,p8,p9,p10,p11,p12,p13⟩:=hP3;clear hb3))
     go_roundw
     case rel=>
      have hbc:=qaa Hb2'.out Hb3.out;exact⟨k+1,no,ps,by omega,by omega,by go_num,Hbw.out.via hbc Hbw.out.size,qaf Hown.out hbc,hps.out.1,by rw[Hxt.out,Hful.out];exact hps.out.2.1,fun q hq=>(hps.out.2.2.1 q hq).mono hbc,Hnx.out⟩
     case measure=>simp[intOf]<;>omega
   ·have hser:qa6 xs=qba x:=by
     rw[Hse.out]
     conv=>lhs;unfold qbb
     rw[if_pos hiv]
    have hcode:(qba x !=0)=true:=by rw[bne_iff_ne];exact hiv
    have Hser:=hI hser;have Hne:=hI hiv;generalize qba x=code at*;clear hiv hser
    go_wp2_with (go_at_call 72;refine(H1.out _).mono ?_;rintro e w2 ⟨v2,rfl,⟨k1,k2,rfl,hk1,hk2,hcc⟩,hb2⟩;obtain⟨⟨b1,s1,d1⟩,x1,a1,n1,c1',y1,e1,m1,l1⟩:=k1;obtain⟨⟨b2,s2,d2⟩,x2,a2,n2,c2',y2,e2,m2,l2⟩:=k2;skip;have Hb2:=hI (Hbw.out.via (qaa (qac wr (.cells #[.string x.lo,.string x.hi,.int .i64 x.le,.int .i64 x.he] 46)) hb2) Hbw.out.size);have Hkk:=hI (And.intro (hk1.mono (qac w2 (.cells #[.int .i64 b1,.string s1,.int .i64 d1,.bool x1,.slice a1 n1 c1',.bool y1,.slice e1 m1 l1,.int .i64 b2,.string s2,.int .i64 d2,.bool x2,.slice a2 n2 c2',.bool y2,.slice e2 m2 l2] 84))) (hk2.mono (qac w2 (.cells #[.int .i64 b1,.string s1,.int .i64 d1,.bool x1,.slice a1 n1 c1',.bool y1,.slice e1 m1 l1,.int .i64 b2,.string s2,.int .i64 d2,.bool x2,.slice a2 n2 c2',.bool y2,.slice e2 m2 l2] 84))));have HP2:=hI (Blk.new w2 #[.int .i64 b1,.string s1,.int .i64 d1,.bool x1,.slice a1 n1 c1',.bool y1,.slice e1 m1 l1,.int .i64 b2,.string s2,.int .i64 d2,.bool x2,.slice a2 n2 c2',.bool y2,.slice e2 m2 l2] 84);have Hb2':=hI (qaa (qaa (qac wr (.cells #[.string x.lo,.string x.hi,.int .i64 x.le,.int .i64 x.he] 46)) hb2) (qac w2 (.cells #[.int .i64 b1,.string s1,.int .i64 d1,.bool x1,.slice a1 n1 c1',.bool y1,.slice e1 m1 l1,.int .i64 b2,.string s2,.int .i64 d2,.bool x2,.slice a2 n2 c2',.bool y2,.slice e2 m2 l2] 84)));unfold gpagg;clear hcc hk1 hk2 hb2)
    go_ret2
    exact⟨_,rfl,⟨fun _=>by rw[Hser.out];rfl,fun h=>absurd (Hser.out.symm.trans h) Hne.out⟩,Hbw.out.via Hb2'.out Hbw.out.size⟩
  ·obtain rfl:k=n:=by omega
   have hkn:¬(k:Int)<(k:Int):=by omega
   obtain⟨aa,cap,rfl,-,-⟩:=qas hown;have hcu:=hps.out.2.1;rw[List.take_of_length_le (by rw[Hln.out];exact Nat.le_refl _)]at hcu;have hpl:=hps.out.1;have HS:=hI (qhb ps no hpl wr w.heap.size cap aa hown hps.out.2.2.1 (by omega));have Hcu:=hI hcu;have Hbw:=hI hbw;have Hown:=hI hown;have Hpl:=hI hpl;have Hse:=hI (show qa6 xs=0 by rw[hps.out.2.2.2,List.drop_of_length_le (by rw[Hln.out];exact Nat.le_refl _)];rfl);clear hcu hbw hown hpl hps
   go_wp2_with (go_at_call 74;refine(HS.out).mono ?_;rintro e w6 ⟨rfl,hg6,P,hperm,hsort,hpar⟩;have Hb6:=hI (Below.grown Hbw.out hg6 Hbw.out.size (fun q hq=>(Hown.out.lt q hq).1));have Hperm:=hI hperm;have Hsort:=hI hsort;have Hpar:=hI hpar;clear hg6 hperm hsort hpar)
   have HN2:=hI (HN.out w6);have HQp:=hI (show(P.map GP.cuts).Perm (qgu xs)by rw[←Hcu.out];exact Hperm.out.map _)
   have HQs:=hI (show(P.map GP.cuts).Pairwise (fun p q=>¬CG q.1 p.1)from qcx fun i j x y hij hx hy=>by
    simp only[List.getElem?_map,Option.map_eq_some_iff]at hx hy;obtain⟨a,ha,rfl⟩:=hx;obtain⟨b,hb,rfl⟩:=hy
    exact Hsort.out i j a b hij ha hb)
   have HPl:=hI (show P.length=no by rw[Hperm.out.length_eq,Hpl.out]);clear HS Hown Hbw Hsort HX Hsh HE Hln Hcu Hpl Hperm HN hkn
   go_loopw [45,9] (fun i out wr2=>∃(j m2:Nat) (O:List GP),j≤no∧m2≤j∧i=.int .i64 (j:Int)∧Below w6.heap.size w6 wr2∧wr2.ownsRow w6.heap.size 84 14 out m2 ((O.map GP.row).flatten)∧Hid (O.length=m2∧O.map GP.cuts=((P.map GP.cuts).take j).foldl (putR CG) []∧∀p∈O,p.ok wr2)) (fun i _ _=>no-(intOf i).toNat)
   case atStart=>exact⟨0,0,[],by omega,by omega,rfl,Below.refl _ _,HN2.out,rfl,rfl,fun p hp=>by cases hp⟩
   case round=>
    obtain⟨j,m2,O,hj,hm2,rfl,hbw,hown,hps⟩:=hrel;rcases Nat.lt_or_ge j no with hlt|hge
    ·obtain⟨bb,off,p,hbb,hp,hpok,hpc⟩:=Hpar.out.at hbw hlt
     obtain⟨p0,p1,p2,p3,p4,p5,p6,p7,p8,p9,p10,p11,p12,p13⟩:=hpc;subst hbb;have hjk:(j:Int)<(no:Int):=by omega
     have hj0:(0:Int)≤(j:Int):=by omega
     have hik:IntKind.i64.wrap ((j:Int)+1)=(j:Int)+1:=IntWalk.i64_in _ (by omega);obtain⟨ao,co,rfl,hco,-⟩:=qas hown;have HPB:=hI (Blk.new wr #[.int .i64 p.l.c.b,.string p.l.c.s,.int .i64 p.l.c.d,.bool p.l.x,.slice p.l.a p.l.n p.l.cap,.bool p.l.y,.slice p.l.e p.l.m p.l.cap2,.int .i64 p.h.c.b,.string p.h.c.s,.int .i64 p.h.c.d,.bool p.h.x,.slice p.h.a p.h.n p.h.cap,.bool p.h.y,.slice p.h.e p.h.m p.h.cap2] 84);have HPB1:=hI (qac wr (.cells #[.int .i64 p.l.c.b,.string p.l.c.s,.int .i64 p.l.c.d,.bool p.l.x,.slice p.l.a p.l.n p.l.cap,.bool p.l.y,.slice p.l.e p.l.m p.l.cap2,.int .i64 p.h.c.b,.string p.h.c.s,.int .i64 p.h.c.d,.bool p.h.x,.slice p.h.a p.h.n p.h.cap,.bool p.h.y,.slice p.h.e p.h.m p.h.cap2] 84))
     have Hfold:=hI (show((P.map GP.cuts).take (j+1)).foldl (putR CG) []=putR CG (O.map GP.cuts) p.cuts by
      rw[qn3 (x:=p.cuts) (by rw[List.getElem?_map,hp];rfl),List.foldl_append,←hps.out.2.1];rfl)
     have Hbw:=hI hbw;have Hown:=hI hown;have Hp:=hI hpok;clear hp hpok hbw hown;rcases m2 with _|jj
     ·have hO:O=[]:=List.length_eq_zero_iff.1 hps.out.1
      subst hO;have Hnx:=hI (show(([]:List GP)++[p]).map GP.cuts=((P.map GP.cuts).take (j+1)).foldl (putR CG) []by rw[Hfold.out];rfl)
      go_wp2_with fail
      generalize hW1:wr.alloc (.cells #[.int .i64 p.l.c.b,.string p.l.c.s,.int .i64 p.l.c.d,.bool p.l.x,.slice p.l.a p.l.n p.l.cap,.bool p.l.y,.slice p.l.e p.l.m p.l.cap2,.int .i64 p.h.c.b,.string p.h.c.s,.int .i64 p.h.c.d,.bool p.h.x,.slice p.h.a p.h.n p.h.cap,.bool p.h.y,.slice p.h.e p.h.m p.h.cap2] 84)=W1 at*;refine wp_region_held_drew (S:=(fun _=>True)) (by kernel_rfl) (by exact trivial) (fun hHeld=>?_)
      refine' tk 0 ?_;(try simp only[tkS]);refine' tk 1 ?_;(try simp only[tkS]);refine' tk 2 ?_;(try simp only[tkS]);refine' tkU 3 ?_;(try simp only[tkS]);refine' tkU 4 ?_;(try simp only[tkS]);refine' tkU 5 ?_;(try simp only[tkS]);refine' tkU 6 ?_;(try simp only[tkS]);refine' tkU 7 ?_;(try simp only[tkS]);refine' tkU 8 ?_;(try simp only[tkS]);refine' tkU 9 ?_;(try simp only[tkS]);refine' tkU 10 ?_;(try simp only[tkS]);refine' tkU 11 ?_;(try simp only[tkS]);refine' tk 12 ?_;(try simp only[tkS]);refine' tk 13 ?_;(try simp only[tkS]);refine tkD ?_ _
      have Hc9:=hI (bwD W1);have hP3:=qa9 HPB.out (Below.refl _ _);obtain⟨u0,u1,u2,u3,u4,u5,u6,u7,u8,u9,u10,u11,u12,u13⟩:=hP3;have Hb1':=hI (qaa HPB1.out Hc9.out);have Hb4:=hI (Hbw.out.via Hb1'.out Hbw.out.size);have Hown4:=hI (qaf Hown.out Hb1'.out)
      go_wp2_with (at_builtin;refine qcv EP (by decide) (GP.row p) rfl _ _ rfl w6.heap.size _ _ _ rfl rfl Hown4.out rfl (qfw p) (by omega) (by decide) Hb4.out.size ?_;intro v' w5 hown' hg';have Hbw3:=hI (qau Hb4.out Hown4.out hg' Hb4.out.size);have Hown5:=hI hown';have Hg5:=hI hg';clear hown' hg')
      go_roundw
      case rel=>
       refine⟨j+1,0+1,[]++[p],by omega,by omega,by go_num,Hbw3.out,by have:=Hown5.out;rw[qb5]at this;exact this,by rw[List.length_append,hps.out.1];rfl,Hnx.out,fun q' hq'=>?_⟩
       rcases List.mem_append.1 hq' with h|h
       ·exact(((hps.out.2.2 q' h).mono Hb1'.out)).app Hown4.out (by decide) Hg5.out
       ·cases List.mem_singleton.1 h
        exact(Hp.out.mono Hb1'.out).app Hown4.out (by decide) Hg5.out
      case measure=>simp[intOf]<;>omega
     ·obtain⟨gq,rfl⟩:=qbk Hown.out (by omega)
      have hprt:=qcj Hown.out hps.out.2.2;obtain⟨gg,oo,q,ha,hq,hqok,hqc⟩:=qa0.at hprt (Below.refl _ _) (show jj<jj+1 by omega);cases ha
      rw[Nat.zero_add]at hqc;have Hqc:=hI hqc;have Hq:=hI (show O.getLast?=some q by rw[List.getLast?_eq_getElem?,hps.out.1];exact hq);have Hqok:=hI hqok;have Hlc:=hI (show(O.map GP.cuts).getLast?=some q.cuts by rw[List.getLast?_map,Hq.out];rfl);have hq1:(0:Int)<((jj+1:Nat):Int):=by omega
      have hq2:IntKind.i64.wrap (jj:Int)=jj:=IntWalk.i64_in _ (by omega);have hq3:(((jj+1:Nat):Int)-1)=(jj:Int):=by omega
      have hq4:(jj:Int)<((jj+1:Nat):Int):=by omega
      have hq5:(0:Int)≤(jj:Int):=by omega
      have hq6:(jj:Int)<(jj:Int)+1:=by omega
      have hq7:¬(jj:Int)<0:=by omega
      clear hprt hq hqok hqc
      go_wp2_with fail
      generalize hW1:wr.alloc (.cells #[.int .i64 p.l.c.b,.string p.l.c.s,.int .i64 p.l.c.d,.bool p.l.x,.slice p.l.a p.l.n p.l.cap,.bool p.l.y,.slice p.l.e p.l.m p.l.cap2,.int .i64 p.h.c.b,.string p.h.c.s,.int .i64 p.h.c.d,.bool p.h.x,.slice p.h.a p.h.n p.h.cap,.bool p.h.y,.slice p.h.e p.h.m p.h.cap2] 84)=W1 at*;have HSx:=hI (fun w' (hb:Below W1.heap.size W1 w')=>show w'.cell? ⟨gq,jj*14+7,none⟩=some (.int .i64 q.h.c.b)∧w'.cell? ⟨gq,jj*14+8,none⟩=some (.string q.h.c.s)∧w'.cell? ⟨gq,jj*14+9,none⟩=some (.int .i64 q.h.c.d)∧w'.cell? ⟨gq,jj*14+10,none⟩=some (.bool q.h.x)∧w'.cell? ⟨gq,jj*14+11,none⟩=some (.slice q.h.a q.h.n q.h.cap)∧w'.cell? ⟨gq,jj*14+12,none⟩=some (.bool q.h.y)∧w'.cell? ⟨gq,jj*14+13,none⟩=some (.slice q.h.e q.h.m q.h.cap2)∧w'.cell? ⟨wr.heap.size,0,none⟩=some (.int .i64 p.l.c.b)∧w'.cell? ⟨wr.heap.size,1,none⟩=some (.string p.l.c.s)∧w'.cell? ⟨wr.heap.size,2,none⟩=some (.int .i64 p.l.c.d)∧w'.cell? ⟨wr.heap.size,3,none⟩=some (.bool p.l.x)∧w'.cell? ⟨wr.heap.size,4,none⟩=some (.slice p.l.a p.l.n p.l.cap)∧w'.cell? ⟨wr.heap.size,5,none⟩=some (.bool p.l.y)∧w'.cell? ⟨wr.heap.size,6,none⟩=some (.slice p.l.e p.l.m p.l.cap2)∧w'.cell? ⟨wr.heap.size,7,none⟩=some (.int .i64 p.h.c.b)∧w'.cell? ⟨wr.heap.size,8,none⟩=some (.string p.h.c.s)∧w'.cell? ⟨wr.heap.size,9,none⟩=some (.int .i64 p.h.c.d)∧w'.cell? ⟨wr.heap.size,10,none⟩=some (.bool p.h.x)∧w'.cell? ⟨wr.heap.size,11,none⟩=some (.slice p.h.a p.h.n p.h.cap)∧w'.cell? ⟨wr.heap.size,12,none⟩=some (.bool p.h.y)∧w'.cell? ⟨wr.heap.size,13,none⟩=some (.slice p.h.e p.h.m p.h.cap2)from⟨qab hb (qab HPB1.out Hqc.out.2.2.2.2.2.2.2.1),qab hb (qab HPB1.out Hqc.out.2.2.2.2.2.2.2.2.1),qab hb (qab HPB1.out Hqc.out.2.2.2.2.2.2.2.2.2.1),qab hb (qab HPB1.out Hqc.out.2.2.2.2.2.2.2.2.2.2.1),qab hb (qab HPB1.out Hqc.out.2.2.2.2.2.2.2.2.2.2.2.1),qab hb (qab HPB1.out Hqc.out.2.2.2.2.2.2.2.2.2.2.2.2.1),qab hb (qab HPB1.out Hqc.out.2.2.2.2.2.2.2.2.2.2.2.2.2),qab hb (qa9 HPB.out (Below.refl _ _)).1,qab hb (qa9 HPB.out (Below.refl _ _)).2.1,qab hb (qa9 HPB.out (Below.refl _ _)).2.2.1,qab hb (qa9 HPB.out (Below.refl _ _)).2.2.2.1,qab hb (qa9 HPB.out (Below.refl _ _)).2.2.2.2.1,qab hb (qa9 HPB.out (Below.refl _ _)).2.2.2.2.2.1,qab hb (qa9 HPB.out (Below.refl _ _)).2.2.2.2.2.2.1,qab hb (qa9 HPB.out (Below.refl _ _)).2.2.2.2.2.2.2.1,qab hb (qa9 HPB.out (Below.refl _ _)).2.2.2.2.2.2.2.2.1,qab hb (qa9 HPB.out (Below.refl _ _)).2.2.2.2.2.2.2.2.2.1,qab hb (qa9 HPB.out (Below.refl _ _)).2.2.2.2.2.2.2.2.2.2.1,qab hb (qa9 HPB.out (Below.refl _ _)).2.2.2.2.2.2.2.2.2.2.2.1,qab hb (qa9 HPB.out (Below.refl _ _)).2.2.2.2.2.2.2.2.2.2.2.2.1,qab hb (qa9 HPB.out (Below.refl _ _)).2.2.2.2.2.2.2.2.2.2.2.2.2⟩)
      have H4:=hI (fun w' (hb:Below W1.heap.size W1 w')=>qcu q.h p.l w' ((Hqok.out.2.mono HPB1.out).mono hb) ((Hp.out.1.mono HPB1.out).mono hb));have H5:=hI (fun w' (hb:Below W1.heap.size W1 w')=>qcu q.h p.h w' ((Hqok.out.2.mono HPB1.out).mono hb) ((Hp.out.2.mono HPB1.out).mono hb));unfold GC.agg at H4 H5;generalize hR2:cmpG q.h.c p.l.c=R2 at*;generalize hR3:cmpG q.h.c p.h.c=R3 at*;have HR2:=hI hR2;have HR3:=hI hR3;clear hR2 hR3
      by_cases hA:R2<0
      ·have Hnx:=hI (show(O++[p]).map GP.cuts=((P.map GP.cuts).take (j+1)).foldl (putR CG) []by
        rw[Hfold.out,List.map_append];unfold putR;rw[Hlc.out];dsimp only;rw[if_pos (show CG q.cuts.2 p.cuts.1 by show cmpG q.h.c p.l.c<0;rw[HR2.out];exact hA)]
        rfl)
       refine wpRg HSx.out (bwD W1) (by kernel_rfl) (fun hHeld=>?_)
       refine' tk 0 ?_;(try simp only[tkS]);refine' tk 1 ?_;(try simp only[tkS]);refine' tk 2 ?_;(try simp only[tkS]);refine' tk 3 ?_;(try simp only[tkS]);refine' tk 4 ?_;(try simp only[tkS]);refine' tk 5 ?_;(try simp only[tkS]);refine' tk 6 ?_;(try simp only[tkS]);refine' tk 7 ?_;(try simp only[tkS]);refine' tk 8 ?_;(try simp only[tkS]);refine' tk 9 ?_;(try simp only[tkS]);refine tk1 10 (fun K hK=>?_)
       go_simp;go_at_call 73;refine(H4.out _ (bwD W1)).mono ?_
       rintro e5 w10 ⟨rfl,hb10⟩;have Hb10:=hI (qaa (bwD W1) hb10);clear hb10;refine hK.out _ _ (by exact HSx.out _ (Hb10.out)) (fun hHeld=>?_)
       clear hK K;(try simp only[tkS]);refine' tk 11 ?_;(try simp only[tkS]);refine' tk 12 ?_;(try simp only[tkS]);refine' tk 13 ?_;(try simp only[tkS]);refine tkD ?_ _
       have Hc9:=hI (Hb10.out);obtain⟨t0,t1,t2,t3,t4,t5,t6,u0,u1,u2,u3,u4,u5,u6,u7,u8,u9,u10,u11,u12,u13⟩:=HSx.out _ Hc9.out;have Hb1':=hI (qaa HPB1.out Hc9.out);have Hb4:=hI (Hbw.out.via Hb1'.out Hbw.out.size);have Hown4:=hI (qaf Hown.out Hb1'.out)
       go_wp2_with (at_builtin;refine qcv EP (by decide) (GP.row p) rfl _ _ rfl w6.heap.size _ _ _ rfl rfl Hown4.out rfl (qfw p) (by omega) (by decide) Hb4.out.size ?_;intro v' w5 hown' hg';have Hbw3:=hI (qau Hb4.out Hown4.out hg' Hb4.out.size);have Hown5:=hI hown';have Hg5:=hI hg';clear hown' hg')
       go_roundw
       case rel=>
        refine⟨j+1,(jj+1)+1,O++[p],by omega,by omega,by go_num,Hbw3.out,by have:=Hown5.out;rw[qb5]at this;exact this,by rw[List.length_append,hps.out.1];rfl,Hnx.out,fun q' hq'=>?_⟩
        rcases List.mem_append.1 hq' with h|h
        ·exact(((hps.out.2.2 q' h).mono Hb1'.out)).app Hown4.out (by decide) Hg5.out
        ·cases List.mem_singleton.1 h
         exact(Hp.out.mono Hb1'.out).app Hown4.out (by decide) Hg5.out
       case measure=>simp[intOf]<;>omega
      ·have Hnlt:=hI (show ¬CG q.cuts.2 p.cuts.1 by show ¬cmpG q.h.c p.l.c<0;rw[HR2.out];exact hA)
       by_cases hB:R3<0
       ·have Hput:=hI (show(O.dropLast++[(⟨q.l,p.h⟩:GP)]).map GP.cuts=((P.map GP.cuts).take (j+1)).foldl (putR CG) []by
         rw[Hfold.out,List.map_append,List.map_dropLast];unfold putR;rw[Hlc.out];dsimp only;rw[if_neg Hnlt.out,if_pos (show CG q.cuts.2 p.cuts.2 by show cmpG q.h.c p.h.c<0;rw[HR3.out];exact hB)]
         rfl)
        refine wpRg HSx.out (bwD W1) (by kernel_rfl) (fun hHeld=>?_)
        refine' tk 0 ?_;(try simp only[tkS]);refine' tk 1 ?_;(try simp only[tkS]);refine' tk 2 ?_;(try simp only[tkS]);refine' tk 3 ?_;(try simp only[tkS]);refine' tk 4 ?_;(try simp only[tkS]);refine' tk 5 ?_;(try simp only[tkS]);refine' tk 6 ?_;(try simp only[tkS]);refine' tk 7 ?_;(try simp only[tkS]);refine' tk 8 ?_;(try simp only[tkS]);refine' tk 9 ?_;(try simp only[tkS]);refine tk1 10 (fun K hK=>?_)
        go_simp;go_at_call 73;refine(H4.out _ (bwD W1)).mono ?_
        rintro e5 w10 ⟨rfl,hb10⟩;have Hb10:=hI (qaa (bwD W1) hb10);clear hb10;refine hK.out _ _ (by exact HSx.out _ (Hb10.out)) (fun hHeld=>?_)
        clear hK K;(try simp only[tkS]);refine' tk 11 ?_;(try simp only[tkS]);refine' tk 12 ?_;(try simp only[tkS]);refine' tk 13 ?_;(try simp only[tkS]);refine tkD ?_ _
        have Hb19:=hI (Hb10.out);obtain⟨t0,t1,t2,t3,t4,t5,t6,u0,u1,u2,u3,u4,u5,u6,u7,u8,u9,u10,u11,u12,u13⟩:=HSx.out _ Hb19.out
        go_wp2_with fail
        refine wpRg HSx.out ((Hb19.out).dn 1) (by kernel_rfl) (fun hHeld=>?_)
        refine' tk 0 ?_;(try simp only[tkS]);refine' tk 1 ?_;(try simp only[tkS]);refine' tk 2 ?_;(try simp only[tkS]);refine' tk 3 ?_;(try simp only[tkS]);refine' tk 4 ?_;(try simp only[tkS]);refine' tk 5 ?_;(try simp only[tkS]);refine' tk 6 ?_;(try simp only[tkS]);refine tk1 7 (fun K hK=>?_)
        go_simp;go_at_call 73;refine(H5.out _ ((Hb19.out).dn 1)).mono ?_
        rintro e5 w7 ⟨rfl,hb7⟩;have Hb7:=hI (qaa ((Hb19.out).dn 1) hb7);clear hb7;refine hK.out _ _ (by exact HSx.out _ (Hb7.out)) (fun hHeld=>?_)
        clear hK K;(try simp only[tkS]);refine' tk 8 ?_;(try simp only[tkS]);refine' tk 9 ?_;(try simp only[tkS]);refine tkD ?_ _
        have Hc21:=hI (Hb7.out);obtain⟨t0,t1,t2,t3,t4,t5,t6,u0,u1,u2,u3,u4,u5,u6,u7,u8,u9,u10,u11,u12,u13⟩:=HSx.out _ Hc21.out;have Hb1':=hI (qaa HPB1.out Hc21.out);have Hb4:=hI (Hbw.out.via Hb1'.out Hbw.out.size);have Hown4:=hI (qaf Hown.out Hb1'.out);have hfr:=fun i=>qjk Hown4.out i
        have fr7:=hfr (jj*14+7);have fr8:=hfr (jj*14+8);have fr9:=hfr (jj*14+9);have fr10:=hfr (jj*14+10);have fr11:=hfr (jj*14+11);have fr12:=hfr (jj*14+12);have fr13:=hfr (jj*14+13);clear hfr;have Hsn:=hI (qcn Hq.out);have HP:=hI (qmu p.h (by rw[List.length_dropLast,hps.out.1];rfl:O.dropLast.length=jj) (by have:=Hown4.out;rw[Hsn.out]at this;exact this));have Hb6':=hI (Below.grown Hb4.out HP.out.2 Hb4.out.size (fun k' hk'=>(Hown4.out.lt k' hk').1))
        go_wp2_with fail
        go_roundw
        case rel=>
         refine⟨j+1,jj+1,O.dropLast++[(⟨q.l,p.h⟩:GP)],by omega,by omega,by go_num,Hb6'.out,HP.out.1,by rw[List.length_append,List.length_dropLast,hps.out.1];rfl,Hput.out,fun q' hq'=>?_⟩
         rcases List.mem_append.1 hq' with h|h
         ·exact((hps.out.2.2 q' (List.dropLast_subset _ h)).mono Hb1'.out).grownP Hown4.out (by decide) HP.out.2
         ·cases List.mem_singleton.1 h
          exact GP.ok.grownP (⟨Hqok.out.1.mono Hb1'.out,Hp.out.2.mono Hb1'.out⟩:GP.ok _ (⟨q.l,p.h⟩:GP)) Hown4.out (by decide) HP.out.2
        case measure=>simp[intOf]<;>omega
       ·have Hkeep:=hI (show O.map GP.cuts=((P.map GP.cuts).take (j+1)).foldl (putR CG) []by
         rw[Hfold.out];unfold putR;rw[Hlc.out];dsimp only
         rw[if_neg Hnlt.out,if_neg (show ¬CG q.cuts.2 p.cuts.2 by show ¬cmpG q.h.c p.h.c<0;rw[HR3.out];exact hB)])
        refine wpRg HSx.out (bwD W1) (by kernel_rfl) (fun hHeld=>?_)
        refine' tk 0 ?_;(try simp only[tkS]);refine' tk 1 ?_;(try simp only[tkS]);refine' tk 2 ?_;(try simp only[tkS]);refine' tk 3 ?_;(try simp only[tkS]);refine' tk 4 ?_;(try simp only[tkS]);refine' tk 5 ?_;(try simp only[tkS]);refine' tk 6 ?_;(try simp only[tkS]);refine' tk 7 ?_;(try simp only[tkS]);refine' tk 8 ?_;(try simp only[tkS]);refine' tk 9 ?_;(try simp only[tkS]);refine tk1 10 (fun K hK=>?_)
        go_simp;go_at_call 73;refine(H4.out _ (bwD W1)).mono ?_
        rintro e5 w10 ⟨rfl,hb10⟩;have Hb10:=hI (qaa (bwD W1) hb10);clear hb10;refine hK.out _ _ (by exact HSx.out _ (Hb10.out)) (fun hHeld=>?_)
        clear hK K;(try simp only[tkS]);refine' tk 11 ?_;(try simp only[tkS]);refine' tk 12 ?_;(try simp only[tkS]);refine' tk 13 ?_;(try simp only[tkS]);refine tkD ?_ _
        have Hb19:=hI (Hb10.out);obtain⟨t0,t1,t2,t3,t4,t5,t6,u0,u1,u2,u3,u4,u5,u6,u7,u8,u9,u10,u11,u12,u13⟩:=HSx.out _ Hb19.out
        go_wp2_with fail
        refine wpRg HSx.out ((Hb19.out).dn 1) (by kernel_rfl) (fun hHeld=>?_)
        refine' tk 0 ?_;(try simp only[tkS]);refine' tk 1 ?_;(try simp only[tkS]);refine' tk 2 ?_;(try simp only[tkS]);refine' tk 3 ?_;(try simp only[tkS]);refine' tk 4 ?_;(try simp only[tkS]);refine' tk 5 ?_;(try simp only[tkS]);refine' tk 6 ?_;(try simp only[tkS]);refine tk1 7 (fun K hK=>?_)
        go_simp;go_at_call 73;refine(H5.out _ ((Hb19.out).dn 1)).mono ?_
        rintro e5 w7 ⟨rfl,hb7⟩;have Hb7:=hI (qaa ((Hb19.out).dn 1) hb7);clear hb7;refine hK.out _ _ (by exact HSx.out _ (Hb7.out)) (fun hHeld=>?_)
        clear hK K;(try simp only[tkS]);refine' tk 8 ?_;(try simp only[tkS]);refine' tk 9 ?_;(try simp only[tkS]);refine tkD ?_ _
        have Hc21:=hI (Hb7.out);obtain⟨t0,t1,t2,t3,t4,t5,t6,u0,u1,u2,u3,u4,u5,u6,u7,u8,u9,u10,u11,u12,u13⟩:=HSx.out _ Hc21.out;have Hb1':=hI (qaa HPB1.out Hc21.out);have Hb4:=hI (Hbw.out.via Hb1'.out Hbw.out.size);have Hown4:=hI (qaf Hown.out Hb1'.out)
        go_wp2_with fail
        go_roundw
        case rel=>exact⟨j+1,jj+1,O,by omega,by omega,by go_num,Hb4.out,Hown4.out,hps.out.1,Hkeep.out,fun q' hq'=>(hps.out.2.2 q' hq').mono Hb1'.out⟩
        case measure=>simp[intOf]<;>omega
    ·obtain rfl:j=no:=by omega
     have hkn:¬(j:Int)<(j:Int):=by omega
     obtain⟨ao,co,rfl,hco,-⟩:=qas hown;have hpar:=qcj hown hps.out.2.2;have HI:=hI (qhw (.slice ao m2 co) O wr hpar (by rw[hps.out.1];omega));rw[hps.out.1]at HI
     have Hfin:=hI (show O.map GP.cuts=qdz CG (P.map GP.cuts)by
      rw[hps.out.2.1,List.take_of_length_le (by rw[List.length_map,HPl.out];exact Nat.le_refl _)];rfl)
     have Hl:=hI (show(qdz CG (P.map GP.cuts)).length=m2 by rw[←Hfin.out,List.length_map,hps.out.1]);have Hiv:=hI (show O.map GP.iv=(qdz CG (P.map GP.cuts)).map ivOf by rw[←Hfin.out,List.map_map];rfl);have Hbw:=hI (Hb6.out.via hbw Hb6.out.size);clear hown hpar hbw hps
     go_wp2_with (go_at_call 76;refine(HI.out).mono ?_;rintro e w8 ⟨v8,rfl,⟨a8,c8,rfl,hiv⟩,hb8⟩;have Hb8:=hI hb8;have Hiv8:=hI hiv;clear hb8 hiv)
     go_ret2
     exact⟨_,rfl,⟨fun h=>absurd Hse.out h,fun _=>⟨a8,c8,P.map GP.cuts,by rw[Hl.out];rfl,by rw[Hl.out,←Hiv.out];exact Hiv8.out,HQp.out,HQs.out⟩⟩,Hbw.out.via Hb8.out Hbw.out.size⟩
theorem qlv(v:Value)(xs:List Iv)(w:World)(h:Ivs w v xs)(hs:∀x∈xs,x.short):
  Calls Tryz.prog 23 #[v] w (RetP (qxv xs) w):=by
 rcases Nat.lt_or_ge 256 xs.length with hn|hn
 ·refine(qko v xs w h hn).mono ?_
  rintro e w' ⟨rfl,hb⟩;have e0:qa6 xs=6:=by unfold qa6;rw[if_pos hn]
  exact⟨_,rfl,⟨fun _=>by rw[e0],fun h=>absurd (e0.symm.trans h) (by decide)⟩,hb⟩
 ·exact qjh v xs w h hs hn
end Go.Proofs.YtacihodamichhaaGreatDoor
