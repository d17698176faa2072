/- Parts of the proof. -/
import Derived.Test.YtacihodamichhaaGreatDoorU15
set_option maxHeartbeats 16000000
namespace Go.Proofs.YtacihodamichhaaGreatDoor
open Go.RowKit
structure GP where
 l:GC
 h:GC
def GP.row(p:GP):List Value:=p.l.cells++p.h.cells
def GP.ok(w:World)(p:GP):Prop:=p.l.ok w∧p.h.ok w
def GP.cuts(p:GP):Cut × Cut:=(p.l.c,p.h.c)
theorem GP.ok.mono{w w':World}{p:GP}(h:p.ok w)(hb:Below w.heap.size w w'):p.ok w':=⟨h.1.mono hb,h.2.mono hb⟩
def qa0(w:World)(v:Value)(ps:List GP):Prop:=Sl w 14 v (ps.map GP.row)∧∀p∈ps,p.ok w
theorem qa0.mono{w w':World}{v:Value}{ps:List GP}(h:qa0 w v ps)(hb:Below w.heap.size w w'):qa0 w' v ps:=⟨Sl.mono h.1 hb,fun p hp=>(h.2 p hp).mono hb⟩
theorem qa0.open{w:World}{v:Value}{ps:List GP}(h:qa0 w v ps):∃a cap,v=.slice a ps.length cap∧ps.length≤cap∧cap≤maxLen:=by
 have:=Sl.open h.1;simpa using this
def qus(w:World)(b o:Nat)(p:GP):Prop:=w.cell? ⟨b,o,none⟩=some (.int .i64 p.l.c.b)∧w.cell? ⟨b,o+1,none⟩=some (.string p.l.c.s)∧w.cell? ⟨b,o+2,none⟩=some (.int .i64 p.l.c.d)∧w.cell? ⟨b,o+3,none⟩=some (.bool p.l.x)∧w.cell? ⟨b,o+4,none⟩=some (.slice p.l.a p.l.n p.l.cap)∧w.cell? ⟨b,o+5,none⟩=some (.bool p.l.y)∧w.cell? ⟨b,o+6,none⟩=some (.slice p.l.e p.l.m p.l.cap2)∧w.cell? ⟨b,o+7,none⟩=some (.int .i64 p.h.c.b)∧w.cell? ⟨b,o+8,none⟩=some (.string p.h.c.s)∧w.cell? ⟨b,o+9,none⟩=some (.int .i64 p.h.c.d)∧w.cell? ⟨b,o+10,none⟩=some (.bool p.h.x)∧w.cell? ⟨b,o+11,none⟩=some (.slice p.h.a p.h.n p.h.cap)∧w.cell? ⟨b,o+12,none⟩=some (.bool p.h.y)∧w.cell? ⟨b,o+13,none⟩=some (.slice p.h.e p.h.m p.h.cap2)
theorem qa0.at{w wr:World}{n cap:Nat}{a:Option Addr}{ps:List GP}(h:qa0 w (.slice a n cap) ps)(hb:Below w.heap.size w wr){k:Nat}(hk:k<n):
  ∃b off p,a=some ⟨b,off,none⟩∧ps[k]?=some p∧p.ok wr∧qus wr b (off+k*14) p:=by
 obtain⟨b,off,ha,hlt,r,hr,hc⟩:=Sl.row h.1 hb hk;simp only[List.getElem?_map,Option.map_eq_some_iff]at hr;obtain⟨l,hl,rfl⟩:=hr;exact⟨b,off,l,ha,hl,(h.2 l (List.mem_of_getElem? hl)).mono hb,hc 0 (by decide),hc 1 (by decide),hc 2 (by decide),hc 3 (by decide),hc 4 (by decide),hc 5 (by decide),hc 6 (by decide),hc 7 (by decide),hc 8 (by decide),hc 9 (by decide),hc 10 (by decide),hc 11 (by decide),hc 12 (by decide),hc 13 (by decide)⟩
theorem GC.ok.app{w w':World}{B e sz n:Nat}{v:Value}{xs:List Value}{k:GC}{o:Obj}(h:k.ok w)(hown:w.ownsRow B e sz v n xs)(he:e≠62)(hg:(w.alloc o).grownBy w' v.ownBlock):k.ok w':=(h.mono (qac w o)).grown (qaf hown (qac w o)) he hg
theorem GP.ok.app{w w':World}{B e sz n:Nat}{v:Value}{xs:List Value}{p:GP}{o:Obj}(h:p.ok w)(hown:w.ownsRow B e sz v n xs)(he:e≠62)(hg:(w.alloc o).grownBy w' v.ownBlock):p.ok w':=⟨h.1.app hown he hg,h.2.app hown he hg⟩
theorem qcj{w:World}{B n:Nat}{v:Value}{ps:List GP}(h:w.ownsRow B 84 14 v n ((ps.map GP.row).flatten))(hok:∀p∈ps,p.ok w):qa0 w v ps:=
 ⟨Sl.own h (fun r hr=>by obtain⟨p,_,rfl⟩:=List.mem_map.1 hr;rfl) (by decide),hok⟩
theorem qfw(p:GP):∀u∈p.row,u.oneCell'=true:=by
 intro u hu;simp[GP.row,GC.cells]at hu;rcases hu with rfl|rfl|rfl|rfl|rfl|rfl|rfl|rfl|rfl|rfl|rfl|rfl|rfl|rfl<;>rfl
def qbo:Option Cut→List Iv→Int
 |_,[]=>0
 |c,x::r=>if qba x≠0 then qba x else if 0≤cmpG x.low x.high then 7 else if(match c with|none=>false|some c=>decide (0≤cmpG c x.low))=true then 8 else qbo (some x.high) r
def qa5(xs:List Iv):Int:=if 256<xs.length then 6 else qbo none xs
def qjf(xs:List Iv)(k:Nat):Option Cut:=match k with|0=>none|j+1=>xs[j]?.map Iv.high
theorem qhz{c:Option Cut}{x:Iv}{r:List Iv}(h:qba x≠0):qbo c (x::r)=qba x:=by unfold qbo;rw[if_pos h]
theorem qjq{c:Option Cut}{x:Iv}{r:List Iv}(h:qba x=0)(h2:0≤cmpG x.low x.high):qbo c (x::r)=7:=by unfold qbo;rw[if_neg (by simpa using h),if_pos h2]
theorem qjp{c:Cut}{x:Iv}{r:List Iv}(h:qba x=0)(h2:¬0≤cmpG x.low x.high)(h3:0≤cmpG c x.low):qbo (some c) (x::r)=8:=by unfold qbo;rw[if_neg (by simpa using h),if_neg h2];rw[if_pos (decide_eq_true h3)]
theorem qf6{x:Iv}{r:List Iv}(h:qba x=0)(h2:¬0≤cmpG x.low x.high):qbo none (x::r)=qbo (some x.high) r:=by rw[qbo,if_neg (by simpa using h),if_neg h2];rw[if_neg (by decide)]
theorem qgr{c:Cut}{x:Iv}{r:List Iv}(h:qba x=0)(h2:¬0≤cmpG x.low x.high)(h3:¬0≤cmpG c x.low):qbo (some c) (x::r)=qbo (some x.high) r:=by rw[qbo,if_neg (by simpa using h),if_neg h2];rw[if_neg (by simpa using h3)]
theorem qd3{l:List Iv}{i:Nat}{d:Iv}(h:l[i]?=some d):l.drop i=d::l.drop (i+1):=by
 have hi:i<l.length:=by
  rcases Nat.lt_or_ge i l.length with h'|h'
  ·exact h'
  ·rw[List.getElem?_eq_none h']at h;cases h
 rw[List.getElem?_eq_getElem hi]at h;rw[List.drop_eq_getElem_cons hi,Option.some.inj h]
set_option maxRecDepth 10000 in
theorem qoj(v:Value)(xs:List Iv)(w:World)(h:Ivs w v xs)(hn:256<xs.length):
  Calls Tryz.prog 56 #[v] w (Ret (.tuple #[.slice none 0 0,.int .i64 6]) w):=by
 obtain⟨a,c,rfl,hc1,hc2⟩:=h.open;clear h;generalize xs.length=n at*;have hn2:(256:Int)<(n:Int):=by omega
 go_enter Tryz.func56,Tryz.ntmps56
 go_wp2_with fail
 go_ret2
 exact⟨rfl,Below.refl _ _⟩
def qh5(xs:List Iv)(e:Ending)(w':World):Prop:=∃v,e=.returned (.tuple #[v,.int .i64 (qa5 xs)])∧(qa5 xs=0→∃a c,∃ps:List GP,v=.slice a ps.length c∧qa0 w' (.slice a ps.length c) ps∧ps.map GP.cuts=xs.map Iv.cuts)∧(qa5 xs≠0→v=.slice none 0 0)
set_option maxRecDepth 10000 in
theorem qlj(v:Value)(xs:List Iv)(w:World)(h:Ivs w v xs)(hs:∀x∈xs,x.short)(hn:xs.length≤256):
  Calls Tryz.prog 56 #[v] w (fun e w'=>qh5 xs e w'∧Below w.heap.size w w'):=by
 obtain⟨a,c,rfl,hc1,hc2⟩:=h.open;unfold maxLen at hc2;have HX:=hI h;have Hsh:=hI hs;have HE:=hI (show qa5 xs=qbo none xs by unfold qa5;rw[if_neg (by omega)]);clear h hs;generalize hln:xs.length=n at*;have Hln:=hI hln;clear hln;have hn2:¬(256:Int)<(n:Int):=by omega
 have HN:=hI (fun W:World=>World.ownsRow_nil W w.heap.size 84 14)
 go_enter Tryz.func56,Tryz.ntmps56
 go_wp2_with fail
 go_loopw [14,4] (fun i out wr=>∃(k:Nat) (ps:List GP),k≤n∧i=.int .i64 (k:Int)∧Below w.heap.size w wr∧wr.ownsRow w.heap.size 84 14 out k ((ps.map GP.row).flatten)∧Hid (ps.length=k∧ps.map GP.cuts=(xs.take k).map Iv.cuts∧(∀p∈ps,p.ok wr)∧qa5 xs=qbo (qjf xs k) (xs.drop k))) (fun i _ _=>n-(intOf i).toNat)
 case atStart=>exact⟨0,[],by omega,rfl,Below.refl _ _,HN.out _,rfl,rfl,(fun p hp=>by cases hp),HE.out⟩
 case round=>
  obtain⟨k,ps,hk,rfl,hbw,hown,hps⟩:=hrel;rcases Nat.lt_or_ge k n with hlt|hge
  ·obtain⟨b,off,x,rfl,hx,c0,c1,c2,c3⟩:=HX.out.at hbw hlt
   have hkn:(k:Int)<(n:Int):=by omega
   have hik:IntKind.i64.wrap ((k:Int)+1)=(k:Int)+1:=IntWalk.i64_in _ (by omega);have Hxc:=hI (show(xs.take (k+1)).map Iv.cuts=(xs.take k).map Iv.cuts++[x.cuts]by rw[geti hx,List.map_append];rfl);have H1:=hI (fun w'=>qkc x w' (Hsh.out x (List.mem_of_getElem? hx)));have hse:=hps.out.2.2.2;rw[qd3 hx]at hse;have Hse:=hI hse;have Hx:=hI hx;have Hbw:=hI hbw;have Hown:=hI hown;unfold Iv.agg at H1;unfold IvG at H1;clear hx hbw hown hse
   by_cases hiv:qba x=0
   ·rw[hiv]at H1
    generalize hR:cmpG x.low x.high=R at*;have HR:=hI hR;clear hR
    by_cases hRs:0≤R
    ·have hser:qa5 xs=7:=by rw[Hse.out,qjq hiv (by rw[HR.out];omega)]
     have Hser:=hI hser;have Hiv:=hI hiv;clear hiv hser
     go_wp2_with (first
      |(go_at_call 72;refine(H1.out _).mono ?_;rintro e w2 ⟨v2,rfl,⟨k1,k2,rfl,hk1,hk2,hcc⟩,hb2⟩;obtain⟨⟨b1,s1,d1⟩,x1,a1,n1,c1',y1,e1,m1,l1⟩:=k1;obtain⟨⟨b2,s2,d2⟩,x2,a2,n2,c2',y2,e2,m2,l2⟩:=k2;have Hcc:=hI (hcc rfl);have Hb2:=hI (Hbw.out.via (qaa (qac wr (.cells #[.string x.lo,.string x.hi,.int .i64 x.le,.int .i64 x.he] 46)) hb2) Hbw.out.size);have Hkk:=hI (And.intro (hk1.mono (qac w2 (.cells #[.int .i64 b1,.string s1,.int .i64 d1,.bool x1,.slice a1 n1 c1',.bool y1,.slice e1 m1 l1,.int .i64 b2,.string s2,.int .i64 d2,.bool x2,.slice a2 n2 c2',.bool y2,.slice e2 m2 l2] 84))) (hk2.mono (qac w2 (.cells #[.int .i64 b1,.string s1,.int .i64 d1,.bool x1,.slice a1 n1 c1',.bool y1,.slice e1 m1 l1,.int .i64 b2,.string s2,.int .i64 d2,.bool x2,.slice a2 n2 c2',.bool y2,.slice e2 m2 l2] 84))));have HP2:=hI (Blk.new w2 #[.int .i64 b1,.string s1,.int .i64 d1,.bool x1,.slice a1 n1 c1',.bool y1,.slice e1 m1 l1,.int .i64 b2,.string s2,.int .i64 d2,.bool x2,.slice a2 n2 c2',.bool y2,.slice e2 m2 l2] 84);have Hb2':=hI (qaa (qaa (qac wr (.cells #[.string x.lo,.string x.hi,.int .i64 x.le,.int .i64 x.he] 46)) hb2) (qac w2 (.cells #[.int .i64 b1,.string s1,.int .i64 d1,.bool x1,.slice a1 n1 c1',.bool y1,.slice e1 m1 l1,.int .i64 b2,.string s2,.int .i64 d2,.bool x2,.slice a2 n2 c2',.bool y2,.slice e2 m2 l2] 84)));unfold gpagg;clear hcc hk1 hk2 hb2)
      |(go_at_call 73;refine(qcu ⟨⟨b1,s1,d1⟩,x1,a1,n1,c1',y1,e1,m1,l1⟩ ⟨⟨b2,s2,d2⟩,x2,a2,n2,c2',y2,e2,m2,l2⟩ _ Hkk.out.1 Hkk.out.2).mono ?_;rintro e w3 ⟨rfl,hb3⟩;rw[show cmpG (GC.c ⟨⟨b1,s1,d1⟩,x1,a1,n1,c1',y1,e1,m1,l1⟩) (GC.c ⟨⟨b2,s2,d2⟩,x2,a2,n2,c2',y2,e2,m2,l2⟩)=R by rw[Hcc.out.1,Hcc.out.2,HR.out]];have Hb3:=hI hb3;clear hb3))
     go_ret2
     exact⟨⟨_,by rw[Hser.out];rfl,fun h=>absurd h (by rw[Hser.out];decide),fun _=>rfl⟩,Hbw.out.via (qaa Hb2'.out Hb3.out) Hbw.out.size⟩
    ·have hR2:¬0≤R:=hRs
     have Hiv:=hI hiv;clear hiv hRs
     go_wp2_with (first
      |(go_at_call 72;refine(H1.out _).mono ?_;rintro e w2 ⟨v2,rfl,⟨k1,k2,rfl,hk1,hk2,hcc⟩,hb2⟩;obtain⟨⟨b1,s1,d1⟩,x1,a1,n1,c1',y1,e1,m1,l1⟩:=k1;obtain⟨⟨b2,s2,d2⟩,x2,a2,n2,c2',y2,e2,m2,l2⟩:=k2;have Hcc:=hI (hcc rfl);have Hb2:=hI (Hbw.out.via (qaa (qac wr (.cells #[.string x.lo,.string x.hi,.int .i64 x.le,.int .i64 x.he] 46)) hb2) Hbw.out.size);have Hkk:=hI (And.intro (hk1.mono (qac w2 (.cells #[.int .i64 b1,.string s1,.int .i64 d1,.bool x1,.slice a1 n1 c1',.bool y1,.slice e1 m1 l1,.int .i64 b2,.string s2,.int .i64 d2,.bool x2,.slice a2 n2 c2',.bool y2,.slice e2 m2 l2] 84))) (hk2.mono (qac w2 (.cells #[.int .i64 b1,.string s1,.int .i64 d1,.bool x1,.slice a1 n1 c1',.bool y1,.slice e1 m1 l1,.int .i64 b2,.string s2,.int .i64 d2,.bool x2,.slice a2 n2 c2',.bool y2,.slice e2 m2 l2] 84))));have HP2:=hI (Blk.new w2 #[.int .i64 b1,.string s1,.int .i64 d1,.bool x1,.slice a1 n1 c1',.bool y1,.slice e1 m1 l1,.int .i64 b2,.string s2,.int .i64 d2,.bool x2,.slice a2 n2 c2',.bool y2,.slice e2 m2 l2] 84);have Hb2':=hI (qaa (qaa (qac wr (.cells #[.string x.lo,.string x.hi,.int .i64 x.le,.int .i64 x.he] 46)) hb2) (qac w2 (.cells #[.int .i64 b1,.string s1,.int .i64 d1,.bool x1,.slice a1 n1 c1',.bool y1,.slice e1 m1 l1,.int .i64 b2,.string s2,.int .i64 d2,.bool x2,.slice a2 n2 c2',.bool y2,.slice e2 m2 l2] 84)));unfold gpagg;clear hcc hk1 hk2 hb2)
      |(go_at_call 73;refine(qcu ⟨⟨b1,s1,d1⟩,x1,a1,n1,c1',y1,e1,m1,l1⟩ ⟨⟨b2,s2,d2⟩,x2,a2,n2,c2',y2,e2,m2,l2⟩ _ Hkk.out.1 Hkk.out.2).mono ?_;rintro e w3 ⟨rfl,hb3⟩;rw[show cmpG (GC.c ⟨⟨b1,s1,d1⟩,x1,a1,n1,c1',y1,e1,m1,l1⟩) (GC.c ⟨⟨b2,s2,d2⟩,x2,a2,n2,c2',y2,e2,m2,l2⟩)=R by rw[Hcc.out.1,Hcc.out.2,HR.out]];have Hb3:=hI hb3;clear hb3))
     rcases k with _|j
     ·have Hnx:=hI (show qa5 xs=qbo (qjf xs (0+1)) (xs.drop (0+1))by rw[Hse.out];show qbo none _=_;rw[qf6 Hiv.out (by rw[HR.out];omega)];show _=qbo (xs[0]?.map Iv.high) _;rw[Hx.out];rfl)
      refine wp_region_held_drew (S:=(fun _=>True)) (by kernel_rfl) (by exact trivial) (fun hHeld=>?_)
      refine wpAnyH_take (i:=0) (v:=?v1) rfl (by kernel_rfl) (by kernel_rfl) (by kernel_rfl) (fun _ _ _ h=>h) (Or.inl ⟨by rfl,?hy1⟩) (by assumption) ?rest1
      case hy1=>(intro w hSw;(try dsimp only at hSw);go_simp;try(with_reducible rfl))
      try simp only[Act.put,List.getElem_toArray,List.getElem_cons_zero,List.setIfInBounds_toArray,List.set_cons_zero,List.set_cons_succ]
      refine' tk 1 ?_;(try simp only[tkS]);refine' tk 2 ?_;(try simp only[tkS]);refine' tkU 3 ?_;(try simp only[tkS]);refine' tkU 4 ?_;(try simp only[tkS]);refine' tkU 5 ?_;(try simp only[tkS]);refine' tkU 6 ?_;(try simp only[tkS]);refine' tkU 7 ?_;(try simp only[tkS]);refine' tkU 8 ?_;(try simp only[tkS]);refine' tkU 9 ?_;(try simp only[tkS]);refine' tkU 10 ?_;(try simp only[tkS]);refine' tkU 11 ?_;(try simp only[tkS]);refine' tkU 12 ?_;(try simp only[tkS]);refine' tk 13 ?_;(try simp only[tkS]);refine' tk 14 ?_;(try simp only[tkS]);refine tkD ?_ _
      have Hc9:=hI ((Hb3.out).dn 1);have hP3:=qa9 HP2.out (Hb3.out);obtain⟨p0,p1,p2,p3,p4,p5,p6,p7,p8,p9,p10,p11,p12,p13⟩:=hP3;have hb4:=Hbw.out.via (qaa Hb2'.out (Hc9.out)) Hbw.out.size;have hown4:=qaf Hown.out (qaa Hb2'.out (Hc9.out));have Hb4:=hI hb4;have Hown4:=hI hown4;clear hb4 hown4
      go_wp2_with (at_builtin;refine qcv EP (by decide) (GP.row (⟨⟨⟨b1,s1,d1⟩,x1,a1,n1,c1',y1,e1,m1,l1⟩,⟨⟨b2,s2,d2⟩,x2,a2,n2,c2',y2,e2,m2,l2⟩⟩:GP)) rfl _ _ rfl w.heap.size _ _ _ rfl rfl Hown4.out rfl (qfw (⟨⟨⟨b1,s1,d1⟩,x1,a1,n1,c1',y1,e1,m1,l1⟩,⟨⟨b2,s2,d2⟩,x2,a2,n2,c2',y2,e2,m2,l2⟩⟩:GP)) (by omega) (by decide) Hb4.out.size ?_;intro v' w5 hown' hg';have Hbw3:=hI (qau Hb4.out Hown4.out hg' Hb4.out.size);have Hown5:=hI hown';have Hg5:=hI hg';clear hown' hg')
      go_roundw
      case rel=>
       have hbc:=qaa Hb2'.out (Hc9.out);refine⟨0+1,ps++[(⟨⟨⟨b1,s1,d1⟩,x1,a1,n1,c1',y1,e1,m1,l1⟩,⟨⟨b2,s2,d2⟩,x2,a2,n2,c2',y2,e2,m2,l2⟩⟩:GP)],by omega,by go_num,Hbw3.out,by have:=Hown5.out;rw[qb5]at this;exact this,by rw[List.length_append,hps.out.1];rfl,?_,?_,Hnx.out⟩
       ·rw[List.map_append,hps.out.2.1,Hxc.out,List.map_cons,List.map_nil]
        congr 2
        unfold GP.cuts Iv.cuts;rw[Hcc.out.1,Hcc.out.2]
       ·intro q hq
        rcases List.mem_append.1 hq with h|h
        ·exact((hps.out.2.2.1 q h).mono hbc).app Hown4.out (by decide) Hg5.out
        ·cases List.mem_singleton.1 h
         exact GP.ok.app (⟨Hkk.out.1.mono (Hc9.out),Hkk.out.2.mono (Hc9.out)⟩:GP.ok _ (⟨⟨⟨b1,s1,d1⟩,x1,a1,n1,c1',y1,e1,m1,l1⟩,⟨⟨b2,s2,d2⟩,x2,a2,n2,c2',y2,e2,m2,l2⟩⟩:GP)) Hown4.out (by decide) Hg5.out
      case measure=>simp[intOf]<;>omega
     ·have hln2:=hps.out.1
      obtain⟨aa,cap,rfl,-,-⟩:=qas Hown.out;obtain⟨g,rfl⟩:=qbk Hown.out (by omega);have hb23:=qaa Hb2'.out Hb3.out;have hprt:=qcj (qaf Hown.out hb23) (fun q hq=>(hps.out.2.2.1 q hq).mono hb23);obtain⟨gg,oo,p,ha,hp,hpok,hpc⟩:=qa0.at hprt (Below.refl _ _) (show j<j+1 by omega);cases ha
      rw[Nat.zero_add]at hpc;have hl14:=qa9 HP2.out Hb3.out;have HSx:=hI (fun w' (hb:Below w3.heap.size w3 w')=>show w'.cell? ⟨g,j*14+7,none⟩=some (.int .i64 p.h.c.b)∧w'.cell? ⟨g,j*14+8,none⟩=some (.string p.h.c.s)∧w'.cell? ⟨g,j*14+9,none⟩=some (.int .i64 p.h.c.d)∧w'.cell? ⟨g,j*14+10,none⟩=some (.bool p.h.x)∧w'.cell? ⟨g,j*14+11,none⟩=some (.slice p.h.a p.h.n p.h.cap)∧w'.cell? ⟨g,j*14+12,none⟩=some (.bool p.h.y)∧w'.cell? ⟨g,j*14+13,none⟩=some (.slice p.h.e p.h.m p.h.cap2)∧w'.cell? ⟨w2.heap.size,0,none⟩=some (.int .i64 b1)∧w'.cell? ⟨w2.heap.size,1,none⟩=some (.string s1)∧w'.cell? ⟨w2.heap.size,2,none⟩=some (.int .i64 d1)∧w'.cell? ⟨w2.heap.size,3,none⟩=some (.bool x1)∧w'.cell? ⟨w2.heap.size,4,none⟩=some (.slice a1 n1 c1')∧w'.cell? ⟨w2.heap.size,5,none⟩=some (.bool y1)∧w'.cell? ⟨w2.heap.size,6,none⟩=some (.slice e1 m1 l1)from⟨qab hb hpc.2.2.2.2.2.2.2.1,qab hb hpc.2.2.2.2.2.2.2.2.1,qab hb hpc.2.2.2.2.2.2.2.2.2.1,qab hb hpc.2.2.2.2.2.2.2.2.2.2.1,qab hb hpc.2.2.2.2.2.2.2.2.2.2.2.1,qab hb hpc.2.2.2.2.2.2.2.2.2.2.2.2.1,qab hb hpc.2.2.2.2.2.2.2.2.2.2.2.2.2,qab hb hl14.1,qab hb hl14.2.1,qab hb hl14.2.2.1,qab hb hl14.2.2.2.1,qab hb hl14.2.2.2.2.1,qab hb hl14.2.2.2.2.2.1,qab hb hl14.2.2.2.2.2.2.1⟩);have Hpok:=hI (And.intro hpok.2 (Hkk.out.1.mono Hb3.out));have H4:=hI (fun w' (hb:Below w3.heap.size w3 w')=>qcu p.h ⟨⟨b1,s1,d1⟩,x1,a1,n1,c1',y1,e1,m1,l1⟩ w' (Hpok.out.1.mono hb) (Hpok.out.2.mono hb))
      have hlc:qjf xs (j+1)=some p.h.c:=by
       have h1:(ps.map GP.cuts)[j]?=some p.cuts:=by rw[List.getElem?_map,hp];rfl
       rw[hps.out.2.1,List.map_take,List.getElem?_take_of_lt (by omega),List.getElem?_map]at h1
       show xs[j]?.map Iv.high=_
       cases hxj:xs[j]? with
       |none=>rw[hxj]at h1;cases h1
       |some z=>
        rw[hxj]at h1;have h2:z.cuts=p.cuts:=Option.some.inj h1
        show some z.high=_
        rw[show z.high=p.h.c from congrArg Prod.snd h2]
      have hse2:=Hse.out;rw[hlc]at hse2;rw[show cmpG p.h.c (GC.c ⟨⟨b1,s1,d1⟩,x1,a1,n1,c1',y1,e1,m1,l1⟩)=cmpG p.h.c x.low by rw[Hcc.out.1]]at H4;generalize hR3:cmpG p.h.c x.low=R2 at*;have HR3:=hI hR3;have Hse2:=hI hse2;have hj1:(0:Int)<((j+1:Nat):Int):=by omega
      have hj2:IntKind.i64.wrap (j:Int)=j:=IntWalk.i64_in _ (by omega);have hj3:(((j+1:Nat):Int)-1)=(j:Int):=by omega
      have hj4:(j:Int)<((j+1:Nat):Int):=by omega
      have hj5:(0:Int)≤(j:Int):=by omega
      have hj6:(j:Int)<(j:Int)+1:=by omega
      have hj7:(0:Int)<(j:Int)+1:=by omega
      unfold GC.agg at H4;dsimp only at H4;clear hb23 hprt hp hpok hpc hl14 hln2 hlc hse2 hR3
      by_cases hR22:0≤R2
      ·have Hser:=hI (show qa5 xs=8 by rw[Hse2.out,qjp Hiv.out (by rw[HR.out];omega) (by rw[HR3.out];omega)])
       refine wpRg HSx.out ((Below.refl _ _).dn 1) (by kernel_rfl) (fun hHeld=>?_)
       refine wpAnyH_take (i:=0) (v:=?v16) rfl (by kernel_rfl) (by kernel_rfl) (by kernel_rfl) (fun _ _ _ h=>h) (Or.inl ⟨by rfl,?hy16⟩) (by assumption) ?rest16
       case hy16=>(intro w hSw;(try dsimp only at hSw);go_simp;try(with_reducible rfl))
       try simp only[Act.put,List.getElem_toArray,List.getElem_cons_zero,List.setIfInBounds_toArray,List.set_cons_zero,List.set_cons_succ]
       refine' tk 1 ?_;(try simp only[tkS]);refine' tk 2 ?_;(try simp only[tkS]);refine' tk 3 ?_;(try simp only[tkS]);refine' tk 4 ?_;(try simp only[tkS]);refine' tk 5 ?_;(try simp only[tkS]);refine' tk 6 ?_;(try simp only[tkS]);refine' tk 7 ?_;(try simp only[tkS]);refine' tk 8 ?_;(try simp only[tkS]);refine' tk 9 ?_;(try simp only[tkS]);refine' tk 10 ?_;(try simp only[tkS]);refine tk1 11 (fun K hK=>?_)
       go_simp;go_at_call 73;refine(H4.out _ ((Below.refl _ _).dn 1)).mono ?_
       rintro e5 w11 ⟨rfl,hb11⟩;have Hb11:=hI (qaa ((Below.refl _ _).dn 1) hb11);clear hb11;refine hK.out _ _ (by exact HSx.out _ (Hb11.out)) (fun hHeld=>?_)
       clear hK K;(try simp only[tkS]);refine' tk 12 ?_;(try simp only[tkS]);refine' tk 13 ?_;(try simp only[tkS]);refine' tk 14 ?_;(try simp only[tkS]);refine tkD ?_ _
       have Hc9:=hI (qaa Hb3.out Hb11.out)
       go_wp2_with fail
       go_ret2
       exact⟨⟨_,by rw[Hser.out];rfl,fun h=>absurd h (by rw[Hser.out];decide),fun _=>rfl⟩,Hbw.out.via (qaa Hb2'.out Hc9.out) Hbw.out.size⟩
      ·have Hnx:=hI (show qa5 xs=qbo (qjf xs (j+1+1)) (xs.drop (j+1+1))by rw[Hse2.out,qgr Hiv.out (by rw[HR.out];omega) (by rw[HR3.out];omega)];show _=qbo (xs[j+1]?.map Iv.high) _;rw[Hx.out];rfl)
       refine wpRg HSx.out ((Below.refl _ _).dn 1) (by kernel_rfl) (fun hHeld=>?_)
       refine wpAnyH_take (i:=0) (v:=?v30) rfl (by kernel_rfl) (by kernel_rfl) (by kernel_rfl) (fun _ _ _ h=>h) (Or.inl ⟨by rfl,?hy30⟩) (by assumption) ?rest30
       case hy30=>(intro w hSw;(try dsimp only at hSw);go_simp;try(with_reducible rfl))
       try simp only[Act.put,List.getElem_toArray,List.getElem_cons_zero,List.setIfInBounds_toArray,List.set_cons_zero,List.set_cons_succ]
       refine' tk 1 ?_;(try simp only[tkS]);refine' tk 2 ?_;(try simp only[tkS]);refine' tk 3 ?_;(try simp only[tkS]);refine' tk 4 ?_;(try simp only[tkS]);refine' tk 5 ?_;(try simp only[tkS]);refine' tk 6 ?_;(try simp only[tkS]);refine' tk 7 ?_;(try simp only[tkS]);refine' tk 8 ?_;(try simp only[tkS]);refine' tk 9 ?_;(try simp only[tkS]);refine' tk 10 ?_;(try simp only[tkS]);refine tk1 11 (fun K hK=>?_)
       go_simp;go_at_call 73;refine(H4.out _ ((Below.refl _ _).dn 1)).mono ?_
       rintro e5 w11 ⟨rfl,hb11⟩;have Hb11:=hI (qaa ((Below.refl _ _).dn 1) hb11);clear hb11;refine hK.out _ _ (by exact HSx.out _ (Hb11.out)) (fun hHeld=>?_)
       clear hK K;(try simp only[tkS]);refine' tk 12 ?_;(try simp only[tkS]);refine' tk 13 ?_;(try simp only[tkS]);refine' tk 14 ?_;(try simp only[tkS]);refine tkD ?_ _
       have Hc9:=hI (qaa Hb3.out Hb11.out);have hP3:=qa9 HP2.out (Hc9.out);obtain⟨p0,p1,p2,p3,p4,p5,p6,p7,p8,p9,p10,p11,p12,p13⟩:=hP3;have hb4:=Hbw.out.via (qaa Hb2'.out (Hc9.out)) Hbw.out.size;have hown4:=qaf Hown.out (qaa Hb2'.out (Hc9.out));have Hb4:=hI hb4;have Hown4:=hI hown4;clear hb4 hown4
       go_wp2_with (at_builtin;refine qcv EP (by decide) (GP.row (⟨⟨⟨b1,s1,d1⟩,x1,a1,n1,c1',y1,e1,m1,l1⟩,⟨⟨b2,s2,d2⟩,x2,a2,n2,c2',y2,e2,m2,l2⟩⟩:GP)) rfl _ _ rfl w.heap.size _ _ _ rfl rfl Hown4.out rfl (qfw (⟨⟨⟨b1,s1,d1⟩,x1,a1,n1,c1',y1,e1,m1,l1⟩,⟨⟨b2,s2,d2⟩,x2,a2,n2,c2',y2,e2,m2,l2⟩⟩:GP)) (by omega) (by decide) Hb4.out.size ?_;intro v' w5 hown' hg';have Hbw3:=hI (qau Hb4.out Hown4.out hg' Hb4.out.size);have Hown5:=hI hown';have Hg5:=hI hg';clear hown' hg')
       go_roundw
       case rel=>
        have hbc:=qaa Hb2'.out (Hc9.out);refine⟨(j+1)+1,ps++[(⟨⟨⟨b1,s1,d1⟩,x1,a1,n1,c1',y1,e1,m1,l1⟩,⟨⟨b2,s2,d2⟩,x2,a2,n2,c2',y2,e2,m2,l2⟩⟩:GP)],by omega,by go_num,Hbw3.out,by have:=Hown5.out;rw[qb5]at this;exact this,by rw[List.length_append,hps.out.1];rfl,?_,?_,Hnx.out⟩
        ·rw[List.map_append,hps.out.2.1,Hxc.out,List.map_cons,List.map_nil]
         congr 2
         unfold GP.cuts Iv.cuts;rw[Hcc.out.1,Hcc.out.2]
        ·intro q hq
         rcases List.mem_append.1 hq with h|h
         ·exact((hps.out.2.2.1 q h).mono hbc).app Hown4.out (by decide) Hg5.out
         ·cases List.mem_singleton.1 h
          exact GP.ok.app (⟨Hkk.out.1.mono (Hc9.out),Hkk.out.2.mono (Hc9.out)⟩:GP.ok _ (⟨⟨⟨b1,s1,d1⟩,x1,a1,n1,c1',y1,e1,m1,l1⟩,⟨⟨b2,s2,d2⟩,x2,a2,n2,c2',y2,e2,m2,l2⟩⟩:GP)) Hown4.out (by decide) Hg5.out
       case measure=>simp[intOf]<;>omega
   ·have hser:qa5 xs=qba x:=by rw[Hse.out,qhz hiv]
    have hcode:(qba x !=0)=true:=by rw[bne_iff_ne];exact hiv
    have Hser:=hI hser;have Hne:=hI hiv;generalize qba x=code at*;clear hiv hser
    go_wp2_with (go_at_call 72;refine(H1.out _).mono ?_;rintro e w2 ⟨v2,rfl,⟨k1,k2,rfl,hk1,hk2,hcc⟩,hb2⟩;obtain⟨⟨b1,s1,d1⟩,x1,a1,n1,c1',y1,e1,m1,l1⟩:=k1;obtain⟨⟨b2,s2,d2⟩,x2,a2,n2,c2',y2,e2,m2,l2⟩:=k2;skip;have Hb2:=hI (Hbw.out.via (qaa (qac wr (.cells #[.string x.lo,.string x.hi,.int .i64 x.le,.int .i64 x.he] 46)) hb2) Hbw.out.size);have Hkk:=hI (And.intro (hk1.mono (qac w2 (.cells #[.int .i64 b1,.string s1,.int .i64 d1,.bool x1,.slice a1 n1 c1',.bool y1,.slice e1 m1 l1,.int .i64 b2,.string s2,.int .i64 d2,.bool x2,.slice a2 n2 c2',.bool y2,.slice e2 m2 l2] 84))) (hk2.mono (qac w2 (.cells #[.int .i64 b1,.string s1,.int .i64 d1,.bool x1,.slice a1 n1 c1',.bool y1,.slice e1 m1 l1,.int .i64 b2,.string s2,.int .i64 d2,.bool x2,.slice a2 n2 c2',.bool y2,.slice e2 m2 l2] 84))));have HP2:=hI (Blk.new w2 #[.int .i64 b1,.string s1,.int .i64 d1,.bool x1,.slice a1 n1 c1',.bool y1,.slice e1 m1 l1,.int .i64 b2,.string s2,.int .i64 d2,.bool x2,.slice a2 n2 c2',.bool y2,.slice e2 m2 l2] 84);have Hb2':=hI (qaa (qaa (qac wr (.cells #[.string x.lo,.string x.hi,.int .i64 x.le,.int .i64 x.he] 46)) hb2) (qac w2 (.cells #[.int .i64 b1,.string s1,.int .i64 d1,.bool x1,.slice a1 n1 c1',.bool y1,.slice e1 m1 l1,.int .i64 b2,.string s2,.int .i64 d2,.bool x2,.slice a2 n2 c2',.bool y2,.slice e2 m2 l2] 84)));unfold gpagg;clear hcc hk1 hk2 hb2)
    go_ret2
    exact⟨⟨_,by rw[Hser.out];rfl,fun h=>absurd h (by rw[Hser.out];exact Hne.out),fun _=>rfl⟩,Hbw.out.via Hb2'.out Hbw.out.size⟩
  ·obtain rfl:k=n:=by omega
   have hkn:¬(k:Int)<(k:Int):=by omega
   obtain⟨aa,cap,rfl,-,-⟩:=qas hown;have hprt:=qcj hown hps.out.2.2.1;have hcu:=hps.out.2.1;rw[List.take_of_length_le (by rw[Hln.out];exact Nat.le_refl _)]at hcu;have Hprt:=hI hprt;have Hcu:=hI hcu;have Hbw:=hI hbw;have Hse:=hI (show qa5 xs=0 by rw[hps.out.2.2.2,List.drop_of_length_le (by rw[Hln.out];exact Nat.le_refl _)];cases k<;>rfl);clear hown hprt hcu hbw
   go_wp2_with fail
   go_ret2
   exact⟨⟨_,by rw[Hse.out];rfl,fun _=>⟨aa,cap,ps,by rw[hps.out.1];rfl,by rw[hps.out.1];exact Hprt.out,Hcu.out⟩,fun h=>absurd Hse.out h⟩,Hbw.out⟩
theorem qgc(v:Value)(xs:List Iv)(w:World)(h:Ivs w v xs)(hs:∀x∈xs,x.short):
  Calls Tryz.prog 56 #[v] w (fun e w'=>qh5 xs e w'∧Below w.heap.size w w'):=by
 rcases Nat.lt_or_ge 256 xs.length with hn|hn
 ·refine(qoj v xs w h hn).mono ?_
  rintro e w' ⟨rfl,hb⟩;have e0:qa5 xs=6:=by unfold qa5;rw[if_pos hn]
  exact⟨⟨_,by rw[e0],fun h=>absurd h (by rw[e0];decide),fun _=>rfl⟩,hb⟩
 ·exact qlj v xs w h hs hn
end Go.Proofs.YtacihodamichhaaGreatDoor
