/- Parts of the proof. -/
import Derived.Test.YtacihodamichhaaGreatDoorC16
namespace Go.Proofs.YtacihodamichhaaGreatDoor
open Go.RowKit
set_option maxHeartbeats 16000000
def Iv.row(x:Iv):List Value:=[.string x.lo,.string x.hi,.int .i64 x.le,.int .i64 x.he]
structure PP where
 l:CC
 h:CC
def PP.row(p:PP):List Value:=p.l.cells++p.h.cells
def PP.ok(w:World)(p:PP):Prop:=p.l.ok w∧p.h.ok w
def PP.cuts(p:PP):Cut × Cut:=(p.l.c,p.h.c)
def Iv.cuts(x:Iv):Cut × Cut:=(x.low,x.high)
theorem PP.ok.mono{w w':World}{p:PP}(h:p.ok w)(hb:Below w.heap.size w w'):p.ok w':=⟨h.1.mono hb,h.2.mono hb⟩
def Ivs(w:World)(v:Value)(xs:List Iv):Prop:=Sl w 4 v (xs.map Iv.row)
def Parts(w:World)(v:Value)(ps:List PP):Prop:=Sl w 14 v (ps.map PP.row)∧∀p∈ps,p.ok w
theorem Ivs.mono{w w':World}{v:Value}{xs:List Iv}(h:Ivs w v xs)(hb:Below w.heap.size w w'):Ivs w' v xs:=Sl.mono h hb
theorem Ivs.open{w:World}{v:Value}{xs:List Iv}(h:Ivs w v xs):∃a cap,v=.slice a xs.length cap∧xs.length≤cap∧cap≤maxLen:=by
 have:=Sl.open h;simpa using this
theorem Ivs.at{w wr:World}{n cap:Nat}{a:Option Addr}{xs:List Iv}(h:Ivs w (.slice a n cap) xs)(hb:Below w.heap.size w wr){k:Nat}(hk:k<n):
  ∃b off x,a=some ⟨b,off,none⟩∧xs[k]?=some x∧wr.cell? ⟨b,off+k*4,none⟩=some (.string x.lo)∧wr.cell? ⟨b,off+k*4+1,none⟩=some (.string x.hi)∧wr.cell? ⟨b,off+k*4+2,none⟩=some (.int .i64 x.le)∧wr.cell? ⟨b,off+k*4+3,none⟩=some (.int .i64 x.he):=by
 obtain⟨b,off,ha,hlt,r,hr,hc⟩:=Sl.row h hb hk;simp only[List.getElem?_map,Option.map_eq_some_iff]at hr;obtain⟨l,hl,rfl⟩:=hr;exact⟨b,off,l,ha,hl,hc 0 (by decide),hc 1 (by decide),hc 2 (by decide),hc 3 (by decide)⟩
def quv(w:World)(b o:Nat)(p:PP):Prop:=w.cell? ⟨b,o,none⟩=some (.int .i64 p.l.c.b)∧w.cell? ⟨b,o+1,none⟩=some (.string p.l.c.s)∧w.cell? ⟨b,o+2,none⟩=some (.int .i64 p.l.c.d)∧w.cell? ⟨b,o+3,none⟩=some (.bool p.l.x)∧w.cell? ⟨b,o+4,none⟩=some (.slice p.l.a p.l.n p.l.cap)∧w.cell? ⟨b,o+5,none⟩=some (.bool false)∧w.cell? ⟨b,o+6,none⟩=some (.slice none 0 0)∧w.cell? ⟨b,o+7,none⟩=some (.int .i64 p.h.c.b)∧w.cell? ⟨b,o+8,none⟩=some (.string p.h.c.s)∧w.cell? ⟨b,o+9,none⟩=some (.int .i64 p.h.c.d)∧w.cell? ⟨b,o+10,none⟩=some (.bool p.h.x)∧w.cell? ⟨b,o+11,none⟩=some (.slice p.h.a p.h.n p.h.cap)∧w.cell? ⟨b,o+12,none⟩=some (.bool false)∧w.cell? ⟨b,o+13,none⟩=some (.slice none 0 0)
theorem Parts.at{w wr:World}{n cap:Nat}{a:Option Addr}{ps:List PP}(h:Parts w (.slice a n cap) ps)(hb:Below w.heap.size w wr){k:Nat}(hk:k<n):
  ∃b off p,a=some ⟨b,off,none⟩∧ps[k]?=some p∧p.ok wr∧quv wr b (off+k*14) p:=by
 obtain⟨b,off,ha,hlt,r,hr,hc⟩:=Sl.row h.1 hb hk;simp only[List.getElem?_map,Option.map_eq_some_iff]at hr;obtain⟨l,hl,rfl⟩:=hr;exact⟨b,off,l,ha,hl,(h.2 l (List.mem_of_getElem? hl)).mono hb,hc 0 (by decide),hc 1 (by decide),hc 2 (by decide),hc 3 (by decide),hc 4 (by decide),hc 5 (by decide),hc 6 (by decide),hc 7 (by decide),hc 8 (by decide),hc 9 (by decide),hc 10 (by decide),hc 11 (by decide),hc 12 (by decide),hc 13 (by decide)⟩
theorem CC.ok.app{w w':World}{B e sz n:Nat}{v:Value}{xs:List Value}{k:CC}{o:Obj}(h:k.ok w)(hown:w.ownsRow B e sz v n xs)(he:e≠62)(hg:(w.alloc o).grownBy w' v.ownBlock):k.ok w':=(h.mono (qac w o)).grown (qae hown (qac w o)) he hg
theorem PP.ok.app{w w':World}{B e sz n:Nat}{v:Value}{xs:List Value}{p:PP}{o:Obj}(h:p.ok w)(hown:w.ownsRow B e sz v n xs)(he:e≠62)(hg:(w.alloc o).grownBy w' v.ownBlock):p.ok w':=⟨h.1.app hown he hg,h.2.app hown he hg⟩
theorem qbr{α:Type}(f:α→List Value)(ps:List α)(p:α):(ps.map f).flatten++f p=((ps++[p]).map f).flatten:=by simp
theorem qja{w:World}{B n:Nat}{v:Value}{ps:List PP}(h:w.ownsRow B 84 14 v n ((ps.map PP.row).flatten))(hok:∀p∈ps,p.ok w):Parts w v ps:=
 ⟨Sl.own h (fun r hr=>by obtain⟨p,_,rfl⟩:=List.mem_map.1 hr;rfl) (by decide),hok⟩
theorem qke{w:World}{B n:Nat}{v:Value}{xs:List Iv}(h:w.ownsRow B 46 4 v n ((xs.map Iv.row).flatten)):Ivs w v xs:=
 Sl.own h (fun r hr=>by obtain⟨p,_,rfl⟩:=List.mem_map.1 hr;rfl) (by decide)
theorem EP:ElemTy 80 84 14 192:=⟨Tryz.underlying80,by kernel_rfl⟩
theorem EI:ElemTy 22 46 4 48:=⟨Tryz.underlying22,by kernel_rfl⟩
theorem EC:ElemTy 68 79 7 96:=⟨Tryz.underlying68,by kernel_rfl⟩
theorem qug(p:PP):∀u∈p.row,u.oneCell'=true:=by
 intro u hu;simp[PP.row,CC.cells]at hu;rcases hu with rfl|rfl|rfl|rfl|rfl|rfl|rfl|rfl|rfl|rfl|rfl|rfl|rfl|rfl<;>rfl
theorem one7(k:CC):∀u∈k.cells,u.oneCell'=true:=by
 intro u hu;simp[CC.cells]at hu;rcases hu with rfl|rfl|rfl|rfl|rfl|rfl|rfl<;>rfl
theorem one4(x:Iv):∀u∈x.row,u.oneCell'=true:=by
 intro u hu;simp[Iv.row]at hu;rcases hu with rfl|rfl|rfl|rfl<;>rfl
def qrx(xs:List (Cut × Cut)):Prop:=(∀(i:Nat) (p:Cut × Cut),xs[i]?=some p→cmpC p.1 p.2<0)∧∀(i:Nat) (p q:Cut × Cut),xs[i]?=some p→xs[i+1]?=some q→cmpC p.2 q.1<0
theorem geti{α:Type}{l:List α}{k:Nat}{x:α}(h:l[k]?=some x):l.take (k+1)=l.take k++[x]:=by rw[List.take_add_one,h];rfl
set_option maxRecDepth 10000 in
theorem qgo(v:Value)(xs:List Iv)(w:World)(h:Ivs w v xs)(hok:∀x∈xs,x.ok)(hset:qrx (xs.map Iv.cuts))(hn:xs.length≤256):
  Calls Tryz.prog 56 #[v] w (RetP (fun v w'=>∃a c,∃ps:List PP,v=.tuple #[.slice a ps.length c,.int .i64 0]∧Parts w' (.slice a ps.length c) ps∧ps.map PP.cuts=xs.map Iv.cuts) w):=by
 obtain⟨a,c,rfl,hc1,hc2⟩:=h.open;unfold maxLen at hc2;have HX:=hI h;have Hok:=hI hok;have Hset:=hI hset;clear h hok hset;generalize hln:xs.length=n at*;have Hln:=hI hln;clear hln;have hn2:¬(256:Int)<(n:Int):=by omega
 have HN:=hI (fun W:World=>World.ownsRow_nil W w.heap.size 84 14)
 go_enter Tryz.func56,Tryz.ntmps56
 go_wp2_with fail
 go_loopw [14,4] (fun i out wr=>∃(k:Nat) (ps:List PP),k≤n∧i=.int .i64 (k:Int)∧Below w.heap.size w wr∧wr.ownsRow w.heap.size 84 14 out k ((ps.map PP.row).flatten)∧Hid (ps.length=k∧ps.map PP.cuts=(xs.take k).map Iv.cuts∧∀p∈ps,p.ok wr)) (fun i _ _=>n-(intOf i).toNat)
 case atStart=>exact⟨0,[],by omega,rfl,Below.refl _ _,HN.out _,rfl,rfl,fun p hp=>by cases hp⟩
 case round=>
  obtain⟨k,ps,hk,rfl,hbw,hown,hps⟩:=hrel;rcases Nat.lt_or_ge k n with hlt|hge
  ·obtain⟨b,off,x,rfl,hx,c0,c1,c2,c3⟩:=HX.out.at hbw hlt
   have hkn:(k:Int)<(n:Int):=by omega
   have hik:IntKind.i64.wrap ((k:Int)+1)=(k:Int)+1:=IntWalk.i64_in _ (by omega);have Hxc:=hI (show(xs.take (k+1)).map Iv.cuts=(xs.take k).map Iv.cuts++[x.cuts]by rw[geti hx,List.map_append];rfl);have hlh:cmpC x.low x.high<0:=Hset.out.1 k x.cuts (by rw[List.getElem?_map,hx];rfl);have H1:=hI (fun w'=>qqn x w' (Hok.out x (List.mem_of_getElem? hx)));have Hx:=hI hx;have Hbw:=hI hbw;have Hown:=hI hown;unfold Iv.agg at H1;generalize hR:cmpC x.low x.high=R at*;have hR2:¬0≤R:=by omega
   have HR:=hI hR;clear hx hbw hown hlh hR
   go_wp2_with (first
    |(go_at_call 72;refine(H1.out _).mono ?_;rintro e w2 ⟨v2,rfl,⟨k1,k2,rfl,hc1,hc2,hk1,hk2⟩,hb2⟩;obtain⟨⟨b1,s1,d1⟩,x1,a1,n1,c1'⟩:=k1;obtain⟨⟨b2,s2,d2⟩,x2,a2,n2,c2'⟩:=k2;have Hc1:=hI hc1;have Hc2:=hI hc2;have Hb2:=hI (Hbw.out.via (qab (qac wr (.cells #[.string x.lo,.string x.hi,.int .i64 x.le,.int .i64 x.he] 46)) hb2) Hbw.out.size);have Hkk:=hI (And.intro (hk1.mono (qac w2 (.cells #[.int .i64 b1,.string s1,.int .i64 d1,.bool x1,.slice a1 n1 c1',.bool false,.slice none 0 0,.int .i64 b2,.string s2,.int .i64 d2,.bool x2,.slice a2 n2 c2',.bool false,.slice none 0 0] 84))) (hk2.mono (qac w2 (.cells #[.int .i64 b1,.string s1,.int .i64 d1,.bool x1,.slice a1 n1 c1',.bool false,.slice none 0 0,.int .i64 b2,.string s2,.int .i64 d2,.bool x2,.slice a2 n2 c2',.bool false,.slice none 0 0] 84))));have HP2:=hI (Blk.new w2 #[.int .i64 b1,.string s1,.int .i64 d1,.bool x1,.slice a1 n1 c1',.bool false,.slice none 0 0,.int .i64 b2,.string s2,.int .i64 d2,.bool x2,.slice a2 n2 c2',.bool false,.slice none 0 0] 84);have Hb2':=hI (qab (qab (qac wr (.cells #[.string x.lo,.string x.hi,.int .i64 x.le,.int .i64 x.he] 46)) hb2) (qac w2 (.cells #[.int .i64 b1,.string s1,.int .i64 d1,.bool x1,.slice a1 n1 c1',.bool false,.slice none 0 0,.int .i64 b2,.string s2,.int .i64 d2,.bool x2,.slice a2 n2 c2',.bool false,.slice none 0 0] 84)));unfold pagg;clear hc1 hc2 hk1 hk2 hb2)
    |(go_at_call 73;refine(qlv ⟨⟨b1,s1,d1⟩,x1,a1,n1,c1'⟩ ⟨⟨b2,s2,d2⟩,x2,a2,n2,c2'⟩ _ Hkk.out.1 Hkk.out.2).mono ?_;rintro e w3 ⟨rfl,hb3⟩;rw[show cmpC (CC.c ⟨⟨b1,s1,d1⟩,x1,a1,n1,c1'⟩) (CC.c ⟨⟨b2,s2,d2⟩,x2,a2,n2,c2'⟩)=R by rw[Hc1.out,Hc2.out,HR.out]];have Hb3:=hI hb3.1;clear hb3))
   rcases k with _|j
   ·refine wp_region_held_drew (S:=(fun _=>True)) (by kernel_rfl) (by exact trivial) (fun hHeld=>?_)
    refine wpAnyH_take (i:=0) (v:=?v1) rfl (by kernel_rfl) (by kernel_rfl) (by kernel_rfl) (fun _ _ _ h=>h) (Or.inl ⟨by rfl,?hy1⟩) (by assumption) ?rest1
    case hy1=>(intro w hSw;(try dsimp only at hSw);go_simp;try(with_reducible rfl))
    try simp only[Act.put,List.getElem_toArray,List.getElem_cons_zero,List.setIfInBounds_toArray,List.set_cons_zero,List.set_cons_succ]
    refine' tk 1 ?_;(try simp only[tkS]);refine' tk 2 ?_;(try simp only[tkS]);refine' tkU 3 ?_;(try simp only[tkS]);refine' tkU 4 ?_;(try simp only[tkS]);refine' tkU 5 ?_;(try simp only[tkS]);refine' tkU 6 ?_;(try simp only[tkS]);refine' tkU 7 ?_;(try simp only[tkS]);refine' tkU 8 ?_;(try simp only[tkS]);refine' tkU 9 ?_;(try simp only[tkS]);refine' tkU 10 ?_;(try simp only[tkS]);refine' tkU 11 ?_;(try simp only[tkS]);refine' tkU 12 ?_;(try simp only[tkS]);refine' tk 13 ?_;(try simp only[tkS]);refine' tk 14 ?_;(try simp only[tkS]);refine tkD ?_ _
    have Hc9:=hI ((Hb3.out).dn 1);have hP3:=qa0 HP2.out (Hb3.out);obtain⟨p0,p1,p2,p3,p4,p5,p6,p7,p8,p9,p10,p11,p12,p13⟩:=hP3;have hb4:=Hbw.out.via (qab Hb2'.out (Hc9.out)) Hbw.out.size;have hown4:=qae Hown.out (qab Hb2'.out (Hc9.out));have Hb4:=hI hb4;have Hown4:=hI hown4;clear hb4 hown4
    go_wp2_with (at_builtin;refine qct EP (by decide) (PP.row (⟨⟨⟨b1,s1,d1⟩,x1,a1,n1,c1'⟩,⟨⟨b2,s2,d2⟩,x2,a2,n2,c2'⟩⟩:PP)) rfl _ _ rfl w.heap.size _ _ _ rfl rfl Hown4.out rfl (qug (⟨⟨⟨b1,s1,d1⟩,x1,a1,n1,c1'⟩,⟨⟨b2,s2,d2⟩,x2,a2,n2,c2'⟩⟩:PP)) (by omega) (by decide) Hb4.out.size ?_;intro v' w5 hown' hg';have Hbw3:=hI (qap Hb4.out Hown4.out hg' Hb4.out.size);have Hown5:=hI hown';have Hg5:=hI hg';clear hown' hg')
    go_roundw
    case rel=>
     have hbc:=qab Hb2'.out (Hc9.out);refine⟨0+1,ps++[(⟨⟨⟨b1,s1,d1⟩,x1,a1,n1,c1'⟩,⟨⟨b2,s2,d2⟩,x2,a2,n2,c2'⟩⟩:PP)],by omega,by go_num,Hbw3.out,by have:=Hown5.out;rw[qbr]at this;exact this,by rw[List.length_append,hps.out.1];rfl,?_,?_⟩
     ·rw[List.map_append,hps.out.2.1,Hxc.out,List.map_cons,List.map_nil]
      congr 2
      unfold PP.cuts Iv.cuts;rw[Hc1.out,Hc2.out]
     ·intro q hq
      rcases List.mem_append.1 hq with h|h
      ·exact((hps.out.2.2 q h).mono hbc).app Hown4.out (by decide) Hg5.out
      ·cases List.mem_singleton.1 h
       exact PP.ok.app (⟨Hkk.out.1.mono (Hc9.out),Hkk.out.2.mono (Hc9.out)⟩:PP.ok _ (⟨⟨⟨b1,s1,d1⟩,x1,a1,n1,c1'⟩,⟨⟨b2,s2,d2⟩,x2,a2,n2,c2'⟩⟩:PP)) Hown4.out (by decide) Hg5.out
    case measure=>simp[intOf]<;>omega
   ·have hln2:=hps.out.1
    obtain⟨aa,cap,rfl,-,-⟩:=qam Hown.out;obtain⟨g,rfl⟩:=qbg Hown.out (by omega);have hb23:=qab Hb2'.out Hb3.out;have hprt:=qja (qae Hown.out hb23) (fun q hq=>(hps.out.2.2 q hq).mono hb23);obtain⟨gg,oo,p,ha,hp,hpok,hpc⟩:=Parts.at hprt (Below.refl _ _) (show j<j+1 by omega);cases ha
    rw[Nat.zero_add]at hpc;have hl14:=qa0 HP2.out Hb3.out;have HSx:=hI (fun w' (hb:Below w3.heap.size w3 w')=>show w'.cell? ⟨g,j*14+7,none⟩=some (.int .i64 p.h.c.b)∧w'.cell? ⟨g,j*14+8,none⟩=some (.string p.h.c.s)∧w'.cell? ⟨g,j*14+9,none⟩=some (.int .i64 p.h.c.d)∧w'.cell? ⟨g,j*14+10,none⟩=some (.bool p.h.x)∧w'.cell? ⟨g,j*14+11,none⟩=some (.slice p.h.a p.h.n p.h.cap)∧w'.cell? ⟨g,j*14+12,none⟩=some (.bool false)∧w'.cell? ⟨g,j*14+13,none⟩=some (.slice none 0 0)∧w'.cell? ⟨w2.heap.size,0,none⟩=some (.int .i64 b1)∧w'.cell? ⟨w2.heap.size,1,none⟩=some (.string s1)∧w'.cell? ⟨w2.heap.size,2,none⟩=some (.int .i64 d1)∧w'.cell? ⟨w2.heap.size,3,none⟩=some (.bool x1)∧w'.cell? ⟨w2.heap.size,4,none⟩=some (.slice a1 n1 c1')∧w'.cell? ⟨w2.heap.size,5,none⟩=some (.bool false)∧w'.cell? ⟨w2.heap.size,6,none⟩=some (.slice none 0 0)from⟨qaa hb hpc.2.2.2.2.2.2.2.1,qaa hb hpc.2.2.2.2.2.2.2.2.1,qaa hb hpc.2.2.2.2.2.2.2.2.2.1,qaa hb hpc.2.2.2.2.2.2.2.2.2.2.1,qaa hb hpc.2.2.2.2.2.2.2.2.2.2.2.1,qaa hb hpc.2.2.2.2.2.2.2.2.2.2.2.2.1,qaa hb hpc.2.2.2.2.2.2.2.2.2.2.2.2.2,qaa hb hl14.1,qaa hb hl14.2.1,qaa hb hl14.2.2.1,qaa hb hl14.2.2.2.1,qaa hb hl14.2.2.2.2.1,qaa hb hl14.2.2.2.2.2.1,qaa hb hl14.2.2.2.2.2.2.1⟩);have Hpok:=hI (And.intro hpok.2 (Hkk.out.1.mono Hb3.out));have H4:=hI (fun w' (hb:Below w3.heap.size w3 w')=>qlv p.h ⟨⟨b1,s1,d1⟩,x1,a1,n1,c1'⟩ w' (Hpok.out.1.mono hb) (Hpok.out.2.mono hb))
    have hpx:cmpC p.h.c x.low<0:=Hset.out.2 j p.cuts x.cuts (by
      have h1:(ps.map PP.cuts)[j]?=some p.cuts:=by rw[List.getElem?_map,hp];rfl
      rw[hps.out.2.1,List.map_take,List.getElem?_take_of_lt (by omega)]at h1
      exact h1) (by rw[List.getElem?_map,Hx.out];rfl)
    rw[show cmpC p.h.c (CC.c ⟨⟨b1,s1,d1⟩,x1,a1,n1,c1'⟩)=cmpC p.h.c x.low by rw[Hc1.out]]at H4;generalize cmpC p.h.c x.low=R2 at*;have hR22:¬0≤R2:=by omega
    have hj1:(0:Int)<((j+1:Nat):Int):=by omega
    have hj2:IntKind.i64.wrap (j:Int)=j:=IntWalk.i64_in _ (by omega);have hj3:(((j+1:Nat):Int)-1)=(j:Int):=by omega
    have hj4:(j:Int)<((j+1:Nat):Int):=by omega
    have hj5:(0:Int)≤(j:Int):=by omega
    have hj6:(j:Int)<(j:Int)+1:=by omega
    have hj7:(0:Int)<(j:Int)+1:=by omega
    unfold CC.agg at H4;dsimp only at H4;clear hb23 hprt hp hpok hpc hl14 hpx hln2;refine wpRg HSx.out ((Below.refl _ _).dn 1) (by kernel_rfl) (fun hHeld=>?_)
    refine wpAnyH_take (i:=0) (v:=?v16) rfl (by kernel_rfl) (by kernel_rfl) (by kernel_rfl) (fun _ _ _ h=>h) (Or.inl ⟨by rfl,?hy16⟩) (by assumption) ?rest16
    case hy16=>(intro w hSw;(try dsimp only at hSw);go_simp;try(with_reducible rfl))
    try simp only[Act.put,List.getElem_toArray,List.getElem_cons_zero,List.setIfInBounds_toArray,List.set_cons_zero,List.set_cons_succ]
    refine' tk 1 ?_;(try simp only[tkS]);refine' tk 2 ?_;(try simp only[tkS]);refine' tk 3 ?_;(try simp only[tkS]);refine' tk 4 ?_;(try simp only[tkS]);refine' tk 5 ?_;(try simp only[tkS]);refine' tk 6 ?_;(try simp only[tkS]);refine' tk 7 ?_;(try simp only[tkS]);refine' tk 8 ?_;(try simp only[tkS]);refine' tk 9 ?_;(try simp only[tkS]);refine' tk 10 ?_;(try simp only[tkS]);refine tk1 11 (fun K hK=>?_)
    go_simp;go_at_call 73;refine(H4.out _ ((Below.refl _ _).dn 1)).mono ?_
    rintro e5 w11 ⟨rfl,hb11',-⟩;have hb11:=hb11';have Hb11:=hI (qab ((Below.refl _ _).dn 1) hb11);clear hb11 hb11';refine hK.out _ _ (by exact HSx.out _ (Hb11.out)) (fun hHeld=>?_)
    clear hK K;(try simp only[tkS]);refine' tk 12 ?_;(try simp only[tkS]);refine' tk 13 ?_;(try simp only[tkS]);refine' tk 14 ?_;(try simp only[tkS]);refine tkD ?_ _
    have Hc9:=hI (qab Hb3.out Hb11.out);have hP3:=qa0 HP2.out (Hc9.out);obtain⟨p0,p1,p2,p3,p4,p5,p6,p7,p8,p9,p10,p11,p12,p13⟩:=hP3;have hb4:=Hbw.out.via (qab Hb2'.out (Hc9.out)) Hbw.out.size;have hown4:=qae Hown.out (qab Hb2'.out (Hc9.out));have Hb4:=hI hb4;have Hown4:=hI hown4;clear hb4 hown4
    go_wp2_with (at_builtin;refine qct EP (by decide) (PP.row (⟨⟨⟨b1,s1,d1⟩,x1,a1,n1,c1'⟩,⟨⟨b2,s2,d2⟩,x2,a2,n2,c2'⟩⟩:PP)) rfl _ _ rfl w.heap.size _ _ _ rfl rfl Hown4.out rfl (qug (⟨⟨⟨b1,s1,d1⟩,x1,a1,n1,c1'⟩,⟨⟨b2,s2,d2⟩,x2,a2,n2,c2'⟩⟩:PP)) (by omega) (by decide) Hb4.out.size ?_;intro v' w5 hown' hg';have Hbw3:=hI (qap Hb4.out Hown4.out hg' Hb4.out.size);have Hown5:=hI hown';have Hg5:=hI hg';clear hown' hg')
    go_roundw
    case rel=>
     have hbc:=qab Hb2'.out (Hc9.out);refine⟨(j+1)+1,ps++[(⟨⟨⟨b1,s1,d1⟩,x1,a1,n1,c1'⟩,⟨⟨b2,s2,d2⟩,x2,a2,n2,c2'⟩⟩:PP)],by omega,by go_num,Hbw3.out,by have:=Hown5.out;rw[qbr]at this;exact this,by rw[List.length_append,hps.out.1];rfl,?_,?_⟩
     ·rw[List.map_append,hps.out.2.1,Hxc.out,List.map_cons,List.map_nil]
      congr 2
      unfold PP.cuts Iv.cuts;rw[Hc1.out,Hc2.out]
     ·intro q hq
      rcases List.mem_append.1 hq with h|h
      ·exact((hps.out.2.2 q h).mono hbc).app Hown4.out (by decide) Hg5.out
      ·cases List.mem_singleton.1 h
       exact PP.ok.app (⟨Hkk.out.1.mono (Hc9.out),Hkk.out.2.mono (Hc9.out)⟩:PP.ok _ (⟨⟨⟨b1,s1,d1⟩,x1,a1,n1,c1'⟩,⟨⟨b2,s2,d2⟩,x2,a2,n2,c2'⟩⟩:PP)) Hown4.out (by decide) Hg5.out
    case measure=>simp[intOf]<;>omega
  ·obtain rfl:k=n:=by omega
   have hkn:¬(k:Int)<(k:Int):=by omega
   obtain⟨aa,cap,rfl,-,-⟩:=qam hown;have hprt:=qja hown hps.out.2.2;have hcu:=hps.out.2.1;rw[List.take_of_length_le (by rw[Hln.out];exact Nat.le_refl _)]at hcu;have Hprt:=hI hprt;have Hcu:=hI hcu;have Hbw:=hI hbw;clear hown hprt hcu hbw
   go_wp2_with fail
   go_ret2
   exact⟨_,rfl,⟨aa,cap,ps,by rw[hps.out.1];rfl,by rw[hps.out.1];exact Hprt.out,Hcu.out⟩,Hbw.out⟩
theorem qpd(w:World):Below w.heap.size w w.drew:=⟨rfl,rfl,rfl,Nat.le_refl _,fun _ _=>rfl⟩
theorem qq7(n:Nat)(w:World)(hn:n≤1000):Calls Tryz.prog 170 #[.slice none 0 0,.int .i64 n] w (RetP (fun v w'=>w'.ownsRow w.heap.size 84 14 v 0 []∧∃a c,v=.slice a 0 c) w):=by
 have hi:(Tryz.prog.info? 84).map (fun i=>(i.zero.map fun z=>z.cells.size,i.size,i.bytes))=some (some 14,14,192):=EP.info;simp only[Option.map_eq_some_iff,Prod.mk.injEq]at hi;obtain⟨i,hi,⟨z,hz,hzs⟩,hsize,hby⟩:=hi;rcases Nat.eq_zero_or_pos n with rfl|hpos
 ·have h:=Any8.slices_Grow_room Tryz.growP none 0 0 0 w (by omega) (by omega) (by omega) (by omega)
  change Calls Tryz.prog 170 _ _ _ at h
  exact h.mono fun e w' ⟨he,hw⟩=>⟨_,he,⟨by subst hw;exact World.ownsRow_nil _ _ _ _,_,_,rfl⟩,by subst hw;exact Below.refl _ _⟩
 ·have h:=Any8.slices_Grow_grow Tryz.growP i z hi hz (by omega) none 0 0 n [] w (by omega) (by omega) (by rw[hby];omega) (by omega) (by simp) (fun _=>rfl) (fun a ha=>by cases ha)
  change Calls Tryz.prog 170 _ _ _ at h
  refine h.mono fun e w' ⟨he,hw⟩=>?_
  subst hw;have hblk:=Blk.new w.drew (([]:List Value).toArray++Builtin.zeroCells z.cells (0+n-0)++Builtin.zeroCells z.cells (grownCap w (0+n) 0 84-(0+n))) 84;refine⟨_,he,⟨⟨rfl,.inr ⟨w.heap.size,_,_,rfl,Nat.le_refl _,hblk,Nat.zero_le _,grownCap_le_maxLen w _ _ _ (by unfold maxLen;omega),?_,rfl⟩⟩,_,_,rfl⟩,(qpd w).alloc (Nat.le_refl _) _⟩
  have hge:=grownCap_ge w (0+n) 0 84
  show _=grownCap w (0+n) 0 84*14
  rw[Array.size_append,Array.size_append,size_zeroCells,size_zeroCells,hzs]
  show 0+(0+n-0)*14+(grownCap w (0+n) 0 84-(0+n))*14=_
  omega
theorem qry{ops:Array Oper}{rest:List Oper}{o:Oper}{a:Act}{Q:Exit→Act→World→Prop}{W:World}(hgd:o.guard=none)(s x:Operand)(ho:o.op=.call { callee:=.builtin .append,args:=#[s,x],argTypes:=#[80,80] })
  (b d:Option Addr) (k cap c m:Nat) (hm:m=0) (hs:a.eval s=.slice b k cap) (hx:a.eval x=.slice d m c) (hk:k≤cap) (h:wpList Tryz.prog ops Q rest (a.put o.dst (.slice b k cap)) W):wpList Tryz.prog ops Q (o::rest) a W:=by
 subst hm;have hi:=EP.info;simp only[Option.map_eq_some_iff,Prod.mk.injEq]at hi;obtain⟨i,hi,⟨z,hz,hzs⟩,hsize,hby⟩:=hi
 have hr:(Builtin.append_ #[80,80] o.type #[.slice b k cap,.slice d 0 c]).run Tryz.prog W=.ok (.slice b k cap) W:=by
  cases b<;>cases d<;>simp[Builtin.append_,run_underlying EP.und,sizeOf,typeInfo,hi,Builtin.lenOf,Builtin.firstCells,loadCells,loadCellsFrom,hk,storeCells]
 refine wpList_plain hgd fun _ hK=>?_
 unfold Oper.wp execOp;simp only[ho,resolve,invoke,builtin,Sem.run_bind,Sem.run_pure,Result.andThen_ok,List.map_toArray,List.map_cons,List.map_nil,hs,hx,hr];exact hK _ _ h
theorem qgc{w w':World}(h1:w'.heap=w.heap)(h2:w'.tape=w.tape)(h3:w'.drawn=w.drawn)(h4:w'.os=w.os)(h5:w'.output=w.output):w'=w:=by
 cases w;cases w';simp_all
theorem qre(w:World)(q:Nat):w.drewN q={ w with drawn:=w.drawn+q }:=by
 induction q generalizing w with
 |zero=>rfl
 |succ n ih=>first|rfl|(rw[World.drewN,ih];simp[World.drew];omega)
theorem qpv{W w':World}(h:BD W w'):∃q os',w'=Go.Sort.grow (W.drewN q) os':=by
 refine⟨w'.drawn-W.drawn,w'.heap.extract W.heap.size w'.heap.size,?_⟩
 rw[qre];refine qgc ?_ h.1.tape ?_ h.1.os h.1.output
 ·show w'.heap=W.heap++w'.heap.extract W.heap.size w'.heap.size
  apply Array.ext_getElem?
  intro i;rcases Nat.lt_or_ge i W.heap.size with hi|hi
  ·rw[h.1.block i hi,Array.getElem?_append_left hi]
  ·rw[Array.getElem?_append_right hi,Array.getElem?_extract]
   split
   ·congr 1;omega
   ·rename_i hn
    rw[Array.getElem?_eq_none]
    omega
 ·show w'.drawn=W.drawn+(w'.drawn-W.drawn)
  have:=h.2
  omega
theorem qc9{α:Type}[Inhabited α](enc:α→List Value)(k:Nat)(w:World)(blk off m:Nat)(d:Array α)(os:Array Obj):w.grownBy (sortWorldK enc k w blk off m d os) (some blk):=by
 refine⟨rfl,rfl,rfl,?_,fun b hb hne=>?_⟩
 ·show w.heap.size≤((Go.Sort.putRowK enc k (Go.Sort.ahead w m) blk off d).heap++os).size
  rw[Array.size_append];have:(Go.Sort.putRowK enc k (Go.Sort.ahead w m) blk off d).heap.size=w.heap.size:=Go.Sort.size_putRow _ _ _ _ _
  omega
 ·show((Go.Sort.putRowK enc k (Go.Sort.ahead w m) blk off d).heap++os)[b]?=w.heap[b]?
  have hs:(Go.Sort.putRowK enc k (Go.Sort.ahead w m) blk off d).heap.size=w.heap.size:=Go.Sort.size_putRow _ _ _ _ _;rw[Array.getElem?_append_left (by omega)];unfold Go.Sort.putRowK Go.Sort.putRow Go.Sort.mapBlock;have hne2:blk≠b:=fun e=>hne (by rw[e])
  first
   |simp[Array.getElem?_modify,hne2]
   |(simp only[Go.Sort.ahead];rw[Array.getElem?_modify];simp[hne2])
theorem qft{β:Type}(cells:β→List Value)(sz:Nat)(hlen:∀x,(cells x).length=sz)(hsz:0<sz){α:Type}[Inhabited α](val:α→β)(d:Array α)(w:World){B e g cap:Nat}
  (hown:w.ownsRow B e sz (.slice (some ⟨g,0,none⟩) d.size cap) d.size (((d.toList.map val).map cells).flatten)):Go.Sort.HoldsK (fun a=>cells (val a)) sz w g 0 d:=by
 intro t ht;rw[Go.Sort.size_flatK]at ht;have hi:t/sz<d.size:=Nat.div_lt_of_lt_mul (by rwa [Nat.mul_comm]at ht);have hj:t%sz<sz:=Nat.mod_lt _ hsz
 have hrl:∀r∈(d.toList.map val).map cells,r.length=sz:=fun r hr=>by
  obtain⟨p,_,rfl⟩:=List.mem_map.1 hr;exact hlen p
 have hrn:((d.toList.map val).map cells).length=d.size:=by simp
 have hf:=qfa hrl (i:=t/sz) (j:=t%sz) (by rw[hrn];exact hi) hj;rw[Nat.div_add_mod']at hf;have hc:=hown.cells (g:=g) rfl t _ hf;have ha:(⟨g,0,none⟩:Addr).add t=⟨g,0+t,none⟩:=by unfold Addr.add;split<;>simp_all
 rw[ha]at hc;refine⟨?_,?_⟩
 ·rw[hc,Go.Sort.get_flatK _ _ _ _ ht]
  congr 1
  simp only[id]
  have e1:((d.toList.map val).map cells).getD (t/sz) []=cells (val d[t/sz]!):=by
   rw[List.getD_eq_getElem?_getD,List.getElem?_map,List.getElem?_map,Array.getElem?_toList,Array.getElem?_eq_getElem hi,getElem!_pos d (t/sz) hi]
   rfl
  rw[e1];have hj2:t%sz<(cells (val d[t/sz]!)).length:=by rw[hlen];exact hj
  rw[List.getD_eq_getElem?_getD,List.getElem?_eq_getElem hj2,getElem!_pos (cells (val d[t/sz]!)) (t%sz) hj2]
  rfl
 ·rcases hown.2 with⟨hv,_⟩|⟨g',cap',cur,hv,-,hgb,-⟩
  ·cases hv
  ·cases hv
   exact frozen_of_row w g _ cur _ hgb
theorem qgh{β:Type}(cells:β→List Value)(sz:Nat)(hlen:∀x,(cells x).length=sz){α:Type}[Inhabited α](val:α→β)(d:Array α)(w:World){g cap:Nat}
  (h:Go.Sort.HoldsK (fun a=>cells (val a)) sz w g 0 d) (hg:g<w.heap.size) (hc:d.size≤cap) (hm:cap≤maxLen):Sl w sz (.slice (some ⟨g,0,none⟩) d.size cap) ((d.toList.map val).map cells):=by
 have hrn:((d.toList.map val).map cells).length=d.size:=by simp
 refine⟨_,_,by rw[hrn],by rw[hrn];exact hc,hm,.inr ⟨g,0,rfl,hg,fun i j hi hj=>?_⟩⟩
 rw[hrn]at hi;have:=(h.cell hi hj).1;rw[this]
 congr 1
 have e1:((d.toList.map val).map cells).getD i []=cells (val d[i]!):=by
  rw[List.getD_eq_getElem?_getD,List.getElem?_map,List.getElem?_map,Array.getElem?_toList,Array.getElem?_eq_getElem hi,getElem!_pos d i hi]
  rfl
 rw[e1];have hj2:j<(cells (val d[i]!)).length:=by rw[hlen];exact hj
 rw[List.getD_eq_getElem?_getD,List.getElem?_eq_getElem hj2,getElem!_pos (cells (val d[i]!)) j hj2]
 rfl
end Go.Proofs.YtacihodamichhaaGreatDoor
