/- Parts of the proof. -/
import Derived.Test.YtacihodamichhaaGreatDoorM46
set_option maxHeartbeats 16000000
namespace Go.Proofs.YtacihodamichhaaGreatDoor
open Go.RowKit
theorem qer(s:ByteArray):numR s.data.toList=(ratS s).num∧dn (denR s.data.toList)=((ratS s).den:Int):=by
 rcases Classical.em (errL s.data.toList=0)with h|h
 ·obtain⟨r,hr⟩:=qi6 h
  rw[qfj hr,hr,(qe1 (qd3 r)).1,(qe1 (qd3 r)).2,qfc,qgs];exact⟨rfl,rfl⟩
 ·obtain⟨h1,h2,h3⟩:=qio h
  rw[h1,h2,h3];exact⟨rfl,rfl⟩
theorem qtm(x y:Cut):QL x y↔ratS x.s≤ratS y.s:=by
 unfold QL;rw[(qer x.s).1,(qer x.s).2,(qer y.s).1,(qer y.s).2];exact(Rat.le_iff _ _).symm
theorem qix{x y:Cut}:ltR x y↔x.b<y.b∨(x.b=y.b∧(ratS x.s<ratS y.s∨(ratS x.s=ratS y.s∧x.b=0∧x.d<y.d))):=by
 unfold ltR;rw[qel,qtm,qtm,Rat.not_le]
 show x.b<y.b∨(x.b=y.b∧(ratS x.s<ratS y.s∨(ratS x.s≤ratS y.s∧ratS y.s≤ratS x.s∧(if x.b=0 then 2*x.d-1 else 0)<(if y.b=0 then 2*y.d-1 else 0))))↔_
 refine or_congr Iff.rfl (and_congr_right fun hb=>or_congr Iff.rfl ?_)
 rw[←and_assoc,←Rat.le_antisymm_iff,hb];refine and_congr_right fun _=>?_
 split
 ·exact⟨fun h=>⟨‹_›,by omega⟩,fun h=>by omega⟩
 ·exact⟨fun h=>absurd h (by decide),fun h=>absurd h.1 ‹_›⟩
theorem qtl{p:Rat}(h:p≠0):p<0∨0<p:=by
 rcases Classical.em (p<0)with h1|h1
 ·exact .inl h1
 ·exact .inr (Rat.lt_of_le_of_ne (Rat.not_lt.1 h1) (Ne.symm h))
theorem qh2{a b:Rat}:a=b↔¬a<b∧¬b<a:=by
 rw[Rat.not_lt,Rat.not_lt,Rat.le_antisymm_iff];exact and_comm
theorem qlt{p q a b:Rat}(h:0<p):p*a+q<p*b+q↔a<b:=by
 rw[Rat.add_lt_add_right,Rat.mul_lt_mul_left h]
theorem qf8{p q a b:Rat}(h:p<0):p*a+q<p*b+q↔b<a:=by
 rw[Rat.add_lt_add_right];have h':0< -p:=by rw[Rat.lt_neg_iff,Rat.neg_zero];exact h
 rw[←Rat.mul_lt_mul_left h' (a:=b) (b:=a),Rat.neg_mul,Rat.neg_mul,Rat.neg_lt_neg_iff]
def movC(p q:Rat)(c:Cut):Cut:=⟨if p<0 then -c.b else c.b,movS p q c.s,if c.b=0 then(if p<0 then 1-c.d else c.d)else c.d⟩
def movP(p q:Rat)(r:RP):RP:=if p<0 then(movC p q r.2,movC p q r.1)else(movC p q r.1,movC p q r.2)
theorem qfr(p q:Rat):movS p q ⟨#[]⟩=⟨#[]⟩:=by unfold movS;rw[if_pos (by rw[ByteArray.toList_eq];rfl)]
theorem qwe{s:ByteArray}(h:errL s.data.toList=0):s.toList.isEmpty=false:=by
 cases he:s.toList.isEmpty with
 |false=>rfl
 |true=>
  rw[ByteArray.toList_eq,List.isEmpty_iff]at he;rw[he]at h;exact absurd h (by decide)
theorem qpi{p q:Rat}{s:ByteArray}(h:errL s.data.toList=0):movS p q s=⟨(txtR (p*ratS s+q)).toArray⟩:=by
 unfold movS;rw[if_neg (by rw[qwe h];decide)]
theorem qes{p q:Rat}{s:ByteArray}(h:errL s.data.toList=0):ratS (movS p q s)=p*ratS s+q:=by
 rw[qpi h];exact qfj (by simp)
structure PlC(c:Cut):Prop where
 inf:c.b≠0→c.s=⟨#[]⟩∧c.d=0
 fin:c.b=0→errL c.s.data.toList=0∧0≤c.d∧c.d≤1
theorem RokC.pl{c:Cut}(h:RokC c):PlC c:=by
 constructor
 ·intro hb
  rcases h with⟨h0,-⟩|⟨-,h1,h2⟩
  ·exact absurd h0 hb
  ·exact⟨h1,h2⟩
 ·intro hb
  rcases h with⟨-,-,h1,h2,h3⟩|⟨h0,-⟩
  ·exact⟨h1,h2,h3⟩
  ·rcases h0 with h0|h0<;>rw[hb]at h0<;>exact absurd h0 (by decide)
theorem qpg{p q:Rat}(hp:0<p){x y:Cut}(hx:PlC x)(hy:PlC y):ltR (movC p q x) (movC p q y)↔ltR x y:=by
 have hn:¬p<0:=Rat.not_lt.2 (Rat.le_of_lt hp);rw[qix,qix];unfold movC;simp only[hn,if_false,ite_self];refine or_congr Iff.rfl (and_congr_right fun hb=>?_)
 rcases Classical.em (x.b=0)with h0|h0
 ·have h0':y.b=0:=hb▸h0
  rw[qes (hx.fin h0).1,qes (hy.fin h0').1,qlt hp,qh2,qlt hp,qlt hp,←qh2]
 ·have h0':y.b≠0:=hb▸h0
  rw[(hx.inf h0).1,(hy.inf h0').1];simp only[h0,false_and,and_false,or_false];exact⟨fun h=>absurd h Rat.lt_irrefl,fun h=>absurd h Rat.lt_irrefl⟩
theorem qph{p q:Rat}(hp:p<0){x y:Cut}(hx:PlC x)(hy:PlC y):ltR (movC p q x) (movC p q y)↔ltR y x:=by
 rw[qix,qix];unfold movC;simp only[hp,if_true];refine or_congr (by omega) ?_
 constructor
 ·rintro⟨hb,h⟩
  have hb':y.b=x.b:=by omega
  refine⟨hb',?_⟩
  rcases Classical.em (x.b=0)with h0|h0
  ·have h0':y.b=0:=hb'.trans h0
   rw[qes (hx.fin h0).1,qes (hy.fin h0').1,qf8 hp,qh2,qf8 hp,qf8 hp]at h;rw[if_pos h0,if_pos h0']at h;rcases h with h|⟨⟨h1,h2⟩,-,h3⟩
   ·exact .inl h
   ·exact .inr ⟨qh2.2 ⟨h1,h2⟩,h0',by omega⟩
  ·have h0':y.b≠0:=fun h=>h0 (hb'.symm.trans h)
   rw[(hx.inf h0).1,(hy.inf h0').1]at h;rcases h with h|⟨-,h2,-⟩
   ·exact absurd h Rat.lt_irrefl
   ·omega
 ·rintro⟨hb',h⟩
  refine⟨by omega,?_⟩
  rcases Classical.em (x.b=0)with h0|h0
  ·have h0':y.b=0:=hb'.trans h0
   rw[qes (hx.fin h0).1,qes (hy.fin h0').1,qf8 hp,qh2,qf8 hp,qf8 hp];rw[if_pos h0,if_pos h0'];rcases h with h|⟨h1,h2,h3⟩
   ·exact .inl h
   ·obtain⟨h4,h5⟩:=qh2.1 h1
    exact .inr ⟨⟨h4,h5⟩,by omega,by omega⟩
  ·have h0':y.b≠0:=fun h=>h0 (hb'.symm.trans h)
   rw[(hx.inf h0).1,(hy.inf h0').1]at h;rcases h with h|⟨-,h2,-⟩
   ·exact absurd h Rat.lt_irrefl
   ·exact absurd h2 h0'
theorem qmf{p q:Rat}{c:Cut}{kp kq k:Nat}(hp:Sz kp p)(hq:Sz kq q)(hk0:0<k)(hk:kp+k+kq≤2490)(hs:c.s.size≤k)(h:RokC c):RokC (movC p q c):=by
 rcases Classical.em (c.b=0)with h0|h0
 ·obtain⟨h1,h2,h3⟩:=h.pl.fin h0
  have hz:=qd2 ((hp.mul (qb3 hs hk0)).add hq);unfold movC;rw[if_pos h0,h0,qpi h1];refine .inl ⟨by split<;>rfl,?_,?_,?_,?_⟩
  ·show(txtR (p*ratS c.s+q)).toArray.size≤5000
   rw[List.size_toArray]
   omega
  ·exact qd3 _
  ·dsimp only;split<;>omega
  ·dsimp only;split<;>omega
 ·obtain⟨h1,h2⟩:=h.pl.inf h0
  unfold movC;rw[if_neg h0,h1,h2,qfr];rcases h with⟨hb,-⟩|⟨hb,-⟩
  ·exact absurd hb h0
  ·refine .inr ⟨?_,rfl,rfl⟩
   dsimp only
   split<;>omega
theorem qmi{p q:Rat}{r:RP}(h:PlC r.1∧PlC r.2):mapI p q (ivR r)=ivR (movP p q r):=by
 obtain⟨⟨b1,s1,d1⟩,b2,s2,d2⟩:=r;obtain⟨h1,h2⟩:=h;unfold mapI movP;rcases Classical.em (p<0)with hp|hp
 ·rw[if_pos hp,if_pos hp]
  unfold ivR movC;simp only[hp,if_true,Int.neg_eq_zero]
  congr 1
  ·split
   ·rfl
   ·exact qfr p q
  ·split
   ·rfl
   ·exact qfr p q
  ·rcases Classical.em (b2=0)with h0|h0
   ·have:=(h2.fin h0).2
    dsimp only at this;rw[if_pos h0,if_pos h0,if_pos h0];rcases(show d2=0∨d2=1 by omega)with rfl|rfl<;>rfl
   ·rw[if_neg h0,if_neg h0]
  ·rcases Classical.em (b1=0)with h0|h0
   ·have:=(h1.fin h0).2
    dsimp only at this;rw[if_pos h0,if_pos h0,if_pos h0];rcases(show d1=0∨d1=1 by omega)with rfl|rfl<;>rfl
   ·rw[if_neg h0,if_neg h0]
 ·rw[if_neg hp,if_neg hp]
  unfold ivR movC;simp only[hp,if_false,ite_self]
  congr 1
  ·split
   ·rfl
   ·exact qfr p q
  ·split
   ·rfl
   ·exact qfr p q
theorem OkR.pl{r:RP}(h:OkR r):PlC r.1∧PlC r.2:=⟨h.1.pl,h.2.pl⟩
def mapJ(p q:Rat)(J:List RP):List RP:=if p<0 then(J.map (movP p q)).reverse else J.map (movP p q)
theorem qft(p q:Rat)(J:List RP):(J.map (movP p q)).Perm (mapJ p q J):=by
 unfold mapJ
 split
 ·exact(List.reverse_perm _).symm
 ·exact List.Perm.refl _
theorem qsd{p q:Rat}{J:List RP}(h:∀r∈J,OkR r):mapL p q (J.map ivR)=(mapJ p q J).map ivR:=by
 have e:(J.map ivR).map (mapI p q)=(J.map (movP p q)).map ivR:=by
  rw[List.map_map,List.map_map];exact List.map_congr_left fun r hr=>qmi (h r hr).pl
 unfold mapL mapJ;rw[e]
 split
 ·rw[List.map_reverse]
 ·rfl
theorem qsc{p q:Rat}(hp:p≠0){J:List RP}(h:∀r∈J,OkR r)(hs:IsSet ltR J):IsSet ltR (mapJ p q J):=by
 unfold mapJ;rcases qtl hp with hn|hn
 ·rw[if_pos hn]
  have e:∀r,movP p q r=(movC p q r.2,movC p q r.1):=fun r=>by unfold movP;rw[if_pos hn]
  refine⟨fun r hr=>?_,?_⟩
  ·obtain⟨s,hs',rfl⟩:=List.mem_map.1 (List.mem_reverse.1 hr)
   rw[e];exact(qph hn (h s hs').2.pl (h s hs').1.pl).2 (hs.ne s hs')
  ·rw[List.pairwise_reverse,List.pairwise_map]
   refine hs.gap.imp_of_mem fun {a b} ha hb hab=>?_
   rw[e,e];exact(qph hn (h b hb).1.pl (h a ha).2.pl).2 hab
 ·have hn':¬p<0:=Rat.not_lt.2 (Rat.le_of_lt hn)
  rw[if_neg hn'];have e:∀r,movP p q r=(movC p q r.1,movC p q r.2):=fun r=>by unfold movP;rw[if_neg hn']
  refine⟨fun r hr=>?_,?_⟩
  ·obtain⟨s,hs',rfl⟩:=List.mem_map.1 hr
   rw[e];exact(qpg hn (h s hs').1.pl (h s hs').2.pl).2 (hs.ne s hs')
  ·rw[List.pairwise_map]
   refine hs.gap.imp_of_mem fun {a b} ha hb hab=>?_
   rw[e,e];exact(qpg hn (h a ha).2.pl (h b hb).1.pl).2 hab
theorem SetI.sizes{xs:List Iv}{J:List RP}(h:SetI xs J){k:Nat}(hz:∀x∈xs,x.lo.size≤k∧x.hi.size≤k):∀r∈J,r.1.s.size≤k∧r.2.s.size≤k:=fun r hr=>by
 have hx:=hz (ivR r) (by rw[h.eq];exact List.mem_map_of_mem hr);unfold ivR at hx;dsimp only at hx
 constructor
 ·rcases Classical.em (r.1.b=0)with h0|h0
  ·rw[if_pos h0]at hx;exact hx.1
  ·rw[((h.ok r hr).1.pl.inf h0).1];exact Nat.zero_le _
 ·rcases Classical.em (r.2.b=0)with h0|h0
  ·rw[if_pos h0]at hx;exact hx.2
  ·rw[((h.ok r hr).2.pl.inf h0).1];exact Nat.zero_le _
theorem qe5{xs:List Iv}{J:List RP}(h:SetI xs J){p q:Rat}(hp:p≠0){kp kq k:Nat}(zp:Sz kp p)(zq:Sz kq q)(hk0:0<k)(hk:kp+k+kq≤2490)(hz:∀x∈xs,x.lo.size≤k∧x.hi.size≤k):
  SetI (mapL p q xs) (mapJ p q J)∧(qb8 ((xs.map (mapI p q)).map rgOf)).map ivR=mapL p q xs∧∀r∈(xs.map (mapI p q)).map rgOf,OkR r:=by
 have hsz:=h.sizes hz
 have hok:∀r∈J.map (movP p q),OkR r:=fun r hr=>by
  obtain⟨s,hs,rfl⟩:=List.mem_map.1 hr;have m1:=qmf zp zq hk0 hk (hsz s hs).1 (h.ok s hs).1;have m2:=qmf zp zq hk0 hk (hsz s hs).2 (h.ok s hs).2;unfold movP
  split
  ·exact⟨m2,m1⟩
  ·exact⟨m1,m2⟩
 have hok':∀r∈mapJ p q J,OkR r:=fun r hr=>hok r ((qft p q J).mem_iff.2 hr)
 have hset:=qsc (q:=q) hp h.ok h.set;have hne:∀r∈J.map (movP p q),ltR r.1 r.2:=fun r hr=>hset.ne r ((qft p q J).mem_iff.1 hr)
 have heq:mapL p q xs=(mapJ p q J).map ivR:=by rw[h.eq];exact qsd h.ok
 have hrg:(xs.map (mapI p q)).map rgOf=J.map (movP p q):=by
  rw[h.eq,List.map_map,List.map_map];refine List.map_congr_left fun r hr=>?_
  show rgOf (mapI p q (ivR r))=movP p q r
  have hm:=List.mem_map_of_mem (f:=movP p q) hr;rw[qmi (h.ok r hr).pl,ql3 (hok _ hm) (hne _ hm)]
 refine⟨⟨heq,hok',hset,?_⟩,?_,by rw[hrg];exact hok⟩
 ·rw[←(qft p q J).length_eq,List.length_map]
  exact h.len
 ·rw[hrg,heq]
  congr 1
  refine qrg (qey _).1 hset (qei (P:=RokC) hok) hok' fun c hc=>?_
  rw[qsa];exact Mem.perm (qft p q J) c
set_option maxRecDepth 10000 in
theorem qmp(u:Value)(xs:List Iv)(fa sh:ByteArray)(e:Int)(w:World)(h:Ivs w u xs)(hs:∀x∈xs,x.short)(he:qbd xs=0)(hr:e≠0)
  (hR:∀b T W,Blk W b #[.string fa,.string sh] T→Calls Tryz.prog 83 #[.slice (some ⟨b,0,none⟩) 2 2] W (Ret (.tuple #[.slice none 0 0,.int .i64 e]) W)):
  Calls Tryz.prog 33 #[u,.string fa,.string sh] w (Ret (.tuple #[.slice none 0 0,.int .i64 e]) w):=by
 have HP:=hI (qeg u _ w h hs);unfold qf2 at HP;rw[he]at HP;have HR:=hI hR;have hrb:(e !=0)=true:=by rw[bne_iff_ne];exact hr
 have hrb2:(e==0)=false:=beq_eq_false_iff_ne.2 hr;obtain⟨a,c,rfl,hc1,hc2⟩:=h.open;generalize xs.length=N at*;clear h hs he hR hr hc1 hc2
 go_enter Tryz.func33,Tryz.ntmps33
 go_wp2_with (first
  |(go_at_call 83;refine(HR.out _ _ _ (Blk.new w1 #[.string fa,.string sh] 23)).mono ?_;rintro e' w2 ⟨rfl,hb2⟩;have Hb2:=hI (qaa (qaa Hb1.out (qac w1 _)) hb2);clear hb2)
  |(go_at_call 56;refine(HP.out).mono ?_;rintro e' w1 ⟨⟨r1,rfl,hq,-⟩,hb1⟩;obtain⟨ap,cp,ps,rfl,hps,hcs⟩:=hq (by first|rfl|trivial);have Hb1:=hI hb1;clear hq hps hcs hb1))
 go_ret2
 exact⟨rfl,qaa Hb2.out (qac w2 _)⟩
set_option maxRecDepth 10000 in
theorem qpv(u:Value)(xs:List Iv)(fa sh:ByteArray)(w:World)(h:Ivs w u xs)(hs:∀x∈xs,x.short)(he:qbd xs=0)(z0:fa.size≤5000)(z1:sh.size≤5000)(w0:errL fa.data.toList=0)(w1:errL sh.data.toList=0)(hP:ratS fa=0):
  Calls Tryz.prog 33 #[u,.string fa,.string sh] w (Ret (.tuple #[.slice none 0 0,.int .i64 19]) w):=by
 have HP:=hI (qeg u _ w h hs);unfold qf2 at HP;rw[he]at HP;have HRd:=hI (fun b T W (hB:Blk W b #[.string fa,.string sh] T)=>qkz b fa sh W T hB z0 z1 w0 w1)
 have HSg:=hI (fun v W (hv:RQ W v (ratS fa))=>show Calls Tryz.prog 84 #[v] W (Ret (.int .i64 0) W)from by
  obtain⟨q,h,-⟩:=hv;have:=qfi v _ q W h
  rwa [show(ratS fa).num.sign=0 from by rw[hP];rfl]at this)
 obtain⟨a,c,rfl,hc1,hc2⟩:=h.open;generalize xs.length=N at*;generalize ratS fa=P at*;generalize ratS sh=Q at*;clear h hs he z0 z1 w0 w1 hP hc1 hc2
 go_enter Tryz.func33,Tryz.ntmps33
 go_wp2_with (first
  |(go_at_call 84;refine(HSg.out _ _ Hkg.out.2.2.1).mono ?_;rintro e w3 ⟨rfl,hb3⟩;have Hb3:=hI (qaa (qaa Hb2.out (qac w2 _)) hb3);clear hb3)
  |(go_at_call 83;refine(HRd.out _ _ _ (Blk.new w1 #[.string fa,.string sh] 23)).mono ?_;rintro e w2 ⟨v2,rfl,⟨g,x0,a0,n0,c0,y0,e0,l0,d0,x1,a1,n1,c1,y1,e1,l1,d1,rfl,hbg,hr0,hr1⟩,hb2⟩;have Hb2:=hI (qaa (qaa Hb1.out (qac w1 _)) hb2);have Hkg:=hI (show KQ (w2.alloc (.cells #[.slice (some ⟨g,0,none⟩) 2 2] 109)) w2.heap.size g P Q x0 a0 n0 c0 y0 e0 l0 d0 x1 a1 n1 c1 y1 e1 l1 d1 from⟨Blk.new w2 _ _,hbg.old _,hr0.mono (qac w2 _),hr1.mono (qac w2 _)⟩);obtain⟨k0,g0,g1,g2,g3⟩:=Hkg.out.cells;clear hbg hr0 hr1 hb2)
  |(go_at_call 56;refine(HP.out).mono ?_;rintro e w1 ⟨⟨r1,rfl,hq,-⟩,hb1⟩;obtain⟨ap,cp,ps,rfl,hps,hcs⟩:=hq (by first|rfl|trivial);have Hb1:=hI hb1;clear hq hps hcs hb1))
 go_ret2
 exact⟨rfl,Hb3.out⟩
theorem qwb(u:Value)(xs:List Iv)(fa sh:ByteArray)(w:World)(h:Ivs w u xs)(hs:∀x∈xs,x.short)(he:qbd xs=0)(hn:xs.length≤256)(K:Nat)(hK0:0<K)(hK:3*K≤8000)(hz:∀x∈xs,x.lo.size≤K∧x.hi.size≤K)(z0:fa.size≤K)(z1:sh.size≤K)(w0:errL fa.data.toList=0)(w1:errL sh.data.toList=0)(hP:ratS fa≠0)(hT:Tab w):
  Calls Tryz.prog 33 #[u,.string fa,.string sh] w (RetP (fun v w'=>∃a c,v=.tuple #[.slice a xs.length c,.int .i64 0]∧Ivs w' (.slice a xs.length c) (mapL (ratS fa) (ratS sh) xs)) w):=by
 rcases qtl hP with hn'|hn'
 ·exact qmo u xs fa sh w h hs he hn K hK0 hK hz z0 z1 w0 w1 hn' hT
 ·exact qsk u xs fa sh w h hs he hn K hK0 hK hz z0 z1 w0 w1 hn' hT
theorem ql5{s:ByteArray}(h:errL s.data.toList=0):ratS s=0↔s=⟨#[48]⟩:=by
 obtain⟨r,hs,hr⟩:=qcr h;rw[hr]
 constructor
 ·rintro rfl
  rw[hs,qn9]
 ·intro h0
  apply qrc
  rw[qn9];have:=hs.symm.trans h0
  injection this with h1
  have h2:=congrArg Array.toList h1
  simpa using h2
theorem qmh(p q:Rat)(xs:List Iv):(mapL p q xs).length=xs.length:=by
 unfold mapL
 split<;>simp
theorem qvj{W w':World}{B e s n b:Nat}{v:Value}{xs:List Value}{cs:Array Value}{T:TypeId}(h:W.ownsRow B e s v n xs)(hb:Blk W b cs T)(hne:e≠T)(hg:W.grownBy w' v.ownBlock):Blk w' b cs T:=by
 unfold Blk;rw[hg.block b hb.lt ?_]
 ·exact hb
 ·intro e0
  rcases h.2 with⟨rfl,_⟩|⟨g,cap,cur,rfl,_,hg',_⟩
  ·simp[Value.ownBlock]at e0
  ·simp[Value.ownBlock]at e0
   subst e0;unfold Blk at hb;rw[hb]at hg';simp at hg';exact hne hg'.2.symm
theorem qov(r:Rat)(w:World)(h:(txtR r).length≤30000):Calls Tryz.prog 88 #[.string ⟨(txtR r).toArray⟩] w (Ret (.int .i64 r.num.sign) w):=by
 have H1:=hI (fun w'=>qet r w' h);have H2:=hI (fun w'=>qb1 r.num w');generalize(⟨(txtR r).toArray⟩:ByteArray)=X at*;generalize(⟨(txtZ r.num).toArray⟩:ByteArray)=A at*;generalize(⟨(txtZ (r.den:Int)).toArray⟩:ByteArray)=B at*;generalize r.num.sign=s at*;clear h
 go_enter Tryz.func88,Tryz.ntmps88
 go_wp2_with (first
  |(go_at_call 65;refine(H1.out _).mono ?_;rintro e w1 ⟨rfl,hb1⟩;have Hb1:=hI hb1;clear hb1)
  |(go_at_call 120;refine(H2.out _).mono ?_;rintro e w2 ⟨rfl,hb2⟩;have Hb2:=hI (qaa Hb1.out hb2);clear hb2))
 go_ret
 exact⟨rfl,Hb2.out⟩
theorem qv9{x:Iv}(h:qa9 x=0):(x.le=2→x.lo=⟨#[]⟩)∧(x.he=2→x.hi=⟨#[]⟩):=by
 have key:∀{n:ByteArray} {k:Int},qa0 n k=0→k=2→n=⟨#[]⟩:=fun {n k} h hk=>by
  unfold qa0 at h;rw[if_pos hk]at h
  by_cases hn:n.data.toList=[]
  ·exact qcq (by rw[ByteArray.toList_eq,ByteArray.toList_eq,hn])
  ·rw[if_neg hn]at h
   exact absurd h (by decide)
 unfold qa9 at h
 by_cases h1:x.le<0∨2<x.le∨x.he<0∨2<x.he
 ·rw[if_pos h1]at h
  exact absurd h (by decide)
 ·rw[if_neg h1]at h
  by_cases h2:qa0 x.lo x.le=0
  ·rw[if_neg (by simpa using h2)]at h
   exact⟨key h2,key h⟩
  ·rw[if_pos h2]at h
   exact absurd h h2
theorem qrs{r:Rat}:r.num.sign<0↔r<0:=by
 rw[Int.sign_neg_iff,Rat.lt_iff];simp
set_option maxRecDepth 10000 in
theorem qrn(u:Value)(xs:List Iv)(fa sh:ByteArray)(K:Nat)(w:World)(h:Ivs w u xs)(hiv:∀x∈xs,qa9 x=0)(hn:xs.length≤1000)(hz:∀x∈xs,x.lo.size≤K∧x.hi.size≤K)(hK0:0<K)(hK:3*K≤8000)(z0:fa.size≤K)(z1:sh.size≤K)(w0:errL fa.data.toList=0)(w1:errL sh.data.toList=0)
  (hok:∀r∈(xs.map (mapI (ratS fa) (ratS sh))).map rgOf,OkR r):
  Calls Tryz.prog 34 #[u,.string fa,.string sh] w (RetP (fun r w'=>∃a c,r=.slice a ((qb8 ((xs.map (mapI (ratS fa) (ratS sh))).map rgOf)).map ivR).length c∧Ivs w' (.slice a ((qb8 ((xs.map (mapI (ratS fa) (ratS sh))).map rgOf)).map ivR).length c) ((qb8 ((xs.map (mapI (ratS fa) (ratS sh))).map rgOf)).map ivR)) w):=by
 have HMv:=hI (fun(s:ByteArray) (e:Int) (hs:s.size≤K) (h0:e≠2→errL s.data.toList=0) (h2:e=2→s=⟨#[]⟩)=>show(e=2→movS (ratS fa) (ratS sh) s=s)∧(e≠2→∃D:ByteArray,(∀W,Calls Tryz.prog 51 #[.string s,.string fa] W (Ret (.string D) W))∧∀W,Calls Tryz.prog 53 #[.string D,.string sh] W (Ret (.string (movS (ratS fa) (ratS sh) s)) W))from by
  constructor
  ·intro he
   rw[h2 he];unfold movS;rw[if_pos (by rw[ByteArray.toList_eq];rfl)]
  ·intro he
   obtain⟨r,hr,hrr⟩:=qcr (h0 he);obtain⟨p,hp,hpp⟩:=qcr w0;obtain⟨q,hq,hqq⟩:=qcr w1;have zr:=qb3 hs hK0;have zp:=qb3 z0 hK0;have zq:=qb3 z1 hK0
   have hm:movS (ratS fa) (ratS sh) s=⟨(txtR (r*p+q)).toArray⟩:=by
    unfold movS;rw[if_neg,hrr,hpp,hqq,Rat.mul_comm];intro he;have h1:=h0 ‹_›;rw[ByteArray.toList_eq,List.isEmpty_iff]at he;rw[he]at h1;exact absurd h1 (by decide)
   rw[hrr]at zr;rw[hpp]at zp;rw[hqq]at zq;refine⟨⟨(txtR (r*p)).toArray⟩,fun W=>?_,fun W=>?_⟩
   ·rw[hr,hp]
    exact qrv r p K K W zr zp (by omega)
   ·rw[hm,hq]
    exact qip (r*p) q (K+K) K W (zr.mul zp) zq (by omega))
 have HSg:=hI (fun W=>show Calls Tryz.prog 88 #[.string fa] W (Ret (.int .i64 (ratS fa).num.sign) W)from by
  obtain⟨p,hp,hpp⟩:=qcr w0;have zp:=qd2 (qb3 z0 hK0);rw[hpp]at zp;have:=qov p W (by omega)
  rwa [←hp,←hpp]at this)
 have HEl:=hI (fun(k:Nat) (x:Iv) (hx:xs[k]?=some x)=>And.intro (hz x (List.mem_of_getElem? hx)) (hiv x (List.mem_of_getElem? hx)));have HPs:=hI (qrs (r:=ratS fa));generalize(ratS fa).num.sign=sg at*;generalize ratS fa=P at*;generalize ratS sh=Q at*;have HX:=hI h;have Hok:=hI hok;have HL:=hI (fun s k w'=>qpn s k w');have HU:=hI (fun s k w'=>qn7 s k w');have HN:=hI (fun W:World=>World.ownsRow_nil W W.heap.size 119 6);obtain⟨a,c,rfl,hc1,hc2⟩:=h.open;unfold maxLen at hc2;obtain⟨N,hN⟩:∃N,xs.length=N:=⟨_,rfl⟩
 have HNl:=hI hN;rw[hN]at HX hn hc1⊢;clear h hiv hz hK0 hK z0 z1 w0 w1 hok hN hc1
 go_enter Tryz.func34,Tryz.ntmps34
 go_wp2_with fail
 go_loopw [8,7] (fun i out wr=>∃k:Nat,k≤N∧i=.int .i64 (k:Int)∧Below w.heap.size w wr∧wr.ownsRow w.heap.size 119 6 out k (qcb (((xs.take k).map (mapI P Q)).map rgOf))) (fun i _ _=>N-(intOf i).toNat)
 case atStart=>exact⟨0,by omega,rfl,Below.refl _ _,HN.out _⟩
 case round=>
  obtain⟨k,hk,rfl,hbw,hown⟩:=hrel;have Hbw:=hI hbw;have Hown:=hI hown;rcases Nat.lt_or_ge k N with hlt|hge
  ·obtain⟨b,off,⟨lo,hi,le,he⟩,rfl,hx,v0,v1,v2,v3⟩:=HX.out.at hbw hlt
   dsimp only at v0 v1 v2 v3;have hkn:(k:Int)<(N:Int):=by omega
   have hk0:(0:Int)≤(k:Int):=Int.natCast_nonneg _;have hkw:IntKind.i64.wrap ((k:Int)+1)=(k:Int)+1:=IntWalk.i64_in _ (by omega);have hel:=HEl.out k _ hx;obtain⟨n1,n2⟩:=qtq hel.2;obtain⟨m1,m2⟩:=qv9 hel.2;have HM1:=hI (HMv.out lo le hel.1.1 n1 m1);have HM3:=hI (HMv.out hi he hel.1.2 n2 m2);obtain⟨⟨L,H,LE,HE⟩,hmi⟩:∃y:Iv,mapI P Q ⟨lo,hi,le,he⟩=y:=⟨_,rfl⟩
   have Hst:=hI (show qcb (((xs.take (k+1)).map (mapI P Q)).map rgOf)=qcb (((xs.take k).map (mapI P Q)).map rgOf)++rrow (loC L LE,upC H HE)from by
    rw[qa4 hx,List.map_append,List.map_append,←qda,List.map_cons,hmi]
    rfl)
   unfold mapI at hmi;dsimp only at hmi;obtain⟨M1,hM1⟩:∃m,movS P Q lo=m:=⟨_,rfl⟩
   obtain⟨M3,hM3⟩:∃m,movS P Q hi=m:=⟨_,rfl⟩
   rw[hM1]at HM1 hmi;rw[hM3]at HM3 hmi;have Hmi:=hI hmi;clear hx hbw hown hel n1 n2 m1 m2 hmi hM1 hM3;have HLx:=hI (fun w'=>HL.out L LE w');have HUx:=hI (fun w'=>HU.out H HE w');unfold rcA rcut at HLx HUx;generalize loC L LE=lc at*;generalize upC H HE=uc at*
   go_upto_if 22 with fail
   go_cut [10]from 10 to 65 (fun _ wx=>Below wr.heap.size wr wx∧Blk wx wr.heap.size #[.string M1,.string hi,.int .i64 le,.int .i64 he] 46)
   case first=>
    clear Hst Hown HN HLx HUx HM3 Hmi HX Hok HEl HPs HSg;have HB0:=hI (Blk.new wr #[.string lo,.string hi,.int .i64 le,.int .i64 he] 46)
    by_cases h2:le=2
    ·obtain rfl:=HM1.out.1 h2
     subst h2;clear HM1 HMv
     go_wp2_with fail
     go_meet;exact⟨qac wr _,HB0.out⟩
    ·obtain⟨D,hD1,hD2⟩:=HM1.out.2 h2
     have HD1:=hI hD1;have HD2:=hI hD2;have h2b:(le==2)=false:=beq_eq_false_iff_ne.2 h2;have h2c:(le !=2)=true:=by rw[bne_iff_ne];exact h2
     clear HM1 HMv hD1 hD2 h2
     go_wp2_with (first
      |(go_at_call 53;refine(HD2.out _).mono ?_;rintro e w6 ⟨rfl,hb6⟩;have HB6:=hI (HB0.out.below (qaa Hb5.out hb6));have Hb6:=hI (qaa (qaa (qac wr _) Hb5.out) hb6);obtain⟨⟨p0,p1,p2,p3⟩,f0,f1,f2,f3⟩:=qam HB6.out;clear hb6)
      |(go_at_call 51;refine(HD1.out _).mono ?_;rintro e w5 ⟨rfl,hb5⟩;have Hb5:=hI hb5;clear hb5))
     go_meet;exact⟨Hb6.out.setCell (p:=⟨wr.heap.size,0,none⟩) (Nat.le_refl _) (.string M1),by have h:=HB6.out.set 0 (.string M1);exact h⟩
   case rest=>
    obtain⟨hbx,hB5⟩:=hcut
    rename World=>wx
    obtain⟨⟨p0,p1,p2,p3⟩,f0,f1,f2,f3⟩:=qam hB5;have HB5:=hI hB5;have Hbx:=hI hbx;generalize hg5:wr.heap.size=B5 at*;have Hg5:=hI hg5;clear hbx hB5 hg5 v0 v1 v2 v3 HM1
    go_upto_if 32 with fail
    go_cut [10]from 10 to 65 (fun _ wy=>Below B5 wr wy∧Blk wy B5 #[.string M1,.string M3,.int .i64 le,.int .i64 he] 46)
    case first=>
     clear Hst Hown HN HLx HUx Hmi HX Hok HEl HPs HSg
     by_cases h2:he=2
     ·obtain rfl:=HM3.out.1 h2
      subst h2;clear HM3 HMv
      go_wp2_with fail
      go_meet;exact⟨Hbx.out,HB5.out⟩
     ·obtain⟨D,hD1,hD2⟩:=HM3.out.2 h2
      have HD1:=hI hD1;have HD2:=hI hD2;have h2b:(he==2)=false:=beq_eq_false_iff_ne.2 h2;have h2c:(he !=2)=true:=by rw[bne_iff_ne];exact h2
      clear HM3 HMv hD1 hD2 h2
      go_wp2_with (first
       |(go_at_call 53;refine(HD2.out _).mono ?_;rintro e w6 ⟨rfl,hb6⟩;have HB6:=hI (HB5.out.below (qaa Hb5.out hb6));have Hb6:=hI (Hbx.out.via (qaa Hb5.out hb6) (Nat.le_of_lt HB5.out.lt));obtain⟨⟨q0,q1,q2,q3⟩,g0,g1,g2,g3⟩:=qam HB6.out;clear hb6)
       |(go_at_call 51;refine(HD1.out _).mono ?_;rintro e w5 ⟨rfl,hb5⟩;have Hb5:=hI hb5;clear hb5))
      go_meet;exact⟨Hb6.out.setCell (p:=⟨B5,1,none⟩) (Nat.le_refl _) (.string M3),by have h:=HB6.out.set 1 (.string M3);exact h⟩
    case rest=>
     obtain⟨hby,hB5'⟩:=hcut
     rename World=>wy
     have HB6:=hI hB5';have Hby:=hI hby;clear hby hB5' p0 p1 p2 p3 f0 f1 f2 f3 HB5 Hbx HM3
     go_upto_if 42 with(go_at_call 88;refine(HSg.out _).mono ?_;rintro e w7 ⟨rfl,hb7⟩;have HB7:=hI (HB6.out.below hb7);have Hb7:=hI (Hby.out.via hb7 (Nat.le_of_lt HB6.out.lt));obtain⟨⟨p0,p1,p2,p3⟩,f0,f1,f2,f3⟩:=qam HB7.out;clear hb7)
     go_cut [10]from 10 to 65 (fun _ wz=>Below B5 wr wz∧Blk wz B5 #[.string L,.string H,.int .i64 LE,.int .i64 HE] 46)
     case first=>
      clear Hst Hown HN HLx HUx HX Hok HEl HSg HMv
      by_cases hs:sg<0
      ·have hm:=Hmi.out
       rw[if_pos (HPs.out.1 hs)]at hm
       injection hm with e1 e2 e3 e4
       subst e1 e2 e3 e4;clear Hmi HPs
       go_wp2_with fail
       go_meet;exact⟨(((Hb7.out.setCell (p:=⟨B5,0,none⟩) (Nat.le_refl _) _).setCell (p:=⟨B5,1,none⟩) (Nat.le_refl _) _).setCell (p:=⟨B5,2,none⟩) (Nat.le_refl _) _).setCell (p:=⟨B5,3,none⟩) (Nat.le_refl _) _,qm2 HB7.out _ _ _ _⟩
      ·have hm:=Hmi.out
       rw[if_neg (fun hh=>hs (HPs.out.2 hh))]at hm
       injection hm with e1 e2 e3 e4
       subst e1 e2 e3 e4;clear Hmi HPs
       go_wp2_with fail
       go_meet;exact⟨Hb7.out,HB7.out⟩
     case rest=>
      obtain⟨hbz,hB8⟩:=hcut
      rename World=>wz
      rw[←Hg5.out]at hbz;have Hown8:=hI (qaf Hown.out hbz);have HbA:=hI (Hbw.out.via hbz Hbw.out.size);have HB8:=hI hB8;clear hbz hB8 p0 p1 p2 p3 f0 f1 f2 f3 HB7 Hb7 HB6 Hby Hbw Hown Hmi;go_upto_region 12 with fail
      refine wp_region_held_drew (S:=(fun w'=>w'.cell? ⟨B5,0,none⟩=some (.string L)∧w'.cell? ⟨B5,1,none⟩=some (.string H)∧w'.cell? ⟨B5,2,none⟩=some (.int .i64 LE)∧w'.cell? ⟨B5,3,none⟩=some (.int .i64 HE))) (by kernel_rfl) (by exact(qam (HB8.out.below (bwD wz))).1) (fun hHeld=>?_)
      refine' tk 0 ?_;(try simp only[tkS]);refine' tk 1 ?_;(try simp only[tkS]);refine' tk 2 ?_;(try simp only[tkS]);refine' tk 3 ?_;(try simp only[tkS]);refine' tk 4 ?_;(try simp only[tkS]);refine' tk 6 ?_;(try simp only[tkS]);refine' tk 7 ?_;(try simp only[tkS]);refine' tk 8 ?_;(try simp only[tkS]);refine' tk 9 ?_;(try simp only[tkS]);refine tk1 5 (fun K hK=>?_)
      go_simp;go_at_call 89;refine(HLx.out _).mono ?_
      rintro e5 w11 ⟨rfl,hb11⟩;have H11:=hI (qaa (bwD wz) hb11);clear hb11;refine hK.out _ _ (by exact(qam (HB8.out.below (H11.out))).1) (fun hHeld=>?_)
      clear hK K;(try simp only[tkS]);refine tk1 10 (fun K hK=>?_)
      go_simp;go_at_call 90;refine(HUx.out _).mono ?_
      rintro e5 w22 ⟨rfl,hb22⟩;have H22:=hI (qaa (H11.out) hb22);clear hb22;refine hK.out _ _ (by exact(qam (HB8.out.below (H22.out))).1) (fun hHeld=>?_)
      clear hK K;(try simp only[tkS]);refine' tk 11 ?_;(try simp only[tkS]);refine tk1 12 (fun K hK=>?_)
      go_simp;refine hK.out _ _ (by exact(qam (HB8.out.below (Below.alloc (H22.out) (Below.size (H22.out)) (.cells #[.int .i64 lc.b,.string lc.s,.int .i64 lc.d,.int .i64 uc.b,.string uc.s,.int .i64 uc.d] 119)))).1) (fun hHeld=>?_)
      clear hK K;(try simp only[tkS]);refine tk1 13 (fun K hK=>?_)
      refine qod ER (by decide) (rrow (lc,uc)) (by rfl) _ _ (by rfl) w.heap.size k _ _ _ (by rfl) (by rfl) (by exact qaf Hown8.out (Below.alloc (H22.out) (Below.size (H22.out)) (.cells #[.int .i64 lc.b,.string lc.s,.int .i64 lc.d,.int .i64 uc.b,.string uc.s,.int .i64 uc.d] 119))) (by exact heap_alloc_new _ _) (by rfl) (one6 (lc,uc)) (by omega) (by decide) (by exact Nat.le_trans HbA.out.size (Below.size (Below.alloc (H22.out) (Below.size (H22.out)) (.cells #[.int .i64 lc.b,.string lc.s,.int .i64 lc.d,.int .i64 uc.b,.string uc.s,.int .i64 uc.d] 119)))) ?_
      intro g5 cap5 w5 hown' hg' _ _;have HBa:=hI (qvj (qaf Hown8.out (Below.alloc (H22.out) (Below.size (H22.out)) (.cells #[.int .i64 lc.b,.string lc.s,.int .i64 lc.d,.int .i64 uc.b,.string uc.s,.int .i64 uc.d] 119))) (HB8.out.below (Below.alloc (H22.out) (Below.size (H22.out)) (.cells #[.int .i64 lc.b,.string lc.s,.int .i64 lc.d,.int .i64 uc.b,.string uc.s,.int .i64 uc.d] 119))) (by decide) hg');have Hb5:=hI (Below.grown (Below.via HbA.out (Below.alloc (H22.out) (Below.size (H22.out)) (.cells #[.int .i64 lc.b,.string lc.s,.int .i64 lc.d,.int .i64 uc.b,.string uc.s,.int .i64 uc.d] 119)) HbA.out.size) hg' (Nat.le_trans HbA.out.size (Below.size (Below.alloc (H22.out) (Below.size (H22.out)) (.cells #[.int .i64 lc.b,.string lc.s,.int .i64 lc.d,.int .i64 uc.b,.string uc.s,.int .i64 uc.d] 119)))) (fun q hq=>(Hown8.out.lt q hq).1));have Hown5:=hI hown';clear hown' hg';refine hK.out _ _ (by exact(qam HBa.out).1) (fun hHeld=>?_)
      clear hK K;(try simp only[tkS]);refine' tk 14 ?_;(try simp only[tkS]);refine tkD ?_ _
      go_wp2_with fail
      go_roundw
      case rel=>exact⟨k+1,by omega,by go_num,Hb5.out,by rw[Hst.out];exact Hown5.out⟩
      case measure=>simp[intOf]<;>omega
  ·obtain rfl:k=N:=by omega
   have hkn:¬(k:Int)<(k:Int):=by omega
   have Hrg:=hI (show Rgs wr _ ((xs.map (mapI P Q)).map rgOf)from by
    have h:=qdg hown
    rwa [List.take_of_length_le (by rw[HNl.out];exact Nat.le_refl _)]at h)
   have Hlen:=hI (show((xs.map (mapI P Q)).map rgOf).length≤1000 from by rw[List.length_map,List.length_map,HNl.out];exact hn);obtain⟨R,hR⟩:∃R,(xs.map (mapI P Q)).map rgOf=R:=⟨_,rfl⟩
   rw[hR]at Hrg Hlen Hok;have HJ:=hI (fun v' w' (h:Rgs w' v' R)=>qia v' R w' h Hok.out Hlen.out);have Hjl:=hI (qfv R);have HI:=hI (fun v' w' (h:Rgs w' v' (qb8 R))=>qe0 v' (qb8 R) w' h (by have:=Hjl.out;have:=Hlen.out;omega));obtain⟨J,hJ⟩:∃J,qb8 R=J:=⟨_,rfl⟩
   rw[hJ]at HJ Hjl HI;have Hfin:=hI (show(qb8 ((xs.map (mapI P Q)).map rgOf)).map ivR=J.map ivR∧(J.map ivR).length=J.length from⟨by rw[hR,hJ],List.length_map ..⟩);clear hR hJ;obtain⟨ao,co,rfl,hco,hcm⟩:=qas hown;clear hbw hown HX Hok Hlen Hjl HMv HEl hco hcm
   go_wp2_with (first
    |(go_at_call 78;refine(HI.out _ _ Hr2.out).mono ?_;rintro e w3 ⟨v3,rfl,⟨a3,c3,rfl,hiv⟩,hb3⟩;have Hb3:=hI (Hb2.out.via hb3 Hb2.out.size);have Hiv:=hI hiv;clear hiv hb3)
    |(go_at_call 79;refine(HJ.out _ _ Hrg.out).mono ?_;rintro e w2 ⟨v2,rfl,hown2,hb2⟩;have Hb2:=hI (Hbw.out.via hb2 Hbw.out.size);have Hr2:=hI (qdg hown2);clear hown2 hb2))
   go_ret
   exact⟨_,rfl,⟨a3,c3,by rw[Hfin.out.1,Hfin.out.2];rfl,by rw[Hfin.out.1,Hfin.out.2];exact Hiv.out⟩,Hb3.out⟩
end Go.Proofs.YtacihodamichhaaGreatDoor
