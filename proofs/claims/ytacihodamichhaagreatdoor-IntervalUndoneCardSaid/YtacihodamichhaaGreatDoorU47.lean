/- Parts of the proof. -/
import Derived.Test.YtacihodamichhaaGreatDoorU46
set_option maxHeartbeats 8000000
namespace Go.Proofs.YtacihodamichhaaGreatDoor
open Go.RowKit
theorem qey(s:ByteArray):numR s.data.toList=(ratS s).num∧dn (denR s.data.toList)=((ratS s).den:Int):=by
 rcases Classical.em (errL s.data.toList=0)with h|h
 ·obtain⟨r,hr⟩:=qjo h
  rw[qc8 hr,hr,(qe7 (qbi r)).1,(qe7 (qbi r)).2,qiy,qla];exact⟨rfl,rfl⟩
 ·obtain⟨h1,h2,h3⟩:=qi5 h
  rw[h1,h2,h3];exact⟨rfl,rfl⟩
theorem que(x y:Cut):QL x y↔ratS x.s≤ratS y.s:=by
 unfold QL;rw[(qey x.s).1,(qey x.s).2,(qey y.s).1,(qey y.s).2];exact(Rat.le_iff _ _).symm
theorem qhs{x y:Cut}:ltR x y↔x.b<y.b∨(x.b=y.b∧(ratS x.s<ratS y.s∨(ratS x.s=ratS y.s∧x.b=0∧x.d<y.d))):=by
 unfold ltR;rw[qep,que,que,Rat.not_le]
 show x.b<y.b∨(x.b=y.b∧(ratS x.s<ratS y.s∨(ratS x.s≤ratS y.s∧ratS y.s≤ratS x.s∧(if x.b=0 then 2*x.d-1 else 0)<(if y.b=0 then 2*y.d-1 else 0))))↔_
 refine or_congr Iff.rfl (and_congr_right fun hb=>or_congr Iff.rfl ?_)
 rw[←and_assoc,←Rat.le_antisymm_iff,hb];refine and_congr_right fun _=>?_
 split
 ·exact⟨fun h=>⟨‹_›,by omega⟩,fun h=>by omega⟩
 ·exact⟨fun h=>absurd h (by decide),fun h=>absurd h.1 ‹_›⟩
theorem qp1{p:Rat}(h:p≠0):p<0∨0<p:=by
 rcases Classical.em (p<0)with h1|h1
 ·exact .inl h1
 ·exact .inr (Rat.lt_of_le_of_ne (Rat.not_lt.1 h1) (Ne.symm h))
theorem qhf{a b:Rat}:a=b↔¬a<b∧¬b<a:=by
 rw[Rat.not_lt,Rat.not_lt,Rat.le_antisymm_iff];exact and_comm
theorem qma{p q a b:Rat}(h:0<p):p*a+q<p*b+q↔a<b:=by
 rw[Rat.add_lt_add_right,Rat.mul_lt_mul_left h]
theorem qgl{p q a b:Rat}(h:p<0):p*a+q<p*b+q↔b<a:=by
 rw[Rat.add_lt_add_right];have h':0< -p:=by rw[Rat.lt_neg_iff,Rat.neg_zero];exact h
 rw[←Rat.mul_lt_mul_left h' (a:=b) (b:=a),Rat.neg_mul,Rat.neg_mul,Rat.neg_lt_neg_iff]
def movC(p q:Rat)(c:Cut):Cut:=⟨if p<0 then -c.b else c.b,movS p q c.s,if c.b=0 then(if p<0 then 1-c.d else c.d)else c.d⟩
def movP(p q:Rat)(r:RP):RP:=if p<0 then(movC p q r.2,movC p q r.1)else(movC p q r.1,movC p q r.2)
theorem qdp(p q:Rat):movS p q ⟨#[]⟩=⟨#[]⟩:=by unfold movS;rw[if_pos (by rw[ByteArray.toList_eq];rfl)]
theorem qxl{s:ByteArray}(h:errL s.data.toList=0):s.toList.isEmpty=false:=by
 cases he:s.toList.isEmpty with
 |false=>rfl
 |true=>
  rw[ByteArray.toList_eq,List.isEmpty_iff]at he;rw[he]at h;exact absurd h (by decide)
theorem qhn{p q:Rat}{s:ByteArray}(h:errL s.data.toList=0):movS p q s=⟨(txtR (p*ratS s+q)).toArray⟩:=by
 unfold movS;rw[if_neg (by rw[qxl h];decide)]
theorem qc9{p q:Rat}{s:ByteArray}(h:errL s.data.toList=0):ratS (movS p q s)=p*ratS s+q:=by
 rw[qhn h];exact qc8 (by simp)
structure PlC(c:Cut):Prop where
 inf:c.b≠0→c.s=⟨#[]⟩∧c.d=0
 fin:c.b=0→errL c.s.data.toList=0∧0≤c.d∧c.d≤1
theorem RokC.pl{c:Cut}(h:RokC c):PlC c:=by
 constructor
 ·intro hb
  rcases h with⟨h0,-⟩|⟨-,h1,h2⟩
  ·exact absurd h0 hb
  ·exact⟨h1,h2⟩
 ·intro hb
  rcases h with⟨-,-,h1,h2,h3⟩|⟨h0,-⟩
  ·exact⟨h1,h2,h3⟩
  ·rcases h0 with h0|h0<;>rw[hb]at h0<;>exact absurd h0 (by decide)
theorem qgd{p q:Rat}(hp:0<p){x y:Cut}(hx:PlC x)(hy:PlC y):ltR (movC p q x) (movC p q y)↔ltR x y:=by
 have hn:¬p<0:=Rat.not_lt.2 (Rat.le_of_lt hp);rw[qhs,qhs];unfold movC;simp only[hn,if_false,ite_self];refine or_congr Iff.rfl (and_congr_right fun hb=>?_)
 rcases Classical.em (x.b=0)with h0|h0
 ·have h0':y.b=0:=hb▸h0
  rw[qc9 (hx.fin h0).1,qc9 (hy.fin h0').1,qma hp,qhf,qma hp,qma hp,←qhf]
 ·have h0':y.b≠0:=hb▸h0
  rw[(hx.inf h0).1,(hy.inf h0').1];simp only[h0,false_and,and_false,or_false];exact⟨fun h=>absurd h Rat.lt_irrefl,fun h=>absurd h Rat.lt_irrefl⟩
theorem qge{p q:Rat}(hp:p<0){x y:Cut}(hx:PlC x)(hy:PlC y):ltR (movC p q x) (movC p q y)↔ltR y x:=by
 rw[qhs,qhs];unfold movC;simp only[hp,if_true];refine or_congr (by omega) ?_
 constructor
 ·rintro⟨hb,h⟩
  have hb':y.b=x.b:=by omega
  refine⟨hb',?_⟩
  rcases Classical.em (x.b=0)with h0|h0
  ·have h0':y.b=0:=hb'.trans h0
   rw[qc9 (hx.fin h0).1,qc9 (hy.fin h0').1,qgl hp,qhf,qgl hp,qgl hp]at h;rw[if_pos h0,if_pos h0']at h;rcases h with h|⟨⟨h1,h2⟩,-,h3⟩
   ·exact .inl h
   ·exact .inr ⟨qhf.2 ⟨h1,h2⟩,h0',by omega⟩
  ·have h0':y.b≠0:=fun h=>h0 (hb'.symm.trans h)
   rw[(hx.inf h0).1,(hy.inf h0').1]at h;rcases h with h|⟨-,h2,-⟩
   ·exact absurd h Rat.lt_irrefl
   ·omega
 ·rintro⟨hb',h⟩
  refine⟨by omega,?_⟩
  rcases Classical.em (x.b=0)with h0|h0
  ·have h0':y.b=0:=hb'.trans h0
   rw[qc9 (hx.fin h0).1,qc9 (hy.fin h0').1,qgl hp,qhf,qgl hp,qgl hp];rw[if_pos h0,if_pos h0'];rcases h with h|⟨h1,h2,h3⟩
   ·exact .inl h
   ·obtain⟨h4,h5⟩:=qhf.1 h1
    exact .inr ⟨⟨h4,h5⟩,by omega,by omega⟩
  ·have h0':y.b≠0:=fun h=>h0 (hb'.symm.trans h)
   rw[(hx.inf h0).1,(hy.inf h0').1]at h;rcases h with h|⟨-,h2,-⟩
   ·exact absurd h Rat.lt_irrefl
   ·exact absurd h2 h0'
theorem qm3{p q:Rat}{c:Cut}{kp kq k:Nat}(hp:Sz kp p)(hq:Sz kq q)(hk0:0<k)(hk:kp+k+kq≤2490)(hs:c.s.size≤k)(h:RokC c):RokC (movC p q c):=by
 rcases Classical.em (c.b=0)with h0|h0
 ·obtain⟨h1,h2,h3⟩:=h.pl.fin h0
  have hz:=qb9 ((hp.mul (qcw hs hk0)).add hq);unfold movC;rw[if_pos h0,h0,qhn h1];refine .inl ⟨by split<;>rfl,?_,?_,?_,?_⟩
  ·show(txtR (p*ratS c.s+q)).toArray.size≤5000
   rw[List.size_toArray]
   omega
  ·exact qbi _
  ·dsimp only;split<;>omega
  ·dsimp only;split<;>omega
 ·obtain⟨h1,h2⟩:=h.pl.inf h0
  unfold movC;rw[if_neg h0,h1,h2,qdp];rcases h with⟨hb,-⟩|⟨hb,-⟩
  ·exact absurd hb h0
  ·refine .inr ⟨?_,rfl,rfl⟩
   dsimp only
   split<;>omega
theorem qg3{p q:Rat}{r:RP}(h:PlC r.1∧PlC r.2):mapI p q (ivR r)=ivR (movP p q r):=by
 obtain⟨⟨b1,s1,d1⟩,b2,s2,d2⟩:=r;obtain⟨h1,h2⟩:=h;unfold mapI movP;rcases Classical.em (p<0)with hp|hp
 ·rw[if_pos hp,if_pos hp]
  unfold ivR movC;simp only[hp,if_true,Int.neg_eq_zero]
  congr 1
  ·split
   ·rfl
   ·exact qdp p q
  ·split
   ·rfl
   ·exact qdp p q
  ·rcases Classical.em (b2=0)with h0|h0
   ·have:=(h2.fin h0).2
    dsimp only at this;rw[if_pos h0,if_pos h0,if_pos h0];rcases(show d2=0∨d2=1 by omega)with rfl|rfl<;>rfl
   ·rw[if_neg h0,if_neg h0]
  ·rcases Classical.em (b1=0)with h0|h0
   ·have:=(h1.fin h0).2
    dsimp only at this;rw[if_pos h0,if_pos h0,if_pos h0];rcases(show d1=0∨d1=1 by omega)with rfl|rfl<;>rfl
   ·rw[if_neg h0,if_neg h0]
 ·rw[if_neg hp,if_neg hp]
  unfold ivR movC;simp only[hp,if_false,ite_self]
  congr 1
  ·split
   ·rfl
   ·exact qdp p q
  ·split
   ·rfl
   ·exact qdp p q
theorem OkR.pl{r:RP}(h:OkR r):PlC r.1∧PlC r.2:=⟨h.1.pl,h.2.pl⟩
def mapJ(p q:Rat)(J:List RP):List RP:=if p<0 then(J.map (movP p q)).reverse else J.map (movP p q)
theorem qf1(p q:Rat)(J:List RP):(J.map (movP p q)).Perm (mapJ p q J):=by
 unfold mapJ
 split
 ·exact(List.reverse_perm _).symm
 ·exact List.Perm.refl _
theorem qtd{p q:Rat}{J:List RP}(h:∀r∈J,OkR r):mapL p q (J.map ivR)=(mapJ p q J).map ivR:=by
 have e:(J.map ivR).map (mapI p q)=(J.map (movP p q)).map ivR:=by
  rw[List.map_map,List.map_map];exact List.map_congr_left fun r hr=>qg3 (h r hr).pl
 unfold mapL mapJ;rw[e]
 split
 ·rw[List.map_reverse]
 ·rfl
theorem qm5{p q:Rat}(hp:p≠0){J:List RP}(h:∀r∈J,OkR r)(hs:IsSet ltR J):IsSet ltR (mapJ p q J):=by
 unfold mapJ;rcases qp1 hp with hn|hn
 ·rw[if_pos hn]
  have e:∀r,movP p q r=(movC p q r.2,movC p q r.1):=fun r=>by unfold movP;rw[if_pos hn]
  refine⟨fun r hr=>?_,?_⟩
  ·obtain⟨s,hs',rfl⟩:=List.mem_map.1 (List.mem_reverse.1 hr)
   rw[e];exact(qge hn (h s hs').2.pl (h s hs').1.pl).2 (hs.ne s hs')
  ·rw[List.pairwise_reverse,List.pairwise_map]
   refine hs.gap.imp_of_mem fun {a b} ha hb hab=>?_
   rw[e,e];exact(qge hn (h b hb).1.pl (h a ha).2.pl).2 hab
 ·have hn':¬p<0:=Rat.not_lt.2 (Rat.le_of_lt hn)
  rw[if_neg hn'];have e:∀r,movP p q r=(movC p q r.1,movC p q r.2):=fun r=>by unfold movP;rw[if_neg hn']
  refine⟨fun r hr=>?_,?_⟩
  ·obtain⟨s,hs',rfl⟩:=List.mem_map.1 hr
   rw[e];exact(qgd hn (h s hs').1.pl (h s hs').2.pl).2 (hs.ne s hs')
  ·rw[List.pairwise_map]
   refine hs.gap.imp_of_mem fun {a b} ha hb hab=>?_
   rw[e,e];exact(qgd hn (h a ha).2.pl (h b hb).1.pl).2 hab
theorem SetI.sizes{xs:List Iv}{J:List RP}(h:SetI xs J){k:Nat}(hz:∀x∈xs,x.lo.size≤k∧x.hi.size≤k):∀r∈J,r.1.s.size≤k∧r.2.s.size≤k:=fun r hr=>by
 have hx:=hz (ivR r) (by rw[h.eq];exact List.mem_map_of_mem hr);unfold ivR at hx;dsimp only at hx
 constructor
 ·rcases Classical.em (r.1.b=0)with h0|h0
  ·rw[if_pos h0]at hx;exact hx.1
  ·rw[((h.ok r hr).1.pl.inf h0).1];exact Nat.zero_le _
 ·rcases Classical.em (r.2.b=0)with h0|h0
  ·rw[if_pos h0]at hx;exact hx.2
  ·rw[((h.ok r hr).2.pl.inf h0).1];exact Nat.zero_le _
theorem qee{xs:List Iv}{J:List RP}(h:SetI xs J){p q:Rat}(hp:p≠0){kp kq k:Nat}(zp:Sz kp p)(zq:Sz kq q)(hk0:0<k)(hk:kp+k+kq≤2490)(hz:∀x∈xs,x.lo.size≤k∧x.hi.size≤k):
  SetI (mapL p q xs) (mapJ p q J)∧(qa1 ((xs.map (mapI p q)).map rgOf)).map ivR=mapL p q xs∧∀r∈(xs.map (mapI p q)).map rgOf,OkR r:=by
 have hsz:=h.sizes hz
 have hok:∀r∈J.map (movP p q),OkR r:=fun r hr=>by
  obtain⟨s,hs,rfl⟩:=List.mem_map.1 hr;have m1:=qm3 zp zq hk0 hk (hsz s hs).1 (h.ok s hs).1;have m2:=qm3 zp zq hk0 hk (hsz s hs).2 (h.ok s hs).2;unfold movP
  split
  ·exact⟨m2,m1⟩
  ·exact⟨m1,m2⟩
 have hok':∀r∈mapJ p q J,OkR r:=fun r hr=>hok r ((qf1 p q J).mem_iff.2 hr)
 have hset:=qm5 (q:=q) hp h.ok h.set;have hne:∀r∈J.map (movP p q),ltR r.1 r.2:=fun r hr=>hset.ne r ((qf1 p q J).mem_iff.1 hr)
 have heq:mapL p q xs=(mapJ p q J).map ivR:=by rw[h.eq];exact qtd h.ok
 have hrg:(xs.map (mapI p q)).map rgOf=J.map (movP p q):=by
  rw[h.eq,List.map_map,List.map_map];refine List.map_congr_left fun r hr=>?_
  show rgOf (mapI p q (ivR r))=movP p q r
  have hm:=List.mem_map_of_mem (f:=movP p q) hr;rw[qg3 (h.ok r hr).pl,qmm (hok _ hm) (hne _ hm)]
 refine⟨⟨heq,hok',hset,?_⟩,?_,by rw[hrg];exact hok⟩
 ·rw[←(qf1 p q J).length_eq,List.length_map]
  exact h.len
 ·rw[hrg,heq]
  congr 1
  refine qmg (qb0 _).1 hset (qbv (P:=RokC) hok) hok' fun c hc=>?_
  rw[qed];exact Mem.perm (qf1 p q J) c
theorem qnj(u:Value)(xs:List Iv)(fa sh:ByteArray)(w:World)(h:Ivs w u xs)(hs:∀x∈xs,x.short)(he:qa5 xs=0)(hn:xs.length≤256)(K:Nat)(hK0:0<K)(hK:3*K≤8000)(hz:∀x∈xs,x.lo.size≤K∧x.hi.size≤K)(z0:fa.size≤K)(z1:sh.size≤K)(w0:errL fa.data.toList=0)(w1:errL sh.data.toList=0)(hP:ratS fa≠0)(hT:Tab w):
  Calls Tryz.prog 33 #[u,.string fa,.string sh] w (RetP (fun v w'=>∃a c,v=.tuple #[.slice a xs.length c,.int .i64 0]∧Ivs w' (.slice a xs.length c) (mapL (ratS fa) (ratS sh) xs)) w):=by
 rcases qp1 hP with hn'|hn'
 ·exact qni u xs fa sh w h hs he hn K hK0 hK hz z0 z1 w0 w1 hn' hT
 ·exact qtm u xs fa sh w h hs he hn K hK0 hK hz z0 z1 w0 w1 hn' hT
theorem qe1(p q:Rat)(xs:List Iv):(mapL p q xs).length=xs.length:=by
 unfold mapL
 split<;>simp
theorem qp3(r:Rat)(w:World)(h:(txtR r).length≤30000):Calls Tryz.prog 88 #[.string ⟨(txtR r).toArray⟩] w (Ret (.int .i64 r.num.sign) w):=by
 have H1:=hI (fun w'=>qc1 r w' h);have H2:=hI (fun w'=>qbu r.num w');generalize(⟨(txtR r).toArray⟩:ByteArray)=X at*;generalize(⟨(txtZ r.num).toArray⟩:ByteArray)=A at*;generalize(⟨(txtZ (r.den:Int)).toArray⟩:ByteArray)=B at*;generalize r.num.sign=s at*;clear h
 go_enter Tryz.func88,Tryz.ntmps88
 go_wp2_with (first
  |(go_at_call 65;refine(H1.out _).mono ?_;rintro e w1 ⟨rfl,hb1⟩;have Hb1:=hI hb1;clear hb1)
  |(go_at_call 120;refine(H2.out _).mono ?_;rintro e w2 ⟨rfl,hb2⟩;have Hb2:=hI (qaa Hb1.out hb2);clear hb2))
 go_ret
 exact⟨rfl,Hb2.out⟩
theorem qmo{r:Rat}:r.num.sign<0↔r<0:=by
 rw[Int.sign_neg_iff,Rat.lt_iff];simp
end Go.Proofs.YtacihodamichhaaGreatDoor
namespace Go.Proofs.YtacihodamichhaaGreatDoor
open Go.RowKit
section
variable {α:Type} {lt:α→α→Prop} [DecidableRel lt] {val:α→Rat}
def Eqv(lt:α→α→Prop)(x y:α):Prop:=¬lt x y∧¬lt y x
def lenP(val:α→Rat):List (α × α)→Rat
 |[]=>0
 |p::X=>(val p.2-val p.1)+lenP val X
def qgj(val:α→Rat)(f:α→Bool):List α→Rat
 |a::b::P=>(if f a=true then val b-val a else 0)+qgj val f (b::P)
 |_=>0
theorem qe5{f:α→Bool}:∀(P:List α),(∀c∈P,f c=false)→qgj val f P=0
 |[],_=>rfl
 |[_],_=>rfl
 |a::b::P,h=>by
  unfold qgj;rw[h a List.mem_cons_self,qe5 (b::P) (fun c hc=>h c (List.mem_cons_of_mem _ hc)),if_neg (by decide),Rat.add_zero]
theorem qh2{f g h k:α→Bool}:∀(P:List α),(∀c∈P,(h c=(f c||g c))∧(k c=(f c&&g c)))→qgj val h P+qgj val k P=qgj val f P+qgj val g P
 |[],_=>rfl
 |[_],_=>rfl
 |a::b::P,hh=>by
  unfold qgj;have ih:=qh2 (b::P) (fun c hc=>hh c (List.mem_cons_of_mem _ hc));obtain⟨h1,h2⟩:=hh a List.mem_cons_self;rw[h1,h2];cases f a<;>cases g a<;>simp<;>grind
theorem qsa(H:SWk lt)(hv:∀x y,Eqv lt x y→val x=val y){q:α}{f:α→Bool}:∀(P:List α) (b:α),(b::P).Pairwise lt→(∀c∈b::P,f c=decide (lt c q))→(∃c∈b::P,Eqv lt q c)→qgj val f (b::P)=val q-val b
 |[],b,_,_,hq=>by
  obtain⟨c,hc,he⟩:=hq;cases List.mem_singleton.1 hc
  rw[hv q _ he]
  show(0:Rat)=_
  grind
 |b'::P,b,hs,hf,hq=>by
  obtain⟨h1,h2⟩:=List.pairwise_cons.1 hs
  by_cases hb:lt b q
  ·have ih:=qsa H hv P b' h2 (fun c hc=>hf c (List.mem_cons_of_mem _ hc)) (by
    obtain⟨c,hc,he⟩:=hq;rcases List.mem_cons.1 hc with rfl|hc
    ·exact absurd hb he.2
    ·exact⟨c,hc,he⟩)
   unfold qgj;rw[ih,hf b List.mem_cons_self,if_pos (by simpa using hb)]
   grind
  ·have he:Eqv lt q b:=by
    obtain⟨c,hc,he⟩:=hq;refine⟨fun k=>?_,hb⟩
    rcases List.mem_cons.1 hc with rfl|hc
    ·exact he.1 k
    ·exact he.1 (H.tr k (h1 c hc))
   rw[hv q b he,qe5]
   ·grind
   ·intro c hc
    rw[hf c hc,decide_eq_false_iff_not];intro k;rcases List.mem_cons.1 hc with rfl|hc
    ·exact hb k
    ·exact hb (H.tr (h1 c hc) k)
theorem qnw(H:SWk lt)(hv:∀x y,Eqv lt x y→val x=val y){p q:α}(hpq:lt p q){f:α→Bool}:∀(P:List α),P.Pairwise lt→(∀c∈P,f c=(!decide (lt c p)&&decide (lt c q)))→(∃c∈P,Eqv lt p c)→(∃c∈P,Eqv lt q c)→qgj val f P=val q-val p
 |[],_,_,hp,_=>by
  obtain⟨c,hc,_⟩:=hp;cases hc
 |a::P,hs,hf,hp,hq=>by
  obtain⟨h1,h2⟩:=List.pairwise_cons.1 hs
  by_cases ha:lt a p
  ·obtain⟨c,hc,he⟩:=hp
   have hcP:c∈P:=by
    rcases List.mem_cons.1 hc with rfl|hc
    ·exact absurd ha he.2
    ·exact hc
   obtain⟨b,P',rfl⟩:∃b P',P=b::P':=by
    cases P with
    |nil=>cases hcP
    |cons b P'=>exact⟨b,P',rfl⟩
   have ih:=qnw H hv hpq (b::P') h2 (fun c hc=>hf c (List.mem_cons_of_mem _ hc)) ⟨c,hcP,he⟩ (by
    obtain⟨d,hd,hde⟩:=hq;rcases List.mem_cons.1 hd with rfl|hd
    ·exact absurd (H.tr ha hpq) hde.2
    ·exact⟨d,hd,hde⟩)
   unfold qgj;rw[ih,hf a List.mem_cons_self,decide_eq_true ha,if_neg (by simp),Rat.zero_add]
  ·have he:Eqv lt p a:=by
    obtain⟨c,hc,he⟩:=hp;refine⟨fun k=>?_,ha⟩
    rcases List.mem_cons.1 hc with rfl|hc
    ·exact he.1 k
    ·exact he.1 (H.tr k (h1 c hc))
   rw[hv p a he];refine qsa H hv P a hs (fun c hc=>?_) hq
   rw[hf c hc]
   have:¬lt c p:=fun k=>by
    rcases List.mem_cons.1 hc with rfl|hc
    ·exact ha k
    ·exact ha (H.tr (h1 c hc) k)
   rw[decide_eq_false this]
   rfl
def Covers(lt:α→α→Prop)(P:List α)(X:List (α × α)):Prop:=∀p∈X,(∃c∈P,Eqv lt p.1 c)∧∃c∈P,Eqv lt p.2 c
theorem qga(H:SWk lt)(hv:∀x y,Eqv lt x y→val x=val y){P:List α}(hP:P.Pairwise lt):∀(X:List (α × α)),IsSet lt X→Covers lt P X→qgj val (memB lt X) P=lenP val X
 |[],_,_=>qe5 _ (fun c _=>rfl)
 |p::X,hX,hc=>by
  have ih:=qga H hv hP X hX.tail (fun q hq=>hc q (List.mem_cons_of_mem _ hq));obtain⟨c1,c2⟩:=hc p List.mem_cons_self;have hp:=qnw H hv (hX.ne p List.mem_cons_self) (f:=fun c=>!decide (lt c p.1)&&decide (lt c p.2)) P hP (fun c _=>rfl) c1 c2;have hg:=(List.pairwise_cons.1 hX.gap).1
  have hadd:=qh2 (val:=val) (f:=fun c=>!decide (lt c p.1)&&decide (lt c p.2)) (g:=memB lt X) (h:=memB lt (p::X)) (k:=fun _=>false) P (fun c _=>⟨rfl,by
   cases hm:memB lt X c with
   |false=>rw[Bool.and_false]
   |true=>
    obtain⟨q,hq,h1,h2⟩:=qcf.1 hm;rw[Bool.and_true];have:¬lt c p.2:=fun k=>h1 (H.tr k (hg q hq))
    rw[decide_eq_false this,Bool.and_false]⟩)
  rw[qe5 (f:=fun _=>false) P (fun _ _=>rfl),Rat.add_zero,hp,ih]at hadd;rw[hadd]
  rfl
theorem qie(H:SWk lt):∀L:List α,∃P:List α,P.Pairwise lt∧∀c∈L,∃c'∈P,Eqv lt c c'
 |[]=>⟨[],List.Pairwise.nil,fun _ h=>by cases h⟩
 |a::L=>by
  obtain⟨P,hP,hc⟩:=qie H L
  by_cases he:∃c'∈P,Eqv lt a c'
  ·refine⟨P,hP,fun c h=>?_⟩
   rcases List.mem_cons.1 h with rfl|h
   ·exact he
   ·exact hc c h
  ·have hside:∀c∈P,lt c a∨lt a c:=fun c h=>Classical.byContradiction fun hn=>he ⟨c,h,fun k=>hn (.inr k),fun k=>hn (.inl k)⟩
   refine⟨P.filter (fun c=>decide (lt c a))++a::P.filter (fun c=>decide (lt a c)),?_,fun c h=>?_⟩
   ·refine List.pairwise_append.2 ⟨hP.filter _,List.pairwise_cons.2 ⟨fun c h=>by simpa using(List.mem_filter.1 h).2,hP.filter _⟩,fun x hx y hy=>?_⟩
    have hxa:lt x a:=by simpa using(List.mem_filter.1 hx).2
    rcases List.mem_cons.1 hy with rfl|hy
    ·exact hxa
    ·exact H.tr hxa (by simpa using(List.mem_filter.1 hy).2)
   ·have hup:∀c'∈P,c'∈P.filter (fun c=>decide (lt c a))++a::P.filter (fun c=>decide (lt a c)):=fun c' h'=>by
     rcases hside c' h' with k|k
     ·exact List.mem_append_left _ (List.mem_filter.2 ⟨h',by simpa using k⟩)
     ·exact List.mem_append_right _ (List.mem_cons_of_mem _ (List.mem_filter.2 ⟨h',by simpa using k⟩))
    rcases List.mem_cons.1 h with rfl|h
    ·exact⟨c,List.mem_append_right _ List.mem_cons_self,H.irr c,H.irr c⟩
    ·obtain⟨c',h',k⟩:=hc c h
     exact⟨c',hup c' h',k⟩
theorem qv8(H:SWk lt)(hv:∀x y,Eqv lt x y→val x=val y){A B U I:List (α × α)}(hA:IsSet lt A)(hB:IsSet lt B)(hU:IsSet lt U)(hI:IsSet lt I)
  (mU:∀c,Mem lt U c↔Mem lt A c∨Mem lt B c) (mI:∀c,Mem lt I c↔Mem lt A c∧Mem lt B c):lenP val U+lenP val I=lenP val A+lenP val B:=by
 obtain⟨P,hP,hc⟩:=qie H ((A++B++U++I).map Prod.fst++(A++B++U++I).map Prod.snd)
 have cov:∀X:List (α × α),(∀p∈X,p∈A++B++U++I)→Covers lt P X:=fun X hX p hp=>
  ⟨hc _ (List.mem_append_left _ (List.mem_map_of_mem (hX p hp))),hc _ (List.mem_append_right _ (List.mem_map_of_mem (hX p hp)))⟩
 rw[←qga H hv hP U hU (cov U fun p hp=>by simp[hp]),←qga H hv hP I hI (cov I fun p hp=>by simp[hp]),←qga H hv hP A hA (cov A fun p hp=>by simp[hp]),←qga H hv hP B hB (cov B fun p hp=>by simp[hp])];refine qh2 P fun c _=>⟨?_,?_⟩
 ·rw[Bool.eq_iff_iff,Bool.or_eq_true,qcf,qcf,qcf]
  exact mU c
 ·rw[Bool.eq_iff_iff,Bool.and_eq_true,qcf,qcf,qcf]
  exact mI c
end
section
variable {α:Type} {lt:α→α→Prop}
def MemL(lt:α→α→Prop)(X:List (α × α))(c:α):Prop:=∃p∈X,lt p.1 c∧¬lt p.2 c
theorem MemL.app{X Y:List (α × α)}{c:α}:MemL lt (X++Y) c↔MemL lt X c∨MemL lt Y c:=by
 constructor
 ·rintro⟨p,hp,h⟩
  exact(List.mem_append.1 hp).imp (fun k=>⟨p,k,h⟩) (fun k=>⟨p,k,h⟩)
 ·rintro(⟨p,hp,h⟩|⟨p,hp,h⟩)
  ·exact⟨p,List.mem_append_left _ hp,h⟩
  ·exact⟨p,List.mem_append_right _ hp,h⟩
theorem qnc(H:SWk lt){c p:α}(hp:lt p c):∀Y:List α,∃e,lt e c∧¬lt e p∧∀q∈Y,lt q c→¬lt e q
 |[]=>⟨p,hp,H.irr p,fun _ h=>by cases h⟩
 |q::Y=>by
  obtain⟨e,h1,h2,h3⟩:=qnc H hp Y
  by_cases hq:lt q c∧lt e q
  ·refine⟨q,hq.1,fun k=>h2 (H.tr hq.2 k),fun r hr hrc=>?_⟩
   rcases List.mem_cons.1 hr with rfl|hr
   ·exact H.irr r
   ·exact fun k=>h3 r hr hrc (H.tr hq.2 k)
  ·refine⟨e,h1,h2,fun r hr hrc=>?_⟩
   rcases List.mem_cons.1 hr with rfl|hr
   ·exact fun k=>hq ⟨hrc,k⟩
   ·exact h3 r hr hrc
theorem qqw(H:SWk lt){X Y:List (α × α)}(h:∀e,Mem lt X e→Mem lt Y e){c:α}:MemL lt X c→MemL lt Y c:=by
 rintro⟨p,hp,h1,h2⟩;obtain⟨e,e1,e2,e3⟩:=qnc H h1 (Y.map Prod.snd);obtain⟨q,hq,q1,q2⟩:=h e ⟨p,hp,e2,H.lt_le e1 h2⟩;exact⟨q,hq,H.lt_of_le q1 e1,fun k=>e3 q.2 (List.mem_map_of_mem hq) k q2⟩
def qem(X:List (α × α)):List α:=X.flatMap fun p=>[p.1,p.2]
theorem qe4:∀X:List (α × α),(qem X).length=2*X.length
 |[]=>rfl
 |p::X=>by
  show(qem X).length+2=_
  rw[qe4 X,List.length_cons]
  omega
theorem qiq{X:List (α × α)}{c:α}(h:c∈qem X):∃p∈X,c=p.1∨c=p.2:=by
 obtain⟨p,hp,hc⟩:=List.mem_flatMap.1 h;simp only[List.mem_cons,List.not_mem_nil,or_false]at hc;exact⟨p,hp,hc⟩
theorem qf7(H:SWk lt):∀X:List (α × α),IsSet lt X→(qem X).Pairwise lt
 |[],_=>List.Pairwise.nil
 |p::X,h=>by
  have hp:=h.ne p List.mem_cons_self;have hg:=(List.pairwise_cons.1 h.gap).1
  have hr:∀c∈qem X,lt p.2 c:=fun c hc=>by
   obtain⟨q,hq,rfl|rfl⟩:=qiq hc
   ·exact hg q hq
   ·exact H.tr (hg q hq) (h.ne q (List.mem_cons_of_mem _ hq))
  show(p.1::p.2::qem X).Pairwise lt
  refine List.pairwise_cons.2 ⟨fun c hc=>?_,List.pairwise_cons.2 ⟨hr,qf7 H X h.tail⟩⟩
  rcases List.mem_cons.1 hc with rfl|hc
  ·exact hp
  ·exact H.tr hp (hr c hc)
theorem qm2[DecidableEq α]:∀(l m:List α),l.Pairwise (·≠·)→(∀x∈l,x∈m)→l.length≤m.length
 |[],_,_,_=>Nat.zero_le _
 |x::l,m,h,hs=>by
  obtain⟨h1,h2⟩:=List.pairwise_cons.1 h;have hx:=hs x List.mem_cons_self;have:=qm2 l (m.erase x) h2 (fun y hy=>(List.mem_erase_of_ne (Ne.symm (h1 y hy))).2 (hs y (List.mem_cons_of_mem _ hy)));rw[List.length_erase_of_mem hx]at this;have:=List.length_pos_of_mem hx;rw[List.length_cons]
  omega
theorem qpn(H:SWk lt){X:List (α × α)}(h:IsSet lt X){M:List α}(hM:∀p∈X,p.1∈M∧p.2∈M):2*X.length≤M.length:=by
 haveI:DecidableEq α:=fun a b=>Classical.propDecidable (a=b)
 rw[←qe4];have hne:(qem X).Pairwise (·≠·):=(qf7 H X h).imp (fun {a b} (hab:lt a b) (e:a=b)=>H.irr b (by rw[e]at hab;exact hab));refine qm2 _ _ hne fun c hc=>?_
 obtain⟨p,hp,rfl|rfl⟩:=qiq hc
 ·exact(hM p hp).1
 ·exact(hM p hp).2
end
def RQs(w:World)(v:Value)(rs:List Rat):Prop:=∃rows:List (List Value),rows.length=rs.length∧Sl w 4 v rows∧∀(k:Nat) (row:List Value) (r:Rat),rows[k]?=some row→rs[k]?=some r→RQ w (.agg row.toArray) r
theorem RQs.open{w:World}{v:Value}{rs:List Rat}(h:RQs w v rs):∃a cap,v=.slice a rs.length cap∧rs.length≤cap∧cap≤maxLen:=by
 obtain⟨rows,hl,hS,-⟩:=h;rw[←hl];exact Sl.open hS
theorem RQs.at{w wr:World}{n cap:Nat}{a:Option Addr}{rs:List Rat}(h:RQs w (.slice a n cap) rs)(hb:Below w.heap.size w wr){k:Nat}(hk:k<n):
  ∃b off x e m c x' e' m' c' r,a=some ⟨b,off,none⟩∧rs[k]?=some r∧RQ wr (.agg #[.bool x,.slice e m c,.bool x',.slice e' m' c']) r∧wr.cell? ⟨b,off+k*4,none⟩=some (.bool x)∧wr.cell? ⟨b,off+k*4+1,none⟩=some (.slice e m c)∧wr.cell? ⟨b,off+k*4+2,none⟩=some (.bool x')∧wr.cell? ⟨b,off+k*4+3,none⟩=some (.slice e' m' c'):=by
 obtain⟨rows,hl,hS,hq⟩:=h;obtain⟨b,off,ha,hlt,row,hr,hc⟩:=Sl.row hS hb hk;have hkl:k<rs.length:=by rw[←hl];exact qhr hr
 obtain⟨x,e,m,c,x',e',m',c',he,hR⟩:=(hq k row _ hr (List.getElem?_eq_getElem hkl)).open
 have hrow:row=[.bool x,.slice e m c,.bool x',.slice e' m' c']:=by
  have:=congrArg Array.toList (Value.agg.inj he)
  simpa using this
 subst hrow;exact⟨b,off,x,e,m,c,x',e',m',c',_,ha,List.getElem?_eq_getElem hkl,hR.mono hb,hc 0 (by decide),hc 1 (by decide),hc 2 (by decide),hc 3 (by decide)⟩
def sumR(rs:List Rat):Rat:=rs.foldl (·+·) 0
theorem quc{K:Nat}:∀(l:List Rat) (r:Rat) (m:Nat),Sz m r→(∀x∈l,Sz K x)→Sz (m+l.length*(K+1)) (l.foldl (·+·) r)
 |[],_,_,h,_=>by simpa using h
 |x::l,r,m,h,hl=>by
  have h1:=quc l (r+x) (m+K+1) (h.add (hl x List.mem_cons_self)) (fun y hy=>hl y (List.mem_cons_of_mem _ hy));rw[List.foldl_cons,List.length_cons];refine h1.mono ?_
  rw[Nat.add_mul]
  omega
theorem qvu{K:Nat}{rs:List Rat}(hz:∀r∈rs,Sz K r)(k:Nat):Sz (1+k*(K+1)) (sumR (rs.take k)):=
 (quc (rs.take k) 0 1 ⟨by decide,by decide⟩ (fun x hx=>hz x (List.mem_of_mem_take hx))).mono (Nat.add_le_add_left (Nat.mul_le_mul_right _ (by rw[List.length_take];omega)) 1)
set_option maxRecDepth 10000 in
theorem qxx(v:Value)(rs:List Rat)(K:Nat)(w:World)(h:RQs w v rs)(hz:∀r∈rs,Sz K r)(hK:(rs.length+1)*(K+1)≤40000):Calls Tryz.prog 81 #[v] w (RetP (fun x w'=>RQ w' x (sumR rs)) w):=by
 have HA:=hI (fun(W:World) (u x:Value) (k:Nat) (r:Rat) (hr:rs[k]?=some r) (hu:RQ W u (sumR (rs.take k))) (hx:RQ W x r)=>show Calls Tryz.prog 58 #[u,x] W (RetP (fun y w'=>RQ w' y (sumR (rs.take (k+1)))) W)from by
  have e:sumR (rs.take (k+1))=sumR (rs.take k)+r:=by rw[qbd hr];unfold sumR;rw[List.foldl_append];rfl
  rw[e];have hk:=qhr hr;have h1:k*(K+1)≤rs.length*(K+1):=Nat.mul_le_mul_right _ (by omega);rw[Nat.add_mul]at hK
  exact qmp u x _ r (1+k*(K+1)) K W hu hx (qvu hz k) (hz r (List.mem_of_getElem? hr)) (by omega))
 have HF:=hI (show sumR (rs.take rs.length)=sumR rs by rw[List.take_length]);have H0:=hI (show sumR (rs.take 0)=0 from rfl);obtain⟨a,cap,rfl,hc1,hc2⟩:=h.open;unfold maxLen at hc2;have HX:=hI h;clear h hz hK;generalize rs.length=N at*;have HZ:=hI (fun W=>(show RQ W (.agg #[.bool false,.slice none 0 0,.bool false,.slice none 0 0]) 0 from⟨0,RatV.zero W,rfl⟩))
 go_enter Tryz.func81,Tryz.ntmps81
 go_wp2_with fail
 go_loopw [8] (fun i wr=>∃(k:Nat) (x:Bool) (e:Option Addr) (m c:Nat) (x':Bool) (e':Option Addr) (m' c':Nat),k≤N∧i=.int .i64 (k:Int)∧Below (w.alloc (.cells #[.bool false,.slice none 0 0,.bool false,.slice none 0 0] 77)).heap.size (w.alloc (.cells #[.bool false,.slice none 0 0,.bool false,.slice none 0 0] 77)) wr∧Blk wr (w.heap.size+1) #[.bool x,.slice e m c,.bool x',.slice e' m' c'] 77∧Hid (RQ wr (.agg #[.bool x,.slice e m c,.bool x',.slice e' m' c']) (sumR (rs.take k)))) (fun i _=>N-(intOf i).toNat)
 case atStart=>
  refine⟨0,false,none,0,0,false,none,0,0,by omega,rfl,qac _ _,?_,by rw[H0.out];exact HZ.out _⟩
  have h:=Blk.new (w.alloc (.cells #[.bool false,.slice none 0 0,.bool false,.slice none 0 0] 77)) #[.bool false,.slice none 0 0,.bool false,.slice none 0 0] 77
  simpa using h
 case round=>
  obtain⟨k,x,e,m,c,x',e',m',c',hk,rfl,hbw,hblk,hq⟩:=hrel;have Hbw:=hI hbw;have Hblk:=hI hblk;have Hq:=hI hq.out;have hbx:=qaa (qac w (.cells #[.bool false,.slice none 0 0,.bool false,.slice none 0 0] 77)) hbw;have Hbx:=hI hbx;obtain⟨⟨q0,q1,q2,q3⟩,-⟩:=qam hblk;rcases Nat.lt_or_ge k N with hlt|hge
  ·obtain⟨b,off,y,d,p,g,y',d',p',g',r,rfl,hr,hR,z0,z1,z2,z3⟩:=HX.out.at hbx hlt
   have hkn:(k:Int)<(N:Int):=by omega
   have hk0:(0:Int)≤(k:Int):=Int.natCast_nonneg _;have hkw:IntKind.i64.wrap ((k:Int)+1)=(k:Int)+1:=IntWalk.i64_in _ (by omega);have HAx:=hI (fun W (hb:Below wr.heap.size wr W)=>HA.out W _ _ k r hr (Hq.out.mono hb) (hR.mono hb));obtain⟨⟨p0,p1,p2,p3⟩,-⟩:=qam (hblk.below (qac wr (.cells #[.bool y,.slice d p g,.bool y',.slice d' p' g'] 77)));clear hr hR hbw hblk hq hbx
   go_wp2_with (go_at_call 58;refine(HAx.out _ (qac wr _)).mono ?_;rintro z5 w5 ⟨v5,rfl,hv,hb5⟩;obtain⟨x5,a5,n5,c5,y5,e5,m5,d5,rfl,hv⟩:=hv.open;have hb6:=qaa (qac wr _) hb5;have hr:=Hblk.out.below hb6;obtain⟨⟨r0,r1,r2,r3⟩,f0,f1,f2,f3⟩:=qam hr;obtain⟨hv6,hb7⟩:=RQ.put4 hv hr;have Hv6:=hI hv6;have Hb7:=hI hb7;have Hbel:=hI (qap (b:=w.heap.size+1) (.bool x5) (.slice a5 n5 c5) (.bool y5) (.slice e5 m5 d5) (Hbw.out.via hb6 Hbw.out.size) (by simp));clear hv6 hb7 hr hv hb5 hb6)
   go_roundw
   case rel=>exact⟨k+1,x5,a5,n5,c5,y5,e5,m5,d5,by omega,by go_num,Hbel.out,Hb7.out,Hv6.out⟩
   case measure=>simp[intOf]<;>omega
  ·obtain rfl:k=N:=by omega
   have hkn:¬(k:Int)<(k:Int):=by omega
   have hres:=(Blk.new w #[.bool false,.slice none 0 0,.bool false,.slice none 0 0] 77).below hbw;obtain⟨⟨r0,r1,r2,r3⟩,f0,f1,f2,f3⟩:=qam hres;obtain⟨hv6,hb7⟩:=RQ.put4 (show RQ wr (.agg #[.bool x,.slice e m c,.bool x',.slice e' m' c']) (sumR rs)from by rw[←HF.out];exact Hq.out) hres;have Hv6:=hI hv6;have Hb7:=hI hb7;have Hbel:=hI (qap (b:=w.heap.size) (.bool x) (.slice e m c) (.bool x') (.slice e' m' c') hbx (Nat.le_refl _));clear hv6 hb7 hres hbw hblk hq hbx
   go_wp2_with fail
   obtain⟨⟨s0,s1,s2,s3⟩,-⟩:=qam Hb7.out;exact bodyPost_ret (v:=.agg #[.bool x,.slice e m c,.bool x',.slice e' m' c']) (by simp[results,Tryz.results81,go_sem,s0,s1,s2,s3]) rfl ⟨_,rfl,Hv6.out,Hbel.out⟩
theorem qq2{n:ByteArray}{s:Int}(hs:s=1∨s=-1):(qd5 n 2 s).b≠0:=by
 unfold qd5;rw[if_pos rfl]
 show -s≠0
 omega
theorem qg4{n:ByteArray}{k s:Int}(hk:k≠2):(qd5 n k s).b=0∧(qd5 n k s).s=n:=by
 unfold qd5;rw[if_neg hk];exact⟨rfl,rfl⟩
end Go.Proofs.YtacihodamichhaaGreatDoor
