/- Parts of the proof. -/
import Derived.Test.YtacihodamichhaaGreatDoorU05
namespace Go.Proofs.YtacihodamichhaaGreatDoor
open Go.RowKit
structure SWk{α:Type}(lt:α→α→Prop):Prop where
 irr:∀x,¬lt x x
 tr:∀{x y z},lt x y→lt y z→lt x z
 ntr:∀{x y z},¬lt x y→¬lt y z→¬lt x z
theorem SWk.asym{α:Type}{lt:α→α→Prop}(H:SWk lt){x y:α}(h:lt x y):¬lt y x:=fun k=>H.irr _ (H.tr h k)
theorem SWk.lt_of_le{α:Type}{lt:α→α→Prop}(H:SWk lt){x y z:α}(h:¬lt y x)(k:lt y z):lt x z:=Classical.byContradiction fun hn=>by
 have h1:¬lt y z:=H.ntr h hn;exact h1 k
theorem SWk.lt_le{α:Type}{lt:α→α→Prop}(H:SWk lt){x y z:α}(h:lt x y)(k:¬lt z y):lt x z:=Classical.byContradiction fun hn=>by
 have h1:¬lt x y:=H.ntr hn k;exact h1 h
def Mem{α:Type}(lt:α→α→Prop)(X:List (α × α))(c:α):Prop:=∃p∈X,¬lt c p.1∧lt c p.2
structure IsSet{α:Type}(lt:α→α→Prop)(X:List (α × α)):Prop where
 ne:∀p∈X,lt p.1 p.2
 gap:X.Pairwise fun p q=>lt p.2 q.1
theorem Mem.nil{α:Type}{lt:α→α→Prop}{c:α}:¬Mem lt [] c:=fun⟨_,h,_⟩=>by cases h
theorem Mem.cons{α:Type}{lt:α→α→Prop}{p:α × α}{X:List (α × α)}{c:α}:Mem lt (p::X) c↔(¬lt c p.1∧lt c p.2)∨Mem lt X c:=by
 unfold Mem;simp
theorem Mem.app{α:Type}{lt:α→α→Prop}{X Y:List (α × α)}{c:α}:Mem lt (X++Y) c↔Mem lt X c∨Mem lt Y c:=by
 unfold Mem;simp only[List.mem_append];exact⟨fun⟨p,h,k⟩=>h.elim (fun h=>.inl ⟨p,h,k⟩) (fun h=>.inr ⟨p,h,k⟩),fun h=>h.elim (fun⟨p,h,k⟩=>⟨p,.inl h,k⟩) (fun⟨p,h,k⟩=>⟨p,.inr h,k⟩)⟩
theorem IsSet.nil{α:Type}{lt:α→α→Prop}:IsSet lt ([]:List (α × α)):=⟨fun _ h=>(by cases h),List.Pairwise.nil⟩
theorem IsSet.tail{α:Type}{lt:α→α→Prop}{p:α × α}{X:List (α × α)}(h:IsSet lt (p::X)):IsSet lt X:=⟨fun q hq=>h.ne q (List.mem_cons_of_mem _ hq),(List.pairwise_cons.1 h.gap).2⟩
theorem IsSet.uniq{α:Type}{lt:α→α→Prop}(H:SWk lt)(P:α→Prop)(anti:∀x y,P x→P y→¬lt x y→¬lt y x→x=y):∀{X Y:List (α × α)},IsSet lt X→IsSet lt Y→(∀p∈X,P p.1∧P p.2)→(∀p∈Y,P p.1∧P p.2)→(∀c,P c→(Mem lt X c↔Mem lt Y c))→X=Y
 |[],[],_,_,_,_,_=>rfl
 |[],q::Y,_,hY,_,pY,h=>by
  have hq:=hY.ne q (List.mem_cons_self ..);exact absurd ((h q.1 (pY q (List.mem_cons_self ..)).1).2 (Mem.cons.2 (.inl ⟨H.irr _,hq⟩))) Mem.nil
 |p::X,[],hX,_,pX,_,h=>by
  have hq:=hX.ne p (List.mem_cons_self ..);exact absurd ((h p.1 (pX p (List.mem_cons_self ..)).1).1 (Mem.cons.2 (.inl ⟨H.irr _,hq⟩))) Mem.nil
 |p::X,q::Y,hX,hY,pX,pY,h=>by
  have hp:=hX.ne p (List.mem_cons_self ..);have hq:=hY.ne q (List.mem_cons_self ..);obtain⟨pp1,pp2⟩:=pX p (List.mem_cons_self ..);obtain⟨pq1,pq2⟩:=pY q (List.mem_cons_self ..);have gX:=(List.pairwise_cons.1 hX.gap).1;have gY:=(List.pairwise_cons.1 hY.gap).1
  -- the tail lies behind
  have tX:∀c,Mem lt X c→lt p.2 c:=fun c ⟨r,hr,h1,_⟩=>H.lt_le (gX r hr) h1
  have tY:∀c,Mem lt Y c→lt q.2 c:=fun c ⟨r,hr,h1,_⟩=>H.lt_le (gY r hr) h1
  have low1:¬lt p.1 q.1:=fun hl=>by
   rcases Mem.cons.1 ((h p.1 pp1).1 (Mem.cons.2 (.inl ⟨H.irr _,hp⟩)))with h1|h1
   ·exact h1.1 hl
   ·exact H.asym hl (H.tr hq (tY _ h1))
  have low2:¬lt q.1 p.1:=fun hl=>by
   rcases Mem.cons.1 ((h q.1 pq1).2 (Mem.cons.2 (.inl ⟨H.irr _,hq⟩)))with h1|h1
   ·exact h1.1 hl
   ·exact H.asym hl (H.tr hp (tX _ h1))
  have e1:p.1=q.1:=anti _ _ pp1 pq1 low1 low2
  have hi1:¬lt p.2 q.2:=fun hl=>by
   rcases Mem.cons.1 ((h p.2 pp2).2 (Mem.cons.2 (.inl ⟨fun h1=>H.asym h1 (e1▸hp),hl⟩)))with h1|h1
   ·exact H.irr _ h1.2
   ·exact H.irr _ (tX _ h1)
  have hi2:¬lt q.2 p.2:=fun hl=>by
   rcases Mem.cons.1 ((h q.2 pq2).1 (Mem.cons.2 (.inl ⟨fun h1=>H.asym h1 (e1▸hq),hl⟩)))with h1|h1
   ·exact H.irr _ h1.2
   ·exact H.irr _ (tY _ h1)
  have e2:p.2=q.2:=anti _ _ pp2 pq2 hi1 hi2;have e:p=q:=by cases p;cases q;simp only at e1 e2;rw[e1,e2]
  rw[e,IsSet.uniq H P anti hX.tail hY.tail (fun r hr=>pX r (List.mem_cons_of_mem _ hr)) (fun r hr=>pY r (List.mem_cons_of_mem _ hr)) (fun c hc=>⟨fun hm=>by
   rcases Mem.cons.1 ((h c hc).1 (Mem.cons.2 (.inr hm)))with h1|h1
   ·exact absurd (tX _ hm) (H.asym (e2▸h1.2))
   ·exact h1,fun hm=>by
   rcases Mem.cons.1 ((h c hc).2 (Mem.cons.2 (.inr hm)))with h1|h1
   ·exact absurd (tY _ hm) (H.asym (e2▸h1.2))
   ·exact h1⟩)]
def putR{α:Type}(lt:α→α→Prop)[DecidableRel lt](O:List (α × α))(p:α × α):List (α × α):=
 match O.getLast? with
 |none=>[p]
 |some q=>if lt q.2 p.1 then O++[p]else if lt q.2 p.2 then O.dropLast++[(q.1,p.2)]else O
def qdz{α:Type}(lt:α→α→Prop)[DecidableRel lt](l:List (α × α)):List (α × α):=l.foldl (putR lt) []
theorem qcn{β:Type}{O:List β}{q:β}(h:O.getLast?=some q):O=O.dropLast++[q]:=by
 obtain⟨ys,rfl⟩:=List.getLast?_eq_some_iff.1 h;rw[List.dropLast_concat]
theorem qd2{α:Type}{lt:α→α→Prop}{O:List (α × α)}{p:α × α}(h:IsSet lt O)(hp:lt p.1 p.2)(hg:∀q∈O,lt q.2 p.1):IsSet lt (O++[p]):=
 ⟨fun q hq=>by
  rcases List.mem_append.1 hq with h1|h1
  ·exact h.ne q h1
  ·cases List.mem_singleton.1 h1;exact hp,List.pairwise_append.2 ⟨h.gap,List.pairwise_singleton _ _,fun a ha b hb=>by cases List.mem_singleton.1 hb;exact hg a ha⟩⟩
theorem qip{α:Type}{lt:α→α→Prop}{O:List (α × α)}{p:α × α}(h:IsSet lt (O++[p])):IsSet lt O∧lt p.1 p.2∧∀q∈O,lt q.2 p.1:=
 ⟨⟨fun q hq=>h.ne q (List.mem_append_left _ hq),(List.pairwise_append.1 h.gap).1⟩,h.ne p (List.mem_append_right _ (List.mem_singleton.2 rfl)),fun q hq=>(List.pairwise_append.1 h.gap).2.2 q hq p (List.mem_singleton.2 rfl)⟩
theorem qvs{α:Type}{lt:α→α→Prop}[DecidableRel lt](H:SWk lt){O:List (α × α)}{p:α × α}(h:IsSet lt O)(hp:lt p.1 p.2)(hl:∀q∈O,¬lt p.1 q.1):
  IsSet lt (putR lt O p)∧(∀c,Mem lt (putR lt O p) c↔Mem lt O c∨(¬lt c p.1∧lt c p.2))∧∀q∈putR lt O p,¬lt p.1 q.1:=by
 unfold putR;cases e:O.getLast? with
 |none=>
  rw[List.getLast?_eq_none_iff]at e;subst e;refine⟨⟨fun q hq=>?_,List.pairwise_singleton _ _⟩,fun c=>?_,fun q hq=>?_⟩
  ·cases List.mem_singleton.1 hq;exact hp
  ·constructor
   ·intro hm
    rcases Mem.cons.1 hm with h1|h1
    ·exact .inr h1
    ·exact absurd h1 Mem.nil
   ·intro hm
    rcases hm with h1|h1
    ·exact absurd h1 Mem.nil
    ·exact Mem.cons.2 (.inl h1)
  ·cases List.mem_singleton.1 hq;exact H.irr _
 |some q=>
  have hO:=qcn e;generalize O.dropLast=I at hO;subst hO;obtain⟨hI,hq,hgI⟩:=qip h;have hlq:¬lt p.1 q.1:=hl q (List.mem_append_right _ (List.mem_singleton.2 rfl));dsimp only
  split
  ·rename_i h1
   refine⟨qd2 h hp fun r hr=>?_,fun c=>?_,fun r hr=>?_⟩
   ·rcases List.mem_append.1 hr with h2|h2
    ·exact H.tr (H.tr (hgI r h2) hq) h1
    ·cases List.mem_singleton.1 h2;exact h1
   ·rw[Mem.app (X:=I++[q])]
    exact or_congr Iff.rfl ⟨fun hm=>(Mem.cons.1 hm).elim id (fun h=>absurd h Mem.nil),fun hm=>Mem.cons.2 (.inl hm)⟩
   ·rcases List.mem_append.1 hr with h2|h2
    ·exact hl r h2
    ·cases List.mem_singleton.1 h2;exact H.irr _
  ·rename_i h1
   split
   ·rename_i h2
    refine⟨qd2 hI (H.tr hq h2) hgI,fun c=>?_,fun r hr=>?_⟩
    ·rw[Mem.app,Mem.app,Mem.cons,Mem.cons]
     have n1:=@Mem.nil α lt c
     constructor
     ·rintro(a|⟨a,b⟩|a)
      ·exact .inl (.inl a)
      ·by_cases hc:lt c q.2
       ·exact .inl (.inr (.inl ⟨a,hc⟩))
       ·exact .inr ⟨fun hh=>hc (H.lt_le hh h1),b⟩
      ·exact absurd a n1
     ·rintro((a|⟨a,b⟩|a)|⟨a,b⟩)
      ·exact .inl a
      ·exact .inr (.inl ⟨a,H.tr b h2⟩)
      ·exact absurd a n1
      ·exact .inr (.inl ⟨H.ntr a hlq,b⟩)
    ·rcases List.mem_append.1 hr with h3|h3
     ·exact hl r (List.mem_append_left _ h3)
     ·cases List.mem_singleton.1 h3;exact hlq
   ·rename_i h2
    refine⟨h,fun c=>?_,hl⟩
    constructor
    ·exact .inl
    ·rintro(a|⟨a,b⟩)
     ·exact a
     ·exact Mem.app.2 (.inr (Mem.cons.2 (.inl ⟨H.ntr a hlq,H.lt_le b h2⟩)))
theorem qhq{α:Type}{lt:α→α→Prop}[DecidableRel lt](H:SWk lt):∀(l O:List (α × α)),IsSet lt O→(∀p∈l,lt p.1 p.2)→l.Pairwise (fun p q=>¬lt q.1 p.1)→(∀p∈l,∀q∈O,¬lt p.1 q.1)→
  IsSet lt (l.foldl (putR lt) O)∧∀c,Mem lt (l.foldl (putR lt) O) c↔Mem lt O c∨Mem lt l c
 |[],O,hO,_,_,_=>⟨hO,fun c=>⟨.inl,fun h=>h.elim id fun h=>absurd h Mem.nil⟩⟩
 |p::l,O,hO,hne,hs,hlow=>by
  obtain⟨h1,h2,h3⟩:=qvs H hO (hne p (List.mem_cons_self ..)) (hlow p (List.mem_cons_self ..));obtain⟨k1,k2⟩:=qhq H l (putR lt O p) h1 (fun q hq=>hne q (List.mem_cons_of_mem _ hq)) (List.pairwise_cons.1 hs).2 (fun q hq r hr=>H.ntr ((List.pairwise_cons.1 hs).1 q hq) (h3 r hr));refine⟨k1,fun c=>?_⟩
  rw[List.foldl_cons,k2,h2,Mem.cons,or_assoc]
theorem qkj{α:Type}{lt:α→α→Prop}[DecidableRel lt](H:SWk lt){l:List (α × α)}(hne:∀p∈l,lt p.1 p.2)(hs:l.Pairwise (fun p q=>¬lt q.1 p.1)):IsSet lt (qdz lt l)∧∀c,Mem lt (qdz lt l) c↔Mem lt l c:=by
 obtain⟨h1,h2⟩:=qhq H l [] IsSet.nil hne hs (fun _ _ _ h=>by cases h);exact⟨h1,fun c=>by rw[qdz,h2];exact⟨fun h=>h.elim (fun h=>absurd h Mem.nil) id,.inr⟩⟩
theorem Mem.perm{α:Type}{lt:α→α→Prop}{X Y:List (α × α)}(h:X.Perm Y)(c:α):Mem lt X c↔Mem lt Y c:=⟨fun⟨p,hp,k⟩=>⟨p,h.mem_iff.1 hp,k⟩,fun⟨p,hp,k⟩=>⟨p,h.mem_iff.2 hp,k⟩⟩
theorem qgf{α:Type}{lt:α→α→Prop}[DecidableRel lt]{P:α→Prop}:∀(l O:List (α × α)),(∀p∈l,P p.1∧P p.2)→(∀p∈O,P p.1∧P p.2)→∀p∈l.foldl (putR lt) O,P p.1∧P p.2
 |[],_,_,hO=>hO
 |p::l,O,hl,hO=>by
  refine qgf l _ (fun q hq=>hl q (List.mem_cons_of_mem _ hq)) fun q hq=>?_
  have hp:=hl p (List.mem_cons_self ..);unfold putR at hq;cases e:O.getLast? with
  |none=>
   rw[e]at hq;cases List.mem_singleton.1 hq;exact hp
  |some r=>
   rw[e]at hq;have hr:=hO r (List.mem_of_getLast? e);dsimp only at hq
   split at hq
   ·rcases List.mem_append.1 hq with h|h
    ·exact hO q h
    ·cases List.mem_singleton.1 h;exact hp
   ·split at hq
    ·rcases List.mem_append.1 hq with h|h
     ·exact hO q (List.dropLast_subset _ h)
     ·cases List.mem_singleton.1 h;exact⟨hr.1,hp.2⟩
    ·exact hO q hq
theorem qbq{α:Type}{lt:α→α→Prop}[DecidableRel lt](H:SWk lt){X:List (α × α)}{c:α}:Mem lt (X.filter fun p=>decide (lt p.1 p.2)) c↔Mem lt X c:=by
 constructor
 ·rintro⟨p,hp,k⟩
  exact⟨p,(List.mem_filter.1 hp).1,k⟩
 ·rintro⟨p,hp,k1,k2⟩
  exact⟨p,List.mem_filter.2 ⟨hp,by simpa using H.lt_of_le k1 k2⟩,k1,k2⟩
def qf4{α:Type}(at_ en_:α):List (α × α)→List (α × α)
 |[]=>[(at_,en_)]
 |p::X=>(at_,p.1)::qf4 p.2 en_ X
theorem qjl{α:Type}{lt:α→α→Prop}(H:SWk lt)(en_:α):∀(X:List (α × α)) (a:α),IsSet lt X→(∀p∈X,¬lt p.1 a)→∀c,¬lt c a→lt c en_→(Mem lt (qf4 a en_ X) c↔¬Mem lt X c)
 |[],a,_,_,c,h1,h2=>⟨fun _ h=>absurd h Mem.nil,fun _=>Mem.cons.2 (.inl ⟨h1,h2⟩)⟩
 |p::X,a,hX,ha,c,h1,h2=>by
  have hp:=hX.ne p (List.mem_cons_self ..);have gX:=(List.pairwise_cons.1 hX.gap).1;rw[qf4,Mem.cons,Mem.cons]
  by_cases hc:lt c p.2
  ·-- ahead of the end of the first range: no later gap holds it
   have n1:¬Mem lt X c:=fun⟨r,hr,k1,_⟩=>H.asym hc (H.lt_le (gX r hr) k1)
   have n2:∀(Y:List (α × α)) (b:α),IsSet lt Y→(∀r∈Y,¬lt r.1 b)→lt c b→¬Mem lt (qf4 b en_ Y) c:=by
    intro Y
    induction Y with
    |nil=>
     intro b _ _ hb hm;rcases Mem.cons.1 hm with h|h
     ·exact h.1 hb
     ·exact Mem.nil h
    |cons q Y ih=>
     intro b hY hb' hb hm;rcases Mem.cons.1 hm with h|h
     ·exact h.1 hb
     ·have hq:=hY.ne q (List.mem_cons_self ..)
      have gY:=(List.pairwise_cons.1 hY.gap).1;exact ih q.2 hY.tail (fun r hr=>H.asym (gY r hr)) (H.tr (H.lt_le hb (hb' q (List.mem_cons_self ..))) hq) h
   have n2':=n2 X p.2 hX.tail (fun r hr=>H.asym (gX r hr)) hc
   by_cases hc1:lt c p.1
   ·exact⟨fun _ h=>h.elim (fun h=>h.1 hc1) n1,fun _=>.inl ⟨h1,hc1⟩⟩
   ·exact⟨fun h=>h.elim (fun h=>absurd h.2 hc1) (fun h=>absurd h n2'),fun h=>absurd (.inl ⟨hc1,hc⟩) h⟩
  ·rw[qjl H en_ X p.2 hX.tail (fun r hr=>H.asym (gX r hr)) c hc h2]
   constructor
   ·rintro(h|h)
    ·exact absurd (H.tr h.2 hp) hc
    ·rintro(k|k)
     ·exact hc k.2
     ·exact h k
   ·intro h
    exact .inr fun k=>h (.inr k)
theorem qjm{α:Type}{P:α→Prop}(en_:α)(hen:P en_):∀(X:List (α × α)) (a:α),P a→(∀p∈X,P p.1∧P p.2)→∀p∈qf4 a en_ X,P p.1∧P p.2
 |[],a,ha,_,p,hp=>by cases List.mem_singleton.1 hp;exact⟨ha,hen⟩
 |q::X,a,ha,hX,p,hp=>by
  rcases List.mem_cons.1 hp with rfl|h
  ·exact⟨ha,(hX q (List.mem_cons_self ..)).1⟩
  ·exact qjm en_ hen X q.2 (hX q (List.mem_cons_self ..)).2 (fun r hr=>hX r (List.mem_cons_of_mem _ hr)) p h
def qor{α:Type}(lt:α→α→Prop)[DecidableRel lt](p q:α × α):α × α:=(if lt p.1 q.1 then q.1 else p.1,if lt q.2 p.2 then q.2 else p.2)
def qdn{α:Type}(lt:α→α→Prop)[DecidableRel lt](X Y:List (α × α)):List (α × α):=(X.map fun p=>Y.map fun q=>qor lt p q).flatten
theorem qm4{α:Type}{lt:α→α→Prop}[DecidableRel lt](H:SWk lt)(X Y:List (α × α))(c:α):Mem lt (qdn lt X Y) c↔Mem lt X c∧Mem lt Y c:=by
 have hone:∀p q:α × α,(¬lt c (qor lt p q).1∧lt c (qor lt p q).2)↔(¬lt c p.1∧lt c p.2)∧(¬lt c q.1∧lt c q.2):=by
  intro p q;unfold qor;dsimp only
  by_cases h1:lt p.1 q.1<;>by_cases h2:lt q.2 p.2
  ·rw[if_pos h1,if_pos h2]
   exact⟨fun⟨a,b⟩=>⟨⟨fun k=>a (H.tr k h1),H.tr b h2⟩,a,b⟩,fun h=>h.2⟩
  ·rw[if_pos h1,if_neg h2]
   exact⟨fun⟨a,b⟩=>⟨⟨fun k=>a (H.tr k h1),b⟩,a,H.lt_le b h2⟩,fun h=>⟨h.2.1,h.1.2⟩⟩
  ·rw[if_neg h1,if_pos h2]
   exact⟨fun⟨a,b⟩=>⟨⟨a,H.tr b h2⟩,fun k=>a (H.lt_le k h1),b⟩,fun h=>⟨h.1.1,h.2.2⟩⟩
  ·rw[if_neg h1,if_neg h2]
   exact⟨fun⟨a,b⟩=>⟨⟨a,b⟩,fun k=>a (H.lt_le k h1),H.lt_le b h2⟩,fun h=>h.1⟩
 constructor
 ·rintro⟨r,hr,k⟩
  obtain⟨l,hl,hr⟩:=List.mem_flatten.1 hr;obtain⟨p,hp,rfl⟩:=List.mem_map.1 hl;obtain⟨q,hq,rfl⟩:=List.mem_map.1 hr;have:=(hone p q).1 k;exact⟨⟨p,hp,this.1⟩,⟨q,hq,this.2⟩⟩
 ·rintro⟨⟨p,hp,k1⟩,⟨q,hq,k2⟩⟩
  exact⟨qor lt p q,List.mem_flatten.2 ⟨_,List.mem_map.2 ⟨p,hp,rfl⟩,List.mem_map.2 ⟨q,hq,rfl⟩⟩,(hone p q).2 ⟨k1,k2⟩⟩
theorem qg2{α:Type}{lt:α→α→Prop}[DecidableRel lt]{P:α→Prop}{X Y:List (α × α)}(hX:∀p∈X,P p.1∧P p.2)(hY:∀p∈Y,P p.1∧P p.2):∀p∈qdn lt X Y,P p.1∧P p.2:=by
 intro r hr;obtain⟨l,hl,hr⟩:=List.mem_flatten.1 hr;obtain⟨p,hp,rfl⟩:=List.mem_map.1 hl;obtain⟨q,hq,rfl⟩:=List.mem_map.1 hr;unfold qor;dsimp only
 constructor
 ·split
  ·exact(hY q hq).1
  ·exact(hX p hp).1
 ·split
  ·exact(hY q hq).2
  ·exact(hX p hp).2
def qa4{α:Type}(lt:α→α→Prop)[DecidableRel lt](low:α):List (α × α)→List (α × α)
 |[]=>[]
 |p::r=>if lt low p.2 then p::r else qa4 lt low r
def begR{α:Type}(lt:α→α→Prop)[DecidableRel lt](low:α):List (α × α)→Bool
 |[]=>false
 |p::_=>decide (¬lt low p.1)
def putT{α:Type}(lt:α→α→Prop)[DecidableRel lt](O:List (α × α))(p:α × α):List (α × α):=
 match O.getLast? with
 |none=>O++[p]
 |some q=>if lt q.2 p.1∨lt p.1 q.2 then O++[p]else O.dropLast++[(q.1,p.2)]
def runR{α:Type}(lt:α→α→Prop)[DecidableRel lt](keep:Bool→Bool→Bool):List α→List (α × α)→List (α × α)→List (α × α)→List (α × α)
 |low::high::r,X,Y,O=>runR lt keep (high::r) (qa4 lt low X) (qa4 lt low Y) (if keep (begR lt low (qa4 lt low X)) (begR lt low (qa4 lt low Y))=true then putT lt O (low,high)else O)
 |[_],_,_,O=>O
 |[],_,_,O=>O
theorem qd4{α:Type}{lt:α→α→Prop}[DecidableRel lt](low:α):∀(X:List (α × α)),∃pre,X=pre++qa4 lt low X∧∀p∈pre,¬lt low p.2
 |[]=>⟨[],rfl,fun _ h=>(by cases h)⟩
 |p::X=>by
  unfold qa4
  split
  ·exact⟨[],rfl,fun _ h=>(by cases h)⟩
  ·rename_i h
   obtain⟨pre,h1,h2⟩:=qd4 (lt:=lt) low X
   exact⟨p::pre,by rw[List.cons_append,←h1],fun q hq=>by
    rcases List.mem_cons.1 hq with rfl|hq
    ·exact h
    ·exact h2 q hq⟩
theorem qen{α:Type}{lt:α→α→Prop}[DecidableRel lt](low:α){X:List (α × α)}(h:IsSet lt X):IsSet lt (qa4 lt low X):=by
 obtain⟨pre,h1,_⟩:=qd4 (lt:=lt) low X;refine⟨fun p hp=>h.ne p (h1▸List.mem_append_right _ hp),?_⟩
 have:=h.gap;rw[h1]at this;exact(List.pairwise_append.1 this).2.1
theorem qh0{α:Type}{lt:α→α→Prop}[DecidableRel lt](H:SWk lt)(low:α){X:List (α × α)}{c:α}(hc:¬lt c low):Mem lt (qa4 lt low X) c↔Mem lt X c:=by
 obtain⟨pre,h1,h2⟩:=qd4 (lt:=lt) low X
 constructor
 ·rintro⟨p,hp,k⟩
  exact⟨p,h1▸List.mem_append_right _ hp,k⟩
 ·rintro⟨p,hp,k1,k2⟩
  rw[h1]at hp;rcases List.mem_append.1 hp with h|h
  ·exact absurd (H.lt_of_le hc k2) (h2 p h)
  ·exact⟨p,h,k1,k2⟩
theorem qnz{α:Type}{lt:α→α→Prop}[DecidableRel lt](H:SWk lt){low high:α}{X:List (α × α)}(hX:IsSet lt X)(h1:∀p∈X,lt low p.1→¬lt p.1 high)(h2:∀p∈X,lt low p.2→¬lt p.2 high){c:α}(hc:¬lt c low)(hc2:lt c high):
  begR lt low (qa4 lt low X)=true↔Mem lt X c:=by
 rw[←qh0 H low hc];have hD:=qen low hX;obtain⟨pre,e,_⟩:=qd4 (lt:=lt) low X;have g1:∀p∈qa4 lt low X,lt low p.1→¬lt p.1 high:=fun p hp=>h1 p (e▸List.mem_append_right _ hp)
 have g2:∀p∈qa4 lt low X,lt low p.2→¬lt p.2 high:=fun p hp=>h2 p (e▸List.mem_append_right _ hp)
 have g3:∀p,(qa4 lt low X).head?=some p→lt low p.2:=by
  clear h1 h2 g1 g2 e hD hX
  induction X with
  |nil=>intro p hp;cases hp
  |cons q X ih=>
   intro p hp;unfold qa4 at hp
   split at hp
   ·cases hp;assumption
   ·exact ih p hp
 generalize qa4 lt low X=D at*;cases D with
 |nil=>exact⟨fun h=>(by cases h),fun h=>absurd h Mem.nil⟩
 |cons p D=>
  have l2:=g3 p rfl;have l3:=g2 p (List.mem_cons_self ..) l2;have hn:¬Mem lt D c:=fun⟨r,hr,k1,_⟩=>k1 (H.tr (H.lt_le hc2 l3) ((List.pairwise_cons.1 hD.gap).1 r hr))
  rw[Mem.cons];unfold begR;rw[decide_eq_true_iff]
  constructor
  ·intro h
   exact .inl ⟨H.ntr hc h,H.lt_le hc2 l3⟩
  ·rintro(⟨k1,k2⟩|k)
   ·intro hl
    exact k1 (H.lt_le hc2 (g1 p (List.mem_cons_self ..) hl))
   ·exact absurd k hn
theorem qvr{α:Type}{lt:α→α→Prop}[DecidableRel lt](H:SWk lt){O:List (α × α)}{p:α × α}(h:IsSet lt O)(hp:lt p.1 p.2)(hl:∀q∈O,¬lt p.1 q.2):
  IsSet lt (putT lt O p)∧(∀c,Mem lt (putT lt O p) c↔Mem lt O c∨(¬lt c p.1∧lt c p.2))∧∀q∈putT lt O p,¬lt p.2 q.2:=by
 have n1:=fun c=>@Mem.nil α lt c
 have hl2:∀q∈O,¬lt p.2 q.2:=fun q hq k=>hl q hq (H.tr hp k)
 unfold putT;cases e:O.getLast? with
 |none=>
  rw[List.getLast?_eq_none_iff]at e;subst e;refine⟨qd2 h hp (fun _ h=>by cases h),fun c=>?_,fun q hq=>?_⟩
  ·show Mem lt [p] c↔_
   rw[Mem.cons];exact⟨fun hm=>hm.elim .inr (fun k=>absurd k (n1 c)),fun hm=>hm.elim (fun k=>absurd k (n1 c)) .inl⟩
  ·cases List.mem_singleton.1 hq;exact H.irr _
 |some q=>
  have hO:=qcn e;generalize O.dropLast=I at hO;subst hO;obtain⟨hI,hq,hgI⟩:=qip h;have hlq:¬lt p.1 q.2:=hl q (List.mem_append_right _ (List.mem_singleton.2 rfl));dsimp only
  split
  ·rename_i h1
   have h1:lt q.2 p.1:=h1.elim id fun k=>absurd k hlq
   refine⟨qd2 h hp fun r hr=>?_,fun c=>?_,fun r hr=>?_⟩
   ·rcases List.mem_append.1 hr with h2|h2
    ·exact H.tr (H.tr (hgI r h2) hq) h1
    ·cases List.mem_singleton.1 h2;exact h1
   ·rw[Mem.app (X:=I++[q])]
    exact or_congr Iff.rfl ⟨fun hm=>(Mem.cons.1 hm).elim id (fun h=>absurd h Mem.nil),fun hm=>Mem.cons.2 (.inl hm)⟩
   ·rcases List.mem_append.1 hr with h2|h2
    ·exact hl2 r h2
    ·cases List.mem_singleton.1 h2;exact H.irr _
  ·rename_i h1
   have h1:¬lt q.2 p.1:=fun k=>h1 (.inl k)
   refine⟨qd2 hI (H.tr hq (H.lt_of_le hlq hp)) hgI,fun c=>?_,fun r hr=>?_⟩
   ·rw[Mem.app,Mem.app,Mem.cons,Mem.cons]
    constructor
    ·rintro(a|⟨a,b⟩|a)
     ·exact .inl (.inl a)
     ·by_cases hc:lt c q.2
      ·exact .inl (.inr (.inl ⟨a,hc⟩))
      ·exact .inr ⟨fun hh=>hc (H.lt_le hh h1),b⟩
     ·exact absurd a (n1 c)
    ·rintro((a|⟨a,b⟩|a)|⟨a,b⟩)
     ·exact .inl a
     ·exact .inr (.inl ⟨a,H.tr b (H.lt_of_le hlq hp)⟩)
     ·exact absurd a (n1 c)
     ·exact .inr (.inl ⟨fun k=>a (H.lt_le (H.tr k hq) hlq),b⟩)
   ·rcases List.mem_append.1 hr with h3|h3
    ·exact hl2 r (List.mem_append_left _ h3)
    ·cases List.mem_singleton.1 h3;exact H.irr _
def memB{α:Type}(lt:α→α→Prop)[DecidableRel lt](X:List (α × α))(c:α):Bool:=X.any fun p=>!decide (lt c p.1)&&decide (lt c p.2)
theorem qcf{α:Type}{lt:α→α→Prop}[DecidableRel lt]{X:List (α × α)}{c:α}:memB lt X c=true↔Mem lt X c:=by
 unfold memB Mem;simp
theorem qqx{α:Type}{lt:α→α→Prop}[DecidableRel lt]{X Y:List (α × α)}{c:α}(h:Mem lt X c↔Mem lt Y c):memB lt X c=memB lt Y c:=by
 rw[Bool.eq_iff_iff,qcf,qcf,h]
theorem qle{α:Type}{lt:α→α→Prop}[DecidableRel lt](H:SWk lt)(keep:Bool→Bool→Bool):∀(P:List α) (a:α) (X Y O:List (α × α)),(a::P).Pairwise lt→IsSet lt X→IsSet lt Y→IsSet lt O→(∀q∈O,¬lt a q.2)→
  (∀p∈X,(¬lt a p.1∨p.1∈P)∧(¬lt a p.2∨p.2∈P))→(∀p∈Y,(¬lt a p.1∨p.1∈P)∧(¬lt a p.2∨p.2∈P))→
  IsSet lt (runR lt keep (a::P) X Y O)∧∀c,Mem lt (runR lt keep (a::P) X Y O) c↔Mem lt O c∨(¬lt c a∧(∃z∈P,lt c z)∧keep (memB lt X c) (memB lt Y c)=true)
 |[],a,X,Y,O,_,_,_,hO,_,_,_=>⟨hO,fun c=>⟨.inl,fun h=>h.elim id fun⟨_,⟨_,hz,_⟩,_⟩=>by cases hz⟩⟩
 |b::P,a,X,Y,O,hP,hX,hY,hO,hOa,pX,pY=>by
  obtain⟨ha,hP'⟩:=List.pairwise_cons.1 hP;have hb:=(List.pairwise_cons.1 hP').1;have hab:=ha b (List.mem_cons_self ..)
  have near:∀x,(¬lt a x∨x∈b::P)→lt a x→¬lt x b:=by
   intro x hx hl;rcases hx with h|h
   ·exact absurd hl h
   ·rcases List.mem_cons.1 h with rfl|h
    ·exact H.irr _
    ·exact H.asym (hb x h)
  have far:∀x,(¬lt a x∨x∈b::P)→(¬lt b x∨x∈P):=by
   intro x hx;rcases hx with h|h
   ·exact .inl fun k=>h (H.tr hab k)
   ·rcases List.mem_cons.1 h with rfl|h
    ·exact .inl (H.irr _)
    ·exact .inr h
  have kX:∀c,¬lt c a→lt c b→begR lt a (qa4 lt a X)=memB lt X c:=fun c h1 h2=>by
   rw[Bool.eq_iff_iff,qcf];exact qnz H hX (fun p hp=>near _ (pX p hp).1) (fun p hp=>near _ (pX p hp).2) h1 h2
  have kY:∀c,¬lt c a→lt c b→begR lt a (qa4 lt a Y)=memB lt Y c:=fun c h1 h2=>by
   rw[Bool.eq_iff_iff,qcf];exact qnz H hY (fun p hp=>near _ (pY p hp).1) (fun p hp=>near _ (pY p hp).2) h1 h2
  have hput:=qvr (p:=(a,b)) H hO hab hOa;obtain⟨preX,eX,_⟩:=qd4 (lt:=lt) a X;obtain⟨preY,eY,_⟩:=qd4 (lt:=lt) a Y;have qX:∀p∈qa4 lt a X,(¬lt b p.1∨p.1∈P)∧(¬lt b p.2∨p.2∈P):=fun p hp=>⟨far _ (pX p (eX▸List.mem_append_right _ hp)).1,far _ (pX p (eX▸List.mem_append_right _ hp)).2⟩
  have qY:∀p∈qa4 lt a Y,(¬lt b p.1∨p.1∈P)∧(¬lt b p.2∨p.2∈P):=fun p hp=>⟨far _ (pY p (eY▸List.mem_append_right _ hp)).1,far _ (pY p (eY▸List.mem_append_right _ hp)).2⟩
  have hrun:runR lt keep (a::b::P) X Y O=runR lt keep (b::P) (qa4 lt a X) (qa4 lt a Y) (if keep (begR lt a (qa4 lt a X)) (begR lt a (qa4 lt a Y))=true then putT lt O (a,b)else O):=rfl;have mX:∀c,¬lt c a→memB lt (qa4 lt a X) c=memB lt X c:=fun c h=>qqx (qh0 H a h)
  have mY:∀c,¬lt c a→memB lt (qa4 lt a Y) c=memB lt Y c:=fun c h=>qqx (qh0 H a h)
  by_cases hk:keep (begR lt a (qa4 lt a X)) (begR lt a (qa4 lt a Y))=true
  ·rw[hrun,if_pos hk]
   obtain⟨r1,r2⟩:=qle H keep P b (qa4 lt a X) (qa4 lt a Y) (putT lt O (a,b)) hP' (qen a hX) (qen a hY) hput.1 hput.2.2 qX qY;refine⟨r1,fun c=>?_⟩
   rw[r2,hput.2.1]
   by_cases hca:lt c a
   ·constructor
    ·rintro((h|h)|h)
     ·exact .inl h
     ·exact absurd hca h.1
     ·exact absurd (H.tr hca hab) h.1
    ·rintro(h|h)
     ·exact .inl (.inl h)
     ·exact absurd hca h.1
   ·by_cases hcb:lt c b
    ·rw[kX c hca hcb,kY c hca hcb]at hk
     exact⟨fun h=>h.elim (fun h=>h.elim .inl fun _=>.inr ⟨hca,⟨b,List.mem_cons_self ..,hcb⟩,hk⟩) fun h=>absurd hcb h.1,fun h=>h.elim (fun h=>.inl (.inl h)) fun _=>.inl (.inr ⟨hca,hcb⟩)⟩
    ·rw[mX c hca,mY c hca]
     constructor
     ·rintro((h|h)|⟨h1,⟨z,hz,hcz⟩,h3⟩)
      ·exact .inl h
      ·exact absurd h.2 hcb
      ·exact .inr ⟨hca,⟨z,List.mem_cons_of_mem _ hz,hcz⟩,h3⟩
     ·rintro(h|⟨h1,⟨z,hz,hcz⟩,h3⟩)
      ·exact .inl (.inl h)
      ·rcases List.mem_cons.1 hz with rfl|hz
       ·exact absurd hcz hcb
       ·exact .inr ⟨hcb,⟨z,hz,hcz⟩,h3⟩
  ·rw[hrun,if_neg hk]
   obtain⟨r1,r2⟩:=qle H keep P b (qa4 lt a X) (qa4 lt a Y) O hP' (qen a hX) (qen a hY) hO (fun q hq k=>hOa q hq (H.tr hab k)) qX qY;refine⟨r1,fun c=>?_⟩
   rw[r2]
   by_cases hca:lt c a
   ·constructor
    ·rintro(h|h)
     ·exact .inl h
     ·exact absurd (H.tr hca hab) h.1
    ·rintro(h|h)
     ·exact .inl h
     ·exact absurd hca h.1
   ·by_cases hcb:lt c b
    ·rw[kX c hca hcb,kY c hca hcb]at hk
     exact⟨fun h=>h.elim .inl fun h=>absurd hcb h.1,fun h=>h.elim .inl fun h=>absurd h.2.2 hk⟩
    ·rw[mX c hca,mY c hca]
     constructor
     ·rintro(h|⟨h1,⟨z,hz,hcz⟩,h3⟩)
      ·exact .inl h
      ·exact .inr ⟨hca,⟨z,List.mem_cons_of_mem _ hz,hcz⟩,h3⟩
     ·rintro(h|⟨h1,⟨z,hz,hcz⟩,h3⟩)
      ·exact .inl h
      ·rcases List.mem_cons.1 hz with rfl|hz
       ·exact absurd hcz hcb
       ·exact .inr ⟨hcb,⟨z,hz,hcz⟩,h3⟩
theorem qml{α:Type}{lt:α→α→Prop}[DecidableRel lt]{Q:α→Prop}(keep:Bool→Bool→Bool):∀(P:List α) (X Y O:List (α × α)),(∀a∈P,Q a)→(∀p∈O,Q p.1∧Q p.2)→∀p∈runR lt keep P X Y O,Q p.1∧Q p.2
 |[],_,_,_,_,hO=>hO
 |[_],_,_,_,_,hO=>hO
 |a::b::P,X,Y,O,hP,hO=>by
  have ha:=hP a (List.mem_cons_self ..);have hb:=hP b (List.mem_cons_of_mem _ (List.mem_cons_self ..));refine qml keep (b::P) (qa4 lt a X) (qa4 lt a Y) _ (fun x hx=>hP x (List.mem_cons_of_mem _ hx)) ?_
  split
  ·intro p hp
   unfold putT at hp;cases e:O.getLast? with
   |none=>
    rw[e]at hp;rcases List.mem_append.1 hp with h|h
    ·exact hO p h
    ·cases List.mem_singleton.1 h;exact⟨ha,hb⟩
   |some q=>
    rw[e]at hp;have hq:=hO q (List.mem_of_getLast? e);dsimp only at hp
    split at hp
    ·rcases List.mem_append.1 hp with h|h
     ·exact hO p h
     ·cases List.mem_singleton.1 h;exact⟨ha,hb⟩
    ·rcases List.mem_append.1 hp with h|h
     ·exact hO p (List.dropLast_subset _ h)
     ·cases List.mem_singleton.1 h;exact⟨hq.1,hb⟩
  ·exact hO
end Go.Proofs.YtacihodamichhaaGreatDoor
