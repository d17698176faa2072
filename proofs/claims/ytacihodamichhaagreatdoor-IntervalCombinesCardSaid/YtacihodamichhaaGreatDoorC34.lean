/- Parts of the proof. -/
import Derived.Test.YtacihodamichhaaGreatDoorC25
namespace Go.Proofs.YtacihodamichhaaGreatDoor
open Go.RowKit
def ddN(P:List GC):Nat→List GC
 |0=>[]
 |1=>P.take 1
 |n+2=>match P[n+1]?,P[n]? with
  |some x,some y=>if cmpG x.c y.c=0 then ddN P (n+1)else ddN P (n+1)++[x]
  |_,_=>ddN P (n+1)
theorem qks{P:List GC}{n:Nat}{x y:GC}(hx:P[n+1]?=some x)(hy:P[n]?=some y):ddN P (n+2)=if cmpG x.c y.c=0 then ddN P (n+1)else ddN P (n+1)++[x]:=by
 rw[ddN,hx,hy]
theorem qpq{x y z:Cut}(h:cmpG x y=0)(k:cmpG y z=0):cmpG x z=0:=by
 rw[qjw]at*;exact⟨qcn.ntr h.1 k.1,qcn.ntr k.2 h.2⟩
theorem qr8{x y:Cut}(h:cmpG x y=0):cmpG y x=0:=by rw[qly x y,h];rfl
structure DdOk(P:List GC)(n:Nat):Prop where
 last:∀y,P[n]?=some y→∃z,(ddN P (n+1)).getLast?=some z∧cmpG z.c y.c=0
 strict:((ddN P (n+1)).map GC.c).Pairwise CG
 sub:∀k∈ddN P (n+1),k∈P
 cover:∀k∈P.take (n+1),∃k'∈ddN P (n+1),cmpG k.c k'.c=0
 len:(ddN P (n+1)).length≤n+1
 pos:0<(ddN P (n+1)).length
theorem qur{P:List GC}(hs:(P.map GC.c).Pairwise fun x y=>¬CG y x):∀n,n<P.length→DdOk P n
 |0,h=>by
  obtain⟨a,r,rfl⟩:∃a r,P=a::r:=by
   cases P with
   |nil=>simp at h
   |cons a r=>exact⟨a,r,rfl⟩
  refine⟨fun y hy=>?_,?_,?_,?_,by simp[ddN],by simp[ddN]⟩
  ·cases hy
   exact⟨a,by simp[ddN],qee _⟩
  ·simp[ddN]
  ·intro k hk
   simp[ddN]at hk;rw[hk];exact List.mem_cons_self ..
  ·intro k hk
   exact⟨k,by simpa[ddN]using hk,qee _⟩
 |n+1,h=>by
  have ih:=qur hs n (by omega);obtain⟨x,hx⟩:∃x,P[n+1]?=some x:=⟨_,List.getElem?_eq_getElem h⟩
  obtain⟨y,hy⟩:∃y,P[n]?=some y:=⟨_,List.getElem?_eq_getElem (by omega)⟩
  have ht:P.take (n+1+1)=P.take (n+1)++[x]:=by
   rw[List.take_add_one,hx];rfl
  obtain⟨z,hz,hzy⟩:=ih.last y hy;have hd:=qks hx hy
  by_cases he:cmpG x.c y.c=0
  ·rw[if_pos he]at hd
   refine⟨fun y' hy'=>?_,by rw[hd];exact ih.strict,by rw[hd];exact ih.sub,fun k hk=>?_,by rw[hd];exact Nat.le_succ_of_le ih.len,by rw[hd];exact ih.pos⟩
   ·rw[hx]at hy'
    cases hy'
    exact⟨z,by rw[hd];exact hz,qpq hzy (qr8 he)⟩
   ·rw[hd]
    rw[ht]at hk;rcases List.mem_append.1 hk with hk|hk
    ·exact ih.cover k hk
    ·cases List.mem_singleton.1 hk
     exact⟨z,List.mem_of_getLast? hz,qpq he (qr8 hzy)⟩
  ·rw[if_neg he]at hd
   have hle:¬CG x.c y.c:=by
    have h1:(P.map GC.c)[n]?=some y.c:=by rw[List.getElem?_map,hy];rfl
    have h2:(P.map GC.c)[n+1]?=some x.c:=by rw[List.getElem?_map,hx];rfl
    obtain⟨g1,e1⟩:=List.getElem?_eq_some_iff.1 h1;obtain⟨g2,e2⟩:=List.getElem?_eq_some_iff.1 h2;have:=List.pairwise_iff_getElem.1 hs n (n+1) g1 g2 (Nat.lt_succ_self n)
    rwa [e1,e2]at this
   have hyx:CG y.c x.c:=by
    have:=@qf0 y.c x.c;have h0:=qr9.1 hle;rw[←qf0];omega
   have hzx:CG z.c x.c:=qcn.lt_of_le (qjw.1 hzy).2 hyx;refine⟨fun y' hy'=>?_,?_,fun k hk=>?_,fun k hk=>?_,by rw[hd,List.length_append];have:=ih.len;simp;omega,by rw[hd,List.length_append];simp⟩
   ·rw[hx]at hy'
    cases hy'
    exact⟨x,by rw[hd];simp,qee _⟩
   ·rw[hd,List.map_append,List.pairwise_append]
    refine⟨ih.strict,by simp,fun a ha b hb=>?_⟩
    obtain rfl:b=x.c:=by simpa using hb
    obtain⟨k,hk,rfl⟩:=List.mem_map.1 ha
    have hsn:ddN P (n+1)=(ddN P (n+1)).dropLast++[z]:=by
     have hne:ddN P (n+1)≠[]:=fun e=>by rw[e]at hz;cases hz
     rw[List.getLast?_eq_some_getLast hne]at hz;rw[←Option.some.inj hz];exact(List.dropLast_concat_getLast hne).symm
    have hst:=ih.strict;rw[hsn]at hk;rw[hsn,List.map_append,List.pairwise_append]at hst;rcases List.mem_append.1 hk with hk|hk
    ·exact qcn.tr (hst.2.2 k.c (List.mem_map_of_mem hk) z.c (by simp)) hzx
    ·cases List.mem_singleton.1 hk
     exact hzx
   ·rw[hd]at hk
    rcases List.mem_append.1 hk with hk|hk
    ·exact ih.sub k hk
    ·cases List.mem_singleton.1 hk
     exact List.mem_of_getElem? hx
   ·rw[ht]at hk
    rw[hd];rcases List.mem_append.1 hk with hk|hk
    ·obtain⟨k',h1,h2⟩:=ih.cover k hk
     exact⟨k',List.mem_append_left _ h1,h2⟩
    ·cases List.mem_singleton.1 hk
     exact⟨x,List.mem_append_right _ (List.mem_singleton.2 rfl),qee _⟩
end Go.Proofs.YtacihodamichhaaGreatDoor
