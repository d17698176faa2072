/- Parts of the proof. -/
import Derived.Test.YtacihodamichhaaGreatDoorU10
import Derived.Test.YtacihodamichhaaGreatDoorU17
set_option maxHeartbeats 8000000
namespace Go.Proofs.YtacihodamichhaaGreatDoor
open Go.RowKit
theorem qso(a b:Option Addr)(n m ca cb:Nat)(x y:Nat)(w:World)(hA:Ds w (.slice a n ca) (D10.limbs x))(hB:Ds w (.slice b m cb) (D10.limbs y)):
  Calls Tryz.prog 121 #[.slice a n ca,.slice b m cb] w (RetD (.int .i64 (cmpN x y)) w):=by
 obtain⟨_,_,hq,ha1,ha2⟩:=hA.open;cases hq
 obtain⟨_,_,hq,hb1,hb2⟩:=hB.open;cases hq
 unfold maxLen at ha2 hb2;have HA:=hI hA;have HB:=hI hB;clear hA hB
 by_cases hl:(D10.limbs x).length=(D10.limbs y).length
 ·have Hl:=hI hl
  have hc:cmpN x y=cmpN (D10.natL (D10.limbs x)) (D10.natL (D10.limbs y)):=by rw[D10.qai,D10.qai]
  rw[hc];have HK:=hI (fun k (hk:k<(D10.limbs x).length) (hs:(D10.limbs x).drop (k+1)=(D10.limbs y).drop (k+1))=>And.intro (fun(h:(D10.limbs x).getD k 0<(D10.limbs y).getD k 0)=>D10.qf0 hl hk (D10.qal x) hs h) (fun(h:(D10.limbs y).getD k 0<(D10.limbs x).getD k 0)=>D10.qf0 hl.symm (hl▸hk) (D10.qal y) hs.symm h));generalize D10.limbs x=lx at*;generalize D10.limbs y=ly at*;generalize hn:lx.length=n at*;rw[←hl]at hb1;rw[←Hl.out];have Hn:=hI hn;have hB2:=HB.out;rw[←Hl.out]at hB2;clear HB;have HB:=hI hB2;clear hn hc hl hB2
  go_enter Tryz.func121,Tryz.ntmps121
  go_wp2_with fail
  go_loopw [5] (fun i wr=>∃k:Nat,k≤n∧i=.int .i64 ((k:Int)-1)∧BD w wr∧Hid (lx.drop k=ly.drop k)) (fun i _=>(intOf i+1).toNat)
  case atStart=>exact⟨n,Nat.le_refl _,rfl,BD.refl _,by unfold Hid;rw[List.drop_eq_nil_of_le (by rw[Hn.out];exact Nat.le_refl _),List.drop_eq_nil_of_le (by rw[←Hl.out];exact Nat.le_refl _)]⟩
  case round=>
   obtain⟨k,hk,rfl,hbw,hpre⟩:=hrel;rcases k with _|j
   ·have he:lx=ly:=by have:=hpre.out;rwa [List.drop_zero,List.drop_zero]at this
    have He:=hI he;clear he
    go_wp2_with fail
    go_ret
    exact⟨by rw[He.out];simp[cmpN],hbw⟩
   ·obtain⟨ba,oa,d,rfl,hd,c0⟩:=HA.out.at hbw.1 (show j<n by omega)
    obtain⟨bb,ob,e,rfl,he,d0⟩:=HB.out.at hbw.1 (show j<n by omega);have hij:((((j+1:Nat):Int)-1))=(j:Int):=by omega
    have hi64:IntKind.i64.wrap (j:Int)=j:=IntWalk.i64_in _ (by omega);have hi65:IntKind.i64.wrap ((j:Int)-1)=(j:Int)-1:=IntWalk.i64_in _ (by omega);have hj0:(0:Int)≤(j:Int):=Int.natCast_nonneg _;have hjn:(j:Int)<(n:Int):=by omega
    have Hd:=hI hd;have He:=hI he;rw[hij];clear hd he
    by_cases hde:d=e
    ·subst hde
     have hne:¬(d:Int)<(d:Int):=by omega
     go_wp2_with fail
     go_quiet (fail)
     go_wp2_with fail
     go_quiet (fail)
     go_wp2_with fail
     go_roundw
     case rel=>exact⟨j,by omega,by go_num,hbw.dn _,by unfold Hid;rw[List.drop_eq_getElem_cons (qbw Hd.out),List.drop_eq_getElem_cons (qbw He.out),hpre.out,qnn Hd.out,qnn He.out]⟩
     case measure=>simp[intOf]<;>omega
    ·have hk2:=HK.out j (by omega) hpre.out
     rw[qgh Hd.out,qgh He.out]at hk2;have Hk2:=hI hk2;clear hk2;rcases Nat.lt_or_ge d e with hlt|hge
     ·have hlt2:(d:Int)<(e:Int):=by omega
      have hfin:cmpN (D10.natL lx) (D10.natL ly)=-1:=by unfold cmpN;rw[if_pos (Hk2.out.1 hlt)]
      rw[hfin];clear hfin
      go_wp2_with fail
      go_quiet (fail)
      go_wp2_with fail
      go_ret
      exact⟨rfl,hbw.dn _⟩
     ·have hlt2:¬(d:Int)<(e:Int):=by omega
      have hlt3:(e:Int)<(d:Int):=by omega
      have hgt:=Hk2.out.2 (by omega);have hfin:cmpN (D10.natL lx) (D10.natL ly)=1:=by unfold cmpN;rw[if_neg (by omega),if_pos hgt]
      rw[hfin];clear hfin
      go_wp2_with fail
      go_quiet (fail)
      go_wp2_with fail
      go_quiet (fail)
      go_wp2_with fail
      go_ret
      exact⟨rfl,(hbw.dn _).dn _⟩
 ·have hne:(((D10.limbs x).length:Int)!=((D10.limbs y).length:Int))=true:=by simp;omega
  rcases Nat.lt_or_ge (D10.limbs x).length (D10.limbs y).length with hlt|hge
  ·have hfin:cmpN x y=-1:=by unfold cmpN;rw[if_pos (D10.qb6 hlt)]
   rw[hfin];generalize(D10.limbs x).length=n at*;generalize(D10.limbs y).length=m at*;have hlt2:(n:Int)<(m:Int):=by omega
   go_enter Tryz.func121,Tryz.ntmps121
   go_wp2_with fail
   go_ret
   exact⟨rfl,BD.refl _⟩
  ·have hgt:=D10.qb6 (show(D10.limbs y).length<(D10.limbs x).length by omega)
   have hfin:cmpN x y=1:=by unfold cmpN;rw[if_neg (by omega),if_pos hgt]
   rw[hfin];generalize(D10.limbs x).length=n at*;generalize(D10.limbs y).length=m at*;have hlt2:¬(n:Int)<(m:Int):=by omega
   go_enter Tryz.func121,Tryz.ntmps121
   go_wp2_with fail
   go_ret
   exact⟨rfl,BD.refl _⟩
theorem qg1(u v:Value)(x y:Nat)(w:World)(h:DgV w u x)(h':DgV w v y):Calls Tryz.prog 121 #[u,v] w (RetD (.int .i64 (cmpN x y)) w):=by
 obtain⟨a,c,rfl,hA⟩:=h;obtain⟨b,c',rfl,hB⟩:=h';exact qso a b _ _ c c' x y w hA hB
theorem qss{X Y D K bo:Nat}(h:X+K*bo=D+Y)(hb:bo≤1)(hY:Y≤X)(hD:D<K):D=X-Y:=by
 rcases Nat.eq_zero_or_pos bo with h0|h0
 ·subst h0;omega
 ·obtain rfl:bo=1:=by omega
  omega
theorem qck(l:List Nat)(x:Nat):(qb4 l).map (Value.int .i64)++[.int .i64 (x:Int)]=(qb4 (l++[x])).map (Value.int .i64):=by unfold qb4;simp
set_option maxRecDepth 20000 in
theorem qi4(u v:Value)(x y:Nat)(w:World)(h:DgV w u x)(h':DgV w v y)(hle:y≤x)(hf:qbe x):Calls Tryz.prog 139 #[u,v] w (RetP (fun r w'=>DgV w' r (x-y)∧qsg w.heap.size r) w):=by
 obtain⟨a,c,rfl,hA⟩:=h;obtain⟨b,c',rfl,hB⟩:=h';obtain⟨_,_,hq,ha1,ha2⟩:=hA.open;cases hq
 obtain⟨_,_,hq,hb1,hb2⟩:=hB.open;cases hq
 unfold maxLen at ha2 hb2;unfold qbe at hf;have hlen:=D10.qbx hle;have HA:=hI hA;have HB:=hI hB;have Hx:=hI (D10.qai x);have Hy:=hI (D10.qai y);have Hdx:=hI (D10.qal x);have Hdy:=hI (D10.qal y);have Hle:=hI hle;clear hA hB hle;generalize D10.limbs x=la at*;generalize D10.limbs y=lb at*;generalize hn:la.length=n at*;generalize hm:lb.length=m at*;have Hn:=hI hn;have Hm:=hI hm;clear hn hm;have HN:=hI (fun W:World=>World.ownsRow_nil W w.heap.size 3 1)
 go_enter Tryz.func139,Tryz.ntmps139
 go_wp2_with fail
 go_loopw [7,6,5,8] (fun i bv out _ wr=>∃(k bo:Nat) (done:List Nat),k≤n∧i=.int .i64 (k:Int)∧bv=.int .i64 (bo:Int)∧bo≤1∧Below w.heap.size w wr∧wr.ownsRow w.heap.size 3 1 out k ((qb4 done).map (Value.int .i64))∧Hid (done.length=k∧D10.Dg done∧D10.natL (la.take k)+10^k*bo=D10.natL done+D10.natL (lb.take k))) (fun i _ _ _ _=>n-(intOf i).toNat)
 case atStart=>exact⟨0,0,[],Nat.zero_le _,rfl,rfl,by decide,Below.refl _ _,HN.out _,rfl,(fun d hd=>by simp at hd),by simp[D10.natL]⟩
 case round=>
  obtain⟨k,bo,done,hk,rfl,rfl,hbo,hbw,hown,hpre⟩:=hrel;rcases Nat.lt_or_ge k n with hlt|hge
  ·obtain⟨b1,off,d,rfl,hdk,c0⟩:=HA.out.at hbw hlt
   have hd10:=Hdx.out d (List.mem_of_getElem? hdk);have Hdk:=hI hdk;have hkn:(k:Int)<(n:Int):=by omega
   have hkw:IntKind.i64.wrap ((k:Int)+1)=(k:Int)+1:=IntWalk.i64_in _ (by omega);have Hown:=hI hown;have Hbw:=hI hbw;have hs1:IntKind.i64.wrap ((d:Int)-(bo:Int))=(d:Int)-(bo:Int):=IntWalk.i64_in _ (by omega);clear hdk hown
   by_cases hkm:k<m
   ·obtain⟨b2,off2,e,rfl,hek,d0⟩:=HB.out.at hbw hkm
    have he10:=Hdy.out e (List.mem_of_getElem? hek);have hkm2:(k:Int)<(m:Int):=by omega
    have Htk:=hI (show D10.natL (lb.take (k+1))=D10.natL (lb.take k)+10^k*e from D10.qaj hek);have hs2:IntKind.i64.wrap ((d:Int)-(bo:Int)-(e:Int))=(d:Int)-(bo:Int)-(e:Int):=IntWalk.i64_in _ (by omega);clear hek hbw
    by_cases hX:((d:Int)-(bo:Int)-(e:Int))<0
    ·have hng:((d:Int)-(bo:Int)-(e:Int))<0:=by omega
     obtain⟨z,hz⟩:∃z:Nat,((d:Int)-(bo:Int)-(e:Int))+10=(z:Int):=⟨(((d:Int)-(bo:Int)-(e:Int))+10).toNat,by omega⟩
     have hz10:z<10:=by omega
     have hzw:IntKind.i64.wrap (z:Int)=(z:Int):=IntWalk.i64_in _ (by omega);have Hst:=hI (D10.qb3 (done:=done) (i:=k) (d:=d) (y:=e) (x:=z) (bo:=bo) (bo':=1) hpre.out.1 hpre.out.2.2 (by omega))
     go_wp2_with (at_builtin;refine qcv ED (by decide) [.int .i64 (z:Int)] rfl _ _ rfl w.heap.size _ _ _ rfl rfl Hown.out rfl (one1 _ rfl) (by omega) (by decide) Hbw.out.size ?_;intro v' w5 hown' hg';have Hbw3:=hI (qau Hbw.out Hown.out hg' Hbw.out.size);have Hown5:=hI hown';clear hown' hg')
     go_roundw
     case rel=>
      refine⟨k+1,1,done++[z],by omega,by go_num,rfl,by decide,Hbw3.out,by have h:=Hown5.out;rw[qck]at h;exact h,by rw[List.length_append,hpre.out.1];rfl,hpre.out.2.1.append (D10.Dg.one hz10),?_⟩
      rw[D10.qaj Hdk.out,Htk.out];exact Hst.out
     case measure=>simp[intOf]<;>omega
    ·have hng:¬((d:Int)-(bo:Int)-(e:Int))<0:=by omega
     obtain⟨z,hz⟩:∃z:Nat,((d:Int)-(bo:Int)-(e:Int))=(z:Int):=⟨(((d:Int)-(bo:Int)-(e:Int))).toNat,by omega⟩
     have hz10:z<10:=by omega
     have hzw:IntKind.i64.wrap (z:Int)=(z:Int):=IntWalk.i64_in _ (by omega);have Hst:=hI (D10.qb3 (done:=done) (i:=k) (d:=d) (y:=e) (x:=z) (bo:=bo) (bo':=0) hpre.out.1 hpre.out.2.2 (by omega))
     go_wp2_with (at_builtin;refine qcv ED (by decide) [.int .i64 (z:Int)] rfl _ _ rfl w.heap.size _ _ _ rfl rfl Hown.out rfl (one1 _ rfl) (by omega) (by decide) Hbw.out.size ?_;intro v' w5 hown' hg';have Hbw3:=hI (qau Hbw.out Hown.out hg' Hbw.out.size);have Hown5:=hI hown';clear hown' hg')
     go_roundw
     case rel=>
      refine⟨k+1,0,done++[z],by omega,by go_num,rfl,by decide,Hbw3.out,by have h:=Hown5.out;rw[qck]at h;exact h,by rw[List.length_append,hpre.out.1];rfl,hpre.out.2.1.append (D10.Dg.one hz10),?_⟩
      rw[D10.qaj Hdk.out,Htk.out];exact Hst.out
     case measure=>simp[intOf]<;>omega
   ·have hkm2:¬(k:Int)<(m:Int):=by omega
    have Htk:=hI (show D10.natL (lb.take (k+1))=D10.natL (lb.take k)+10^k*0 from by rw[List.take_of_length_le (by rw[Hm.out];omega),List.take_of_length_le (by rw[Hm.out];omega),Nat.mul_zero,Nat.add_zero]);clear hbw
    by_cases hX:((d:Int)-(bo:Int))<0
    ·have hng:((d:Int)-(bo:Int))<0:=by omega
     obtain⟨z,hz⟩:∃z:Nat,((d:Int)-(bo:Int))+10=(z:Int):=⟨(((d:Int)-(bo:Int))+10).toNat,by omega⟩
     have hz10:z<10:=by omega
     have hzw:IntKind.i64.wrap (z:Int)=(z:Int):=IntWalk.i64_in _ (by omega);have Hst:=hI (D10.qb3 (done:=done) (i:=k) (d:=d) (y:=0) (x:=z) (bo:=bo) (bo':=1) hpre.out.1 hpre.out.2.2 (by omega))
     go_wp2_with (at_builtin;refine qcv ED (by decide) [.int .i64 (z:Int)] rfl _ _ rfl w.heap.size _ _ _ rfl rfl Hown.out rfl (one1 _ rfl) (by omega) (by decide) Hbw.out.size ?_;intro v' w5 hown' hg';have Hbw3:=hI (qau Hbw.out Hown.out hg' Hbw.out.size);have Hown5:=hI hown';clear hown' hg')
     go_roundw
     case rel=>
      refine⟨k+1,1,done++[z],by omega,by go_num,rfl,by decide,Hbw3.out,by have h:=Hown5.out;rw[qck]at h;exact h,by rw[List.length_append,hpre.out.1];rfl,hpre.out.2.1.append (D10.Dg.one hz10),?_⟩
      rw[D10.qaj Hdk.out,Htk.out];exact Hst.out
     case measure=>simp[intOf]<;>omega
    ·have hng:¬((d:Int)-(bo:Int))<0:=by omega
     obtain⟨z,hz⟩:∃z:Nat,((d:Int)-(bo:Int))=(z:Int):=⟨(((d:Int)-(bo:Int))).toNat,by omega⟩
     have hz10:z<10:=by omega
     have hzw:IntKind.i64.wrap (z:Int)=(z:Int):=IntWalk.i64_in _ (by omega);have Hst:=hI (D10.qb3 (done:=done) (i:=k) (d:=d) (y:=0) (x:=z) (bo:=bo) (bo':=0) hpre.out.1 hpre.out.2.2 (by omega))
     go_wp2_with (at_builtin;refine qcv ED (by decide) [.int .i64 (z:Int)] rfl _ _ rfl w.heap.size _ _ _ rfl rfl Hown.out rfl (one1 _ rfl) (by omega) (by decide) Hbw.out.size ?_;intro v' w5 hown' hg';have Hbw3:=hI (qau Hbw.out Hown.out hg' Hbw.out.size);have Hown5:=hI hown';clear hown' hg')
     go_roundw
     case rel=>
      refine⟨k+1,0,done++[z],by omega,by go_num,rfl,by decide,Hbw3.out,by have h:=Hown5.out;rw[qck]at h;exact h,by rw[List.length_append,hpre.out.1];rfl,hpre.out.2.1.append (D10.Dg.one hz10),?_⟩
      rw[D10.qaj Hdk.out,Htk.out];exact Hst.out
     case measure=>simp[intOf]<;>omega
  ·obtain rfl:k=n:=by omega
   have hkn:¬(k:Int)<(k:Int):=by omega
   obtain⟨ao,co,rfl,hco,-⟩:=qas hown;have hD:=D10.qa7 hpre.out.2.1;rw[hpre.out.1]at hD;have hS:=hpre.out.2.2;rw[List.take_of_length_le (by rw[Hn.out];exact Nat.le_refl _),List.take_of_length_le (by rw[Hm.out];omega),Hx.out,Hy.out]at hS;have hfin:=qss hS hbo Hle.out hD;have HFr:=hI (show qsg w.heap.size (.slice ao (D10.limbs (D10.natL done)).length co)from fun q hq=>(hown.lt q (by cases ao<;>exact hq)).1);have HF:=hI (qfr ao k co done wr (by rw[←hpre.out.1]at hown⊢;exact Ds.own hown) hpre.out.2.1);rw[hfin]at HF HFr;have Hbw:=hI hbw;clear hown hbw hD hS hfin hpre
   go_wp2_with (go_at_call 157;refine(HF.out).mono ?_;rintro e w5 ⟨rfl,hv5,hb5⟩)
   go_ret
   exact⟨_,rfl,⟨⟨ao,co,rfl,Ds.mono hv5 hb5⟩,HFr.out⟩,Hbw.out.via hb5 Hbw.out.size⟩
theorem qfa{l:List UInt8}{q:Nat}{c:UInt8}(h:l[q]?=some c)(hq:q<(⟨l.toArray⟩:ByteArray).size):(⟨l.toArray⟩:ByteArray)[q]'hq=c:=by
 have hl:q<l.length:=by rw[Lib.size_eq]at hq;exact hq
 have e:(⟨l.toArray⟩:ByteArray)[q]'hq=l[q]'hl:=rfl;rw[e];rw[List.getElem?_eq_getElem hl]at h;exact Option.some.inj h
set_option maxRecDepth 20000 in
theorem qhe(p:List UInt8)(neg:Bool)(l:List UInt8)(w:World)(hl:l=if neg then 45::p else p)(hp:AllD p)(hlen:p.length≤30000):
  Calls Tryz.prog 118 #[.string ⟨l.toArray⟩] w (RetP (fun v w'=>DgV w' v (valD p)) w):=by
 have HT:=hI (fun w' (a:Option Addr) c (h:Ds w' (.slice a p.length c) (p.reverse.map dv))=>qps a p.length c (p.reverse.map dv) w' h (D10.qry hp));rw[D10.qfz]at HT;obtain⟨o,ho⟩:∃o,(if neg then 1 else 0:Nat)=o:=⟨_,rfl⟩
 have ho1:o≤1:=by rw[←ho];split<;>omega
 have hs:(⟨l.toArray⟩:ByteArray).size=p.length+o:=by
  rw[Lib.size_eq,hl,←ho];cases neg<;>simp
 have HC:=hI (fun(q j:Nat) (hqj:q+1+j=p.length+o)=>(show(j<p.length→∃c,l[q]?=some c∧isD c=true∧(p.reverse.map dv)[j]?=some (dv c))∧(¬j<p.length→l[q]?=some 45)from by
  constructor
  ·intro hj
   obtain⟨c,hc⟩:∃c,p[p.length-1-j]?=some c:=⟨p[p.length-1-j]'(by omega),by simp⟩
   refine⟨c,?_,hp c (List.mem_of_getElem? hc),?_⟩
   ·rw[hl]
    cases neg with
    |true=>
     have:o=1:=ho.symm;rw[if_pos rfl,show q=(p.length-1-j)+1 by omega,List.getElem?_cons_succ];exact hc
    |false=>
     have:o=0:=ho.symm;rw[if_neg (by decide),show q=p.length-1-j by omega];exact hc
   ·rw[List.getElem?_map,List.getElem?_reverse hj,hc]
    rfl
  ·intro hj
   rw[hl];cases neg with
   |true=>
    have:o=1:=ho.symm;rw[if_pos rfl,show q=0 by omega]
    rfl
   |false=>
    have:o=0:=ho.symm
    omega))
 have hlt:(p.reverse.map dv).length=p.length:=by simp
 have HX:=hI (fun(q:Nat) (c:UInt8) (h:l[q]?=some c)=>qfa h);generalize p.reverse.map dv=ds at*;generalize valD p=N at*;generalize hpl:p.length=n at*;generalize hS:(⟨l.toArray⟩:ByteArray)=S at*;have Hlt:=hI hlt;have HN:=hI (fun W:World=>World.ownsRow_nil W w.heap.size 3 1);have hw1:IntKind.i64.wrap (((n+o:Nat):Int)-1)=((n+o:Nat):Int)-1:=IntWalk.i64_in _ (by omega);clear hl hp ho hlt hpl hS;obtain⟨len,hlen2⟩:∃len,n+o=len:=⟨_,rfl⟩
 rw[hlen2]at hs hw1;have Hlen:=hI hlen2;clear hlen2
 go_enter Tryz.func118,Tryz.ntmps118
 go_wp2_with fail
 go_loopw [4,3] (fun i out wr=>∃r j:Nat,r+j=len∧i=.int .i64 ((r:Int)-1)∧Below w.heap.size w wr∧wr.ownsRow w.heap.size 3 1 out (min j n) ((qb4 (ds.take j)).map (Value.int .i64))) (fun i _ _=>(intOf i+1).toNat)
 case atStart=>exact⟨len,0,rfl,rfl,Below.refl _ _,by rw[Nat.zero_min];exact HN.out _⟩
 case round=>
  obtain⟨r,j,hrj,rfl,hbw,hown⟩:=hrel;have hlo:=Hlen.out;rcases r with _|q
  ·obtain⟨ao,co,rfl,hco,-⟩:=qas hown
   have hjn:min j n=n:=by omega
   rw[hjn]at hown;rw[List.take_of_length_le (by rw[Hlt.out];omega)]at hown;have HF:=hI (HT.out wr ao co (Ds.own hown));have Hbw:=hI hbw;clear hown hbw hlo hrj;rw[hjn]
   go_wp2_with (go_at_call 157;refine(HF.out).mono ?_;rintro e w5 ⟨v5,rfl,hv5,hb5⟩;obtain⟨a5,c5,rfl,hv5⟩:=hv5)
   go_ret
   exact⟨_,rfl,⟨a5,c5,rfl,hv5⟩,Hbw.out.via hb5 Hbw.out.size⟩
  ·have hij:((((q+1:Nat):Int)-1))=(q:Int):=by omega
   rw[hij];have hq0:(0:Int)≤(q:Int):=Int.natCast_nonneg _;have hq1:(q:Int)<(len:Int):=by omega
   have hqs:q<S.size:=by rw[hs];omega
   have hqw:IntKind.i64.wrap ((q:Int)-1)=(q:Int)-1:=IntWalk.i64_in _ (by omega)
   by_cases hj:j<n
   ·obtain⟨c,hc,hcd,hdj⟩:=(HC.out q j (by omega)).1 hj
    have hx:=HX.out q c hc hqs;obtain⟨cn,hcn⟩:∃cn,c.toNat=cn:=⟨_,rfl⟩
    have hcr:=qci.1 hcd;rw[hcn]at hcr;have hc1:((S[q]'hqs).toNat:Int)=(cn:Int):=by rw[hx,hcn]
    have hc2:((cn:Int)!=45)=true:=by simp;omega
    obtain⟨dd,hdd⟩:∃dd,dv c=dd:=⟨_,rfl⟩
    have hc3:IntKind.i64.wrap ((cn:Int)-48)=(dd:Int):=(IntWalk.i64_in _ (by omega)).trans (by unfold dv at hdd;omega);have hc4:(cn:Int)-48=(dd:Int):=by unfold dv at hdd;omega
    rw[hdd]at hdj;have hmin:min j n=j:=by omega
    rw[hmin]at hown
    have htk:(qb4 (ds.take j)).map (Value.int .i64)++[.int .i64 (dd:Int)]=(qb4 (ds.take (j+1))).map (Value.int .i64):=by
     rw[List.take_add_one,hdj];unfold qb4;simp
    have Htk:=hI htk;have Hown:=hI hown;have Hbw:=hI hbw;have Hrj:=hI (And.intro hrj hj);clear hc hcd hdj hx hcn hdd htk hown hbw hmin hlo hij hrj
    go_wp2_with (at_builtin;refine qcv ED (by decide) [.int .i64 (dd:Int)] rfl _ _ rfl w.heap.size _ _ _ rfl rfl Hown.out rfl (one1 _ rfl) (by omega) (by decide) Hbw.out.size ?_;intro v' w5 hown' hg';have Hbw3:=hI (qau Hbw.out Hown.out hg' Hbw.out.size);have Hown5:=hI hown';clear hown' hg')
    go_roundw
    case rel=>exact⟨q,j+1,by have:=Hrj.out.1;omega,by first|rfl|(congr 1),Hbw3.out,by have h:=Hown5.out;rw[Htk.out]at h;rw[show min (j+1) n=j+1 by have:=Hrj.out.2;omega];exact h⟩
    case measure=>simp[intOf]<;>omega
   ·have hc:=(HC.out q j (by omega)).2 hj
    have hx:=HX.out q 45 hc hqs;have hc1:((S[q]'hqs).toNat:Int)=45:=by rw[hx];rfl
    have Hown:=hI hown;have Hbw:=hI hbw;have Hrj:=hI (And.intro hrj hj);clear hc hx hown hbw hlo hij hrj
    go_wp2_with fail
    go_roundw
    case rel=>exact⟨q,j+1,by have:=Hrj.out.1;omega,by first|rfl|(congr 1),Hbw.out,by have h:=Hown.out;rw[List.take_of_length_le (by rw[Hlt.out];have:=Hrj.out.2;omega)]at h⊢;rw[show min (j+1) n=min j n by have:=Hrj.out.2;omega];exact h⟩
    case measure=>simp[intOf]<;>omega
theorem qc2:txtZ 0=[48]:=by
 unfold txtZ txtN txtD;rw[show(0:Int).natAbs=0 from rfl,D10.qah,if_pos rfl]
theorem ql8{m:List Nat}(h:m≠[]):∃x r,m.getLast?=some x∧qao m=UInt8.ofNat (48+x)::r:=by
 obtain⟨x,hx⟩:∃x,m.getLast?=some x:=by
  cases hl:m.getLast? with
  |none=>exact absurd (List.getLast?_eq_none_iff.1 hl) h
  |some x=>exact⟨x,rfl⟩
 obtain⟨i,hi⟩:=List.getLast?_eq_some_iff.1 hx;refine⟨x,qao i,hx,?_⟩
 rw[hi];unfold qao;simp
theorem qeh{z:Int}(h:z≠0):∃c r,txtZ z=c::r∧(z<0→c=45)∧(0<z→c≠45∧c≠48):=by
 have hm:D10.limbs z.natAbs≠[]:=fun e=>h (by have:=D10.qbs.1 e;omega)
 unfold txtZ txtN txtD;rw[if_neg hm]
 by_cases hz:z<0
 ·rw[decide_eq_true hz,if_pos rfl]
  exact⟨45,_,rfl,fun _=>rfl,fun h2=>by omega⟩
 ·rw[decide_eq_false hz,if_neg (by decide)]
  obtain⟨x,r,hx,hb⟩:=ql8 hm;rw[hb];have hx0:=D10.qgg hx;have hx10:=D10.qal _ x (List.mem_of_getLast? hx);have ht:(UInt8.ofNat (48+x)).toNat=48+x:=by rw[UInt8.toNat_ofNat'];omega
  refine⟨_,r,rfl,fun h2=>absurd h2 hz,fun _=>⟨fun e=>?_,fun e=>?_⟩⟩
  ·rw[e]at ht
   have:(45:UInt8).toNat=45:=rfl
   omega
  ·rw[e]at ht
   have:(48:UInt8).toNat=48:=rfl
   omega
theorem qbu(z:Int)(w:World):Calls Tryz.prog 120 #[.string ⟨(txtZ z).toArray⟩] w (Ret (.int .i64 z.sign) w):=by
 by_cases h0:z=0
 ·subst h0
  rw[qc2,show Int.sign 0=0 from rfl]
  go_enter Tryz.func120,Tryz.ntmps120
  go_wp2_with fail
  go_ret
  exact⟨rfl,Below.refl _ _⟩
 ·obtain⟨c,r,ht,hn,hp⟩:=qeh h0
  have hT:∀(h:0<(⟨(txtZ z).toArray⟩:ByteArray).size),(⟨(txtZ z).toArray⟩:ByteArray)[0]'h=c:=fun h=>qfa (by rw[ht];rfl) h
  have hs0:0<(⟨(txtZ z).toArray⟩:ByteArray).size:=by rw[Lib.size_eq,ht];simp
  have hx:=hT hs0
  have hne:((⟨(txtZ z).toArray⟩:ByteArray).toList==[48])=false:=by
   rw[ByteArray.toList_eq,beq_eq_false_iff_ne]
   show ¬txtZ z=[48]
   rw[ht];intro e;rcases Int.lt_or_gt_of_ne h0 with hz|hz
   ·rw[hn hz]at e
    exact absurd e (by simp)
   ·exact(hp hz).2 (List.cons.inj e).1
  generalize(⟨(txtZ z).toArray⟩:ByteArray)=S at*;rcases Int.lt_or_gt_of_ne h0 with hz|hz
  ·have hc:((S[0]'hs0).toNat:Int)=45:=by rw[hx,hn hz];rfl
   rw[Int.sign_eq_neg_one_of_neg hz];clear hT hx hn hp ht h0 hz
   go_enter Tryz.func120,Tryz.ntmps120
   go_wp2_with fail
   go_ret
   exact⟨rfl,Below.refl _ _⟩
  ·have hc:(((S[0]'hs0).toNat:Int)==45)=false:=by
    rw[hx,beq_eq_false_iff_ne];intro e;exact(hp hz).1 (UInt8.toNat_inj.1 (by have:(45:UInt8).toNat=45:=rfl;omega))
   rw[Int.sign_eq_one_of_pos hz];clear hT hx hn hp ht h0 hz
   go_enter Tryz.func120,Tryz.ntmps120
   go_wp2_with fail
   go_ret
   exact⟨rfl,Below.refl _ _⟩
theorem qbf(neg:Bool)(N:Nat)(w:World)(hf:qbe N):Calls Tryz.prog 118 #[.string ⟨(txtN neg N).toArray⟩] w (RetP (fun v w'=>DgV w' v N) w):=by
 obtain⟨p,h1,h2,h3,h4,h5⟩:=qfo neg N;unfold qbe at hf;rcases h4 with h4|h4
 ·rw[h4]
  have h:=qhe p false p w rfl h1 (by omega);rw[h3]at h;exact h
 ·rw[h4]
  have h:=qhe p true (45::p) w rfl h1 (by omega);rw[h3]at h;exact h
theorem qd8(z:Int):(z<0∧z.sign=-1)∨(z=0∧z.sign=0)∨(0<z∧z.sign=1):=by
 rcases Int.lt_trichotomy z 0 with h|h|h
 ·exact .inl ⟨h,Int.sign_eq_neg_one_of_neg h⟩
 ·exact .inr (.inl ⟨h,by rw[h];rfl⟩)
 ·exact .inr (.inr ⟨h,Int.sign_eq_one_of_pos h⟩)
theorem ql4{y z:Int}(h:y.sign<z.sign):cmpZ y z=-1:=by
 have a:=qd8 y;have b:=qd8 z;unfold cmpZ;rw[if_pos (by omega)]
theorem ql5{y z:Int}(h:z.sign<y.sign):cmpZ y z=1:=by
 have a:=qd8 y;have b:=qd8 z;unfold cmpZ;rw[if_neg (by omega),if_pos (by omega)]
theorem qk3{y z:Int}(h:y.sign=z.sign)(hn:y.sign<0):cmpZ y z=cmpN z.natAbs y.natAbs:=by
 have a:=qd8 y;have b:=qd8 z;unfold cmpZ cmpN
 split
 ·rw[if_pos (by omega)]
 ·split
  ·rw[if_neg (by omega),if_pos (by omega)]
  ·rw[if_neg (by omega),if_neg (by omega)]
theorem qk2{y z:Int}(h:y.sign=z.sign)(hn:¬y.sign<0):cmpZ y z=cmpN y.natAbs z.natAbs:=by
 have a:=qd8 y;have b:=qd8 z;unfold cmpZ cmpN
 split
 ·rw[if_pos (by omega)]
 ·split
  ·rw[if_neg (by omega),if_pos (by omega)]
  ·rw[if_neg (by omega),if_neg (by omega)]
theorem qsh(y z:Int)(w:World)(hy:qbe y.natAbs)(hz:qbe z.natAbs):Calls Tryz.prog 70 #[.string ⟨(txtZ y).toArray⟩,.string ⟨(txtZ z).toArray⟩] w (Ret (.int .i64 (cmpZ y z)) w):=by
 have H1:=hI (fun w'=>qbu y w');have H2:=hI (fun w'=>qbu z w');have H3:=hI (fun w'=>qbf (decide (y<0)) y.natAbs w' hy);have H4:=hI (fun w'=>qbf (decide (z<0)) z.natAbs w' hz);have H5:=hI (fun u v w' (hu:DgV w' u y.natAbs) (hv:DgV w' v z.natAbs)=>(qg1 u v y.natAbs z.natAbs w' hu hv).mono fun _ _ h=>h.ret);have H6:=hI (fun u v w' (hu:DgV w' u z.natAbs) (hv:DgV w' v y.natAbs)=>(qg1 u v z.natAbs y.natAbs w' hu hv).mono fun _ _ h=>h.ret)
 change Hid (∀w',Calls Tryz.prog 118 #[.string ⟨(txtZ y).toArray⟩] w' _)at H3
 change Hid (∀w',Calls Tryz.prog 118 #[.string ⟨(txtZ z).toArray⟩] w' _)at H4
 have e1:=@ql4 y z;have e2:=@ql5 y z;have e3:=@qk3 y z;have e4:=@qk2 y z;generalize cmpZ y z=R at*;generalize(⟨(txtZ y).toArray⟩:ByteArray)=Y at*;generalize(⟨(txtZ z).toArray⟩:ByteArray)=Z at*;generalize y.sign=a at*;generalize z.sign=b at*;generalize cmpN y.natAbs z.natAbs=P at*;generalize cmpN z.natAbs y.natAbs=N at*
 by_cases h1:a<b
 ·rw[e1 h1]
  clear e1 e2 e3 e4
  go_enter Tryz.func70,Tryz.ntmps70
  go_wp2_with (first
   |(have _t:=Hb1;clear _t;go_at_call 120;refine(H2.out _).mono ?_;rintro e w2 ⟨rfl,hb2⟩;have Hb2:=hI (qaa Hb1.out hb2);clear hb2)
   |(go_at_call 120;refine(H1.out _).mono ?_;rintro e w1 ⟨rfl,hb1⟩;have Hb1:=hI hb1;clear hb1))
  go_ret
  exact⟨rfl,Hb2.out⟩
 ·by_cases h2:b<a
  ·rw[e2 h2]
   clear e1 e2 e3 e4
   go_enter Tryz.func70,Tryz.ntmps70
   go_wp2_with (first
    |(have _t:=Hb1;clear _t;go_at_call 120;refine(H2.out _).mono ?_;rintro e w2 ⟨rfl,hb2⟩;have Hb2:=hI (qaa Hb1.out hb2);clear hb2)
    |(go_at_call 120;refine(H1.out _).mono ?_;rintro e w1 ⟨rfl,hb1⟩;have Hb1:=hI hb1;clear hb1))
   go_ret
   exact⟨rfl,Hb2.out⟩
  ·obtain rfl:a=b:=by omega
   by_cases h3:a<0
   ·rw[e3 rfl h3]
    clear e1 e2 e3 e4
    go_enter Tryz.func70,Tryz.ntmps70
    go_wp2_with (first
     |(have _t:=Hb1;clear _t;go_at_call 120;refine(H2.out _).mono ?_;rintro e w2 ⟨rfl,hb2⟩;have Hb2:=hI (qaa Hb1.out hb2);clear hb2)
     |(go_at_call 120;refine(H1.out _).mono ?_;rintro e w1 ⟨rfl,hb1⟩;have Hb1:=hI hb1;clear hb1)
     |(have _t:=HV3;clear _t;go_at_call 118;refine(H3.out _).mono ?_;rintro e w4 ⟨v4,rfl,hv4,hb4⟩;have HV4:=hI hv4;have HV3':=hI (HV3.out.mono hb4);have Hb4:=hI (qaa Hb3.out hb4);clear hv4 hb4)
     |(go_at_call 118;refine(H4.out _).mono ?_;rintro e w3 ⟨v3,rfl,hv3,hb3⟩;have HV3:=hI hv3;have Hb3:=hI (qaa Hb2.out hb3);clear hv3 hb3)
     |(go_at_call 121;refine(H6.out _ _ _ HV3'.out HV4.out).mono ?_;rintro e w5 ⟨rfl,hb5⟩))
    go_ret
    exact⟨rfl,qaa Hb4.out hb5⟩
   ·rw[e4 rfl h3]
    clear e1 e2 e3 e4
    go_enter Tryz.func70,Tryz.ntmps70
    go_wp2_with (first
     |(have _t:=Hb1;clear _t;go_at_call 120;refine(H2.out _).mono ?_;rintro e w2 ⟨rfl,hb2⟩;have Hb2:=hI (qaa Hb1.out hb2);clear hb2)
     |(go_at_call 120;refine(H1.out _).mono ?_;rintro e w1 ⟨rfl,hb1⟩;have Hb1:=hI hb1;clear hb1)
     |(have _t:=HV3;clear _t;go_at_call 118;refine(H4.out _).mono ?_;rintro e w4 ⟨v4,rfl,hv4,hb4⟩;have HV4:=hI hv4;have HV3':=hI (HV3.out.mono hb4);have Hb4:=hI (qaa Hb3.out hb4);clear hv4 hb4)
     |(go_at_call 118;refine(H3.out _).mono ?_;rintro e w3 ⟨v3,rfl,hv3,hb3⟩;have HV3:=hI hv3;have Hb3:=hI (qaa Hb2.out hb3);clear hv3 hb3)
     |(go_at_call 121;refine(H5.out _ _ _ HV3'.out HV4.out).mono ?_;rintro e w5 ⟨rfl,hb5⟩))
    go_ret
    exact⟨rfl,qaa Hb4.out hb5⟩
def dvs(l:List Nat):List Value:=(qb4 l).map (Value.int .i64)
def OI(M:Nat)(w:World)(g:Nat)(xs:List Nat):Prop:=w.ownsRow M 3 1 (.slice (some ⟨g,0,none⟩) xs.length xs.length) xs.length (dvs xs)
theorem OI.cell{M:Nat}{w:World}{g:Nat}{xs:List Nat}(h:OI M w g xs){i d:Nat}(hd:xs[i]?=some d):w.cell? ⟨g,i,none⟩=some (Value.int .i64 (d:Int))∧w.frozen? ⟨g,i,none⟩=false:=by
 constructor
 ·have hS:Ds w (.slice (some ⟨g,0,none⟩) xs.length xs.length) xs:=Sl.own1 h
  obtain⟨b,off,d',ha,hd',hc⟩:=hS.at (Below.refl _ _) (qbw hd);cases ha
  rw[hd]at hd';cases hd'
  rwa [Nat.zero_add]at hc
 ·rcases h.2 with⟨h1,h0⟩|⟨g',cap',cur,h1,hb,hg,_⟩
  ·cases h1
  ·cases h1
   exact frozen_of_row w g _ _ _ hg
theorem OI.set{M:Nat}{w:World}{g:Nat}{xs:List Nat}(h:OI M w g xs){i:Nat}(hi:i<xs.length)(d:Nat):OI M (w.setCell ⟨g,i,none⟩ (Value.int .i64 (d:Int))) g (xs.set i d):=by
 have h1:=qak h (i:=i) (by omega) (Value.int .i64 (d:Int));unfold OI;rw[List.length_set];have e:dvs (xs.set i d)=(dvs xs).set i (Value.int .i64 (d:Int)):=by unfold dvs qb4;rw[List.map_set,List.map_set]
 rw[e];exact h1
theorem OI.ls{M:Nat}{w:World}{g:Nat}{xs:List Nat}(h:OI M w g xs):Ds w (.slice (some ⟨g,0,none⟩) xs.length xs.length) xs:=Sl.own1 h
theorem OI.below{M:Nat}{w w':World}{g:Nat}{xs:List Nat}(h:OI M w g xs)(hb:Below w.heap.size w w'):OI M w' g xs:=qaf h hb
theorem qtf(n:Nat):(madeCells (Value.int .i64 0).cells (n*1)).toList=dvs (List.replicate n 0):=by
 simp only[madeCells,Value.cells,Nat.mul_one,dvs,qb4,List.map_replicate]
 apply List.ext_getElem<;>simp
 intro i hi;simp[Nat.mod_one]
theorem OI.made{M:Nat}{w:World}{g n:Nat}(h:w.ownsRow M 3 1 (.slice (some ⟨g,0,none⟩) n n) n (madeCells (Value.int .i64 0).cells (n*1)).toList):OI M w g (List.replicate n 0):=by
 rw[qtf]at h;unfold OI;rw[List.length_replicate];exact h
theorem OI.lt{M:Nat}{w:World}{g:Nat}{xs:List Nat}(h:OI M w g xs):g<w.heap.size:=(World.ownsRow.lt h g rfl).2
theorem OI.low{M:Nat}{w:World}{g n q:Nat}{done:List Nat}(h:OI M w g (List.replicate n 0++(q::done))):w.cell? ⟨g,n,none⟩=some (Value.int .i64 (q:Int))∧w.frozen? ⟨g,n,none⟩=false:=
 h.cell (by rw[List.getElem?_append_right (by simp),List.length_replicate,Nat.sub_self];rfl)
theorem OI.setLow{M:Nat}{w:World}{g n q:Nat}{done:List Nat}(h:OI M w g (List.replicate n 0++(q::done)))(d:Nat):OI M (w.setCell ⟨g,n,none⟩ (Value.int .i64 (d:Int))) g (List.replicate n 0++(d::done)):=by
 have:=h.set (i:=n) (by simp) d
 rwa [List.set_append_right _ _ (by simp),List.length_replicate,Nat.sub_self,List.set_cons_zero]at this
theorem qlk(w:World)(T:TypeId)(v:Value):(w.alloc (.cells #[v] T)).ownsRow w.heap.size T 1 (.slice (some ⟨w.heap.size,0,none⟩) 1 1) 1 [v]:=
 ⟨rfl,.inr ⟨w.heap.size,1,#[v],rfl,Nat.le_refl _,heap_alloc_new w _,Nat.le_refl _,by unfold maxLen;omega,rfl,rfl⟩⟩
theorem qwq{ops:Array Oper}{rest:List Oper}{o:Oper}{a:Act}{Q:Exit→Act→World→Prop}{W:World}(hgd:o.guard=none)(s x:Operand)(ho:o.op=.call { callee:=.builtin .append,args:=#[s,x],argTypes:=#[135,135] })
  (B g d:Nat) (ad:Option Addr) (m c:Nat) (l:List Nat) (hs:a.eval s=.slice (some ⟨g,0,none⟩) 1 1) (hx:a.eval x=.slice ad m c) (hown:W.ownsRow B 3 1 (.slice (some ⟨g,0,none⟩) 1 1) 1 [Value.int .i64 (d:Int)]) (hq:Ds W (.slice ad m c) l) (hn:m≤1000000) (hB:B≤W.heap.size)
  (h:∀g' c' w',w'.ownsRow B 3 1 (.slice (some ⟨g',0,none⟩) (1+m) c') (1+m) (dvs (d::l))→W.grownBy w' (some g)→wpList Tryz.prog ops Q rest (a.put o.dst (.slice (some ⟨g',0,none⟩) (1+m) c')) w'):wpList Tryz.prog ops Q (o::rest) a W:=by
 have hi:=ED.info;simp only[Option.map_eq_some_iff,Prod.mk.injEq]at hi;obtain⟨i,hi,⟨z,hz,hzs⟩,hsize,hby⟩:=hi
 have hm:l.length=m:=by
  obtain⟨_,_,hv,_⟩:=hq.open;cases hv
  rfl
 rcases Nat.eq_zero_or_pos m with rfl|hpos
 ·obtain rfl:l=[]:=List.length_eq_zero_iff.1 hm
  have hr:(Builtin.append_ #[135,135] o.type #[.slice (some ⟨g,0,none⟩) 1 1,.slice ad 0 c]).run Tryz.prog W=.ok (.slice (some ⟨g,0,none⟩) 1 1) W:=by
   cases ad<;>simp[Builtin.append_,run_underlying ED.und,sizeOf,typeInfo,hi,Builtin.lenOf,Builtin.firstCells,loadCells,loadCellsFrom,storeCells]
  refine wpList_plain hgd fun _ hK=>?_
  unfold Oper.wp execOp;simp only[ho,resolve,invoke,builtin,Sem.run_bind,Sem.run_pure,Result.andThen_ok,List.map_toArray,List.map_cons,List.map_nil,hs,hx,hr];exact hK _ _ (h _ _ _ hown ⟨rfl,rfl,rfl,Nat.le_refl _,fun _ _ _=>rfl⟩)
 ·obtain⟨b,off,-,rfl,-,-⟩:=hq.at (Below.refl _ _) hpos
  have hfl:=Sl.flat hq (fun r hr=>by obtain⟨p,_,rfl⟩:=List.mem_map.1 hr;rfl) (by decide);rw[qrh]at hfl;refine wpList_append_own _ hgd s x 135 ho B 3 i z 1 8 ED.und hi hz hsize hby hzs (by decide) _ 1 _ hs hown ⟨b,off,none⟩ m c (dvs l) hx (by unfold dvs;rw[List.length_map,qhl,hm,Nat.mul_one]) hfl ?_ (by unfold maxLen;omega) (by omega) hB (fun v' w' a1 a2 _=>?_)
  ·intro u hu
   unfold dvs at hu;obtain⟨p,_,rfl⟩:=List.mem_map.1 hu
   rfl
  ·obtain⟨a',c',rfl,-,-⟩:=qas a1
   obtain⟨g',rfl⟩:=qbk a1 (by omega);exact h g' c' w' a1 a2
end Go.Proofs.YtacihodamichhaaGreatDoor
