/- Parts of the proof. -/
import Derived.Test.YtacihodamichhaaGreatDoorL25
namespace Go.Proofs.YtacihodamichhaaGreatDoor
open Go.RowKit
set_option maxHeartbeats 8000000
def Ds(w:World)(v:Value)(l:List Nat):Prop:=Ints w v (qcw l)
theorem Ds.mono{w w':World}{v:Value}{l:List Nat}(h:Ds w v l)(hb:Below w.heap.size w w'):Ds w' v l:=Ints.mono h hb
theorem Ds.open{w:World}{v:Value}{l:List Nat}(h:Ds w v l):∃a cap,v=.slice a l.length cap∧l.length≤cap∧cap≤maxLen:=by
 have:=Ints.open h
 rwa [qga]at this
theorem Ds.at{w wr:World}{n cap:Nat}{a:Option Addr}{l:List Nat}(hS:Ds w (.slice a n cap) l)(hb:Below w.heap.size w wr){k:Nat}(hk:k<n):
  ∃b off d,a=some ⟨b,off,none⟩∧l[k]?=some d∧wr.cell? ⟨b,off+k,none⟩=some (.int .i64 ((d:Nat):Int)):=by
 obtain⟨b,off,x,rfl,hx,c0⟩:=Ints.at hS hb hk;obtain⟨d,hd,rfl⟩:=qev hx;exact⟨b,off,d,rfl,hd,by simpa using c0⟩
theorem Ds.nil(w:World):Ds w (.slice none 0 0) []:=Sl.nil w 1
theorem Ds.own{w:World}{base n:Nat}{v:Value}{l:List Nat}(h:w.ownsRow base 3 1 v n ((qcw l).map (Value.int .i64))):Ds w v l:=Sl.own1 h
def DgV(w:World)(v:Value)(N:Nat):Prop:=∃a c,v=.slice a (D10.limbs N).length c∧Ds w (.slice a (D10.limbs N).length c) (D10.limbs N)
theorem DgV.mono{w w':World}{v:Value}{N:Nat}(h:DgV w v N)(hb:Below w.heap.size w w'):DgV w' v N:=by
 obtain⟨a,c,hv,h⟩:=h;exact⟨a,c,hv,h.mono hb⟩
theorem qnd(a:Option Addr)(n c:Nat)(l:List Nat)(w:World)(hL:Ds w (.slice a n c) l)(hd:D10.Dg l):
  Calls Tryz.prog 157 #[.slice a n c] w (RetP (fun v w'=>DgV w' v (D10.natL l)) w):=by
 refine(qer a n c l w hL hd).mono ?_
 rintro e w' ⟨rfl,h,hb⟩;exact⟨_,rfl,⟨a,c,rfl,Ds.mono h hb⟩,hb⟩
def qbr(N:Nat):Prop:=(D10.limbs N).length≤20000
theorem qbj{N k:Nat}(h:N<10^k)(hk:k≤20000):qbr N:=by
 unfold qbr;rcases Nat.lt_or_ge 20000 (D10.limbs N).length with h3|h3
 ·exfalso
  have h0:N≠0:=fun e=>by rw[e,D10.qag]at h3;simp at h3
  have h4:=D10.qct h0;have h5:(D10.limbs N).length-1<k:=(Nat.pow_lt_pow_iff_right (by decide)).1 (Nat.lt_of_le_of_lt h4 h)
  omega
 ·exact h3
theorem qdd{a b:Nat}(h:a≤b)(hb:qbr b):qbr a:=Nat.le_trans (D10.qbt h) hb
def txtN(neg:Bool)(N:Nat):List UInt8:=txtD neg (D10.limbs N)
def txtZ(z:Int):List UInt8:=txtN (decide (z<0)) z.natAbs
theorem qjs(neg:Bool)(N:Nat)(v:Value)(w:World)(h:DgV w v N)(hf:qbr N):Calls Tryz.prog 117 #[.bool neg,v] w (Ret (.string ⟨(txtN neg N).toArray⟩) w):=by
 obtain⟨a,c,rfl,hd⟩:=h;have h:=qf4 neg a _ c (D10.limbs N) w hd (D10.qal N) (Nat.le_trans hf (by decide));rw[D10.qah]at h;exact h
theorem qhj:∀(m:List Nat),D10.Dg m→AllD (qa0 m)∧(qa0 m).reverse.map dv=m:=by
 intro m hm
 have hb:∀x,x<10→isD (UInt8.ofNat (48+x))=true∧dv (UInt8.ofNat (48+x))=x:=by
  intro x hx;have:(UInt8.ofNat (48+x)).toNat=48+x:=by rw[UInt8.toNat_ofNat'];omega
  exact⟨qca.2 (by omega),by unfold dv;omega⟩
 constructor
 ·intro c hc
  unfold qa0 at hc;obtain⟨x,hx,rfl⟩:=List.mem_map.1 (List.mem_reverse.1 hc);exact(hb x (hm x hx)).1
 ·unfold qa0
  rw[List.reverse_reverse,List.map_map]
  conv=>rhs;rw[←List.map_id m]
  exact List.map_congr_left (fun x hx=>(hb x (hm x hx)).2)
theorem qlr(N:Nat):valD (qa0 (D10.limbs N))=N:=by
 rw[←D10.qew,(qhj _ (D10.qal N)).2,D10.qah]
theorem qkq(neg:Bool)(N:Nat):∃p,AllD p∧p≠[]∧valD p=N∧(txtN neg N=p∨txtN neg N=45::p)∧p.length≤(D10.limbs N).length+1:=by
 unfold txtN txtD
 by_cases h:D10.limbs N=[]
 ·rw[if_pos h]
  have h0:=D10.qb1.1 h;subst h0;exact⟨[48],by intro c hc;obtain rfl:=List.mem_singleton.1 hc;decide,by simp,rfl,.inl rfl,by simp⟩
 ·rw[if_neg h]
  refine⟨qa0 (D10.limbs N),(qhj _ (D10.qal N)).1,?_,qlr N,?_,by unfold qa0;simp⟩
  ·intro e
   unfold qa0 at e;simp at e;exact h e
  ·cases neg
   ·exact .inl rfl
   ·exact .inr rfl
theorem qps(a b:Option Addr)(n m ca cb:Nat)(x y:Nat)(w:World)(hA:Ds w (.slice a n ca) (D10.limbs x))(hB:Ds w (.slice b m cb) (D10.limbs y)):
  Calls Tryz.prog 121 #[.slice a n ca,.slice b m cb] w (RetD (.int .i64 (cmpN x y)) w):=by
 obtain⟨_,_,hq,ha1,ha2⟩:=hA.open;cases hq
 obtain⟨_,_,hq,hb1,hb2⟩:=hB.open;cases hq
 unfold maxLen at ha2 hb2;have HA:=hI hA;have HB:=hI hB;clear hA hB
 by_cases hl:(D10.limbs x).length=(D10.limbs y).length
 ·have Hl:=hI hl
  have hc:cmpN x y=cmpN (D10.natL (D10.limbs x)) (D10.natL (D10.limbs y)):=by rw[D10.qah,D10.qah]
  rw[hc];have HK:=hI (fun k (hk:k<(D10.limbs x).length) (hs:(D10.limbs x).drop (k+1)=(D10.limbs y).drop (k+1))=>And.intro (fun(h:(D10.limbs x).getD k 0<(D10.limbs y).getD k 0)=>D10.qex hl hk (D10.qal x) hs h) (fun(h:(D10.limbs y).getD k 0<(D10.limbs x).getD k 0)=>D10.qex hl.symm (hl▸hk) (D10.qal y) hs.symm h));generalize D10.limbs x=lx at*;generalize D10.limbs y=ly at*;generalize hn:lx.length=n at*;rw[←hl]at hb1;rw[←Hl.out];have Hn:=hI hn;have hB2:=HB.out;rw[←Hl.out]at hB2;clear HB;have HB:=hI hB2;clear hn hc hl hB2
  go_enter Tryz.func121,Tryz.ntmps121
  go_wp2_with fail
  go_loopw [5] (fun i wr=>∃k:Nat,k≤n∧i=.int .i64 ((k:Int)-1)∧BD w wr∧Hid (lx.drop k=ly.drop k)) (fun i _=>(intOf i+1).toNat)
  case atStart=>exact⟨n,Nat.le_refl _,rfl,BD.refl _,by unfold Hid;rw[List.drop_eq_nil_of_le (by rw[Hn.out];exact Nat.le_refl _),List.drop_eq_nil_of_le (by rw[←Hl.out];exact Nat.le_refl _)]⟩
  case round=>
   obtain⟨k,hk,rfl,hbw,hpre⟩:=hrel;rcases k with _|j
   ·have he:lx=ly:=by have:=hpre.out;rwa [List.drop_zero,List.drop_zero]at this
    have He:=hI he;clear he
    go_wp2_with fail
    go_ret
    exact⟨by rw[He.out];simp[cmpN],hbw⟩
   ·obtain⟨ba,oa,d,rfl,hd,c0⟩:=HA.out.at hbw.1 (show j<n by omega)
    obtain⟨bb,ob,e,rfl,he,d0⟩:=HB.out.at hbw.1 (show j<n by omega);have hij:((((j+1:Nat):Int)-1))=(j:Int):=by omega
    have hi64:IntKind.i64.wrap (j:Int)=j:=IntWalk.i64_in _ (by omega);have hi65:IntKind.i64.wrap ((j:Int)-1)=(j:Int)-1:=IntWalk.i64_in _ (by omega);have hj0:(0:Int)≤(j:Int):=Int.natCast_nonneg _;have hjn:(j:Int)<(n:Int):=by omega
    have Hd:=hI hd;have He:=hI he;rw[hij];clear hd he
    by_cases hde:d=e
    ·subst hde
     have hne:¬(d:Int)<(d:Int):=by omega
     go_wp2_with fail
     go_quiet (fail)
     go_wp2_with fail
     go_quiet (fail)
     go_wp2_with fail
     go_roundw
     case rel=>exact⟨j,by omega,by go_num,hbw.dn _,by unfold Hid;rw[List.drop_eq_getElem_cons (qbs Hd.out),List.drop_eq_getElem_cons (qbs He.out),hpre.out,qlf Hd.out,qlf He.out]⟩
     case measure=>simp[intOf]<;>omega
    ·have hk2:=HK.out j (by omega) hpre.out
     rw[qfc Hd.out,qfc He.out]at hk2;have Hk2:=hI hk2;clear hk2;rcases Nat.lt_or_ge d e with hlt|hge
     ·have hlt2:(d:Int)<(e:Int):=by omega
      have hfin:cmpN (D10.natL lx) (D10.natL ly)=-1:=by unfold cmpN;rw[if_pos (Hk2.out.1 hlt)]
      rw[hfin];clear hfin
      go_wp2_with fail
      go_quiet (fail)
      go_wp2_with fail
      go_ret
      exact⟨rfl,hbw.dn _⟩
     ·have hlt2:¬(d:Int)<(e:Int):=by omega
      have hlt3:(e:Int)<(d:Int):=by omega
      have hgt:=Hk2.out.2 (by omega);have hfin:cmpN (D10.natL lx) (D10.natL ly)=1:=by unfold cmpN;rw[if_neg (by omega),if_pos hgt]
      rw[hfin];clear hfin
      go_wp2_with fail
      go_quiet (fail)
      go_wp2_with fail
      go_quiet (fail)
      go_wp2_with fail
      go_ret
      exact⟨rfl,(hbw.dn _).dn _⟩
 ·have hne:(((D10.limbs x).length:Int)!=((D10.limbs y).length:Int))=true:=by simp;omega
  rcases Nat.lt_or_ge (D10.limbs x).length (D10.limbs y).length with hlt|hge
  ·have hfin:cmpN x y=-1:=by unfold cmpN;rw[if_pos (D10.qb2 hlt)]
   rw[hfin];generalize(D10.limbs x).length=n at*;generalize(D10.limbs y).length=m at*;have hlt2:(n:Int)<(m:Int):=by omega
   go_enter Tryz.func121,Tryz.ntmps121
   go_wp2_with fail
   go_ret
   exact⟨rfl,BD.refl _⟩
  ·have hgt:=D10.qb2 (show(D10.limbs y).length<(D10.limbs x).length by omega)
   have hfin:cmpN x y=1:=by unfold cmpN;rw[if_neg (by omega),if_pos hgt]
   rw[hfin];generalize(D10.limbs x).length=n at*;generalize(D10.limbs y).length=m at*;have hlt2:¬(n:Int)<(m:Int):=by omega
   go_enter Tryz.func121,Tryz.ntmps121
   go_wp2_with fail
   go_ret
   exact⟨rfl,BD.refl _⟩
theorem qhq(u v:Value)(x y:Nat)(w:World)(h:DgV w u x)(h':DgV w v y):Calls Tryz.prog 121 #[u,v] w (RetD (.int .i64 (cmpN x y)) w):=by
 obtain⟨a,c,rfl,hA⟩:=h;obtain⟨b,c',rfl,hB⟩:=h';exact qps a b _ _ c c' x y w hA hB
theorem qpv{X Y D K bo:Nat}(h:X+K*bo=D+Y)(hb:bo≤1)(hY:Y≤X)(hD:D<K):D=X-Y:=by
 rcases Nat.eq_zero_or_pos bo with h0|h0
 ·subst h0;omega
 ·obtain rfl:bo=1:=by omega
  omega
theorem qee(l:List Nat)(x:Nat):(qcw l).map (Value.int .i64)++[.int .i64 (x:Int)]=(qcw (l++[x])).map (Value.int .i64):=by unfold qcw;simp
set_option maxRecDepth 20000 in
theorem qpu(u v:Value)(x y:Nat)(w:World)(h:DgV w u x)(h':DgV w v y)(hle:y≤x)(hf:qbr x):Calls Tryz.prog 139 #[u,v] w (RetP (fun r w'=>DgV w' r (x-y)∧qpl w.heap.size r) w):=by
 obtain⟨a,c,rfl,hA⟩:=h;obtain⟨b,c',rfl,hB⟩:=h';obtain⟨_,_,hq,ha1,ha2⟩:=hA.open;cases hq
 obtain⟨_,_,hq,hb1,hb2⟩:=hB.open;cases hq
 unfold maxLen at ha2 hb2;unfold qbr at hf;have hlen:=D10.qbt hle;have HA:=hI hA;have HB:=hI hB;have Hx:=hI (D10.qah x);have Hy:=hI (D10.qah y);have Hdx:=hI (D10.qal x);have Hdy:=hI (D10.qal y);have Hle:=hI hle;clear hA hB hle;generalize D10.limbs x=la at*;generalize D10.limbs y=lb at*;generalize hn:la.length=n at*;generalize hm:lb.length=m at*;have Hn:=hI hn;have Hm:=hI hm;clear hn hm;have HN:=hI (fun W:World=>World.ownsRow_nil W w.heap.size 3 1)
 go_enter Tryz.func139,Tryz.ntmps139
 go_wp2_with fail
 go_loopw [7,6,5,8] (fun i bv out _ wr=>∃(k bo:Nat) (done:List Nat),k≤n∧i=.int .i64 (k:Int)∧bv=.int .i64 (bo:Int)∧bo≤1∧Below w.heap.size w wr∧wr.ownsRow w.heap.size 3 1 out k ((qcw done).map (Value.int .i64))∧Hid (done.length=k∧D10.Dg done∧D10.natL (la.take k)+10^k*bo=D10.natL done+D10.natL (lb.take k))) (fun i _ _ _ _=>n-(intOf i).toNat)
 case atStart=>exact⟨0,0,[],Nat.zero_le _,rfl,rfl,by decide,Below.refl _ _,HN.out _,rfl,(fun d hd=>by simp at hd),by simp[D10.natL]⟩
 case round=>
  obtain⟨k,bo,done,hk,rfl,rfl,hbo,hbw,hown,hpre⟩:=hrel;rcases Nat.lt_or_ge k n with hlt|hge
  ·obtain⟨b1,off,d,rfl,hdk,c0⟩:=HA.out.at hbw hlt
   have hd10:=Hdx.out d (List.mem_of_getElem? hdk);have Hdk:=hI hdk;have hkn:(k:Int)<(n:Int):=by omega
   have hkw:IntKind.i64.wrap ((k:Int)+1)=(k:Int)+1:=IntWalk.i64_in _ (by omega);have Hown:=hI hown;have Hbw:=hI hbw;have hs1:IntKind.i64.wrap ((d:Int)-(bo:Int))=(d:Int)-(bo:Int):=IntWalk.i64_in _ (by omega);clear hdk hown
   by_cases hkm:k<m
   ·obtain⟨b2,off2,e,rfl,hek,d0⟩:=HB.out.at hbw hkm
    have he10:=Hdy.out e (List.mem_of_getElem? hek);have hkm2:(k:Int)<(m:Int):=by omega
    have Htk:=hI (show D10.natL (lb.take (k+1))=D10.natL (lb.take k)+10^k*e from D10.qai hek);have hs2:IntKind.i64.wrap ((d:Int)-(bo:Int)-(e:Int))=(d:Int)-(bo:Int)-(e:Int):=IntWalk.i64_in _ (by omega);clear hek hbw
    by_cases hX:((d:Int)-(bo:Int)-(e:Int))<0
    ·have hng:((d:Int)-(bo:Int)-(e:Int))<0:=by omega
     obtain⟨z,hz⟩:∃z:Nat,((d:Int)-(bo:Int)-(e:Int))+10=(z:Int):=⟨(((d:Int)-(bo:Int)-(e:Int))+10).toNat,by omega⟩
     have hz10:z<10:=by omega
     have hzw:IntKind.i64.wrap (z:Int)=(z:Int):=IntWalk.i64_in _ (by omega);have Hst:=hI (D10.qbu (done:=done) (i:=k) (d:=d) (y:=e) (x:=z) (bo:=bo) (bo':=1) hpre.out.1 hpre.out.2.2 (by omega))
     go_wp2_with (at_builtin;refine qc9 ED (by decide) [.int .i64 (z:Int)] rfl _ _ rfl w.heap.size _ _ _ rfl rfl Hown.out rfl (one1 _ rfl) (by omega) (by decide) Hbw.out.size ?_;intro v' w5 hown' hg';have Hbw3:=hI (qau Hbw.out Hown.out hg' Hbw.out.size);have Hown5:=hI hown';clear hown' hg')
     go_roundw
     case rel=>
      refine⟨k+1,1,done++[z],by omega,by go_num,rfl,by decide,Hbw3.out,by have h:=Hown5.out;rw[qee]at h;exact h,by rw[List.length_append,hpre.out.1];rfl,hpre.out.2.1.append (D10.Dg.one hz10),?_⟩
      rw[D10.qai Hdk.out,Htk.out];exact Hst.out
     case measure=>simp[intOf]<;>omega
    ·have hng:¬((d:Int)-(bo:Int)-(e:Int))<0:=by omega
     obtain⟨z,hz⟩:∃z:Nat,((d:Int)-(bo:Int)-(e:Int))=(z:Int):=⟨(((d:Int)-(bo:Int)-(e:Int))).toNat,by omega⟩
     have hz10:z<10:=by omega
     have hzw:IntKind.i64.wrap (z:Int)=(z:Int):=IntWalk.i64_in _ (by omega);have Hst:=hI (D10.qbu (done:=done) (i:=k) (d:=d) (y:=e) (x:=z) (bo:=bo) (bo':=0) hpre.out.1 hpre.out.2.2 (by omega))
     go_wp2_with (at_builtin;refine qc9 ED (by decide) [.int .i64 (z:Int)] rfl _ _ rfl w.heap.size _ _ _ rfl rfl Hown.out rfl (one1 _ rfl) (by omega) (by decide) Hbw.out.size ?_;intro v' w5 hown' hg';have Hbw3:=hI (qau Hbw.out Hown.out hg' Hbw.out.size);have Hown5:=hI hown';clear hown' hg')
     go_roundw
     case rel=>
      refine⟨k+1,0,done++[z],by omega,by go_num,rfl,by decide,Hbw3.out,by have h:=Hown5.out;rw[qee]at h;exact h,by rw[List.length_append,hpre.out.1];rfl,hpre.out.2.1.append (D10.Dg.one hz10),?_⟩
      rw[D10.qai Hdk.out,Htk.out];exact Hst.out
     case measure=>simp[intOf]<;>omega
   ·have hkm2:¬(k:Int)<(m:Int):=by omega
    have Htk:=hI (show D10.natL (lb.take (k+1))=D10.natL (lb.take k)+10^k*0 from by rw[List.take_of_length_le (by rw[Hm.out];omega),List.take_of_length_le (by rw[Hm.out];omega),Nat.mul_zero,Nat.add_zero]);clear hbw
    by_cases hX:((d:Int)-(bo:Int))<0
    ·have hng:((d:Int)-(bo:Int))<0:=by omega
     obtain⟨z,hz⟩:∃z:Nat,((d:Int)-(bo:Int))+10=(z:Int):=⟨(((d:Int)-(bo:Int))+10).toNat,by omega⟩
     have hz10:z<10:=by omega
     have hzw:IntKind.i64.wrap (z:Int)=(z:Int):=IntWalk.i64_in _ (by omega);have Hst:=hI (D10.qbu (done:=done) (i:=k) (d:=d) (y:=0) (x:=z) (bo:=bo) (bo':=1) hpre.out.1 hpre.out.2.2 (by omega))
     go_wp2_with (at_builtin;refine qc9 ED (by decide) [.int .i64 (z:Int)] rfl _ _ rfl w.heap.size _ _ _ rfl rfl Hown.out rfl (one1 _ rfl) (by omega) (by decide) Hbw.out.size ?_;intro v' w5 hown' hg';have Hbw3:=hI (qau Hbw.out Hown.out hg' Hbw.out.size);have Hown5:=hI hown';clear hown' hg')
     go_roundw
     case rel=>
      refine⟨k+1,1,done++[z],by omega,by go_num,rfl,by decide,Hbw3.out,by have h:=Hown5.out;rw[qee]at h;exact h,by rw[List.length_append,hpre.out.1];rfl,hpre.out.2.1.append (D10.Dg.one hz10),?_⟩
      rw[D10.qai Hdk.out,Htk.out];exact Hst.out
     case measure=>simp[intOf]<;>omega
    ·have hng:¬((d:Int)-(bo:Int))<0:=by omega
     obtain⟨z,hz⟩:∃z:Nat,((d:Int)-(bo:Int))=(z:Int):=⟨(((d:Int)-(bo:Int))).toNat,by omega⟩
     have hz10:z<10:=by omega
     have hzw:IntKind.i64.wrap (z:Int)=(z:Int):=IntWalk.i64_in _ (by omega);have Hst:=hI (D10.qbu (done:=done) (i:=k) (d:=d) (y:=0) (x:=z) (bo:=bo) (bo':=0) hpre.out.1 hpre.out.2.2 (by omega))
     go_wp2_with (at_builtin;refine qc9 ED (by decide) [.int .i64 (z:Int)] rfl _ _ rfl w.heap.size _ _ _ rfl rfl Hown.out rfl (one1 _ rfl) (by omega) (by decide) Hbw.out.size ?_;intro v' w5 hown' hg';have Hbw3:=hI (qau Hbw.out Hown.out hg' Hbw.out.size);have Hown5:=hI hown';clear hown' hg')
     go_roundw
     case rel=>
      refine⟨k+1,0,done++[z],by omega,by go_num,rfl,by decide,Hbw3.out,by have h:=Hown5.out;rw[qee]at h;exact h,by rw[List.length_append,hpre.out.1];rfl,hpre.out.2.1.append (D10.Dg.one hz10),?_⟩
      rw[D10.qai Hdk.out,Htk.out];exact Hst.out
     case measure=>simp[intOf]<;>omega
  ·obtain rfl:k=n:=by omega
   have hkn:¬(k:Int)<(k:Int):=by omega
   obtain⟨ao,co,rfl,hco,-⟩:=qan hown;have hD:=D10.qa7 hpre.out.2.1;rw[hpre.out.1]at hD;have hS:=hpre.out.2.2;rw[List.take_of_length_le (by rw[Hn.out];exact Nat.le_refl _),List.take_of_length_le (by rw[Hm.out];omega),Hx.out,Hy.out]at hS;have hfin:=qpv hS hbo Hle.out hD;have HFr:=hI (show qpl w.heap.size (.slice ao (D10.limbs (D10.natL done)).length co)from fun q hq=>(hown.lt q (by cases ao<;>exact hq)).1);have HF:=hI (qer ao k co done wr (by rw[←hpre.out.1]at hown⊢;exact Ds.own hown) hpre.out.2.1);rw[hfin]at HF HFr;have Hbw:=hI hbw;clear hown hbw hD hS hfin hpre
   go_wp2_with (go_at_call 157;refine(HF.out).mono ?_;rintro e w5 ⟨rfl,hv5,hb5⟩)
   go_ret
   exact⟨_,rfl,⟨⟨ao,co,rfl,Ds.mono hv5 hb5⟩,HFr.out⟩,Hbw.out.via hb5 Hbw.out.size⟩
theorem qd3{l:List UInt8}{q:Nat}{c:UInt8}(h:l[q]?=some c)(hq:q<(⟨l.toArray⟩:ByteArray).size):(⟨l.toArray⟩:ByteArray)[q]'hq=c:=by
 have hl:q<l.length:=by rw[Lib.size_eq]at hq;exact hq
 have e:(⟨l.toArray⟩:ByteArray)[q]'hq=l[q]'hl:=rfl;rw[e];rw[List.getElem?_eq_getElem hl]at h;exact Option.some.inj h
set_option maxRecDepth 20000 in
theorem qf5(p:List UInt8)(neg:Bool)(l:List UInt8)(w:World)(hl:l=if neg then 45::p else p)(hp:AllD p)(hlen:p.length≤30000):
  Calls Tryz.prog 118 #[.string ⟨l.toArray⟩] w (RetP (fun v w'=>DgV w' v (valD p)) w):=by
 have HT:=hI (fun w' (a:Option Addr) c (h:Ds w' (.slice a p.length c) (p.reverse.map dv))=>qnd a p.length c (p.reverse.map dv) w' h (D10.qo4 hp));rw[D10.qew]at HT;obtain⟨o,ho⟩:∃o,(if neg then 1 else 0:Nat)=o:=⟨_,rfl⟩
 have ho1:o≤1:=by rw[←ho];split<;>omega
 have hs:(⟨l.toArray⟩:ByteArray).size=p.length+o:=by
  rw[Lib.size_eq,hl,←ho];cases neg<;>simp
 have HC:=hI (fun(q j:Nat) (hqj:q+1+j=p.length+o)=>(show(j<p.length→∃c,l[q]?=some c∧isD c=true∧(p.reverse.map dv)[j]?=some (dv c))∧(¬j<p.length→l[q]?=some 45)from by
  constructor
  ·intro hj
   obtain⟨c,hc⟩:∃c,p[p.length-1-j]?=some c:=⟨p[p.length-1-j]'(by omega),by simp⟩
   refine⟨c,?_,hp c (List.mem_of_getElem? hc),?_⟩
   ·rw[hl]
    cases neg with
    |true=>
     have:o=1:=ho.symm;rw[if_pos rfl,show q=(p.length-1-j)+1 by omega,List.getElem?_cons_succ];exact hc
    |false=>
     have:o=0:=ho.symm;rw[if_neg (by decide),show q=p.length-1-j by omega];exact hc
   ·rw[List.getElem?_map,List.getElem?_reverse hj,hc]
    rfl
  ·intro hj
   rw[hl];cases neg with
   |true=>
    have:o=1:=ho.symm;rw[if_pos rfl,show q=0 by omega]
    rfl
   |false=>
    have:o=0:=ho.symm
    omega))
 have hlt:(p.reverse.map dv).length=p.length:=by simp
 have HX:=hI (fun(q:Nat) (c:UInt8) (h:l[q]?=some c)=>qd3 h);generalize p.reverse.map dv=ds at*;generalize valD p=N at*;generalize hpl:p.length=n at*;generalize hS:(⟨l.toArray⟩:ByteArray)=S at*;have Hlt:=hI hlt;have HN:=hI (fun W:World=>World.ownsRow_nil W w.heap.size 3 1);have hw1:IntKind.i64.wrap (((n+o:Nat):Int)-1)=((n+o:Nat):Int)-1:=IntWalk.i64_in _ (by omega);clear hl hp ho hlt hpl hS;obtain⟨len,hlen2⟩:∃len,n+o=len:=⟨_,rfl⟩
 rw[hlen2]at hs hw1;have Hlen:=hI hlen2;clear hlen2
 go_enter Tryz.func118,Tryz.ntmps118
 go_wp2_with fail
 go_loopw [4,3] (fun i out wr=>∃r j:Nat,r+j=len∧i=.int .i64 ((r:Int)-1)∧Below w.heap.size w wr∧wr.ownsRow w.heap.size 3 1 out (min j n) ((qcw (ds.take j)).map (Value.int .i64))) (fun i _ _=>(intOf i+1).toNat)
 case atStart=>exact⟨len,0,rfl,rfl,Below.refl _ _,by rw[Nat.zero_min];exact HN.out _⟩
 case round=>
  obtain⟨r,j,hrj,rfl,hbw,hown⟩:=hrel;have hlo:=Hlen.out;rcases r with _|q
  ·obtain⟨ao,co,rfl,hco,-⟩:=qan hown
   have hjn:min j n=n:=by omega
   rw[hjn]at hown;rw[List.take_of_length_le (by rw[Hlt.out];omega)]at hown;have HF:=hI (HT.out wr ao co (Ds.own hown));have Hbw:=hI hbw;clear hown hbw hlo hrj;rw[hjn]
   go_wp2_with (go_at_call 157;refine(HF.out).mono ?_;rintro e w5 ⟨v5,rfl,hv5,hb5⟩;obtain⟨a5,c5,rfl,hv5⟩:=hv5)
   go_ret
   exact⟨_,rfl,⟨a5,c5,rfl,hv5⟩,Hbw.out.via hb5 Hbw.out.size⟩
  ·have hij:((((q+1:Nat):Int)-1))=(q:Int):=by omega
   rw[hij];have hq0:(0:Int)≤(q:Int):=Int.natCast_nonneg _;have hq1:(q:Int)<(len:Int):=by omega
   have hqs:q<S.size:=by rw[hs];omega
   have hqw:IntKind.i64.wrap ((q:Int)-1)=(q:Int)-1:=IntWalk.i64_in _ (by omega)
   by_cases hj:j<n
   ·obtain⟨c,hc,hcd,hdj⟩:=(HC.out q j (by omega)).1 hj
    have hx:=HX.out q c hc hqs;obtain⟨cn,hcn⟩:∃cn,c.toNat=cn:=⟨_,rfl⟩
    have hcr:=qca.1 hcd;rw[hcn]at hcr;have hc1:((S[q]'hqs).toNat:Int)=(cn:Int):=by rw[hx,hcn]
    have hc2:((cn:Int)!=45)=true:=by simp;omega
    obtain⟨dd,hdd⟩:∃dd,dv c=dd:=⟨_,rfl⟩
    have hc3:IntKind.i64.wrap ((cn:Int)-48)=(dd:Int):=(IntWalk.i64_in _ (by omega)).trans (by unfold dv at hdd;omega);have hc4:(cn:Int)-48=(dd:Int):=by unfold dv at hdd;omega
    rw[hdd]at hdj;have hmin:min j n=j:=by omega
    rw[hmin]at hown
    have htk:(qcw (ds.take j)).map (Value.int .i64)++[.int .i64 (dd:Int)]=(qcw (ds.take (j+1))).map (Value.int .i64):=by
     rw[List.take_add_one,hdj];unfold qcw;simp
    have Htk:=hI htk;have Hown:=hI hown;have Hbw:=hI hbw;have Hrj:=hI (And.intro hrj hj);clear hc hcd hdj hx hcn hdd htk hown hbw hmin hlo hij hrj
    go_wp2_with (at_builtin;refine qc9 ED (by decide) [.int .i64 (dd:Int)] rfl _ _ rfl w.heap.size _ _ _ rfl rfl Hown.out rfl (one1 _ rfl) (by omega) (by decide) Hbw.out.size ?_;intro v' w5 hown' hg';have Hbw3:=hI (qau Hbw.out Hown.out hg' Hbw.out.size);have Hown5:=hI hown';clear hown' hg')
    go_roundw
    case rel=>exact⟨q,j+1,by have:=Hrj.out.1;omega,by first|rfl|(congr 1),Hbw3.out,by have h:=Hown5.out;rw[Htk.out]at h;rw[show min (j+1) n=j+1 by have:=Hrj.out.2;omega];exact h⟩
    case measure=>simp[intOf]<;>omega
   ·have hc:=(HC.out q j (by omega)).2 hj
    have hx:=HX.out q 45 hc hqs;have hc1:((S[q]'hqs).toNat:Int)=45:=by rw[hx];rfl
    have Hown:=hI hown;have Hbw:=hI hbw;have Hrj:=hI (And.intro hrj hj);clear hc hx hown hbw hlo hij hrj
    go_wp2_with fail
    go_roundw
    case rel=>exact⟨q,j+1,by have:=Hrj.out.1;omega,by first|rfl|(congr 1),Hbw.out,by have h:=Hown.out;rw[List.take_of_length_le (by rw[Hlt.out];have:=Hrj.out.2;omega)]at h⊢;rw[show min (j+1) n=min j n by have:=Hrj.out.2;omega];exact h⟩
    case measure=>simp[intOf]<;>omega
theorem qdi:txtZ 0=[48]:=by
 unfold txtZ txtN txtD;rw[show(0:Int).natAbs=0 from rfl,D10.qag,if_pos rfl]
theorem qkl{m:List Nat}(h:m≠[]):∃x r,m.getLast?=some x∧qa0 m=UInt8.ofNat (48+x)::r:=by
 obtain⟨x,hx⟩:∃x,m.getLast?=some x:=by
  cases hl:m.getLast? with
  |none=>exact absurd (List.getLast?_eq_none_iff.1 hl) h
  |some x=>exact⟨x,rfl⟩
 obtain⟨i,hi⟩:=List.getLast?_eq_some_iff.1 hx;refine⟨x,qa0 i,hx,?_⟩
 rw[hi];unfold qa0;simp
theorem qen{z:Int}(h:z≠0):∃c r,txtZ z=c::r∧(z<0→c=45)∧(0<z→c≠45∧c≠48):=by
 have hm:D10.limbs z.natAbs≠[]:=fun e=>h (by have:=D10.qb1.1 e;omega)
 unfold txtZ txtN txtD;rw[if_neg hm]
 by_cases hz:z<0
 ·rw[decide_eq_true hz,if_pos rfl]
  exact⟨45,_,rfl,fun _=>rfl,fun h2=>by omega⟩
 ·rw[decide_eq_false hz,if_neg (by decide)]
  obtain⟨x,r,hx,hb⟩:=qkl hm;rw[hb];have hx0:=D10.qfb hx;have hx10:=D10.qal _ x (List.mem_of_getLast? hx);have ht:(UInt8.ofNat (48+x)).toNat=48+x:=by rw[UInt8.toNat_ofNat'];omega
  refine⟨_,r,rfl,fun h2=>absurd h2 hz,fun _=>⟨fun e=>?_,fun e=>?_⟩⟩
  ·rw[e]at ht
   have:(45:UInt8).toNat=45:=rfl
   omega
  ·rw[e]at ht
   have:(48:UInt8).toNat=48:=rfl
   omega
theorem qc4(z:Int)(w:World):Calls Tryz.prog 120 #[.string ⟨(txtZ z).toArray⟩] w (Ret (.int .i64 z.sign) w):=by
 by_cases h0:z=0
 ·subst h0
  rw[qdi,show Int.sign 0=0 from rfl]
  go_enter Tryz.func120,Tryz.ntmps120
  go_wp2_with fail
  go_ret
  exact⟨rfl,Below.refl _ _⟩
 ·obtain⟨c,r,ht,hn,hp⟩:=qen h0
  have hT:∀(h:0<(⟨(txtZ z).toArray⟩:ByteArray).size),(⟨(txtZ z).toArray⟩:ByteArray)[0]'h=c:=fun h=>qd3 (by rw[ht];rfl) h
  have hs0:0<(⟨(txtZ z).toArray⟩:ByteArray).size:=by rw[Lib.size_eq,ht];simp
  have hx:=hT hs0
  have hne:((⟨(txtZ z).toArray⟩:ByteArray).toList==[48])=false:=by
   rw[ByteArray.toList_eq,beq_eq_false_iff_ne]
   show ¬txtZ z=[48]
   rw[ht];intro e;rcases Int.lt_or_gt_of_ne h0 with hz|hz
   ·rw[hn hz]at e
    exact absurd e (by simp)
   ·exact(hp hz).2 (List.cons.inj e).1
  generalize(⟨(txtZ z).toArray⟩:ByteArray)=S at*;rcases Int.lt_or_gt_of_ne h0 with hz|hz
  ·have hc:((S[0]'hs0).toNat:Int)=45:=by rw[hx,hn hz];rfl
   rw[Int.sign_eq_neg_one_of_neg hz];clear hT hx hn hp ht h0 hz
   go_enter Tryz.func120,Tryz.ntmps120
   go_wp2_with fail
   go_ret
   exact⟨rfl,Below.refl _ _⟩
  ·have hc:(((S[0]'hs0).toNat:Int)==45)=false:=by
    rw[hx,beq_eq_false_iff_ne];intro e;exact(hp hz).1 (UInt8.toNat_inj.1 (by have:(45:UInt8).toNat=45:=rfl;omega))
   rw[Int.sign_eq_one_of_pos hz];clear hT hx hn hp ht h0 hz
   go_enter Tryz.func120,Tryz.ntmps120
   go_wp2_with fail
   go_ret
   exact⟨rfl,Below.refl _ _⟩
end Go.Proofs.YtacihodamichhaaGreatDoor
