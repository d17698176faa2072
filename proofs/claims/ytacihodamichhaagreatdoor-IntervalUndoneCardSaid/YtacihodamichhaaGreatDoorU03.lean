/- Parts of the proof. -/
import Derived.Test.YtacihodamichhaaGreatDoorU02
set_option maxHeartbeats 4000000
namespace Go.Proofs.YtacihodamichhaaGreatDoor
open Go.RowKit
def BD(w w':World):Prop:=Below w.heap.size w w'∧w.drawn≤w'.drawn
theorem BD.refl(w:World):BD w w:=⟨Below.refl _ _,Nat.le_refl _⟩
theorem BD.dn{w w':World}(h:BD w w')(n:Nat):BD w (w'.drewN n):=⟨h.1.dn n,Nat.le_trans h.2 (Nat.le_add_right _ _)⟩
theorem BD.alloc{w w':World}(h:BD w w')(o:Obj):BD w (w'.alloc o):=⟨h.1.alloc h.1.size _,h.2⟩
theorem BD.via{a b c:World}(h:BD a b)(k:BD b c):BD a c:=⟨h.1.via k.1 h.1.size,Nat.le_trans h.2 k.2⟩
theorem bd1(w:World)(o:Obj):BD w (w.alloc o):=(BD.refl w).alloc o
theorem bd2(w:World)(o o':Obj):BD w ((w.alloc o).alloc o'):=(bd1 w o).alloc o'
def RetD(v:Value)(w:World)(e:Ending)(w':World):Prop:=e=.returned v∧BD w w'
theorem RetD.ret{v:Value}{w w':World}{e:Ending}(h:RetD v w e w'):Ret v w e w':=⟨h.1,h.2.1⟩
theorem qcm{n:Nat}:(limbs n).length=0↔n=0:=by rw[List.length_eq_zero_iff];exact qbs
theorem qpi(v:Value)(z:Int)(w:World)(h:IntV w v z):Calls Tryz.prog 131 #[v] w (RetD (.int .i64 z.sign) w):=by
 obtain⟨a,c,rfl,hl⟩:=h;clear hl
 by_cases h0:z=0
 ·subst h0
  have e1:(limbs (Int.natAbs 0)).length=0:=by rw[qcm];rfl
  rw[e1]
  go_enter Tryz.func131,Tryz.ntmps131
  go_wp2_with fail
  go_ret
  exact⟨rfl,bd1 w _⟩
 ·have e1:(limbs z.natAbs).length≠0:=by rw[Ne,qcm];omega
  generalize(limbs z.natAbs).length=k at*;have e2:((k:Int)==0)=false:=by simp;omega
  by_cases hz:z<0
  ·rw[decide_eq_true hz,Int.sign_eq_neg_one_of_neg hz]
   go_enter Tryz.func131,Tryz.ntmps131
   go_wp2_with fail
   go_ret
   exact⟨rfl,bd1 w _⟩
  ·rw[decide_eq_false hz,Int.sign_eq_one_of_pos (by omega)]
   go_enter Tryz.func131,Tryz.ntmps131
   go_wp2_with fail
   go_ret
   exact⟨rfl,bd1 w _⟩
theorem qdo(v:Value)(z:Int)(w:World)(h:IntV w v z):Calls Tryz.prog 131 #[v] w (Ret (.int .i64 z.sign) w):=(qpi v z w h).mono fun _ _ h=>h.ret
theorem qbw{l:List Nat}{i d:Nat}(h:l[i]?=some d):i<l.length:=by
 rcases Nat.lt_or_ge i l.length with h'|h'
 ·exact h'
 ·rw[List.getElem?_eq_none h']at h;cases h
theorem qnn{l:List Nat}{i d:Nat}(h:l[i]?=some d):l[i]'(qbw h)=d:=by
 have h2:=h;rw[List.getElem?_eq_getElem (qbw h)]at h2;exact Option.some.inj h2
theorem qgh{l:List Nat}{i d:Nat}(h:l[i]?=some d):l.getD i 0=d:=by
 rw[List.getD_eq_getElem?_getD,h];rfl
def cmpN(a b:Nat):Int:=if a<b then -1 else if b<a then 1 else 0
theorem qll(a b:Option Addr)(n m ca cb:Nat)(x y:Nat)(w:World)(hA:Ls w (.slice a n ca) (limbs x))(hB:Ls w (.slice b m cb) (limbs y)):
  Calls Tryz.prog 143 #[.slice a n ca,.slice b m cb] w (RetD (.int .i64 (cmpN x y)) w):=by
 obtain⟨_,_,hq,ha1,ha2⟩:=hA.open;cases hq
 obtain⟨_,_,hq,hb1,hb2⟩:=hB.open;cases hq
 unfold maxLen at ha2 hb2;have HA:=hI hA;have HB:=hI hB;clear hA hB
 by_cases hl:(limbs x).length=(limbs y).length
 ·have Hl:=hI hl
  have hc:cmpN x y=cmpN (natL (limbs x)) (natL (limbs y)):=by rw[qai,qai]
  rw[hc];have HK:=hI (fun k (hk:k<(limbs x).length) (hs:(limbs x).drop (k+1)=(limbs y).drop (k+1))=>And.intro (fun(h:(limbs x).getD k 0<(limbs y).getD k 0)=>qf0 hl hk (qal x) hs h) (fun(h:(limbs y).getD k 0<(limbs x).getD k 0)=>qf0 hl.symm (hl▸hk) (qal y) hs.symm h));generalize limbs x=lx at*;generalize limbs y=ly at*;generalize hn:lx.length=n at*;rw[←hl]at hb1;rw[←Hl.out];have Hn:=hI hn;have hB2:=HB.out;rw[←Hl.out]at hB2;clear HB;have HB:=hI hB2;clear hn hc hl hB2
  go_enter Tryz.func143,Tryz.ntmps143
  go_wp2_with fail
  go_loopw [5] (fun i wr=>∃k:Nat,k≤n∧i=.int .i64 ((k:Int)-1)∧BD w wr∧Hid (lx.drop k=ly.drop k)) (fun i _=>(intOf i+1).toNat)
  case atStart=>exact⟨n,Nat.le_refl _,rfl,BD.refl _,by unfold Hid;rw[List.drop_eq_nil_of_le (by rw[Hn.out];exact Nat.le_refl _),List.drop_eq_nil_of_le (by rw[←Hl.out];exact Nat.le_refl _)]⟩
  case round=>
   obtain⟨k,hk,rfl,hbw,hpre⟩:=hrel;rcases k with _|j
   ·have he:lx=ly:=by have:=hpre.out;rwa [List.drop_zero,List.drop_zero]at this
    have He:=hI he;clear he
    go_wp2_with fail
    go_ret
    exact⟨by rw[He.out];simp[cmpN],hbw⟩
   ·obtain⟨ba,oa,d,rfl,hd,c0⟩:=HA.out.at hbw.1 (show j<n by omega)
    obtain⟨bb,ob,e,rfl,he,d0⟩:=HB.out.at hbw.1 (show j<n by omega);have hij:((((j+1:Nat):Int)-1))=(j:Int):=by omega
    have hi64:IntKind.i64.wrap (j:Int)=j:=IntWalk.i64_in _ (by omega);have hi65:IntKind.i64.wrap ((j:Int)-1)=(j:Int)-1:=IntWalk.i64_in _ (by omega);have hj0:(0:Int)≤(j:Int):=Int.natCast_nonneg _;have hjn:(j:Int)<(n:Int):=by omega
    have Hd:=hI hd;have He:=hI he;rw[hij];clear hd he
    by_cases hde:d=e
    ·subst hde
     have hne:((d:Int)!=(d:Int))=false:=by simp
     go_wp2_with fail
     go_quiet (fail)
     go_wp2_with fail
     go_roundw
     case rel=>exact⟨j,by omega,by go_num,hbw.dn _,by unfold Hid;rw[List.drop_eq_getElem_cons (qbw Hd.out),List.drop_eq_getElem_cons (qbw He.out),hpre.out,qnn Hd.out,qnn He.out]⟩
     case measure=>simp[intOf]<;>omega
    ·have hne:((d:Int)!=(e:Int))=true:=by simp;omega
     have hk2:=HK.out j (by omega) hpre.out;rw[qgh Hd.out,qgh He.out]at hk2;have Hk2:=hI hk2;clear hk2;rcases Nat.lt_or_ge d e with hlt|hge
     ·have hlt2:(d:Int)<(e:Int):=by omega
      have hfin:cmpN (natL lx) (natL ly)=-1:=by unfold cmpN;rw[if_pos (Hk2.out.1 hlt)]
      rw[hfin];clear hfin
      go_wp2_with fail
      go_quiet (fail)
      go_wp2_with fail
      go_quiet (fail)
      go_wp2_with fail
      go_ret
      exact⟨rfl,(hbw.dn _).dn _⟩
     ·have hlt2:¬(d:Int)<(e:Int):=by omega
      have hgt:=Hk2.out.2 (by omega);have hfin:cmpN (natL lx) (natL ly)=1:=by unfold cmpN;rw[if_neg (by omega),if_pos hgt]
      rw[hfin];clear hfin
      go_wp2_with fail
      go_quiet (fail)
      go_wp2_with fail
      go_quiet (fail)
      go_wp2_with fail
      go_ret
      exact⟨rfl,(hbw.dn _).dn _⟩
 ·have hne:(((limbs x).length:Int)!=((limbs y).length:Int))=true:=by simp;omega
  rcases Nat.lt_or_ge (limbs x).length (limbs y).length with hlt|hge
  ·have hfin:cmpN x y=-1:=by unfold cmpN;rw[if_pos (qb6 hlt)]
   rw[hfin];generalize(limbs x).length=n at*;generalize(limbs y).length=m at*;have hlt2:(n:Int)<(m:Int):=by omega
   go_enter Tryz.func143,Tryz.ntmps143
   go_wp2_with fail
   go_ret
   exact⟨rfl,BD.refl _⟩
  ·have hgt:=qb6 (show(limbs y).length<(limbs x).length by omega)
   have hfin:cmpN x y=1:=by unfold cmpN;rw[if_neg (by omega),if_pos hgt]
   rw[hfin];generalize(limbs x).length=n at*;generalize(limbs y).length=m at*;have hlt2:¬(n:Int)<(m:Int):=by omega
   go_enter Tryz.func143,Tryz.ntmps143
   go_wp2_with fail
   go_ret
   exact⟨rfl,BD.refl _⟩
theorem qfv(a b:Option Addr)(n m ca cb:Nat)(x y:Nat)(w:World)(hA:Ls w (.slice a n ca) (limbs x))(hB:Ls w (.slice b m cb) (limbs y)):
  Calls Tryz.prog 143 #[.slice a n ca,.slice b m cb] w (Ret (.int .i64 (cmpN x y)) w):=(qll a b n m ca cb x y w hA hB).mono fun _ _ h=>h.ret
theorem qv1(v:Value)(z:Int)(w:World)(h:IntV w v z):Calls Tryz.prog 129 #[v] w (RetP (fun v' w'=>IntV w' v' (-z)) w):=by
 obtain⟨a,c,rfl,hl⟩:=h;have hv:IntV w (.agg #[.bool (decide (-z<0)),.slice a (limbs z.natAbs).length c]) (-z):=⟨a,c,by rw[Int.natAbs_neg],by rw[Int.natAbs_neg];exact hl⟩
 have hq:decide (-z<0)=(!decide (z<0)&&decide (0<(limbs z.natAbs).length)):=by
  have:=qcm (n:=z.natAbs);rw[Bool.eq_iff_iff];simp only[Bool.and_eq_true,Bool.not_eq_true',decide_eq_true_eq,decide_eq_false_iff_not]
  omega
 rw[hq]at hv;have HV:=hI hv;clear hv hq hl;generalize(limbs z.natAbs).length=k at*;generalize decide (z<0)=x at*;cases x
 ·by_cases hk:0<k
  ·have hk2:(0:Int)<(k:Int):=by omega
   go_enter Tryz.func129,Tryz.ntmps129
   go_wp2_with fail
   exact bodyPost_ret (v:=.agg #[.bool true,.slice a k c]) (by simp[results,Tryz.results129,go_sem]) rfl ⟨_,rfl,by have:=HV.out.mono (qaz w (.cells #[.bool false,.slice a k c] 75) (.cells #[.bool true,.slice a k c] 75));simpa[hk]using this,qaz w _ _⟩
  ·have hk2:¬(0:Int)<(k:Int):=by omega
   go_enter Tryz.func129,Tryz.ntmps129
   go_wp2_with fail
   exact bodyPost_ret (v:=.agg #[.bool false,.slice a k c]) (by simp[results,Tryz.results129,go_sem]) rfl ⟨_,rfl,by have:=HV.out.mono (qaz w (.cells #[.bool false,.slice a k c] 75) (.cells #[.bool false,.slice a k c] 75));simpa[hk]using this,qaz w _ _⟩
 ·go_enter Tryz.func129,Tryz.ntmps129
  go_wp2_with fail
  exact bodyPost_ret (v:=.agg #[.bool false,.slice a k c]) (by simp[results,Tryz.results129,go_sem]) rfl ⟨_,rfl,by have:=HV.out.mono (qaz w (.cells #[.bool true,.slice a k c] 75) (.cells #[.bool false,.slice a k c] 75));simpa using this,qaz w _ _⟩
def cmpZ(a b:Int):Int:=if a<b then -1 else if b<a then 1 else 0
theorem qk1(u v:Value)(y z:Int)(w:World)(h:IntV w u y)(h':IntV w v z):Calls Tryz.prog 116 #[u,v] w (RetD (.int .i64 (cmpZ y z)) w):=by
 obtain⟨a,c,rfl,hl⟩:=h;obtain⟨a',c',rfl,hl'⟩:=h';have hb0:=qaz w (.cells #[.bool (decide (y<0)),.slice a (limbs y.natAbs).length c] 75) (.cells #[.bool (decide (z<0)),.slice a' (limbs z.natAbs).length c'] 75);have H1:=hI (qll _ _ _ _ _ _ _ _ _ (hl.mono hb0) (hl'.mono hb0));have H2:=hI (qll _ _ _ _ _ _ _ _ _ (hl'.mono hb0) (hl.mono hb0));have Hb0:=hI hb0
 have hp:y<0→z<0→cmpZ y z=cmpN z.natAbs y.natAbs:=fun h1 h2=>by
  unfold cmpZ cmpN
  split<;>split<;>first|rfl|omega|(split<;>first|rfl|omega)
 have hq:¬y<0→¬z<0→cmpZ y z=cmpN y.natAbs z.natAbs:=fun h1 h2=>by
  unfold cmpZ cmpN
  split<;>split<;>first|rfl|omega|(split<;>first|rfl|omega)
 have hr:y<0→¬z<0→cmpZ y z=-1:=fun h1 h2=>by unfold cmpZ;rw[if_pos (by omega)]
 have hs:¬y<0→z<0→cmpZ y z=1:=fun h1 h2=>by unfold cmpZ;rw[if_neg (by omega),if_pos (by omega)]
 clear hl hl' hb0
 by_cases hy:y<0<;>by_cases hz:z<0
 ·rw[hp hy hz]
  rw[decide_eq_true hy,decide_eq_true hz]at*;generalize cmpN z.natAbs y.natAbs=R at*;clear hp hq hr hs
  go_enter Tryz.func116,Tryz.ntmps116
  go_wp2_with (go_at_call 143;refine(H2.out).mono ?_;rintro e w1 ⟨rfl,hb1⟩)
  go_ret
  exact⟨rfl,(bd2 w _ _).via hb1⟩
 ·rw[hr hy hz]
  rw[decide_eq_true hy,decide_eq_false hz]at*;clear hp hq hr hs H1 H2
  go_enter Tryz.func116,Tryz.ntmps116
  go_wp2_with fail
  go_ret
  exact⟨rfl,bd2 w _ _⟩
 ·rw[hs hy hz]
  rw[decide_eq_false hy,decide_eq_true hz]at*;clear hp hq hr hs H1 H2
  go_enter Tryz.func116,Tryz.ntmps116
  go_wp2_with fail
  go_ret
  exact⟨rfl,bd2 w _ _⟩
 ·rw[hq hy hz]
  rw[decide_eq_false hy,decide_eq_false hz]at*;generalize cmpN y.natAbs z.natAbs=R at*;clear hp hq hr hs
  go_enter Tryz.func116,Tryz.ntmps116
  go_wp2_with (go_at_call 143;refine(H1.out).mono ?_;rintro e w1 ⟨rfl,hb1⟩)
  go_ret
  exact⟨rfl,(bd2 w _ _).via hb1⟩
theorem qbh(u v:Value)(y z:Int)(w:World)(h:IntV w u y)(h':IntV w v z):Calls Tryz.prog 116 #[u,v] w (Ret (.int .i64 (cmpZ y z)) w):=(qk1 u v y z w h h').mono fun _ _ h=>h.ret
namespace Dr
theorem rdR{v:Value}{w w':World}{e:Ending}(h:RetD v w e w'):Ret v w e w':=⟨h.1,h.2.1,h.2.2⟩
theorem Ret.bd{v:Value}{w w':World}{e:Ending}(h:Ret v w e w'):RetD v w e w':=⟨h.1,h.2.b,h.2.d⟩
theorem qdo(v:Value)(z:Int)(w:World)(h:IntV w v z):Calls Tryz.prog 131 #[v] w (Ret (.int .i64 z.sign) w):=(qpi v z w h).mono fun _ _ h=>rdR h
theorem qbh(u v:Value)(y z:Int)(w:World)(h:IntV w u y)(h':IntV w v z):Calls Tryz.prog 116 #[u,v] w (Ret (.int .i64 (cmpZ y z)) w):=(qk1 u v y z w h h').mono fun _ _ h=>rdR h
end Dr
end Go.Proofs.YtacihodamichhaaGreatDoor
namespace Go.Proofs.YtacihodamichhaaGreatDoor
open Go.RowKit
def MagV(w:World)(v:Value)(N:Nat):Prop:=∃a c,v=.slice a (limbs N).length c∧Ls w (.slice a (limbs N).length c) (limbs N)
theorem MagV.mono{w w':World}{v:Value}{N:Nat}(h:MagV w v N)(hb:Below w.heap.size w w'):MagV w' v N:=by
 obtain⟨a,c,hv,h⟩:=h;exact⟨a,c,hv,h.mono hb⟩
def Out(M:Nat)(w:World)(g:Nat)(xs:List Nat):Prop:=w.ownsRow M 62 1 (.slice (some ⟨g,0,none⟩) xs.length xs.length) xs.length (u32s xs)
theorem Out.cell{M:Nat}{w:World}{g:Nat}{xs:List Nat}(h:Out M w g xs){i d:Nat}(hd:xs[i]?=some d):w.cell? ⟨g,i,none⟩=some (.int .u32 (d:Int))∧w.frozen? ⟨g,i,none⟩=false:=by
 constructor
 ·have hS:Ls w (.slice (some ⟨g,0,none⟩) xs.length xs.length) xs:=Sl.own1 h
  obtain⟨b,off,d',ha,hd',hc⟩:=hS.at (Below.refl _ _) (qbw hd);cases ha
  rw[hd]at hd';cases hd'
  rwa [Nat.zero_add]at hc
 ·rcases h.2 with⟨h1,h0⟩|⟨g',cap',cur,h1,hb,hg,_⟩
  ·cases h1
  ·cases h1
   exact frozen_of_row w g _ _ _ hg
theorem Out.set{M:Nat}{w:World}{g:Nat}{xs:List Nat}(h:Out M w g xs){i:Nat}(hi:i<xs.length)(d:Nat):Out M (w.setCell ⟨g,i,none⟩ (.int .u32 (d:Int))) g (xs.set i d):=by
 have h1:=qak h (i:=i) (by omega) (.int .u32 (d:Int));unfold Out;rw[List.length_set];have e:u32s (xs.set i d)=(u32s xs).set i (.int .u32 (d:Int)):=by unfold u32s;rw[List.map_set]
 rw[e];exact h1
theorem Out.ls{M:Nat}{w:World}{g:Nat}{xs:List Nat}(h:Out M w g xs):Ls w (.slice (some ⟨g,0,none⟩) xs.length xs.length) xs:=Sl.own1 h
theorem Out.below{M:Nat}{w w':World}{g:Nat}{xs:List Nat}(h:Out M w g xs)(hb:Below w.heap.size w w'):Out M w' g xs:=qaf h hb
theorem Out.ge{M:Nat}{w:World}{g:Nat}{xs:List Nat}(h:Out M w g xs):M≤g:=(h.lt g rfl).1
theorem qte(n:Nat):(madeCells (Value.int .u32 0).cells (n*1)).toList=u32s (List.replicate n 0):=by
 simp only[madeCells,Value.cells,Nat.mul_one,u32s,List.map_replicate]
 apply List.ext_getElem<;>simp
 intro i hi;simp[Nat.mod_one]
theorem Out.made{M:Nat}{w:World}{g n:Nat}(h:w.ownsRow M 62 1 (.slice (some ⟨g,0,none⟩) n n) n (madeCells (Value.int .u32 0).cells (n*1)).toList):Out M w g (List.replicate n 0):=by
 rw[qte]at h;unfold Out;rw[List.length_replicate];exact h
theorem Out.next{M:Nat}{w:World}{g n:Nat}{done:List Nat}(h:Out M w g (done++List.replicate (n+1) 0)):w.cell? ⟨g,done.length,none⟩=some (.int .u32 0)∧w.frozen? ⟨g,done.length,none⟩=false:=by
 have:=h.cell (i:=done.length) (d:=0) (by rw[List.getElem?_append_right (Nat.le_refl _),Nat.sub_self];rfl);exact this
theorem Out.write{M:Nat}{w:World}{g n:Nat}{done:List Nat}(h:Out M w g (done++List.replicate (n+1) 0))(d:Nat):Out M (w.setCell ⟨g,done.length,none⟩ (.int .u32 (d:Int))) g ((done++[d])++List.replicate n 0):=by
 have:=h.set (i:=done.length) (by simp) d
 rwa [qmw]at this
def MagA(w:World)(v:Value)(N:Nat):Prop:=∃a c,v=.slice a (limbs N).length c∧Ls w (.slice a (limbs N).length c) (limbs N)∧AU w a
theorem MagA.mag{w:World}{v:Value}{N:Nat}(h:MagA w v N):MagV w v N:=by
 obtain⟨a,c,hv,h,-⟩:=h;exact⟨a,c,hv,h⟩
theorem Out.au{M:Nat}{w:World}{g:Nat}{xs:List Nat}(h:Out M w g xs):AU w (some ⟨g,0,none⟩):=fun p hp=>by
 cases hp
 rcases h.2 with⟨hv,_⟩|⟨g',cap,cur,hv,-,hgb,-⟩
 ·cases hv
 ·cases hv
  exact⟨cur,hgb⟩
theorem qsn(a:Option Addr)(n c:Nat)(l:List Nat)(by' plus:Nat)(w:World)(hL:Ls w (.slice a n c) l)(hd:Dg l)(hn1:l.length<1000000)(hby:by'<4294967296)(hplus:plus<4294967296):
  Calls Tryz.prog 195 #[.slice a n c,.int .u32 (by':Int),.int .u32 (plus:Int)] w (RetP (fun v w'=>MagA w' v (natL l*by'+plus)) w):=by
 obtain⟨_,_,hq,hc1,hc2⟩:=hL.open;cases hq
 unfold maxLen at hc2;have hi:(Tryz.prog.info? 62).map (fun i=>(i.zero,i.size,i.bytes))=some (some (.int .u32 0),1,4):=by kernel_rfl
 obtain⟨i4,hi4,hz0,hz1,hz2⟩:=info_parts hi;clear hi;have HL:=hI hL;have Hd:=hI hd;clear hL hd;generalize hn:l.length=n at*;have Hn:=hI hn;clear hn
 go_enter Tryz.func195,Tryz.ntmps195
 go_wp2_with (at_make;refine wpList_make_full _ rfl _ _ 73 rfl (w.heap.size) 62 i4 (.int .u32 0) 1 Tryz.underlying73 hi4 hz0 hz1 .i64 .i64 _ _ (n+1) rfl rfl (by omega) (by omega) (by rw[hz2];omega) (by unfold maxLen;omega) (by simp) ?_;intro w1 hown hg)
 have hO:=Out.made hown;have hb1:Below w.heap.size w w1:=(Below.refl _ _).grown hg (Nat.le_refl _) (fun b hb=>by cases hb);clear hown hg hi4 hz0 hz1 hz2
 go_loopw [8,9,10,19] (fun cv _ _ i wr=>∃(k cr:Nat) (done:List Nat),k≤n∧i=.int .i64 k∧cv=.int .u64 (cr:Int)∧cr<4294967296∧Below w.heap.size w wr∧Out w.heap.size wr w.heap.size (done++List.replicate (n+1-k) 0)∧Hid (done.length=k∧Dg done∧natL done+4294967296^k*cr=natL (l.take k)*by'+plus)) (fun _ _ _ i _=>n-(intOf i).toNat)
 case atStart=>exact⟨0,plus,[],Nat.zero_le _,rfl,rfl,hplus,hb1,hO,rfl,(fun d hd=>by simp at hd),by simp[natL]⟩
 case round=>
  clear hO hb1;obtain⟨k,cr,done,hk,rfl,rfl,hcr,hbw,hO,hpre⟩:=hrel
  by_cases hlt:k<n
  ·obtain⟨b,off,d,rfl,hdk,c0⟩:=HL.out.at hbw hlt
   have Hdk:=hI hdk;have hdlt:=Hd.out d (List.mem_of_getElem? hdk);have hm:d*by'≤4294967295*4294967295:=Nat.mul_le_mul (by omega) (by omega);obtain⟨p,hp⟩:∃p,d*by'=p:=⟨_,rfl⟩
   have hpi:(d:Int)*(by':Int)=(p:Int):=by rw[←hp];push_cast;rfl
   rw[hp]at hm;obtain⟨t,ht⟩:∃t,cr+p=t:=⟨_,rfl⟩
   have hw1:IntKind.u64.wrap ((d:Int)*(by':Int))=(p:Int):=by rw[hpi];exact IntWalk.u64_in _ (by omega)
   have hw2:IntKind.u64.wrap ((cr:Int)+(p:Int))=(t:Int):=by rw[←ht];exact(IntWalk.u64_in _ (by omega)).trans (by omega)
   have hO2:=hO;rw[show n+1-k=(n-k)+1 by omega]at hO2;obtain⟨g0,g1⟩:=hO2.next;rw[hpre.out.1]at g0 g1;have e1:((t%4294967296:Nat):Int)=(t:Int)%4294967296:=by omega
   have e2:((t/4294967296:Nat):Int)=(t:Int)/4294967296:=by omega
   have hwr:=hO2.write (t%4294967296);rw[hpre.out.1,e1]at hwr;have Hwr:=hI hwr;have Hbw:=hI (hbw.setCell (p:=⟨w.heap.size,k,none⟩) (Nat.le_refl _) (.int .u32 ((t:Int)%4294967296)));have htlt:t/4294967296<4294967296:=by omega
   have Hst:=hI (qbr (T:=p) (t:=t) hpre.out.1 hpre.out.2.2 ht.symm);have hkk0:(0:Int)≤(k:Int):=Int.natCast_nonneg _;have hkk1:(k:Int)<(n:Int):=by omega
   have Hp:=hI hp;have Ht:=hI ht;have HO:=hI hO;clear hO2 hwr hdk hm hpi hp ht hO
   go_wp2_with fail
   go_roundw
   case rel=>
    refine⟨k+1,t/4294967296,done++[t%4294967296],by omega,by go_num,by rw[e2],htlt,Hbw.out,by rw[show n+1-(k+1)=n-k by omega];exact Hwr.out,by rw[List.length_append,hpre.out.1];rfl,hpre.out.2.1.append (Dg.one (Nat.mod_lt _ (by decide))),?_⟩
    rw[Hst.out,qaj Hdk.out,Nat.add_mul,←Hp.out,←Nat.mul_assoc]
    omega
   case measure=>simp[intOf];omega
  ·obtain rfl:k=n:=by omega
   have hO2:=hO;rw[show k+1-k=0+1 by omega]at hO2;obtain⟨g0,g1⟩:=hO2.next;have hwr:=hO2.write cr;rw[hpre.out.1]at g0 g1 hwr;rw[List.replicate_zero,List.append_nil]at hwr;have hbel:=hbw.setCell (p:=⟨w.heap.size,k,none⟩) (Nat.le_refl _) (.int .u32 (cr:Int));have hdg:Dg (done++[cr]):=hpre.out.2.1.append (Dg.one hcr)
   have hnat:natL (done++[cr])=natL l*by'+plus:=by
    rw[qaw,hpre.out.1,hpre.out.2.2,←Hn.out,List.take_length]
   have hlen:(done++[cr]).length=k+1:=by rw[List.length_append,hpre.out.1];rfl
   have hls:=hwr.ls;rw[hlen]at hls;have H:=qc0 _ _ _ _ _ hls hdg;rw[hnat]at H;have HT:=hI H;have Hbel:=hI hbel;have HAU:=hI (Out.au hwr);have hwc:IntKind.u32.wrap (cr:Int)=cr:=IntWalk.u32_in _ (by omega);have hcm:(cr:Int)%4294967296=cr:=by omega
   clear hO hO2 hwr hbel hdg hnat hlen hls H
   go_wp2_with (go_at_call 172;refine(HT.out).mono ?_;rintro e w2 ⟨rfl,hl2,hb2⟩)
   go_ret
   exact⟨_,rfl,⟨_,_,rfl,hl2.mono hb2,HAU.out.mono hb2⟩,Hbel.out.via hb2 Hbel.out.size⟩
end Go.Proofs.YtacihodamichhaaGreatDoor
namespace Go.Proofs.YtacihodamichhaaGreatDoor
open Go.RowKit
def RawV(w:World)(v:Value)(N k:Nat):Prop:=∃xs a c,v=.slice a xs.length c∧Ls w (.slice a xs.length c) xs∧Dg xs∧natL xs=N∧xs.length≤k
theorem qs5(a b:Option Addr)(n m c c':Nat)(l l':List Nat)(w:World)(hL:Ls w (.slice a n c) l)(hM:Ls w (.slice b m c') l')(hd:Dg l)(hd':Dg l')(hn1:l.length<1000000)(hm1:l'.length<1000000):
  Calls Tryz.prog 142 #[.slice a n c,.slice b m c'] w (RetP (fun v w'=>RawV w' v (natL l+natL l') (max l.length l'.length+1)) w):=by
 obtain⟨_,_,hq,hc1,hc2⟩:=hL.open;cases hq
 obtain⟨_,_,hq,hc3,hc4⟩:=hM.open;cases hq
 unfold maxLen at hc2 hc4;have hi:(Tryz.prog.info? 62).map (fun i=>(i.zero,i.size,i.bytes))=some (some (.int .u32 0),1,4):=by kernel_rfl
 obtain⟨i4,hi4,hz0,hz1,hz2⟩:=info_parts hi;clear hi;have HL:=hI hL;have HM:=hI hM;have Hd:=hI hd;have Hd':=hI hd';clear hL hM hd hd';generalize hn:l.length=n at*;generalize hm:l'.length=m at*;have Hn:=hI hn;have Hm:=hI hm;clear hn hm
 by_cases hnm:n<m
 ·have hnm2:(n:Int)<(m:Int):=by omega
  go_enter Tryz.func142,Tryz.ntmps142
  go_wp2_with (at_make;refine wpList_make_full _ rfl _ _ 73 rfl (w.heap.size) 62 i4 (.int .u32 0) 1 Tryz.underlying73 hi4 hz0 hz1 .i64 .i64 _ _ (m+1) rfl rfl (by omega) (by omega) (by rw[hz2];omega) (by unfold maxLen;omega) (by simp) ?_;intro w1 hown hg)
  have hO:=Out.made hown;have hb1:Below w.heap.size w w1:=(Below.refl _ _).grown hg (Nat.le_refl _) (fun b hb=>by cases hb);clear hown hg hi4 hz0 hz1 hz2
  go_loopw [6,7,8,22] (fun cv _ _ i wr=>∃(k cr:Nat) (done:List Nat),k≤m∧i=.int .i64 k∧cv=.int .u64 (cr:Int)∧cr<4294967296∧Below w.heap.size w wr∧Out w.heap.size wr w.heap.size (done++List.replicate (m+1-k) 0)∧Hid (done.length=k∧Dg done∧natL done+4294967296^k*cr=natL (l'.take k)+natL (l.take k))) (fun _ _ _ i _=>m-(intOf i).toNat)
  case atStart=>exact⟨0,0,[],Nat.zero_le _,rfl,rfl,by decide,hb1,hO,rfl,(fun d hd=>by simp at hd),by simp[natL]⟩
  case round=>
   clear hO hb1;obtain⟨k,cr,done,hk,rfl,rfl,hcr,hbw,hO,hpre⟩:=hrel
   by_cases hlt:k<m
   ·obtain⟨b1,off,d,rfl,hdk,c0⟩:=HM.out.at hbw hlt
    have Hdk:=hI hdk;have hdlt:=Hd'.out d (List.mem_of_getElem? hdk);have hO2:=hO;rw[show m+1-k=(m-k)+1 by omega]at hO2;obtain⟨g0,g1⟩:=hO2.next;rw[hpre.out.1]at g0 g1;have hkk0:(0:Int)≤(k:Int):=Int.natCast_nonneg _;have hkk1:(k:Int)<(m:Int):=by omega
    have hu:IntKind.u64.wrap ((cr:Int)+(d:Int))=((cr+d:Nat):Int):=(IntWalk.u64_in _ (by omega)).trans (by omega);obtain⟨s,hs⟩:∃s,cr+d=s:=⟨_,rfl⟩
    rw[hs]at hu;have hslt:s<8589934592:=by omega
    have Hs:=hI hs;clear hs hdk
    by_cases hkm:k<n
    ·obtain⟨b2,off2,e,rfl,hek,d0⟩:=HL.out.at hbw hkm
     have Hek:=hI hek;have helt:=Hd.out e (List.mem_of_getElem? hek);have hkk2:(k:Int)<(n:Int):=by omega
     obtain⟨t,ht⟩:∃t,s+e=t:=⟨_,rfl⟩
     have hu2:IntKind.u64.wrap ((s:Int)+(e:Int))=(t:Int):=by rw[←ht];exact(IntWalk.u64_in _ (by omega)).trans (by omega)
     have Hst:=hI (qbr (T:=d+e) (t:=t) hpre.out.1 hpre.out.2.2 (by have:=Hs.out;omega));have Htk:=hI (show natL (l'.take (k+1))+natL (l.take (k+1))=natL (l'.take k)+natL (l.take k)+4294967296^k*(d+e)by rw[qaj Hdk.out,qaj Hek.out,Nat.mul_add];omega);have htlt:t/4294967296<4294967296:=by omega
     clear ht hek;have e1:((t%4294967296:Nat):Int)=(t:Int)%4294967296:=by omega
     have e2:((t/4294967296:Nat):Int)=(t:Int)/4294967296:=by omega
     have hwr:=hO2.write (t%4294967296);rw[hpre.out.1,e1]at hwr;have Hwr:=hI hwr;have Hbw:=hI (hbw.setCell (p:=⟨w.heap.size,k,none⟩) (Nat.le_refl _) (.int .u32 ((t:Int)%4294967296)));clear hO2 hwr hO
     go_wp2_with fail
     go_roundw
     case rel=>
      refine⟨k+1,t/4294967296,done++[t%4294967296],by omega,by go_num,by rw[e2],htlt,Hbw.out,by rw[show m+1-(k+1)=m-k by omega];exact Hwr.out,by rw[List.length_append,hpre.out.1];rfl,hpre.out.2.1.append (Dg.one (Nat.mod_lt _ (by decide))),?_⟩
      rw[Hst.out,Htk.out]
     case measure=>simp[intOf];omega
    ·have hkk2:¬(k:Int)<(n:Int):=by omega
     obtain⟨t,ht⟩:∃t,s=t:=⟨_,rfl⟩
     subst ht;have Hst:=hI (qbr (T:=d) (t:=s) hpre.out.1 hpre.out.2.2 (by have:=Hs.out;omega));have Htk:=hI (show natL (l'.take (k+1))+natL (l.take (k+1))=natL (l'.take k)+natL (l.take k)+4294967296^k*d by rw[qaj Hdk.out,List.take_of_length_le (l:=l) (by rw[Hn.out];omega),List.take_of_length_le (l:=l) (by rw[Hn.out];omega)];omega);have htlt:s/4294967296<4294967296:=by omega
     have e1:((s%4294967296:Nat):Int)=(s:Int)%4294967296:=by omega
     have e2:((s/4294967296:Nat):Int)=(s:Int)/4294967296:=by omega
     have hwr:=hO2.write (s%4294967296);rw[hpre.out.1,e1]at hwr;have Hwr:=hI hwr;have Hbw:=hI (hbw.setCell (p:=⟨w.heap.size,k,none⟩) (Nat.le_refl _) (.int .u32 ((s:Int)%4294967296)));clear hO2 hwr hO
     go_wp2_with fail
     go_roundw
     case rel=>
      refine⟨k+1,s/4294967296,done++[s%4294967296],by omega,by go_num,by rw[e2],htlt,Hbw.out,by rw[show m+1-(k+1)=m-k by omega];exact Hwr.out,by rw[List.length_append,hpre.out.1];rfl,hpre.out.2.1.append (Dg.one (Nat.mod_lt _ (by decide))),?_⟩
      rw[Hst.out,Htk.out]
     case measure=>simp[intOf];omega
   ·obtain rfl:k=m:=by omega
    have hO2:=hO;rw[show k+1-k=0+1 by omega]at hO2;obtain⟨g0,g1⟩:=hO2.next;have hwr:=hO2.write cr;rw[hpre.out.1]at g0 g1 hwr;rw[List.replicate_zero,List.append_nil]at hwr;have hbel:=hbw.setCell (p:=⟨w.heap.size,k,none⟩) (Nat.le_refl _) (.int .u32 (cr:Int));have hdg:Dg (done++[cr]):=hpre.out.2.1.append (Dg.one hcr)
    have hnat:natL (done++[cr])=natL l+natL l':=by
     rw[qaw,hpre.out.1,hpre.out.2.2,List.take_of_length_le (l:=l') (by rw[Hm.out];omega),List.take_of_length_le (l:=l) (by rw[Hn.out];omega)];exact Nat.add_comm _ _
    have hlen:(done++[cr]).length=k+1:=by rw[List.length_append,hpre.out.1];rfl
    have hls:=hwr.ls;have Hls:=hI hls;have Hbel:=hI hbel;have hcm:(cr:Int)%4294967296=cr:=by omega
    have hmx:k+1≤max n k+1:=by omega
    have Hlen:=hI hlen;have Hdg:=hI hdg;have Hnat:=hI hnat;clear hO hO2 hwr hbel hdg hnat hlen hls
    go_wp2_with fail
    go_ret
    exact⟨_,by rw[←Hlen.out];rfl,⟨done++[cr],_,_,rfl,Hls.out,Hdg.out,Hnat.out,by rw[Hlen.out];exact hmx⟩,Hbel.out⟩
 ·have hnm2:¬(n:Int)<(m:Int):=by omega
  go_enter Tryz.func142,Tryz.ntmps142
  go_wp2_with (at_make;refine wpList_make_full _ rfl _ _ 73 rfl (w.heap.size) 62 i4 (.int .u32 0) 1 Tryz.underlying73 hi4 hz0 hz1 .i64 .i64 _ _ (n+1) rfl rfl (by omega) (by omega) (by rw[hz2];omega) (by unfold maxLen;omega) (by simp) ?_;intro w1 hown hg)
  have hO:=Out.made hown;have hb1:Below w.heap.size w w1:=(Below.refl _ _).grown hg (Nat.le_refl _) (fun b hb=>by cases hb);clear hown hg hi4 hz0 hz1 hz2
  go_loopw [6,7,8,22] (fun cv _ _ i wr=>∃(k cr:Nat) (done:List Nat),k≤n∧i=.int .i64 k∧cv=.int .u64 (cr:Int)∧cr<4294967296∧Below w.heap.size w wr∧Out w.heap.size wr w.heap.size (done++List.replicate (n+1-k) 0)∧Hid (done.length=k∧Dg done∧natL done+4294967296^k*cr=natL (l.take k)+natL (l'.take k))) (fun _ _ _ i _=>n-(intOf i).toNat)
  case atStart=>exact⟨0,0,[],Nat.zero_le _,rfl,rfl,by decide,hb1,hO,rfl,(fun d hd=>by simp at hd),by simp[natL]⟩
  case round=>
   clear hO hb1;obtain⟨k,cr,done,hk,rfl,rfl,hcr,hbw,hO,hpre⟩:=hrel
   by_cases hlt:k<n
   ·obtain⟨b1,off,d,rfl,hdk,c0⟩:=HL.out.at hbw hlt
    have Hdk:=hI hdk;have hdlt:=Hd.out d (List.mem_of_getElem? hdk);have hO2:=hO;rw[show n+1-k=(n-k)+1 by omega]at hO2;obtain⟨g0,g1⟩:=hO2.next;rw[hpre.out.1]at g0 g1;have hkk0:(0:Int)≤(k:Int):=Int.natCast_nonneg _;have hkk1:(k:Int)<(n:Int):=by omega
    have hu:IntKind.u64.wrap ((cr:Int)+(d:Int))=((cr+d:Nat):Int):=(IntWalk.u64_in _ (by omega)).trans (by omega);obtain⟨s,hs⟩:∃s,cr+d=s:=⟨_,rfl⟩
    rw[hs]at hu;have hslt:s<8589934592:=by omega
    have Hs:=hI hs;clear hs hdk
    by_cases hkm:k<m
    ·obtain⟨b2,off2,e,rfl,hek,d0⟩:=HM.out.at hbw hkm
     have Hek:=hI hek;have helt:=Hd'.out e (List.mem_of_getElem? hek);have hkk2:(k:Int)<(m:Int):=by omega
     obtain⟨t,ht⟩:∃t,s+e=t:=⟨_,rfl⟩
     have hu2:IntKind.u64.wrap ((s:Int)+(e:Int))=(t:Int):=by rw[←ht];exact(IntWalk.u64_in _ (by omega)).trans (by omega)
     have Hst:=hI (qbr (T:=d+e) (t:=t) hpre.out.1 hpre.out.2.2 (by have:=Hs.out;omega));have Htk:=hI (show natL (l.take (k+1))+natL (l'.take (k+1))=natL (l.take k)+natL (l'.take k)+4294967296^k*(d+e)by rw[qaj Hdk.out,qaj Hek.out,Nat.mul_add];omega);have htlt:t/4294967296<4294967296:=by omega
     clear ht hek;have e1:((t%4294967296:Nat):Int)=(t:Int)%4294967296:=by omega
     have e2:((t/4294967296:Nat):Int)=(t:Int)/4294967296:=by omega
     have hwr:=hO2.write (t%4294967296);rw[hpre.out.1,e1]at hwr;have Hwr:=hI hwr;have Hbw:=hI (hbw.setCell (p:=⟨w.heap.size,k,none⟩) (Nat.le_refl _) (.int .u32 ((t:Int)%4294967296)));clear hO2 hwr hO
     go_wp2_with fail
     go_roundw
     case rel=>
      refine⟨k+1,t/4294967296,done++[t%4294967296],by omega,by go_num,by rw[e2],htlt,Hbw.out,by rw[show n+1-(k+1)=n-k by omega];exact Hwr.out,by rw[List.length_append,hpre.out.1];rfl,hpre.out.2.1.append (Dg.one (Nat.mod_lt _ (by decide))),?_⟩
      rw[Hst.out,Htk.out]
     case measure=>simp[intOf];omega
    ·have hkk2:¬(k:Int)<(m:Int):=by omega
     obtain⟨t,ht⟩:∃t,s=t:=⟨_,rfl⟩
     subst ht;have Hst:=hI (qbr (T:=d) (t:=s) hpre.out.1 hpre.out.2.2 (by have:=Hs.out;omega));have Htk:=hI (show natL (l.take (k+1))+natL (l'.take (k+1))=natL (l.take k)+natL (l'.take k)+4294967296^k*d by rw[qaj Hdk.out,List.take_of_length_le (l:=l') (by rw[Hm.out];omega),List.take_of_length_le (l:=l') (by rw[Hm.out];omega)];omega);have htlt:s/4294967296<4294967296:=by omega
     have e1:((s%4294967296:Nat):Int)=(s:Int)%4294967296:=by omega
     have e2:((s/4294967296:Nat):Int)=(s:Int)/4294967296:=by omega
     have hwr:=hO2.write (s%4294967296);rw[hpre.out.1,e1]at hwr;have Hwr:=hI hwr;have Hbw:=hI (hbw.setCell (p:=⟨w.heap.size,k,none⟩) (Nat.le_refl _) (.int .u32 ((s:Int)%4294967296)));clear hO2 hwr hO
     go_wp2_with fail
     go_roundw
     case rel=>
      refine⟨k+1,s/4294967296,done++[s%4294967296],by omega,by go_num,by rw[e2],htlt,Hbw.out,by rw[show n+1-(k+1)=n-k by omega];exact Hwr.out,by rw[List.length_append,hpre.out.1];rfl,hpre.out.2.1.append (Dg.one (Nat.mod_lt _ (by decide))),?_⟩
      rw[Hst.out,Htk.out]
     case measure=>simp[intOf];omega
   ·obtain rfl:k=n:=by omega
    have hO2:=hO;rw[show k+1-k=0+1 by omega]at hO2;obtain⟨g0,g1⟩:=hO2.next;have hwr:=hO2.write cr;rw[hpre.out.1]at g0 g1 hwr;rw[List.replicate_zero,List.append_nil]at hwr;have hbel:=hbw.setCell (p:=⟨w.heap.size,k,none⟩) (Nat.le_refl _) (.int .u32 (cr:Int));have hdg:Dg (done++[cr]):=hpre.out.2.1.append (Dg.one hcr)
    have hnat:natL (done++[cr])=natL l+natL l':=by
     rw[qaw,hpre.out.1,hpre.out.2.2,List.take_of_length_le (l:=l) (by rw[Hn.out];omega),List.take_of_length_le (l:=l') (by rw[Hm.out];omega)]
    have hlen:(done++[cr]).length=k+1:=by rw[List.length_append,hpre.out.1];rfl
    have hls:=hwr.ls;have Hls:=hI hls;have Hbel:=hI hbel;have hcm:(cr:Int)%4294967296=cr:=by omega
    have hmx:k+1≤max k m+1:=by omega
    have Hlen:=hI hlen;have Hdg:=hI hdg;have Hnat:=hI hnat;clear hO hO2 hwr hbel hdg hnat hlen hls
    go_wp2_with fail
    go_ret
    exact⟨_,by rw[←Hlen.out];rfl,⟨done++[cr],_,_,rfl,Hls.out,Hdg.out,Hnat.out,by rw[Hlen.out];exact hmx⟩,Hbel.out⟩
end Go.Proofs.YtacihodamichhaaGreatDoor
