/- Parts of the proof. -/
import Derived.ProofKit
import Derived.Lib.SmallJoins
import Derived.Deep.Slices
import Derived.Deep.Fields
import Derived.Deep.Matrix
import Derived.Deep.SlicePairs
import Derived.ChangeSame
import Derived.Test.YtacihodamichhaaGreatDoorU24
import Derived.Test.YtacihodamichhaaGreatDoorU28
set_option maxHeartbeats 4000000
namespace Go.Proofs.YtacihodamichhaaGreatDoor
open Go.ChangeShapes Go.WideShapes Go.ChangeAt Go.RowKit
theorem qe8:laidOutB Tryz.prog=true:=by kernel_rfl
section
variable {H:Type} {enc:TypeId × Value→H} {P:Program}
theorem qi7{f:Func}{s:ChangeSpec}{apart fresh handsOn again:Bool}{W W':World}{args:Array Value}{v:Value}{ds gs:List (DataW H)}{before pa pv:List MemPlace}
  (hW:DataW.Whole enc P f.params.toList s.vars apart W args.toList ds gs before)
  (hres:∀(b:Nat) (sp:Nat→Bool) (hd:Bool),DataW.TrodAll enc P W' b sp hd f.resultTypes.toList (v.resultList f.resultTypes.size) (s.fn H (ds++gs)).results [])
  (hargs:∀sp:Nat→Bool,(∀p∈before,sp p.block=true)→DataW.TrodAll enc P W' 0 sp true f.params.toList args.toList (s.fn H (ds++gs)).args pa)
  (hvars:∀sp:Nat→Bool,(∀p∈before,sp p.block=true)→DataW.TrodVars enc P W' sp s.vars (s.fn H (ds++gs)).vars pv)
  (hps:before=pa++pv) (hb:Below W.heap.size W W')
  (hok:∀(j:Nat) (t:TypeId) (r:Value),f.resultTypes[j]?=some t→(v.resultList f.resultTypes.size)[j]?=some r→Value.okWide P W' .any 0 t r):
  s.post enc P f apart fresh handsOn again W args v W':=by
 have hlt:∀p∈before,p.block<W.heap.size:=fun p hp=>hW.lt p hp
 have hold:∀p∈before,(fun b=>decide (b<W.heap.size)) p.block=true:=fun p hp=>by simpa using hlt p hp
 refine⟨ds,gs,before,[],pa,pv,hW,hres _ _ _,hargs _ hold,hvars _ hold,World.keptBut_mono (fun p hp=>⟨hp,?_⟩) (hb.frame (·∈before)),fun _=>?_⟩
 ·rw[hps,List.mem_append]at hp
  exact Or.inr hp
 ·obtain⟨_,_,_,_,_,hz,hn⟩:=hW
  refine⟨hok,_,_,([]++pa)++pv,⟨[]++pa,pv,trodAll_append (hargs _ (fun _ _=>rfl)) (hres _ _ _),hvars _ (fun _ _=>rfl),rfl,?_,?_⟩,?_⟩
  ·intro b off hp
   have hin:MemPlace.cell b off∈before:=by rw[hps];simpa using hp
   rw[hb.frozen (hlt _ hin)];exact hz b off hin
  ·intro ha
   have:=hn ha;rw[hps]at this
   simpa using this
  ·intro p hp _
   rw[hps]
   simpa using hp
end
section
variable {H:Type} {enc:TypeId × Value→H} {w:World} {base:Nat} {held:Bool}
theorem qpg{a:Addr}{v:Value}(h:w.cell? a=some v):a=⟨a.block,a.off,none⟩∧a.block<w.heap.size:=by
 refine⟨?_,World.block_lt_of_cell? w a h⟩
 obtain⟨b,o,s⟩:=a;cases s with
 |none=>rfl
 |some n=>
  exfalso
  unfold World.cell? at h
  split at h<;>simp at h
theorem qxy{a:Addr}{len cap sz:Nat}{rows:List (List Value)}(hsz:0<sz)(hr:rows.length=len)(hl:len≤cap)(hm:cap≤maxLen)(h:∀i j,i<cap→j<sz→∃v,w.cell? (a.add (i*sz+j))=some v∧(i<len→v=(rows.getD i []).getD j undef)):Sl w sz (.slice (some a) len cap) rows:=by
 subst hr;refine⟨some a,cap,rfl,hl,hm,?_⟩
 rcases Nat.eq_zero_or_pos cap with h0|h0
 ·exact .inl h0
 ·obtain⟨v0,hv0,_⟩:=h 0 0 h0 hsz
  rw[Nat.zero_mul,Nat.zero_add,show a.add 0=a by simp[Addr.add]]at hv0;obtain⟨ha,hb⟩:=qpg hv0;obtain⟨b,o,s⟩:=a;simp only[Addr.mk.injEq,true_and]at ha;subst ha;refine .inr ⟨b,o,rfl,hb,fun i j hi hj=>?_⟩
  obtain⟨v,hv,he⟩:=h i j (by omega) hj;rw[←he hi,←hv]
  congr 1
  unfold Addr.add
  split
  ·rename_i h0
   rw[Nat.add_assoc,h0,Nat.add_zero]
  ·rw[Nat.add_assoc]
instance:Inhabited Iv:=⟨⟨⟨#[]⟩,⟨#[]⟩,0,0⟩⟩
set_option maxRecDepth 100000 in
theorem qtk{n:Nat}{cs:List Value}{x:DataW H × List MemPlace}(h:DataW.trod enc Tryz.prog w base (fun _=>true) held n 46 cs=some x):∃y:Iv,cs=y.row:=by
 have hu:=Tryz.underlying46;obtain⟨ys,m,-,-,hlen,hyl,hf⟩:=DataW.trod_struct hu h;have hl4:cs.length=4:=hlen.trans (by kernel_rfl)
 match cs,hl4 with
 |[c0,c1,c2,c3],_=>
  have hyl4:ys.length=4:=hyl
  match ys,hyl4 with
  |[y0,y1,y2,y3],_=>
   have g0:DataW.trod enc Tryz.prog w base (fun _=>true) held m 23 (([c0,c1,c2,c3].drop 0).take (Tryz.prog.cellsOf 23))=[y0,y1,y2,y3][0]?:=hf 0 _ rfl;have g1:DataW.trod enc Tryz.prog w base (fun _=>true) held m 23 (([c0,c1,c2,c3].drop 1).take (Tryz.prog.cellsOf 23))=[y0,y1,y2,y3][1]?:=hf 1 _ rfl;have g2:DataW.trod enc Tryz.prog w base (fun _=>true) held m 3 (([c0,c1,c2,c3].drop 2).take (Tryz.prog.cellsOf 3))=[y0,y1,y2,y3][2]?:=hf 2 _ rfl;have g3:DataW.trod enc Tryz.prog w base (fun _=>true) held m 3 (([c0,c1,c2,c3].drop 3).take (Tryz.prog.cellsOf 3))=[y0,y1,y2,y3][3]?:=hf 3 _ rfl;rw[show Tryz.prog.cellsOf 23=1 by kernel_rfl]at g0 g1;rw[show Tryz.prog.cellsOf 3=1 by kernel_rfl]at g2 g3;simp only[List.drop_zero,List.drop_succ_cons,List.take_succ_cons,List.take_zero,List.getElem?_cons_zero,List.getElem?_cons_succ]at g0 g1 g2 g3;obtain⟨s0,e0,-⟩:=DataW.trod_string Tryz.underlying23 g0;obtain⟨s1,e1,-⟩:=DataW.trod_string Tryz.underlying23 g1;obtain⟨z2,e2,-⟩:=DataW.trod_int Tryz.underlying3 g2;obtain⟨z3,e3,-⟩:=DataW.trod_int Tryz.underlying3 g3;simp only[List.cons.injEq,and_true]at e0 e1 e2 e3;exact⟨⟨s0,s1,z2,z3⟩,by rw[e0,e1,e2,e3];rfl⟩
set_option maxRecDepth 100000 in
theorem qhv{v:Value}{r:Reach}{b0:Nat}{d:DataW H}{p:List MemPlace}(hv:Value.okWide Tryz.prog w r b0 22 v)(h:DataW.Trod enc Tryz.prog w base (fun _=>true) held 22 v d p):
  ∃xs:List Iv,Ivs w v xs:=by
 obtain⟨a,len,cap,rfl⟩:=okWide_slice Tryz.underlying22 hv;obtain⟨fuel,hf⟩:=h;rcases Go.Deep.open_slice Tryz.underlying22 hf with⟨hc,_⟩|⟨a,len,cap,m,n,D,Pl,hc,hb,hl,hm,hmm,_,hx⟩
 ·simp[Value.cells]at hc
  obtain⟨rfl,rfl,rfl⟩:=hc;exact⟨[],Sl.nil w 4⟩
 ·simp[Value.cells]at hc
  obtain⟨rfl,rfl,rfl⟩:=hc;simp only[if_true]at hmm;have hmm':=hmm.symm;subst hmm';have h4:Tryz.prog.cellsOf 46=4:=by kernel_rfl
  obtain⟨N,hN⟩:=Deep.choose_lt (α:=Iv) (p:=fun i y=>∀j,j<4→w.cell? (a.add (i*4+j))=y.row[j]?) (fun i hi=>by
   obtain⟨cs,hcs,ht⟩:=hx i hi;obtain⟨y,rfl⟩:=qtk ht;rw[h4]at hcs;obtain⟨-,-,hat⟩:=World.cells?_some hcs
   exact⟨y,fun j hj=>by rw[←hat j hj,Go.Deep.add_add]⟩)
  refine⟨(List.range len).map N,?_⟩
  show Sl w 4 _ _
  refine qxy (by omega) (by simp) hl hm fun i j hi hj=>?_
  have hj4:j<(N i).row.length:=hj;refine⟨(N i).row[j],(hN i hi j hj).trans (List.getElem?_eq_getElem hj4),fun hil=>?_⟩
  simp[hil,hj4]
end
theorem qs1{α:Type}{lt:α→α→Prop}[DecidableRel lt](O:List (α × α))(p:α × α):(putR lt O p).length≤O.length+1:=by
 unfold putR;cases e:O.getLast? with
 |none=>simp
 |some q=>
  have hO:=qcn e;dsimp only
  split
  ·simp
  ·split
   ·rw[List.length_append,List.length_dropLast]
    have:0<O.length:=by rw[hO];simp
    simp<;>omega
   ·omega
theorem qin{α:Type}{lt:α→α→Prop}[DecidableRel lt]:∀(l O:List (α × α)),(l.foldl (putR lt) O).length≤O.length+l.length
 |[],O=>Nat.le_refl _
 |p::l,O=>by
  have h1:=qin (lt:=lt) l (putR lt O p);have h2:=qs1 (lt:=lt) O p;rw[List.foldl_cons,List.length_cons]
  omega
theorem qd1(rs:List RP):(qa1 rs).length≤rs.length:=by
 have h1:=qin (lt:=ltR) (qn5 rs) [];have h2:=(qg0 rs).2.length_eq;have h3:=List.length_filter_le (fun r:RP=>decide (ltR r.1 r.2)) rs;unfold qa1 qdz;simp only[List.length_nil,Nat.zero_add]at h1
 omega
def qec(xs:List Iv):List Iv:=if qa6 xs=0 then(qa1 (xs.map rgOf)).map ivR else[]
def setL(xs:List Iv):List Iv:=qec (xs.take 8)
theorem qlh{x:Iv}(hs:x.short)(h:qba x=0):OkR (rgOf x):=⟨(qq7 hs h).1,(qq7 hs h).2.1⟩
def qwm(xs:List Iv)(v:Value)(w':World):Prop:=∃a c,v=.tuple #[.slice a (qec xs).length c,.int .i64 (qa6 xs)]∧Ivs w' (.slice a (qec xs).length c) (qec xs)
theorem qkg(v:Value)(xs:List Iv)(w:World)(h:Ivs w v xs)(hs:∀x∈xs,x.short)(hn:xs.length≤256):Calls Tryz.prog 24 #[v] w (RetP (qwm xs) w):=by
 obtain⟨a,c,rfl,hc1,hc2⟩:=h.open;unfold maxLen at hc2;have HX:=hI h;have Hsh:=hI hs;have HE:=hI (show qa6 xs=qbb xs by unfold qa6;rw[if_neg (by omega)]);have HR:=hI (fun w' (hb:Below w.heap.size w w')=>qof _ xs w' (h.mono hb) (by omega));clear h hs;generalize hln:xs.length=n at*;have Hln:=hI hln;clear hln;have hn2:¬(256:Int)<(n:Int):=by omega
 go_enter Tryz.func24,Tryz.ntmps24
 go_wp2_with fail
 go_loopw [4] (fun i wr=>∃k:Nat,k≤n∧i=.int .i64 (k:Int)∧Below w.heap.size w wr∧Hid (qbb xs=qbb (xs.drop k))) (fun i _=>n-(intOf i).toNat)
 case atStart=>exact⟨0,by omega,rfl,Below.refl _ _,by unfold Hid;rw[List.drop_zero]⟩
 case round=>
  obtain⟨k,hk,rfl,hbw,hpre⟩:=hrel;have Hbw:=hI hbw;have Hpre:=hI hpre.out;rcases Nat.lt_or_ge k n with hlt|hge
  ·obtain⟨b,off,x,rfl,hx,c0,c1,c2,c3⟩:=HX.out.at hbw hlt
   have hkn:(k:Int)<(n:Int):=by omega
   have hk0:(0:Int)≤(k:Int):=Int.natCast_nonneg _;have hkw:IntKind.i64.wrap ((k:Int)+1)=(k:Int)+1:=IntWalk.i64_in _ (by omega);have H1:=hI (fun w'=>qoi x w' (Hsh.out x (List.mem_of_getElem? hx)));unfold Iv.agg at H1;have hse:=Hpre.out;rw[qd3 hx]at hse;have Hse:=hI hse;clear hx hbw hpre hse
   by_cases hiv:qba x=0
   ·rw[hiv]at H1
    have Hnx:=hI (show qbb xs=qbb (xs.drop (k+1))by rw[Hse.out,qbb,if_neg (by simpa using hiv)]);clear hiv
    go_wp2_with (go_at_call 77;refine(H1.out _).mono ?_;rintro e w1 ⟨rfl,hb1⟩;have Hb1:=hI (Hbw.out.via hb1 Hbw.out.size);clear hb1)
    go_roundw
    case rel=>exact⟨k+1,by omega,by go_num,Hb1.out,Hnx.out⟩
    case measure=>simp[intOf]<;>omega
   ·have hcode:(qba x !=0)=true:=by rw[bne_iff_ne];exact hiv
    have Hres:=hI (show qa6 xs=qba x∧qec xs=[]by
     have h1:qa6 xs=qba x:=by rw[HE.out,Hse.out,qbb,if_pos hiv]
     exact⟨h1,by unfold qec;rw[if_neg (by rw[h1];exact hiv)]⟩)
    generalize qba x=code at*;clear hiv
    go_wp2_with (go_at_call 77;refine(H1.out _).mono ?_;rintro e w1 ⟨rfl,hb1⟩;have Hb1:=hI (Hbw.out.via hb1 Hbw.out.size);clear hb1)
    go_ret2
    exact⟨_,rfl,⟨none,0,by rw[Hres.out.1,Hres.out.2];rfl,by rw[Hres.out.2];exact Sl.nil _ 4⟩,Hb1.out⟩
  ·obtain rfl:k=n:=by omega
   have hkn:¬(k:Int)<(k:Int):=by omega
   have herr:qbb xs=0:=by rw[Hpre.out,List.drop_of_length_le (by rw[Hln.out];exact Nat.le_refl _)];rfl
   have Hok:=hI (show ∀r∈xs.map rgOf,OkR r from fun r hr=>by
    obtain⟨x,hx,rfl⟩:=List.mem_map.1 hr
    exact qlh (Hsh.out x hx) (qd9 herr x hx))
   have Hres:=hI (show qa6 xs=0∧qec xs=(qa1 (xs.map rgOf)).map ivR by
    have h1:qa6 xs=0:=by rw[HE.out,herr]
    exact⟨h1,by unfold qec;rw[if_pos h1]⟩)
   have HRr:=hI (HR.out wr hbw);have Hlen:=hI (show(xs.map rgOf).length≤1000 by rw[List.length_map,Hln.out];omega);have HJ:=hI (fun v' w' (h:Rgs w' v' (xs.map rgOf))=>qov v' (xs.map rgOf) w' h Hok.out Hlen.out);have Hjl:=hI (qd1 (xs.map rgOf));have HI:=hI (fun v' w' (h:Rgs w' v' (qa1 (xs.map rgOf)))=>qh7 v' (qa1 (xs.map rgOf)) w' h (by have:=Hjl.out;have:=Hlen.out;omega));have Hfin:=hI (show((qa1 (xs.map rgOf)).map ivR).length=(qa1 (xs.map rgOf)).length from List.length_map ..);generalize qa1 (xs.map rgOf)=J at*;generalize hjn:J.length=jn at*;clear hbw hpre herr HX HR
   go_wp2_with (first
    |(go_at_call 80;refine(HRr.out).mono ?_;rintro e w1 ⟨v1,rfl,hown,hb1⟩;have Hb1:=hI (Hbw.out.via hb1 Hbw.out.size);have Hr1:=hI (qeb hown);clear hown hb1)
    |(go_at_call 79;refine(HJ.out _ _ Hr1.out).mono ?_;rintro e w2 ⟨v2,rfl,hown2,hb2⟩;have Hb2:=hI (Hb1.out.via hb2 Hb1.out.size);have Hr2:=hI (qeb hown2);clear hown2 hb2)
    |(go_at_call 78;refine(HI.out _ _ Hr2.out).mono ?_;rintro e w3 ⟨v3,rfl,⟨a3,c3,rfl,hiv⟩,hb3⟩;have Hb3:=hI (Hb2.out.via hb3 Hb2.out.size);have Hiv:=hI hiv;clear hiv hb3))
   go_ret2
   exact⟨_,rfl,⟨a3,c3,by rw[Hres.out.1,Hres.out.2,Hfin.out];rfl,by rw[Hres.out.2,Hfin.out];exact Hiv.out⟩,Hb3.out⟩
theorem qx3{c:Cut}(h:RokC c)(hb:c.b≠1):(qa2 (if c.b=0 then c.s else⟨#[]⟩) (if c.b=0 then(if c.d=1 then 0 else 1)else 2)=0∧(if c.b=0 then c.s else(⟨#[]⟩:ByteArray)).size≤5000∧qd5 (if c.b=0 then c.s else⟨#[]⟩) (if c.b=0 then(if c.d=1 then 0 else 1)else 2) 1=toP c)∧(0:Int)≤(if c.b=0 then(if c.d=1 then 0 else 1)else 2)∧(if c.b=0 then(if c.d=1 then 0 else 1)else 2:Int)≤2:=by
 obtain⟨b,s,d⟩:=c;rcases h with⟨h1,h2,h3,h4,h5⟩|⟨h1,h2,h3⟩
 ·dsimp only at h1 h2 h3 h4 h5⊢
  subst h1;rw[if_pos rfl,if_pos rfl];rcases(show d=0∨d=1 by omega)with rfl|rfl
  ·exact⟨⟨h3,h2,rfl⟩,(by split<;>decide),(by split<;>decide)⟩
  ·exact⟨⟨h3,h2,rfl⟩,(by split<;>decide),(by split<;>decide)⟩
 ·dsimp only at h1 h2 h3 hb⊢
  obtain rfl:b=-1:=h1.resolve_left hb;subst h2 h3;exact⟨⟨rfl,by decide,rfl⟩,by decide,by decide⟩
theorem qx4{c:Cut}(h:RokC c)(hb:c.b≠-1):(qa2 (if c.b=0 then c.s else⟨#[]⟩) (if c.b=0 then(if c.d=1 then 1 else 0)else 2)=0∧(if c.b=0 then c.s else(⟨#[]⟩:ByteArray)).size≤5000∧qd5 (if c.b=0 then c.s else⟨#[]⟩) (if c.b=0 then(if c.d=1 then 1 else 0)else 2) (-1)=toP c)∧(0:Int)≤(if c.b=0 then(if c.d=1 then 1 else 0)else 2)∧(if c.b=0 then(if c.d=1 then 1 else 0)else 2:Int)≤2:=by
 obtain⟨b,s,d⟩:=c;rcases h with⟨h1,h2,h3,h4,h5⟩|⟨h1,h2,h3⟩
 ·dsimp only at h1 h2 h3 h4 h5⊢
  subst h1;rw[if_pos rfl,if_pos rfl];rcases(show d=0∨d=1 by omega)with rfl|rfl
  ·exact⟨⟨h3,h2,rfl⟩,(by split<;>decide),(by split<;>decide)⟩
  ·exact⟨⟨h3,h2,rfl⟩,(by split<;>decide),(by split<;>decide)⟩
 ·dsimp only at h1 h2 h3 hb⊢
  obtain rfl:b=1:=h1.resolve_right hb;subst h2 h3;exact⟨⟨rfl,by decide,rfl⟩,by decide,by decide⟩
theorem qwz{c:Cut}(h:RokC c):-1≤c.b∧c.b≤1:=by rcases h with⟨h,_⟩|⟨h|h,_⟩<;>omega
theorem qi3{c:Cut}(h:RokC c)(hb:c.b≠0):toP c=⟨c.b,⟨#[]⟩,0⟩:=by
 rcases h with⟨h,_⟩|⟨_,h2,_⟩
 ·exact absurd h hb
 ·unfold toP
  rw[if_neg hb,h2]
theorem qxd{x y:Cut}(hx:RokC x)(hy:RokC y)(h:ltR x y):x.b≠1∧y.b≠-1:=by
 have h':CG (toP x) (toP y):=h;have a:=qwz hx;have b:=qwz hy;rw[qep]at h'
 constructor
 ·intro e
  have hyb:y.b=1:=by
   rcases h' with h1|⟨h1,_⟩
   ·have h1:x.b<y.b:=h1
    omega
   ·have h1:x.b=y.b:=h1
    omega
  have e1:=qi3 hx (by omega);have e2:=qi3 hy (by omega);refine qcd.irr x ?_
  unfold ltR at h⊢;rw[e2,hyb]at h;rw[e1,e]at h⊢;exact h
 ·intro e
  have hxb:x.b=-1:=by
   rcases h' with h1|⟨h1,_⟩
   ·have h1:x.b<y.b:=h1
    omega
   ·have h1:x.b=y.b:=h1
    omega
  have e1:=qi3 hx (by omega);have e2:=qi3 hy (by omega);refine qcd.irr x ?_
  unfold ltR at h⊢;rw[e2,e]at h;rw[e1,hxb]at h⊢;exact h
theorem qnf{r:RP}(h:OkR r)(hl:ltR r.1 r.2):qba (ivR r)=0∧(ivR r).short∧(ivR r).low=toP r.1∧(ivR r).high=toP r.2:=by
 obtain⟨hb1,hb2⟩:=qxd h.1 h.2 hl;obtain⟨⟨a1,a2,a3⟩,a4,a5⟩:=qx3 h.1 hb1;obtain⟨⟨b1,b2,b3⟩,b4,b5⟩:=qx4 h.2 hb2;refine⟨?_,⟨a2,b2⟩,a3,b3⟩
 unfold qba ivR;dsimp only;rw[if_neg (by omega),a1,if_neg (fun h=>h rfl)];exact b1
theorem qt0{J:List RP}(hok:∀r∈J,OkR r)(hne:∀r∈J,ltR r.1 r.2):(J.map ivR).map Iv.cuts=J.map fun r=>(toP r.1,toP r.2):=by
 rw[List.map_map];refine List.map_congr_left fun r hr=>?_
 have:=qnf (hok r hr) (hne r hr)
 show(Iv.low _,Iv.high _)=_
 rw[this.2.2.1,this.2.2.2]
theorem qhy:∀(J:List RP) (c:Option Cut),(∀r∈J,OkR r)→IsSet ltR J→(∀d,c=some d→∀r∈J,CG d (toP r.1))→qbo c (J.map ivR)=0
 |[],c,_,_,_=>by cases c<;>rfl
 |r::J,c,hok,hset,hc=>by
  have hne:=hset.ne r (List.mem_cons_self ..);obtain⟨e1,-,e3,e4⟩:=qnf (hok r (List.mem_cons_self ..)) hne
  have hlt:¬0≤cmpG (ivR r).low (ivR r).high:=by
   rw[e3,e4];have:CG (toP r.1) (toP r.2):=hne;unfold CG at this
   omega
  have ih:=qhy J (some (toP r.2)) (fun s hs=>hok s (List.mem_cons_of_mem _ hs)) hset.tail (fun d hd s hs=>by
   cases hd
   exact(List.pairwise_cons.1 hset.gap).1 s hs)
  rw[List.map_cons];cases c with
  |none=>rw[qf6 e1 hlt,e4];exact ih
  |some d=>
   have hd:CG d (toP r.1):=hc d rfl r (List.mem_cons_self ..);rw[qgr e1 hlt (by rw[e3];unfold CG at hd;omega),e4];exact ih
structure SetI(xs:List Iv)(J:List RP):Prop where
 eq:xs=J.map ivR
 ok:∀r∈J,OkR r
 set:IsSet ltR J
 len:J.length≤256
theorem SetI.err{xs:List Iv}{J:List RP}(h:SetI xs J):qa5 xs=0:=by
 have hl:¬256<xs.length:=by rw[h.eq,List.length_map];have:=h.len;omega
 unfold qa5;rw[if_neg hl,h.eq];exact qhy J none h.ok h.set (fun d hd=>by cases hd)
theorem SetI.short{xs:List Iv}{J:List RP}(h:SetI xs J):∀x∈xs,x.short:=fun x hx=>by
 rw[h.eq]at hx;obtain⟨r,hr,rfl⟩:=List.mem_map.1 hx;exact(qnf (h.ok r hr) (h.set.ne r hr)).2.1
theorem SetI.iv{xs:List Iv}{J:List RP}(h:SetI xs J):∀x∈xs,qba x=0:=fun x hx=>by
 rw[h.eq]at hx;obtain⟨r,hr,rfl⟩:=List.mem_map.1 hx;exact(qnf (h.ok r hr) (h.set.ne r hr)).1
theorem SetI.cuts{xs:List Iv}{J:List RP}(h:SetI xs J):xs.map Iv.cuts=J.map fun r=>(toP r.1,toP r.2):=by
 rw[h.eq];exact qt0 h.ok h.set.ne
theorem SetI.length{xs:List Iv}{J:List RP}(h:SetI xs J):xs.length=J.length:=by rw[h.eq,List.length_map]
theorem SetI.nil:SetI [] []:=⟨rfl,fun r hr=>(by cases hr),IsSet.nil,by decide⟩
theorem qm0{xs:List Iv}(hs:∀x∈xs,x.short)(hn:xs.length≤256):∃J,SetI (qec xs) J∧J.length≤xs.length:=by
 unfold qec
 by_cases he:qa6 xs=0
 ·rw[if_pos he]
  have he':qbb xs=0:=by unfold qa6 at he;rwa [if_neg (by omega)]at he
  have hok:∀r∈xs.map rgOf,OkR r:=fun r hr=>by
   obtain⟨x,hx,rfl⟩:=List.mem_map.1 hr;exact qlh (hs x hx) (qd9 he' x hx)
  have hl:=qd1 (xs.map rgOf);rw[List.length_map]at hl;exact⟨qa1 (xs.map rgOf),⟨rfl,qbv (P:=RokC) hok,(qb0 _).1,by omega⟩,hl⟩
 ·rw[if_neg he]
  exact⟨[],SetI.nil,Nat.zero_le _⟩
theorem qpl{xs:List Iv}(hs:∀x∈xs,x.short):∃J,SetI (setL xs) J∧J.length≤8:=by
 obtain⟨J,h1,h2⟩:=qm0 (xs:=xs.take 8) (fun x hx=>hs x (List.mem_of_mem_take hx)) (by rw[List.length_take];omega);exact⟨J,h1,by rw[List.length_take]at h2;omega⟩
def tpR(r:RP):PC:=(toP r.1,toP r.2)
theorem qkm{c:Cut}(h:RokC c):(toP c).s=(if c.b=0 then c.s else⟨#[]⟩)∧qd0 (toP c) 1=(if c.b=0 then(if c.d=1 then 0 else 1)else 2)∧qd0 (toP c) (-1)=(if c.b=0 then(if c.d=1 then 1 else 0)else 2):=by
 obtain⟨b,s,d⟩:=c;unfold qd0 toP;rcases h with⟨hb,-,-,h0,h1⟩|⟨hb,hs,hd⟩
 ·dsimp only at hb h0 h1⊢
  subst hb;rcases(show d=0∨d=1 by omega)with rfl|rfl<;>simp
 ·dsimp only at hb hs hd⊢
  have hb0:b≠0:=by rcases hb with h|h<;>omega
  simp[hb0,hs]
theorem qng{r:RP}(h:OkR r):ivOf (tpR r)=ivR r:=by
 obtain⟨h1,h2,-⟩:=qkm h.1;obtain⟨k1,-,k3⟩:=qkm h.2;unfold ivOf tpR ivR;dsimp only;rw[h1,h2,k1,k3]
def qb8(c:Cut):Prop:=∃r,RokC r∧toP r=c
theorem qr6{r:Cut}(h:RokC r):CokG (toP r):=by
 obtain⟨b,s,d⟩:=r;unfold CokG toP;rcases h with⟨hb,-,he,h0,h1⟩|⟨hb,hs,hd⟩
 ·dsimp only at hb he h0 h1⊢
  subst hb
  left
  refine⟨rfl,he,?_⟩
  rcases(show d=0∨d=1 by omega)with rfl|rfl<;>simp
 ·dsimp only at hb hs hd⊢
  have hb0:b≠0:=by rcases hb with h|h<;>omega
  right
  exact⟨hb,hs,by rw[if_neg hb0]⟩
theorem qe3(x y:Cut)(hx:qb8 x)(hy:qb8 y)(h:¬CG x y)(k:¬CG y x):x=y:=by
 obtain⟨r,hr,rfl⟩:=hx;obtain⟨s,hs,rfl⟩:=hy;exact qwj _ _ (qr6 hr) (qr6 hs) h k
theorem qio{J:List RP}{r:Cut}:Mem CG (J.map tpR) (toP r)↔Mem ltR J r:=by
 constructor
 ·rintro⟨p,hp,h1,h2⟩
  obtain⟨q,hq,rfl⟩:=List.mem_map.1 hp;exact⟨q,hq,h1,h2⟩
 ·rintro⟨q,hq,h1,h2⟩
  exact⟨tpR q,List.mem_map_of_mem hq,h1,h2⟩
theorem qmh{J:List RP}(h:IsSet ltR J):IsSet CG (J.map tpR):=by
 refine⟨fun p hp=>?_,?_⟩
 ·obtain⟨q,hq,rfl⟩:=List.mem_map.1 hp
  exact h.ne q hq
 ·rw[List.pairwise_map]
  exact h.gap
theorem qwh{x:Iv}(hs:x.short)(h:qba x=0):x.cuts=tpR (rgOf x):=by
 obtain⟨-,-,h3,h4⟩:=qq7 hs h;unfold tpR rgOf Iv.cuts;dsimp only;rw[h3,h4]
theorem qqk{xs:List Iv}(hs:∀x∈xs,x.short)(he:qa6 xs=0){Q:List PC}(hp:Q.Perm (qgu xs))(hq:Q.Pairwise fun p q=>¬CG q.1 p.1):(qdz CG Q).map ivOf=qec xs:=by
 have he':qbb xs=0:=by
  unfold qa6 at he
  split at he
  ·cases he
  ·exact he
 have hiv:=qd9 he'
 have hok:∀r∈xs.map rgOf,OkR r:=fun r hr=>by
  obtain⟨x,hx,rfl⟩:=List.mem_map.1 hr;exact qlh (hs x hx) (hiv x hx)
 have hcu:xs.map Iv.cuts=(xs.map rgOf).map tpR:=by
  rw[List.map_map];exact List.map_congr_left fun x hx=>qwh (hs x hx) (hiv x hx)
 have hfull:∀p∈Q,(qb8 p.1∧qb8 p.2)∧CG p.1 p.2:=fun p hpq=>by
  have h1:=hp.mem_iff.1 hpq;unfold qgu at h1;rw[hcu]at h1;obtain⟨h2,h3⟩:=List.mem_filter.1 h1;obtain⟨r,hr,rfl⟩:=List.mem_map.1 h2;exact⟨⟨⟨_,(hok r hr).1,rfl⟩,_,(hok r hr).2,rfl⟩,of_decide_eq_true h3⟩
 obtain⟨hX1,hX2⟩:=qkj qco (fun p hpq=>(hfull p hpq).2) hq;obtain⟨hJ1,hJ2⟩:=qb0 (xs.map rgOf);have hJo:∀r∈qa1 (xs.map rgOf),OkR r:=qbv (P:=RokC) hok
 have hXY:qdz CG Q=(qa1 (xs.map rgOf)).map tpR:=by
  refine IsSet.uniq qco qb8 qe3 hX1 (qmh hJ1) ?_ ?_ ?_
  ·exact qgf Q [] (fun p hpq=>(hfull p hpq).1) (fun p h=>by cases h)
  ·intro p hpq
   obtain⟨r,hr,rfl⟩:=List.mem_map.1 hpq;exact⟨⟨_,(hJo r hr).1,rfl⟩,_,(hJo r hr).2,rfl⟩
  ·rintro c ⟨r,hr,rfl⟩
   rw[hX2,Mem.perm hp,qgu,qbq qco,hcu,qio,qio,hJ2]
 rw[hXY];unfold qec;rw[if_pos he,List.map_map];exact List.map_congr_left fun r hr=>qng (hJo r hr)
theorem qm1{xs:List Iv}(he:qa6 xs≠0):qec xs=[]:=by unfold qec;rw[if_neg he]
theorem qow(v:Value)(xs:List Iv)(w:World)(h:Ivs w v xs)(hs:∀x∈xs,x.short):
  Calls Tryz.prog 23 #[v] w (RetP (qwm xs) w):=by
 refine(qlv v xs w h hs).mono ?_
 rintro e w' ⟨v',rfl,⟨h1,h2⟩,hb⟩;refine⟨v',rfl,?_,hb⟩
 by_cases he:qa6 xs=0
 ·obtain⟨a,c,Q,rfl,hiv,hp,hq⟩:=h2 he
  have hsm:=qqk hs he hp hq;rw[←List.length_map (f:=ivOf),hsm]at hiv⊢;exact⟨a,c,by rw[he],hiv⟩
 ·rw[h1 he]
  exact⟨none,0,by rw[qm1 he];rfl,by rw[qm1 he];exact Sl.nil w' 4⟩
theorem ql9(lo hi:ByteArray)(le he:Int)(w:World):Calls Tryz.prog 29 #[.string lo,.string hi,.int .i64 le,.int .i64 he] w (Ret (.agg #[.string lo,.string hi,.int .i64 le,.int .i64 he]) w):=by
 go_enter Tryz.func29,Tryz.ntmps29
 go_wp2_with fail
 exact bodyPost_ret (v:=.agg #[.string lo,.string hi,.int .i64 le,.int .i64 he]) (by simp[results,Tryz.results29,go_sem]) rfl ⟨rfl,qac w _⟩
theorem qpr(u v:Value)(xs:List Iv)(w:World)(hx:Ivs w u xs)(hy:Ivs w v xs)(hn:xs.length≤1000):Calls Tryz.prog 26 #[u,v] w (Ret (.bool true) w):=by
 obtain⟨a,c,rfl,hc1,hc2⟩:=hx.open;obtain⟨a',c',rfl,hc1',hc2'⟩:=hy.open;unfold maxLen at hc2 hc2';have HX:=hI hx;have HY:=hI hy;clear hx hy;generalize hln:xs.length=n at*;clear hln
 go_enter Tryz.func26,Tryz.ntmps26
 go_wp2_with fail
 go_loopw [5] (fun i wr=>∃k:Nat,k≤n∧i=.int .i64 (k:Int)∧Below w.heap.size w wr) (fun i _=>n-(intOf i).toNat)
 case atStart=>exact⟨0,by omega,rfl,Below.refl _ _⟩
 case round=>
  obtain⟨k,hk,rfl,hbw⟩:=hrel;rcases Nat.lt_or_ge k n with hlt|hge
  ·obtain⟨b,off,x,rfl,hxk,c0,c1,c2,c3⟩:=HX.out.at hbw hlt
   obtain⟨b',off',x',rfl,hyk,d0,d1,d2,d3⟩:=HY.out.at hbw hlt;rw[hxk]at hyk;cases hyk
   have hkn:(k:Int)<(n:Int):=by omega
   have hik:IntKind.i64.wrap ((k:Int)+1)=(k:Int)+1:=IntWalk.i64_in _ (by omega);have HSx:=hI (fun w' (hb:Below wr.heap.size wr w')=>show w'.cell? ⟨b,off+k*4,none⟩=some (.string x.lo)∧w'.cell? ⟨b,off+k*4+1,none⟩=some (.string x.hi)∧w'.cell? ⟨b,off+k*4+2,none⟩=some (.int .i64 x.le)∧w'.cell? ⟨b,off+k*4+3,none⟩=some (.int .i64 x.he)∧w'.cell? ⟨b',off'+k*4,none⟩=some (.string x.lo)∧w'.cell? ⟨b',off'+k*4+1,none⟩=some (.string x.hi)∧w'.cell? ⟨b',off'+k*4+2,none⟩=some (.int .i64 x.le)∧w'.cell? ⟨b',off'+k*4+3,none⟩=some (.int .i64 x.he)from⟨qab hb c0,qab hb c1,qab hb c2,qab hb c3,qab hb d0,qab hb d1,qab hb d2,qab hb d3⟩);have Hbw:=hI hbw;clear hbw hxk c0 c1 c2 c3 d0 d1 d2 d3;go_upto_region 6 with fail
   refine wpRg HSx.out ((Below.refl wr.heap.size wr).dn 1) (by kernel_rfl) (fun hHeld=>?_)
   refine wpAnyH_take (i:=0) (v:=?v1) rfl (by kernel_rfl) (by kernel_rfl) (by kernel_rfl) (fun _ _ _ h=>h) (Or.inl ⟨by rfl,?hy1⟩) (by assumption) ?rest1
   case hy1=>(intro w hSw;(try dsimp only at hSw);go_simp;try(with_reducible rfl))
   try simp only[Act.put,List.getElem_toArray,List.getElem_cons_zero,List.setIfInBounds_toArray,List.set_cons_zero,List.set_cons_succ]
   refine' tk 1 ?_;(try simp only[tkS]);refine' tk 2 ?_;(try simp only[tkS]);refine' tk 3 ?_;(try simp only[tkS]);refine' tk 4 ?_;(try simp only[tkS]);refine' tk 5 ?_;(try simp only[tkS]);refine' tk 6 ?_;(try simp only[tkS]);refine' tk 7 ?_;(try simp only[tkS]);refine' tk 8 ?_;(try simp only[tkS]);refine tkD ?_ _
   go_wp2_with fail
   go_roundw
   case rel=>exact⟨k+1,by omega,by go_num,Hbw.out.dn 1⟩
   case measure=>simp[intOf]<;>omega
  ·obtain rfl:k=n:=by omega
   have hkn:¬(k:Int)<(k:Int):=by omega
   go_wp2_with fail
   go_ret
   exact⟨rfl,hbw⟩
theorem qad{w W:World}(h:Below w.heap.size w W)(o:Obj):Below w.heap.size w (W.alloc o):=h.alloc h.size o
theorem Blk.drew{w:World}{b:Nat}{cs:Array Value}{T:TypeId}(h:Blk w b cs T):Blk w.drew b cs T:=h
def xsC:List Iv:=[⟨⟨#[]⟩,⟨#[48]⟩,2,1⟩,⟨⟨#[49]⟩,⟨#[]⟩,0,2⟩]
def xsN:List Iv:=[⟨⟨#[50]⟩,⟨#[51]⟩,1,0⟩,⟨⟨#[48]⟩,⟨#[49]⟩,0,1⟩,⟨⟨#[49]⟩,⟨#[50]⟩,0,0⟩]
def xs1:List Iv:=[⟨⟨#[48]⟩,⟨#[49]⟩,0,1⟩]
theorem Sl.blk{w:World}{b sz:Nat}{cs:Array Value}{T:TypeId}{rows:List (List Value)}(h:Blk w b cs T)(hl:∀r∈rows,r.length=sz)(hcs:cs=rows.flatten.toArray)(hn:rows.length≤1000):Sl w sz (.slice (some ⟨b,0,none⟩) rows.length rows.length) rows:=by
 refine⟨_,_,rfl,Nat.le_refl _,by unfold maxLen;omega,.inr ⟨b,0,rfl,h.lt,fun i j hi hj=>?_⟩⟩
 rw[h.cell,hcs,Nat.zero_add];have:=qf5 hl hi hj
 simpa using this
theorem Ivs.blk{w:World}{b n:Nat}{cs:Array Value}{T:TypeId}(xs:List Iv)(h:Blk w b cs T)(hcs:cs=((xs.map Iv.row).flatten).toArray)(hn:xs.length=n)(hn2:n≤1000):Ivs w (.slice (some ⟨b,0,none⟩) n n) xs:=by
 have:=Sl.blk (sz:=4) (rows:=xs.map Iv.row) h (fun r hr=>by obtain⟨x,_,rfl⟩:=List.mem_map.1 hr;rfl) hcs (by rw[List.length_map];omega);rw[List.length_map,hn]at this;exact this
end Go.Proofs.YtacihodamichhaaGreatDoor
namespace Go.Proofs.YtacihodamichhaaGreatDoor
open Go.RowKit
def ddN(P:List GC):Nat→List GC
 |0=>[]
 |1=>P.take 1
 |n+2=>match P[n+1]?,P[n]? with
  |some x,some y=>if cmpG x.c y.c=0 then ddN P (n+1)else ddN P (n+1)++[x]
  |_,_=>ddN P (n+1)
theorem ql3{P:List GC}{n:Nat}{x y:GC}(hx:P[n+1]?=some x)(hy:P[n]?=some y):ddN P (n+2)=if cmpG x.c y.c=0 then ddN P (n+1)else ddN P (n+1)++[x]:=by
 rw[ddN,hx,hy]
theorem qr9{x y z:Cut}(h:cmpG x y=0)(k:cmpG y z=0):cmpG x z=0:=by
 rw[qk4]at*;exact⟨qco.ntr h.1 k.1,qco.ntr k.2 h.2⟩
theorem qup{x y:Cut}(h:cmpG x y=0):cmpG y x=0:=by rw[qnt x y,h];rfl
structure DdOk(P:List GC)(n:Nat):Prop where
 last:∀y,P[n]?=some y→∃z,(ddN P (n+1)).getLast?=some z∧cmpG z.c y.c=0
 strict:((ddN P (n+1)).map GC.c).Pairwise CG
 sub:∀k∈ddN P (n+1),k∈P
 cover:∀k∈P.take (n+1),∃k'∈ddN P (n+1),cmpG k.c k'.c=0
 len:(ddN P (n+1)).length≤n+1
 pos:0<(ddN P (n+1)).length
theorem qxo{P:List GC}(hs:(P.map GC.c).Pairwise fun x y=>¬CG y x):∀n,n<P.length→DdOk P n
 |0,h=>by
  obtain⟨a,r,rfl⟩:∃a r,P=a::r:=by
   cases P with
   |nil=>simp at h
   |cons a r=>exact⟨a,r,rfl⟩
  refine⟨fun y hy=>?_,?_,?_,?_,by simp[ddN],by simp[ddN]⟩
  ·cases hy
   exact⟨a,by simp[ddN],qeo _⟩
  ·simp[ddN]
  ·intro k hk
   simp[ddN]at hk;rw[hk];exact List.mem_cons_self ..
  ·intro k hk
   exact⟨k,by simpa[ddN]using hk,qeo _⟩
 |n+1,h=>by
  have ih:=qxo hs n (by omega);obtain⟨x,hx⟩:∃x,P[n+1]?=some x:=⟨_,List.getElem?_eq_getElem h⟩
  obtain⟨y,hy⟩:∃y,P[n]?=some y:=⟨_,List.getElem?_eq_getElem (by omega)⟩
  have ht:P.take (n+1+1)=P.take (n+1)++[x]:=by
   rw[List.take_add_one,hx];rfl
  obtain⟨z,hz,hzy⟩:=ih.last y hy;have hd:=ql3 hx hy
  by_cases he:cmpG x.c y.c=0
  ·rw[if_pos he]at hd
   refine⟨fun y' hy'=>?_,by rw[hd];exact ih.strict,by rw[hd];exact ih.sub,fun k hk=>?_,by rw[hd];exact Nat.le_succ_of_le ih.len,by rw[hd];exact ih.pos⟩
   ·rw[hx]at hy'
    cases hy'
    exact⟨z,by rw[hd];exact hz,qr9 hzy (qup he)⟩
   ·rw[hd]
    rw[ht]at hk;rcases List.mem_append.1 hk with hk|hk
    ·exact ih.cover k hk
    ·cases List.mem_singleton.1 hk
     exact⟨z,List.mem_of_getLast? hz,qr9 he (qup hzy)⟩
  ·rw[if_neg he]at hd
   have hle:¬CG x.c y.c:=by
    have h1:(P.map GC.c)[n]?=some y.c:=by rw[List.getElem?_map,hy];rfl
    have h2:(P.map GC.c)[n+1]?=some x.c:=by rw[List.getElem?_map,hx];rfl
    obtain⟨g1,e1⟩:=List.getElem?_eq_some_iff.1 h1;obtain⟨g2,e2⟩:=List.getElem?_eq_some_iff.1 h2;have:=List.pairwise_iff_getElem.1 hs n (n+1) g1 g2 (Nat.lt_succ_self n)
    rwa [e1,e2]at this
   have hyx:CG y.c x.c:=by
    have:=@qia y.c x.c;have h0:=quq.1 hle;rw[←qia];omega
   have hzx:CG z.c x.c:=qco.lt_of_le (qk4.1 hzy).2 hyx;refine⟨fun y' hy'=>?_,?_,fun k hk=>?_,fun k hk=>?_,by rw[hd,List.length_append];have:=ih.len;simp;omega,by rw[hd,List.length_append];simp⟩
   ·rw[hx]at hy'
    cases hy'
    exact⟨x,by rw[hd];simp,qeo _⟩
   ·rw[hd,List.map_append,List.pairwise_append]
    refine⟨ih.strict,by simp,fun a ha b hb=>?_⟩
    obtain rfl:b=x.c:=by simpa using hb
    obtain⟨k,hk,rfl⟩:=List.mem_map.1 ha
    have hsn:ddN P (n+1)=(ddN P (n+1)).dropLast++[z]:=by
     have hne:ddN P (n+1)≠[]:=fun e=>by rw[e]at hz;cases hz
     rw[List.getLast?_eq_some_getLast hne]at hz;rw[←Option.some.inj hz];exact(List.dropLast_concat_getLast hne).symm
    have hst:=ih.strict;rw[hsn]at hk;rw[hsn,List.map_append,List.pairwise_append]at hst;rcases List.mem_append.1 hk with hk|hk
    ·exact qco.tr (hst.2.2 k.c (List.mem_map_of_mem hk) z.c (by simp)) hzx
    ·cases List.mem_singleton.1 hk
     exact hzx
   ·rw[hd]at hk
    rcases List.mem_append.1 hk with hk|hk
    ·exact ih.sub k hk
    ·cases List.mem_singleton.1 hk
     exact List.mem_of_getElem? hx
   ·rw[ht]at hk
    rw[hd];rcases List.mem_append.1 hk with hk|hk
    ·obtain⟨k',h1,h2⟩:=ih.cover k hk
     exact⟨k',List.mem_append_left _ h1,h2⟩
    ·cases List.mem_singleton.1 hk
     exact⟨x,List.mem_append_right _ (List.mem_singleton.2 rfl),qeo _⟩
end Go.Proofs.YtacihodamichhaaGreatDoor
