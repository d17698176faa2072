/- Parts of the proof. -/
import Derived.Shelf.SlSortCmp.NoneTotal
import Derived.Test.YtacihodamichhaaGreatDoorU16
import Derived.Test.YtacihodamichhaaGreatDoorU20
import Derived.Test.YtacihodamichhaaGreatDoorU21
set_option maxHeartbeats 16000000
namespace Go.Proofs.YtacihodamichhaaGreatDoor
open Go.RowKit
def CG(x y:Cut):Prop:=cmpG x y<0
instance (x y:Cut):Decidable (CG x y):=inferInstanceAs (Decidable (_<_))
theorem qru{q:Int}(h:0≤q):0<dn q:=by
 unfold dn
 split
 ·decide
 ·omega
theorem ql2(l:List UInt8):0≤denR l:=by
 unfold denR
 split
 ·exact Int.natCast_nonneg _
 ·exact Int.le_refl _
def QL(x y:Cut):Prop:=numR x.s.data.toList*dn (denR y.s.data.toList)≤numR y.s.data.toList*dn (denR x.s.data.toList)
theorem qgs{x y z:Cut}(h:QL x y)(k:QL y z):QL x z:=by
 unfold QL at*;have hx:=qru (ql2 x.s.data.toList);have hy:=qru (ql2 y.s.data.toList);have hz:=qru (ql2 z.s.data.toList);generalize dn (denR x.s.data.toList)=b at*;generalize dn (denR y.s.data.toList)=d at*;generalize dn (denR z.s.data.toList)=f at*;generalize numR x.s.data.toList=a at*;generalize numR y.s.data.toList=c at*;generalize numR z.s.data.toList=e at*;have h1:=Int.mul_le_mul_of_nonneg_right h (Int.le_of_lt hz);have h2:=Int.mul_le_mul_of_nonneg_right k (Int.le_of_lt hx)
 have h3:a*f*d≤e*b*d:=by
  have e1:a*f*d=a*d*f:=by rw[Int.mul_assoc,Int.mul_comm f,←Int.mul_assoc]
  have e2:e*b*d=e*d*b:=by rw[Int.mul_assoc,Int.mul_comm b,←Int.mul_assoc]
  have e3:c*b*f=c*f*b:=by rw[Int.mul_assoc,Int.mul_comm b,←Int.mul_assoc]
  omega
 exact Int.le_of_mul_le_mul_right h3 hy
theorem qep{x y:Cut}:CG x y↔x.b<y.b∨(x.b=y.b∧(¬QL y x∨(QL x y∧QL y x∧x.d<y.d))):=by
 have a:=@ql6 x.b y.b;have a':=@qdk x.b y.b;have c:=@ql6 x.d y.d;have b:=@ql6 (numR x.s.data.toList*dn (denR y.s.data.toList)) (numR y.s.data.toList*dn (denR x.s.data.toList));have b':=@qdk (numR x.s.data.toList*dn (denR y.s.data.toList)) (numR y.s.data.toList*dn (denR x.s.data.toList));unfold CG cmpG or3 QL;rw[show cmpQ (numR x.s.data.toList) (denR x.s.data.toList) (numR y.s.data.toList) (denR y.s.data.toList)=cmpZ (numR x.s.data.toList*dn (denR y.s.data.toList)) (numR y.s.data.toList*dn (denR x.s.data.toList))from rfl];generalize numR x.s.data.toList*dn (denR y.s.data.toList)=u at*;generalize numR y.s.data.toList*dn (denR x.s.data.toList)=v at*;generalize cmpZ u v=r at*
 split
 ·omega
 ·split<;>omega
theorem qea(x y:Cut):QL x y∨QL y x:=Int.le_total _ _
theorem qco:SWk CG where
 irr x h:=by
  rw[qep]at h;have:=qea x x;rcases h with h|⟨_,h|⟨_,_,h⟩⟩
  ·omega
  ·exact h (this.elim id id)
  ·omega
 tr {x y z} h k:=by
  rw[qep]at*;have t1:=@qgs x y z;have t2:=@qgs z x y;have t3:=@qgs y z x;have t4:=@qgs z y x;have t5:=@qgs x z y;have t6:=@qgs y x z;have u1:=qea x y;have u2:=qea y z;have u3:=qea x z
  by_cases a:QL x y<;>by_cases b:QL y x<;>by_cases c:QL y z<;>by_cases d:QL z y<;>by_cases e:QL x z<;>by_cases f:QL z x<;>simp_all<;>omega
 ntr {x y z} h k:=by
  rw[qep]at*;have t1:=@qgs x y z;have t2:=@qgs z x y;have t3:=@qgs y z x;have t4:=@qgs z y x;have t5:=@qgs x z y;have t6:=@qgs y x z;have u1:=qea x y;have u2:=qea y z;have u3:=qea x z
  by_cases a:QL x y<;>by_cases b:QL y x<;>by_cases c:QL y z<;>by_cases d:QL z y<;>by_cases e:QL x z<;>by_cases f:QL z x<;>simp_all<;>omega
theorem qnt(x y:Cut):cmpG y x=-cmpG x y:=by
 have a:=qjw x.b y.b;have b:=qjw (numR x.s.data.toList*dn (denR y.s.data.toList)) (numR y.s.data.toList*dn (denR x.s.data.toList));have c:=qjw x.d y.d;unfold cmpG or3 cmpQ;rw[a,b,c]
 split<;>split<;>(try split)<;>(try split)<;>omega
theorem qia{x y:Cut}:0<cmpG x y↔CG y x:=by
 unfold CG;rw[qnt x y];omega
theorem quq{x y:Cut}:¬CG x y↔0≤cmpG x y:=by unfold CG;omega
theorem qnu{x y:Cut}:¬CG y x↔cmpG x y≤0:=by rw[←qia];omega
theorem qk4{x y:Cut}:cmpG x y=0↔¬CG x y∧¬CG y x:=by
 have h:=@qia x y;unfold CG at*
 omega
theorem qlb:∀{l:List UInt8},divB l=true→l=topL l++47::botL l
 |[],h=>by cases h
 |c::l,h=>by
  by_cases hc:c=47
  ·subst hc;rfl
  ·have h1:divB l=true:=by
    unfold divB at h⊢;rw[List.any_cons]at h;have:(c==47)=false:=beq_eq_false_iff_ne.2 hc;rw[this,Bool.false_or]at h;exact h
   have ih:=qlb h1
   have e1:topL (c::l)=c::topL l:=by
    unfold topL;rw[List.takeWhile_cons,if_pos (by simpa using hc)]
   have e2:botL (c::l)=botL l:=by
    unfold botL;rw[List.dropWhile_cons,if_pos (by simpa using hc)]
   rw[e1,e2,List.cons_append,←ih]
theorem noSl:∀{l:List UInt8},divB l=false→topL l=l
 |[],_=>rfl
 |c::l,h=>by
  unfold divB at h;rw[List.any_cons,Bool.or_eq_false_iff]at h;have hc:c≠47:=beq_eq_false_iff_ne.1 h.1;unfold topL;rw[List.takeWhile_cons,if_pos (by simpa using hc)];have:=noSl (l:=l) h.2;unfold topL at this;rw[this]
structure Good(l:List UInt8):Prop where
 top:digB (absL (topL l))=true
 sgn:badI (absL (topL l)) (negB (topL l))=false
 bot:divB l=true→digB (botL l)=true∧(botL l).head?≠some 48∧1<valD (botL l)∧Nat.gcd (valD (absL (topL l))) (valD (botL l))=1
theorem qrc{l:List UInt8}(h:errL l=0):Good l:=by
 unfold errL at h
 split at h
 ·cases h
 rename_i h1
 split at h
 ·cases h
 rename_i h2
 split at h
 ·cases h
 rename_i h3
 have t1:digB (absL (topL l))=true:=by
  cases e:digB (absL (topL l))with
  |true=>rfl
  |false=>rw[e]at h1;simp at h1
 split at h
 ·rename_i h4
  exact⟨t1,by simpa using h3,fun hd=>by rw[hd]at h4;cases h4⟩
 rename_i h4
 split at h
 ·cases h
 rename_i h5
 split at h
 ·cases h
 rename_i h6
 refine⟨t1,by simpa using h3,fun hd=>?_⟩
 have t2:digB (botL l)=true:=by
  cases e:digB (botL l)with
  |true=>rfl
  |false=>rw[hd,e,t1]at h1;simp at h1
 have hz:zerB (botL l)=false:=by
  cases e2:zerB (botL l)with
  |false=>rfl
  |true=>rw[hd,e2]at h2;simp at h2
 have hbad:=qf3 t2 hz
 have t3:(botL l).head?≠some 48:=by
  intro e;rw[e]at hbad;exact h5 hbad.symm
 simp only[Bool.or_eq_true,beq_iff_eq,bne_iff_ne,ne_eq,not_or,Classical.not_not]at h6
 have t4:valD (botL l)≠0:=by
  intro e;have hc:=qdl t2 t3;rw[e,qdv]at hc;exact t3 (by rw[hc];rfl)
 exact⟨t2,t3,by omega,h6.2⟩
theorem qqi{l:List UInt8}(h:errL l=0):numR l=numL l:=by unfold numR;rw[if_pos h]
theorem qrz{l:List UInt8}(h:errL l=0):denR l=(denL l:Int):=by unfold denR;rw[if_pos h]
theorem qu2{l m:List UInt8}(h:errL l=0)(k:errL m=0)(he:numR l*dn (denR m)=numR m*dn (denR l)):l=m:=by
 rw[qqi h,qqi k,qrz h,qrz k]at he;have gl:=qrc h;have gm:=qrc k
 have red:∀{l:List UInt8},Good l→0<dn (denL l:Int)∧Nat.gcd (numL l).natAbs (dn (denL l:Int)).natAbs=1∧(divB l=true↔dn (denL l:Int)≠1)∧(divB l=true→dn (denL l:Int)=(valD (botL l):Int)):=by
  intro l g;have hn:(numL l).natAbs=valD (absL (topL l)):=qcc _ _;rw[hn]
  by_cases hd:divB l=true
  ·obtain⟨_,_,h3,h4⟩:=g.bot hd
   have hv:dn (denL l:Int)=(valD (botL l):Int):=by
    unfold denL dn;rw[if_pos hd,if_neg (by omega)]
   rw[hv];exact⟨by omega,by simpa using h4,⟨fun _=>by omega,fun _=>hd⟩,fun _=>rfl⟩
  ·have hv:dn (denL l:Int)=1:=by
    unfold denL dn;rw[if_neg hd];rfl
   rw[hv];exact⟨by decide,by simp,⟨fun h=>absurd h hd,fun h=>absurd rfl h⟩,fun h=>absurd h hd⟩
 obtain⟨pl,cl,dl,vl⟩:=red gl;obtain⟨pm,cm,dm,vm⟩:=red gm
 have hden:dn (denL l:Int)=dn (denL m:Int):=by
  have d1:(dn (denL l:Int)).natAbs∣(numL l).natAbs*(dn (denL m:Int)).natAbs:=by
   rw[←Int.natAbs_mul,he,Int.natAbs_mul];exact Nat.dvd_mul_left _ _
  have d2:(dn (denL m:Int)).natAbs∣(numL m).natAbs*(dn (denL l:Int)).natAbs:=by
   rw[←Int.natAbs_mul,←he,Int.natAbs_mul];exact Nat.dvd_mul_left _ _
  have e1:=(Nat.Coprime.dvd_of_dvd_mul_left (Nat.Coprime.symm (show Nat.Coprime _ _ from cl))) d1;have e2:=(Nat.Coprime.dvd_of_dvd_mul_left (Nat.Coprime.symm (show Nat.Coprime _ _ from cm))) d2;have:=Nat.dvd_antisymm e1 e2
  omega
 have hnum:numL l=numL m:=by
  rw[hden]at he;exact Int.eq_of_mul_eq_mul_right (by omega) he
 have htop:topL l=topL m:=by
  rw[qer gl.top gl.sgn,qer gm.top gm.sgn]
  show txtZ (numL l)=txtZ (numL m)
  rw[hnum]
 by_cases hd:divB l=true
 ·have hd':divB m=true:=dm.2 (by rw[←hden];exact dl.1 hd)
  obtain⟨b1,b2,_,_⟩:=gl.bot hd;obtain⟨c1,c2,_,_⟩:=gm.bot hd'
  have hv:valD (botL l)=valD (botL m):=by
   have:=vl hd;have:=vm hd';omega
  rw[qlb hd,qlb hd',htop,qdl b1 b2,qdl c1 c2,hv]
 ·have hd':¬divB m=true:=fun e=>hd (dl.2 (by rw[hden];exact dm.1 e))
  rw[←noSl (by simpa using hd:divB l=false),←noSl (by simpa using hd':divB m=false),htop]
def CokG(c:Cut):Prop:=(c.b=0∧errL c.s.data.toList=0∧(c.d=1∨c.d=-1))∨((c.b=1∨c.b=-1)∧c.s=⟨#[]⟩∧c.d=0)
theorem qwj(x y:Cut)(hx:CokG x)(hy:CokG y)(h:¬CG x y)(k:¬CG y x):x=y:=by
 have e:=qk4.2 ⟨h,k⟩;unfold cmpG or3 at e
 split at e
 ·rename_i h1;exact absurd e h1
 rename_i h1
 have hb:x.b=y.b:=qdk.1 (by omega);rcases hx with⟨x1,x2,x3⟩|⟨x1,x2,x3⟩<;>rcases hy with⟨y1,y2,y3⟩|⟨y1,y2,y3⟩
 ·split at e
  ·rename_i h2;exact absurd e h2
  rename_i h2
  have hd:x.d=y.d:=qdk.1 e;have hs:=qu2 x2 y2 (qdk.1 (show cmpZ _ _=0 by unfold cmpQ at h2;omega))
  have hs2:x.s=y.s:=by
   have:=congrArg (fun l:List UInt8=>(⟨l.toArray⟩:ByteArray)) hs;rw[qch (s:=x.s) rfl,qch (s:=y.s) rfl];exact this
  cases x;cases y;simp only at hb hd hs2;rw[hb,hd,hs2]
 ·omega
 ·omega
 ·cases x;cases y;simp only at hb x2 x3 y2 y3;rw[hb,x2,x3,y2,y3]
end Go.Proofs.YtacihodamichhaaGreatDoor
namespace Go.Proofs.YtacihodamichhaaGreatDoor
open Go.RowKit
theorem qqh(k:GC):∀u∈k.cells,u.oneCell'=true:=by
 intro u hu;simp[GC.cells]at hu;rcases hu with rfl|rfl|rfl|rfl|rfl|rfl|rfl<;>rfl
theorem GC.cells_len(k:GC):k.cells.length=7:=rfl
theorem GP.row_len(p:GP):p.row.length=14:=rfl
theorem qct(k l:GC)(w:World)(hk:k.ok w)(hl:l.ok w):Calls Tryz.prog 73 #[k.agg,l.agg] w (RetD (.int .i64 (cmpG k.c l.c)) w):=(Dr.qcu k l w hk hl).mono fun _ _ h=>h.bd
theorem swoG{α:Type}(f:α→Cut):Go.Sort.SWO (Go.Proofs.ltOf fun x y:α=>cmpG (f x) (f y)) where
 irrefl x:=by
  unfold Go.Proofs.ltOf;rw[decide_eq_false_iff_not];exact qco.irr (f x)
 trans x y z h1 h2:=by
  unfold Go.Proofs.ltOf at*;rw[decide_eq_true_eq]at*;exact qco.tr (x:=f x) (y:=f y) (z:=f z) h1 h2
 ntrans x y z h1 h2:=by
  unfold Go.Proofs.ltOf at*;rw[decide_eq_false_iff_not]at*;exact qco.ntr (x:=f x) (y:=f y) (z:=f z) h1 h2
theorem qj4{α:Type}[Inhabited α](enc:α→List Value)(k:Nat)(w:World)(blk off m:Nat)(d:Array α)(os:Array Obj){cur:Array Value}{e:TypeId}{fr:Nat × Nat}(hb:w.heap[blk]?=some (.cells cur e fr)):∃cur',(sortWorldK enc k w blk off m d os).heap[blk]?=some (.cells cur' e fr)∧cur'.size=cur.size:=by
 have hlt:blk<w.heap.size:=(Array.getElem?_eq_some_iff.1 hb).1;have hs:(Go.Sort.putRowK enc k (Go.Sort.ahead w m) blk off d).heap.size=w.heap.size:=Go.Sort.size_putRow _ _ _ _ _
 have h:((Go.Sort.putRowK enc k (Go.Sort.ahead w m) blk off d).heap++os)[blk]?=some (.cells (Go.Sort.putCells id off (Go.Sort.flatK enc k d) cur) e fr):=by
  rw[Array.getElem?_append_left (by omega)];unfold Go.Sort.putRowK Go.Sort.putRow Go.Sort.mapBlock;simp[Go.Sort.ahead,Array.getElem?_modify,hb,Go.Sort.onCells]
 exact⟨_,h,by simp[Go.Sort.putCells]⟩
theorem qke{w':World}{g B e N cap:Nat}{cur:Array Value}{rows:List (List Value)}(hb:w'.heap[g]?=some (.cells cur e (0,0)))(hB:B≤g)(hsz:cur.size=cap*7)(hrl:∀r∈rows,r.length=7)(hS:Sl w' 7 (.slice (some ⟨g,0,none⟩) N cap) rows):w'.ownsRow B e 7 (.slice (some ⟨g,0,none⟩) N cap) N rows.flatten:=by
 obtain⟨_,_,hv,hc,hm⟩:=hS.open;have hN:rows.length=N:=by cases hv;rfl
 have hcap:N≤cap:=by cases hv;exact hc
 have hcm:cap≤maxLen:=by cases hv;exact hm
 refine⟨by rw[qcr hrl,hN],.inr ⟨g,cap,cur,rfl,hB,hb,hcap,hcm,hsz,?_⟩⟩
 have hfl:=qcr hrl;rw[hN]at hfl;have hle:N*7≤cap*7:=Nat.mul_le_mul_right 7 hcap
 apply List.ext_getElem?
 intro t;rcases Nat.lt_or_ge t (N*7)with ht|ht
 ·rw[List.getElem?_take_of_lt ht,List.getElem?_eq_getElem (l:=rows.flatten) (by rw[hfl];exact ht)]
  have h:=hS.flat hrl (by decide) t _ (List.getElem?_eq_getElem (l:=rows.flatten) (by rw[hfl];exact ht));have ha:(⟨g,0,none⟩:Addr).add t=⟨g,0+t,none⟩:=by unfold Addr.add;split<;>simp_all
  rw[ha,Nat.zero_add]at h;unfold World.cell? at h;simp only[hb]at h;rw[Array.getElem?_toList];exact h
 ·rw[List.getElem?_eq_none (by rw[List.length_take];omega),List.getElem?_eq_none (by rw[hfl];exact ht)]
theorem qfp{β α:Type}[Inhabited α](val:α→β)(cf:β→Cut)(d d':Array α)(hp:Go.Sort.PermIn 0 d.size d d')(hs:Go.Sort.SortedIn (Go.Proofs.ltOf fun x y:α=>cmpG (cf (val x)) (cf (val y))) 0 d.size d'):
  (d'.toList.map val).Perm (d.toList.map val)∧∀(i j:Nat) (x y:β),i<j→(d'.toList.map val)[i]?=some x→(d'.toList.map val)[j]?=some y→¬CG (cf y) (cf x):=by
 obtain⟨hsz,-,hperm⟩:=hp;have e1:d'.extract 0 d.size=d':=by rw[←hsz];simp
 have e2:d.extract 0 d.size=d:=by simp
 rw[e1,e2]at hperm;refine⟨hperm.map val,fun i j x y hij hx hy hlt=>?_⟩
 simp only[List.getElem?_map,Option.map_eq_some_iff,Array.getElem?_toList]at hx hy;obtain⟨a,ha,rfl⟩:=hx;obtain⟨b,hb,rfl⟩:=hy;have hj:j<d'.size:=(Array.getElem?_eq_some_iff.1 hb).1;have hi:i<d'.size:=by omega
 have:=hs i j (Nat.zero_le _) hij (by omega);rw[getElem!_pos d' j hj,getElem!_pos d' i hi,(Array.getElem?_eq_some_iff.1 hb).2,(Array.getElem?_eq_some_iff.1 ha).2]at this;unfold Go.Proofs.ltOf at this;rw[decide_eq_false_iff_not]at this;exact this hlt
theorem qn4(P:List GC)(w:World)(B g cap:Nat)(hne:P≠[])(hown:w.ownsRow B 79 7 (.slice (some ⟨g,0,none⟩) P.length cap) P.length ((P.map GC.cells).flatten))(hok:∀k∈P,k.ok w)(hsz:P.length<4611686018427387904):
  Calls Tryz.prog 133 #[.slice (some ⟨g,0,none⟩) P.length cap,.func (.func 73) #[] #[]] w (fun e w'=>e=.returned (.tuple #[])∧w.grownBy w' (some g)∧∃P':List GC,P'.Perm P∧(∀(i j:Nat) (x y:GC),i<j→P'[i]?=some x→P'[j]?=some y→¬CG y.c x.c)∧w'.ownsRow B 79 7 (.slice (some ⟨g,0,none⟩) P.length cap) P.length ((P'.map GC.cells).flatten)∧∀k∈P',k.ok w'):=by
 let α:={x:GC // x∈P}
 have:Inhabited α:=by
  cases P with
  |nil=>exact absurd rfl hne
  |cons a l=>exact⟨⟨a,List.mem_cons_self ..⟩⟩
 let d:Array α:=P.attach.toArray
 have hd:d.toList.map Subtype.val=P:=by simp[d]
 have hds:d.size=P.length:=by have h:=congrArg List.length hd;rw[List.length_map,Array.length_toList]at h;exact h
 have hown':=hown;rw[←hds]at hown';rw[←hd]at hown';have hH:=qgp GC.cells 7 GC.cells_len (by decide) (α:=α) Subtype.val d w hown';obtain⟨_,_,hv,hcap1,hcap2⟩:=qas hown;cases hv
 have hgl:g<w.heap.size:=(hown.lt g rfl).2
 have hcmp:CmpLays Tryz.prog 73 #[] (fun a:α=>GC.cells a.val) 7 (fun x y=>cmpG x.val.c y.val.c) g 0 d.size w:=by
  intro m os dk hdk x y;have hg:=qdc (fun a:α=>GC.cells a.val) 7 w g 0 m dk os;have hx:=(hok x.1 x.2).grown hown (by decide) hg;have hy:=(hok y.1 y.2).grown hown (by decide) hg;refine(qct x.1 y.1 _ hx hy).mono fun e w' h=>⟨h.1,qsd h.2⟩
 have h:=AnyQ.slices_SortFunc Tryz.sortC 7 Tryz.isAgg79 Tryz.sizeOf79 (fun a:α=>GC.cells a.val) (fun a=>rfl) (fun a=>qqh a.1) (fun x y=>cmpG x.val.c y.val.c) (swoG fun x:α=>x.val.c) 73 #[] g 0 cap d w (enters_of Tryz.func73 (by kernel_rfl) rfl) hcmp hH hgl (by rw[hds];exact hsz);rw[hds]at h
 change Calls Tryz.prog 133 _ _ _ at h
 refine h.mono fun e w' ⟨he,d',n,os,hp,hs,hw⟩=>⟨he,by rw[hw];exact qdc _ _ _ _ _ _ _ _,d'.toList.map Subtype.val,?_⟩
 have hg:w.grownBy w' (some g):=by rw[hw];exact qdc _ _ _ _ _ _ _ _
 rw[←hds]at hp hs;obtain⟨hperm,hsort⟩:=qfp (β:=GC) (α:=α) Subtype.val GC.c d d' hp hs;rw[hd]at hperm;have hd's:d'.size=P.length:=by rw[hp.1,hds]
 refine⟨hperm,hsort,?_,fun k hk=>(hok k (hperm.mem_iff.1 hk)).grown hown (by decide) hg⟩
 have hH':Go.Sort.HoldsK (fun a:α=>GC.cells a.val) 7 w' g 0 d':=by
  rw[hw];exact Go.Sort.holdsK_grow _ _ _ _ _ _ _ (by rw[show(Go.Sort.putRowK _ _ _ _ _ _).heap.size=_ from Go.Sort.size_putRow _ _ _ _ _];exact hgl) (Go.Sort.holdsK_putRowK _ _ _ _ _ d _ hH hp.1)
 have hsl:=qhc GC.cells 7 GC.cells_len (α:=α) Subtype.val d' w' (cap:=cap) hH' (Nat.lt_of_lt_of_le hgl hg.size) (by omega) hcap2;rw[hd's]at hsl
 obtain⟨_,cur,hb,hcs⟩:∃B' cur,w.heap[g]?=some (.cells cur 79 (0,0))∧cur.size=cap*7:=by
  rcases hown.2 with⟨hv,_⟩|⟨g2,cap2,cur,hv,-,hgb,-,-,hcs,-⟩
  ·cases hv
  ·cases hv
   exact⟨0,cur,hgb,hcs⟩
 obtain⟨cur',hb',hcs'⟩:=qj4 (fun a:α=>GC.cells a.val) 7 w g 0 n d' os hb;rw[←hw]at hb';exact qke hb' (hown.lt g rfl).1 (by rw[hcs',hcs]) (fun r hr=>by obtain⟨p,_,rfl⟩:=List.mem_map.1 hr;rfl) hsl
theorem qok(p q:GP)(w:World)(hp:p.ok w)(hq:q.ok w):Calls Tryz.prog 75 #[gpagg p.l p.h,gpagg q.l q.h] w (RetD (.int .i64 (cmpG p.l.c q.l.c)) w):=by
 have H:=hI (fun w' (hb:Below w.heap.size w w')=>qct p.l q.l w' (hp.1.mono hb) (hq.1.mono hb));unfold GC.agg at H;generalize cmpG p.l.c q.l.c=R at*;unfold gpagg;clear hp hq
 go_enter Tryz.func75,Tryz.ntmps75
 go_wp2_with (go_at_call 73;refine(H.out _ (qaz w _ _)).mono ?_;rintro e w1 ⟨rfl,hb1⟩)
 go_ret
 exact⟨rfl,(qaz w _ _).via hb1.1 (qaz w _ _).size,by have:=hb1.2;simpa using this⟩
theorem qlc(P:List GP)(N:Nat)(hN:P.length=N)(w:World)(B g cap:Nat)(hne:P≠[])(hown:w.ownsRow B 84 14 (.slice (some ⟨g,0,none⟩) N cap) N ((P.map GP.row).flatten))(hok:∀k∈P,k.ok w)(hsz:N<4611686018427387904):
  Calls Tryz.prog 74 #[.slice (some ⟨g,0,none⟩) N cap,.func (.func 75) #[] #[]] w (fun e w'=>e=.returned (.tuple #[])∧w.grownBy w' (some g)∧∃P':List GP,P'.Perm P∧(∀(i j:Nat) (x y:GP),i<j→P'[i]?=some x→P'[j]?=some y→¬CG y.l.c x.l.c)∧qa0 w' (.slice (some ⟨g,0,none⟩) N cap) P'):=by
 subst hN
 let α:={x:GP // x∈P}
 have:Inhabited α:=by
  cases P with
  |nil=>exact absurd rfl hne
  |cons a l=>exact⟨⟨a,List.mem_cons_self ..⟩⟩
 let d:Array α:=P.attach.toArray
 have hd:d.toList.map Subtype.val=P:=by simp[d]
 have hds:d.size=P.length:=by have h:=congrArg List.length hd;rw[List.length_map,Array.length_toList]at h;exact h
 have hown':=hown;rw[←hds]at hown';rw[←hd]at hown';have hH:=qgp GP.row 14 GP.row_len (by decide) (α:=α) Subtype.val d w hown';obtain⟨_,_,hv,hcap1,hcap2⟩:=qas hown;cases hv
 have hgl:g<w.heap.size:=(hown.lt g rfl).2
 have hcmp:CmpLays Tryz.prog 75 #[] (fun a:α=>GP.row a.val) 14 (fun x y=>cmpG x.val.l.c y.val.l.c) g 0 d.size w:=by
  intro m os dk hdk x y;have hg:=qdc (fun a:α=>GP.row a.val) 14 w g 0 m dk os;have hx:x.1.ok _:=⟨(hok x.1 x.2).1.grown hown (by decide) hg,(hok x.1 x.2).2.grown hown (by decide) hg⟩
  have hy:y.1.ok _:=⟨(hok y.1 y.2).1.grown hown (by decide) hg,(hok y.1 y.2).2.grown hown (by decide) hg⟩
  refine(qok x.1 y.1 _ hx hy).mono fun e w' h=>⟨h.1,qsd h.2⟩
 have h:=AnyQ.slices_SortFunc Tryz.sortP 14 Tryz.isAgg84 Tryz.sizeOf84 (fun a:α=>GP.row a.val) (fun a=>rfl) (fun a=>qfw a.1) (fun x y=>cmpG x.val.l.c y.val.l.c) (swoG fun x:α=>x.val.l.c) 75 #[] g 0 cap d w (enters_of Tryz.func75 (by kernel_rfl) rfl) hcmp hH hgl (by rw[hds];exact hsz);rw[hds]at h
 change Calls Tryz.prog 74 _ _ _ at h
 refine h.mono fun e w' ⟨he,d',n,os,hp,hs,hw⟩=>⟨he,by rw[hw];exact qdc _ _ _ _ _ _ _ _,d'.toList.map Subtype.val,?_⟩
 have hg:w.grownBy w' (some g):=by rw[hw];exact qdc _ _ _ _ _ _ _ _
 rw[←hds]at hp hs;obtain⟨hperm,hsort⟩:=qfp (β:=GP) (α:=α) Subtype.val (fun p=>p.l.c) d d' hp hs;rw[hd]at hperm;have hd's:d'.size=P.length:=by rw[hp.1,hds]
 refine⟨hperm,hsort,?_,fun k hk=>⟨(hok k (hperm.mem_iff.1 hk)).1.grown hown (by decide) hg,(hok k (hperm.mem_iff.1 hk)).2.grown hown (by decide) hg⟩⟩
 have hH':Go.Sort.HoldsK (fun a:α=>GP.row a.val) 14 w' g 0 d':=by
  rw[hw];exact Go.Sort.holdsK_grow _ _ _ _ _ _ _ (by rw[show(Go.Sort.putRowK _ _ _ _ _ _).heap.size=_ from Go.Sort.size_putRow _ _ _ _ _];exact hgl) (Go.Sort.holdsK_putRowK _ _ _ _ _ d _ hH hp.1)
 have:=qhc GP.row 14 GP.row_len (α:=α) Subtype.val d' w' (cap:=cap) hH' (Nat.lt_of_lt_of_le hgl hg.size) (by omega) hcap2;rw[hd's]at this;exact this
theorem qhb(P:List GP)(N:Nat)(hN:P.length=N)(w:World)(B cap:Nat)(a:Option Addr)(hown:w.ownsRow B 84 14 (.slice a N cap) N ((P.map GP.row).flatten))(hok:∀k∈P,k.ok w)(hsz:N<4611686018427387904):
  Calls Tryz.prog 74 #[.slice a N cap,.func (.func 75) #[] #[]] w (fun e w'=>e=.returned (.tuple #[])∧w.grownBy w' (Value.slice a N cap).ownBlock∧∃P':List GP,P'.Perm P∧(∀(i j:Nat) (x y:GP),i<j→P'[i]?=some x→P'[j]?=some y→¬CG y.l.c x.l.c)∧qa0 w' (.slice a N cap) P'):=by
 rcases Nat.eq_zero_or_pos N with h0|h0
 ·subst h0
  obtain rfl:=List.length_eq_zero_iff.1 hN;have h:=AnyF.slices_SortFunc_none Tryz.sortP a cap (.func (.func 75) #[] #[]) w
  change Calls Tryz.prog 74 _ _ _ at h
  refine h.mono ?_
  rintro e w' ⟨rfl,rfl⟩;exact⟨rfl,⟨rfl,rfl,rfl,Nat.le_refl _,fun _ _ _=>rfl⟩,[],List.Perm.refl _,(fun i j x y _ hx=>by simp at hx),qcj hown hok⟩
 ·obtain⟨g,rfl⟩:=qbk hown h0
  refine(qlc P N hN w B g cap (by rintro rfl;simp at hN;omega) hown hok hsz).mono ?_
  rintro e w' ⟨he,hg,h⟩;exact⟨he,hg,h⟩
end Go.Proofs.YtacihodamichhaaGreatDoor
namespace Go.Proofs.YtacihodamichhaaGreatDoor
open Go.RowKit
theorem quh(k:GC)(side:Int)(w:World):Calls Tryz.prog 127 #[k.agg,.int .i64 side] w (Ret (.int .i64 (qd0 k.c side)) w):=by
 unfold GC.agg qd0;obtain⟨⟨b,s,d⟩,x,a,n,c,y,e,m,r⟩:=k;dsimp only
 by_cases hb:b=0
 ·rw[if_neg (by simpa using hb)]
  have e1:(b !=0)=false:=by simpa using hb
  by_cases hd:d=side
  ·rw[if_pos hd]
   have e2:(d==side)=true:=by simpa using hd
   clear hb hd
   go_enter Tryz.func127,Tryz.ntmps127
   go_wp2_with fail
   go_ret
   exact⟨rfl,qac w _⟩
  ·rw[if_neg hd]
   have e2:(d==side)=false:=by simpa using hd
   clear hb hd
   go_enter Tryz.func127,Tryz.ntmps127
   go_wp2_with fail
   go_ret
   exact⟨rfl,qac w _⟩
 ·rw[if_pos hb]
  have e1:(b !=0)=true:=by simpa using hb
  clear hb
  go_enter Tryz.func127,Tryz.ntmps127
  go_wp2_with fail
  go_ret
  exact⟨rfl,qac w _⟩
def GP.iv(p:GP):Iv:=⟨p.l.c.s,p.h.c.s,qd0 p.l.c 1,qd0 p.h.c (-1)⟩
set_option maxRecDepth 10000 in
theorem qhw(v:Value)(ps:List GP)(w:World)(h:qa0 w v ps)(hn:ps.length≤1000):
  Calls Tryz.prog 76 #[v] w (RetP (fun v w'=>∃a c,v=.slice a ps.length c∧Ivs w' (.slice a ps.length c) (ps.map GP.iv)) w):=by
 obtain⟨a,c,rfl,hc1,hc2⟩:=h.open;unfold maxLen at hc2;have HX:=hI h;clear h;generalize hln:ps.length=n at*;have Hln:=hI hln;clear hln;have HN:=hI (fun W:World=>World.ownsRow_nil W w.heap.size 46 4)
 go_enter Tryz.func76,Tryz.ntmps76
 go_wp2_with fail
 go_loopw [9,3] (fun i out wr=>∃k:Nat,k≤n∧i=.int .i64 (k:Int)∧Below w.heap.size w wr∧wr.ownsRow w.heap.size 46 4 out k ((((ps.take k).map GP.iv).map Iv.row).flatten)) (fun i _ _=>n-(intOf i).toNat)
 case atStart=>exact⟨0,by omega,rfl,Below.refl _ _,HN.out _⟩
 case round=>
  obtain⟨k,hk,rfl,hbw,hown⟩:=hrel;rcases Nat.lt_or_ge k n with hlt|hge
  ·obtain⟨b,off,p,rfl,hx,-,cells⟩:=HX.out.at hbw hlt
   obtain⟨e0,e1,e2,e3,e4,e5,e6,e7,e8,e9,e10,e11,e12,e13⟩:=cells;have hkn:(k:Int)<(n:Int):=by omega
   have hik:IntKind.i64.wrap ((k:Int)+1)=(k:Int)+1:=IntWalk.i64_in _ (by omega);have Htk:=hI (show((((ps.take k).map GP.iv).map Iv.row).flatten)++Iv.row p.iv=((((ps.take (k+1)).map GP.iv).map Iv.row).flatten)by rw[geti hx];simp);have Hbw:=hI hbw;have Hown:=hI hown;have hPB:Blk ((wr.alloc (.cells #[.int .i64 p.l.c.b,.string p.l.c.s,.int .i64 p.l.c.d,.bool p.l.x,.slice p.l.a p.l.n p.l.cap,.bool p.l.y,.slice p.l.e p.l.m p.l.cap2,.int .i64 p.h.c.b,.string p.h.c.s,.int .i64 p.h.c.d,.bool p.h.x,.slice p.h.a p.h.n p.h.cap,.bool p.h.y,.slice p.h.e p.h.m p.h.cap2] 84)).alloc (.cells #[.string p.l.c.s,.string p.h.c.s,.int .i64 0,.int .i64 0] 46)) wr.heap.size #[.int .i64 p.l.c.b,.string p.l.c.s,.int .i64 p.l.c.d,.bool p.l.x,.slice p.l.a p.l.n p.l.cap,.bool p.l.y,.slice p.l.e p.l.m p.l.cap2,.int .i64 p.h.c.b,.string p.h.c.s,.int .i64 p.h.c.d,.bool p.h.x,.slice p.h.a p.h.n p.h.cap,.bool p.h.y,.slice p.h.e p.h.m p.h.cap2] 84:=(Blk.new wr _ _).old _
   have hXB:Blk ((wr.alloc (.cells #[.int .i64 p.l.c.b,.string p.l.c.s,.int .i64 p.l.c.d,.bool p.l.x,.slice p.l.a p.l.n p.l.cap,.bool p.l.y,.slice p.l.e p.l.m p.l.cap2,.int .i64 p.h.c.b,.string p.h.c.s,.int .i64 p.h.c.d,.bool p.h.x,.slice p.h.a p.h.n p.h.cap,.bool p.h.y,.slice p.h.e p.h.m p.h.cap2] 84)).alloc (.cells #[.string p.l.c.s,.string p.h.c.s,.int .i64 0,.int .i64 0] 46)) (wr.heap.size+1) #[.string p.l.c.s,.string p.h.c.s,.int .i64 0,.int .i64 0] 46:=by
    have h:=Blk.new (wr.alloc (.cells #[.int .i64 p.l.c.b,.string p.l.c.s,.int .i64 p.l.c.d,.bool p.l.x,.slice p.l.a p.l.n p.l.cap,.bool p.l.y,.slice p.l.e p.l.m p.l.cap2,.int .i64 p.h.c.b,.string p.h.c.s,.int .i64 p.h.c.d,.bool p.h.x,.slice p.h.a p.h.n p.h.cap,.bool p.h.y,.slice p.h.e p.h.m p.h.cap2] 84)) #[.string p.l.c.s,.string p.h.c.s,.int .i64 0,.int .i64 0] 46
    simpa using h
   have HPB:=hI hPB;have HXB:=hI hXB;have HK2:=hI (qaz wr (.cells #[.int .i64 p.l.c.b,.string p.l.c.s,.int .i64 p.l.c.d,.bool p.l.x,.slice p.l.a p.l.n p.l.cap,.bool p.l.y,.slice p.l.e p.l.m p.l.cap2,.int .i64 p.h.c.b,.string p.h.c.s,.int .i64 p.h.c.d,.bool p.h.x,.slice p.h.a p.h.n p.h.cap,.bool p.h.y,.slice p.h.e p.h.m p.h.cap2] 84) (.cells #[.string p.l.c.s,.string p.h.c.s,.int .i64 0,.int .i64 0] 46));have HS:=hI (fun w' (hb:Below ((wr.alloc (.cells #[.int .i64 p.l.c.b,.string p.l.c.s,.int .i64 p.l.c.d,.bool p.l.x,.slice p.l.a p.l.n p.l.cap,.bool p.l.y,.slice p.l.e p.l.m p.l.cap2,.int .i64 p.h.c.b,.string p.h.c.s,.int .i64 p.h.c.d,.bool p.h.x,.slice p.h.a p.h.n p.h.cap,.bool p.h.y,.slice p.h.e p.h.m p.h.cap2] 84)).alloc (.cells #[.string p.l.c.s,.string p.h.c.s,.int .i64 0,.int .i64 0] 46)).heap.size ((wr.alloc (.cells #[.int .i64 p.l.c.b,.string p.l.c.s,.int .i64 p.l.c.d,.bool p.l.x,.slice p.l.a p.l.n p.l.cap,.bool p.l.y,.slice p.l.e p.l.m p.l.cap2,.int .i64 p.h.c.b,.string p.h.c.s,.int .i64 p.h.c.d,.bool p.h.x,.slice p.h.a p.h.n p.h.cap,.bool p.h.y,.slice p.h.e p.h.m p.h.cap2] 84)).alloc (.cells #[.string p.l.c.s,.string p.h.c.s,.int .i64 0,.int .i64 0] 46)) w')=>qa9 hPB hb);have H1:=hI (fun w'=>quh p.l 1 w');have H2:=hI (fun w'=>quh p.h (-1) w');have Hiv:=hI (show p.iv=⟨p.l.c.s,p.h.c.s,qd0 p.l.c 1,qd0 p.h.c (-1)⟩from rfl);generalize qd0 p.l.c 1=K1 at*;generalize qd0 p.h.c (-1)=K2 at*;unfold GC.agg at H1 H2;clear hx hbw hown hPB hXB
   go_wp2_with fail
   refine qar (S:=(fun w'=>w'.cell? ⟨wr.heap.size,0,none⟩=some (.int .i64 p.l.c.b)∧w'.cell? ⟨wr.heap.size,1,none⟩=some (.string p.l.c.s)∧w'.cell? ⟨wr.heap.size,2,none⟩=some (.int .i64 p.l.c.d)∧w'.cell? ⟨wr.heap.size,3,none⟩=some (.bool p.l.x)∧w'.cell? ⟨wr.heap.size,4,none⟩=some (.slice p.l.a p.l.n p.l.cap)∧w'.cell? ⟨wr.heap.size,5,none⟩=some (.bool p.l.y)∧w'.cell? ⟨wr.heap.size,6,none⟩=some (.slice p.l.e p.l.m p.l.cap2)∧w'.cell? ⟨wr.heap.size,7,none⟩=some (.int .i64 p.h.c.b)∧w'.cell? ⟨wr.heap.size,8,none⟩=some (.string p.h.c.s)∧w'.cell? ⟨wr.heap.size,9,none⟩=some (.int .i64 p.h.c.d)∧w'.cell? ⟨wr.heap.size,10,none⟩=some (.bool p.h.x)∧w'.cell? ⟨wr.heap.size,11,none⟩=some (.slice p.h.a p.h.n p.h.cap)∧w'.cell? ⟨wr.heap.size,12,none⟩=some (.bool p.h.y)∧w'.cell? ⟨wr.heap.size,13,none⟩=some (.slice p.h.e p.h.m p.h.cap2))) 9 (by kernel_rfl) (by kernel_rfl) (by exact HS.out _ ((Below.refl _ _).dn 1)) (fun hHeld=>?_)
   simp only[List.take_succ_cons,List.take_zero,List.drop_succ_cons,List.drop_zero];refine wpAnyH_take (i:=0) (v:=?v1) rfl (by kernel_rfl) (by kernel_rfl) (by kernel_rfl) (fun _ _ _ h=>h) (Or.inl ⟨by rfl,?hy1⟩) (by assumption) ?rest1
   case hy1=>(intro w hSw;(try dsimp only at hSw);go_simp;try(with_reducible rfl))
   try simp only[Act.put,List.getElem_toArray,List.getElem_cons_zero,List.setIfInBounds_toArray,List.set_cons_zero,List.set_cons_succ]
   refine' tk 1 ?_;(try simp only[tkS]);refine' tk 3 ?_;(try simp only[tkS]);refine' tk 4 ?_;(try simp only[tkS]);refine tk1 2 (fun K hK=>?_)
   go_simp;go_at_call 127;refine(H1.out _).mono ?_
   rintro e5 w2 ⟨rfl,hb2⟩;have Hb2:=hI (qaa ((Below.refl _ _).dn 1) hb2);clear hb2;refine hK.out _ _ (by exact HS.out _ (Hb2.out)) (fun hHeld=>?_)
   clear hK K;(try simp only[tkS]);refine' tk 6 ?_;(try simp only[tkS]);refine tk1 5 (fun K hK=>?_)
   go_simp;go_at_call 127;refine(H2.out _).mono ?_
   rintro e5 w5 ⟨rfl,hb5⟩;have Hb5:=hI (qaa (Hb2.out) hb5);clear hb5;refine hK.out _ _ (by exact HS.out _ (Hb5.out)) (fun hHeld=>?_)
   clear hK K;(try simp only[tkS]);refine tk1 7 (fun K hK=>?_)
   have Hbk:=hI (Hb5.out);have hX8:=HXB.out.below Hbk.out;have HX9:=hX8.set 2 (.int .i64 K1);have HX10:=HX9.set 3 (.int .i64 K2);simp at HX9 HX10;have g0:=hX8.free 2;have g1:=hX8.free 3;have s2:=hX8.cell 2;have s3:=hX8.cell 3;have z2:=HX9.cell 3;have z3:=HX9.free 3;simp only[List.getElem?_toArray,List.getElem?_cons_succ,List.getElem?_cons_zero]at s2 s3 z2;have HX11:=hI HX10;have HS9:=hI (HS.out _ Hbk.out);have Hbk2:=hI ((Hbw.out.via (qaa HK2.out Hbk.out) Hbw.out.size));clear hX8 HX9 HX10;go_simp;refine hK.out _ _ (by exact⟨qbn HS9.out.1 (show wr.heap.size+1≠wr.heap.size by omega),qbn HS9.out.2.1 (show wr.heap.size+1≠wr.heap.size by omega),qbn HS9.out.2.2.1 (show wr.heap.size+1≠wr.heap.size by omega),qbn HS9.out.2.2.2.1 (show wr.heap.size+1≠wr.heap.size by omega),qbn HS9.out.2.2.2.2.1 (show wr.heap.size+1≠wr.heap.size by omega),qbn HS9.out.2.2.2.2.2.1 (show wr.heap.size+1≠wr.heap.size by omega),qbn HS9.out.2.2.2.2.2.2.1 (show wr.heap.size+1≠wr.heap.size by omega),qbn HS9.out.2.2.2.2.2.2.2.1 (show wr.heap.size+1≠wr.heap.size by omega),qbn HS9.out.2.2.2.2.2.2.2.2.1 (show wr.heap.size+1≠wr.heap.size by omega),qbn HS9.out.2.2.2.2.2.2.2.2.2.1 (show wr.heap.size+1≠wr.heap.size by omega),qbn HS9.out.2.2.2.2.2.2.2.2.2.2.1 (show wr.heap.size+1≠wr.heap.size by omega),qbn HS9.out.2.2.2.2.2.2.2.2.2.2.2.1 (show wr.heap.size+1≠wr.heap.size by omega),qbn HS9.out.2.2.2.2.2.2.2.2.2.2.2.2.1 (show wr.heap.size+1≠wr.heap.size by omega),qbn HS9.out.2.2.2.2.2.2.2.2.2.2.2.2.2 (show wr.heap.size+1≠wr.heap.size by omega)⟩) (fun hHeld=>?_)
   clear hK K;(try simp only[tkS]);refine' tk 8 ?_;(try simp only[tkS]);refine tkD ?_ _
   simp only[Exit.then];have Hb8:=hI ((Hbk2.out.setCell (p:=⟨wr.heap.size+1,2,none⟩) (Nat.le_trans Hbw.out.size (Nat.le_succ _)) (.int .i64 K1)).setCell (p:=⟨wr.heap.size+1,3,none⟩) (Nat.le_trans Hbw.out.size (Nat.le_succ _)) (.int .i64 K2));have Hb9:=hI (((HK2.out.via Hbk.out HK2.out.size).setCell (p:=⟨wr.heap.size+1,2,none⟩) (Nat.le_succ _) (.int .i64 K1)).setCell (p:=⟨wr.heap.size+1,3,none⟩) (Nat.le_succ _) (.int .i64 K2));have Hown4:=hI (qaf Hown.out Hb9.out);obtain⟨y0,y1,y2,y3⟩:=qeq HX11.out (Below.refl _ _);have hszz:((w5.setCell ⟨wr.heap.size+1,2,none⟩ (.int .i64 K1)).setCell ⟨wr.heap.size+1,3,none⟩ (.int .i64 K2)).heap.size=w5.heap.size:=by simp
   have Hblk:=hI (show(((w5.setCell ⟨wr.heap.size+1,2,none⟩ (.int .i64 K1)).setCell ⟨wr.heap.size+1,3,none⟩ (.int .i64 K2)).alloc (.cells (Iv.row (⟨p.l.c.s,p.h.c.s,K1,K2⟩:Iv)).toArray 46)).heap[w5.heap.size]?=some (.cells (Iv.row (⟨p.l.c.s,p.h.c.s,K1,K2⟩:Iv)).toArray 46 (0,0))by have h:=Blk.new ((w5.setCell ⟨wr.heap.size+1,2,none⟩ (.int .i64 K1)).setCell ⟨wr.heap.size+1,3,none⟩ (.int .i64 K2)) (Iv.row (⟨p.l.c.s,p.h.c.s,K1,K2⟩:Iv)).toArray 46;unfold Blk at h;rw[hszz]at h;exact h);have Hown4a:=hI (qaf Hown4.out (qac _ (.cells (Iv.row (⟨p.l.c.s,p.h.c.s,K1,K2⟩:Iv)).toArray 46)));clear hszz
   go_wp2_with (at_builtin;refine qj0 EI (by decide) (Iv.row (⟨p.l.c.s,p.h.c.s,K1,K2⟩:Iv)) rfl _ _ rfl w.heap.size _ _ _ _ rfl rfl Hown4a.out Hblk.out rfl (one4 _) (by omega) (by decide) (Nat.le_trans Hb8.out.size (qac _ _).size) ?_;intro gg cap' w6 hown' hg' _ _;have Hbw3:=hI (qau Hb8.out Hown4.out hg' Hb8.out.size);have Hown5:=hI hown';clear hown' hg')
   go_roundw
   case rel=>exact⟨k+1,by omega,by go_num,Hbw3.out,by have:=Hown5.out;rw[←Hiv.out,Htk.out]at this;exact this⟩
   case measure=>simp[intOf]<;>omega
  ·obtain rfl:k=n:=by omega
   have hkn:¬(k:Int)<(k:Int):=by omega
   obtain⟨aa,cap,rfl,-,-⟩:=qas hown;have hprt:=qhk hown;rw[List.take_of_length_le (by rw[Hln.out];exact Nat.le_refl _)]at hprt;have Hprt:=hI hprt;have Hbw:=hI hbw;clear hown hprt hbw
   go_wp2_with fail
   go_ret
   exact⟨_,rfl,⟨aa,cap,rfl,Hprt.out⟩,Hbw.out⟩
end Go.Proofs.YtacihodamichhaaGreatDoor
namespace Go.Proofs.YtacihodamichhaaGreatDoor
open Go.RowKit
def qbb:List Iv→Int
 |[]=>0
 |x::r=>if qba x≠0 then qba x else qbb r
def qa6(xs:List Iv):Int:=if 256<xs.length then 6 else qbb xs
theorem qd9:∀{xs:List Iv},qbb xs=0→∀x∈xs,qba x=0
 |[],_,x,h=>by cases h
 |y::r,he,x,h=>by
  unfold qbb at he
  split at he
  ·rename_i h1;exact absurd he h1
  ·rename_i h1
   rcases List.mem_cons.1 h with rfl|h
   ·simpa using h1
   ·exact qd9 he x h
end Go.Proofs.YtacihodamichhaaGreatDoor
