/- Parts of the proof. -/
import Derived.Laws.IdiomStrings
import Derived.Test.YtacihodamichhaaGreatDoorU06
set_option maxHeartbeats 4000000
namespace Go.Proofs.YtacihodamichhaaGreatDoor.D10
open Go.RowKit
def natL:List Nat→Nat
 |[]=>0
 |d::l=>d+10*natL l
def Dg(l:List Nat):Prop:=∀d∈l,d<10
theorem qav:∀a b:List Nat,natL (a++b)=natL a+10^a.length*natL b
 |[],b=>by simp[natL]
 |d::a,b=>by
  have ih:=qav a b;simp only[List.cons_append,natL,ih,List.length_cons,Nat.pow_succ];rw[Nat.mul_add,Nat.add_assoc]
  congr 2
  rw[Nat.mul_comm (10^a.length) 10,Nat.mul_assoc]
theorem qaw(a:List Nat)(d:Nat):natL (a++[d])=natL a+10^a.length*d:=by
 rw[qav];simp[natL]
theorem qcl:∀n,natL (List.replicate n 0)=0
 |0=>rfl
 |n+1=>by rw[List.replicate_succ,natL,qcl n,Nat.mul_zero]
theorem Dg.append{a b:List Nat}(ha:Dg a)(hb:Dg b):Dg (a++b):=fun d hd=>by
 rcases List.mem_append.1 hd with h|h
 ·exact ha d h
 ·exact hb d h
theorem Dg.one{d:Nat}(h:d<10):Dg [d]:=fun x hx=>by
 obtain rfl:=List.mem_singleton.1 hx;exact h
theorem Dg.take{l:List Nat}(h:Dg l)(k:Nat):Dg (l.take k):=fun d hd=>h d (List.mem_of_mem_take hd)
theorem Dg.zeros(n:Nat):Dg (List.replicate n 0):=fun d hd=>by
 obtain rfl:=List.eq_of_mem_replicate hd
 decide
theorem qa7:∀{l:List Nat},Dg l→natL l<10^l.length
 |[],_=>by simp[natL]
 |d::l,h=>by
  have ih:=qa7 (l:=l) (fun x hx=>h x (by simp[hx]));have hd:=h d (by simp);have h1:natL l+1≤10^l.length:=ih;have h2:10*(natL l+1)≤10*10^l.length:=Nat.mul_le_mul_left _ h1;simp only[natL,List.length_cons,Nat.pow_succ];rw[Nat.mul_comm (10^l.length)];rw[Nat.mul_add]at h2
  omega
def limbs(n:Nat):List Nat:=if h:n=0 then[]else(n%10)::limbs (n/10)
termination_by n
decreasing_by exact Nat.div_lt_self (by omega) (by decide)
theorem qah:limbs 0=[]:=by rw[limbs];simp
theorem qbg{n:Nat}(h:n≠0):limbs n=(n%10)::limbs (n/10):=by rw[limbs,dif_neg h]
theorem qai(n:Nat):natL (limbs n)=n:=by
 induction n using Nat.strongRecOn with
 |ind n ih=>
  by_cases h:n=0
  ·subst h;rw[qah];rfl
  ·rw[qbg h,natL,ih _ (Nat.div_lt_self (by omega) (by decide)),Nat.mod_add_div]
theorem qal(n:Nat):Dg (limbs n):=by
 induction n using Nat.strongRecOn with
 |ind n ih=>
  by_cases h:n=0
  ·subst h;rw[qah];intro d hd;simp at hd
  ·rw[qbg h]
   intro d hd;rcases List.mem_cons.1 hd with rfl|hd
   ·exact Nat.mod_lt _ (by decide)
   ·exact ih _ (Nat.div_lt_self (by omega) (by decide)) d hd
theorem qbs{n:Nat}:limbs n=[]↔n=0:=by
 constructor
 ·intro h
  have:=qai n;rw[h]at this;exact this.symm
 ·rintro rfl;exact qah
theorem qdq:∀{l:List Nat},Dg l→(∀d,l.getLast?=some d→d≠0)→limbs (natL l)=l
 |[],_,_=>qah
 |d::l,h,hn=>by
  have hd:=h d (by simp);have hdl:Dg l:=fun x hx=>h x (by simp[hx])
  have hl:∀e,l.getLast?=some e→e≠0:=fun e he=>hn e (by
   cases l with
   |nil=>simp at he
   |cons a l=>rw[List.getLast?_cons_cons];exact he)
  have ih:=qdq hdl hl
  have hne:natL (d::l)≠0:=by
   cases l with
   |nil=>
    have:=hn d (by simp);simp only[natL]
    omega
   |cons a l=>
    have:natL (a::l)≠0:=fun h0=>by rw[h0,qah]at ih;cases ih
    simp only[natL]at this⊢
    omega
  rw[qbg hne];have h1:natL (d::l)%10=d:=by simp only[natL];omega
  have h2:natL (d::l)/10=natL l:=by simp only[natL];omega
  rw[h1,h2,ih]
theorem qe2{l:List Nat}(hd:Dg l):∃k,k≤l.length∧limbs (natL l)=l.take k:=by
 have key:∀k,k≤l.length→natL (l.take k)=natL l→∃k,k≤l.length∧limbs (natL l)=l.take k:=by
  intro k
  induction k with
  |zero=>intro _ h;exact⟨0,Nat.zero_le _,by rw[←h,List.take_zero];exact qah⟩
  |succ j ih=>
   intro hk h;have hg:l[j]?=some (l[j]'(by omega)):=by simp
   by_cases hz:l[j]'(by omega)=0
   ·refine ih (by omega) ?_
    rw[List.take_add_one,hg,hz]at h;rw[←h,Option.toList_some,qaw];simp
   ·refine⟨j+1,hk,?_⟩
    rw[←h];refine qdq (hd.take _) (fun e he=>?_)
    rw[List.take_add_one,hg,Option.toList_some,List.getLast?_concat]at he;cases he
    exact hz
 exact key l.length (Nat.le_refl _) (by rw[List.take_length])
theorem qgg{n d:Nat}(h:(limbs n).getLast?=some d):d≠0:=by
 induction n using Nat.strongRecOn generalizing d with
 |ind n ih=>
  by_cases h0:n=0
  ·subst h0;rw[qah]at h;simp at h
  ·rw[qbg h0]at h
   by_cases h1:n/10=0
   ·rw[h1,qah]at h
    simp at h
    omega
   ·cases hl:limbs (n/10)with
    |nil=>exact absurd (qbs.1 hl) h1
    |cons a l=>
     rw[hl,List.getLast?_cons_cons,←hl]at h;exact ih _ (Nat.div_lt_self (by omega) (by decide)) h
theorem qc3{n:Nat}(h:n≠0):10^((limbs n).length-1)≤n:=by
 induction n using Nat.strongRecOn with
 |ind n ih=>
  rw[qbg h];simp only[List.length_cons,Nat.add_sub_cancel]
  by_cases h1:n/10=0
  ·rw[h1,qah];simp;omega
  ·have:=ih _ (Nat.div_lt_self (by omega) (by decide)) h1
   have hl:(limbs (n/10)).length≠0:=fun h2=>h1 (qbs.1 (List.length_eq_zero_iff.1 h2))
   have e:(limbs (n/10)).length=((limbs (n/10)).length-1)+1:=by omega
   rw[e,Nat.pow_succ];have h3:10^((limbs (n/10)).length-1)*10≤n/10*10:=Nat.mul_le_mul_right _ this;exact Nat.le_trans h3 (Nat.div_mul_le_self n 10)
theorem qb6{a b:Nat}(h:(limbs a).length<(limbs b).length):a<b:=by
 have h1:=qa7 (qal a);rw[qai]at h1;have hb:b≠0:=fun h0=>by subst h0;rw[qah]at h;simp at h
 have h2:=qc3 hb;have h3:10^(limbs a).length≤10^((limbs b).length-1):=Nat.pow_le_pow_right (by decide) (by omega)
 omega
theorem qbx{a b:Nat}(h:a≤b):(limbs a).length≤(limbs b).length:=by
 rcases Nat.lt_or_ge (limbs b).length (limbs a).length with h1|h1
 ·have:=qb6 h1;omega
 ·exact h1
theorem qf0{a b:List Nat}(hl:a.length=b.length){k:Nat}(hk:k<a.length)(ha:Dg a)(hs:a.drop (k+1)=b.drop (k+1))(hlt:a.getD k 0<b.getD k 0):natL a<natL b:=by
 have e1:a=a.take k++(a.getD k 0::a.drop (k+1)):=by
  rw[List.getD_eq_getElem?_getD,List.getElem?_eq_getElem hk,Option.getD_some,←List.drop_eq_getElem_cons hk,List.take_append_drop]
 have e2:b=b.take k++(b.getD k 0::b.drop (k+1)):=by
  rw[List.getD_eq_getElem?_getD,List.getElem?_eq_getElem (by omega),Option.getD_some,←List.drop_eq_getElem_cons (by omega),List.take_append_drop]
 have h1:=qa7 (ha.take k);rw[List.length_take,Nat.min_eq_left (by omega)]at h1;rw[e1,e2,qav,qav,hs,List.length_take,List.length_take,Nat.min_eq_left (by omega),Nat.min_eq_left (by omega)];simp only[natL];have h2:a.getD k 0+1+10*natL (b.drop (k+1))≤b.getD k 0+10*natL (b.drop (k+1)):=by omega
 have h3:10^k*(a.getD k 0+1+10*natL (b.drop (k+1)))≤10^k*(b.getD k 0+10*natL (b.drop (k+1))):=Nat.mul_le_mul_left _ h2
 have h4:10^k*(a.getD k 0+1+10*natL (b.drop (k+1)))=10^k*(a.getD k 0+10*natL (b.drop (k+1)))+10^k:=by
  rw[show a.getD k 0+1+10*natL (b.drop (k+1))=a.getD k 0+10*natL (b.drop (k+1))+1 by omega,Nat.mul_add,Nat.mul_one]
 omega
theorem qjc{l:List Nat}{j:Nat}(h:j<l.length)(v:Nat):natL (l.set j v)+10^j*l.getD j 0=natL l+10^j*v:=by
 have e1:l=l.take j++(l.getD j 0::l.drop (j+1)):=by
  rw[List.getD_eq_getElem?_getD,List.getElem?_eq_getElem h,Option.getD_some,←List.drop_eq_getElem_cons h,List.take_append_drop]
 have e2:l.set j v=l.take j++(v::l.drop (j+1)):=by
  rw[List.set_eq_take_append_cons_drop,if_pos h]
 have h2:natL l=natL (l.take j)+10^j*(l.getD j 0+10*natL (l.drop (j+1))):=by
  conv=>lhs;rw[e1]
  rw[qav,List.length_take,Nat.min_eq_left (by omega),natL]
 rw[e2,qav,List.length_take,Nat.min_eq_left (by omega),natL,h2];rw[Nat.mul_add,Nat.mul_add]
 omega
theorem qaj{l:List Nat}{i d:Nat}(h:l[i]?=some d):natL (l.take (i+1))=natL (l.take i)+10^i*d:=by
 have hi:i<l.length:=by
  rcases Nat.lt_or_ge i l.length with h'|h'
  ·exact h'
  ·rw[List.getElem?_eq_none h']at h;cases h
 rw[List.take_add_one,h,Option.toList_some,qaw,List.length_take,Nat.min_eq_left (by omega)]
theorem qbr{done:List Nat}{i t c S:Nat}(hl:done.length=i)(h:natL done+10^i*c=S){T:Nat}(ht:t=c+T):natL (done++[t%10])+10^(i+1)*(t/10)=S+10^i*T:=by
 rw[qaw,hl,Nat.pow_succ,Nat.mul_assoc];have h1:10^i*(t%10)+10^i*(10*(t/10))=10^i*t:=by rw[←Nat.mul_add,Nat.mod_add_div]
 have h2:10^i*t=10^i*c+10^i*T:=by rw[ht,Nat.mul_add]
 omega
theorem qb3{done:List Nat}{i d y x bo bo' A C:Nat}(hl:done.length=i)(h:A+10^i*bo=natL done+C)(hx:d+10*bo'=x+y+bo):(A+10^i*d)+10^(i+1)*bo'=natL (done++[x])+(C+10^i*y):=by
 rw[qaw,hl,Nat.pow_succ,Nat.mul_assoc];have h1:10^i*(d+10*bo')=10^i*(x+y+bo):=by rw[hx]
 rw[Nat.mul_add,Nat.mul_add,Nat.mul_add]at h1
 omega
theorem qif{done:List Nat}{d rest by':Nat}{S:Nat}(h:natL done*by'+rest=S):natL ((rest*10+d)/by'::done)*by'+(rest*10+d)%by'=d+10*S:=by
 have h1:=Nat.div_add_mod (rest*10+d) by';rw[Nat.mul_comm]at h1;simp only[natL];rw[Nat.add_mul,←h,Nat.mul_add,Nat.mul_assoc];have h2:rest*10=10*rest:=Nat.mul_comm _ _
 omega
theorem qhm{l:List Nat}{i d:Nat}(h:l[i]?=some d):natL (l.drop i)=d+10*natL (l.drop (i+1)):=by
 have hi:i<l.length:=by
  rcases Nat.lt_or_ge i l.length with h'|h'
  ·exact h'
  ·rw[List.getElem?_eq_none h']at h;cases h
 rw[List.getElem?_eq_getElem hi]at h;rw[List.drop_eq_getElem_cons hi,natL,Option.some.inj h]
theorem qmw(done:List Nat)(n x:Nat):(done++List.replicate (n+1) 0).set done.length x=(done++[x])++List.replicate n 0:=by
 rw[List.replicate_succ,List.set_append_right _ _ (Nat.le_refl _),Nat.sub_self,List.set_cons_zero,List.append_assoc];rfl
theorem qmv(done:List Nat)(n x:Nat):(List.replicate (n+1) 0++done).set n x=List.replicate n 0++(x::done):=by
 rw[List.replicate_succ',List.append_assoc,List.set_append_right _ _ (by simp),List.length_replicate,Nat.sub_self];rfl
theorem qfz:∀l:List UInt8,natL (l.reverse.map dv)=valD l
 |[]=>rfl
 |c::l=>by
  have ih:=qfz l;rw[List.reverse_cons,List.map_append,qav,ih,List.length_map,List.length_reverse]
  have h1:valD (c::l)=dv c*10^l.length+valD l:=by
   have:=qdd [c] l
   simpa[valD,qdu,qeu]using this
  rw[h1];simp only[List.map_cons,List.map_nil,natL,Nat.mul_zero,Nat.add_zero];rw[Nat.mul_comm (dv c)]
  omega
theorem qry{l:List UInt8}(h:AllD l):Dg (l.reverse.map dv):=fun d hd=>by
 obtain⟨c,hc,rfl⟩:=List.mem_map.1 hd;have:=qxn (h c (List.mem_reverse.1 hc))
 omega
end Go.Proofs.YtacihodamichhaaGreatDoor.D10
namespace Go.Proofs.YtacihodamichhaaGreatDoor
open Go.RowKit
theorem ED:ElemTy 135 3 1 8:=⟨Tryz.underlying135,by kernel_rfl⟩
theorem EB:ElemTy 175 5 1 1:=⟨Tryz.underlying175,by kernel_rfl⟩
def qao(d:List Nat):List UInt8:=(d.map fun x=>UInt8.ofNat (48+x)).reverse
def qb4(d:List Nat):List Int:=d.map fun x:Nat=>(x:Int)
theorem Ints.take{w:World}{a:Option Addr}{n cap:Nat}{l:List Int}(h:Ints w (.slice a n cap) l){k:Nat}(hk:k≤n):Ints w (.slice a k cap) (l.take k):=by
 obtain⟨a',cap',hv,hc,hm,hh⟩:=h;cases hv
 simp only[List.length_map]at hc hh hk;have hl:(((l.take k).map (Value.int .i64)).map c1).length=k:=by simp;omega
 refine⟨a,cap,by rw[hl],by rw[hl];omega,hm,?_⟩
 rcases hh with h0|⟨b,off,ha,hlt,hcell⟩
 ·exact .inl h0
 ·refine .inr ⟨b,off,ha,hlt,fun i j hi hj=>?_⟩
  rw[hl]at hi;rw[hcell i j (by omega) hj];simp[List.getD_eq_getElem?_getD,hi]
theorem qoq(d:List Nat)(k:Nat):qb4 (d.take k)=(qb4 d).take k:=by unfold qb4;rw[List.map_take]
theorem qhl(d:List Nat):(qb4 d).length=d.length:=by unfold qb4;rw[List.length_map]
theorem qfy{d:List Nat}{k:Nat}{x:Int}(h:(qb4 d)[k]?=some x):∃y,d[k]?=some y∧x=(y:Int):=by
 unfold qb4 at h;simp only[List.getElem?_map,Option.map_eq_some_iff]at h;obtain⟨y,hy,rfl⟩:=h;exact⟨y,hy,rfl⟩
theorem qfr(a:Option Addr)(n c:Nat)(l:List Nat)(w:World)(hL:Ints w (.slice a n c) (qb4 l))(hd:D10.Dg l):
  Calls Tryz.prog 157 #[.slice a n c] w (fun e w'=>e=.returned (.slice a (D10.limbs (D10.natL l)).length c)∧Ints w (.slice a (D10.limbs (D10.natL l)).length c) (qb4 (D10.limbs (D10.natL l)))∧Below w.heap.size w w'):=by
 have h':=hL;obtain⟨_,_,hq,hc1,hc2⟩:=hL.open;cases hq
 unfold maxLen at hc2;rw[qhl]at*;have HL:=hI h';have Hd:=hI hd;clear hL hd h';generalize hn:l.length=n at*;have Hn:=hI hn;clear hn
 go_enter Tryz.func157,Tryz.ntmps157
 go_wp2_with fail
 go_loopw [3] (fun m wr=>∃k:Nat,k≤n∧m=.int .i64 (k:Int)∧Below w.heap.size w wr∧Hid (D10.natL (l.take k)=D10.natL l)) (fun m _=>(intOf m).toNat)
 case atStart=>exact⟨n,Nat.le_refl _,rfl,Below.refl _ _,by unfold Hid;rw[←Hn.out,List.take_length]⟩
 case round=>
  obtain⟨k,hk,rfl,hbw,hpre⟩:=hrel;rcases k with _|j
  ·have hl0:D10.limbs (D10.natL l)=[]:=by rw[←hpre.out];exact D10.qah
   have Hl0:=hI hl0;have hc0:(0:Int)≤(c:Int):=Int.natCast_nonneg _;clear hl0
   go_wp2_with fail
   go_ret
   refine⟨?_,?_,hbw⟩
   ·rw[Hl0.out];rfl
   ·rw[Hl0.out];exact HL.out.take (Nat.zero_le _)
  ·obtain⟨b,off,x,rfl,hx,c0⟩:=HL.out.at hbw (show j<n by omega)
   obtain⟨d,hdk,rfl⟩:=qfy hx;have Hdk:=hI hdk;have hj1:(0:Int)<((j+1:Nat):Int):=by omega
   have hj2:IntKind.i64.wrap (j:Int)=j:=IntWalk.i64_in _ (by omega);have hj3:(((j+1:Nat):Int)-1)=(j:Int):=by omega
   have hjn:(j:Int)<(n:Int):=by omega
   have hj5:(0:Int)≤(j:Int):=by omega
   have hj7:(0:Int)<(j:Int)+1:=by omega
   have hj8:(0:Int)≤(j:Int)+1:=by omega
   have hj9:(j:Int)+1≤(c:Int):=by omega
   clear hdk hx
   by_cases hz:d=0
   ·subst hz
    go_wp2_with fail
    go_roundw
    case rel=>exact⟨j,by omega,by go_num,hbw,by unfold Hid;rw[←hpre.out,D10.qaj Hdk.out];simp⟩
    case measure=>simp[intOf]<;>omega
   ·have hz2:((d:Int)==0)=false:=by simpa using hz
    have hfin:D10.limbs (D10.natL l)=l.take (j+1):=by
     rw[←hpre.out];refine D10.qdq (Hd.out.take _) (fun e he=>?_)
     have ht:(l.take (j+1)).getLast?=some d:=qha Hdk.out;rw[ht]at he;cases he
     exact hz
    have hlen:(D10.limbs (D10.natL l)).length=j+1:=by rw[hfin,List.length_take,Hn.out];omega
    have Hfin:=hI hfin;have Hlen:=hI hlen;clear hfin hlen
    go_wp2_with fail
    go_ret
    refine⟨?_,?_,hbw⟩
    ·rw[Hlen.out];rfl
    ·rw[Hlen.out,Hfin.out,qoq];exact HL.out.take (by omega)
def txtD(neg:Bool)(m:List Nat):List UInt8:=if m=[]then[48]else(if neg then 45::qao m else qao m)
def u8v(x:UInt8):Value:=.int .u8 (x.toNat:Int)
set_option maxRecDepth 20000 in
theorem qpt(a:Option Addr)(n c:Nat)(d:List Nat)(w:World)(h:Ints w (.slice a n c) (qb4 d))(hd:D10.Dg d)(hn1:d.length≤30000):Calls Tryz.prog 117 #[.bool false,.slice a n c] w (Ret (.string ⟨(txtD false (D10.limbs (D10.natL d))).toArray⟩) w):=by
 have HT:=hI (qfr a n c d w h hd)
 have hml:(D10.limbs (D10.natL d)).length≤30000:=by
  obtain⟨k,hk,he⟩:=D10.qe2 hd;rw[he,List.length_take]
  omega
 have h10:∀x∈D10.limbs (D10.natL d),x<10:=D10.qal _;generalize D10.limbs (D10.natL d)=m at*;have H10:=hI h10;clear h hd hn1 h10;unfold txtD
 by_cases hm:m=[]
 ·subst hm
  rw[if_pos rfl];rw[List.length_nil]at HT
  go_enter Tryz.func117,Tryz.ntmps117
  go_wp2_with (go_at_call 157;refine(HT.out).mono ?_;rintro e w1 ⟨rfl,-,hb1⟩)
  go_ret
  exact⟨rfl,hb1⟩
 ·rw[if_neg hm]
  simp only[Bool.false_eq_true,if_false];have hpos:0<m.length:=List.length_pos_iff.2 hm;generalize hk:m.length=k at*;have Hk:=hI hk;have hne:((k:Int)==0)=false:=by simp;omega
  have hw1:IntKind.i64.wrap ((k:Int)-1)=(k:Int)-1:=IntWalk.i64_in _ (by omega);have HN:=hI (fun W:World=>World.ownsRow_nil W w.heap.size 5 1);clear hk hm
  go_enter Tryz.func117,Tryz.ntmps117
  go_wp2_with (first
   |(go_at_call 157;refine(HT.out).mono ?_;rintro e w1 ⟨rfl,hx1,hb1⟩;have Hb1:=hI hb1;have HX0:=hI hx1;clear hb1 hx1))
  go_loopw [6,5] (fun i out wr=>∃j:Nat,j≤k∧i=.int .i64 ((k:Int)-1-j)∧Below w.heap.size w wr∧wr.ownsRow w.heap.size 5 1 out (j+0) ((([]:List UInt8)++(qao m).take j).map u8v)) (fun i _ _=>(intOf i+1).toNat)
  case atStart=>exact⟨0,by omega,by simp,Hb1.out,HN.out _⟩
  case round=>
   obtain⟨j,hj,rfl,hbw,hown⟩:=hrel;rcases Nat.lt_or_ge j k with hlt|hge
   ·obtain⟨b,off,x,rfl,hx,c0⟩:=HX0.out.at hbw (show k-1-j<k by omega)
    obtain⟨y,hy,rfl⟩:=qfy hx;have hy10:=H10.out y (List.mem_of_getElem? hy)
    have hbk:(qao m)[j]?=some (UInt8.ofNat (48+y)):=by
     unfold qao;rw[List.getElem?_reverse (by rw[List.length_map,Hk.out];exact hlt),List.length_map,Hk.out,List.getElem?_map,hy]
     rfl
    have htk:(([]:List UInt8)++(qao m).take j).map u8v++[.int .u8 ((48:Int)+y)]=(([]:List UInt8)++(qao m).take (j+1)).map u8v:=by
     rw[List.take_add_one,hbk,←List.append_assoc,List.map_append (l₂:=(some (UInt8.ofNat (48+y))).toList)]
     congr 1
     have:(UInt8.ofNat (48+y)).toNat=48+y:=by rw[UInt8.toNat_ofNat'];omega
     simp[u8v]
     omega
    have Htk:=hI htk;have i0:(0:Int)≤(k:Int)-1-j:=by omega
    have i1:(k:Int)-1-j<(k:Int):=by omega
    have i2:((k:Int)-1-j).toNat=k-1-j:=by omega
    have i3:IntKind.i64.wrap ((k:Int)-1-j-1)=(k:Int)-1-j-1:=IntWalk.i64_in _ (by omega);have i4:IntKind.i64.wrap ((48:Int)+y)=48+y:=IntWalk.i64_in _ (by omega);have i5:IntKind.u8.wrap ((48:Int)+y)=48+y:=by unfold IntKind.wrap;simp[IntKind.bits,IntKind.signed];omega
    have Hown:=hI hown;have Hbw:=hI hbw;clear hx hy hy10 hbk htk hown hbw
    go_wp2_with (at_builtin;refine qcv EB (by decide) [.int .u8 ((48:Int)+y)] rfl _ _ rfl w.heap.size _ _ _ rfl rfl Hown.out rfl (one1 _ rfl) (by omega) (by decide) Hbw.out.size ?_;intro v' w5 hown' hg';have Hbw3:=hI (qau Hbw.out Hown.out hg' Hbw.out.size);have Hown5:=hI hown';clear hown' hg')
    go_roundw
    case rel=>exact⟨j+1,by omega,by congr 1;omega,Hbw3.out,by have:=Hown5.out;rw[Htk.out]at this;rw[show j+1+0=j+0+1 by omega];exact this⟩
    case measure=>simp[intOf];omega
   ·obtain rfl:j=k:=by omega
    rw[show(j:Int)-1-j=-1 by omega];obtain⟨ao,co,rfl,hco,-⟩:=qas hown;obtain⟨g,rfl⟩:=qbk hown (by omega);have hbl:(([]:List UInt8)++qao m).length=j+0:=by simp[qao,Hk.out]
    rw[List.take_of_length_le (by simp[qao,Hk.out])]at hown;have hcv:=run_convert_bytes_back (P:=Tryz.prog) wr 175 9 5 ⟨g,0,none⟩ co (([]:List UInt8)++qao m) Tryz.underlying175 Tryz.underlying5 Tryz.underlying9 (fun i hi=>hown.cells (g:=g) rfl i _ (by rw[List.getElem?_map,List.getElem?_eq_getElem hi];rfl));rw[hbl]at hcv;simp only[Nat.add_zero]at hcv;have Hbw:=hI hbw;clear hown hbw hbl;have Hfin:=hI (show(⟨(([]:List UInt8)++qao m).toArray⟩:ByteArray)=⟨(qao m).toArray⟩from rfl);generalize(⟨(([]:List UInt8)++qao m).toArray⟩:ByteArray)=D at*;clear hw1 hne
    set_option maxRecDepth 20000 in
    go_wp2_with fail
    go_ret
    exact⟨by rw[←Hfin.out];rfl,Hbw.out⟩
set_option maxRecDepth 20000 in
theorem qpu(a:Option Addr)(n c:Nat)(d:List Nat)(w:World)(h:Ints w (.slice a n c) (qb4 d))(hd:D10.Dg d)(hn1:d.length≤30000):Calls Tryz.prog 117 #[.bool true,.slice a n c] w (Ret (.string ⟨(txtD true (D10.limbs (D10.natL d))).toArray⟩) w):=by
 have HT:=hI (qfr a n c d w h hd)
 have hml:(D10.limbs (D10.natL d)).length≤30000:=by
  obtain⟨k,hk,he⟩:=D10.qe2 hd;rw[he,List.length_take]
  omega
 have h10:∀x∈D10.limbs (D10.natL d),x<10:=D10.qal _;generalize D10.limbs (D10.natL d)=m at*;have H10:=hI h10;clear h hd hn1 h10;unfold txtD
 by_cases hm:m=[]
 ·subst hm
  rw[if_pos rfl];rw[List.length_nil]at HT
  go_enter Tryz.func117,Tryz.ntmps117
  go_wp2_with (go_at_call 157;refine(HT.out).mono ?_;rintro e w1 ⟨rfl,-,hb1⟩)
  go_ret
  exact⟨rfl,hb1⟩
 ·rw[if_neg hm]
  simp only[if_true];have hpos:0<m.length:=List.length_pos_iff.2 hm;generalize hk:m.length=k at*;have Hk:=hI hk;have hne:((k:Int)==0)=false:=by simp;omega
  have hw1:IntKind.i64.wrap ((k:Int)-1)=(k:Int)-1:=IntWalk.i64_in _ (by omega);have HN:=hI (fun W:World=>World.ownsRow_nil W w.heap.size 5 1);clear hk hm
  go_enter Tryz.func117,Tryz.ntmps117
  go_wp2_with (first
   |(go_at_call 157;refine(HT.out).mono ?_;rintro e w1 ⟨rfl,hx1,hb1⟩;have Hb1:=hI hb1;have HX0:=hI hx1;clear hb1 hx1)
   |(at_builtin;refine qcv EB (by decide) [.int .u8 45] rfl _ _ rfl w.heap.size _ _ _ rfl rfl (HN.out _) rfl (one1 _ rfl) (by omega) (by decide) Hb1.out.size ?_;intro v' w2 hown' hg';have Hb2:=hI (qau Hb1.out (HN.out _) hg' Hb1.out.size);have Hown2:=hI hown';clear hown' hg'))
  go_loopw [6,5] (fun i out wr=>∃j:Nat,j≤k∧i=.int .i64 ((k:Int)-1-j)∧Below w.heap.size w wr∧wr.ownsRow w.heap.size 5 1 out (j+1) ((([45]:List UInt8)++(qao m).take j).map u8v)) (fun i _ _=>(intOf i+1).toNat)
  case atStart=>exact⟨0,by omega,by simp,Hb2.out,Hown2.out⟩
  case round=>
   obtain⟨j,hj,rfl,hbw,hown⟩:=hrel;rcases Nat.lt_or_ge j k with hlt|hge
   ·obtain⟨b,off,x,rfl,hx,c0⟩:=HX0.out.at hbw (show k-1-j<k by omega)
    obtain⟨y,hy,rfl⟩:=qfy hx;have hy10:=H10.out y (List.mem_of_getElem? hy)
    have hbk:(qao m)[j]?=some (UInt8.ofNat (48+y)):=by
     unfold qao;rw[List.getElem?_reverse (by rw[List.length_map,Hk.out];exact hlt),List.length_map,Hk.out,List.getElem?_map,hy]
     rfl
    have htk:(([45]:List UInt8)++(qao m).take j).map u8v++[.int .u8 ((48:Int)+y)]=(([45]:List UInt8)++(qao m).take (j+1)).map u8v:=by
     rw[List.take_add_one,hbk,←List.append_assoc,List.map_append (l₂:=(some (UInt8.ofNat (48+y))).toList)]
     congr 1
     have:(UInt8.ofNat (48+y)).toNat=48+y:=by rw[UInt8.toNat_ofNat'];omega
     simp[u8v]
     omega
    have Htk:=hI htk;have i0:(0:Int)≤(k:Int)-1-j:=by omega
    have i1:(k:Int)-1-j<(k:Int):=by omega
    have i2:((k:Int)-1-j).toNat=k-1-j:=by omega
    have i3:IntKind.i64.wrap ((k:Int)-1-j-1)=(k:Int)-1-j-1:=IntWalk.i64_in _ (by omega);have i4:IntKind.i64.wrap ((48:Int)+y)=48+y:=IntWalk.i64_in _ (by omega);have i5:IntKind.u8.wrap ((48:Int)+y)=48+y:=by unfold IntKind.wrap;simp[IntKind.bits,IntKind.signed];omega
    have Hown:=hI hown;have Hbw:=hI hbw;clear hx hy hy10 hbk htk hown hbw
    go_wp2_with (at_builtin;refine qcv EB (by decide) [.int .u8 ((48:Int)+y)] rfl _ _ rfl w.heap.size _ _ _ rfl rfl Hown.out rfl (one1 _ rfl) (by omega) (by decide) Hbw.out.size ?_;intro v' w5 hown' hg';have Hbw3:=hI (qau Hbw.out Hown.out hg' Hbw.out.size);have Hown5:=hI hown';clear hown' hg')
    go_roundw
    case rel=>exact⟨j+1,by omega,by congr 1;omega,Hbw3.out,by have:=Hown5.out;rw[Htk.out]at this;rw[show j+1+1=j+1+1 by omega];exact this⟩
    case measure=>simp[intOf];omega
   ·obtain rfl:j=k:=by omega
    rw[show(j:Int)-1-j=-1 by omega];obtain⟨ao,co,rfl,hco,-⟩:=qas hown;obtain⟨g,rfl⟩:=qbk hown (by omega);have hbl:(([45]:List UInt8)++qao m).length=j+1:=by simp[qao,Hk.out]
    rw[List.take_of_length_le (by simp[qao,Hk.out])]at hown;have hcv:=run_convert_bytes_back (P:=Tryz.prog) wr 175 9 5 ⟨g,0,none⟩ co (([45]:List UInt8)++qao m) Tryz.underlying175 Tryz.underlying5 Tryz.underlying9 (fun i hi=>hown.cells (g:=g) rfl i _ (by rw[List.getElem?_map,List.getElem?_eq_getElem hi];rfl));rw[hbl]at hcv;have Hbw:=hI hbw;clear hown hbw hbl;have Hfin:=hI (show(⟨(([45]:List UInt8)++qao m).toArray⟩:ByteArray)=⟨(45::qao m).toArray⟩from rfl);generalize(⟨(([45]:List UInt8)++qao m).toArray⟩:ByteArray)=D at*;clear hw1 hne
    set_option maxRecDepth 20000 in
    go_wp2_with fail
    go_ret
    exact⟨by rw[←Hfin.out];rfl,Hbw.out⟩
theorem qfs(neg:Bool)(a:Option Addr)(n c:Nat)(d:List Nat)(w:World)(h:Ints w (.slice a n c) (qb4 d))(hd:D10.Dg d)(hn1:d.length≤30000):Calls Tryz.prog 117 #[.bool neg,.slice a n c] w (Ret (.string ⟨(txtD neg (D10.limbs (D10.natL d))).toArray⟩) w):=by
 cases neg
 ·exact qpt a n c d w h hd hn1
 ·exact qpu a n c d w h hd hn1
def Ds(w:World)(v:Value)(l:List Nat):Prop:=Ints w v (qb4 l)
theorem Ds.mono{w w':World}{v:Value}{l:List Nat}(h:Ds w v l)(hb:Below w.heap.size w w'):Ds w' v l:=Ints.mono h hb
theorem Ds.open{w:World}{v:Value}{l:List Nat}(h:Ds w v l):∃a cap,v=.slice a l.length cap∧l.length≤cap∧cap≤maxLen:=by
 have:=Ints.open h
 rwa [qhl]at this
theorem Ds.at{w wr:World}{n cap:Nat}{a:Option Addr}{l:List Nat}(hS:Ds w (.slice a n cap) l)(hb:Below w.heap.size w wr){k:Nat}(hk:k<n):
  ∃b off d,a=some ⟨b,off,none⟩∧l[k]?=some d∧wr.cell? ⟨b,off+k,none⟩=some (.int .i64 ((d:Nat):Int)):=by
 obtain⟨b,off,x,rfl,hx,c0⟩:=Ints.at hS hb hk;obtain⟨d,hd,rfl⟩:=qfy hx;exact⟨b,off,d,rfl,hd,by simpa using c0⟩
theorem Ds.nil(w:World):Ds w (.slice none 0 0) []:=Sl.nil w 1
theorem Ds.own{w:World}{base n:Nat}{v:Value}{l:List Nat}(h:w.ownsRow base 3 1 v n ((qb4 l).map (Value.int .i64))):Ds w v l:=Sl.own1 h
def DgV(w:World)(v:Value)(N:Nat):Prop:=∃a c,v=.slice a (D10.limbs N).length c∧Ds w (.slice a (D10.limbs N).length c) (D10.limbs N)
theorem DgV.mono{w w':World}{v:Value}{N:Nat}(h:DgV w v N)(hb:Below w.heap.size w w'):DgV w' v N:=by
 obtain⟨a,c,hv,h⟩:=h;exact⟨a,c,hv,h.mono hb⟩
theorem qps(a:Option Addr)(n c:Nat)(l:List Nat)(w:World)(hL:Ds w (.slice a n c) l)(hd:D10.Dg l):
  Calls Tryz.prog 157 #[.slice a n c] w (RetP (fun v w'=>DgV w' v (D10.natL l)) w):=by
 refine(qfr a n c l w hL hd).mono ?_
 rintro e w' ⟨rfl,h,hb⟩;exact⟨_,rfl,⟨a,c,rfl,Ds.mono h hb⟩,hb⟩
def qbe(N:Nat):Prop:=(D10.limbs N).length≤20000
theorem qb1{N k:Nat}(h:N<10^k)(hk:k≤20000):qbe N:=by
 unfold qbe;rcases Nat.lt_or_ge 20000 (D10.limbs N).length with h3|h3
 ·exfalso
  have h0:N≠0:=fun e=>by rw[e,D10.qah]at h3;simp at h3
  have h4:=D10.qc3 h0;have h5:(D10.limbs N).length-1<k:=(Nat.pow_lt_pow_iff_right (by decide)).1 (Nat.lt_of_le_of_lt h4 h)
  omega
 ·exact h3
theorem qbm{a b:Nat}(h:a≤b)(hb:qbe b):qbe a:=Nat.le_trans (D10.qbx h) hb
def txtN(neg:Bool)(N:Nat):List UInt8:=txtD neg (D10.limbs N)
def txtZ(z:Int):List UInt8:=txtN (decide (z<0)) z.natAbs
theorem qfb(neg:Bool)(N:Nat)(v:Value)(w:World)(h:DgV w v N)(hf:qbe N):Calls Tryz.prog 117 #[.bool neg,v] w (Ret (.string ⟨(txtN neg N).toArray⟩) w):=by
 obtain⟨a,c,rfl,hd⟩:=h;have h:=qfs neg a _ c (D10.limbs N) w hd (D10.qal N) (Nat.le_trans hf (by decide));rw[D10.qai]at h;exact h
theorem qgk:∀(m:List Nat),D10.Dg m→AllD (qao m)∧(qao m).reverse.map dv=m:=by
 intro m hm
 have hb:∀x,x<10→isD (UInt8.ofNat (48+x))=true∧dv (UInt8.ofNat (48+x))=x:=by
  intro x hx;have:(UInt8.ofNat (48+x)).toNat=48+x:=by rw[UInt8.toNat_ofNat'];omega
  exact⟨qci.2 (by omega),by unfold dv;omega⟩
 constructor
 ·intro c hc
  unfold qao at hc;obtain⟨x,hx,rfl⟩:=List.mem_map.1 (List.mem_reverse.1 hc);exact(hb x (hm x hx)).1
 ·unfold qao
  rw[List.reverse_reverse,List.map_map]
  conv=>rhs;rw[←List.map_id m]
  exact List.map_congr_left (fun x hx=>(hb x (hm x hx)).2)
theorem qib(N:Nat):valD (qao (D10.limbs N))=N:=by
 rw[←D10.qfz,(qgk _ (D10.qal N)).2,D10.qai]
theorem qfo(neg:Bool)(N:Nat):∃p,AllD p∧p≠[]∧valD p=N∧(txtN neg N=p∨txtN neg N=45::p)∧p.length≤(D10.limbs N).length+1:=by
 unfold txtN txtD
 by_cases h:D10.limbs N=[]
 ·rw[if_pos h]
  have h0:=D10.qbs.1 h;subst h0;exact⟨[48],by intro c hc;obtain rfl:=List.mem_singleton.1 hc;decide,by simp,rfl,.inl rfl,by simp⟩
 ·rw[if_neg h]
  refine⟨qao (D10.limbs N),(qgk _ (D10.qal N)).1,?_,qib N,?_,by unfold qao;simp⟩
  ·intro e
   unfold qao at e;simp at e;exact h e
  ·cases neg
   ·exact .inl rfl
   ·exact .inr rfl
end Go.Proofs.YtacihodamichhaaGreatDoor
