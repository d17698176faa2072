/- Parts of the proof. -/
import Derived.Test.YtacihodamichhaaGreatDoorCShelf
import Derived.Shelf.Strings.SlTrimAscii
import Derived.Laws.RangeString
import Derived.Test.YtacihodamichhaaGreatDoorC06
namespace Go.Proofs.YtacihodamichhaaGreatDoor
open Go.RowKit
set_option maxHeartbeats 4000000
def qg6(x:Nat):Bool:=decide (x<48)||decide (57<x)
def qg9:List UInt8:=[48,49,50,51,52,53,54,55,56,57]
def okB(x:Lib.NumEnd Nat)(u:Nat):Bool:=match x with|.ok v=>v==u|_=>false
def wtB(l d:List UInt8)(u:Nat)(neg:Bool):Bool:=
 l==(if neg then 45::d else d)&&decide (d.length≤9)&&decide (d≠[])&&Lib.indexByte l 47==-1&&Lib.trimS d qg9==[]&&Lib.idxFunc qg6 true ⟨d.toArray⟩==-1&&
 Lib.hasPrefix l [45]==neg&&Lib.trimPrefix l [45]==d&&okB (Lib.parseUintB 32 d) u&&!(d.head?==some 48&&(decide (1<d.length)||neg))&&decide (u<1000000000)&&valS l==(if neg then -(u:Int)else u)
theorem qhw{l d:List UInt8}{u:Nat}{neg:Bool}(h:wtB l d u neg=true):
  l=(if neg then 45::d else d)∧d.length≤9∧d≠[]∧Lib.indexByte l 47=-1∧Lib.trimS d qg9=[]∧Lib.idxFunc qg6 true ⟨d.toArray⟩=-1∧Lib.hasPrefix l [45]=neg∧Lib.trimPrefix l [45]=d∧
  Lib.parseUintB 32 d=.ok u∧(d.head?==some 48&&(decide (1<d.length)||neg))=false∧u<1000000000∧valS l=(if neg then -(u:Int)else u):=by
 unfold wtB at h;simp only[Bool.and_eq_true,beq_iff_eq,decide_eq_true_eq,Bool.not_eq_true']at h;obtain⟨⟨⟨⟨⟨⟨⟨⟨⟨⟨⟨h1,h2⟩,h3⟩,h4⟩,h5⟩,h6⟩,h7⟩,h8⟩,h9⟩,h10⟩,h11⟩,h12⟩:=h;refine⟨h1,h2,h3,h4,h5,h6,h7,h8,?_,h10,h11,h12⟩
 revert h9
 generalize Lib.parseUintB 32 d=r;cases r<;>simp[okB]
def WT(s:ByteArray)(z:Int):Prop:=∃d u neg,wtB s.data.toList d u neg=true∧z=if neg then -(u:Int)else u
theorem pnod(x:Nat)(w:World)(hx:x≤1114111):Calls Tryz.prog 193 #[.int .i32 (x:Int)] w (fun e w'=>e=.returned (.bool (qg6 x))∧Below w.heap.size w w'):=by
 unfold qg6;rcases Nat.lt_or_ge x 48 with h|h
 ·have a0:(x:Int)<48:=by omega
  rw[decide_eq_true h,Bool.true_or]
  go_enter Tryz.func193,Tryz.ntmps193
  go_wp2
  go_ret
  exact⟨rfl,Below.refl _ _⟩
 ·have a0:¬(x:Int)<48:=by omega
  rw[decide_eq_false (by omega),Bool.false_or];rcases Nat.lt_or_ge 57 x with h'|h'
  ·have a1:(57:Int)<x:=by omega
   rw[decide_eq_true h']
   go_enter Tryz.func193,Tryz.ntmps193
   go_wp2
   go_ret
   exact⟨rfl,Below.refl _ _⟩
  ·have a1:¬(57:Int)<x:=by omega
   rw[decide_eq_false (by omega)]
   go_enter Tryz.func193,Tryz.ntmps193
   go_wp2
   go_ret
   exact⟨rfl,Below.refl _ _⟩
theorem ten9{k:Nat}(h:k<9):10^k≤100000000:=Nat.le_trans (Nat.pow_le_pow_right (by decide) (show k≤8 by omega)) (by decide)
theorem MagA.zero(w:World):MagA w (.slice none 0 0) 0:=⟨none,0,by rw[qag];rfl,by rw[qag];exact Ls.nil w,AU.none w⟩
theorem qtk(D:ByteArray):D.extract 0 D.size=D:=by simp
theorem qs6(s:ByteArray)(z:Int)(w:World)(h:WT s z):Calls Tryz.prog 156 #[.string s] w (RetP (fun v w'=>∃x a n c,v=.tuple #[.agg #[.bool x,.slice a n c],.int .i64 0]∧IntV w' (.agg #[.bool x,.slice a n c]) z∧AU w' a) w):=by
 obtain⟨d,u,neg,h,hz⟩:=h;obtain⟨hl,hlen,hne,-,-,hidx,hpre,htrim,hpu,hform,hu,-⟩:=qhw h;have H1:=hI (fun w'=>Tryz.strings_CutPrefix s ⟨#[45]⟩ w');rw[show(⟨#[45]⟩:ByteArray).data.toList=[45]from rfl,htrim,hpre]at H1;have H2:=hI (fun w'=>Tryz.strings_ContainsFunc_grows 193 #[] (enters_of Tryz.func193 (by kernel_rfl) rfl) qg6 ⟨d.toArray⟩ w' (fun W x hx _=>pnod x W hx));rw[hidx,show decide ((0:Int)≤-1)=false from rfl]at H2;have hsz:(⟨d.toArray⟩:ByteArray).size=d.length:=by rw[Lib.size_eq]
 have H3:=hI (fun w'=>Tryz.strconv_ParseUint_10_at32_ok ⟨d.toArray⟩ (by rw[hsz];omega) u hpu w');have H4:=hI (fun w' (by':Nat) (hby:by'<4294967296)=>qk7 none 0 0 [] by' u w' (Ls.nil w') (fun d hd=>by cases hd) (by decide) hby (by omega));have H5:=hI (fun w' a c (hL:Ls w' (.slice a (limbs u).length c) (limbs u))=>qd8 neg a _ c (limbs u) w' hL (qal u));have hsg:sgn neg (natL (limbs u))=z:=by rw[qah,hz];rfl
 rw[hsg]at H5;have hss:s.size≤10:=by rw[Lib.size_eq,hl];cases neg<;>simp<;>omega
 have hss2:¬(65536:Int)<(s.size:Int):=by omega
 have he:(⟨d.toArray⟩:ByteArray).toList.isEmpty=false:=by
  rw[ByteArray.toList_eq];cases d with
  |nil=>exact absurd rfl hne
  |cons a l=>rfl
 have hn0:0<d.length:=List.length_pos_iff.2 hne
 have hcase:(d.length=1∧neg=false∧d.head?=some 48)∨(∃c,d.head?=some c∧c≠48):=by
  cases d with
  |nil=>exact absurd rfl hne
  |cons a l=>
   by_cases ha:a=48
   ·subst ha
    simp at hform;exact .inl ⟨by simp[hform.1],hform.2,rfl⟩
   ·exact .inr ⟨a,rfl,ha⟩
 have hhead:∀c,d.head?=some c→∀(p:0<(⟨d.toArray⟩:ByteArray).size),(⟨d.toArray⟩:ByteArray)[0]'p=c:=by
  intro c hc p;cases d with
  |nil=>exact absurd rfl hne
  |cons a l=>cases hc;rfl
 have HR:=hI (Blk.new w #[.bool false,.slice none 0 0] 75);have hext:=qtk ⟨d.toArray⟩;have hem:∀n,n=(⟨d.toArray⟩:ByteArray).size→((⟨d.toArray⟩:ByteArray).extract n n).size=0:=fun n h=>by simp
 generalize hD:(⟨d.toArray⟩:ByteArray)=D at*;have hDn:∃n,D.size=n:=⟨_,rfl⟩
 obtain⟨n,hn⟩:=hDn;rw[hn]at hsz hext hem;have Hem:=hI (hem n rfl);have hn9:n≤9:=by omega
 have hn1:0<n:=by omega
 have hp0:0<D.size:=by omega
 rw[←hsz]at hcase;clear hpu hform hl hpre htrim hidx h hlen hne hsz hn0 hss hsg hz hem
 have hrem:((n:Int)-1).tmod 9=(n:Int)-1:=by
  rw[Int.tmod_eq_emod_of_nonneg (by omega)];exact Int.emod_eq_of_lt (by omega) (by omega)
 have hw1:IntKind.i64.wrap ((n:Int)-1)=(n:Int)-1:=IntWalk.i64_in _ (by omega);have hw2:IntKind.i64.wrap ((n:Int)-1+1)=(n:Int):=by rw[Int.sub_add_cancel];exact IntWalk.i64_in _ (by omega)
 have hnp:(0:Int)<(n:Int):=by omega
 have hbb:¬(n:Int)<0:=by omega
 have hu32:IntKind.u32.wrap (u:Int)=u:=IntWalk.u32_in _ (by omega);rcases hcase with⟨hA,rfl,hh⟩|⟨c,hh,h48⟩
 ·have hc:=hhead 48 hh hp0
  have hc2:((D[0]'hp0).toNat:Int)=48:=by rw[hc];rfl
  have hn2:¬(1:Int)<(n:Int):=by omega
  clear hhead hc hh hA
  go_enter Tryz.func156,Tryz.ntmps156
  go_wp2_with (first
   |(go_at_call 191;refine(H1.out _).mono ?_;rintro e w' ⟨rfl,rfl⟩)
   |(go_at_call 192;refine(H2.out _).mono ?_;rintro e w1 ⟨rfl,hb1⟩;have Hb1:=hI hb1;clear hb1))
  go_loopw [4,6] (fun x m wr=>∃X M,x=.string X∧MagA wr m M∧Below w1.heap.size w1 wr∧((D=X∧m=.slice none 0 0)∨(X.size=0∧M=u))) (fun x _ _=>match x with|.string X=>X.size|_=>0)
  case atStart=>exact⟨D,0,rfl,MagA.zero _,Below.refl _ _,.inl ⟨rfl,rfl⟩⟩
  case round=>
   obtain⟨X,M,rfl,hm,hbw,hor⟩:=hrel;rcases hor with⟨rfl,rfl⟩|⟨hX,rfl⟩
   ·have Hbw:=hI hbw
    clear hbw hm
    go_wp2_with fail
    go_loopw [48,8] (fun i b wv=>∃k p:Nat,k≤n∧i=.int .i64 (k:Int)∧b=.int .u32 (p:Int)∧Hid (p=10^k)∧wv=wr) (fun i _ _=>n-(intOf i).toNat)
    case atStart=>exact⟨0,1,by omega,rfl,rfl,rfl,rfl⟩
    case round=>
     obtain⟨k,p,hk,rfl,rfl,hpk,rfl⟩:=hrel;rcases Nat.lt_or_ge k n with hlt|hge
     ·have hp8:p≤100000000:=by rw[hpk.out];exact ten9 (by omega)
      have hkn:(k:Int)<(n:Int):=by omega
      have hwp:IntKind.u32.wrap ((p:Int)*10)=((p*10:Nat):Int):=by rw[Int.natCast_mul];exact IntWalk.u32_in _ (by omega)
      go_wp2_with fail
      go_roundw
      case rel=>exact⟨k+1,p*10,by omega,by go_num,by go_num,by unfold Hid;rw[hpk.out,Nat.pow_succ],trivial⟩
      case measure=>simp[intOf]<;>omega
     ·obtain rfl:k=n:=by omega
      have hp9:p<4294967296:=by
       rw[hpk.out];exact Nat.lt_of_le_of_lt (Nat.pow_le_pow_right (by decide) hn9) (by decide)
      have hkn:¬(k:Int)<(k:Int):=by omega
      go_wp2_with (first
       |(go_at_call 194;refine(H3.out _).mono ?_;rintro e w2 ⟨rfl,hb2⟩;have Hb2:=hI (show Below wr.heap.size wr w2 by rcases hb2 with rfl|rfl<;>first|exact Below.refl _ _|exact Lib.bytesWorld_below _ _ _);clear hb2)
       |(go_at_call 195;refine(H4.out _ p hp9).mono ?_;rintro e w3 ⟨v3,rfl,hv3,hb3⟩;have Hv3:=hI hv3;have Hb3:=hI hb3;clear hv3 hb3))
      go_roundw
      case rel=>exact⟨.empty,natL []*p+u,rfl,Hv3.out,(qab Hbw.out (qab Hb2.out Hb3.out)),.inr ⟨rfl,by simp[natL]⟩⟩
      case measure=>simp;omega
   ·obtain⟨a,c,rfl,hL,hAU⟩:=hm
    have HAU:=hI hAU;have H5':=hI (H5.out _ a c hL);have Hbw:=hI (qab Hb1.out hbw);clear hL hbw hAU;generalize(limbs M).length=kl at*
    go_wp2_with (go_at_call 140;refine(H5'.out).mono ?_;rintro e w4 ⟨v4,rfl,⟨hv,x5,k5,rfl⟩,hb4⟩;have HA4:=hI (((HAU.out.mono hb4).set w.heap.size 0 (.bool x5)).set w.heap.size 1 (.slice a k5 c));have hr:=HR.out.below (qab Hbw.out hb4);obtain⟨⟨r0,r1⟩,f0,f1⟩:=qak hr;obtain⟨hv6,hb6⟩:=IntV.put2 hv hr;have Hv6:=hI hv6;have Hb6:=hI hb6;have Hbel:=hI (qcz (b:=w.heap.size) x5 a k5 c ((qac w (.cells #[.bool false,.slice none 0 0] 75)).via (qab Hbw.out hb4) (qac w _).size) (Nat.le_refl _));clear hr hv6 hb6 hv)
    obtain⟨⟨q0,q1⟩,-⟩:=qak Hb6.out;exact bodyPost_ret (v:=.tuple #[.agg #[.bool x5,.slice a k5 c],.int .i64 0]) (by simp[results,Tryz.results156,go_sem,q0,q1]) rfl ⟨_,rfl,⟨_,_,_,_,rfl,Hv6.out,HA4.out⟩,Hbel.out⟩
 ·have hc:=hhead c hh hp0
  have hc2:(((D[0]'hp0).toNat:Int)==48)=false:=by
   rw[hc,beq_eq_false_iff_ne];intro h;exact h48 (UInt8.toNat_inj.1 (by have:(48:UInt8).toNat=48:=rfl;omega))
  clear hhead hc hh h48
  go_enter Tryz.func156,Tryz.ntmps156
  go_wp2_with (first
   |(go_at_call 191;refine(H1.out _).mono ?_;rintro e w' ⟨rfl,rfl⟩)
   |(go_at_call 192;refine(H2.out _).mono ?_;rintro e w1 ⟨rfl,hb1⟩;have Hb1:=hI hb1;clear hb1))
  go_loopw [4,6] (fun x m wr=>∃X M,x=.string X∧MagA wr m M∧Below w1.heap.size w1 wr∧((D=X∧m=.slice none 0 0)∨(X.size=0∧M=u))) (fun x _ _=>match x with|.string X=>X.size|_=>0)
  case atStart=>exact⟨D,0,rfl,MagA.zero _,Below.refl _ _,.inl ⟨rfl,rfl⟩⟩
  case round=>
   obtain⟨X,M,rfl,hm,hbw,hor⟩:=hrel;rcases hor with⟨rfl,rfl⟩|⟨hX,rfl⟩
   ·have Hbw:=hI hbw
    clear hbw hm
    go_wp2_with fail
    go_loopw [48,8] (fun i b wv=>∃k p:Nat,k≤n∧i=.int .i64 (k:Int)∧b=.int .u32 (p:Int)∧Hid (p=10^k)∧wv=wr) (fun i _ _=>n-(intOf i).toNat)
    case atStart=>exact⟨0,1,by omega,rfl,rfl,rfl,rfl⟩
    case round=>
     obtain⟨k,p,hk,rfl,rfl,hpk,rfl⟩:=hrel;rcases Nat.lt_or_ge k n with hlt|hge
     ·have hp8:p≤100000000:=by rw[hpk.out];exact ten9 (by omega)
      have hkn:(k:Int)<(n:Int):=by omega
      have hwp:IntKind.u32.wrap ((p:Int)*10)=((p*10:Nat):Int):=by rw[Int.natCast_mul];exact IntWalk.u32_in _ (by omega)
      go_wp2_with fail
      go_roundw
      case rel=>exact⟨k+1,p*10,by omega,by go_num,by go_num,by unfold Hid;rw[hpk.out,Nat.pow_succ],trivial⟩
      case measure=>simp[intOf]<;>omega
     ·obtain rfl:k=n:=by omega
      have hp9:p<4294967296:=by
       rw[hpk.out];exact Nat.lt_of_le_of_lt (Nat.pow_le_pow_right (by decide) hn9) (by decide)
      have hkn:¬(k:Int)<(k:Int):=by omega
      go_wp2_with (first
       |(go_at_call 194;refine(H3.out _).mono ?_;rintro e w2 ⟨rfl,hb2⟩;have Hb2:=hI (show Below wr.heap.size wr w2 by rcases hb2 with rfl|rfl<;>first|exact Below.refl _ _|exact Lib.bytesWorld_below _ _ _);clear hb2)
       |(go_at_call 195;refine(H4.out _ p hp9).mono ?_;rintro e w3 ⟨v3,rfl,hv3,hb3⟩;have Hv3:=hI hv3;have Hb3:=hI hb3;clear hv3 hb3))
      go_roundw
      case rel=>exact⟨.empty,natL []*p+u,rfl,Hv3.out,(qab Hbw.out (qab Hb2.out Hb3.out)),.inr ⟨rfl,by simp[natL]⟩⟩
      case measure=>simp;omega
   ·obtain⟨a,c,rfl,hL,hAU⟩:=hm
    have HAU:=hI hAU;have H5':=hI (H5.out _ a c hL);have Hbw:=hI (qab Hb1.out hbw);clear hL hbw hAU;generalize(limbs M).length=kl at*
    go_wp2_with (go_at_call 140;refine(H5'.out).mono ?_;rintro e w4 ⟨v4,rfl,⟨hv,x5,k5,rfl⟩,hb4⟩;have HA4:=hI (((HAU.out.mono hb4).set w.heap.size 0 (.bool x5)).set w.heap.size 1 (.slice a k5 c));have hr:=HR.out.below (qab Hbw.out hb4);obtain⟨⟨r0,r1⟩,f0,f1⟩:=qak hr;obtain⟨hv6,hb6⟩:=IntV.put2 hv hr;have Hv6:=hI hv6;have Hb6:=hI hb6;have Hbel:=hI (qcz (b:=w.heap.size) x5 a k5 c ((qac w (.cells #[.bool false,.slice none 0 0] 75)).via (qab Hbw.out hb4) (qac w _).size) (Nat.le_refl _));clear hr hv6 hb6 hv)
    obtain⟨⟨q0,q1⟩,-⟩:=qak Hb6.out;exact bodyPost_ret (v:=.tuple #[.agg #[.bool x5,.slice a k5 c],.int .i64 0]) (by simp[results,Tryz.results156,go_sem,q0,q1]) rfl ⟨_,rfl,⟨_,_,_,_,rfl,Hv6.out,HA4.out⟩,Hbel.out⟩
end Go.Proofs.YtacihodamichhaaGreatDoor
namespace Go.Proofs.YtacihodamichhaaGreatDoor
open Go.RowKit
def isD(c:UInt8):Bool:=decide (48≤c.toNat)&&decide (c.toNat≤57)
def dv(c:UInt8):Nat:=c.toNat-48
theorem qci{c:UInt8}:isD c=true↔48≤c.toNat∧c.toNat≤57:=by simp[isD]
def valF(acc:Nat)(l:List UInt8):Nat:=l.foldl (fun a c=>a*10+dv c) acc
theorem qeg(acc:Nat):valF acc []=acc:=rfl
theorem qdn(acc:Nat)(c:UInt8)(l:List UInt8):valF acc (c::l)=valF (acc*10+dv c) l:=by
 unfold valF;rw[List.foldl_cons]
def valD(l:List UInt8):Nat:=valF 0 l
def AllD(l:List UInt8):Prop:=∀c∈l,isD c=true
theorem AllD.take{l:List UInt8}(h:AllD l)(k:Nat):AllD (l.take k):=fun c hc=>h c (List.mem_of_mem_take hc)
theorem AllD.drop{l:List UInt8}(h:AllD l)(k:Nat):AllD (l.drop k):=fun c hc=>h c (List.mem_of_mem_drop hc)
theorem qj1(a:List UInt8)(acc:Nat)(b:List UInt8):valF acc (a++b)=valF (valF acc a) b:=List.foldl_append
theorem qsf(l:List UInt8):∀acc:Nat,valF acc l=acc*10^l.length+valF 0 l:=by
 induction l with
 |nil=>intro acc;simp[qeg]
 |cons c l ih=>
  intro acc;have h1:=ih (acc*10+dv c);have h2:=ih (0*10+dv c);rw[qdn,qdn,h1,h2,List.length_cons,Nat.pow_succ,Nat.zero_mul,Nat.zero_add,Nat.add_mul,Nat.mul_assoc acc];rw[Nat.mul_comm 10,Nat.add_assoc]
theorem qdb(a b:List UInt8):valD (a++b)=valD a*10^b.length+valD b:=by
 unfold valD;rw[qj1,qsf]
theorem quq{c:UInt8}(h:isD c=true):dv c≤9:=by
 have:=(qci.1 h).2;unfold dv
 omega
theorem qay:∀{l:List UInt8},AllD l→valD l<10^l.length
 |[],_=>by simp[valD,qeg]
 |c::l,h=>by
  have ih:=qay (l:=l) (fun x hx=>h x (by simp[hx]))
  have h1:valD (c::l)=dv c*10^l.length+valD l:=by
   have:=qdb [c] l
   simpa[valD,qdn,qeg]using this
  have h2:=quq (h c (by simp));rw[h1,List.length_cons,Nat.pow_succ];have h3:dv c*10^l.length≤9*10^l.length:=Nat.mul_le_mul_right _ h2
  omega
theorem qi9:∀{l:List UInt8} {acc:Nat},AllD l→acc*10^l.length+valD l<1000000000→Lib.parseUintM 4294967295 acc l=.ok (valF acc l)
 |[],acc,_,_=>rfl
 |c::l,acc,h,hb=>by
  have hc:=qci.1 (h c (by simp))
  have h1:valD (c::l)=dv c*10^l.length+valD l:=by
   have:=qdb [c] l
   simpa[valD,qdn,qeg]using this
  have e:(acc*10+dv c)*10^l.length+valD l=acc*10^(c::l).length+valD (c::l):=by
   rw[h1,List.length_cons,Nat.pow_succ,Nat.add_mul,Nat.mul_assoc acc,Nat.mul_comm 10]
   omega
  have hp:1≤10^l.length:=Nat.pow_pos (by decide);have h2:(acc*10+dv c)*1≤(acc*10+dv c)*10^l.length:=Nat.mul_le_mul_left _ hp;unfold Lib.parseUintM;rw[if_pos hc,if_neg (by unfold dv at*;omega),if_neg (by unfold dv at*;omega)];exact qi9 (fun x hx=>h x (by simp[hx])) (by rw[←e]at hb;exact hb)
theorem qr2{l:List UInt8}(h:AllD l)(hne:l≠[])(hl:l.length≤9):Lib.parseUintB 32 l=.ok (valD l)∧valD l<1000000000:=by
 have h1:=qay h;have h2:(10:Nat)^l.length≤10^9:=Nat.pow_le_pow_right (by decide) hl;have h3:valD l<1000000000:=by omega
 refine⟨?_,h3⟩
 unfold Lib.parseUintB;rw[if_neg hne];exact qi9 h (by omega)
theorem qlp{l:List UInt8}(h:AllD l):Lib.idxFunc qg6 true ⟨l.toArray⟩=-1:=by
 have key:∀(f pos:Nat),Lib.idxFuncFrom qg6 true ⟨l.toArray⟩ f pos=-1:=by
  intro f
  induction f with
  |zero=>intro pos;rfl
  |succ f ih=>
   intro pos;unfold Lib.idxFuncFrom
   split
   ·rename_i hp
    have hd:=qci.1 (h ((⟨l.toArray⟩:ByteArray)[pos]'hp) (by
     have:(⟨l.toArray⟩:ByteArray)[pos]'hp=l[pos]'(by rw[Lib.size_eq]at hp;exact hp):=rfl;rw[this]
     exact List.getElem_mem _))
    rw[decode_ascii _ _ hp (by omega)];simp only;rw[if_neg,ih];unfold qg6;rw[decide_eq_false (by omega),decide_eq_false (by omega)]
    decide
   ·rfl
 exact key _ _
theorem qd3{α:Type}{p:α→Bool}:∀{l:List α},l.dropWhile p=[]↔∀x∈l,p x=true
 |[]=>by simp
 |a::l=>by
  have ih:=qd3 (p:=p) (l:=l);rw[List.dropWhile_cons]
  by_cases h:p a=true
  ·simp only[h,if_true,List.mem_cons,forall_eq_or_imp,true_and];exact ih
  ·simp only[Bool.not_eq_true]at h;simp[h]
theorem qiu{l cs:List UInt8}:Lib.trimS l cs=[]↔∀c∈l,cs.contains c=true:=by
 unfold Lib.trimS Lib.trimLeftS Lib.trimRightS
 constructor
 ·intro h
  have h1:=qd3.1 h;intro c hc;have h2:∀x∈(l.reverse.dropWhile (cs.contains ·)),cs.contains x=true:=fun x hx=>h1 x (List.mem_reverse.2 hx)
  have h3:=List.takeWhile_append_dropWhile (p:=(cs.contains ·)) (l:=l.reverse);have h4:c∈l.reverse:=List.mem_reverse.2 hc;rw[←h3]at h4;rcases List.mem_append.1 h4 with h5|h5
  ·exact List.all_eq_true.1 List.all_takeWhile c h5
  ·exact h2 c h5
 ·intro h
  have h1:l.reverse.dropWhile (cs.contains ·)=[]:=qd3.2 (fun x hx=>h x (List.mem_reverse.1 hx));rw[h1]
  rfl
theorem qjs{c:UInt8}:qg9.contains c=true↔isD c=true:=by
 rw[qci];have h:∀n:Fin 256,(qg9.contains (UInt8.ofNat n.val)=true)↔(48≤n.val∧n.val≤57):=by decide+kernel
 have hc:c.toNat<256:=c.toNat_lt;have h2:=h ⟨c.toNat,hc⟩;simp only[UInt8.ofNat_toNat]at h2;exact h2
theorem qge{l:List UInt8}:Lib.trimS l qg9=[]↔AllD l:=by
 rw[qiu];exact⟨fun h c hc=>qjs.1 (h c hc),fun h c hc=>qjs.2 (h c hc)⟩
theorem qhk{l:List UInt8}:Lib.trimS l [48]=[]↔∀c∈l,c=48:=by
 rw[qiu];simp
end Go.Proofs.YtacihodamichhaaGreatDoor
