/- Parts of the proof. -/
import Derived.Test.YtacihodamichhaaGreatDoorU11
import Derived.Test.YtacihodamichhaaGreatDoorU19
set_option maxHeartbeats 2000000
namespace Go.Proofs.YtacihodamichhaaGreatDoor
open Go.RowKit
theorem qf8{l:List UInt8}{k:Nat}{c:UInt8}(h:l[k]?=some c):l.drop k=c::l.drop (k+1):=by
 have hi:k<l.length:=by
  rcases Nat.lt_or_ge k l.length with h'|h'
  ·exact h'
  ·rw[List.getElem?_eq_none h']at h;cases h
 rw[List.getElem?_eq_getElem hi]at h;rw[List.drop_eq_getElem_cons hi,Option.some.inj h]
theorem qj5(l:List UInt8)(w:World)(hl:l.length≤30000):Calls Tryz.prog 68 #[.string ⟨l.toArray⟩] w (Ret (.int .i64 ((topL l).length:Int)) w):=by
 have hs:(⟨l.toArray⟩:ByteArray).size=l.length:=by rw[Lib.size_eq]
 have HX:=hI (fun(q:Nat) (c:UInt8) (h:l[q]?=some c)=>qfa h);obtain⟨T,hT⟩:∃T,(topL l).length=T:=⟨_,rfl⟩
 rw[hT];have HT:=hI hT;generalize(⟨l.toArray⟩:ByteArray)=S at*;generalize hn:l.length=n at*;have Hn:=hI hn;clear hn hT
 go_enter Tryz.func68,Tryz.ntmps68
 go_wp2_with fail
 go_loopw [3] (fun i wr=>wr=w∧∃k:Nat,k≤n∧i=.int .i64 (k:Int)∧Hid (T=k+(topL (l.drop k)).length)) (fun i _=>n-(intOf i).toNat)
 case atStart=>exact⟨rfl,0,Nat.zero_le _,rfl,by unfold Hid;rw[List.drop_zero,Nat.zero_add,HT.out]⟩
 case round=>
  obtain⟨rfl,k,hk,rfl,hpre⟩:=hrel;rcases Nat.lt_or_ge k n with hlt|hge
  ·obtain⟨c,hc⟩:∃c,l[k]?=some c:=⟨l[k]'(by have:=Hn.out;omega),by simp⟩
   have hks:k<S.size:=by rw[hs];exact hlt
   have hx:=HX.out k c hc hks;have hkn:(k:Int)<(n:Int):=by omega
   have hk0:(0:Int)≤(k:Int):=Int.natCast_nonneg _;have hkw:IntKind.i64.wrap ((k:Int)+1)=(k:Int)+1:=IntWalk.i64_in _ (by omega)
   by_cases h47:c=47
   ·have hc1:((S[k]'hks).toNat:Int)=47:=by rw[hx,h47];rfl
    have hfin:T=k:=by rw[hpre.out,qf8 hc,h47];rfl
    have Hfin:=hI hfin;clear hc hx h47 hfin
    go_wp2_with fail
    go_ret
    exact⟨by rw[Hfin.out];rfl,Below.refl _ _⟩
   ·have hc1:(((S[k]'hks).toNat:Int)==47)=false:=by
     rw[hx,beq_eq_false_iff_ne];intro e;exact h47 (UInt8.toNat_inj.1 (by have:(47:UInt8).toNat=47:=rfl;omega))
    have Hnx:=hI (show T=(k+1)+(topL (l.drop (k+1))).length by
     rw[hpre.out,qf8 hc];have h2:(c !=47)=true:=by rw[bne_iff_ne];exact h47
     rw[show topL (c::l.drop (k+1))=c::topL (l.drop (k+1))by simp[topL,h2],List.length_cons]
     omega)
    clear hc hx h47
    go_wp2_with fail
    go_roundw
    case rel=>exact⟨trivial,k+1,by omega,by go_num,Hnx.out⟩
    case measure=>simp[intOf]<;>omega
  ·obtain rfl:k=n:=by omega
   have hkn:¬(k:Int)<(k:Int):=by omega
   have Hfin:=hI (show T=k by rw[hpre.out,List.drop_of_length_le (by rw[Hn.out];exact Nat.le_refl _)];rfl)
   go_wp2_with fail
   go_ret
   exact⟨by rw[Hfin.out];rfl,Below.refl _ _⟩
theorem qog(l:List UInt8)(w:World)(hl:l.length≤30000):Calls Tryz.prog 67 #[.string ⟨l.toArray⟩] w (Ret (.bool (zerB l)) w):=by
 have hs:(⟨l.toArray⟩:ByteArray).size=l.length:=by rw[Lib.size_eq]
 have HX:=hI (fun(q:Nat) (c:UInt8) (h:l[q]?=some c)=>qfa h);obtain⟨T,hT⟩:∃T,zerB l=T:=⟨_,rfl⟩
 rw[hT];have HT:=hI hT;generalize(⟨l.toArray⟩:ByteArray)=S at*;generalize hn:l.length=n at*;have Hn:=hI hn;clear hn hT
 go_enter Tryz.func67,Tryz.ntmps67
 go_wp2_with fail
 go_loopw [3] (fun i wr=>wr=w∧∃k:Nat,k≤n∧i=.int .i64 (k:Int)∧Hid (T=zerB (l.drop k))) (fun i _=>n-(intOf i).toNat)
 case atStart=>exact⟨rfl,0,Nat.zero_le _,rfl,by unfold Hid;rw[List.drop_zero,HT.out]⟩
 case round=>
  obtain⟨rfl,k,hk,rfl,hpre⟩:=hrel;rcases Nat.lt_or_ge k n with hlt|hge
  ·obtain⟨c,hc⟩:∃c,l[k]?=some c:=⟨l[k]'(by have:=Hn.out;omega),by simp⟩
   have hks:k<S.size:=by rw[hs];exact hlt
   have hx:=HX.out k c hc hks;have hkn:(k:Int)<(n:Int):=by omega
   have hk0:(0:Int)≤(k:Int):=Int.natCast_nonneg _;have hkw:IntKind.i64.wrap ((k:Int)+1)=(k:Int)+1:=IntWalk.i64_in _ (by omega);have hpr:=hpre.out;rw[qf8 hc]at hpr
   by_cases h48:c=48
   ·have hc1:((S[k]'hks).toNat:Int)=48:=by rw[hx,h48];rfl
    have Hnx:=hI (show T=zerB (l.drop (k+1))by rw[hpr,h48];simp[zerB]);clear hc hx h48 hpr
    go_wp2_with fail
    go_roundw
    case rel=>exact⟨trivial,k+1,by omega,by go_num,Hnx.out⟩
    case measure=>simp[intOf]<;>omega
   ·have hc1:(((S[k]'hks).toNat:Int)!=48)=true:=by
     rw[hx,bne_iff_ne];intro e;exact h48 (UInt8.toNat_inj.1 (by have:(48:UInt8).toNat=48:=rfl;omega))
    have Hfin:=hI (show T=false by rw[hpr];simp[zerB,h48]);clear hc hx h48 hpr
    go_wp2_with fail
    go_ret
    exact⟨by rw[Hfin.out];rfl,Below.refl _ _⟩
  ·obtain rfl:k=n:=by omega
   have hkn:¬(k:Int)<(k:Int):=by omega
   have Hfin:=hI (show T=true by rw[hpre.out,List.drop_of_length_le (by rw[Hn.out];exact Nat.le_refl _)];rfl)
   go_wp2_with fail
   go_ret
   exact⟨by rw[Hfin.out];rfl,Below.refl _ _⟩
theorem qhh(l:List UInt8)(w:World)(hl:l.length≤30000):Calls Tryz.prog 66 #[.string ⟨l.toArray⟩] w (Ret (.bool (digB l)) w):=by
 have hs:(⟨l.toArray⟩:ByteArray).size=l.length:=by rw[Lib.size_eq]
 have HX:=hI (fun(q:Nat) (c:UInt8) (h:l[q]?=some c)=>qfa h);obtain⟨T,hT⟩:∃T,digB l=T:=⟨_,rfl⟩
 rw[hT];have HT:=hI (show T=(!l.isEmpty&&l.all isD)from hT.symm);have hE:(!l.isEmpty)=decide (0<l.length):=by cases l<;>simp
 rw[hE]at HT;generalize(⟨l.toArray⟩:ByteArray)=S at*;generalize hn:l.length=n at*;have Hn:=hI hn;clear hn hT hE
 go_enter Tryz.func66,Tryz.ntmps66
 go_wp2_with fail
 go_loopw [3] (fun i wr=>wr=w∧∃k:Nat,k≤n∧i=.int .i64 (k:Int)∧Hid (l.all isD=(l.drop k).all isD)) (fun i _=>n-(intOf i).toNat)
 case atStart=>exact⟨rfl,0,Nat.zero_le _,rfl,by unfold Hid;rw[List.drop_zero]⟩
 case round=>
  obtain⟨rfl,k,hk,rfl,hpre⟩:=hrel;rcases Nat.lt_or_ge k n with hlt|hge
  ·obtain⟨c,hc⟩:∃c,l[k]?=some c:=⟨l[k]'(by have:=Hn.out;omega),by simp⟩
   have hks:k<S.size:=by rw[hs];exact hlt
   have hx:=HX.out k c hc hks;have hkn:(k:Int)<(n:Int):=by omega
   have hk0:(0:Int)≤(k:Int):=Int.natCast_nonneg _;have hkw:IntKind.i64.wrap ((k:Int)+1)=(k:Int)+1:=IntWalk.i64_in _ (by omega);have hpr:=hpre.out;rw[qf8 hc]at hpr;obtain⟨cn,hcn⟩:∃cn,c.toNat=cn:=⟨_,rfl⟩
   have hc1:((S[k]'hks).toNat:Int)=(cn:Int):=by rw[hx,hcn]
   by_cases hd:isD c=true
   ·have hcr:=qci.1 hd
    rw[hcn]at hcr;have h1:¬(cn:Int)<48:=by omega
    have h2:¬(57:Int)<(cn:Int):=by omega
    have Hnx:=hI (show l.all isD=(l.drop (k+1)).all isD by rw[hpr,List.all_cons,hd,Bool.true_and]);clear hc hx hpr hcn hd
    go_wp2_with fail
    go_roundw
    case rel=>exact⟨trivial,k+1,by omega,by go_num,Hnx.out⟩
    case measure=>simp[intOf]<;>omega
   ·simp only[Bool.not_eq_true]at hd
    have Hfin:=hI (show T=false by rw[HT.out,hpr,List.all_cons,hd,Bool.false_and,Bool.and_false])
    have hcr:cn<48∨57<cn:=by
     have:=qci (c:=c);rw[hd,hcn]at this;simp at this
     omega
    clear hc hx hpr hcn hd;rcases hcr with hcr|hcr
    ·have h1:(cn:Int)<48:=by omega
     go_wp2_with fail
     go_ret
     exact⟨by rw[Hfin.out];rfl,Below.refl _ _⟩
    ·have h1:¬(cn:Int)<48:=by omega
     have h2:(57:Int)<(cn:Int):=by omega
     go_wp2_with fail
     go_ret
     exact⟨by rw[Hfin.out];rfl,Below.refl _ _⟩
  ·obtain rfl:k=n:=by omega
   have hkn:¬(k:Int)<(k:Int):=by omega
   have Hfin:=hI (show T=decide (0<k)by rw[HT.out,hpre.out,List.drop_of_length_le (by rw[Hn.out];exact Nat.le_refl _)];simp)
   go_wp2_with fail
   go_ret
   exact⟨by rw[Hfin.out];rfl,Below.refl _ _⟩
theorem qez(l:List UInt8)(w:World)(hl:l.length≤30000):Calls Tryz.prog 65 #[.string ⟨l.toArray⟩] w (Ret (.tuple #[.string ⟨(topL l).toArray⟩,.string ⟨(denT l).toArray⟩]) w):=by
 have HS:=hI (fun w'=>qj5 l w' hl);have hs:(⟨l.toArray⟩:ByteArray).size=l.length:=by rw[Lib.size_eq]
 rcases qox l with⟨-,h2,h3,-⟩|⟨i,-,h2,h3,h4,h5⟩
 ·unfold denT
  rw[h2,if_neg (by decide),h3];rw[h3]at HS;generalize hn:l.length=n at*;generalize(⟨l.toArray⟩:ByteArray)=S at*;clear h2 h3 hl hn
  go_enter Tryz.func65,Tryz.ntmps65
  go_wp2_with (go_at_call 68;refine(HS.out _).mono ?_;rintro e w1 ⟨rfl,hb1⟩)
  go_ret2
  exact⟨rfl,hb1⟩
 ·unfold denT
  rw[h3,if_pos rfl,h4,h5];rw[h4,List.length_take,Nat.min_eq_left (by omega)]at HS;have e1:(⟨l.toArray⟩:ByteArray).extract 0 i=⟨(l.take i).toArray⟩:=qch (by rw[qbt rfl,List.drop_zero]);have e2:(⟨l.toArray⟩:ByteArray).extract (i+1) (⟨l.toArray⟩:ByteArray).size=⟨(l.drop (i+1)).toArray⟩:=qch (by rw[qbt rfl,List.take_of_length_le (by rw[hs];exact Nat.le_refl _)]);rw[←e1,←e2];generalize hn:l.length=n at*;generalize(⟨l.toArray⟩:ByteArray)=S at*;rw[hs];have g1:IntKind.i64.wrap ((i:Int)+1)=(i:Int)+1:=IntWalk.i64_in _ (by omega);have g2:(i:Int)≤(n:Int):=by omega
  have g3:(i:Int)+1≤(n:Int):=by omega
  have g4:(0:Int)≤(i:Int):=Int.natCast_nonneg _;have g5:(0:Int)≤(i:Int)+1:=by omega
  have g6:i≤n:=by omega
  have g7:i+1≤n:=by omega
  have g8:((i:Int)+1).toNat=i+1:=by omega
  have g9:((i:Int)==(n:Int))=false:=by rw[beq_eq_false_iff_ne];omega
  clear h3 h4 h5 e1 e2 hl hn h2
  go_enter Tryz.func65,Tryz.ntmps65
  go_wp2_with (go_at_call 68;refine(HS.out _).mono ?_;rintro e w1 ⟨rfl,hb1⟩)
  refine wp_region_held_drew (S:=(fun _=>True)) (by kernel_rfl) (by exact trivial) (fun hHeld=>?_)
  refine wpAnyH_take (i:=0) (v:=?v1) rfl (by kernel_rfl) (by kernel_rfl) (by kernel_rfl) (fun _ _ _ h=>h) (Or.inl ⟨by rfl,?hy1⟩) (by assumption) ?rest1
  case hy1=>(intro w hSw;(try dsimp only at hSw);go_simp;try(with_reducible rfl))
  try simp only[Act.put,List.getElem_toArray,List.getElem_cons_zero,List.setIfInBounds_toArray,List.set_cons_zero,List.set_cons_succ]
  refine' tk 1 ?_;(try simp only[tkS]);refine' tk 2 ?_;(try simp only[tkS]);refine' tk 3 ?_;(try simp only[tkS]);refine' tk 4 ?_;(try simp only[tkS]);refine' tk 5 ?_;(try simp only[tkS]);refine' tk 6 ?_;(try simp only[tkS]);refine' tk 7 ?_;(try simp only[tkS]);refine' tk 8 ?_;(try simp only[tkS]);refine tkD ?_ _
  go_wp2_with fail
  go_ret2
  exact⟨rfl,hb1.dn 1⟩
end Go.Proofs.YtacihodamichhaaGreatDoor
namespace Go.Proofs.YtacihodamichhaaGreatDoor
open Go.RowKit
theorem qo4{p:List UInt8}(h:AllD p):qao (p.reverse.map dv)=p:=by
 unfold qao;rw[List.map_map,List.map_reverse,List.reverse_reverse]
 conv=>rhs;rw[←List.map_id p]
 refine List.map_congr_left (fun c hc=>?_)
 have hd:=qci.1 (h c hc)
 show UInt8.ofNat (48+dv c)=c
 have:48+dv c=c.toNat:=by unfold dv;omega
 rw[this,UInt8.ofNat_toNat]
theorem canon{p:List UInt8}(h:AllD p)(hne:p≠[])(hh:p.head?≠some 48∨p=[48]):txtN false (valD p)=p:=by
 rcases hh with hh|rfl
 ·have hl:D10.limbs (valD p)=p.reverse.map dv:=by
   rw[←D10.qfz];refine D10.qdq (D10.qry h) (fun d hd=>?_)
   rw[List.getLast?_map,List.getLast?_reverse]at hd;simp only[Option.map_eq_some_iff]at hd;obtain⟨c,hc,rfl⟩:=hd;have hcd:=qci.1 (h c (List.mem_of_head? hc));intro e;refine hh ?_
   rw[hc]
   congr 1
   exact UInt8.toNat_inj.1 (by unfold dv at e;have:(48:UInt8).toNat=48:=rfl;omega)
  unfold txtN txtD;rw[hl,if_neg (by simpa using hne),if_neg (by decide)];exact qo4 h
 ·exact qdv
theorem qer{t:List UInt8}(h:digB (absL t)=true)(hb:badI (absL t) (negB t)=false):t=txtZ (sgn (negB t) (valD (absL t))):=by
 obtain⟨hne,hd⟩:=qan.1 h;have hn:=qfd t;cases hneg:negB t with
 |false=>
  rw[hneg,if_neg (by decide)]at hn;rw[hneg]at hb
  have hh:(absL t).head?≠some 48∨absL t=[48]:=by
   by_cases h48:(absL t).head?=some 48
   ·right
    unfold badI at hb;rw[h48]at hb;simp at hb;cases hp:absL t with
    |nil=>rw[hp]at h48;cases h48
    |cons c r=>
     rw[hp]at hb h48;cases h48
     simp at hb;rw[hb]
   ·exact .inl h48
  have hc:=canon hd hne hh;rw[show sgn false (valD (absL t))=((valD (absL t):Nat):Int)from rfl,qa3,hc];exact hn
 |true=>
  rw[hneg,if_pos rfl]at hn;rw[hneg]at hb
  have hh:(absL t).head?≠some 48:=by
   intro h48;unfold badI at hb;rw[h48]at hb;simp at hb
  have hc:=canon hd hne (.inl hh)
  have hv:valD (absL t)≠0:=by
   intro e;rw[e,qdv]at hc;exact hh (by rw[←hc];rfl)
  have e1:sgn true (valD (absL t))=-((valD (absL t):Nat):Int):=rfl;have hlt:-((valD (absL t):Nat):Int)<0:=by omega
  unfold txtZ;rw[e1,decide_eq_true hlt,Int.natAbs_neg,Int.natAbs_natCast];have hl:D10.limbs (valD (absL t))≠[]:=fun e=>hv (D10.qbs.1 e)
  unfold txtN txtD at hc⊢;rw[if_neg hl]at hc⊢;rw[if_pos rfl];rw[if_neg (by decide)]at hc;rw[hc];exact hn
theorem qdl{b:List UInt8}(h:digB b=true)(hh:b.head?≠some 48):b=txtN false (valD b):=(canon (qan.1 h).2 (qan.1 h).1 (.inl hh)).symm
end Go.Proofs.YtacihodamichhaaGreatDoor
