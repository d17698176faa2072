/- Parts of the proof. -/
import Derived.Test.YtacihodamichhaaGreatDoorU18
set_option maxHeartbeats 16000000
namespace Go.Proofs.YtacihodamichhaaGreatDoor
open Go.RowKit
theorem qa3(n:Nat):txtZ (n:Int)=txtN false n:=by
 unfold txtZ;rw[decide_eq_false (by omega),Int.natAbs_natCast]
theorem qwg{t Y R R2 P:Nat}(h:t*Y+R=P)(hR:R=Y+R2):(t+1)*Y+R2=P:=by
 rw[Nat.add_mul,Nat.one_mul];omega
theorem DgV.set{w:World}{v:Value}{N B:Nat}(h:DgV w v N)(hf:qsg B v){g i:Nat}(hg:g<B)(u:Value):DgV (w.setCell ⟨g,i,none⟩ u) v N:=by
 obtain⟨a,c,rfl,hd⟩:=h;exact⟨a,c,rfl,Sl.set hd (fun k hk=>by have:=hf k hk;exact Nat.ne_of_gt (Nat.lt_of_lt_of_le hg this)) u⟩
set_option maxRecDepth 100000 in
theorem qjz(neg:Bool)(X Y:Nat)(w:World)(hX:qbe X)(hY10:qbe (10*Y))(h0:0<Y)(hneg:neg=true→X≠0∧X%Y=0):Calls Tryz.prog 119 #[.string ⟨(txtN neg X).toArray⟩,.string ⟨(txtN false Y).toArray⟩] w (Ret (.tuple #[.string ⟨(txtN neg (X/Y)).toArray⟩,.string ⟨(txtN neg (X%Y)).toArray⟩]) w):=by
 have hY:qbe Y:=qbm (by omega) hY10;have HD1:=hI (fun w'=>qbf neg X w' hX);have HD2:=hI (fun w'=>qbf false Y w' hY)
 have hTz:txtZ (sgn neg X)=txtN neg X:=by
  cases neg with
  |false=>exact qa3 X
  |true=>
   have:=(hneg rfl).1;unfold txtZ sgn;rw[if_pos rfl,decide_eq_true (by omega),Int.natAbs_neg,Int.natAbs_natCast]
 have HS1:=hI (fun w'=>qbu (sgn neg X) w');rw[hTz]at HS1;have HS2:=hI (fun w'=>qbu (Y:Int) w');rw[qa3]at HS2;have HT:=hI (fun w' (a:Option Addr) n c (d:List Nat) (h:Ds w' (.slice a n c) d) (hd:D10.Dg d) (hl:d.length≤30000)=>qfs neg a n c d w' h hd hl);have HTR:=hI (fun w' v (R:Nat) (h:DgV w' v R) (hf:qbe R)=>qfb neg R v w' h hf)
 have HSX:=hI (show(neg=false∧((sgn neg X).sign=0∨(sgn neg X).sign=1))∨(neg=true∧(sgn neg X).sign=-1∧X%Y=0)by
  cases neg with
  |false=>left;have a:=qd8 (X:Int);exact⟨rfl,by show(X:Int).sign=0∨(X:Int).sign=1;omega⟩
  |true=>right;exact⟨rfl,Int.sign_eq_neg_one_of_neg (by have:=(hneg rfl).1;show -(X:Int)<0;omega),(hneg rfl).2⟩)
 have hfy:qbe (X%Y):=qbm (Nat.le_of_lt (Nat.mod_lt X h0)) hY
 have hS3:X%Y≠0→∀w',Calls Tryz.prog 120 #[.string ⟨(txtN false (X%Y)).toArray⟩] w' (Ret (.int .i64 1) w'):=by
  intro hne w';have h:=qbu ((X%Y:Nat):Int) w';rw[qa3,Int.sign_eq_one_of_pos (by omega)]at h;exact h
 have hSY:(Y:Int).sign=1:=Int.sign_eq_one_of_pos (by omega);rw[hSY]at HS2;have hlx:=D10.qal X;have hnx:=D10.qai X;have hX5:(D10.limbs X).length≤20000:=hX;have hi:(Tryz.prog.info? 3).map (fun i=>(i.zero,i.size,i.bytes))=some (some (.int .i64 0),1,8):=by kernel_rfl
 obtain⟨i4,hi4,hz0,hz1,hz2⟩:=info_parts hi;have HFy:=hI hfy;have HS3:=hI hS3;have HY0:=hI (And.intro h0 (And.intro hY10 hfy));have hw1:IntKind.i64.wrap (((D10.limbs X).length:Int)-1)=((D10.limbs X).length:Int)-1:=IntWalk.i64_in _ (by omega);generalize hla:D10.limbs X=la at*;generalize hn:la.length=n at*;have Hla:=hI (And.intro hlx (And.intro hnx hn));have Hla2:=hI hla;generalize(⟨(txtN neg X).toArray⟩:ByteArray)=SX at*;generalize(sgn neg X).sign=sx at*;generalize(⟨(txtN false Y).toArray⟩:ByteArray)=SY at*;clear hi hfy hS3 hlx hnx hX hY hY10 h0 hla hn;clear hSY hTz hneg
 go_enter Tryz.func119,Tryz.ntmps119
 go_wp2_with (first
  |(have _t:=HVA;clear _t;go_at_call 118;refine(HD2.out _).mono ?_;rintro e w2 ⟨v2,rfl,hv2,hb2⟩;have HVB:=hI hv2;have HVA2:=hI (HVA.out.mono hb2);have Hb2:=hI (qaa Hb1.out hb2);clear hv2 hb2)
  |(go_at_call 118;refine(HD1.out _).mono ?_;rintro e w1 ⟨v1,rfl,hv1,hb1⟩;obtain⟨a1,c1,rfl,hv1⟩:=hv1;rw[Hla2.out,Hla.out.2.2]at hv1;rw[Hla2.out,Hla.out.2.2];have HVA:=hI hv1;have Hb1:=hI hb1;clear hv1 hb1)
  |(at_make;refine wpList_make_full _ rfl _ _ 135 rfl (w2.heap.size) 3 i4 (.int .i64 0) 1 Tryz.underlying135 hi4 hz0 hz1 .i64 .i64 _ _ n rfl rfl (by omega) (by omega) (by rw[hz2];omega) (by unfold maxLen;omega) (by simp) ?_;intro w3 hown hg))
 have hO:=(show OI w.heap.size w3 w2.heap.size (List.replicate n 0)from qda (OI.made hown) Hb2.out.size)
 have hb3:Below w2.heap.size w2 w3:=(Below.refl _ _).grown hg (Nat.le_refl _) (fun b hb=>by cases hb);have HGe:=hI (show w.heap.size≤w2.heap.size from Hb2.out.size);generalize hgq:w2.heap.size=gq at hO;have Hgq:=hI hgq;clear hown hg hi4 hz0 hz1 hz2 hgq HD1 HD2 HVA
 go_wp2_with fail
 go_loopw [10,8] (fun ii rv wr=>∃(k R:Nat) (qs:List Nat),k≤n∧ii=.int .i64 ((k:Int)-1)∧DgV wr rv R∧Below w2.heap.size w2 wr∧OI w.heap.size wr gq (List.replicate k 0++qs)∧Hid (R<Y∧qs.length=n-k∧D10.Dg qs∧D10.natL qs*Y+R=D10.natL (la.drop k))) (fun ii _ _=>(intOf ii+1).toNat)
 case atStart=>exact⟨n,0,[],Nat.le_refl _,rfl,⟨none,0,by rw[D10.qah];rfl,by rw[D10.qah];exact Ds.nil _⟩,hb3,by rw[List.append_nil];exact hO,HY0.out.1,by rw[Nat.sub_self];rfl,(fun d hd=>by simp at hd),by rw[List.drop_eq_nil_of_le (by rw[Hla.out.2.2];exact Nat.le_refl _)];simp[D10.natL]⟩
 case round=>
  clear hO hb3;obtain⟨k,R,qs,hk,rfl,hR,hbw,hO,hpre⟩:=hrel;rcases k with _|j
  ·rw[List.replicate_zero,List.nil_append]at hO
   have hql:qs.length=n:=hpre.out.2.1;have hfin:=hpre.out.2.2.2;rw[List.drop_zero,Hla.out.2.1]at hfin;have hq:D10.natL qs=X/Y:=by rw[←hfin,Nat.mul_comm,Nat.mul_add_div HY0.out.1,Nat.div_eq_of_lt hpre.out.1,Nat.add_zero]
   have hr:R=X%Y:=by rw[←hfin,Nat.mul_comm,Nat.mul_add_mod,Nat.mod_eq_of_lt hpre.out.1]
   have hls:=hO.ls;rw[hql]at hls;have HQ:=hI (fun w' (hb:Below wr.heap.size wr w')=>HT.out w' (some ⟨gq,0,none⟩) n n qs (hls.mono hb) hpre.out.2.2.1 (by omega));rw[hq]at HQ
   change Hid (∀w',Below wr.heap.size wr w'→Calls Tryz.prog 117 _ w' (Ret (.string ⟨(txtN neg (X/Y)).toArray⟩) w'))at HQ
   obtain⟨a5,c5,rfl,hR5⟩:=hR;generalize hrl:(D10.limbs R).length=r5 at*;have HR:=hI (fun w' (hb:Below wr.heap.size wr w')=>HTR.out w' (.slice a5 r5 c5) R ⟨a5,c5,by rw[hrl],by rw[hrl];exact hR5.mono hb⟩ (by rw[hr];exact HFy.out));rw[hr]at HR;have Hbz:=hI (Below.refl wr.heap.size wr);have Hbw:=hI (Hb2.out.via hbw HGe.out);rcases HSX.out with⟨rfl,hs|hs⟩|⟨rfl,hs,hz⟩
   ·rw[hs]at HS1
    clear hs
    by_cases hz:X%Y=0
    ·have Hres:=hI (show(⟨(txtN false (X%Y)).toArray⟩:ByteArray)=⟨#[48]⟩from by rw[hz,show(txtN false 0)=[48]from qc2▸(qa3 0).symm])
     rw[hz]at HR;rw[show(txtN false 0)=[48]from qc2▸(qa3 0).symm]at HR;clear HS3 hls hR5 hql hfin hq hr hO hbw hpre hrl;generalize(⟨(txtN false (X/Y)).toArray⟩:ByteArray)=SQ at*
     go_wp2_with (first
      |(have _t:=Hz3;clear _t;go_at_call 120;refine(HS1.out _).mono ?_;rintro e wz ⟨rfl,hbz⟩;have Hz4:=hI (qaa Hz3.out hbz);clear hbz)
      |(have _t:=Hz1;clear _t;go_at_call 120;refine(HS2.out _).mono ?_;rintro e wz ⟨rfl,hbz⟩;have Hz2:=hI (qaa Hz1.out hbz);clear hbz)
      |(go_at_call 120;refine(HS1.out _).mono ?_;rintro e wz ⟨rfl,hbz⟩;have Hz1:=hI (qaa Hbz.out hbz);clear hbz)
      |(have _t:=Hz4;clear _t;go_at_call 117;refine(HR.out _ Hz4.out).mono ?_;rintro e wz ⟨rfl,hbz⟩;have Hz5:=hI (qaa Hz4.out hbz);clear hbz)
      |(go_at_call 117;refine(HQ.out _ Hz2.out).mono ?_;rintro e wz ⟨rfl,hbz⟩;have Hz3:=hI (qaa Hz2.out hbz);clear hbz))
     go_ret2
     exact⟨by rw[Hres.out];rfl,Hbw.out.via Hz5.out Hbw.out.size⟩
    ·have hne:((⟨(txtN false (X%Y)).toArray⟩:ByteArray).toList==[48])=false:=by
      rw[ByteArray.toList_eq,beq_eq_false_iff_ne]
      show ¬txtN false (X%Y)=[48]
      rw[←qa3];obtain⟨c,rr,ht,-,hp⟩:=qeh (z:=((X%Y:Nat):Int)) (by omega);rw[ht];intro e;exact(hp (by omega)).2 (List.cons.inj e).1
     have hne2:((⟨(txtN false (X%Y)).toArray⟩:ByteArray).toList !=[48])=true:=by rw[bne,hne];rfl
     have HS4:=hI (HS3.out hz);clear HS3 hls hR5 hql hfin hq hr hO hbw hpre hrl hz;generalize(⟨(txtN false (X/Y)).toArray⟩:ByteArray)=SQ at*;generalize(⟨(txtN false (X%Y)).toArray⟩:ByteArray)=SR at*
     go_wp2_with (first
      |(have _t:=Hz6;clear _t;go_at_call 120;refine(HS2.out _).mono ?_;rintro e wz ⟨rfl,hbz⟩;have Hz7:=hI (qaa Hz6.out hbz);clear hbz)
      |(have _t:=Hz5;clear _t;go_at_call 120;refine(HS4.out _).mono ?_;rintro e wz ⟨rfl,hbz⟩;have Hz6:=hI (qaa Hz5.out hbz);clear hbz)
      |(have _t:=Hz3;clear _t;go_at_call 120;refine(HS1.out _).mono ?_;rintro e wz ⟨rfl,hbz⟩;have Hz4:=hI (qaa Hz3.out hbz);clear hbz)
      |(have _t:=Hz1;clear _t;go_at_call 120;refine(HS2.out _).mono ?_;rintro e wz ⟨rfl,hbz⟩;have Hz2:=hI (qaa Hz1.out hbz);clear hbz)
      |(go_at_call 120;refine(HS1.out _).mono ?_;rintro e wz ⟨rfl,hbz⟩;have Hz1:=hI (qaa Hbz.out hbz);clear hbz)
      |(have _t:=Hz4;clear _t;go_at_call 117;refine(HR.out _ Hz4.out).mono ?_;rintro e wz ⟨rfl,hbz⟩;have Hz5:=hI (qaa Hz4.out hbz);clear hbz)
      |(go_at_call 117;refine(HQ.out _ Hz2.out).mono ?_;rintro e wz ⟨rfl,hbz⟩;have Hz3:=hI (qaa Hz2.out hbz);clear hbz))
     go_ret2
     exact⟨rfl,Hbw.out.via Hz7.out Hbw.out.size⟩
   ·rw[hs]at HS1
    clear hs
    by_cases hz:X%Y=0
    ·have Hres:=hI (show(⟨(txtN false (X%Y)).toArray⟩:ByteArray)=⟨#[48]⟩from by rw[hz,show(txtN false 0)=[48]from qc2▸(qa3 0).symm])
     rw[hz]at HR;rw[show(txtN false 0)=[48]from qc2▸(qa3 0).symm]at HR;clear HS3 hls hR5 hql hfin hq hr hO hbw hpre hrl;generalize(⟨(txtN false (X/Y)).toArray⟩:ByteArray)=SQ at*
     go_wp2_with (first
      |(have _t:=Hz3;clear _t;go_at_call 120;refine(HS1.out _).mono ?_;rintro e wz ⟨rfl,hbz⟩;have Hz4:=hI (qaa Hz3.out hbz);clear hbz)
      |(have _t:=Hz1;clear _t;go_at_call 120;refine(HS2.out _).mono ?_;rintro e wz ⟨rfl,hbz⟩;have Hz2:=hI (qaa Hz1.out hbz);clear hbz)
      |(go_at_call 120;refine(HS1.out _).mono ?_;rintro e wz ⟨rfl,hbz⟩;have Hz1:=hI (qaa Hbz.out hbz);clear hbz)
      |(have _t:=Hz4;clear _t;go_at_call 117;refine(HR.out _ Hz4.out).mono ?_;rintro e wz ⟨rfl,hbz⟩;have Hz5:=hI (qaa Hz4.out hbz);clear hbz)
      |(go_at_call 117;refine(HQ.out _ Hz2.out).mono ?_;rintro e wz ⟨rfl,hbz⟩;have Hz3:=hI (qaa Hz2.out hbz);clear hbz))
     go_ret2
     exact⟨by rw[Hres.out];rfl,Hbw.out.via Hz5.out Hbw.out.size⟩
    ·have hne:((⟨(txtN false (X%Y)).toArray⟩:ByteArray).toList==[48])=false:=by
      rw[ByteArray.toList_eq,beq_eq_false_iff_ne]
      show ¬txtN false (X%Y)=[48]
      rw[←qa3];obtain⟨c,rr,ht,-,hp⟩:=qeh (z:=((X%Y:Nat):Int)) (by omega);rw[ht];intro e;exact(hp (by omega)).2 (List.cons.inj e).1
     have hne2:((⟨(txtN false (X%Y)).toArray⟩:ByteArray).toList !=[48])=true:=by rw[bne,hne];rfl
     have HS4:=hI (HS3.out hz);clear HS3 hls hR5 hql hfin hq hr hO hbw hpre hrl hz;generalize(⟨(txtN false (X/Y)).toArray⟩:ByteArray)=SQ at*;generalize(⟨(txtN false (X%Y)).toArray⟩:ByteArray)=SR at*
     go_wp2_with (first
      |(have _t:=Hz6;clear _t;go_at_call 120;refine(HS2.out _).mono ?_;rintro e wz ⟨rfl,hbz⟩;have Hz7:=hI (qaa Hz6.out hbz);clear hbz)
      |(have _t:=Hz5;clear _t;go_at_call 120;refine(HS4.out _).mono ?_;rintro e wz ⟨rfl,hbz⟩;have Hz6:=hI (qaa Hz5.out hbz);clear hbz)
      |(have _t:=Hz3;clear _t;go_at_call 120;refine(HS1.out _).mono ?_;rintro e wz ⟨rfl,hbz⟩;have Hz4:=hI (qaa Hz3.out hbz);clear hbz)
      |(have _t:=Hz1;clear _t;go_at_call 120;refine(HS2.out _).mono ?_;rintro e wz ⟨rfl,hbz⟩;have Hz2:=hI (qaa Hz1.out hbz);clear hbz)
      |(go_at_call 120;refine(HS1.out _).mono ?_;rintro e wz ⟨rfl,hbz⟩;have Hz1:=hI (qaa Hbz.out hbz);clear hbz)
      |(have _t:=Hz4;clear _t;go_at_call 117;refine(HR.out _ Hz4.out).mono ?_;rintro e wz ⟨rfl,hbz⟩;have Hz5:=hI (qaa Hz4.out hbz);clear hbz)
      |(go_at_call 117;refine(HQ.out _ Hz2.out).mono ?_;rintro e wz ⟨rfl,hbz⟩;have Hz3:=hI (qaa Hz2.out hbz);clear hbz))
     go_ret2
     exact⟨rfl,Hbw.out.via Hz7.out Hbw.out.size⟩
   ·rw[hs]at HS1
    clear hs;have Hres:=hI (show(⟨(txtN true (X%Y)).toArray⟩:ByteArray)=⟨#[48]⟩from by rw[hz,show(txtN true 0)=[48]from by unfold txtN txtD;rw[D10.qah,if_pos rfl]]);rw[hz]at HR;rw[show(txtN true 0)=[48]from by unfold txtN txtD;rw[D10.qah,if_pos rfl]]at HR;clear HS3 hls hR5 hql hfin hq hr hO hbw hpre hrl;generalize(⟨(txtN true (X/Y)).toArray⟩:ByteArray)=SQ at*
    go_wp2_with (first
     |(have _t:=Hz3;clear _t;go_at_call 120;refine(HS1.out _).mono ?_;rintro e wz ⟨rfl,hbz⟩;have Hz4:=hI (qaa Hz3.out hbz);clear hbz)
     |(have _t:=Hz1;clear _t;go_at_call 120;refine(HS2.out _).mono ?_;rintro e wz ⟨rfl,hbz⟩;have Hz2:=hI (qaa Hz1.out hbz);clear hbz)
     |(go_at_call 120;refine(HS1.out _).mono ?_;rintro e wz ⟨rfl,hbz⟩;have Hz1:=hI (qaa Hbz.out hbz);clear hbz)
     |(have _t:=Hz4;clear _t;go_at_call 117;refine(HR.out _ Hz4.out).mono ?_;rintro e wz ⟨rfl,hbz⟩;have Hz5:=hI (qaa Hz4.out hbz);clear hbz)
     |(go_at_call 117;refine(HQ.out _ Hz2.out).mono ?_;rintro e wz ⟨rfl,hbz⟩;have Hz3:=hI (qaa Hz2.out hbz);clear hbz))
    go_ret2
    exact⟨by rw[Hres.out];rfl,Hbw.out.via Hz5.out Hbw.out.size⟩
  ·obtain⟨b,off,d,rfl,hdk,c0⟩:=HVA2.out.at hbw (show j<n by omega)
   have hd10:=Hla.out.1 d (List.mem_of_getElem? hdk);have Hdk:=hI (show D10.natL (la.drop j)=d+10*D10.natL (la.drop (j+1))from D10.qhm hdk);have hij:((((j+1:Nat):Int)-1))=(j:Int):=by omega
   rw[hij];have hj0:(0:Int)≤(j:Int):=Int.natCast_nonneg _;have hjn:(j:Int)<(n:Int):=by omega
   have hjw:IntKind.i64.wrap ((j:Int)-1)=(j:Int)-1:=IntWalk.i64_in _ (by omega);obtain⟨a5,c5,rfl,hR5⟩:=hR;have hRl:(D10.limbs R).length≤20000:=qbm (Nat.le_of_lt hpre.out.1) (qbm (show Y≤10*Y by omega) HY0.out.2.1);have HRv:=hI (D10.qai R);have HRd:=hI (D10.qal R);generalize D10.limbs R=lr at*;generalize hrl:lr.length=r5 at*;have HRs:=hI hR5;have Hbw:=hI hbw;have HO:=hI hO;clear hdk hij hR5 hbw hO hrl
   go_wp2_with (first
    |(at_builtin;refine qwq rfl _ _ rfl wr.heap.size wr.heap.size d a5 r5 c5 lr rfl rfl (qlk wr _ _) (HRs.out.mono (qac wr _)) (by omega) (qac wr _).size ?_;intro g5 c6 w5 hown5 hg5;have Hb5:=hI (qh3 (Hbw.out.via (qac wr (.cells #[.int .i64 (d:Int)] 3)) Hbw.out.size) (qlk wr 3 (.int .i64 (d:Int))) (Nat.le_trans Hbw.out.size (Nat.le_refl _)) (Nat.le_trans Hbw.out.size (qac wr _).size) hg5);have Hb5':=hI (qh3 (qac wr (.cells #[.int .i64 (d:Int)] 3)) (qlk wr 3 (.int .i64 (d:Int))) (Nat.le_refl _) (qac wr _).size hg5);have Hown5:=hI hown5;clear hown5 hg5)
    |(go_at_call 157;refine(qps _ _ _ (d::lr) _ (Ds.own Hown5.out) (fun x hx=>by rcases List.mem_cons.1 hx with rfl|hx;exact hd10;exact HRd.out x hx)).mono ?_;rintro e w6 ⟨v6,rfl,hv6,hb6⟩;have HV6:=hI hv6;have Hb6:=hI (Hb5.out.via hb6 Hb5.out.size);have HO6:=hI ((HO.out.below Hb5'.out).below hb6);clear hv6 hb6))
   have hP:D10.natL (d::lr)=d+10*R:=by rw[D10.natL,HRv.out]
   rw[hP]at HV6;have hO6:=HO6.out;rw[List.replicate_succ',List.append_assoc]at hO6;have HO7:=hI (show OI w.heap.size w6 gq (List.replicate j 0++(0::qs))from hO6);obtain⟨P,hPP⟩:∃P,d+10*R=P:=⟨_,rfl⟩
   rw[hPP]at HV6;have HPy:=hI (show P<10*Y by have:=hpre.out.1;omega);have HPd:=hI hPP;clear hP hO6 HO6 hPP c0
   go_loopg [8] P (fun gk rv wz=>∃t,DgV wz rv gk∧Below w2.heap.size w2 wz∧OI w.heap.size wz gq (List.replicate j 0++(t::qs))∧t≤9∧Hid (t*Y+gk=P))
   case atStart=>exact⟨0,HV6.out,Hb6.out,HO7.out,by decide,by rw[Nat.zero_mul,Nat.zero_add];exact rfl⟩
   case round=>
    clear HV6 Hb6 HO7
    rename World=>wz
    obtain⟨t,hv,hb,ho,ht,hinv⟩:=hrel;have HOr:=hI (qg1 _ _ gk Y wz hv (HVB.out.mono hb))
    by_cases hle:Y≤gk
    ·have hc:=qfh hle
     generalize cmpN gk Y=cc at*;have Hmi:=hI (fun w' (hx:Below wz.heap.size wz w')=>qi4 _ _ gk Y w' (hv.mono hx) ((HVB.out.mono hb).mono hx) hle (qbm (show gk≤10*Y by have:=HPy.out;have:=hinv.out;omega) HY0.out.2.1))
     have ht9:t+1≤9:=by
      have h1:(t+1)*Y<10*Y:=by
       rw[Nat.add_mul,Nat.one_mul];have:=HPy.out;have:=hinv.out
       omega
      have:=Nat.lt_of_mul_lt_mul_right h1
      omega
     have htw:IntKind.i64.wrap ((t:Int)+1)=((t+1:Nat):Int):=(IntWalk.i64_in _ (by omega)).trans (by omega);have Hb:=hI hb;have Ho:=hI ho;have Hle:=hI hle;clear hv hb ho hle
     go_wp2_with (first
      |(go_at_call 121;refine(HOr.out).mono ?_;rintro e w7 ⟨rfl,hb7⟩;have Hb7:=hI hb7.1;clear hb7)
      |(go_at_call 139;refine(Hmi.out _ Hb7.out).mono ?_;rintro e w8 ⟨v8,rfl,⟨hv8,hfr8⟩,hb8⟩;have Hfr8:=hI hfr8;have Hb8:=hI (qaa Hb7.out hb8);have HV8:=hI hv8;obtain⟨k0,k1⟩:=(Ho.out.below Hb8.out).low;have Ho8:=hI ((Ho.out.below Hb8.out).setLow (t+1));clear hv8 hb8 hfr8))
     go_roundg (gk-Y)
     case measure=>have:=HY0.out.1;have:=Hle.out;omega
     case rel=>
      refine⟨t+1,?_,?_,?_,ht9,?_⟩
      ·exact HV8.out.set Hfr8.out (Nat.lt_of_lt_of_le Ho.out.lt Hb7.out.size) _
      ·exact(Hb.out.via Hb8.out Hb.out.size).setCell (p:=⟨gq,j,none⟩) (Nat.le_of_eq Hgq.out) _
      ·exact Ho8.out
      ·exact qwg hinv.out (by have:=Hle.out;omega)
    ·have hc:=qh1 (show gk<Y by omega)
     generalize cmpN gk Y=cc at*;have HV:=hI hv;have Hb:=hI hb;have Ho:=hI ho;have Hgk:=hI (show gk<Y by omega);clear hv hb ho hle
     go_wp2_with (go_at_call 121;refine(HOr.out).mono ?_;rintro e w7 ⟨rfl,hb7⟩;have Hb7:=hI hb7.1;clear hb7)
     go_roundw
     case rel=>
      refine⟨j,gk,t::qs,by omega,rfl,HV.out.mono Hb7.out,Hb.out.via Hb7.out Hb.out.size,Ho.out.below Hb7.out,Hgk.out,by rw[List.length_cons,hpre.out.2.1];omega,?_,?_⟩
      ·intro x hx
       rcases List.mem_cons.1 hx with rfl|hx
       ·omega
       ·exact hpre.out.2.2.1 x hx
      ·rw[Hdk.out,←hpre.out.2.2.2,D10.natL,Nat.add_mul,Nat.mul_assoc,Nat.mul_add]
       have h1:=hinv.out;have h2:=HPd.out
       omega
     case measure=>simp[intOf]<;>omega
theorem qk5(X Y:Nat)(w:World)(hX:qbe X)(hY10:qbe (10*Y))(h0:0<Y):Calls Tryz.prog 119 #[.string ⟨(txtN false X).toArray⟩,.string ⟨(txtN false Y).toArray⟩] w (Ret (.tuple #[.string ⟨(txtN false (X/Y)).toArray⟩,.string ⟨(txtN false (X%Y)).toArray⟩]) w):=qjz false X Y w hX hY10 h0 (fun h=>by cases h)
theorem qfl(N:Int)(g:Nat)(w:World)(hX:qbe N.natAbs)(hg:qbe (10*g))(h0:0<g)(hd:(g:Int)∣N):Calls Tryz.prog 119 #[.string ⟨(txtZ N).toArray⟩,.string ⟨(txtN false g).toArray⟩] w (Ret (.tuple #[.string ⟨(txtZ (N/(g:Int))).toArray⟩,.string ⟨#[48]⟩]) w):=by
 obtain⟨q,rfl⟩:=hd;have hgi:(0:Int)<(g:Int):=by omega
 have h1:((g:Int)*q).natAbs=g*q.natAbs:=by rw[Int.natAbs_mul,Int.natAbs_natCast]
 have h2:decide ((g:Int)*q<0)=decide (q<0):=by
  rw[decide_eq_decide]
  constructor
  ·intro h
   rcases(show q<0∨0≤q by omega)with h3|h3
   ·exact h3
   ·exact absurd (Int.mul_nonneg (Int.le_of_lt hgi) h3) (by omega)
  ·intro h;exact Int.mul_neg_of_pos_of_neg hgi h
 have h:=qjz (decide (q<0)) ((g:Int)*q).natAbs g w hX hg h0 (fun h=>by
  rw[decide_eq_true_eq]at h;rw[h1]
  exact⟨Nat.ne_of_gt (Nat.mul_pos h0 (by omega)),Nat.mul_mod_right _ _⟩)
 rw[h1,Nat.mul_div_cancel_left _ h0,Nat.mul_mod_right]at h;rw[Int.mul_ediv_cancel_left _ (by omega)];unfold txtZ;rw[h1,h2];rw[show(txtN (decide (q<0)) 0)=[48]from by unfold txtN txtD;rw[D10.qah,if_pos rfl]]at h;exact h
theorem qdv:txtN false 0=[48]:=qc2▸(qa3 0).symm
theorem quz{n:Nat}(h:n≠0):((⟨(txtN false n).toArray⟩:ByteArray).toList==[48])=false:=by
 rw[ByteArray.toList_eq,beq_eq_false_iff_ne]
 show ¬txtN false n=[48]
 rw[←qa3];obtain⟨c,rr,ht,-,hp⟩:=qeh (z:=(n:Int)) (by omega);rw[ht];intro e;exact(hp (by omega)).2 (List.cons.inj e).1
set_option maxRecDepth 100000 in
theorem qit(neg neg':Bool)(X Y:Nat)(w:World)(hX:qbe X)(hY:qbe (10*Y)):Calls Tryz.prog 69 #[.string ⟨(txtN neg X).toArray⟩,.string ⟨(txtN neg' Y).toArray⟩] w (Ret (.string ⟨(txtN false (Nat.gcd X Y)).toArray⟩) w):=by
 have hY1:qbe Y:=qbm (by omega) hY;have HD1:=hI (fun w'=>qbf neg X w' hX);have HD2:=hI (fun w'=>qbf neg' Y w' hY1);have HT1:=hI (fun w' v (h:DgV w' v X)=>qfb false X v w' h hX);have HT2:=hI (fun w' v (h:DgV w' v Y)=>qfb false Y v w' h hY1);have HF:=hI (And.intro hX hY);generalize(⟨(txtN neg X).toArray⟩:ByteArray)=SX at*;generalize(⟨(txtN neg' Y).toArray⟩:ByteArray)=SY at*;obtain⟨G,hG⟩:∃G,Nat.gcd X Y=G:=⟨_,rfl⟩
 rw[hG];have HG:=hI hG;clear hX hY hY1 hG
 go_enter Tryz.func69,Tryz.ntmps69
 go_wp2_with (first
  |(have _t:=HV3;clear _t;go_at_call 117;refine(HT2.out _ _ HV3.out).mono ?_;rintro e w4 ⟨rfl,hb4⟩;have Hb4:=hI (qaa Hb3.out hb4);clear hb4)
  |(have _t:=Hb2;clear _t;go_at_call 118;refine(HD2.out _).mono ?_;rintro e w3 ⟨v3,rfl,hv3,hb3⟩;have HV3:=hI hv3;have Hb3:=hI (qaa Hb2.out hb3);clear hv3 hb3)
  |(go_at_call 117;refine(HT1.out _ _ HV1.out).mono ?_;rintro e w2 ⟨rfl,hb2⟩;have Hb2:=hI (qaa Hb1.out hb2);clear hb2)
  |(go_at_call 118;refine(HD1.out _).mono ?_;rintro e w1 ⟨v1,rfl,hv1,hb1⟩;have HV1:=hI hv1;have Hb1:=hI hb1;clear hv1 hb1))
 clear HD1 HD2 HT1 HT2
 go_loopg [5,6] Y (fun gk u v wr=>∃N,u=.string ⟨(txtN false N).toArray⟩∧v=.string ⟨(txtN false gk).toArray⟩∧qbe N∧qbe (10*gk)∧Below w.heap.size w wr∧Hid (Nat.gcd N gk=G))
 case atStart=>exact⟨X,rfl,rfl,HF.out.1,HF.out.2,Hb4.out,HG.out⟩
 case round=>
  obtain⟨N,rfl,rfl,hN,hgk,hb,hg⟩:=hrel
  by_cases h0:gk=0
  ·subst h0
   rw[qdv];have he:Nat.gcd N 0=N:=Nat.gcd_zero_right N;have Hfin:=hI (show(⟨(txtN false G).toArray⟩:ByteArray)=⟨(txtN false N).toArray⟩by rw[←hg.out,he]);have Hb:=hI hb;clear hN hgk hb hg he;generalize(⟨(txtN false N).toArray⟩:ByteArray)=SN at*
   go_wp2_with fail
   go_ret
   exact⟨by rw[Hfin.out];rfl,Hb.out⟩
  ·have hne:=quz h0
   have hne2:((⟨(txtN false gk).toArray⟩:ByteArray).toList !=[48])=true:=by rw[bne,hne];rfl
   have HDM:=hI (qk5 N gk wr hN hgk (by omega));have Hb:=hI hb;have Hgk:=hI (And.intro h0 hgk);clear hb hgk h0 hN;generalize hSN:(⟨(txtN false N).toArray⟩:ByteArray)=SN at*;generalize hSG:(⟨(txtN false gk).toArray⟩:ByteArray)=SG at*;have HSG:=hI hSG;clear hSN hSG
   go_wp2_with (go_at_call 119;refine(HDM.out).mono ?_;rintro e w5 ⟨rfl,hb5⟩)
   go_roundg (N%gk)
   case measure=>exact Nat.mod_lt _ (by have:=Hgk.out.1;omega)
   case rel=>
    refine⟨gk,by rw[HSG.out],rfl,qbm (by omega) Hgk.out.2,qbm (Nat.mul_le_mul_left _ (Nat.le_of_lt (Nat.mod_lt _ (by have:=Hgk.out.1;omega)))) Hgk.out.2,Hb.out.via hb5 Hb.out.size,?_⟩
    unfold Hid;rw[←hg.out,Nat.gcd_comm N gk,Nat.gcd_rec gk N,Nat.gcd_comm]
end Go.Proofs.YtacihodamichhaaGreatDoor
namespace Go.Proofs.YtacihodamichhaaGreatDoor
open Go.RowKit
def denT(l:List UInt8):List UInt8:=if divB l then botL l else[49]
def errR(l:List UInt8):Int:=
 if !digB (absL (topL l))||!digB (denT l)then 14
 else if zerB (denT l)then 19
 else if(decide (1<(absL (topL l)).length)&&(absL (topL l)).head?==some 48)||topL l==[45,48]||(denT l).head?==some 48 then 3
 else if divB l&&(denT l==[49]||Nat.gcd (valD (absL (topL l))) (valD (denT l))!=1)then 3
 else 0
theorem qpa(c:UInt8)(l:List UInt8):valD (c::l)=dv c*10^l.length+valD l:=by
 have:=qdd [c] l
 simpa[valD,qdu,qeu]using this
theorem quu{d:List UInt8}(h:AllD d)(hh:d.head?≠some 48)(h1:valD d=1):d=[49]:=by
 cases d with
 |nil=>exact absurd h1 (by decide)
 |cons c l=>
  have hc:=qci.1 (h c (by simp));have hne:c≠48:=fun e=>hh (by rw[e];rfl)
  have hd:1≤dv c:=by
   unfold dv;rcases Nat.lt_or_ge 48 c.toNat with h2|h2
   ·omega
   ·exact absurd (UInt8.toNat_inj.1 (by have:(48:UInt8).toNat=48:=rfl;omega)) hne
  rw[qpa]at h1;cases l with
  |nil=>
   simp only[List.length_nil,Nat.pow_zero,Nat.mul_one]at h1;have h0:valD []=0:=rfl;rw[h0]at h1;have h3:c=49:=UInt8.toNat_inj.1 (by unfold dv at h1;have:(49:UInt8).toNat=49:=rfl;omega);rw[h3]
  |cons a r=>
   exfalso
   have h3:10≤10^(a::r).length:=by
    rw[List.length_cons,Nat.pow_succ];have:=Nat.pow_pos (n:=r.length) (show 0<10 by decide)
    omega
   have h4:1*10^(a::r).length≤dv c*10^(a::r).length:=Nat.mul_le_mul_right _ hd
   omega
theorem qua(t:List UInt8):(t==[45,48])=(negB t&&absL t==[48]):=by
 have h:=qfd t;cases hn:negB t with
 |true=>
  rw[hn,if_pos rfl]at h;rw[Bool.true_and]
  conv=>lhs;rw[h]
  rw[Bool.eq_iff_iff,beq_iff_eq,beq_iff_eq];simp
 |false=>
  rw[Bool.false_and,beq_eq_false_iff_ne];rintro rfl;exact absurd hn (by decide)
theorem qse{p:List UInt8}(neg:Bool):((decide (1<p.length)&&p.head?==some 48)||(neg&&p==[48]))=badI p neg:=by
 unfold badI;cases p with
 |nil=>cases neg<;>rfl
 |cons c r=>
  by_cases hc:c=48
  ·subst hc
   cases r<;>cases neg<;>simp
  ·have hb:(c==48)=false:=by rw[beq_eq_false_iff_ne];exact hc
   simp[hb]
theorem qf3{b:List UInt8}(h:digB b=true)(hz:zerB b=false):(b.head?==some 48)=badI b false:=by
 unfold badI;cases b with
 |nil=>rfl
 |cons c r=>
  by_cases hc:c=48
  ·subst hc
   cases r with
   |nil=>exact absurd hz (by decide)
   |cons a s=>simp
  ·simp[hc]
theorem qrk(l:List UInt8):errR l=errL l:=by
 unfold errR errL denT;rw[qua]
 by_cases h1:digB (absL (topL l))=true
 ·by_cases h2:divB l=true
  ·rw[if_pos h2]
   by_cases h3:digB (botL l)=true
   ·by_cases h4:zerB (botL l)=true
    ·simp[h1,h2,h3,h4]
    ·simp only[Bool.not_eq_true]at h4
     rw[qf3 h3 h4,qse]
     by_cases h5:badI (absL (topL l)) (negB (topL l))=true
     ·simp[h1,h2,h3,h4,h5]
     ·simp only[Bool.not_eq_true]at h5
      by_cases h6:badI (botL l) false=true
      ·simp[h1,h2,h3,h4,h5,h6]
      ·simp only[Bool.not_eq_true]at h6
       have hh:(botL l).head?≠some 48:=by
        have:=qf3 h3 h4;rw[h6,beq_eq_false_iff_ne]at this;exact this
       have h7:(botL l==[49])=(valD (botL l)==1):=by
        rw[Bool.eq_iff_iff,beq_iff_eq,beq_iff_eq];exact⟨fun e=>by rw[e];rfl,fun e=>quu (qan.1 h3).2 hh e⟩
       rw[h7];simp[h1,h2,h3,h4,h5,h6]
   ·simp only[Bool.not_eq_true]at h3
    simp[h1,h2,h3]
  ·simp only[Bool.not_eq_true]at h2
   rw[h2];simp only[Bool.false_eq_true,if_false,Bool.false_and,Bool.or_false];have e1:digB [49]=true:=by decide
   have e2:zerB [49]=false:=by decide
   have e3:(([49]:List UInt8).head?==some 48)=false:=by decide
   rw[e1,e2,e3];simp only[Bool.or_false,qse];simp[h1]
 ·simp only[Bool.not_eq_true]at h1
  simp[h1]
end Go.Proofs.YtacihodamichhaaGreatDoor
