/- Parts of the proof. -/
import Derived.Test.YtacihodamichhaaGreatDoorU46
set_option maxHeartbeats 8000000
namespace Go.Proofs.YtacihodamichhaaGreatDoor
open Go.RowKit
theorem qoh(N:Int)(D:Nat)(w:World)(hD:0<D)(hn:qbe N.natAbs)(hd:qbe (10*D)):Calls Tryz.prog 104 #[.string ⟨(txtZ (-N)).toArray⟩,.string ⟨(txtZ (-(D:Int))).toArray⟩] w (Ret (.string ⟨(txtR (mkRat N D)).toArray⟩) w):=by
 have hd1:qbe D:=qbm (by omega) hd;have hgp:0<Nat.gcd N.natAbs D:=Nat.gcd_pos_of_pos_right _ hD;have hgD:Nat.gcd N.natAbs D∣D:=Nat.gcd_dvd_right _ _;have hgN:((Nat.gcd N.natAbs D:Nat):Int)∣N:=Int.ofNat_dvd_left.2 (Nat.gcd_dvd_left _ _);have hgf:qbe (10*Nat.gcd N.natAbs D):=qbm (Nat.mul_le_mul_left _ (Nat.le_of_dvd hD hgD)) hd;have H1:=hI (fun w'=>qbu (-(D:Int)) w');rw[Int.sign_eq_neg_one_of_neg (show -(D:Int)<0 by omega)]at H1;have HA:=hI (fun w'=>qis (-N) w' (by rw[Int.natAbs_neg];exact hn));rw[Int.neg_neg]at HA;have HB:=hI (fun w'=>qis (-(D:Int)) w' (by rw[Int.natAbs_neg,Int.natAbs_natCast];exact hd1));rw[Int.neg_neg]at HB;have H2:=hI (fun w'=>qit (decide (N<0)) false N.natAbs D w' hn hd);rw[←qa3 D]at H2
 change Hid (∀w',Calls Tryz.prog 69 #[.string ⟨(txtZ N).toArray⟩,.string ⟨(txtZ (D:Int)).toArray⟩] w' _)at H2
 have H3:=hI (fun w'=>qfl N (Nat.gcd N.natAbs D) w' hn hgf hgp hgN);have H4:=hI (fun w'=>qfl (D:Int) (Nat.gcd N.natAbs D) w' (by rw[Int.natAbs_natCast];exact hd1) hgf hgp (Int.natCast_dvd_natCast.2 hgD));obtain⟨p1,p2⟩:=qhp N hD;have e4:(D:Int)/((Nat.gcd N.natAbs D:Nat):Int)=((mkRat N D).den:Int):=by rw[p2,Int.natCast_ediv]
 rw[e4]at H4;rw[←p1]at H3
 have hs1:(⟨(txtZ (mkRat N D).num).toArray⟩:ByteArray).size≤20002:=qev (by
  rw[p1]
  exact qbm (Int.natAbs_ediv_le_natAbs _ _) hn)
 have hs2:(⟨(txtZ ((mkRat N D).den:Int)).toArray⟩:ByteArray).size≤20002:=qev (by
  rw[p2,Int.natAbs_natCast]
  exact qbm (Nat.div_le_self _ _) hd1)
 by_cases h1:(mkRat N D).den=1
 ·rw[qce h1]
  rw[h1]at H4;rw[show(((1:Nat):Int))=1 from rfl,qfn]at H4;generalize(⟨(txtZ (mkRat N D).num).toArray⟩:ByteArray)=R at*;generalize(⟨(txtZ (-N)).toArray⟩:ByteArray)=TN at*;generalize(⟨(txtZ (-(D:Int))).toArray⟩:ByteArray)=TD at*;generalize(⟨(txtZ N).toArray⟩:ByteArray)=SN at*;generalize(⟨(txtZ (D:Int)).toArray⟩:ByteArray)=SD at*;generalize(⟨(txtN false (Nat.gcd N.natAbs D)).toArray⟩:ByteArray)=G at*;clear hD hn hd hd1 hgp hgD hgN hgf p1 p2 e4 hs1 hs2 h1
  go_enter Tryz.func104,Tryz.ntmps104
  go_wp2_with (first
   |(go_at_call 120;refine(H1.out _).mono ?_;rintro e w1 ⟨rfl,hb1⟩;have Hb1:=hI hb1;clear hb1)
   |(have _t:=Hb2;clear _t;go_at_call 106;refine(HB.out _).mono ?_;rintro e w3 ⟨rfl,hb3⟩;have Hb3:=hI (qaa Hb2.out hb3);clear hb3)
   |(have _t:=Hb1;clear _t;go_at_call 106;refine(HA.out _).mono ?_;rintro e w2 ⟨rfl,hb2⟩;have Hb2:=hI (qaa Hb1.out hb2);clear hb2)
   |(go_at_call 69;refine(H2.out _).mono ?_;rintro e w4 ⟨rfl,hb4⟩;have Hb4:=hI (qaa Hb3.out hb4);clear hb4)
   |(have _t:=Hb5;clear _t;go_at_call 119;refine(H4.out _).mono ?_;rintro e w6 ⟨rfl,hb6⟩;have Hb6:=hI (qaa Hb5.out hb6);clear hb6)
   |(have _t:=Hb4;clear _t;go_at_call 119;refine(H3.out _).mono ?_;rintro e w5 ⟨rfl,hb5⟩;have Hb5:=hI (qaa Hb4.out hb5);clear hb5))
  go_ret
  exact⟨rfl,Hb6.out⟩
 ·rw[qcz h1,←qk9]
  have hne:((⟨(txtZ ((mkRat N D).den:Int)).toArray⟩:ByteArray).toList==[49])=false:=by
   rw[ByteArray.toList_eq,beq_eq_false_iff_ne]
   show ¬txtZ ((mkRat N D).den:Int)=[49]
   rw[←qfn];intro e;have:=qmc e
   omega
  have hcat:¬9223372036854775807<(⟨(txtZ (mkRat N D).num).toArray⟩:ByteArray).size+1:=by omega
  have hcat2:¬9223372036854775807<(⟨(txtZ (mkRat N D).num).toArray⟩:ByteArray).size+1+(⟨(txtZ ((mkRat N D).den:Int)).toArray⟩:ByteArray).size:=by omega
  generalize(⟨(txtZ (mkRat N D).num).toArray⟩:ByteArray)=R at*;generalize(⟨(txtZ ((mkRat N D).den:Int)).toArray⟩:ByteArray)=E at*;generalize(⟨(txtZ (-N)).toArray⟩:ByteArray)=TN at*;generalize(⟨(txtZ (-(D:Int))).toArray⟩:ByteArray)=TD at*;generalize(⟨(txtZ N).toArray⟩:ByteArray)=SN at*;generalize(⟨(txtZ (D:Int)).toArray⟩:ByteArray)=SD at*;generalize(⟨(txtN false (Nat.gcd N.natAbs D)).toArray⟩:ByteArray)=G at*;clear hD hn hd hd1 hgp hgD hgN hgf p1 p2 e4 hs1 hs2 h1
  go_enter Tryz.func104,Tryz.ntmps104
  go_wp2_with (first
   |(go_at_call 120;refine(H1.out _).mono ?_;rintro e w1 ⟨rfl,hb1⟩;have Hb1:=hI hb1;clear hb1)
   |(have _t:=Hb2;clear _t;go_at_call 106;refine(HB.out _).mono ?_;rintro e w3 ⟨rfl,hb3⟩;have Hb3:=hI (qaa Hb2.out hb3);clear hb3)
   |(have _t:=Hb1;clear _t;go_at_call 106;refine(HA.out _).mono ?_;rintro e w2 ⟨rfl,hb2⟩;have Hb2:=hI (qaa Hb1.out hb2);clear hb2)
   |(go_at_call 69;refine(H2.out _).mono ?_;rintro e w4 ⟨rfl,hb4⟩;have Hb4:=hI (qaa Hb3.out hb4);clear hb4)
   |(have _t:=Hb5;clear _t;go_at_call 119;refine(H4.out _).mono ?_;rintro e w6 ⟨rfl,hb6⟩;have Hb6:=hI (qaa Hb5.out hb6);clear hb6)
   |(have _t:=Hb4;clear _t;go_at_call 119;refine(H3.out _).mono ?_;rintro e w5 ⟨rfl,hb5⟩;have Hb5:=hI (qaa Hb4.out hb5);clear hb5))
  go_ret
  exact⟨rfl,Hb6.out⟩
theorem qp4(r s:Rat)(k l:Nat)(w:World)(h:Sz k r)(h':Sz l s)(hk:k+l≤9000)(hs:s<0):Calls Tryz.prog 48 #[.string ⟨(txtR r).toArray⟩,.string ⟨(txtR s).toArray⟩] w (Ret (.string ⟨(txtR (r/s)).toArray⟩) w):=by
 have H1:=hI (fun w'=>qc1 r w' (Nat.le_trans (qb9 h) (by omega)));have H2:=hI (fun w'=>qc1 s w' (Nat.le_trans (qb9 h') (by omega)));have a1:=Nat.le_trans (qat h.1) (show k≤10000 by omega);have a2:=Nat.le_trans (qat (N:=(r.den:Int).natAbs) (by rw[Int.natAbs_natCast];exact h.2)) (show k≤10000 by omega);have b1:=Nat.le_trans (qat h'.1) (show l≤10000 by omega);have b2:=Nat.le_trans (qat (N:=(s.den:Int).natAbs) (by rw[Int.natAbs_natCast];exact h'.2)) (show l≤10000 by omega);have H3:=hI (fun w'=>qcq r.num (s.den:Int) w' a1 b2);have m1:=qd7 h.1 h'.2;have m3:=qd7 h.2 h'.1;have H6:=hI (fun w'=>qcq (r.den:Int) s.num w' a2 b1);have hs1:s.num<0:=by have h:=(Rat.lt_iff _ _).1 hs;simpa using h
 have hsn:(s.num.natAbs:Int)=-s.num:=by omega
 have hs0:s.num.natAbs≠0:=by omega
 have H7:=hI (fun w'=>qoh (-(r.num*(s.den:Int))) (r.den*s.num.natAbs) w' (Nat.mul_pos r.den_pos (by omega)) (qb1 (k:=k+l) (by rw[Int.natAbs_neg,Int.natAbs_mul,Int.natAbs_natCast];exact m1) (by omega)) (qg9 m3 (by omega)))
 have hq:mkRat (-(r.num*(s.den:Int))) (r.den*s.num.natAbs)=r/s:=by
  have h1:=qdy (r:=-r) (s:=-s) (by rw[Rat.lt_neg_iff,Rat.neg_zero];exact hs);rw[show -r/ -s=r/s from by rw[Rat.div_def,Rat.div_def,Rat.inv_eq_of_mul_eq_one (a:=-s) (b:=-s⁻¹) (by rw[Rat.neg_mul,Rat.mul_neg,Rat.neg_neg,Rat.mul_inv_cancel s (Rat.ne_of_lt hs)]),Rat.neg_mul,Rat.mul_neg,Rat.neg_neg]]at h1;rw[h1,Rat.neg_num,Rat.neg_num,Rat.neg_den,Rat.neg_den,Int.natAbs_neg,Int.neg_mul]
 rw[hq,Int.neg_neg,Int.natCast_mul,hsn,Int.mul_neg,Int.neg_neg]at H7;clear hq hs1;clear m1 m3 hsn hs0;generalize(⟨(txtR r).toArray⟩:ByteArray)=X at*;generalize(⟨(txtR s).toArray⟩:ByteArray)=Y at*;generalize(⟨(txtR (r/s)).toArray⟩:ByteArray)=Z at*;generalize(⟨(txtZ (r.num*(s.den:Int))).toArray⟩:ByteArray)=T1 at*;generalize(⟨(txtZ ((r.den:Int)*s.num)).toArray⟩:ByteArray)=T3 at*;generalize(⟨(txtZ (r.num)).toArray⟩:ByteArray)=N1 at*;generalize(⟨(txtZ (s.num)).toArray⟩:ByteArray)=N2 at*;generalize(⟨(txtZ ((r.den:Int))).toArray⟩:ByteArray)=D1 at*;generalize(⟨(txtZ ((s.den:Int))).toArray⟩:ByteArray)=D2 at*;clear h h' a1 a2 b1 b2 hs
 go_enter Tryz.func48,Tryz.ntmps48
 go_wp2_with (first
  |(go_at_call 104;refine(H7.out _).mono ?_;rintro e w5 ⟨rfl,hb5⟩;have Hb5:=hI (qaa Hb4.out hb5);clear hb5)
  |(have _t:=Hb3;clear _t;go_at_call 71;refine(H6.out _).mono ?_;rintro e w4 ⟨rfl,hb4⟩;have Hb4:=hI (qaa Hb3.out hb4);clear hb4)
  |(go_at_call 71;refine(H3.out _).mono ?_;rintro e w3 ⟨rfl,hb3⟩;have Hb3:=hI (qaa Hb2.out hb3);clear hb3)
  |(have _t:=Hb1;clear _t;go_at_call 65;refine(H2.out _).mono ?_;rintro e w2 ⟨rfl,hb2⟩;have Hb2:=hI (qaa Hb1.out hb2);clear hb2)
  |(go_at_call 65;refine(H1.out _).mono ?_;rintro e w1 ⟨rfl,hb1⟩;have Hb1:=hI (hb1);clear hb1))
 go_ret
 exact⟨rfl,Hb5.out⟩
theorem qj9(r s:Rat)(k l:Nat)(w:World)(h:Sz k r)(h':Sz l s)(hk:k+l≤9000)(hs:s≠0):Calls Tryz.prog 48 #[.string ⟨(txtR r).toArray⟩,.string ⟨(txtR s).toArray⟩] w (Ret (.string ⟨(txtR (r/s)).toArray⟩) w):=by
 by_cases hn:s<0
 ·exact qp4 r s k l w h h' hk hn
 ·exact qms r s k l w h h' hk (Rat.lt_of_le_of_ne (Rat.not_lt.1 hn) (Ne.symm hs))
set_option maxRecDepth 10000 in
theorem qo5(N:Nat)(w:World)(hN:N<10^12):Calls Tryz.prog 105 #[.int .i64 (N:Int)] w (Ret (.string ⟨(txtZ (N:Int)).toArray⟩) w):=by
 have HN:=hI (fun W:World=>World.ownsRow_nil W w.heap.size 3 1);have hnn:¬(N:Int)<0:=by omega
 have HT:=hI (fun w' v (h:DgV w' v N)=>show Calls Tryz.prog 117 #[.bool false,v] w' (Ret (.string ⟨(txtZ (N:Int)).toArray⟩) w')from by
  have h:=qfb false N v w' h (qb1 hN (by decide))
  rwa [show txtN false N=txtZ (N:Int)from(qa3 N).symm]at h)
 have Hlb:=hI (qat hN);have hN':N<1000000000000:=by simpa using hN
 generalize(⟨(txtZ (N:Int)).toArray⟩:ByteArray)=D at*;clear hN
 go_enter Tryz.func105,Tryz.ntmps105
 go_wp2_with fail
 go_loopw [4,3,5] (fun m out _ wr=>∃(k M:Nat) (d:List Nat),m=.int .i64 (M:Int)∧Below w.heap.size w wr∧wr.ownsRow w.heap.size 3 1 out k ((qb4 d).map (Value.int .i64))∧M<1000000000000∧Hid (D10.limbs N=d++D10.limbs M∧d.length=k)) (fun m _ _ _=>(intOf m).natAbs)
 case atStart=>exact⟨0,N,[],rfl,Below.refl _ _,HN.out _,hN',rfl,rfl⟩
 case round=>
  obtain⟨k,M,d,rfl,hbw,hown,hM12,hinv⟩:=hrel
  have hk3:k≤12:=by
   have h1:=congrArg List.length hinv.out.1;rw[List.length_append,hinv.out.2]at h1;have:=Hlb.out
   omega
  have Hown:=hI hown;have Hbw:=hI hbw;have Hinv:=hI hinv.out;clear hown hbw hinv
  by_cases hM:M=0
  ·subst hM
   obtain⟨ao,co,rfl,-,-⟩:=qas Hown.out;have hIv:Ints wr (.slice ao k co) (qb4 d):=Sl.own1 Hown.out;have hd:D10.limbs N=d:=by rw[Hinv.out.1,D10.qah,List.append_nil]
   have HT':=hI (HT.out wr (.slice ao k co) ⟨ao,co,by rw[hd,Hinv.out.2],by rw[hd,Hinv.out.2];exact hIv⟩);clear hIv hd
   go_wp2_with (go_at_call 117;refine(HT'.out).mono ?_;rintro e w1 ⟨rfl,hb1⟩)
   go_ret
   exact⟨rfl,Hbw.out.via hb1 Hbw.out.size⟩
  ·have hM0:((M:Int)!=0)=true:=by rw[bne_iff_ne];omega
   obtain⟨r,hr⟩:∃r,M%10=r:=⟨_,rfl⟩
   obtain⟨q,hq⟩:∃q,M/10=q:=⟨_,rfl⟩
   have hr9:r<10:=by omega
   have hr1:(M:Int).tmod 10=(r:Int):=by rw[←hr];rfl
   have hq1:(M:Int).tdiv 10=(q:Int):=by rw[←hq];rfl
   have Hst:=hI (show D10.limbs N=(d++[r])++D10.limbs q∧(d++[r]).length=k+1 from by
    refine⟨?_,by rw[List.length_append,Hinv.out.2];rfl⟩
    rw[Hinv.out.1,D10.qbg hM,hr,hq,List.append_assoc]
    rfl)
   have Hds:=hI (show(qb4 d).map (Value.int .i64)++[.int .i64 (r:Int)]=(qb4 (d++[r])).map (Value.int .i64)from by simp[qb4]);have hqw:IntKind.i64.wrap (q:Int)=(q:Int):=IntWalk.i64_in _ (by omega);have hrw:IntKind.i64.wrap (r:Int)=(r:Int):=IntWalk.i64_in _ (by omega);have hqM:q<M:=by omega
   have hq12:q<1000000000000:=by omega
   clear hr hq hM Hinv;have hr0:¬(r:Int)<0:=by omega
   go_wp2_with (at_builtin;refine qcv ED (by decide) [.int .i64 (r:Int)] rfl _ _ rfl w.heap.size _ _ _ rfl rfl Hown.out rfl (one1 _ rfl) (by omega) (by decide) Hbw.out.size ?_;intro v' w5 hown' hg';have Hbw3:=hI (qau Hbw.out Hown.out hg' Hbw.out.size);have Hown5:=hI hown';clear hown' hg')
   go_roundw
   case rel=>exact⟨k+1,q,d++[r],rfl,Hbw3.out,by have:=Hown5.out;rw[Hds.out]at this;exact this,hq12,Hst.out⟩
   case measure=>
    simp[intOf]
    omega
set_option maxRecDepth 10000 in
theorem qo6(N:Nat)(w:World)(hN:N<10^12)(h0:0<N):Calls Tryz.prog 105 #[.int .i64 (-(N:Int))] w (Ret (.string ⟨(txtZ (-(N:Int))).toArray⟩) w):=by
 have HN:=hI (fun W:World=>World.ownsRow_nil W w.heap.size 3 1);have hnn:(-(N:Int))<0:=by omega
 have HT:=hI (fun w' v (h:DgV w' v N)=>show Calls Tryz.prog 117 #[.bool true,v] w' (Ret (.string ⟨(txtZ (-(N:Int))).toArray⟩) w')from by
  have h:=qfb true N v w' h (qb1 hN (by decide))
  rwa [show txtN true N=txtZ (-(N:Int))from by unfold txtZ;rw[decide_eq_true (by omega),Int.natAbs_neg,Int.natAbs_natCast]]at h)
 have Hlb:=hI (qat hN);have hN':N<1000000000000:=by simpa using hN
 generalize(⟨(txtZ (-(N:Int))).toArray⟩:ByteArray)=D at*;clear hN
 go_enter Tryz.func105,Tryz.ntmps105
 go_wp2_with fail
 go_loopw [4,3,5] (fun m out _ wr=>∃(k M:Nat) (d:List Nat),m=.int .i64 (-(M:Int))∧Below w.heap.size w wr∧wr.ownsRow w.heap.size 3 1 out k ((qb4 d).map (Value.int .i64))∧M<1000000000000∧Hid (D10.limbs N=d++D10.limbs M∧d.length=k)) (fun m _ _ _=>(intOf m).natAbs)
 case atStart=>exact⟨0,N,[],rfl,Below.refl _ _,HN.out _,hN',rfl,rfl⟩
 case round=>
  obtain⟨k,M,d,rfl,hbw,hown,hM12,hinv⟩:=hrel
  have hk3:k≤12:=by
   have h1:=congrArg List.length hinv.out.1;rw[List.length_append,hinv.out.2]at h1;have:=Hlb.out
   omega
  have Hown:=hI hown;have Hbw:=hI hbw;have Hinv:=hI hinv.out;clear hown hbw hinv
  by_cases hM:M=0
  ·subst hM
   obtain⟨ao,co,rfl,-,-⟩:=qas Hown.out;have hIv:Ints wr (.slice ao k co) (qb4 d):=Sl.own1 Hown.out;have hd:D10.limbs N=d:=by rw[Hinv.out.1,D10.qah,List.append_nil]
   have HT':=hI (HT.out wr (.slice ao k co) ⟨ao,co,by rw[hd,Hinv.out.2],by rw[hd,Hinv.out.2];exact hIv⟩);clear hIv hd
   go_wp2_with (go_at_call 117;refine(HT'.out).mono ?_;rintro e w1 ⟨rfl,hb1⟩)
   go_ret
   exact⟨rfl,Hbw.out.via hb1 Hbw.out.size⟩
  ·have hM0:((-(M:Int))!=0)=true:=by rw[bne_iff_ne];omega
   obtain⟨r,hr⟩:∃r,M%10=r:=⟨_,rfl⟩
   obtain⟨q,hq⟩:∃q,M/10=q:=⟨_,rfl⟩
   have hr9:r<10:=by omega
   have hr1:(-(M:Int)).tmod 10=(-(r:Int)):=by rw[Int.neg_tmod,←hr];rfl
   have hq1:(-(M:Int)).tdiv 10=(-(q:Int)):=by rw[Int.neg_tdiv,←hq];rfl
   have Hst:=hI (show D10.limbs N=(d++[r])++D10.limbs q∧(d++[r]).length=k+1 from by
    refine⟨?_,by rw[List.length_append,Hinv.out.2];rfl⟩
    rw[Hinv.out.1,D10.qbg hM,hr,hq,List.append_assoc]
    rfl)
   have Hds:=hI (show(qb4 d).map (Value.int .i64)++[.int .i64 (r:Int)]=(qb4 (d++[r])).map (Value.int .i64)from by simp[qb4]);have hqw:IntKind.i64.wrap (-(q:Int))=(-(q:Int)):=IntWalk.i64_in _ (by omega);have hrw:IntKind.i64.wrap (-(r:Int))=(-(r:Int)):=IntWalk.i64_in _ (by omega);have hqM:q<M:=by omega
   have hq12:q<1000000000000:=by omega
   clear hr hq hM Hinv;have hr3:(0:Int)- -(r:Int)=(r:Int):=by omega
   have hrw2:IntKind.i64.wrap (r:Int)=(r:Int):=IntWalk.i64_in _ (by omega);have hrw3:IntKind.i64.wrap (0- -(r:Int))=(r:Int):=by rw[hr3];exact hrw2
   by_cases hr0:r=0
   ·subst hr0
    have hr4:¬ -((0:Nat):Int)<0:=by omega
    have Hds:=hI (show(qb4 d).map (Value.int .i64)++[.int .i64 0]=(qb4 (d++[0])).map (Value.int .i64)from Hds.out)
    go_wp2_with (at_builtin;refine qcv ED (by decide) [.int .i64 0] rfl _ _ rfl w.heap.size _ _ _ rfl rfl Hown.out rfl (one1 _ rfl) (by omega) (by decide) Hbw.out.size ?_;intro v' w5 hown' hg';have Hbw3:=hI (qau Hbw.out Hown.out hg' Hbw.out.size);have Hown5:=hI hown';clear hown' hg')
    go_roundw
    case rel=>exact⟨k+1,q,d++[0],rfl,Hbw3.out,by have:=Hown5.out;rw[Hds.out]at this;exact this,hq12,Hst.out⟩
    case measure=>
     simp[intOf]
     omega
   ·have hr4:-(r:Int)<0:=by omega
    clear hr0
    go_wp2_with (at_builtin;refine qcv ED (by decide) [.int .i64 (r:Int)] rfl _ _ rfl w.heap.size _ _ _ rfl rfl Hown.out rfl (one1 _ rfl) (by omega) (by decide) Hbw.out.size ?_;intro v' w5 hown' hg';have Hbw3:=hI (qau Hbw.out Hown.out hg' Hbw.out.size);have Hown5:=hI hown';clear hown' hg')
    go_roundw
    case rel=>exact⟨k+1,q,d++[r],rfl,Hbw3.out,by have:=Hown5.out;rw[Hds.out]at this;exact this,hq12,Hst.out⟩
    case measure=>
     simp[intOf]
     omega
theorem qo7(z:Int)(w:World)(hz:z.natAbs<10^12):Calls Tryz.prog 105 #[.int .i64 z] w (Ret (.string ⟨(txtZ z).toArray⟩) w):=by
 rcases Int.lt_or_le z 0 with h|h
 ·obtain⟨N,rfl⟩:∃N:Nat,z=-(N:Int):=⟨z.natAbs,by omega⟩
  exact qo6 N w (by simpa using hz) (by omega)
 ·obtain⟨N,rfl⟩:∃N:Nat,z=(N:Int):=⟨z.natAbs,by omega⟩
  exact qo5 N w (by simpa using hz)
theorem qhg(z:Int)(w:World)(hz:z.natAbs<10^12):Calls Tryz.prog 49 #[.int .i64 z] w (Ret (.string ⟨(txtR (z:Rat)).toArray⟩) w):=by
 have H:=hI (fun w'=>qo7 z w' hz);rw[show txtR (z:Rat)=txtZ z from by rw[qce (by rfl)];rfl];generalize(⟨(txtZ z).toArray⟩:ByteArray)=D at*;clear hz
 go_enter Tryz.func49,Tryz.ntmps49
 go_wp2_with (go_at_call 105;refine(H.out _).mono ?_;rintro e w1 ⟨rfl,hb1⟩)
 go_ret
 exact⟨rfl,hb1⟩
end Go.Proofs.YtacihodamichhaaGreatDoor
