/- Parts of the proof. -/
import Derived.Test.YtacihodamichhaaGreatDoorU10
set_option maxHeartbeats 8000000
namespace Go.Proofs.YtacihodamichhaaGreatDoor
open Go.RowKit
theorem Out.eqb{M B F:Nat}{w w':World}{g:Nat}{xs:List Nat}(h:Out M w g xs)(he:Eqb B F w w')(hv:g<B)(hne:g≠F):Out M w' g xs:=qvw h he (fun b hb=>by cases hb;exact⟨hv,hne⟩)
theorem Mid.eqb{g:Nat}{w w':World}(h:Mid g (g+1) w w'):Eqb w.heap.size g w w':=⟨h.size,fun k hk hne=>h.block k hk (by omega)⟩
theorem Mid.low{A A' S:Nat}{w w':World}(h:Mid A S w w')(hA:A'≤A):Mid A' S w w':=⟨h.os,h.tape,h.output,h.size,fun k hk hx=>h.block k hk (by omega)⟩
theorem Out.base{M M':Nat}{w:World}{g:Nat}{xs:List Nat}(h:Out M w g xs)(hB:M'≤M):Out M' w g xs:=qda h hB
theorem Out.lt{M:Nat}{w:World}{g:Nat}{xs:List Nat}(h:Out M w g xs):g<w.heap.size:=(World.ownsRow.lt h g rfl).2
set_option maxRecDepth 100000 in
theorem ql1(a b:Option Addr)(n m c c':Nat)(x y:Nat)(w:World)(hA:Ls w (.slice a n c) (limbs x))(hB:Ls w (.slice b m c') (limbs y))(hle:y≤x)(h2:2≤(limbs y).length)(hn:(limbs x).length<1000000):
  Calls Tryz.prog 173 #[.slice a n c,.slice b m c'] w (fun e w'=>∃q r,e=.returned (.tuple #[q,r])∧MagV w' q (x/y)∧MagV w' r (x%y)∧Below w.heap.size w w'):=by
 have H:=hI (qfv _ _ _ _ _ _ _ _ w hA hB);have hc:=qfh hle;generalize cmpN x y=R at*;have hc2:¬R<0:=by omega
 clear hc
 have hm:(limbs y).length=m:=by
  obtain⟨_,_,hv,_,_⟩:=hB.open;cases hv
  rfl
 have hnn:(limbs x).length=n:=by
  obtain⟨_,_,hv,_,_⟩:=hA.open;cases hv
  rfl
 have hmn:m≤n:=by
  have:=qbx hle
  omega
 obtain⟨m1,hm1⟩:∃m1,m=m1+1:=⟨m-1,by omega⟩
 obtain⟨top,htop⟩:∃top,(limbs y)[m1]?=some top:=⟨(limbs y)[m1]'(by omega),by simp⟩
 have ht32:top<4294967296:=qal y top (List.mem_of_getElem? htop)
 have ht0:top≠0:=by
  refine qgg (n:=y) ?_
  have h:=qha htop
  rwa [List.take_of_length_le (by omega)]at h
 obtain⟨s,hs,hsI,hs1,hs2⟩:=qx2 ht0 ht32;obtain⟨hVl,hVt⟩:=qpk (by rw[hm,hm1]) htop hs1 hs2;rw[←hm1]at hVl hVt;obtain⟨bb,offb,rfl,hbl,hBc⟩:=hB.cells (by omega);have HBc:=hI (fun(w1:World) (h:Below w.heap.size w w1)=>(World.cell?_of_block (h.block bb hbl)).trans (hBc m1 top htop));have HZ:=hI (fun w1:World=>Tryz.bits_lz32 (top:Int) w1 (by omega) (by omega));rw[hsI]at HZ;have HRA:=hI (fun w1 (hb1:Below w.heap.size w w1)=>qii a n c (limbs x) s w1 (hA.mono hb1) (qal x) hn hs);have HRB:=hI (fun w1 (hb1:Below w.heap.size w w1)=>qii (some ⟨bb,offb,none⟩) m c' (limbs y) s w1 (hB.mono hb1) (qal y) (by omega) hs);rw[qai]at HRA HRB;have hi:(Tryz.prog.info? 62).map (fun i=>(i.zero,i.size,i.bytes))=some (some (.int .u32 0),1,4):=by kernel_rfl
 obtain⟨i4,hi4,hz0,hz1,hz2⟩:=info_parts hi;have hw1:IntKind.i64.wrap ((m:Int)-1)=(m1:Int):=(IntWalk.i64_in _ (by omega)).trans (by omega);have hm1i:(m1:Int)<(m:Int):=by omega
 have hmne:¬m=1:=by omega
 have hmnei:¬(m:Int)=1:=by omega
 obtain⟨N,hN⟩:∃N,n=m+N:=⟨n-m,by omega⟩
 have hwN:IntKind.i64.wrap ((n:Int)-(m:Int))=(N:Int):=(IntWalk.i64_in _ (by omega)).trans (by omega);have hwN1:IntKind.i64.wrap ((N:Int)+1)=(N:Int)+1:=IntWalk.i64_in _ (by omega)
 have hy0:0<y:=by
  rcases Nat.eq_zero_or_pos y with h|h
  ·subst h;rw[qah]at h2;simp at h2
  ·exact h
 have hUlt:x*2^s<4294967296^(N+1)*(y*2^s):=by
  rw[←Nat.mul_assoc];refine Nat.mul_lt_mul_of_pos_right ?_ (Nat.two_pow_pos s)
  have h3:=qa7 (qal x);rw[qai,hnn,hN,hm1,Nat.add_assoc,Nat.add_comm m1,Nat.pow_add,Nat.add_comm 1 N]at h3;have h4:=qc3 (n:=y) (by omega);rw[hm,hm1,Nat.add_sub_cancel]at h4;exact Nat.lt_of_lt_of_le h3 (Nat.mul_le_mul_left _ h4)
 have Hpl:=hI (And.intro hVl (And.intro hVt (And.intro hy0 (And.intro hUlt (And.intro hm hnn)))));have Hmm:=hI (And.intro hm1 hN);have hNb:N<1000000:=by omega
 have hn1:n<1000000:=by omega
 have h2m:2≤m:=by omega
 clear hA hB hBc hbl hVl hVt hy0 hUlt hi hs1 hs2 hsI htop ht0 hle hm hnn h2 hn hm1 hN
 go_enter Tryz.func173,Tryz.ntmps173
 go_wp2_with (first
  |(at_make;refine wpList_make_full _ rfl _ _ 73 rfl (w4.heap.size) 62 i4 (.int .u32 0) 1 Tryz.underlying73 hi4 hz0 hz1 .i64 .i64 _ _ (N+1) rfl rfl (by omega) (by omega) (by rw[hz2];omega) (by unfold maxLen;omega) (by simp) ?_;intro w5 hown hg)
  |(go_at_call 143;refine(H.out).mono ?_;rintro e w1 ⟨rfl,hb1⟩;have HB1:=hI hb1;have c0:=HBc.out w1 hb1;clear hb1)
  |(go_at_call 209;refine(HZ.out _).mono ?_;rintro e w1z ⟨rfl,rfl⟩)
  |(have _t:=HB3;clear _t;go_at_call 172;refine(HT3.out).mono ?_;rintro e w4 ⟨rfl,hl4,hb4⟩;have HB4:=hI (HB3.out.via hb4 HB3.out.size);have HL4:=hI (hl4.mono hb4);have HU4:=hI (HU3.out.below hb4);clear hl4 hb4)
  |(have _t:=HB2;clear _t;go_at_call 210;refine(HRB.out _ HB2.out).mono ?_;rintro e w3 ⟨v3,rfl,⟨rfl,es,ho3,hl3,hd3,hn3⟩,hb3⟩;have HT3:=hI (qc0 _ _ _ _ _ (show Ls w3 (.slice (some ⟨w2.heap.size,0,none⟩) (m+1) (m+1)) es from by have h:=ho3.ls;rw[hl3]at h;exact h) hd3);have HB3:=hI (HB2.out.via hb3 HB2.out.size);have HU3:=hI (HU2.out.below hb3);rw[hn3,Hpl.out.1]at HT3;clear ho3 hl3 hd3 hn3 hb3)
  |(go_at_call 210;refine(HRA.out _ HB1.out).mono ?_;rintro e w2 ⟨v2,rfl,⟨rfl,us,ho2,hl2,hd2,hn2⟩,hb2⟩;have HB2:=hI (HB1.out.via hb2 HB1.out.size);have HU2:=hI ho2;have HP2:=hI (And.intro hl2 (And.intro hd2 hn2));clear hl2 hd2 hn2 hb2 ho2))
 have hO:=Out.made hown;have hb5:Below w4.heap.size w4 w5:=(Below.refl _ _).grown hg (Nat.le_refl _) (fun b hb=>by cases hb);have hM1:w.heap.size≤w1z.heap.size:=HB1.out.size;have hU:=(HU4.out.below hb5).base hM1;have hL:=HL4.out.mono hb5;have hB:=HB4.out.via hb5 HB4.out.size;have hguv:w1z.heap.size<w2.heap.size:=HU2.out.lt
 have hgvq:w2.heap.size<w4.heap.size:=by
  obtain⟨p,o,he,hlt,-⟩:=HL4.out.cells (by omega);cases he
  exact hlt
 have hgq:=hO.ge;have hO:=hO.base (show w.heap.size≤w4.heap.size from HB4.out.size);have hup:=HP2.out;have hst:natL (List.replicate (N+1) 0++[])*(y*2^s)+natL us=x*2^s:=by rw[List.append_nil,qcl,Nat.zero_mul,Nat.zero_add];exact hup.2.2
 have hst2:natL us<4294967296^(N+1)*(y*2^s):=by rw[hup.2.2];exact Hpl.out.2.2.2.1
 have hVlt:y*2^s<4294967296^m:=by
  have h:=qa7 (qal (y*2^s))
  rwa [qai,Hpl.out.1]at h
 have HVlt:=hI hVlt;have HV0:=hI (show 0<y*2^s from Nat.mul_pos Hpl.out.2.2.1 (Nat.two_pow_pos s));generalize w1z.heap.size=gu at*;generalize w2.heap.size=gv at*;generalize w4.heap.size=gq at*;have HG:=hI (And.intro hguv (And.intro hgvq hM1));clear hown hg hi4 hz0 hz1 hz2 hb5 hguv hgvq hgq hM1 HB1 HB2 HB3 HB4 HU2 HU3 HU4 HL4 HT3 HP2 HRA HRB HZ HBc H hVlt c0
 go_wp2_with fail
 go_loopw [11] (fun ii wr=>∃(k:Nat) (us qs:List Nat),k≤N+1∧ii=.int .i64 ((k:Int)-1)∧Below w.heap.size w wr∧Out w.heap.size wr gu us∧Ls wr (.slice (some ⟨gv,0,none⟩) m (m+1)) (limbs (y*2^s))∧Out w.heap.size wr gq (List.replicate k 0++qs)∧Hid (us.length=n+1∧Dg us∧qs.length=N+1-k∧Dg qs∧natL us<4294967296^k*(y*2^s)∧natL (List.replicate k 0++qs)*(y*2^s)+natL us=x*2^s)) (fun ii _=>((intOf ii)+1).toNat)
 case atStart=>exact⟨N+1,us,[],Nat.le_refl _,by first|rfl|(congr 1;omega),hB,hU,hL,by rw[List.append_nil];exact hO,hup.1,hup.2.1,by rw[Nat.sub_self];rfl,(fun d hd=>by simp at hd),hst2,hst⟩
 case round=>
  clear hB hU hL hO hup hst hst2;obtain⟨k,us,qs,hk,rfl,hB,hU,hL,hO,hpre⟩:=hrel;rcases k with _|j
  ·rw[List.replicate_zero,List.nil_append]at hO
   have hql:qs.length=N+1:=hpre.out.2.2.1;have hend:=hpre.out.2.2.2.2;rw[List.replicate_zero,List.nil_append,Nat.pow_zero,Nat.one_mul]at hend;obtain⟨e1,e2⟩:=qtg Hpl.out.2.2.1 hend.2 hend.1;have hlq:=hO.ls;rw[hql]at hlq;have HTq:=hI (qc0 _ _ _ _ _ hlq hpre.out.2.2.2.1);rw[e1]at HTq;have hlu:=hU.ls;rw[hpre.out.1]at hlu;have HTu:=hI (fun(w7:World) (hb:Below wr.heap.size wr w7)=>qc0 _ _ _ _ w7 (hlu.mono hb) hpre.out.2.1)
   have hll:(limbs (natL us)).length<1000000:=by
    have h1:=qbx (Nat.le_of_lt hend.1);rw[Hpl.out.1]at h1
    omega
   have HLo:=hI (fun(w8:World) (c8:Nat) (hl:Ls w8 (.slice (some ⟨gu,0,none⟩) (limbs (natL us)).length c8) (limbs (natL us)))=>qlq gu 0 _ c8 (limbs (natL us)) s w8 hl (qal _) hll hs);rw[qai,e2]at HLo;have HB:=hI hB;clear hB hU hL hO hql hend e1 e2 hlq hlu hll
   go_wp2_with (first
    |(have _t:=HL8;clear _t;go_at_call 212;refine(HLo.out _ _ HL8.out).mono ?_;rintro e w9 ⟨v9,rfl,hv9,hb9⟩)
    |(have _t:=HB7;clear _t;go_at_call 172;refine(HTu.out _ HB7.out).mono ?_;rintro e w8 ⟨rfl,hl8,hb8⟩;have HL8:=hI (hl8.mono hb8);clear hl8)
    |(go_at_call 172;refine(HTq.out).mono ?_;rintro e w7 ⟨rfl,hl7,hb7⟩;have HB7:=hI hb7;have HL7:=hI (hl7.mono hb7);clear hl7 hb7))
   have hb79:=hb8.via hb9 hb8.size;have hb:=((HB.out.via HB7.out HB.out.size).via hb79 (Nat.le_trans HB.out.size HB7.out.size))
   go_ret2
   exact⟨_,_,rfl,⟨_,_,rfl,HL7.out.mono hb79⟩,hv9,hb⟩
  ·have hjN:j≤N:=by omega
   have hij:((((j+1:Nat):Int)-1))=(j:Int):=by omega
   rw[hij];obtain⟨wi1,wi2,wi3⟩:=qo9 (j:=j) (m:=m) (by have:=hpre.out.1;have:=Hmm.out.2;omega) hpre.out.2.2.2.2.1 HVlt.out;have hpl:(us.take j).length=j:=by rw[List.length_take,hpre.out.1];have:=Hmm.out.2;omega
   have hwl:((us.drop j).take (m+1)).length=m+1:=by rw[List.length_take,List.length_drop,hpre.out.1];have:=Hmm.out.2;omega
   have hsp:us.take j++((us.drop j).take (m+1)++us.drop (j+m+1))=us:=by
    rw[show us.drop (j+m+1)=(us.drop j).drop (m+1)by rw[List.drop_drop,Nat.add_assoc],List.take_append_drop,List.take_append_drop]
   have HD:=hI (qrw w.heap.size gu j (n+1-j) (some ⟨gv,0,none⟩) m (m+1) (us.take j) ((us.drop j).take (m+1)) (us.drop (j+m+1)) (limbs (y*2^s)) wr (by rw[hsp];exact hU) hpl hL (fun p hp=>by cases hp;exact Nat.ne_of_gt HG.out.1) hwl h2m (by omega) (by omega) (fun d hd=>hpre.out.2.1 d (List.mem_of_mem_drop (List.mem_of_mem_take hd))) (qal _) (by rw[qai];exact Hpl.out.2.1) (by rw[qai];exact wi2));rw[qai]at HD;obtain⟨Q,hQ⟩:∃Q,natL ((us.drop j).take (m+1))/(y*2^s)=Q:=⟨_,rfl⟩
   have hQ32:Q<4294967296:=by
    rw[←hQ,Nat.div_lt_iff_lt_mul HV0.out];exact wi2
   rw[hQ]at HD;have HQ:=hI hQ;clear hQ;obtain⟨g0,g1⟩:=hO.low;have hj0:(0:Int)≤(j:Int):=Int.natCast_nonneg _;have hjn:(j:Int)<(N:Int)+1:=by omega
   obtain⟨jm,hjm⟩:∃jm,j+m=jm:=⟨_,rfl⟩
   obtain⟨jh,hjh⟩:∃jh,jm+1=jh:=⟨_,rfl⟩
   have hwj:IntKind.i64.wrap ((j:Int)+(m:Int))=(jm:Int):=(IntWalk.i64_in _ (by omega)).trans (by omega);have hwj1:IntKind.i64.wrap ((jm:Int)+1)=(jh:Int):=(IntWalk.i64_in _ (by omega)).trans (by omega);have hjs:jh-j=m+1:=by omega
   have hjb:(j:Int)≤(jh:Int):=by omega
   have hjb0:(0:Int)≤(jh:Int):=Int.natCast_nonneg _;have hjb2:(jh:Int)≤(n:Int)+1:=by have:=Hmm.out.2;omega
   have hcj:¬n+1=j:=by have:=Hmm.out.2;omega
   have HW2:=hI wi2
   have HLt:=hI (show gv<wr.heap.size from by
    obtain⟨p,o,he,hlt,-⟩:=hL.cells (by omega);cases he
    exact hlt)
   have Hwi:=hI (And.intro wi1 (And.intro wi3 hpl));have HO:=hI hO;have HL:=hI hL;have HB:=hI hB;have Hsp:=hI hsp;have Hj:=hI (And.intro hjm hjh);clear hO hL hB hU hsp hpl hwl wi1 wi2 wi3 hjm hjh
   go_wp2_with (go_at_call 211;refine(HD.out).mono ?_;rintro e w6 ⟨win',rfl,ho6,hwl6,hdw6,hn6,hm6⟩;have HO6:=hI (HO.out.eqb hm6.eqb HO.out.lt (Nat.ne_of_gt (Nat.lt_trans HG.out.1 HG.out.2.1)));have HM6:=hI hm6;obtain⟨k0,k1⟩:=HO6.out.low;have HX6:=hI (And.intro ho6 (And.intro hwl6 (And.intro hdw6 hn6)));clear g0 g1 ho6 hwl6 hdw6 hn6 hm6)
   obtain⟨r1,r2⟩:=qq3 Hwi.out.2.2 (hpre.out.2.1.take j) Hwi.out.1 Hwi.out.2.1 HX6.out.2.2.2 HQ.out.symm HV0.out hpre.out.2.2.2.2.2;rw[←qs9]at r1;have hwr:=HO6.out.writeLow Q;have Hwr:=hI (hwr.below (Below.refl _ _));have Hr:=hI (And.intro r1 r2);have HB7:=hI (Mid.below HB.out (HM6.out.low HG.out.2.2) HB.out.size);have HL7:=hI (show Ls w6 (.slice (some ⟨gv,0,none⟩) m (m+1)) (limbs (y*2^s))from Sl.eqb HL.out HM6.out.eqb (fun b hb=>by cases hb;exact⟨HLt.out,Nat.ne_of_gt HG.out.1⟩));clear r1 r2 hwr;have HU8:=hI (HX6.out.1.eqb ((Eqb.refl (w:=w6) gq).set j (.int .u32 (Q:Int))) HX6.out.1.lt (Nat.ne_of_lt (Nat.lt_trans HG.out.1 HG.out.2.1)));have HL8:=hI (show Ls (w6.setCell ⟨gq,j,none⟩ (.int .u32 (Q:Int))) (.slice (some ⟨gv,0,none⟩) m (m+1)) (limbs (y*2^s))from Sl.eqb HL7.out ((Eqb.refl (w:=w6) gq).set j (.int .u32 (Q:Int))) (fun b hb=>by cases hb;exact⟨Nat.lt_of_lt_of_le HLt.out HM6.out.size,Nat.ne_of_lt HG.out.2.1⟩));have HB8:=hI (HB7.out.setCell (p:=⟨gq,j,none⟩) HO6.out.ge (.int .u32 (Q:Int)))
   go_wp2_with fail
   go_roundw
   case rel=>
    refine⟨j,us.take j++(win'++us.drop (j+m+1)),Q::qs,by omega,rfl,HB8.out,HU8.out,HL8.out,Hwr.out,?_,(hpre.out.2.1.take j).append (HX6.out.2.2.1.append (fun d hd=>hpre.out.2.1 d (List.mem_of_mem_drop hd))),by rw[List.length_cons,hpre.out.2.2.1];omega,?_,Hr.out.2,Hr.out.1⟩
    ·rw[List.length_append,List.length_append,Hwi.out.2.2,HX6.out.2.1,List.length_drop,hpre.out.1]
     have:=Hmm.out.2
     omega
    ·intro d hd
     rcases List.mem_cons.1 hd with rfl|hd
     ·exact hQ32
     ·exact hpre.out.2.2.2.1 d hd
   case measure=>simp[intOf]<;>omega
theorem qum{a b:Nat}(h:a≤b)(hb:Few b):Few a:=Nat.lt_of_le_of_lt (qbx h) hb
theorem qir(a b:Option Addr)(n m c c':Nat)(x y:Nat)(w:World)(hA:Ls w (.slice a n c) (limbs x))(hB:Ls w (.slice b m c') (limbs y))(h0:y≠0)(hn:(limbs x).length<1000000):
  Calls Tryz.prog 173 #[.slice a n c,.slice b m c'] w (fun e w'=>∃q r,e=.returned (.tuple #[q,r])∧MagV w' q (x/y)∧MagV w' r (x%y)∧Below w.heap.size w w'):=by
 rcases Nat.lt_or_ge x y with h|h
 ·exact qky a b n m c c' x y w hA hB h
 ·have h1:(limbs y).length≠0:=fun e=>h0 (qcm.1 e)
  by_cases h2:(limbs y).length=1
  ·exact qo1 a b n m c c' x y w hA hB h h2 hn
  ·exact ql1 a b n m c c' x y w hA hB h (by omega) hn
theorem qlx(u v:Value)(y z:Int)(w:World)(h:IntV w u y)(h':IntV w v z)(hl1:(limbs y.natAbs).length<1000000)(hl2:(limbs z.natAbs).length<1000000):
  Calls Tryz.prog 145 #[u,v] w (RetP (fun r w'=>IntV w' r (Nat.gcd y.natAbs z.natAbs:Nat)) w):=by
 obtain⟨a,c,rfl,hl⟩:=h;obtain⟨a',c',rfl,hl'⟩:=h';generalize decide (y<0)=s1;generalize decide (z<0)=s2;have hK:=qes w (.cells #[.bool s1,.slice a (limbs y.natAbs).length c] 75) (.cells #[.bool s2,.slice a' (limbs z.natAbs).length c'] 75) (.cells #[.bool false,.slice none 0 0] 75)
 have hR:Blk (((w.alloc (.cells #[.bool s1,.slice a (limbs y.natAbs).length c] 75)).alloc (.cells #[.bool s2,.slice a' (limbs z.natAbs).length c'] 75)).alloc (.cells #[.bool false,.slice none 0 0] 75)) (w.heap.size+1+1) #[.bool false,.slice none 0 0] 75:=by
  have h:=Blk.new ((w.alloc (.cells #[.bool s1,.slice a (limbs y.natAbs).length c] 75)).alloc (.cells #[.bool s2,.slice a' (limbs z.natAbs).length c'] 75)) #[.bool false,.slice none 0 0] 75
  simpa using h
 have HK:=hI hK;have HR:=hI hR;generalize y.natAbs=Y at*;generalize z.natAbs=Z at*;have HX:=hI (show MagV w (.slice a (limbs Y).length c) Y∧MagV w (.slice a' (limbs Z).length c') Z from⟨⟨_,_,rfl,hl⟩,⟨_,_,rfl,hl'⟩⟩);have Hl1:=hI (show Few Y from hl1);have Hl2:=hI (show Few Z from hl2);clear hl hl' hK hR hl1 hl2;generalize(limbs Y).length=k0 at*;generalize(limbs Z).length=k1 at*
 go_enter Tryz.func145,Tryz.ntmps145
 go_wp2_with fail
 go_quiet (fail)
 go_wp2_with fail
 go_loopg [5,6] Z (fun k u v wr=>∃X,MagV wr u X∧MagV wr v k∧Few k∧Few X∧Below (((w.alloc (.cells #[.bool s1,.slice a k0 c] 75)).alloc (.cells #[.bool s2,.slice a' k1 c'] 75)).alloc (.cells #[.bool false,.slice none 0 0] 75)).heap.size (((w.alloc (.cells #[.bool s1,.slice a k0 c] 75)).alloc (.cells #[.bool s2,.slice a' k1 c'] 75)).alloc (.cells #[.bool false,.slice none 0 0] 75)) wr∧Hid (Nat.gcd X k=Nat.gcd Y Z))
 case atStart=>exact⟨Y,HX.out.1.mono ((HK.out).dn _),HX.out.2.mono ((HK.out).dn _),Hl2.out,Hl1.out,(Below.refl _ _).dn _,rfl⟩
 case round=>
  obtain⟨X,hX,hY,hk,hlx,hb,hg⟩:=hrel;have hr:=HR.out.below hb;obtain⟨⟨r0,r1⟩,f0,f1⟩:=qag hr;obtain⟨ax,cx,rfl,hX⟩:=hX;obtain⟨ay,cy,rfl,hY⟩:=hY;have Hb:=hI hb;have Hr:=hI hr;clear hb hr;rcases Nat.eq_zero_or_pos gk with rfl|hpos
  ·have h0:(limbs 0).length=0:=by rw[qah];rfl
   rw[h0];have he:Nat.gcd Y Z=X:=by rw[←hg.out,Nat.gcd_zero_right]
   have He:=hI he;have HXl:=hI hX;have hiv:IntV wr (.agg #[.bool false,.slice ax (limbs X).length cx]) (X:Int):=⟨ax,cx,by simp,hX⟩
   obtain⟨hv2,hb2⟩:=IntV.put2 hiv Hr.out;have Hv2:=hI hv2;have Hb2:=hI hb2;have hbel:=(((HK.out.via Hb.out HK.out.size).setCell (p:=⟨w.heap.size+1+1,0,none⟩) (by show w.heap.size≤w.heap.size+1+1;omega) (.bool false)).setCell (p:=⟨w.heap.size+1+1,1,none⟩) (by show w.heap.size≤w.heap.size+1+1;omega) (.slice ax (limbs X).length cx))
   have Hbel:=hI hbel;clear hv2 hb2 hbel hiv hX hY he hg h0 hlx;generalize(limbs X).length=kx at*
   go_wp2_with fail
   obtain⟨⟨q0,q1⟩,-⟩:=qag Hb2.out;refine bodyPost_ret (v:=.agg #[.bool false,.slice ax kx cx]) (by simp[results,Tryz.results145,go_sem,q0,q1]) rfl ⟨_,rfl,?_,Hbel.out⟩
   rw[He.out];exact Hv2.out
  ·have HD:=hI (qir _ _ _ _ _ _ _ _ wr hX hY (by omega) hlx)
   have hlen:0<(limbs gk).length:=by
    rcases Nat.eq_zero_or_pos (limbs gk).length with h|h
    ·rw[qcm]at h;omega
    ·exact h
   have HY:=hI (show MagV wr (.slice ay (limbs gk).length cy) gk from⟨_,_,rfl,hY⟩);have Hlk:=hI hk;clear hX hY;generalize(limbs gk).length=ky at*;have hlen2:(0:Int)<(ky:Int):=by omega
   go_wp2_with (go_at_call 173;refine(HD.out).mono ?_;rintro e w2 ⟨q,r,rfl,hq,hr2,hb2⟩)
   go_roundg (X%gk)
   case measure=>exact Nat.mod_lt _ hpos
   case rel=>
    exact⟨gk,HY.out.mono hb2,hr2,qum (Nat.le_of_lt (Nat.mod_lt _ hpos)) Hlk.out,Hlk.out,Hb.out.via hb2 Hb.out.size,by unfold Hid;rw[←hg.out,Nat.gcd_comm X gk,Nat.gcd_rec gk X,Nat.gcd_comm]⟩
theorem qa8(d:List UInt8)(w:World)(hlen:d.length≤6000):Calls Tryz.prog 153 #[.string ⟨d.toArray⟩] w (Ret (.bool (digB d)) w):=by
 by_cases hne:d=[]
 ·subst hne
  rw[show digB []=false from rfl];have he:(⟨([]:List UInt8).toArray⟩:ByteArray).toList.isEmpty=true:=by rw[ByteArray.toList_eq];rfl
  generalize(⟨([]:List UInt8).toArray⟩:ByteArray)=D at*
  go_enter Tryz.func153,Tryz.ntmps153
  go_wp2_with fail
  go_ret
  exact⟨rfl,Below.refl _ _⟩
 ·have H:=hI (Any.strings_Trim_laid Tryz.lays160 (by kernel_rfl) ⟨d.toArray⟩ ⟨#[48,49,50,51,52,53,54,55,56,57]⟩ w (by rw[Lib.size_eq];show d.length≤_;omega) (by decide) (ascii_of_all (by decide)))
  rw[show(⟨#[48,49,50,51,52,53,54,55,56,57]⟩:ByteArray).data.toList=qo2 from rfl,show(⟨d.toArray⟩:ByteArray).data.toList=d from rfl]at H
  change Hid (Calls Tryz.prog 155 _ _ _)at H
  have he:=qfg hne;have hb:=qpc hne;generalize Lib.trimS d qo2=t at*;generalize(⟨d.toArray⟩:ByteArray)=D at*;rw[←hb];clear hb hlen;cases t with
  |nil=>
   rw[decide_eq_true rfl]
   go_enter Tryz.func153,Tryz.ntmps153
   go_wp2_with (go_at_call 155;refine(H.out).mono ?_;rintro e w1 ⟨rfl,hb⟩)
   go_ret
   exact⟨rfl,hb⟩
  |cons c r=>
   have ht:=qfg (d:=c::r) (by simp);rw[decide_eq_false (by simp)];generalize(⟨(c::r).toArray⟩:ByteArray)=E at*
   go_enter Tryz.func153,Tryz.ntmps153
   go_wp2_with (go_at_call 155;refine(H.out).mono ?_;rintro e w1 ⟨rfl,hb⟩)
   go_ret
   exact⟨rfl,hb⟩
theorem qds(d:List UInt8)(w:World)(hlen:d.length≤6000):Calls Tryz.prog 155 #[.string ⟨d.toArray⟩,.string ⟨#[48]⟩] w (Ret (.string ⟨(Lib.trimS d [48]).toArray⟩) w):=
 Any.strings_Trim_laid Tryz.lays160 (by kernel_rfl) ⟨d.toArray⟩ ⟨#[48]⟩ w (by rw[Lib.size_eq];show d.length≤_;omega) (by decide) (ascii_of_all (by decide))
theorem qpp(s:ByteArray)(i:Nat)(w:World)(h:Lib.indexByte s.data.toList 47=(i:Int))(hi:i<s.size)(hs:s.size<1000000):Calls Tryz.prog 182 #[.string s,.string ⟨#[47]⟩] w (Ret (.tuple #[.string (s.extract 0 i),.string (s.extract (i+1) s.size),.bool true]) w):=by
 have H:=hI (Tryz.stringslite_Index_one s 47 w);rw[h]at H;obtain⟨n,hn⟩:∃n,s.size=n:=⟨_,rfl⟩
 rw[hn]at hi hs⊢;have h1:IntKind.i64.wrap ((i:Int)+1)=(i:Int)+1:=IntWalk.i64_in _ (by omega);have h2:(i:Int)≤(n:Int):=by omega
 have h3:(i:Int)+1≤(n:Int):=by omega
 have h4:(0:Int)≤(i:Int):=Int.natCast_nonneg _;have h5:(0:Int)≤(i:Int)+1:=by omega
 have h6:i≤n:=by omega
 have h7:i+1≤n:=by omega
 have h8:((i:Int)+1).toNat=i+1:=by omega
 clear h
 go_enter Tryz.func182,Tryz.ntmps182
 go_wp2_with (go_at_call 219;refine(H.out).mono ?_;rintro e w1 ⟨rfl,rfl⟩)
 refine wp_region_held_drew (S:=(fun _=>True)) (by kernel_rfl) (by exact trivial) (fun hHeld=>?_)
 refine wpAnyH_take (i:=0) (v:=?v1) rfl (by kernel_rfl) (by kernel_rfl) (by kernel_rfl) (fun _ _ _ h=>h) (Or.inl ⟨by rfl,?hy1⟩) (by assumption) ?rest1
 case hy1=>(intro w hSw;(try dsimp only at hSw);go_simp;try(with_reducible rfl))
 try simp only[Act.put,List.getElem_toArray,List.getElem_cons_zero,List.setIfInBounds_toArray,List.set_cons_zero,List.set_cons_succ]
 refine' tk 1 ?_;(try simp only[tkS]);refine' tk 2 ?_;(try simp only[tkS]);refine' tk 3 ?_;(try simp only[tkS]);refine' tk 4 ?_;(try simp only[tkS]);refine' tk 5 ?_;(try simp only[tkS]);refine' tk 6 ?_;(try simp only[tkS]);refine' tk 7 ?_;(try simp only[tkS]);refine' tk 8 ?_;(try simp only[tkS]);refine' tk 9 ?_;(try simp only[tkS]);refine' tk 10 ?_;(try simp only[tkS]);refine' tk 11 ?_;(try simp only[tkS]);refine tkD ?_ _
 go_wp2_with fail
 go_ret3
 exact⟨rfl,(Below.refl _ _).dn 1⟩
theorem qt1(s:ByteArray)(i:Nat)(w:World)(h:Lib.indexByte s.data.toList 47=(i:Int))(hi:i<s.size)(hs:s.size<1000000):Calls Tryz.prog 152 #[.string s,.string ⟨#[47]⟩] w (Ret (.tuple #[.string (s.extract 0 i),.string (s.extract (i+1) s.size),.bool true]) w):=by
 have H:=hI (qpp s i w h hi hs);clear h;generalize s.extract 0 i=A at*;generalize s.extract (i+1) s.size=B at*
 go_enter Tryz.func152,Tryz.ntmps152
 go_wp2_with (go_at_call 182;refine(H.out).mono ?_;rintro e w1 ⟨rfl,hb⟩)
 go_ret3
 exact⟨rfl,hb⟩
theorem qch{s:ByteArray}{l:List UInt8}(h:s.data.toList=l):s=⟨l.toArray⟩:=by
 subst h;cases s
 simp
theorem qh9(s:ByteArray)(w:World)(hs:s.size<1000000):Calls Tryz.prog 152 #[.string s,.string ⟨#[47]⟩] w (Ret (.tuple #[.string ⟨(topL s.data.toList).toArray⟩,.string ⟨(botL s.data.toList).toArray⟩,.bool (divB s.data.toList)]) w):=by
 rcases qox s.data.toList with⟨h1,h2,h3,h4⟩|⟨i,h1,h2,h3,h4,h5⟩
 ·rw[h2,h3,h4,←qch (s:=s) rfl]
  exact qt2 s 47 w h1
 ·have hi:i<s.size:=by rw[Lib.size_eq];exact h2
  have e1:s.extract 0 i=⟨(s.data.toList.take i).toArray⟩:=qch (by rw[qbt rfl,List.drop_zero]);have e2:s.extract (i+1) s.size=⟨(s.data.toList.drop (i+1)).toArray⟩:=qch (by rw[qbt rfl,List.take_of_length_le (by rw[←Lib.size_eq];exact Nat.le_refl _)]);rw[h3,h4,h5,←e1,←e2];exact qt1 s i w h1 hi hs
end Go.Proofs.YtacihodamichhaaGreatDoor
