/- Parts of the proof. -/
import Derived.Test.YtacihodamichhaaGreatDoorU35
set_option maxHeartbeats 8000000
namespace Go.Proofs.YtacihodamichhaaGreatDoor
open Go.RowKit
def cqS(s n:ByteArray):Int:=cmpQ (numR s.data.toList) (denR s.data.toList) (numR n.data.toList) (denR n.data.toList)
def qlp(L:List ByteArray)(n:ByteArray):Option ByteArray:=L.find? fun s=>decide (0<cqS s n)
def qv0(o:Option ByteArray):Value:=match o with
 |some s=>.tuple #[.string s,.bool true,.int .i64 0]
 |none=>.tuple #[.string ⟨#[48]⟩,.bool false,.int .i64 0]
theorem qql{O:List GC}{n:ByteArray}{k:Nat}{q:GC}(hq:O[k]?=some q)(h1:0<cqS q.c.s n)(h2:∀s∈numS (O.take k),cqS s n≤0):qlp (numS O) n=some q.c.s:=by
 unfold qlp;obtain⟨hi,he⟩:=List.getElem?_eq_some_iff.1 hq
 have hs:numS O=numS (O.take k)++q.c.s::numS (O.drop (k+1)):=by
  unfold numS;rw[←he,←List.map_cons (f:=fun k:GC=>k.c.s),←List.map_append,←List.drop_eq_getElem_cons hi,List.take_append_drop]
 rw[hs,List.find?_append,List.find?_eq_none.2 (fun s hs=>by have:=h2 s hs;simp;omega),List.find?_cons,decide_eq_true h1]
 rfl
theorem qqm{O:List GC}{n:ByteArray}(h2:∀s∈numS O,cqS s n≤0):qlp (numS O) n=none:=by
 unfold qlp;exact List.find?_eq_none.2 (fun s hs=>by have:=h2 s hs;simp;omega)
set_option maxRecDepth 10000 in
theorem qwb(v:Value)(xs:List Iv)(n:ByteArray)(w:World)(h:Ivs w v xs)(hs:∀x∈xs,x.short)(he:qa5 xs=0)(hn:xs.length≤256)(hns:n.size≤5000)(hr:errL n.data.toList=0):
  Calls Tryz.prog 20 #[v,.string n] w (Ret (qv0 (qlp (qgi (xs.map Iv.cuts)) n)) w):=by
 have HE:=hI (qxm v xs w h hs he hn);have HRd:=hI (fun w'=>qgm n w' hns);unfold qet at HRd;rw[hr]at HRd;have hf':=qjn (l:=n.data.toList) (by rw[←Lib.size_eq];exact hns);have Hf':=hI hf';generalize hE:qgi (xs.map Iv.cuts)=E at*;obtain⟨NX,hNX⟩:∃x,qv0 (qlp E n)=x:=⟨_,rfl⟩
 rw[hNX];have HNX:=hI hNX;clear h hs he hE hr hns hf' hNX
 go_enter Tryz.func20,Tryz.ntmps20
 go_wp2_with (first
  |(go_at_call 63;have _t:=HO;clear _t;refine(HRd.out _).mono ?_;rintro e w2 ⟨v2,rfl,⟨x2,a2,n2,c2,y2,e2,m2,d2,rfl,hrv,-,-⟩,hb2⟩;have Hrv:=hI hrv;have Hb2:=hI hb2;clear hrv hb2)
  |(go_at_call 55;refine(HE.out).mono ?_;rintro e w1 ⟨v1,rfl,⟨a,c,O,rfl,hO,hnum,hlen⟩,hb1⟩;have HO:=hI hO;have Hnum:=hI hnum;have Hlen:=hI hlen;have Hb1:=hI hb1;clear hO hnum hlen hb1))
 have HV:=hI (fun w' (hb:Below (w2.alloc (.cells #[.bool x2,.slice a2 n2 c2,.bool y2,.slice e2 m2 d2] 77)).heap.size (w2.alloc (.cells #[.bool x2,.slice a2 n2 c2,.bool y2,.slice e2 m2 d2] 77)) w')=>qeq (Blk.new w2 #[.bool x2,.slice a2 n2 c2,.bool y2,.slice e2 m2 d2] 77) hb);obtain⟨N,hN⟩:∃N,O.length=N:=⟨_,rfl⟩
 have Hln:=hI hN;rw[hN]at HO Hlen;have hn1:=Hlen.out;try rw[hN]
 clear hN HE
 go_loopw [30] (fun i wr=>∃k:Nat,k≤N∧i=.int .i64 (k:Int)∧Below (w2.alloc (.cells #[.bool x2,.slice a2 n2 c2,.bool y2,.slice e2 m2 d2] 77)).heap.size (w2.alloc (.cells #[.bool x2,.slice a2 n2 c2,.bool y2,.slice e2 m2 d2] 77)) wr∧Hid (∀s∈numS (O.take k),cqS s n≤0)) (fun i _=>N-(intOf i).toNat)
 case atStart=>exact⟨0,by omega,rfl,Below.refl _ _,fun s hs=>by cases hs⟩
 case round=>
  obtain⟨k,hk,rfl,hbw,hpre⟩:=hrel;have Hbw:=hI hbw;have Hpre:=hI hpre.out;have hb1r:=qaa (qaa Hb2.out (qac w2 (.cells #[.bool x2,.slice a2 n2 c2,.bool y2,.slice e2 m2 d2] 77))) hbw;have Hb1r:=hI hb1r;have hkw:IntKind.i64.wrap ((k:Int)+1)=(k:Int)+1:=IntWalk.i64_in _ (by omega);rcases Nat.lt_or_ge k N with hlt|hge
  ·obtain⟨b,off,q,rfl,hq,hqok,z0,z1,z2,z3,z4,z5,z6⟩:=HO.out.at hb1r hlt
   have hkn:(k:Int)<(N:Int):=by omega
   have hk0:(0:Int)≤(k:Int):=Int.natCast_nonneg _;obtain⟨v0,v1,v2,v3⟩:=HV.out _ (qaa hbw (qac wr (.cells #[.int .i64 q.c.b,.string q.c.s,.int .i64 q.c.d,.bool q.x,.slice q.a q.n q.cap,.bool q.y,.slice q.e q.m q.cap2] 79)));have hcm:=qmn (.agg #[.bool q.x,.slice q.a q.n q.cap,.bool q.y,.slice q.e q.m q.cap2]) (.agg #[.bool x2,.slice a2 n2 c2,.bool y2,.slice e2 m2 d2]) _ _ _ _ (wr.alloc (.cells #[.int .i64 q.c.b,.string q.c.s,.int .i64 q.c.d,.bool q.x,.slice q.a q.n q.cap,.bool q.y,.slice q.e q.m q.cap2] 79)) (hqok.1.mono (qac wr _)) (Hrv.out.mono (qaa (qaa (qac w2 _) hbw) (qac wr _))) (qjn (by rw[←Lib.size_eq];exact hqok.2.2)) Hf'.out
   have Hnx:=hI (show cqS q.c.s n≤0→∀s∈numS (O.take (k+1)),cqS s n≤0 from fun hc s hs=>by
    rw[qbd hq]at hs;unfold numS at hs;rw[List.map_append]at hs;rcases List.mem_append.1 hs with h|h
    ·exact Hpre.out s h
    ·cases List.mem_singleton.1 h;exact hc)
   have Hfd:=hI (show 0<cqS q.c.s n→NX=.tuple #[.string q.c.s,.bool true,.int .i64 0]from fun hc=>by
    rw[←HNX.out,←Hnum.out,qql hq hc Hpre.out];rfl)
   change Calls _ _ _ _ (Ret (.int .i64 (cqS q.c.s n)) _)at hcm
   have HCm:=hI hcm;have HB7:=hI (Blk.new wr #[.int .i64 q.c.b,.string q.c.s,.int .i64 q.c.d,.bool q.x,.slice q.a q.n q.cap,.bool q.y,.slice q.e q.m q.cap2] 79);clear hq hqok hbw hb1r hcm hpre;generalize hX:cqS q.c.s n=X at*;clear hX
   by_cases hx:0<X
   ·go_wp2_with (go_at_call 64;refine(HCm.out).mono ?_;rintro e w5 ⟨rfl,hb5⟩;have Hb5:=hI hb5;obtain⟨f0,f1,f2,f3,f4,f5,f6⟩:=qb2 HB7.out Hb5.out;clear hb5)
    go_ret3
    exact⟨by rw[Hfd.out hx];rfl,qaa (qaa Hb1.out Hb1r.out) (qaa (qac wr _) Hb5.out)⟩
   ·go_wp2_with (go_at_call 64;refine(HCm.out).mono ?_;rintro e w5 ⟨rfl,hb5⟩;have Hb5:=hI hb5;clear hb5)
    go_roundw
    case rel=>exact⟨k+1,by omega,by go_num,Hbw.out.via (qaa (qac wr _) Hb5.out) Hbw.out.size,Hnx.out (by omega)⟩
    case measure=>simp[intOf]<;>omega
  ·obtain rfl:k=N:=by omega
   have hkn:¬(k:Int)<(k:Int):=by omega
   have Hfin:=hI (show NX=.tuple #[.string ⟨#[48]⟩,.bool false,.int .i64 0]by
    have:=Hpre.out;rw[List.take_of_length_le (by rw[Hln.out];exact Nat.le_refl _)]at this
    rw[←HNX.out,←Hnum.out,qqm this];rfl)
   clear hbw
   go_wp2_with fail
   go_ret3
   exact⟨by rw[Hfin.out];rfl,qaa Hb1.out Hb1r.out⟩
theorem stI{w:World}{b:Nat}{x':Bool}{a':Option Addr}{n' c':Nat}{T:TypeId}(x:Bool)(a:Option Addr)(n c:Nat)(hB:Blk w b #[.bool x',.slice a' n' c'] T):
  Blk ((w.setCell ⟨b,0,none⟩ (.bool x)).setCell ⟨b,1,none⟩ (.slice a n c)) b #[.bool x,.slice a n c] T∧(∀v z,IntV w v z→IntV ((w.setCell ⟨b,0,none⟩ (.bool x)).setCell ⟨b,1,none⟩ (.slice a n c)) v z)∧
  (∀o zo To,Blk w o zo To→o≠b→Blk ((w.setCell ⟨b,0,none⟩ (.bool x)).setCell ⟨b,1,none⟩ (.slice a n c)) o zo To)∧(∀B w0,Below B w0 w→B≤b→Below B w0 ((w.setCell ⟨b,0,none⟩ (.bool x)).setCell ⟨b,1,none⟩ (.slice a n c))):=by
 have h1:=hB.set 0 (.bool x);have h2:=h1.set 1 (.slice a n c);simp at h1 h2;exact⟨h2,fun v z h=>(h.put hB noU2 _).put h1 noU2 _,fun o zo To h hne=>(h.other hne _).other hne _,fun B w0 h hb=>qdf x a n c h hb⟩
set_option maxRecDepth 10000 in
theorem qnp(u v:Value)(N:Int)(g:Nat)(w:World)(h:IntV w u N)(h':IntV w v (g:Int))(hg:0<g)(hd:(g:Int)∣N)(hf:Few N.natAbs):
  Calls Tryz.prog 146 #[u,v] w (RetP (fun r w'=>∃x5 a5 k5 c5 r0,r=.tuple #[.agg #[.bool x5,.slice a5 k5 c5],r0,.int .i64 0]∧IntV w' (.agg #[.bool x5,.slice a5 k5 c5]) (N/(g:Int))) w):=by
 have H1:=hI (fun w' (hb:Below w.heap.size w w')=>qdo v (g:Int) w' (h'.mono hb));rw[Int.sign_eq_one_of_pos (show(0:Int)<(g:Int)by omega)]at H1;obtain⟨a,c,rfl,hl⟩:=h;obtain⟨a',c',rfl,hl'⟩:=h';rw[Int.natAbs_natCast]at hl' H1;rw[decide_eq_false (show ¬(g:Int)<0 by omega)]at H1;rw[Int.natAbs_natCast,decide_eq_false (show ¬(g:Int)<0 by omega)];have H2:=hI (fun w' (hb:Below w.heap.size w w')=>qir a a' _ _ c c' N.natAbs g w' (hl.mono hb) (hl'.mono hb) (by omega) hf);obtain⟨q,rfl⟩:=hd;have e1:((g:Int)*q).natAbs=g*q.natAbs:=by rw[Int.natAbs_mul,Int.natAbs_natCast]
 have e2:decide ((g:Int)*q<0)=decide (q<0):=by
  rw[decide_eq_decide]
  constructor
  ·intro h
   rcases(show q<0∨0≤q by omega)with h3|h3
   ·exact h3
   ·exact absurd (Int.mul_nonneg (show(0:Int)≤(g:Int)by omega) h3) (by omega)
  ·intro h;exact Int.mul_neg_of_pos_of_neg (by omega) h
 rw[Int.mul_ediv_cancel_left _ (by omega),e2];rw[e1,Nat.mul_div_cancel_left _ hg,Nat.mul_mod_right]at H2;have H3:=hI (fun w' a n c (hL:Ls w' (.slice a n c) (limbs q.natAbs))=>qbp (decide (q<0)) a n c (limbs q.natAbs) w' hL (qal _));have H4:=hI (fun w' a n c (hL:Ls w' (.slice a n c) (limbs 0))=>qbp (decide (q<0)) a n c (limbs 0) w' hL (qal _));rw[qai,qj6]at H3;rw[qai,show sgn (decide (q<0)) 0=0 by cases decide (q<0)<;>rfl]at H4;have H5:=hI (fun w' v (hv:IntV w' v 0)=>qdo v 0 w' hv);rw[show Int.sign 0=0 from rfl]at H5;rw[e1];generalize(limbs (g*q.natAbs)).length=k0 at*;generalize(limbs g).length=k1 at*;generalize decide (q<0)=sx at*;have hA:Blk ((((w.alloc (.cells #[.bool sx,.slice a k0 c] 75)).alloc (.cells #[.bool false,.slice a' k1 c'] 75)).alloc (.cells #[.bool false,.slice none 0 0] 75)).alloc (.cells #[.bool false,.slice none 0 0] 75)) w.heap.size #[.bool sx,.slice a k0 c] 75:=(((Blk.new w _ _).old _).old _).old _
 have hB:Blk ((((w.alloc (.cells #[.bool sx,.slice a k0 c] 75)).alloc (.cells #[.bool false,.slice a' k1 c'] 75)).alloc (.cells #[.bool false,.slice none 0 0] 75)).alloc (.cells #[.bool false,.slice none 0 0] 75)) (w.heap.size+1) #[.bool false,.slice a' k1 c'] 75:=by
  have h:=((Blk.new (w.alloc (.cells #[.bool sx,.slice a k0 c] 75)) #[.bool false,.slice a' k1 c'] 75).old (.cells #[.bool false,.slice none 0 0] 75)).old (.cells #[.bool false,.slice none 0 0] 75)
  simpa using h
 have hQ:Blk ((((w.alloc (.cells #[.bool sx,.slice a k0 c] 75)).alloc (.cells #[.bool false,.slice a' k1 c'] 75)).alloc (.cells #[.bool false,.slice none 0 0] 75)).alloc (.cells #[.bool false,.slice none 0 0] 75)) (w.heap.size+1+1) #[.bool false,.slice none 0 0] 75:=by
  have h:=(Blk.new ((w.alloc (.cells #[.bool sx,.slice a k0 c] 75)).alloc (.cells #[.bool false,.slice a' k1 c'] 75)) #[.bool false,.slice none 0 0] 75).old (.cells #[.bool false,.slice none 0 0] 75)
  simpa using h
 have hR:Blk ((((w.alloc (.cells #[.bool sx,.slice a k0 c] 75)).alloc (.cells #[.bool false,.slice a' k1 c'] 75)).alloc (.cells #[.bool false,.slice none 0 0] 75)).alloc (.cells #[.bool false,.slice none 0 0] 75)) (w.heap.size+1+1+1) #[.bool false,.slice none 0 0] 75:=by
  have h:=Blk.new (((w.alloc (.cells #[.bool sx,.slice a k0 c] 75)).alloc (.cells #[.bool false,.slice a' k1 c'] 75)).alloc (.cells #[.bool false,.slice none 0 0] 75)) #[.bool false,.slice none 0 0] 75
  simpa using h
 have HK:=hI ((qes w (.cells #[.bool sx,.slice a k0 c] 75) (.cells #[.bool false,.slice a' k1 c'] 75) (.cells #[.bool false,.slice none 0 0] 75)).alloc (by simp;omega) (.cells #[.bool false,.slice none 0 0] 75));have HA:=hI hA;have HB:=hI hB;have HQ:=hI hQ;have HR:=hI hR;clear hA hB hQ hR hl hl' e1 e2 hf hg
 go_enter Tryz.func146,Tryz.ntmps146
 go_wp2_with (first
  |(go_at_call 131;refine(H1.out _ HK.out).mono ?_;rintro e w1 ⟨rfl,hb1⟩;have Hb1:=hI hb1;obtain⟨⟨c0,c1⟩,-⟩:=qag (HA.out.below hb1);obtain⟨⟨d0,d1⟩,-⟩:=qag (HB.out.below hb1);clear hb1)
  |(go_at_call 173;refine(H2.out _ (HK.out.via Hb1.out HK.out.size)).mono ?_;rintro e w2 ⟨q2,r2,rfl,hq2,hr2,hb2⟩;obtain⟨aq,cq,rfl,hq2⟩:=hq2;obtain⟨ar,cr,rfl,hr2⟩:=hr2;have HQ2:=hI hq2;have HR2:=hI hr2;have Hb2:=hI (qaa Hb1.out hb2);obtain⟨⟨c0,c1⟩,-⟩:=qag (HA.out.below Hb2.out);obtain⟨⟨d0,d1⟩,-⟩:=qag (HB.out.below Hb2.out);clear hq2 hr2 hb2))
 generalize(limbs q.natAbs).length=k2 at*;generalize(limbs 0).length=k3 at*;refine wp_region_held_drew (S:=(fun w'=>w'.cell? ⟨w.heap.size,0,none⟩=some (.bool sx)∧w'.cell? ⟨w.heap.size+1,0,none⟩=some (.bool false))) (by kernel_rfl) (by exact⟨(qag (HA.out.below (Hb2.out.dn 1))).1.1,(qag (HB.out.below (Hb2.out.dn 1))).1.1⟩) (fun hHeld=>?_)
 refine' tk 0 ?_;(try simp only[tkS]);refine' tk 1 ?_;(try simp only[tkS]);refine' tk 2 ?_;(try simp only[tkS]);refine' tk 3 ?_;(try simp only[tkS]);refine' tk 4 ?_;(try simp only[tkS]);refine' tk 5 ?_;(try simp only[tkS]);refine' tk 7 ?_;(try simp only[tkS]);refine' tk 8 ?_;(try simp only[tkS]);refine' tk 9 ?_;(try simp only[tkS]);refine tk1 6 (fun K hK=>?_)
 go_simp;go_at_call 140;refine(H3.out _ _ _ _ (HQ2.out.mono ((Below.refl _ _).dn 1))).mono ?_
 rintro e w6 ⟨v6,rfl,hv6,hb6⟩;obtain⟨x6,a6,k6,c6,rfl,hv6⟩:=hv6.open;have HV6:=hI hv6;have Hb26:=hI (qaa ((Below.refl _ _).dn 1) hb6);have Hb6:=hI (qaa Hb2.out Hb26.out);clear hv6 hb6;refine hK.out _ _ (by exact⟨(qag (HA.out.below (Hb6.out))).1.1,(qag (HB.out.below (Hb6.out))).1.1⟩) (fun hHeld=>?_)
 clear hK K;(try simp only[tkS]);refine tk1 10 (fun K hK=>?_)
 go_simp;go_at_call 140;refine(H4.out _ _ _ _ (HR2.out.mono Hb26.out)).mono ?_
 rintro e w10 ⟨v10,rfl,hv10,hb10⟩;obtain⟨x10,a10,k10,c10,rfl,hv10⟩:=hv10.open;have HV10:=hI hv10;have HV6:=hI (HV6.out.mono hb10);have Hb10:=hI (qaa Hb6.out hb10);clear hv10 hb10;refine hK.out _ _ (by exact⟨(qag (HA.out.below (Hb10.out))).1.1,(qag (HB.out.below (Hb10.out))).1.1⟩) (fun hHeld=>?_)
 clear hK K;(try simp only[tkS]);refine tk1 11 (fun K hK=>?_)
 have hq:=HQ.out.below Hb10.out;obtain⟨⟨r0,r1⟩,f0,f1⟩:=qag hq;obtain⟨s1,s2,s3,s4⟩:=stI x6 a6 k6 c6 hq;have HQ11:=hI s1;have HV11:=hI (s2 _ _ HV6.out);have HW11:=hI (s2 _ _ HV10.out);have HA11:=hI (s3 _ _ _ (HA.out.below Hb10.out) (show w.heap.size≠w.heap.size+1+1 by omega));have HB11:=hI (s3 _ _ _ (HB.out.below Hb10.out) (show w.heap.size+1≠w.heap.size+1+1 by omega));have HR11:=hI (s3 _ _ _ (HR.out.below Hb10.out) (show w.heap.size+1+1+1≠w.heap.size+1+1 by omega));have Hb11:=hI (s4 _ _ (HK.out.via Hb10.out HK.out.size) (by omega));clear s1 s2 s3 s4 hq;go_simp;refine hK.out _ _ (by exact⟨(qag HA11.out).1.1,(qag HB11.out).1.1⟩) (fun hHeld=>?_)
 clear hK K;(try simp only[tkS]);refine tk1 12 (fun K hK=>?_)
 obtain⟨⟨t0,t1⟩,g0,g1⟩:=qag HR11.out;obtain⟨s1,s2,s3,s4⟩:=stI x10 a10 k10 c10 HR11.out;have HR12:=hI s1;have HV12:=hI (s2 _ _ HV11.out);have HW12:=hI (s2 _ _ HW11.out);have HA12:=hI (s3 _ _ _ HA11.out (show w.heap.size≠w.heap.size+1+1+1 by omega));have HB12:=hI (s3 _ _ _ HB11.out (show w.heap.size+1≠w.heap.size+1+1+1 by omega));have HQ12:=hI (s3 _ _ _ HQ11.out (show w.heap.size+1+1≠w.heap.size+1+1+1 by omega));have Hb12:=hI (s4 _ _ Hb11.out (by omega));clear s1 s2 s3 s4;go_simp;refine hK.out _ _ (by exact⟨(qag HA12.out).1.1,(qag HB12.out).1.1⟩) (fun hHeld=>?_)
 clear hK K;(try simp only[tkS]);refine tkD ?_ _
 generalize hW:((((w10.setCell ⟨w.heap.size+1+1,0,none⟩ (.bool x6)).setCell ⟨w.heap.size+1+1,1,none⟩ (.slice a6 k6 c6)).setCell ⟨w.heap.size+1+1+1,0,none⟩ (.bool x10)).setCell ⟨w.heap.size+1+1+1,1,none⟩ (.slice a10 k10 c10))=W at*;clear hW;obtain⟨⟨c0,c1⟩,d0,d1⟩:=qag HQ12.out;obtain⟨⟨e0,e1⟩,g0,g1⟩:=qag HR12.out
 go_wp2_with (go_at_call 131;refine(H5.out _ _ HW12.out).mono ?_;rintro e w13 ⟨rfl,hb13⟩;have HV13:=hI (HV12.out.mono hb13);have HQ13:=hI (HQ12.out.below hb13);have HR13:=hI (HR12.out.below hb13);have Hb13:=hI (Hb12.out.via hb13 Hb12.out.size);obtain⟨⟨c0,c1⟩,d0,d1⟩:=qag HQ13.out;obtain⟨⟨e0,e1⟩,g0,g1⟩:=qag HR13.out;clear hb13)
 refine wp_region_held_drew (S:=(fun w'=>w'.cell? ⟨w.heap.size+1+1,0,none⟩=some (.bool x6)∧w'.cell? ⟨w.heap.size+1+1,1,none⟩=some (.slice a6 k6 c6)∧w'.cell? ⟨w.heap.size+1+1+1,0,none⟩=some (.bool x10)∧w'.cell? ⟨w.heap.size+1+1+1,1,none⟩=some (.slice a10 k10 c10))) (by kernel_rfl) (by exact⟨(qag (HQ13.out.below ((Below.refl _ _).dn 1))).1.1,(qag (HQ13.out.below ((Below.refl _ _).dn 1))).1.2,(qag (HR13.out.below ((Below.refl _ _).dn 1))).1.1,(qag (HR13.out.below ((Below.refl _ _).dn 1))).1.2⟩) (fun hHeld=>?_)
 refine' tk 0 ?_;(try simp only[tkS]);refine' tk 1 ?_;(try simp only[tkS]);refine tk1 2 (fun K hK=>?_)
 have hq:=HQ13.out.below ((Below.refl w13.heap.size w13).dn 1);have hr:=HR13.out.below ((Below.refl w13.heap.size w13).dn 1);obtain⟨⟨r0,r1⟩,f0,f1⟩:=qag hq;obtain⟨s1,s2,s3,s4⟩:=stI x6 a6 k6 c6 hq;have HQ14:=hI s1;have HV14:=hI (s2 _ _ (HV13.out.mono ((Below.refl w13.heap.size w13).dn 1)));have HR14:=hI (s3 _ _ _ hr (show w.heap.size+1+1+1≠w.heap.size+1+1 by omega));have Hb14:=hI (s4 _ _ (Hb13.out.dn 1) (by omega));clear s1 s2 s3 s4 hq hr;go_simp;refine hK.out _ _ (by exact⟨(qag HQ14.out).1.1,(qag HQ14.out).1.2,(qag HR14.out).1.1,(qag HR14.out).1.2⟩) (fun hHeld=>?_)
 clear hK K;(try simp only[tkS]);refine tk1 3 (fun K hK=>?_)
 obtain⟨⟨t0,t1⟩,g0,g1⟩:=qag HR14.out;obtain⟨s1,s2,s3,s4⟩:=stI x10 a10 k10 c10 HR14.out;have HR15:=hI s1;have HV15:=hI (s2 _ _ HV14.out);have HQ15:=hI (s3 _ _ _ HQ14.out (show w.heap.size+1+1≠w.heap.size+1+1+1 by omega));have Hb15:=hI (s4 _ _ Hb14.out (by omega));clear s1 s2 s3 s4;go_simp;refine hK.out _ _ (by exact⟨(qag HQ15.out).1.1,(qag HQ15.out).1.2,(qag HR15.out).1.1,(qag HR15.out).1.2⟩) (fun hHeld=>?_)
 clear hK K;(try simp only[tkS]);refine' tk 4 ?_;(try simp only[tkS]);refine tkD ?_ _
 go_wp2_with fail
 obtain⟨⟨q0,q1⟩,-⟩:=qag HQ15.out;obtain⟨⟨q2,q3⟩,-⟩:=qag HR15.out;exact bodyPost_ret (v:=.tuple #[.agg #[.bool x6,.slice a6 k6 c6],.agg #[.bool x10,.slice a10 k10 c10],.int .i64 0]) (by simp[results,Tryz.results146,go_sem,c0,c1,e0,e1]) rfl ⟨_,rfl,⟨x6,a6,k6,c6,_,rfl,HV15.out⟩,Hb15.out⟩
end Go.Proofs.YtacihodamichhaaGreatDoor
namespace Go.Proofs.YtacihodamichhaaGreatDoor
open Go.RowKit
def txtR(r:Rat):List UInt8:=if r.den=1 then txtZ r.num else txtZ r.num++47::txtZ (r.den:Int)
theorem qiw{N:Nat}(h:N≠0):txtZ (N:Int)=qao (D10.limbs N):=by
 rw[qa3];unfold txtN txtD;rw[if_neg (fun e=>h (D10.qbs.1 e)),if_neg (by decide)]
theorem qfj{N:Nat}(h:N≠0):∃c r,qao (D10.limbs N)=c::r∧c≠45∧c≠48:=by
 obtain⟨c,r,ht,-,hp⟩:=qeh (z:=(N:Int)) (by omega);rw[qiw h]at ht;exact⟨c,r,ht,hp (by omega)⟩
theorem qn1{c:UInt8}{r:List UInt8}(h:c≠48)(neg:Bool):badI (c::r) neg=false:=by
 unfold badI;simp[h]
theorem qcy(z:Int):negB (txtZ z)=decide (z<0)∧AllD (absL (txtZ z))∧absL (txtZ z)≠[]∧valD (absL (txtZ z))=z.natAbs∧badI (absL (txtZ z)) (negB (txtZ z))=false:=by
 by_cases h0:z=0
 ·subst h0
  rw[qc2];refine⟨by decide,?_,by decide,by decide,by decide⟩
  intro c hc;have:absL [48]=[48]:=by decide
  rw[this]at hc;obtain rfl:=List.mem_singleton.1 hc
  decide
 ·have hN:z.natAbs≠0:=by omega
  obtain⟨c,r,hb,h45,h48⟩:=qfj hN;have hA:=(qgk _ (D10.qal z.natAbs)).1;have hV:=qib z.natAbs;have hm:D10.limbs z.natAbs≠[]:=fun e=>hN (D10.qbs.1 e)
  by_cases hz:z<0
  ·have ht:txtZ z=45::qao (D10.limbs z.natAbs):=by
    unfold txtZ txtN txtD;rw[if_neg hm,decide_eq_true hz,if_pos rfl]
   have hn:negB (txtZ z)=true:=by rw[ht];simp[negB,Lib.hasPrefix,List.isPrefixOf]
   have ha:absL (txtZ z)=qao (D10.limbs z.natAbs):=by rw[ht];simp[absL,Lib.trimPrefix,Lib.hasPrefix,List.isPrefixOf]
   rw[hn,ha,decide_eq_true hz];exact⟨rfl,hA,by rw[hb];simp,hV,by rw[hb];exact qn1 h48 _⟩
  ·have ht:txtZ z=qao (D10.limbs z.natAbs):=by
    unfold txtZ txtN txtD;rw[if_neg hm,decide_eq_false hz,if_neg (by decide)]
   have h45':(45==c)=false:=by rw[beq_eq_false_iff_ne];exact fun e=>h45 e.symm
   have hn:negB (txtZ z)=false:=by rw[ht,hb];simp[negB,Lib.hasPrefix,List.isPrefixOf,h45']
   have ha:absL (txtZ z)=qao (D10.limbs z.natAbs):=by rw[ht,hb];simp[absL,Lib.trimPrefix,Lib.hasPrefix,List.isPrefixOf,h45']
   rw[hn,ha,decide_eq_false hz];exact⟨rfl,hA,by rw[hb];simp,hV,by rw[hb];exact qn1 h48 _⟩
theorem qiv(z:Int):sgn (negB (txtZ z)) (valD (absL (txtZ z)))=z:=by
 rw[(qcy z).1,(qcy z).2.2.2.1];exact qj6 z
theorem qmc{y z:Int}(h:txtZ y=txtZ z):y=z:=by
 rw[←qiv y,←qiv z,h]
theorem qde(z:Int):∀c∈txtZ z,c≠47:=by
 intro c hc e;subst e;obtain⟨-,hA,-⟩:=qcy z;rw[qfd (txtZ z)]at hc
 split at hc
 ·rcases List.mem_cons.1 hc with h|h
  ·exact absurd h (by decide)
  ·exact absurd (hA _ h) (by decide)
 ·exact absurd (hA _ hc) (by decide)
theorem qj2(n:Nat):absL (txtZ (n:Int))=txtZ (n:Int):=by
 have h:=qfd (txtZ (n:Int));rw[(qcy (n:Int)).1,decide_eq_false (by omega),if_neg (by decide)]at h;exact h.symm
theorem qiz{c:UInt8}(hc:c≠47)(l:List UInt8):topL (c::l)=c::topL l∧botL (c::l)=botL l∧divB (c::l)=divB l:=by
 have h1:(c==47)=false:=by rw[beq_eq_false_iff_ne];exact hc
 have h2:(c !=47)=true:=by rw[bne_iff_ne];exact hc
 exact⟨by simp[topL,h2],by simp[botL,h2],by simp[divB,h1]⟩
theorem qe9{a:List UInt8}(h:∀c∈a,c≠47)(b:List UInt8):topL (a++47::b)=a∧botL (a++47::b)=b∧divB (a++47::b)=true:=by
 induction a with
 |nil=>exact⟨by simp[topL],by simp[botL],by simp[divB]⟩
 |cons c r ih=>
  obtain⟨i1,i2,i3⟩:=ih (fun x hx=>h x (by simp[hx]));obtain⟨e1,e2,e3⟩:=qiz (h c (by simp)) (r++47::b);rw[List.cons_append,e1,e2,e3,i1,i2,i3];exact⟨rfl,rfl,rfl⟩
theorem qi0{a:List UInt8}(h:∀c∈a,c≠47):topL a=a∧divB a=false:=by
 induction a with
 |nil=>exact⟨rfl,rfl⟩
 |cons c r ih=>
  obtain⟨i1,i3⟩:=ih (fun x hx=>h x (by simp[hx]));obtain⟨e1,-,e3⟩:=qiz (h c (by simp)) r;rw[e1,e3,i1,i3];exact⟨rfl,rfl⟩
theorem qrv:∀{l:List UInt8},divB l=true→l=topL l++47::botL l
 |[],h=>by simp[divB]at h
 |c::r,h=>by
  by_cases hc:c=47
  ·subst hc
   simp[topL,botL]
  ·obtain⟨e1,e2,e3⟩:=qiz hc r
   rw[e3]at h;rw[e1,e2,List.cons_append,←qrv h]
theorem qce{r:Rat}(h:r.den=1):txtR r=txtZ r.num:=by unfold txtR;rw[if_pos h]
theorem qcz{r:Rat}(h:r.den≠1):txtR r=txtZ r.num++47::txtZ (r.den:Int):=by unfold txtR;rw[if_neg h]
theorem qgw(r:Rat):topL (txtR r)=txtZ r.num:=by
 by_cases h:r.den=1
 ·rw[qce h];exact(qi0 (qde _)).1
 ·rw[qcz h];exact(qe9 (qde _) _).1
theorem qsk(r:Rat):denT (txtR r)=txtZ (r.den:Int):=by
 unfold denT
 by_cases h:r.den=1
 ·rw[qce h,(qi0 (qde _)).2,h,if_neg (by decide),qa3,qgx]
 ·rw[qcz h,(qe9 (qde _) _).2.2,(qe9 (qde _) _).2.1]
  rfl
theorem qiy(r:Rat):numL (txtR r)=r.num:=by
 unfold numL;rw[qgw];exact qiv _
theorem qla(r:Rat):dn (denL (txtR r):Int)=(r.den:Int):=by
 unfold denL
 by_cases h:r.den=1
 ·rw[qce h,(qi0 (qde _)).2,h]
  rfl
 ·rw[qcz h,(qe9 (qde _) _).2.2,(qe9 (qde _) _).2.1,if_pos rfl]
  have h1:=(qcy (r.den:Int)).2.2.2.1;rw[qj2,Int.natAbs_natCast]at h1;rw[h1];unfold dn;rw[if_neg (by have:=r.den_nz;omega)]
theorem qbi(r:Rat):errL (txtR r)=0:=by
 obtain⟨n1,n2,n3,n4,n5⟩:=qcy r.num;obtain⟨m1,m2,m3,m4,m5⟩:=qcy (r.den:Int);rw[m1,decide_eq_false (by omega)]at m5;rw[qj2]at m2 m3 m4 m5;rw[Int.natAbs_natCast]at m4;have d1:digB (absL (txtZ r.num))=true:=qan.2 ⟨n3,n2⟩;have d2:digB (txtZ (r.den:Int))=true:=qan.2 ⟨m3,m2⟩;unfold errL;rw[qgw,d1,n5]
 by_cases h:r.den=1
 ·rw[qce h,(qi0 (qde _)).2]
  rfl
 ·have hz:zerB (txtZ (r.den:Int))=false:=by
   obtain⟨c,t,hb,-,h48⟩:=qfj r.den_nz;rw[qiw r.den_nz,hb];simp[zerB,h48]
  rw[qcz h,(qe9 (qde _) _).2.2,(qe9 (qde _) _).2.1,d2,hz,m5,m4,n4];have hg:Nat.gcd r.num.natAbs r.den=1:=r.reduced;rw[hg];simp[h]
theorem qjo{l:List UInt8}(h:errL l=0):∃r:Rat,l=txtR r:=by
 unfold errL at h
 by_cases h1:digB (absL (topL l))=true
 ·by_cases h6:badI (absL (topL l)) (negB (topL l))=true
  ·exfalso
   by_cases h2:divB l=true
   ·by_cases h3:digB (botL l)=true
    ·by_cases h4:zerB (botL l)=true
     ·simp[h1,h2,h3,h4]at h
     ·simp[h1,h2,h3,h4,h6]at h
    ·simp[h1,h2,h3]at h
   ·simp[h1,h2,h6]at h
  ·simp only[Bool.not_eq_true]at h6
   have ht:=qer h1 h6
   by_cases h2:divB l=true
   ·by_cases h3:digB (botL l)=true
    ·have h4:zerB (botL l)=false:=by
      cases h4:zerB (botL l)with
      |false=>rfl
      |true=>simp[h1,h2,h3,h4]at h
     have h7:badI (botL l) false=false:=by
      cases h7:badI (botL l) false with
      |false=>rfl
      |true=>simp[h1,h2,h3,h4,h6,h7]at h
     have hh:(botL l).head?≠some 48:=by
      have:=qf3 h3 h4;rw[h7,beq_eq_false_iff_ne]at this;exact this
     have hc:=qdl h3 hh
     have hne:valD (botL l)≠0:=by
      intro e;rw[e,qdv]at hc;exact hh (by rw[hc];rfl)
     simp only[h1,h2,h3,h4,h6,h7,Bool.not_true,Bool.and_false,Bool.or_false,Bool.false_eq_true,if_false]at h
     have h9:(valD (botL l)==1)=false∧(Nat.gcd (valD (absL (topL l))) (valD (botL l))!=1)=false:=by
      rw[←Bool.or_eq_false_iff];cases h8:(valD (botL l)==1||Nat.gcd (valD (absL (topL l))) (valD (botL l))!=1)with
      |false=>rfl
      |true=>rw[h8]at h;exact absurd h (by decide)
     have hg:Nat.gcd (valD (absL (topL l))) (valD (botL l))=1:=by
      have:=h9.2;rw[bne_eq_false_iff_eq]at this;exact this
     have h1':valD (botL l)≠1:=by
      have:=h9.1;rw[beq_eq_false_iff_ne]at this;exact this
     refine⟨⟨sgn (negB (topL l)) (valD (absL (topL l))),valD (botL l),hne,by rw[qcc];exact hg⟩,?_⟩
     rw[qcz h1'];rw[←ht,qa3,←hc];exact qrv h2
    ·exfalso
     simp[h1,h2,h3]at h
   ·simp only[Bool.not_eq_true]at h2
    refine⟨⟨sgn (negB (topL l)) (valD (absL (topL l))),1,by decide,Nat.coprime_one_right _⟩,?_⟩
    rw[qce rfl];rw[←ht];rcases qox l with⟨-,-,e,-⟩|⟨i,-,-,e,-⟩
    ·exact e.symm
    ·rw[h2]at e;cases e
 ·exfalso
  simp[h1]at h
theorem qu0(r:Rat):r.num.natAbs<10^(txtR r).length∧r.den<10^(txtR r).length:=by
 obtain⟨-,n2,-,n4,-⟩:=qcy r.num;obtain⟨-,m2,-,m4,-⟩:=qcy (r.den:Int);have h1:=qby n2;have h2:=qby m2;rw[n4]at h1;rw[m4,Int.natAbs_natCast]at h2
 have l1:(absL (txtZ r.num)).length≤(txtR r).length:=by
  have:=qdr (txtZ r.num);have:=qew (txtR r);rw[qgw]at this
  omega
 refine⟨Nat.lt_of_lt_of_le h1 (Nat.pow_le_pow_right (by decide) l1),?_⟩
 by_cases h:r.den=1
 ·rw[h]
  have:0<(txtR r).length:=by
   rw[qce h];have h3:=(qcy r.num).2.2.1;have:=qdr (txtZ r.num);have:(absL (txtZ r.num)).length≠0:=fun e=>h3 (List.length_eq_zero_iff.1 e)
   omega
  exact Nat.one_lt_pow (by omega) (by decide)
 ·refine Nat.lt_of_lt_of_le h2 (Nat.pow_le_pow_right (by decide) ?_)
  rw[qcz h,List.length_append,List.length_cons];have:=qdr (txtZ (r.den:Int))
  omega
def Sz(k:Nat)(r:Rat):Prop:=r.num.natAbs<10^k∧r.den<10^k
theorem Sz.mono{k l:Nat}{r:Rat}(h:Sz k r)(hk:k≤l):Sz l r:=
 ⟨Nat.lt_of_lt_of_le h.1 (Nat.pow_le_pow_right (by decide) hk),Nat.lt_of_lt_of_le h.2 (Nat.pow_le_pow_right (by decide) hk)⟩
theorem Sz.mk{k:Nat}{n:Int}{d:Nat}(hd:d≠0)(h1:n.natAbs<10^k)(h2:d<10^k):Sz k (mkRat n d):=by
 unfold Sz;rw[Rat.num_mkRat,Rat.den_mkRat,if_neg hd,if_neg hd];exact⟨Nat.lt_of_le_of_lt (Int.natAbs_ediv_le_natAbs _ _) h1,Nat.lt_of_le_of_lt (Nat.div_le_self _ _) h2⟩
theorem Sz.add{k l:Nat}{r s:Rat}(h:Sz k r)(h':Sz l s):Sz (k+l+1) (r+s):=by
 rw[Rat.add_def'];have e:(10:Nat)^(k+l+1)=10^k*10^l*10:=by rw[Nat.pow_succ,Nat.pow_add]
 have b1:=Nat.mul_lt_mul'' h.1 h'.2;have b2:=Nat.mul_lt_mul'' h'.1 h.2;have b3:=Nat.mul_lt_mul'' h.2 h'.2;rw[Nat.mul_comm (10^l)]at b2;refine Sz.mk (Nat.mul_ne_zero r.den_nz s.den_nz) ?_ (by omega)
 have:=Int.natAbs_add_le (r.num*(s.den:Int)) (s.num*(r.den:Int));rw[Int.natAbs_mul,Int.natAbs_mul,Int.natAbs_natCast,Int.natAbs_natCast]at this
 omega
theorem Sz.mul{k l:Nat}{r s:Rat}(h:Sz k r)(h':Sz l s):Sz (k+l) (r*s):=by
 rw[Rat.mul_def'];have b1:=Nat.mul_lt_mul'' h.1 h'.1;have b3:=Nat.mul_lt_mul'' h.2 h'.2;rw[←Nat.pow_add]at b1 b3;exact Sz.mk (Nat.mul_ne_zero r.den_nz s.den_nz) (by rw[Int.natAbs_mul];exact b1) b3
theorem Sz.neg{k:Nat}{r:Rat}(h:Sz k r):Sz k (-r):=⟨by rw[Rat.neg_num,Int.natAbs_neg];exact h.1,h.2⟩
theorem qdy{r s:Rat}(hs:0<s):r/s=mkRat (r.num*(s.den:Int)) (r.den*s.num.natAbs):=by
 have hsn:(s.num.natAbs:Int)=s.num:=by have:=Rat.num_nonneg.2 (Rat.le_of_lt hs);omega
 rw[Rat.div_def,Rat.inv_def,←hsn,Rat.divInt_ofNat]
 conv=>lhs;rw[←Rat.mkRat_self r]
 rw[Rat.mkRat_mul_mkRat,Int.natAbs_natCast]
end Go.Proofs.YtacihodamichhaaGreatDoor
