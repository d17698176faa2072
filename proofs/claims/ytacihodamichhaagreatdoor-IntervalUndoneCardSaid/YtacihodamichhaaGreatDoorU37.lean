/- Parts of the proof. -/
import Derived.Test.YtacihodamichhaaGreatDoorU36
set_option maxHeartbeats 8000000
namespace Go.Proofs.YtacihodamichhaaGreatDoor
open Go.RowKit
def RQ(w:World)(v:Value)(r:Rat):Prop:=∃q,RatV w v r.num q∧dn q=(r.den:Int)
theorem RQ.mono{w w':World}{v:Value}{r:Rat}(h:RQ w v r)(hb:Below w.heap.size w w'):RQ w' v r:=by
 obtain⟨q,h,hq⟩:=h;exact⟨q,h.mono hb,hq⟩
theorem qxz{w:World}{v:Value}{N:Int}{D:Nat}(hD:0<D)(h:RatV w v (N/((Nat.gcd N.natAbs D:Nat):Int)) ((D/Nat.gcd N.natAbs D:Nat):Int)):RQ w v (mkRat N D):=by
 refine⟨((D/Nat.gcd N.natAbs D:Nat):Int),?_,?_⟩
 ·rw[Rat.num_mkRat,if_neg (by omega),Nat.gcd_comm D]
  exact h
 ·rw[Rat.den_mkRat,if_neg (by omega),Nat.gcd_comm D]
  have:D/Nat.gcd N.natAbs D≠0:=Nat.ne_of_gt (Nat.div_pos (Nat.le_of_dvd hD (Nat.gcd_dvd_right _ _)) (Nat.gcd_pos_of_pos_right _ hD));have key:∀q:Nat,q≠0→dn (q:Int)=(q:Int):=fun q hq=>by unfold dn;rw[if_neg (by omega)]
  exact key _ this
set_option maxRecDepth 10000 in
theorem qei(u v:Value)(N:Int)(D:Nat)(w:World)(h:IntV w u N)(h':IntV w v (D:Int))(hD:0<D)(hf:Few N.natAbs)(hf':Few D):
  Calls Tryz.prog 111 #[u,v] w (RetP (fun r w'=>RQ w' r (mkRat N D)) w):=by
 obtain⟨x,a,n,c,rfl,h⟩:=h.open;obtain⟨y,e,m,k,rfl,h'⟩:=h'.open;have hA:Blk (((w.alloc (.cells #[.bool x,.slice a n c] 75)).alloc (.cells #[.bool y,.slice e m k] 75)).alloc (.cells #[.bool false,.slice none 0 0,.bool false,.slice none 0 0] 77)) w.heap.size #[.bool x,.slice a n c] 75:=((Blk.new w _ _).old _).old _
 have hB:Blk (((w.alloc (.cells #[.bool x,.slice a n c] 75)).alloc (.cells #[.bool y,.slice e m k] 75)).alloc (.cells #[.bool false,.slice none 0 0,.bool false,.slice none 0 0] 77)) (w.heap.size+1) #[.bool y,.slice e m k] 75:=by
  have h:=(Blk.new (w.alloc (.cells #[.bool x,.slice a n c] 75)) #[.bool y,.slice e m k] 75).old (.cells #[.bool false,.slice none 0 0,.bool false,.slice none 0 0] 77)
  simpa using h
 have hR:Blk (((w.alloc (.cells #[.bool x,.slice a n c] 75)).alloc (.cells #[.bool y,.slice e m k] 75)).alloc (.cells #[.bool false,.slice none 0 0,.bool false,.slice none 0 0] 77)) (w.heap.size+1+1) #[.bool false,.slice none 0 0,.bool false,.slice none 0 0] 77:=by
  have h:=Blk.new ((w.alloc (.cells #[.bool x,.slice a n c] 75)).alloc (.cells #[.bool y,.slice e m k] 75)) #[.bool false,.slice none 0 0,.bool false,.slice none 0 0] 77
  simpa using h
 have HS:=hI (fun w' (hb:Below (((w.alloc (.cells #[.bool x,.slice a n c] 75)).alloc (.cells #[.bool y,.slice e m k] 75)).alloc (.cells #[.bool false,.slice none 0 0,.bool false,.slice none 0 0] 77)).heap.size (((w.alloc (.cells #[.bool x,.slice a n c] 75)).alloc (.cells #[.bool y,.slice e m k] 75)).alloc (.cells #[.bool false,.slice none 0 0,.bool false,.slice none 0 0] 77)) w')=>And.intro (qag (hA.below hb)).1 (qag (hB.below hb)).1);have HA:=hI hA;have HB:=hI hB;have HR:=hI hR;have HK:=hI (qes w (.cells #[.bool x,.slice a n c] 75) (.cells #[.bool y,.slice e m k] 75) (.cells #[.bool false,.slice none 0 0,.bool false,.slice none 0 0] 77));have hsg:¬((D:Int).sign<0):=by have:=Int.sign_eq_one_of_pos (show(0:Int)<(D:Int)by omega);omega
 have HP:=hI (fun w' (hb:Below w.heap.size w w')=>And.intro (h.mono hb) (h'.mono hb));have H1:=hI (fun w' (hb:Below w.heap.size w w')=>qdo _ (D:Int) w' (h'.mono hb));have H2:=hI (fun w' (hb:Below w.heap.size w w')=>qlx _ _ N (D:Int) w' (h.mono hb) (h'.mono hb) hf (by rw[Int.natAbs_natCast];exact hf'));rw[Int.natAbs_natCast]at H2;have hgp:0<Nat.gcd N.natAbs D:=Nat.gcd_pos_of_pos_right _ hD;have hgD:Nat.gcd N.natAbs D∣D:=Nat.gcd_dvd_right _ _;have hgN:((Nat.gcd N.natAbs D:Nat):Int)∣N:=Int.ofNat_dvd_left.2 (Nat.gcd_dvd_left _ _);have HZ:=hI (fun(w':World) (v:Value) (h:RatV w' v (N/((Nat.gcd N.natAbs D:Nat):Int)) ((D/Nat.gcd N.natAbs D:Nat):Int))=>qxz (N:=N) hD h);have HD1:=hI (fun w' u v (h:IntV w' u N) (h':IntV w' v ((Nat.gcd N.natAbs D:Nat):Int))=>qnp u v N (Nat.gcd N.natAbs D) w' h h' hgp hgN hf);have HD2:=hI (fun w' u v (h:IntV w' u (D:Int)) (h':IntV w' v ((Nat.gcd N.natAbs D:Nat):Int))=>qnp u v (D:Int) (Nat.gcd N.natAbs D) w' h h' hgp (Int.natCast_dvd_natCast.2 hgD) (by rw[Int.natAbs_natCast];exact hf'));rw[←Int.natCast_ediv]at HD2;generalize Nat.gcd N.natAbs D=G at*;have H3:=hI (fun w'=>qdt w');have H4:=hI (fun w' u u' (h1:IntV w' u ((G:Nat):Int)) (h2:IntV w' u' 1)=>qbh u u' ((G:Nat):Int) 1 w' h1 h2);generalize(D:Int).sign=sg at*;have Hgp:=hI hgp;clear h h' hA hB hR hf hf' hgN hgD hgp hD
 by_cases hG:G=1
 ·subst hG
  rw[show cmpZ ((1:Nat):Int) 1=0 from rfl]at H4
  go_enter Tryz.func111,Tryz.ntmps111
  go_wp2_with (first
   |(go_at_call 131;refine(H1.out _ HK.out).mono ?_;rintro e1 w1 ⟨rfl,hb1⟩;obtain⟨⟨c0,c1⟩,d0,d1⟩:=HS.out _ hb1)
   |(go_at_call 145;refine(H2.out _ (HK.out.via hb1 HK.out.size)).mono ?_;rintro e2 w2 ⟨vg,rfl,hv,hb2⟩;obtain⟨xg,ag,ng,cg,rfl,hv⟩:=hv.open;have Hb12:=hI (qaa hb1 hb2);clear hb1 hb2 c0 c1 d0 d1;have Hv:=hI hv;clear hv))
  have hB5:=Blk.new w2 #[.bool xg,.slice ag ng cg] 75;have HG5:=hI hB5;have HV5:=hI (fun w' (hb:Below (w2.alloc (.cells #[.bool xg,.slice ag ng cg] 75)).heap.size (w2.alloc (.cells #[.bool xg,.slice ag ng cg] 75)) w')=>Hv.out.mono ((qac w2 (.cells #[.bool xg,.slice ag ng cg] 75)).via hb (qac w2 _).size));have H15:=hI (qaa Hb12.out (qac w2 (.cells #[.bool xg,.slice ag ng cg] 75)));have Hgne:=hI (show w2.heap.size≠w.heap.size∧w2.heap.size≠w.heap.size+1 from by have h:=Hb12.out.size;simp at h;omega);clear hB5 Hv;refine wp_region_held_drew (S:=(fun w'=>w'.cell? ⟨w2.heap.size,0,none⟩=some (.bool xg)∧w'.cell? ⟨w2.heap.size,1,none⟩=some (.slice ag ng cg))) (by kernel_rfl) (by exact(qag (HG5.out.below ((Below.refl _ _).dn 1))).1) (fun hHeld=>?_)
  refine' tk 0 ?_;(try simp only[tkS]);refine tk1 1 (fun K hK=>?_)
  go_simp;go_at_call 141;refine(H3.out _).mono ?_
  rintro e5 w1 ⟨v1,rfl,hv1,hb1⟩;have Hb1:=hI (qaa ((Below.refl _ _).dn 1) hb1);have Hv1:=hI hv1;clear hv1;clear hb1;refine hK.out _ _ (by exact(qag (HG5.out.below (Hb1.out))).1) (fun hHeld=>?_)
  clear hK K;(try simp only[tkS]);refine tk1 2 (fun K hK=>?_)
  go_simp;go_at_call 116;refine(H4.out _ _ _ (HV5.out _ (Hb1.out)) Hv1.out).mono ?_
  rintro e5 w2 ⟨rfl,hb2⟩;have Hv1:=hI (Hv1.out.mono hb2);have Hb2:=hI (qaa (Hb1.out) hb2);clear hb2;refine hK.out _ _ (by exact(qag (HG5.out.below (Hb2.out))).1) (fun hHeld=>?_)
  clear hK K;(try simp only[tkS]);refine' tk 3 ?_;(try simp only[tkS]);refine tkD ?_ _
  have Hbf:=hI (qaa H15.out Hb2.out);obtain⟨⟨c0,c1⟩,d0,d1⟩:=HS.out _ Hbf.out;have hr:=HR.out.below Hbf.out;obtain⟨⟨r0,r1,r2,r3⟩,f0,f1,f2,f3⟩:=qam hr;have hP:=HP.out _ (HK.out.via Hbf.out HK.out.size);have hrv:RatV _ (.agg #[.bool x,.slice a n c,.bool y,.slice e m k]) N (D:Int):=⟨x,a,n,c,y,e,m,k,rfl,hP.1,hP.2⟩
  obtain⟨hv6,hb6⟩:=RatV.put4 hrv hr;have Hv6:=hI hv6;have Hb6:=hI hb6;have Hbel:=hI (qap (b:=w.heap.size+1+1) (.bool x) (.slice a n c) (.bool y) (.slice e m k) (HK.out.via Hbf.out HK.out.size) (by omega));clear hv6 hb6 hrv hP hr
  go_wp2_with fail
  obtain⟨⟨q0,q1,q2,q3⟩,-⟩:=qam Hb6.out;exact bodyPost_ret (v:=.agg #[.bool x,.slice a n c,.bool y,.slice e m k]) (by simp[results,Tryz.results111,go_sem,q0,q1,q2,q3]) rfl ⟨_,rfl,HZ.out _ _ (by rw[show((1:Nat):Int)=1 from rfl,Int.ediv_one,Nat.div_one];exact Hv6.out),Hbel.out⟩
 ·have hc1:cmpZ ((G:Nat):Int) 1=1:=by have:=Hgp.out;unfold cmpZ;rw[if_neg (by omega),if_pos (by omega)]
  rw[hc1]at H4
  go_enter Tryz.func111,Tryz.ntmps111
  go_wp2_with (first
   |(go_at_call 131;refine(H1.out _ HK.out).mono ?_;rintro e1 w1 ⟨rfl,hb1⟩;obtain⟨⟨c0,c1⟩,d0,d1⟩:=HS.out _ hb1)
   |(go_at_call 145;refine(H2.out _ (HK.out.via hb1 HK.out.size)).mono ?_;rintro e2 w2 ⟨vg,rfl,hv,hb2⟩;obtain⟨xg,ag,ng,cg,rfl,hv⟩:=hv.open;have Hb12:=hI (qaa hb1 hb2);clear hb1 hb2 c0 c1 d0 d1;have Hv:=hI hv;clear hv))
  have hB5:=Blk.new w2 #[.bool xg,.slice ag ng cg] 75;have HG5:=hI hB5;have HV5:=hI (fun w' (hb:Below (w2.alloc (.cells #[.bool xg,.slice ag ng cg] 75)).heap.size (w2.alloc (.cells #[.bool xg,.slice ag ng cg] 75)) w')=>Hv.out.mono ((qac w2 (.cells #[.bool xg,.slice ag ng cg] 75)).via hb (qac w2 _).size));have H15:=hI (qaa Hb12.out (qac w2 (.cells #[.bool xg,.slice ag ng cg] 75)));have Hgne:=hI (show w2.heap.size≠w.heap.size∧w2.heap.size≠w.heap.size+1 from by have h:=Hb12.out.size;simp at h;omega);clear hB5 Hv;refine wp_region_held_drew (S:=(fun w'=>w'.cell? ⟨w2.heap.size,0,none⟩=some (.bool xg)∧w'.cell? ⟨w2.heap.size,1,none⟩=some (.slice ag ng cg))) (by kernel_rfl) (by exact(qag (HG5.out.below ((Below.refl _ _).dn 1))).1) (fun hHeld=>?_)
  refine' tk 0 ?_;(try simp only[tkS]);refine tk1 1 (fun K hK=>?_)
  go_simp;go_at_call 141;refine(H3.out _).mono ?_
  rintro e5 w1 ⟨v1,rfl,hv1,hb1⟩;have Hb1:=hI (qaa ((Below.refl _ _).dn 1) hb1);have Hv1:=hI hv1;clear hv1;clear hb1;refine hK.out _ _ (by exact(qag (HG5.out.below (Hb1.out))).1) (fun hHeld=>?_)
  clear hK K;(try simp only[tkS]);refine tk1 2 (fun K hK=>?_)
  go_simp;go_at_call 116;refine(H4.out _ _ _ (HV5.out _ (Hb1.out)) Hv1.out).mono ?_
  rintro e5 w2 ⟨rfl,hb2⟩;have Hv1:=hI (Hv1.out.mono hb2);have Hb2:=hI (qaa (Hb1.out) hb2);clear hb2;refine hK.out _ _ (by exact(qag (HG5.out.below (Hb2.out))).1) (fun hHeld=>?_)
  clear hK K;(try simp only[tkS]);refine' tk 3 ?_;(try simp only[tkS]);refine tkD ?_ _
  have Hbf:=hI (qaa H15.out Hb2.out);obtain⟨⟨c0,c1⟩,d0,d1⟩:=HS.out _ Hbf.out;obtain⟨⟨g0,g1⟩,-⟩:=qag (HG5.out.below Hb2.out)
  go_wp2_with (first
   |(have _t:=Hb7;clear _t;go_at_call 146;refine(HD2.out _ _ _ Hd7.out Hg7.out).mono ?_;rintro e w8 ⟨v8,rfl,⟨x8,a8,k8,c8,r8,rfl,hq8⟩,hb8⟩;have hB8:=HB7.out.below hb8;have hA8:=HA7.out.below hb8;have hR8:=HR7.out.below hb8;obtain⟨⟨z0,z1⟩,f4,f5⟩:=qag hB8;obtain⟨⟨z2,z3⟩,f6,f7⟩:=qag hA8;obtain⟨⟨r0,r1,r2,r3⟩,t0,t1,t2,t3⟩:=qam hR8;obtain⟨s1,s2,s3,s4⟩:=stI x8 a8 k8 c8 hB8;have hrv:RatV _ (.agg #[.bool x6,.slice a6 k6 c6,.bool x8,.slice a8 k8 c8]) (N/(G:Int)) ((D/G:Nat):Int):=⟨x6,a6,k6,c6,x8,a8,k8,c8,rfl,s2 _ _ (Hq7.out.mono hb8),s2 _ _ hq8⟩;have hR9:=s3 _ _ _ hR8 (show w.heap.size+1+1≠w.heap.size+1 by omega);obtain⟨hv9,hb9⟩:=RatV.put4 hrv hR9;have HA9:=hI (s3 _ _ _ hA8 (show w.heap.size≠w.heap.size+1 by omega));have Hv9:=hI hv9;have Hb9:=hI hb9;have Hbel:=hI (qap (b:=w.heap.size+1+1) (.bool x6) (.slice a6 k6 c6) (.bool x8) (.slice a8 k8 c8) (s4 _ _ (Hb7.out.via hb8 Hb7.out.size) (by omega)) (by omega));obtain⟨⟨o0,o1⟩,-⟩:=qag HA9.out;obtain⟨⟨o2,o3⟩,-⟩:=qag s1;obtain⟨⟨o4,o5,o6,o7⟩,p0,p1,p2,p3⟩:=qam hR9;clear s1 s2 s3 s4 hrv hR9 hv9 hb9 hq8 hb8 hB8 hA8 hR8)
   |(go_at_call 146;refine(HD1.out _ _ _ (HP.out _ (HK.out.via Hbf.out HK.out.size)).1 (HV5.out _ Hb2.out)).mono ?_;rintro e w6 ⟨v6,rfl,⟨x6,a6,k6,c6,r6,rfl,hq6⟩,hb6⟩;have hb36:=qaa Hbf.out hb6;have hA6:=HA.out.below hb36;have hB6:=HB.out.below hb36;have hG6:=HG5.out.below (qaa Hb2.out hb6);obtain⟨⟨u0,u1⟩,f0,f1⟩:=qag hA6;obtain⟨⟨u2,u3⟩,f2,f3⟩:=qag hB6;obtain⟨⟨u4,u5⟩,-⟩:=qag hG6;obtain⟨s1,s2,s3,s4⟩:=stI x6 a6 k6 c6 hA6;have HA7:=hI s1;have HB7:=hI (s3 _ _ _ hB6 (show w.heap.size+1≠w.heap.size by omega));have HG7:=hI (s3 _ _ _ hG6 Hgne.out.1);have HR7:=hI (s3 _ _ _ (HR.out.below hb36) (show w.heap.size+1+1≠w.heap.size by omega));have Hq7:=hI (s2 _ _ hq6);have Hd7:=hI (s2 _ _ (HP.out _ (HK.out.via hb36 HK.out.size)).2);have Hg7:=hI (s2 _ _ ((HV5.out _ Hb2.out).mono hb6));have Hb7:=hI (s4 _ _ (HK.out.via hb36 HK.out.size) (Nat.le_refl _));have Hng:=Hgne.out.1;obtain⟨⟨y0,y1⟩,-⟩:=qag HB7.out;obtain⟨⟨y2,y3⟩,-⟩:=qag HG7.out;clear s1 s2 s3 s4 hq6 hb6 hb36 hA6 hB6 hG6))
  obtain⟨⟨q0,q1,q2,q3⟩,-⟩:=qam Hb9.out;exact bodyPost_ret (v:=.agg #[.bool x6,.slice a6 k6 c6,.bool x8,.slice a8 k8 c8]) (by simp[results,Tryz.results111,go_sem,q0,q1,q2,q3]) rfl ⟨_,rfl,HZ.out _ _ Hv9.out,Hbel.out⟩
end Go.Proofs.YtacihodamichhaaGreatDoor
