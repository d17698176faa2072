/- Parts of the proof. -/
import Derived.Test.YtacihodamichhaaGreatDoorU47
set_option maxHeartbeats 16000000
namespace Go.Proofs.YtacihodamichhaaGreatDoor
open Go.RowKit
def unbB(xs:List Iv):Bool:=xs.any fun x=>decide (x.le=2∨x.he=2)
def lenF(s:Rat)(x:Iv):Rat:=s+(ratS x.hi-ratS x.lo)
def lenR(xs:List Iv):Rat:=xs.foldl lenF 0
def lenV(xs:List Iv):Value:=if unbB xs=true then .tuple #[.string ⟨#[]⟩,.int .i64 22]else .tuple #[.string ⟨(txtR (lenR xs)).toArray⟩,.int .i64 0]
theorem qq5{K:Nat}:∀(l:List Iv) (r:Rat) (m:Nat),Sz m r→(∀x∈l,Sz K (ratS x.lo)∧Sz K (ratS x.hi))→Sz (m+l.length*(2*K+2)) (l.foldl lenF r)
 |[],_,_,h,_=>by simpa using h
 |x::l,r,m,h,hl=>by
  obtain⟨hx1,hx2⟩:=hl x List.mem_cons_self
  have h0:Sz (m+(K+K+1)+1) (lenF r x):=by
   unfold lenF;rw[Rat.sub_eq_add_neg];exact h.add (hx2.add hx1.neg)
  have h1:=qq5 l (lenF r x) (m+(K+K+1)+1) h0 (fun y hy=>hl y (List.mem_cons_of_mem _ hy));rw[List.foldl_cons,List.length_cons];refine h1.mono ?_
  rw[Nat.add_mul]
  omega
theorem rqs3{w:World}{b:Nat}{T:TypeId}{x1 y1 x2 y2 x3 y3:Bool}{a1 e1 a2 e2 a3 e3:Option Addr}{n1 c1 m1 d1 n2 c2 m2 d2 n3 c3 m3 d3:Nat}{r1 r2 r3:Rat}(h:Blk w b #[.bool x1,.slice a1 n1 c1,.bool y1,.slice e1 m1 d1,.bool x2,.slice a2 n2 c2,.bool y2,.slice e2 m2 d2,.bool x3,.slice a3 n3 c3,.bool y3,.slice e3 m3 d3] T)
  (h1:RQ w (.agg #[.bool x1,.slice a1 n1 c1,.bool y1,.slice e1 m1 d1]) r1) (h2:RQ w (.agg #[.bool x2,.slice a2 n2 c2,.bool y2,.slice e2 m2 d2]) r2) (h3:RQ w (.agg #[.bool x3,.slice a3 n3 c3,.bool y3,.slice e3 m3 d3]) r3):RQs w (.slice (some ⟨b,0,none⟩) 3 3) [r1,r2,r3]:=by
 refine⟨[[.bool x1,.slice a1 n1 c1,.bool y1,.slice e1 m1 d1],[.bool x2,.slice a2 n2 c2,.bool y2,.slice e2 m2 d2],[.bool x3,.slice a3 n3 c3,.bool y3,.slice e3 m3 d3]],rfl,?_,?_⟩
 ·exact Sl.blk (rows:=[[.bool x1,.slice a1 n1 c1,.bool y1,.slice e1 m1 d1],[.bool x2,.slice a2 n2 c2,.bool y2,.slice e2 m2 d2],[.bool x3,.slice a3 n3 c3,.bool y3,.slice e3 m3 d3]]) h (fun r hr=>by
   simp only[List.mem_cons,List.not_mem_nil,or_false]at hr
   rcases hr with rfl|rfl|rfl<;>rfl) rfl (show 3≤1000 by decide)
 ·intro k row r hr hrs
  rcases k with _|_|_|k
  ·cases hr;cases hrs;exact h1
  ·cases hr;cases hrs;exact h2
  ·cases hr;cases hrs;exact h3
  ·simp at hr
theorem sum3(s h l:Rat):sumR [s,h,-l]=s+(h-l):=by
 show 0+s+h+-l=s+(h-l)
 rw[Rat.zero_add,Rat.sub_eq_add_neg,Rat.add_assoc]
theorem qws{xs:List Iv}{k:Nat}{x:Iv}(h:xs[k]?=some x):unbB (xs.take (k+1))=(unbB (xs.take k)||decide (x.le=2∨x.he=2)):=by
 unfold unbB;rw[qbd h,List.any_append];simp
theorem qpb{xs:List Iv}{k:Nat}{x:Iv}(h:xs[k]?=some x)(hx:x.le=2∨x.he=2):unbB xs=true:=by
 unfold unbB;exact List.any_eq_true.2 ⟨x,List.mem_of_getElem? h,decide_eq_true hx⟩
set_option maxRecDepth 10000 in
theorem qkp(u:Value)(xs:List Iv)(K:Nat)(w:World)(h:Ivs w u xs)(hs:∀x∈xs,x.short)(he:qa5 xs=0)(hiv:∀x∈xs,qba x=0)(hn:xs.length≤256)(hz:∀x∈xs,x.lo.size≤K∧x.hi.size≤K)(hK1:1≤K)(hK:1+xs.length*(2*K+2)≤9000)(hT:Tab w):
  Calls Tryz.prog 31 #[u] w (Ret (lenV xs) w):=by
 have HP:=hI (qgc u xs w h hs);unfold qh5 at HP;rw[he]at HP;have hzz:∀x∈xs,Sz K (ratS x.lo)∧Sz K (ratS x.hi):=fun x hx=>⟨qcw (hz x hx).1 hK1,qcw (hz x hx).2 hK1⟩
 have hpart:∀k,Sz 9000 (lenR (xs.take k)):=fun k=>(qq5 (xs.take k) 0 1 ⟨by decide,by decide⟩ (fun x hx=>hzz x (List.mem_of_mem_take hx))).mono (Nat.le_trans (Nat.add_le_add_left (Nat.mul_le_mul_right _ (by rw[List.length_take];omega)) 1) hK)
 have HSz:=hI hpart;have HEl:=hI (fun(k:Nat) (x:Iv) (hx:xs[k]?=some x)=>And.intro (hzz x (List.mem_of_getElem? hx)) (hiv x (List.mem_of_getElem? hx)))
 have HK9:=hI (show xs=[]∨K≤9000 from by
  rcases xs with _|⟨x,xr⟩
  ·exact .inl rfl
  ·right
   rw[List.length_cons,Nat.add_mul]at hK
   omega)
 have HT:=hI hT
 have HFin:=hI (show unbB (xs.take xs.length)=false→lenV xs=.tuple #[.string ⟨(txtR (lenR (xs.take xs.length))).toArray⟩,.int .i64 0]from fun h=>by
  rw[List.take_length]at h⊢;unfold lenV
  rw[if_neg (by rw[h];decide)])
 have HHit:=hI (show unbB xs=true→lenV xs=.tuple #[.string ⟨#[]⟩,.int .i64 22]from fun h=>by
  unfold lenV
  rw[if_pos h])
 obtain⟨V,hV⟩:∃V,lenV xs=V:=⟨_,rfl⟩
 rw[hV]at HFin HHit⊢;obtain⟨a,c,rfl,-,-⟩:=h.open;obtain⟨N,hN⟩:∃N,xs.length=N:=⟨_,rfl⟩
 have HNl:=hI hN;rw[hN]at HP hn HFin⊢;clear h hs he hiv hz hK1 hK hT hzz hpart hV hN
 go_enter Tryz.func31,Tryz.ntmps31
 go_wp2_with (go_at_call 56;refine(HP.out).mono ?_;rintro e w1 ⟨⟨v1,rfl,hq,-⟩,hb1⟩;obtain⟨ap,cp,ps,rfl,hps,hcs⟩:=hq (by first|rfl|trivial);have hl1:ps.length=N:=(by have:=congrArg List.length hcs;rw[List.length_map,List.length_map]at this;rw[this];exact HNl.out);rw[hl1]at hps;rw[hl1];have Hps:=hI hps;have Hcs:=hI hcs;have Hb1:=hI hb1;clear hq hps hcs hb1)
 go_loopw [20] (fun i wr=>∃(k:Nat) (x:Bool) (e:Option Addr) (m c:Nat) (x':Bool) (e':Option Addr) (m' c':Nat),k≤N∧i=.int .i64 (k:Int)∧Below w1.heap.size w1 wr∧Blk wr w1.heap.size #[.bool x,.slice e m c,.bool x',.slice e' m' c'] 77∧Hid (RQ wr (.agg #[.bool x,.slice e m c,.bool x',.slice e' m' c']) (lenR (xs.take k))∧unbB (xs.take k)=false)) (fun i _=>N-(intOf i).toNat)
 case atStart=>
  exact⟨0,false,none,0,0,false,none,0,0,by omega,rfl,qac _ _,Blk.new w1 _ _,⟨⟨0,RatV.zero _,rfl⟩,rfl⟩⟩
 case round=>
  obtain⟨k,x,e,m,c,x',e',m',c',hk,rfl,hbw,hblk,hq⟩:=hrel;have Hbw:=hI hbw;have Hblk:=hI hblk;have Hq:=hI hq.out;obtain⟨⟨q0,q1,q2,q3⟩,-⟩:=qam hblk;rcases Nat.lt_or_ge k N with hlt|hge
  ·obtain⟨b,off,p,rfl,hp,hpok,z0,z1,z2,z3,z4,z5,z6,z7,z8,z9,z10,z11,z12,z13⟩:=qa0.at Hps.out hbw hlt
   have hkl:k<xs.length:=by rw[HNl.out];exact hlt
   obtain⟨xv,hxv⟩:∃y,xs[k]?=some y:=⟨_,List.getElem?_eq_getElem hkl⟩
   have hpcut:p.cuts=xv.cuts:=by
    have h:=congrArg (fun l=>l[k]?) Hcs.out;simp only[List.getElem?_map,hp,hxv,Option.map_some]at h;exact Option.some.inj h
   obtain⟨⟨hzl,hzh⟩,hie⟩:=HEl.out k xv hxv;obtain⟨hcl,hch⟩:=qxp hie;have hl1:p.l.c=qd5 xv.lo xv.le 1:=congrArg (fun q=>q.1) hpcut;have hh1:p.h.c=qd5 xv.hi xv.he (-1):=congrArg (fun q=>q.2) hpcut;have hkn:(k:Int)<(N:Int):=by omega
   have hk0:(0:Int)≤(k:Int):=Int.natCast_nonneg _;have hkw:IntKind.i64.wrap ((k:Int)+1)=(k:Int)+1:=IntWalk.i64_in _ (by omega)
   by_cases h2:xv.le=2
   ·have hb1:(p.l.c.b !=0)=true:=by rw[bne_iff_ne,hl1,h2];exact qq2 (.inl rfl)
    have Hv:=hI (HHit.out (qpb hxv (.inl h2)));clear hp hpok hxv hpcut hzl hzh hie hcl hch hl1 hh1 h2 hblk hbw hq;generalize p.l.c.b=bl at*
    go_wp2_with fail
    go_ret2
    exact⟨by rw[Hv.out];rfl,qaa Hb1.out (bwA Hbw.out _)⟩
   ·have hlb:p.l.c.b=0:=by rw[hl1];exact(qg4 h2).1
    rw[hlb]at z0
    by_cases h3:xv.he=2
    ·have hb1:(p.h.c.b !=0)=true:=by rw[bne_iff_ne,hh1,h3];exact qq2 (.inr rfl)
     have Hv:=hI (HHit.out (qpb hxv (.inr h3)));clear hp hpok hxv hpcut hzl hzh hie hcl hch hl1 hh1 h2 h3 hblk hbw hq hlb;generalize p.h.c.b=bl at*
     go_wp2_with fail
     go_ret2
     exact⟨by rw[Hv.out];rfl,qaa Hb1.out (bwA Hbw.out _)⟩
    ·have hhb:p.h.c.b=0:=by rw[hh1];exact(qg4 h3).1
     rw[hhb]at z7;have hls:p.l.c.s=xv.lo:=by rw[hl1];exact(qg4 h2).2
     have hhs:p.h.c.s=xv.hi:=by rw[hh1];exact(qg4 h3).2
     have hRL:RQ wr (.agg #[.bool p.l.x,.slice p.l.a p.l.n p.l.cap,.bool p.l.y,.slice p.l.e p.l.m p.l.cap2]) (ratS xv.lo):=by have:=qfc hpok.1.1;rw[hls]at this;exact this
     have hRH:RQ wr (.agg #[.bool p.h.x,.slice p.h.a p.h.n p.h.cap,.bool p.h.y,.slice p.h.e p.h.m p.h.cap2]) (ratS xv.hi):=by have:=qfc hpok.2.1;rw[hhs]at this;exact this
     have HRR:=hI (And.intro hRL hRH)
     have hKk:K≤9000:=by
      rcases HK9.out with h|h
      ·rw[h]at hkl;exact absurd hkl (Nat.not_lt_zero _)
      ·exact h
     have Hstep:=hI (show lenR (xs.take k)+(ratS xv.hi-ratS xv.lo)=lenR (xs.take (k+1))from by
      unfold lenR;rw[qbd hxv,List.foldl_append]
      rfl)
     have Hun:=hI (show unbB (xs.take (k+1))=false from by rw[qws hxv,Hq.out.2,decide_eq_false (fun h=>h.elim h2 h3)];rfl)
     have Hz3:=hI (show ∀r∈[lenR (xs.take k),ratS xv.hi,-(ratS xv.lo)],Sz 9000 r from fun r hr=>by
      simp only[List.mem_cons,List.not_mem_nil,or_false]at hr;rcases hr with rfl|rfl|rfl
      ·exact HSz.out k
      ·exact hzh.mono hKk
      ·exact(hzl.mono hKk).neg)
     have HSx:=hI (fun w' (hb:Below (wr.alloc (.cells #[.int .i64 0,.string p.l.c.s,.int .i64 p.l.c.d,.bool p.l.x,.slice p.l.a p.l.n p.l.cap,.bool p.l.y,.slice p.l.e p.l.m p.l.cap2,.int .i64 0,.string p.h.c.s,.int .i64 p.h.c.d,.bool p.h.x,.slice p.h.a p.h.n p.h.cap,.bool p.h.y,.slice p.h.e p.h.m p.h.cap2] 84)).heap.size (wr.alloc (.cells #[.int .i64 0,.string p.l.c.s,.int .i64 p.l.c.d,.bool p.l.x,.slice p.l.a p.l.n p.l.cap,.bool p.l.y,.slice p.l.e p.l.m p.l.cap2,.int .i64 0,.string p.h.c.s,.int .i64 p.h.c.d,.bool p.h.x,.slice p.h.a p.h.n p.h.cap,.bool p.h.y,.slice p.h.e p.h.m p.h.cap2] 84)) w')=>show w'.cell? ⟨w1.heap.size,0,none⟩=some (.bool x)∧w'.cell? ⟨w1.heap.size,1,none⟩=some (.slice e m c)∧w'.cell? ⟨w1.heap.size,2,none⟩=some (.bool x')∧w'.cell? ⟨w1.heap.size,3,none⟩=some (.slice e' m' c')∧w'.cell? ⟨wr.heap.size,3,none⟩=some (.bool p.l.x)∧w'.cell? ⟨wr.heap.size,4,none⟩=some (.slice p.l.a p.l.n p.l.cap)∧w'.cell? ⟨wr.heap.size,5,none⟩=some (.bool p.l.y)∧w'.cell? ⟨wr.heap.size,6,none⟩=some (.slice p.l.e p.l.m p.l.cap2)∧w'.cell? ⟨wr.heap.size,10,none⟩=some (.bool p.h.x)∧w'.cell? ⟨wr.heap.size,11,none⟩=some (.slice p.h.a p.h.n p.h.cap)∧w'.cell? ⟨wr.heap.size,12,none⟩=some (.bool p.h.y)∧w'.cell? ⟨wr.heap.size,13,none⟩=some (.slice p.h.e p.h.m p.h.cap2)from by
      obtain⟨⟨o0,o1,o2,o3⟩,-⟩:=qam (Hblk.out.below (qaa (qac wr _) hb));have hn:=(Blk.new wr #[.int .i64 0,.string p.l.c.s,.int .i64 p.l.c.d,.bool p.l.x,.slice p.l.a p.l.n p.l.cap,.bool p.l.y,.slice p.l.e p.l.m p.l.cap2,.int .i64 0,.string p.h.c.s,.int .i64 p.h.c.d,.bool p.h.x,.slice p.h.a p.h.n p.h.cap,.bool p.h.y,.slice p.h.e p.h.m p.h.cap2] 84).below hb
      exact⟨o0,o1,o2,o3,hn.cell 3,hn.cell 4,hn.cell 5,hn.cell 6,hn.cell 10,hn.cell 11,hn.cell 12,hn.cell 13⟩)
     clear hp hpok hxv hpcut hzl hzh hie hcl hch hl1 hh1 h2 h3 hblk hbw hq hlb hhb hls hhs hRL hRH hKk hkl;go_upto_region 10 with fail
     refine qar (S:=(fun w'=>w'.cell? ⟨w1.heap.size,0,none⟩=some (.bool x)∧w'.cell? ⟨w1.heap.size,1,none⟩=some (.slice e m c)∧w'.cell? ⟨w1.heap.size,2,none⟩=some (.bool x')∧w'.cell? ⟨w1.heap.size,3,none⟩=some (.slice e' m' c')∧w'.cell? ⟨wr.heap.size,3,none⟩=some (.bool p.l.x)∧w'.cell? ⟨wr.heap.size,4,none⟩=some (.slice p.l.a p.l.n p.l.cap)∧w'.cell? ⟨wr.heap.size,5,none⟩=some (.bool p.l.y)∧w'.cell? ⟨wr.heap.size,6,none⟩=some (.slice p.l.e p.l.m p.l.cap2)∧w'.cell? ⟨wr.heap.size,10,none⟩=some (.bool p.h.x)∧w'.cell? ⟨wr.heap.size,11,none⟩=some (.slice p.h.a p.h.n p.h.cap)∧w'.cell? ⟨wr.heap.size,12,none⟩=some (.bool p.h.y)∧w'.cell? ⟨wr.heap.size,13,none⟩=some (.slice p.h.e p.h.m p.h.cap2))) 10 (by kernel_rfl) (by kernel_rfl) (by exact HSx.out _ (bwD (wr.alloc (.cells #[.int .i64 0,.string p.l.c.s,.int .i64 p.l.c.d,.bool p.l.x,.slice p.l.a p.l.n p.l.cap,.bool p.l.y,.slice p.l.e p.l.m p.l.cap2,.int .i64 0,.string p.h.c.s,.int .i64 p.h.c.d,.bool p.h.x,.slice p.h.a p.h.n p.h.cap,.bool p.h.y,.slice p.h.e p.h.m p.h.cap2] 84)))) (fun hHeld=>?_)
     simp only[List.take_succ_cons,List.take_zero,List.drop_succ_cons,List.drop_zero];refine' tk 0 ?_;(try simp only[tkS]);refine' tk 1 ?_;(try simp only[tkS]);refine' tk 2 ?_;(try simp only[tkS]);refine' tk 3 ?_;(try simp only[tkS]);refine' tk 4 ?_;(try simp only[tkS]);refine' tk 5 ?_;(try simp only[tkS]);refine' tk 6 ?_;(try simp only[tkS]);refine tk1 7 (fun K hK=>?_)
     go_simp;go_at_call 82;refine(qud _ _ _ (HRR.out.1.mono (qaa (qac wr _) (bwD (wr.alloc (.cells #[.int .i64 0,.string p.l.c.s,.int .i64 p.l.c.d,.bool p.l.x,.slice p.l.a p.l.n p.l.cap,.bool p.l.y,.slice p.l.e p.l.m p.l.cap2,.int .i64 0,.string p.h.c.s,.int .i64 p.h.c.d,.bool p.h.x,.slice p.h.a p.h.n p.h.cap,.bool p.h.y,.slice p.h.e p.h.m p.h.cap2] 84)))))).mono ?_
     rintro z5 w5 ⟨v5,rfl,hv5,hb5⟩;obtain⟨x5,a5,n5,c5,y5,e5,m5,d5,rfl,hv5⟩:=hv5.open;have Hb5:=hI (qaa (bwD (wr.alloc (.cells #[.int .i64 0,.string p.l.c.s,.int .i64 p.l.c.d,.bool p.l.x,.slice p.l.a p.l.n p.l.cap,.bool p.l.y,.slice p.l.e p.l.m p.l.cap2,.int .i64 0,.string p.h.c.s,.int .i64 p.h.c.d,.bool p.h.x,.slice p.h.a p.h.n p.h.cap,.bool p.h.y,.slice p.h.e p.h.m p.h.cap2] 84))) hb5);have Hv5:=hI hv5;clear hv5 hb5;refine hK.out _ _ (by exact HSx.out _ (Hb5.out)) (fun hHeld=>?_)
     clear hK K;(try simp only[tkS]);refine tk1 8 (fun K hK=>?_)
     go_simp;refine hK.out _ _ (by exact HSx.out _ ((qad (Hb5.out) (.cells #[.bool x,.slice e m c,.bool x',.slice e' m' c',.bool p.h.x,.slice p.h.a p.h.n p.h.cap,.bool p.h.y,.slice p.h.e p.h.m p.h.cap2,.bool x5,.slice a5 n5 c5,.bool y5,.slice e5 m5 d5] 77)))) (fun hHeld=>?_)
     clear hK K;(try simp only[tkS]);refine tk1 9 (fun K hK=>?_)
     go_simp;go_at_call 81;refine(qxx _ [lenR (xs.take k),ratS xv.hi,-(ratS xv.lo)] 9000 _ (rqs3 (Blk.new w5 #[.bool x,.slice e m c,.bool x',.slice e' m' c',.bool p.h.x,.slice p.h.a p.h.n p.h.cap,.bool p.h.y,.slice p.h.e p.h.m p.h.cap2,.bool x5,.slice a5 n5 c5,.bool y5,.slice e5 m5 d5] 77) (Hq.out.1.mono (qaa (qac wr _) ((qad (Hb5.out) (.cells #[.bool x,.slice e m c,.bool x',.slice e' m' c',.bool p.h.x,.slice p.h.a p.h.n p.h.cap,.bool p.h.y,.slice p.h.e p.h.m p.h.cap2,.bool x5,.slice a5 n5 c5,.bool y5,.slice e5 m5 d5] 77))))) (HRR.out.2.mono (qaa (qac wr _) ((qad (Hb5.out) (.cells #[.bool x,.slice e m c,.bool x',.slice e' m' c',.bool p.h.x,.slice p.h.a p.h.n p.h.cap,.bool p.h.y,.slice p.h.e p.h.m p.h.cap2,.bool x5,.slice a5 n5 c5,.bool y5,.slice e5 m5 d5] 77))))) (Hv5.out.mono (qac w5 _))) Hz3.out (show(3+1)*(9000+1)≤40000 by decide)).mono ?_
     rintro z6 w6 ⟨v6,rfl,hv6,hb6⟩;rw[sum3,Hstep.out]at hv6;obtain⟨x6,a6,n6,c6,y6,e6,m6,d6,rfl,hv6⟩:=hv6.open;have Hb6:=hI (qaa ((qad (Hb5.out) (.cells #[.bool x,.slice e m c,.bool x',.slice e' m' c',.bool p.h.x,.slice p.h.a p.h.n p.h.cap,.bool p.h.y,.slice p.h.e p.h.m p.h.cap2,.bool x5,.slice a5 n5 c5,.bool y5,.slice e5 m5 d5] 77))) hb6);have Hv6:=hI hv6;clear hv6 hb6;refine hK.out _ _ (by exact HSx.out _ (Hb6.out)) (fun hHeld=>?_)
     clear hK K;(try simp only[tkS]);refine tkD ?_ _
     simp only[Exit.then];have hb7:=qaa (qac wr _) (Hb6.out);have hr:=Hblk.out.below hb7;obtain⟨⟨r0,r1,r2,r3⟩,f0,f1,f2,f3⟩:=qam hr;obtain⟨hv7,hb8⟩:=RQ.put4 Hv6.out hr;have Hv7:=hI hv7;have Hb8:=hI hb8;have Hbel:=hI (qap (b:=w1.heap.size) (.bool x6) (.slice a6 n6 c6) (.bool y6) (.slice e6 m6 d6) (Hbw.out.via hb7 Hbw.out.size) (Nat.le_refl _));clear hv7 hb8 hr hb7
     go_wp2_with fail
     go_roundw
     case rel=>exact⟨k+1,x6,a6,n6,c6,y6,e6,m6,d6,by omega,by go_num,Hbel.out,Hb8.out,⟨Hv7.out,Hun.out⟩⟩
     case measure=>simp[intOf]<;>omega
  ·obtain rfl:k=N:=by omega
   have hkn:¬(k:Int)<(k:Int):=by omega
   have HNu:=hI (show Calls Tryz.prog 61 #[.agg #[.bool x,.slice e m c,.bool x',.slice e' m' c']] wr (Ret (.string ⟨(txtR (lenR (xs.take k))).toArray⟩) wr)from qjb _ _ 1000 wr Hq.out.1 (HSz.out k) (by decide) (HT.out.mono (qaa Hb1.out hbw)));clear hblk hbw hq
   go_wp2_with (go_at_call 61;refine(HNu.out).mono ?_;rintro z w2 ⟨rfl,hb2⟩;have Hb2:=hI (qaa (qaa Hb1.out Hbw.out) hb2);clear hb2)
   go_ret2
   exact⟨by rw[HFin.out Hq.out.2];rfl,Hb2.out⟩
theorem qqp{p q p' q':Rat}(hp:p*p'=1)(hq:p*q'+q=0){s:ByteArray}(h:errL s.data.toList=0):movS p q (movS p' q' s)=s:=by
 obtain⟨r,hs,hr⟩:=qoe h;have h1:errL (movS p' q' s).data.toList=0:=by rw[qhn h];exact qbi _
 rw[qhn h1,qc9 h,hr]
 have e:p*(p'*r+q')+q=r:=by
  rw[Rat.mul_add,←Rat.mul_assoc,hp,Rat.one_mul,Rat.add_assoc,hq,Rat.add_zero]
 rw[e,←hs]
theorem qls{p p':Rat}(hp:p*p'=1):p<0↔p'<0:=by
 have key:∀{a b:Rat},a*b=1→a<0→b<0:=fun {a b} h ha=>Classical.byContradiction fun hb=>by
  have h1:0≤-a:=by grind
  have h2:=Rat.mul_nonneg h1 (Rat.not_lt.1 hb);rw[Rat.neg_mul,h]at h2;exact absurd h2 (by decide)
 exact⟨key hp,key (by rw[Rat.mul_comm];exact hp)⟩
theorem qho{p q:Rat}{c:Cut}(h:PlC c):PlC (movC p q c):=by
 have hb:(movC p q c).b=0↔c.b=0:=by unfold movC;dsimp only;split<;>omega
 constructor
 ·intro h0
  have h0':c.b≠0:=fun k=>h0 (hb.2 k)
  obtain⟨h1,h2⟩:=h.inf h0';unfold movC;dsimp only;rw[if_neg h0',h1,h2,qdp];exact⟨rfl,rfl⟩
 ·intro h0
  have h0':=hb.1 h0;obtain⟨h1,h2,h3⟩:=h.fin h0';unfold movC;dsimp only;rw[if_pos h0',qhn h1];refine⟨qbi _,?_⟩
  split<;>omega
theorem qel{p q p' q':Rat}(hp:p*p'=1)(hq:p*q'+q=0){c:Cut}(h:PlC c):movC p q (movC p' q' c)=c:=by
 obtain⟨b,s,d⟩:=c;have hn:=qls hp;have hi:=h.inf;have hf:=h.fin;dsimp only at hi hf;unfold movC;dsimp only;rcases Classical.em (b=0)with h0|h0
 ·subst h0
  rw[qqp hp hq (hf rfl).1];rcases Classical.em (p'<0)with h1|h1
  ·have h2:=hn.2 h1
   simp only[h1,h2,if_true,Int.neg_zero]
   congr 1
   omega
  ·have h2:¬p<0:=fun k=>h1 (hn.1 k)
   simp only[h1,h2,if_false,if_true]
 ·obtain⟨e1,e2⟩:=hi h0
  rw[e1,e2,qdp,qdp];rcases Classical.em (p'<0)with h1|h1
  ·have h2:=hn.2 h1
   have h3:¬ -b=0:=by omega
   simp only[h1,h2,if_true,h0,h3,if_false,Int.neg_neg]
  ·have h2:¬p<0:=fun k=>h1 (hn.1 k)
   simp only[h1,h2,if_false,h0]
theorem qfe{p q:Rat}(hp:0<p){J:List RP}(hJ:∀r∈J,OkR r){c:Cut}(hc:PlC c):Mem ltR (mapJ p q J) (movC p q c)↔Mem ltR J c:=by
 have hn:¬p<0:=Rat.not_lt.2 (Rat.le_of_lt hp);unfold mapJ;rw[if_neg hn];have e:∀r,movP p q r=(movC p q r.1,movC p q r.2):=fun r=>by unfold movP;rw[if_neg hn]
 constructor
 ·rintro⟨r',hr',h1,h2⟩
  obtain⟨r,hr,rfl⟩:=List.mem_map.1 hr';rw[e]at h1 h2;exact⟨r,hr,fun k=>h1 ((qgd hp hc (hJ r hr).1.pl).2 k),(qgd hp hc (hJ r hr).2.pl).1 h2⟩
 ·rintro⟨r,hr,h1,h2⟩
  refine⟨_,List.mem_map_of_mem hr,?_⟩
  rw[e];exact⟨fun k=>h1 ((qgd hp hc (hJ r hr).1.pl).1 k),(qgd hp hc (hJ r hr).2.pl).2 h2⟩
theorem qff{p q:Rat}(hp:p<0){J:List RP}(hJ:∀r∈J,OkR r){c:Cut}(hc:PlC c):Mem ltR (mapJ p q J) (movC p q c)↔MemL ltR J c:=by
 unfold mapJ;rw[if_pos hp];have e:∀r,movP p q r=(movC p q r.2,movC p q r.1):=fun r=>by unfold movP;rw[if_pos hp]
 constructor
 ·rintro⟨r',hr',h1,h2⟩
  obtain⟨r,hr,rfl⟩:=List.mem_map.1 (List.mem_reverse.1 hr');rw[e]at h1 h2;exact⟨r,hr,(qge hp hc (hJ r hr).1.pl).1 h2,fun k=>h1 ((qge hp hc (hJ r hr).2.pl).2 k)⟩
 ·rintro⟨r,hr,h1,h2⟩
  refine⟨_,List.mem_reverse.2 (List.mem_map_of_mem hr),?_⟩
  rw[e];exact⟨fun k=>h2 ((qge hp hc (hJ r hr).2.pl).1 k),(qge hp hc (hJ r hr).1.pl).2 h1⟩
theorem qp2{p:Rat}(hp:p≠0):p*p⁻¹=1:=Rat.mul_inv_cancel p hp
theorem qq9{p q:Rat}(hp:p≠0):p*-(q*p⁻¹)+q=0:=by
 rw[Rat.mul_neg,Rat.mul_comm q,←Rat.mul_assoc,qp2 hp,Rat.one_mul,Rat.neg_add_cancel]
theorem qq0{p q:Rat}(hp:p≠0){A B:List RP}(oA:∀r∈A,OkR r)(oB:∀r∈B,OkR r)(mA:∀r∈mapJ p q A,OkR r)(mB:∀r∈mapJ p q B,OkR r)(mU:∀r∈mapJ p q (qa1 (A++B)),OkR r):
  qa1 (mapJ p q A++mapJ p q B)=mapJ p q (qa1 (A++B)):=by
 have oAB:∀r∈A++B,OkR r:=fun r hr=>(List.mem_append.1 hr).elim (oA r) (oB r)
 have oU:∀r∈qa1 (A++B),OkR r:=qbv (P:=RokC) oAB;refine qmg (qb0 _).1 (qm5 hp oU (qb0 _).1) (qbv (P:=RokC) fun r hr=>(List.mem_append.1 hr).elim (mA r) (mB r)) mU fun c hc=>?_
 have hc':=qel (q:=q) (qp2 hp) (qq9 hp) hc.pl;have hcp:PlC (movC p⁻¹ (-(q*p⁻¹)) c):=qho hc.pl;generalize movC p⁻¹ (-(q*p⁻¹)) c=d at*;subst hc';rw[qed,Mem.app];rcases qp1 hp with hn|hn
 ·rw[qff hn oA hcp,qff hn oB hcp,qff hn oU hcp,←MemL.app]
  exact⟨qqw qcd fun e he=>qed.2 he,qqw qcd fun e he=>qed.1 he⟩
 ·rw[qfe hn oA hcp,qfe hn oB hcp,qfe hn oU hcp,qed,Mem.app]
theorem qqq{p q p' q':Rat}(hp:p*p'=1)(hq:p*q'+q=0){r:RP}(h:PlC r.1∧PlC r.2):movP p q (movP p' q' r)=r:=by
 have hn:=qls hp;unfold movP;rcases Classical.em (p'<0)with h1|h1
 ·rw[if_pos (hn.2 h1),if_pos h1,qel hp hq h.1,qel hp hq h.2]
 ·rw[if_neg (fun k=>h1 (hn.1 k)),if_neg h1,qel hp hq h.1,qel hp hq h.2]
theorem qv2{p q:Rat}{r:RP}(h:PlC r.1∧PlC r.2):PlC (movP p q r).1∧PlC (movP p q r).2:=by
 unfold movP
 split
 ·exact⟨qho h.2,qho h.1⟩
 ·exact⟨qho h.1,qho h.2⟩
theorem qtc{p q p' q':Rat}(hp:p*p'=1)(hq:p*q'+q=0){xs:List Iv}{J:List RP}(h:SetI xs J):mapL p q (mapL p' q' xs)=xs:=by
 have hn:=qls hp
 have hx:∀x∈xs,mapI p q (mapI p' q' x)=x:=fun x hx=>by
  rw[h.eq]at hx;obtain⟨r,hr,rfl⟩:=List.mem_map.1 hx;have hr':=(h.ok r hr).pl;rw[qg3 hr',qg3 (qv2 hr'),qqq hp hq hr']
 have hmm:(xs.map (mapI p' q')).map (mapI p q)=xs:=by
  rw[List.map_map]
  conv=>rhs;rw[←List.map_id xs]
  exact List.map_congr_left hx
 unfold mapL;rcases Classical.em (p'<0)with h1|h1
 ·rw[if_pos (hn.2 h1),if_pos h1,List.map_reverse,List.reverse_reverse,hmm]
 ·rw[if_neg (fun k=>h1 (hn.1 k)),if_neg h1,hmm]
theorem qjd:∀(xs:List Iv) (s:Rat),xs.foldl lenF s=s+lenR xs
 |[],s=>by unfold lenR;exact(Rat.add_zero s).symm
 |x::xs,s=>by
  unfold lenR;rw[List.foldl_cons,List.foldl_cons,qjd xs,qjd xs (lenF 0 x)];unfold lenF;rw[Rat.zero_add,Rat.add_assoc]
theorem qdi(x:Iv)(xs:List Iv):lenR (x::xs)=(ratS x.hi-ratS x.lo)+lenR xs:=by
 show xs.foldl lenF (lenF 0 x)=_
 rw[qjd];unfold lenF;rw[Rat.zero_add]
theorem qnb:∀(xs ys:List Iv),lenR (xs++ys)=lenR xs+lenR ys
 |[],ys=>(Rat.zero_add _).symm
 |x::xs,ys=>by rw[List.cons_append,qdi,qdi,qnb xs ys,Rat.add_assoc]
theorem qna:∀(xs:List Iv),lenR xs.reverse=lenR xs
 |[]=>rfl
 |x::xs=>by
  rw[List.reverse_cons,qnb,qna xs,qdi,qdi,Rat.add_comm,show lenR []=0 from rfl,Rat.add_zero]
def absR(p:Rat):Rat:=if p<0 then -p else p
theorem qje{p q:Rat}:∀(xs:List Iv),unbB xs=false→(∀x∈xs,qba x=0)→lenR (xs.map (mapI p q))=lenR xs*absR p
 |[],_,_=>(Rat.zero_mul _).symm
 |x::xs,hu,he=>by
  unfold unbB at hu;rw[List.any_cons,Bool.or_eq_false_iff,decide_eq_false_iff_not]at hu;obtain⟨n1,n2⟩:=qxg (he x List.mem_cons_self);have m1:=qc9 (p:=p) (q:=q) (n1 fun k=>hu.1 (.inl k));have m2:=qc9 (p:=p) (q:=q) (n2 fun k=>hu.1 (.inr k));rw[List.map_cons,qdi,qdi,qje xs hu.2 (fun y hy=>he y (List.mem_cons_of_mem _ hy)),Rat.add_mul]
  congr 1
  unfold mapI absR
  split
  ·dsimp only
   rw[m1,m2]
   grind
  ·dsimp only
   rw[m1,m2]
   grind
theorem qv7{p q:Rat}{xs:List Iv}(hu:unbB xs=false)(he:∀x∈xs,qba x=0):lenR (mapL p q xs)=lenR xs*absR p:=by
 unfold mapL
 split
 ·rw[qna,qje xs hu he]
 ·exact qje xs hu he
theorem qux{p q:Rat}(xs:List Iv):unbB (mapL p q xs)=unbB xs:=by
 have h:unbB (xs.map (mapI p q))=unbB xs:=by
  unfold unbB;rw[List.any_map]
  congr 1
  funext x
  show decide ((mapI p q x).le=2∨(mapI p q x).he=2)=_
  unfold mapI
  split
  ·exact decide_eq_decide.2 Or.comm
  ·rfl
 unfold mapL
 split
 ·unfold unbB at h⊢
  rw[List.any_reverse,h]
 ·exact h
theorem qiu{J:List RP}:unbB (J.map ivR)=false↔∀r∈J,r.1.b=0∧r.2.b=0:=by
 unfold unbB;rw[List.any_map,List.any_eq_false];refine forall_congr' fun r=>forall_congr' fun _=>?_
 show ¬decide ((ivR r).le=2∨(ivR r).he=2)=true↔_
 rw[decide_eq_true_eq];unfold ivR;dsimp only
 constructor
 ·intro h
  constructor
  ·exact Classical.byContradiction fun k=>h (.inl (if_neg k))
  ·exact Classical.byContradiction fun k=>h (.inr (if_neg k))
 ·rintro⟨h1,h2⟩ h
  rw[if_pos h1,if_pos h2]at h;rcases h with h|h
  ·split at h<;>exact absurd h (by decide)
  ·split at h<;>exact absurd h (by decide)
theorem qf2:∀(J:List RP),(∀r∈J,OkR r)→lenR (J.map ivR)=lenP (fun c:Cut=>ratS c.s) J
 |[],_=>rfl
 |r::J,h=>by
  rw[List.map_cons,qdi,qf2 J fun x hx=>h x (List.mem_cons_of_mem _ hx)];obtain⟨h1,h2⟩:=(h r List.mem_cons_self).pl
  show _=(ratS r.2.s-ratS r.1.s)+lenP (fun c:Cut=>ratS c.s) J
  unfold ivR;dsimp only
  congr 1
  congr 1
  ·split
   ·rfl
   ·rw[(h2.inf ‹_›).1]
  ·split
   ·rfl
   ·rw[(h1.inf ‹_›).1]
theorem qwe(x y:Cut)(h:Eqv ltR x y):ratS x.s=ratS y.s:=by
 obtain⟨h1,h2⟩:=h;rw[qhs]at h1 h2
 have hb:x.b=y.b:=by
  rcases Int.lt_trichotomy x.b y.b with h|h|h
  ·exact absurd (.inl h) h1
  ·exact h
  ·exact absurd (.inl h) h2
 exact qhf.2 ⟨fun k=>h1 (.inr ⟨hb,.inl k⟩),fun k=>h2 (.inr ⟨hb.symm,.inl k⟩)⟩
theorem qti{A B:List RP}(hA:IsSet ltR A)(hB:IsSet ltR B)(oA:∀r∈A,OkR r)(oB:∀r∈B,OkR r)(oI:∀r∈qa1 (qdn ltR A B),OkR r):
  lenR ((qa1 (A++B)).map ivR)+lenR ((qa1 (qdn ltR A B)).map ivR)=lenR (A.map ivR)+lenR (B.map ivR):=by
 rw[qf2 _ (qbv (P:=RokC) fun r hr=>(List.mem_append.1 hr).elim (oA r) (oB r)),qf2 _ oI,qf2 _ oA,qf2 _ oB];exact qv8 qcd qwe hA hB (qb0 _).1 (qb0 _).1 (fun c=>by rw[qed,Mem.app]) (fun c=>by rw[qed,qm4 qcd])
theorem qlt{A B:List RP}:(qa1 (qdn ltR A B)).length≤A.length+B.length:=by
 have h:=qpn qcd (qb0 (qdn ltR A B)).1 (M:=qem A++qem B) (qbv (P:=fun c=>c∈qem A++qem B) (qg2 (fun p hp=>?_) (fun p hp=>?_)))
 ·rw[List.length_append,qe4,qe4]at h
  omega
 ·exact⟨List.mem_append_left _ (List.mem_flatMap.2 ⟨p,hp,by simp⟩),List.mem_append_left _ (List.mem_flatMap.2 ⟨p,hp,by simp⟩)⟩
 ·exact⟨List.mem_append_right _ (List.mem_flatMap.2 ⟨p,hp,by simp⟩),List.mem_append_right _ (List.mem_flatMap.2 ⟨p,hp,by simp⟩)⟩
theorem qsy(r:Rat)(k:Nat)(w:World)(h:Sz k r)(hk:k≤9000):Calls Tryz.prog 52 #[.string ⟨(txtR r).toArray⟩] w (Ret (.string ⟨(txtR (absR r)).toArray⟩) w):=by
 have H1:=hI (fun w'=>qp3 r w' (Nat.le_trans (qb9 h) (by omega)));have H2:=hI (fun w'=>qmr r k w' h hk)
 by_cases hn:r<0
 ·have hs:r.num.sign<0:=qmo.2 hn
  rw[show absR r=-r from by unfold absR;rw[if_pos hn]];generalize r.num.sign=s at*;generalize(⟨(txtR r).toArray⟩:ByteArray)=X at*;generalize(⟨(txtR (-r)).toArray⟩:ByteArray)=Y at*;clear h hk hn
  go_enter Tryz.func52,Tryz.ntmps52
  go_wp2_with (first
   |(go_at_call 88;refine(H1.out _).mono ?_;rintro e w1 ⟨rfl,hb1⟩;have Hb1:=hI hb1;clear hb1)
   |(go_at_call 50;refine(H2.out _).mono ?_;rintro e w2 ⟨rfl,hb2⟩;have Hb2:=hI (qaa Hb1.out hb2);clear hb2))
  go_ret
  exact⟨rfl,Hb2.out⟩
 ·have hs:¬r.num.sign<0:=fun k=>hn (qmo.1 k)
  rw[show absR r=r from by unfold absR;rw[if_neg hn]];generalize r.num.sign=s at*;generalize(⟨(txtR r).toArray⟩:ByteArray)=X at*;clear h hk hn H2
  go_enter Tryz.func52,Tryz.ntmps52
  go_wp2_with (go_at_call 88;refine(H1.out _).mono ?_;rintro e w1 ⟨rfl,hb1⟩;have Hb1:=hI hb1;clear hb1)
  go_ret
  exact⟨rfl,Hb1.out⟩
theorem qwx{k:Nat}{r:Rat}(h:Sz k r)(h0:r≠0):Sz k r⁻¹:=by
 have hn:r.num≠0:=fun k=>h0 (Rat.num_eq_zero.1 k)
 refine⟨?_,?_⟩
 ·rw[Rat.num_inv,Int.natAbs_mul,Int.natAbs_natCast]
  have:r.num.sign.natAbs≤1:=by
   rcases Int.lt_trichotomy r.num 0 with k|k|k
   ·rw[Int.sign_eq_neg_one_of_neg k];decide
   ·exact absurd k hn
   ·rw[Int.sign_eq_one_of_pos k];decide
  exact Nat.lt_of_le_of_lt (Nat.le_trans (Nat.mul_le_mul_right _ this) (by omega)) h.2
 ·rw[Rat.den_inv,if_neg hn]
  exact h.1
theorem qwy{k:Nat}{r:Rat}(h:Sz k r):Sz k (absR r):=by
 unfold absR
 split
 ·exact h.neg
 ·exact h
theorem qfm{k:Nat}{r:Rat}(h:Sz k r):(⟨(txtR r).toArray⟩:ByteArray).size≤2*k+4:=by
 have:=qb9 h
 show(txtR r).toArray.size≤_
 rw[List.size_toArray];exact this
theorem qkh{p q:Rat}{s:ByteArray}(zp:Sz 12 p)(zq:Sz 12 q)(h:s.size≤60):(movS p q s).size≤200:=by
 unfold movS
 split
 ·exact Nat.zero_le _
 ·exact Nat.le_trans (qfm ((zp.mul (qcw h (show 0<60 by decide))).add zq)) (by decide)
theorem qq1{p q:Rat}(zp:Sz 12 p)(zq:Sz 12 q){xs:List Iv}(h:∀x∈xs,x.lo.size≤60∧x.hi.size≤60):∀x∈mapL p q xs,x.lo.size≤200∧x.hi.size≤200:=by
 have key:∀x∈xs.map (mapI p q),x.lo.size≤200∧x.hi.size≤200:=fun x hx=>by
  obtain⟨y,hy,rfl⟩:=List.mem_map.1 hx;have h1:=qkh zp zq (h y hy).1;have h2:=qkh zp zq (h y hy).2;unfold mapI
  split
  ·exact⟨h2,h1⟩
  ·exact⟨h1,h2⟩
 intro x hx;unfold mapL at hx
 split at hx
 ·exact key x (List.mem_reverse.1 hx)
 ·exact key x hx
theorem qne{k:Nat}{J:List RP}(h:∀r∈J,r.1.s.size≤k∧r.2.s.size≤k):∀x∈J.map ivR,x.lo.size≤k∧x.hi.size≤k:=fun x hx=>by
 obtain⟨r,hr,rfl⟩:=List.mem_map.1 hx;unfold ivR;dsimp only
 constructor
 ·split
  ·exact(h r hr).1
  ·exact Nat.zero_le _
 ·split
  ·exact(h r hr).2
  ·exact Nat.zero_le _
theorem qkn{k:Nat}{X:List RP}(h:∀r∈X,r.1.s.size≤k∧r.2.s.size≤k):∀r∈qa1 X,r.1.s.size≤k∧r.2.s.size≤k:=qbv (P:=fun c=>c.s.size≤k) h
theorem qqy{k:Nat}{X Y:List RP}(h:∀r∈X,r.1.s.size≤k∧r.2.s.size≤k)(h':∀r∈Y,r.1.s.size≤k∧r.2.s.size≤k):∀r∈qa1 (qdn ltR X Y),r.1.s.size≤k∧r.2.s.size≤k:=qkn (qg2 (P:=fun c:Cut=>c.s.size≤k) h h')
theorem qnd{X:List RP}(h:∀r∈X,r.1.b=0∧r.2.b=0):∀r∈qa1 X,r.1.b=0∧r.2.b=0:=qbv (P:=fun c=>c.b=0) h
theorem qtb{X Y:List RP}(h:∀r∈X,r.1.b=0∧r.2.b=0)(h':∀r∈Y,r.1.b=0∧r.2.b=0):∀r∈qa1 (qdn ltR X Y),r.1.b=0∧r.2.b=0:=qnd (qg2 (P:=fun c:Cut=>c.b=0) h h')
theorem qm9{xs:List Iv}{m:Nat}(hl:xs.length≤m)(h:∀x∈xs,x.lo.size≤60∧x.hi.size≤60):Sz (1+m*122) (lenR xs):=
 (qq5 xs 0 1 ⟨by decide,by decide⟩ (fun x hx=>⟨qcw (h x hx).1 (by decide),qcw (h x hx).2 (by decide)⟩)).mono (Nat.add_le_add_left (Nat.mul_le_mul_right 122 hl) 1)
theorem qkl{xs:List Iv}(h:unbB xs=false):lenV xs=.tuple #[.string ⟨(txtR (lenR xs)).toArray⟩,.int .i64 0]:=by unfold lenV;rw[if_neg (by rw[h];decide)]
theorem qug{xs:List Iv}(h:unbB xs=true):lenV xs=.tuple #[.string ⟨#[]⟩,.int .i64 22]:=by unfold lenV;rw[if_pos h]
end Go.Proofs.YtacihodamichhaaGreatDoor
