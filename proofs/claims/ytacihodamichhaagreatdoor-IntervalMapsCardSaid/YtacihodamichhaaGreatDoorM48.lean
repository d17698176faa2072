/- Parts of the proof. -/
import Derived.Test.YtacihodamichhaaGreatDoorM46
set_option maxHeartbeats 16000000
namespace Go.Proofs.YtacihodamichhaaGreatDoor
open Go.RowKit
def RQs(w:World)(v:Value)(rs:List Rat):Prop:=∃rows:List (List Value),rows.length=rs.length∧Sl w 4 v rows∧∀(k:Nat) (row:List Value) (r:Rat),rows[k]?=some row→rs[k]?=some r→RQ w (.agg row.toArray) r
theorem RQs.open{w:World}{v:Value}{rs:List Rat}(h:RQs w v rs):∃a cap,v=.slice a rs.length cap∧rs.length≤cap∧cap≤maxLen:=by
 obtain⟨rows,hl,hS,-⟩:=h;rw[←hl];exact Sl.open hS
theorem RQs.at{w wr:World}{n cap:Nat}{a:Option Addr}{rs:List Rat}(h:RQs w (.slice a n cap) rs)(hb:Below w.heap.size w wr){k:Nat}(hk:k<n):
  ∃b off x e m c x' e' m' c' r,a=some ⟨b,off,none⟩∧rs[k]?=some r∧RQ wr (.agg #[.bool x,.slice e m c,.bool x',.slice e' m' c']) r∧wr.cell? ⟨b,off+k*4,none⟩=some (.bool x)∧wr.cell? ⟨b,off+k*4+1,none⟩=some (.slice e m c)∧wr.cell? ⟨b,off+k*4+2,none⟩=some (.bool x')∧wr.cell? ⟨b,off+k*4+3,none⟩=some (.slice e' m' c'):=by
 obtain⟨rows,hl,hS,hq⟩:=h;obtain⟨b,off,ha,hlt,row,hr,hc⟩:=Sl.row hS hb hk;have hkl:k<rs.length:=by rw[←hl];exact qfu hr
 obtain⟨x,e,m,c,x',e',m',c',he,hR⟩:=(hq k row _ hr (List.getElem?_eq_getElem hkl)).open
 have hrow:row=[.bool x,.slice e m c,.bool x',.slice e' m' c']:=by
  have:=congrArg Array.toList (Value.agg.inj he)
  simpa using this
 subst hrow;exact⟨b,off,x,e,m,c,x',e',m',c',_,ha,List.getElem?_eq_getElem hkl,hR.mono hb,hc 0 (by decide),hc 1 (by decide),hc 2 (by decide),hc 3 (by decide)⟩
def sumR(rs:List Rat):Rat:=rs.foldl (·+·) 0
theorem qtj{K:Nat}:∀(l:List Rat) (r:Rat) (m:Nat),Sz m r→(∀x∈l,Sz K x)→Sz (m+l.length*(K+1)) (l.foldl (·+·) r)
 |[],_,_,h,_=>by simpa using h
 |x::l,r,m,h,hl=>by
  have h1:=qtj l (r+x) (m+K+1) (h.add (hl x List.mem_cons_self)) (fun y hy=>hl y (List.mem_cons_of_mem _ hy));rw[List.foldl_cons,List.length_cons];refine h1.mono ?_
  rw[Nat.add_mul]
  omega
theorem quy{K:Nat}{rs:List Rat}(hz:∀r∈rs,Sz K r)(k:Nat):Sz (1+k*(K+1)) (sumR (rs.take k)):=
 (qtj (rs.take k) 0 1 ⟨by decide,by decide⟩ (fun x hx=>hz x (List.mem_of_mem_take hx))).mono (Nat.add_le_add_left (Nat.mul_le_mul_right _ (by rw[List.length_take];omega)) 1)
set_option maxRecDepth 10000 in
theorem qwp(v:Value)(rs:List Rat)(K:Nat)(w:World)(h:RQs w v rs)(hz:∀r∈rs,Sz K r)(hK:(rs.length+1)*(K+1)≤40000):Calls Tryz.prog 81 #[v] w (RetP (fun x w'=>RQ w' x (sumR rs)) w):=by
 have HA:=hI (fun(W:World) (u x:Value) (k:Nat) (r:Rat) (hr:rs[k]?=some r) (hu:RQ W u (sumR (rs.take k))) (hx:RQ W x r)=>show Calls Tryz.prog 58 #[u,x] W (RetP (fun y w'=>RQ w' y (sumR (rs.take (k+1)))) W)from by
  have e:sumR (rs.take (k+1))=sumR (rs.take k)+r:=by rw[qa4 hr];unfold sumR;rw[List.foldl_append];rfl
  rw[e];have hk:=qfu hr;have h1:k*(K+1)≤rs.length*(K+1):=Nat.mul_le_mul_right _ (by omega);rw[Nat.add_mul]at hK
  exact ql6 u x _ r (1+k*(K+1)) K W hu hx (quy hz k) (hz r (List.mem_of_getElem? hr)) (by omega))
 have HF:=hI (show sumR (rs.take rs.length)=sumR rs by rw[List.take_length]);have H0:=hI (show sumR (rs.take 0)=0 from rfl);obtain⟨a,cap,rfl,hc1,hc2⟩:=h.open;unfold maxLen at hc2;have HX:=hI h;clear h hz hK;generalize rs.length=N at*;have HZ:=hI (fun W=>(show RQ W (.agg #[.bool false,.slice none 0 0,.bool false,.slice none 0 0]) 0 from⟨0,RatV.zero W,rfl⟩))
 go_enter Tryz.func81,Tryz.ntmps81
 go_wp2_with fail
 go_loopw [8] (fun i wr=>∃(k:Nat) (x:Bool) (e:Option Addr) (m c:Nat) (x':Bool) (e':Option Addr) (m' c':Nat),k≤N∧i=.int .i64 (k:Int)∧Below (w.alloc (.cells #[.bool false,.slice none 0 0,.bool false,.slice none 0 0] 77)).heap.size (w.alloc (.cells #[.bool false,.slice none 0 0,.bool false,.slice none 0 0] 77)) wr∧Blk wr (w.heap.size+1) #[.bool x,.slice e m c,.bool x',.slice e' m' c'] 77∧Hid (RQ wr (.agg #[.bool x,.slice e m c,.bool x',.slice e' m' c']) (sumR (rs.take k)))) (fun i _=>N-(intOf i).toNat)
 case atStart=>
  refine⟨0,false,none,0,0,false,none,0,0,by omega,rfl,qac _ _,?_,by rw[H0.out];exact HZ.out _⟩
  have h:=Blk.new (w.alloc (.cells #[.bool false,.slice none 0 0,.bool false,.slice none 0 0] 77)) #[.bool false,.slice none 0 0,.bool false,.slice none 0 0] 77
  simpa using h
 case round=>
  obtain⟨k,x,e,m,c,x',e',m',c',hk,rfl,hbw,hblk,hq⟩:=hrel;have Hbw:=hI hbw;have Hblk:=hI hblk;have Hq:=hI hq.out;have hbx:=qaa (qac w (.cells #[.bool false,.slice none 0 0,.bool false,.slice none 0 0] 77)) hbw;have Hbx:=hI hbx;obtain⟨⟨q0,q1,q2,q3⟩,-⟩:=qam hblk;rcases Nat.lt_or_ge k N with hlt|hge
  ·obtain⟨b,off,y,d,p,g,y',d',p',g',r,rfl,hr,hR,z0,z1,z2,z3⟩:=HX.out.at hbx hlt
   have hkn:(k:Int)<(N:Int):=by omega
   have hk0:(0:Int)≤(k:Int):=Int.natCast_nonneg _;have hkw:IntKind.i64.wrap ((k:Int)+1)=(k:Int)+1:=IntWalk.i64_in _ (by omega);have HAx:=hI (fun W (hb:Below wr.heap.size wr W)=>HA.out W _ _ k r hr (Hq.out.mono hb) (hR.mono hb));obtain⟨⟨p0,p1,p2,p3⟩,-⟩:=qam (hblk.below (qac wr (.cells #[.bool y,.slice d p g,.bool y',.slice d' p' g'] 77)));clear hr hR hbw hblk hq hbx
   go_wp2_with (go_at_call 58;refine(HAx.out _ (qac wr _)).mono ?_;rintro z5 w5 ⟨v5,rfl,hv,hb5⟩;obtain⟨x5,a5,n5,c5,y5,e5,m5,d5,rfl,hv⟩:=hv.open;have hb6:=qaa (qac wr _) hb5;have hr:=Hblk.out.below hb6;obtain⟨⟨r0,r1,r2,r3⟩,f0,f1,f2,f3⟩:=qam hr;obtain⟨hv6,hb7⟩:=RQ.put4 hv hr;have Hv6:=hI hv6;have Hb7:=hI hb7;have Hbel:=hI (qap (b:=w.heap.size+1) (.bool x5) (.slice a5 n5 c5) (.bool y5) (.slice e5 m5 d5) (Hbw.out.via hb6 Hbw.out.size) (by simp));clear hv6 hb7 hr hv hb5 hb6)
   go_roundw
   case rel=>exact⟨k+1,x5,a5,n5,c5,y5,e5,m5,d5,by omega,by go_num,Hbel.out,Hb7.out,Hv6.out⟩
   case measure=>simp[intOf]<;>omega
  ·obtain rfl:k=N:=by omega
   have hkn:¬(k:Int)<(k:Int):=by omega
   have hres:=(Blk.new w #[.bool false,.slice none 0 0,.bool false,.slice none 0 0] 77).below hbw;obtain⟨⟨r0,r1,r2,r3⟩,f0,f1,f2,f3⟩:=qam hres;obtain⟨hv6,hb7⟩:=RQ.put4 (show RQ wr (.agg #[.bool x,.slice e m c,.bool x',.slice e' m' c']) (sumR rs)from by rw[←HF.out];exact Hq.out) hres;have Hv6:=hI hv6;have Hb7:=hI hb7;have Hbel:=hI (qap (b:=w.heap.size) (.bool x) (.slice e m c) (.bool x') (.slice e' m' c') hbx (Nat.le_refl _));clear hv6 hb7 hres hbw hblk hq hbx
   go_wp2_with fail
   obtain⟨⟨s0,s1,s2,s3⟩,-⟩:=qam Hb7.out;exact bodyPost_ret (v:=.agg #[.bool x,.slice e m c,.bool x',.slice e' m' c']) (by simp[results,Tryz.results81,go_sem,s0,s1,s2,s3]) rfl ⟨_,rfl,Hv6.out,Hbel.out⟩
theorem qpo{n:ByteArray}{s:Int}(hs:s=1∨s=-1):(qdy n 2 s).b≠0:=by
 unfold qdy;rw[if_pos rfl]
 show -s≠0
 omega
theorem qgo{n:ByteArray}{k s:Int}(hk:k≠2):(qdy n k s).b=0∧(qdy n k s).s=n:=by
 unfold qdy;rw[if_neg hk];exact⟨rfl,rfl⟩
def unbB(xs:List Iv):Bool:=xs.any fun x=>decide (x.le=2∨x.he=2)
def lenF(s:Rat)(x:Iv):Rat:=s+(ratS x.hi-ratS x.lo)
def lenR(xs:List Iv):Rat:=xs.foldl lenF 0
def lenV(xs:List Iv):Value:=if unbB xs=true then .tuple #[.string ⟨#[]⟩,.int .i64 22]else .tuple #[.string ⟨(txtR (lenR xs)).toArray⟩,.int .i64 0]
theorem qpr{K:Nat}:∀(l:List Iv) (r:Rat) (m:Nat),Sz m r→(∀x∈l,Sz K (ratS x.lo)∧Sz K (ratS x.hi))→Sz (m+l.length*(2*K+2)) (l.foldl lenF r)
 |[],_,_,h,_=>by simpa using h
 |x::l,r,m,h,hl=>by
  obtain⟨hx1,hx2⟩:=hl x List.mem_cons_self
  have h0:Sz (m+(K+K+1)+1) (lenF r x):=by
   unfold lenF;rw[Rat.sub_eq_add_neg];exact h.add (hx2.add hx1.neg)
  have h1:=qpr l (lenF r x) (m+(K+K+1)+1) h0 (fun y hy=>hl y (List.mem_cons_of_mem _ hy));rw[List.foldl_cons,List.length_cons];refine h1.mono ?_
  rw[Nat.add_mul]
  omega
theorem rqs3{w:World}{b:Nat}{T:TypeId}{x1 y1 x2 y2 x3 y3:Bool}{a1 e1 a2 e2 a3 e3:Option Addr}{n1 c1 m1 d1 n2 c2 m2 d2 n3 c3 m3 d3:Nat}{r1 r2 r3:Rat}(h:Blk w b #[.bool x1,.slice a1 n1 c1,.bool y1,.slice e1 m1 d1,.bool x2,.slice a2 n2 c2,.bool y2,.slice e2 m2 d2,.bool x3,.slice a3 n3 c3,.bool y3,.slice e3 m3 d3] T)
  (h1:RQ w (.agg #[.bool x1,.slice a1 n1 c1,.bool y1,.slice e1 m1 d1]) r1) (h2:RQ w (.agg #[.bool x2,.slice a2 n2 c2,.bool y2,.slice e2 m2 d2]) r2) (h3:RQ w (.agg #[.bool x3,.slice a3 n3 c3,.bool y3,.slice e3 m3 d3]) r3):RQs w (.slice (some ⟨b,0,none⟩) 3 3) [r1,r2,r3]:=by
 refine⟨[[.bool x1,.slice a1 n1 c1,.bool y1,.slice e1 m1 d1],[.bool x2,.slice a2 n2 c2,.bool y2,.slice e2 m2 d2],[.bool x3,.slice a3 n3 c3,.bool y3,.slice e3 m3 d3]],rfl,?_,?_⟩
 ·exact Sl.blk (rows:=[[.bool x1,.slice a1 n1 c1,.bool y1,.slice e1 m1 d1],[.bool x2,.slice a2 n2 c2,.bool y2,.slice e2 m2 d2],[.bool x3,.slice a3 n3 c3,.bool y3,.slice e3 m3 d3]]) h (fun r hr=>by
   simp only[List.mem_cons,List.not_mem_nil,or_false]at hr
   rcases hr with rfl|rfl|rfl<;>rfl) rfl (show 3≤1000 by decide)
 ·intro k row r hr hrs
  rcases k with _|_|_|k
  ·cases hr;cases hrs;exact h1
  ·cases hr;cases hrs;exact h2
  ·cases hr;cases hrs;exact h3
  ·simp at hr
theorem sum3(s h l:Rat):sumR [s,h,-l]=s+(h-l):=by
 show 0+s+h+-l=s+(h-l)
 rw[Rat.zero_add,Rat.sub_eq_add_neg,Rat.add_assoc]
theorem qtg{xs:List Iv}{k:Nat}{x:Iv}(h:xs[k]?=some x):unbB (xs.take (k+1))=(unbB (xs.take k)||decide (x.le=2∨x.he=2)):=by
 unfold unbB;rw[qa4 h,List.any_append];simp
theorem qid{xs:List Iv}{k:Nat}{x:Iv}(h:xs[k]?=some x)(hx:x.le=2∨x.he=2):unbB xs=true:=by
 unfold unbB;exact List.any_eq_true.2 ⟨x,List.mem_of_getElem? h,decide_eq_true hx⟩
set_option maxRecDepth 10000 in
theorem qwc(u:Value)(xs:List Iv)(K:Nat)(w:World)(h:Ivs w u xs)(hs:∀x∈xs,x.short)(he:qbd xs=0)(hiv:∀x∈xs,qa9 x=0)(hn:xs.length≤256)(hz:∀x∈xs,x.lo.size≤K∧x.hi.size≤K)(hK1:1≤K)(hK:1+xs.length*(2*K+2)≤9000)(hT:Tab w):
  Calls Tryz.prog 31 #[u] w (Ret (lenV xs) w):=by
 have HP:=hI (qeg u xs w h hs);unfold qf2 at HP;rw[he]at HP;have hzz:∀x∈xs,Sz K (ratS x.lo)∧Sz K (ratS x.hi):=fun x hx=>⟨qb3 (hz x hx).1 hK1,qb3 (hz x hx).2 hK1⟩
 have hpart:∀k,Sz 9000 (lenR (xs.take k)):=fun k=>(qpr (xs.take k) 0 1 ⟨by decide,by decide⟩ (fun x hx=>hzz x (List.mem_of_mem_take hx))).mono (Nat.le_trans (Nat.add_le_add_left (Nat.mul_le_mul_right _ (by rw[List.length_take];omega)) 1) hK)
 have HSz:=hI hpart;have HEl:=hI (fun(k:Nat) (x:Iv) (hx:xs[k]?=some x)=>And.intro (hzz x (List.mem_of_getElem? hx)) (hiv x (List.mem_of_getElem? hx)))
 have HK9:=hI (show xs=[]∨K≤9000 from by
  rcases xs with _|⟨x,xr⟩
  ·exact .inl rfl
  ·right
   rw[List.length_cons,Nat.add_mul]at hK
   omega)
 have HT:=hI hT
 have HFin:=hI (show unbB (xs.take xs.length)=false→lenV xs=.tuple #[.string ⟨(txtR (lenR (xs.take xs.length))).toArray⟩,.int .i64 0]from fun h=>by
  rw[List.take_length]at h⊢;unfold lenV
  rw[if_neg (by rw[h];decide)])
 have HHit:=hI (show unbB xs=true→lenV xs=.tuple #[.string ⟨#[]⟩,.int .i64 22]from fun h=>by
  unfold lenV
  rw[if_pos h])
 obtain⟨V,hV⟩:∃V,lenV xs=V:=⟨_,rfl⟩
 rw[hV]at HFin HHit⊢;obtain⟨a,c,rfl,-,-⟩:=h.open;obtain⟨N,hN⟩:∃N,xs.length=N:=⟨_,rfl⟩
 have HNl:=hI hN;rw[hN]at HP hn HFin⊢;clear h hs he hiv hz hK1 hK hT hzz hpart hV hN
 go_enter Tryz.func31,Tryz.ntmps31
 go_wp2_with (go_at_call 56;refine(HP.out).mono ?_;rintro e w1 ⟨⟨v1,rfl,hq,-⟩,hb1⟩;obtain⟨ap,cp,ps,rfl,hps,hcs⟩:=hq (by first|rfl|trivial);have hl1:ps.length=N:=(by have:=congrArg List.length hcs;rw[List.length_map,List.length_map]at this;rw[this];exact HNl.out);rw[hl1]at hps;rw[hl1];have Hps:=hI hps;have Hcs:=hI hcs;have Hb1:=hI hb1;clear hq hps hcs hb1)
 go_loopw [20] (fun i wr=>∃(k:Nat) (x:Bool) (e:Option Addr) (m c:Nat) (x':Bool) (e':Option Addr) (m' c':Nat),k≤N∧i=.int .i64 (k:Int)∧Below w1.heap.size w1 wr∧Blk wr w1.heap.size #[.bool x,.slice e m c,.bool x',.slice e' m' c'] 77∧Hid (RQ wr (.agg #[.bool x,.slice e m c,.bool x',.slice e' m' c']) (lenR (xs.take k))∧unbB (xs.take k)=false)) (fun i _=>N-(intOf i).toNat)
 case atStart=>
  exact⟨0,false,none,0,0,false,none,0,0,by omega,rfl,qac _ _,Blk.new w1 _ _,⟨⟨0,RatV.zero _,rfl⟩,rfl⟩⟩
 case round=>
  obtain⟨k,x,e,m,c,x',e',m',c',hk,rfl,hbw,hblk,hq⟩:=hrel;have Hbw:=hI hbw;have Hblk:=hI hblk;have Hq:=hI hq.out;obtain⟨⟨q0,q1,q2,q3⟩,-⟩:=qam hblk;rcases Nat.lt_or_ge k N with hlt|hge
  ·obtain⟨b,off,p,rfl,hp,hpok,z0,z1,z2,z3,z4,z5,z6,z7,z8,z9,z10,z11,z12,z13⟩:=qaz.at Hps.out hbw hlt
   have hkl:k<xs.length:=by rw[HNl.out];exact hlt
   obtain⟨xv,hxv⟩:∃y,xs[k]?=some y:=⟨_,List.getElem?_eq_getElem hkl⟩
   have hpcut:p.cuts=xv.cuts:=by
    have h:=congrArg (fun l=>l[k]?) Hcs.out;simp only[List.getElem?_map,hp,hxv,Option.map_some]at h;exact Option.some.inj h
   obtain⟨⟨hzl,hzh⟩,hie⟩:=HEl.out k xv hxv;obtain⟨hcl,hch⟩:=qwi hie;have hl1:p.l.c=qdy xv.lo xv.le 1:=congrArg (fun q=>q.1) hpcut;have hh1:p.h.c=qdy xv.hi xv.he (-1):=congrArg (fun q=>q.2) hpcut;have hkn:(k:Int)<(N:Int):=by omega
   have hk0:(0:Int)≤(k:Int):=Int.natCast_nonneg _;have hkw:IntKind.i64.wrap ((k:Int)+1)=(k:Int)+1:=IntWalk.i64_in _ (by omega)
   by_cases h2:xv.le=2
   ·have hb1:(p.l.c.b !=0)=true:=by rw[bne_iff_ne,hl1,h2];exact qpo (.inl rfl)
    have Hv:=hI (HHit.out (qid hxv (.inl h2)));clear hp hpok hxv hpcut hzl hzh hie hcl hch hl1 hh1 h2 hblk hbw hq;generalize p.l.c.b=bl at*
    go_wp2_with fail
    go_ret2
    exact⟨by rw[Hv.out];rfl,qaa Hb1.out (bwA Hbw.out _)⟩
   ·have hlb:p.l.c.b=0:=by rw[hl1];exact(qgo h2).1
    rw[hlb]at z0
    by_cases h3:xv.he=2
    ·have hb1:(p.h.c.b !=0)=true:=by rw[bne_iff_ne,hh1,h3];exact qpo (.inr rfl)
     have Hv:=hI (HHit.out (qid hxv (.inr h3)));clear hp hpok hxv hpcut hzl hzh hie hcl hch hl1 hh1 h2 h3 hblk hbw hq hlb;generalize p.h.c.b=bl at*
     go_wp2_with fail
     go_ret2
     exact⟨by rw[Hv.out];rfl,qaa Hb1.out (bwA Hbw.out _)⟩
    ·have hhb:p.h.c.b=0:=by rw[hh1];exact(qgo h3).1
     rw[hhb]at z7;have hls:p.l.c.s=xv.lo:=by rw[hl1];exact(qgo h2).2
     have hhs:p.h.c.s=xv.hi:=by rw[hh1];exact(qgo h3).2
     have hRL:RQ wr (.agg #[.bool p.l.x,.slice p.l.a p.l.n p.l.cap,.bool p.l.y,.slice p.l.e p.l.m p.l.cap2]) (ratS xv.lo):=by have:=qe4 hpok.1.1;rw[hls]at this;exact this
     have hRH:RQ wr (.agg #[.bool p.h.x,.slice p.h.a p.h.n p.h.cap,.bool p.h.y,.slice p.h.e p.h.m p.h.cap2]) (ratS xv.hi):=by have:=qe4 hpok.2.1;rw[hhs]at this;exact this
     have HRR:=hI (And.intro hRL hRH)
     have hKk:K≤9000:=by
      rcases HK9.out with h|h
      ·rw[h]at hkl;exact absurd hkl (Nat.not_lt_zero _)
      ·exact h
     have Hstep:=hI (show lenR (xs.take k)+(ratS xv.hi-ratS xv.lo)=lenR (xs.take (k+1))from by
      unfold lenR;rw[qa4 hxv,List.foldl_append]
      rfl)
     have Hun:=hI (show unbB (xs.take (k+1))=false from by rw[qtg hxv,Hq.out.2,decide_eq_false (fun h=>h.elim h2 h3)];rfl)
     have Hz3:=hI (show ∀r∈[lenR (xs.take k),ratS xv.hi,-(ratS xv.lo)],Sz 9000 r from fun r hr=>by
      simp only[List.mem_cons,List.not_mem_nil,or_false]at hr;rcases hr with rfl|rfl|rfl
      ·exact HSz.out k
      ·exact hzh.mono hKk
      ·exact(hzl.mono hKk).neg)
     have HSx:=hI (fun w' (hb:Below (wr.alloc (.cells #[.int .i64 0,.string p.l.c.s,.int .i64 p.l.c.d,.bool p.l.x,.slice p.l.a p.l.n p.l.cap,.bool p.l.y,.slice p.l.e p.l.m p.l.cap2,.int .i64 0,.string p.h.c.s,.int .i64 p.h.c.d,.bool p.h.x,.slice p.h.a p.h.n p.h.cap,.bool p.h.y,.slice p.h.e p.h.m p.h.cap2] 84)).heap.size (wr.alloc (.cells #[.int .i64 0,.string p.l.c.s,.int .i64 p.l.c.d,.bool p.l.x,.slice p.l.a p.l.n p.l.cap,.bool p.l.y,.slice p.l.e p.l.m p.l.cap2,.int .i64 0,.string p.h.c.s,.int .i64 p.h.c.d,.bool p.h.x,.slice p.h.a p.h.n p.h.cap,.bool p.h.y,.slice p.h.e p.h.m p.h.cap2] 84)) w')=>show w'.cell? ⟨w1.heap.size,0,none⟩=some (.bool x)∧w'.cell? ⟨w1.heap.size,1,none⟩=some (.slice e m c)∧w'.cell? ⟨w1.heap.size,2,none⟩=some (.bool x')∧w'.cell? ⟨w1.heap.size,3,none⟩=some (.slice e' m' c')∧w'.cell? ⟨wr.heap.size,3,none⟩=some (.bool p.l.x)∧w'.cell? ⟨wr.heap.size,4,none⟩=some (.slice p.l.a p.l.n p.l.cap)∧w'.cell? ⟨wr.heap.size,5,none⟩=some (.bool p.l.y)∧w'.cell? ⟨wr.heap.size,6,none⟩=some (.slice p.l.e p.l.m p.l.cap2)∧w'.cell? ⟨wr.heap.size,10,none⟩=some (.bool p.h.x)∧w'.cell? ⟨wr.heap.size,11,none⟩=some (.slice p.h.a p.h.n p.h.cap)∧w'.cell? ⟨wr.heap.size,12,none⟩=some (.bool p.h.y)∧w'.cell? ⟨wr.heap.size,13,none⟩=some (.slice p.h.e p.h.m p.h.cap2)from by
      obtain⟨⟨o0,o1,o2,o3⟩,-⟩:=qam (Hblk.out.below (qaa (qac wr _) hb));have hn:=(Blk.new wr #[.int .i64 0,.string p.l.c.s,.int .i64 p.l.c.d,.bool p.l.x,.slice p.l.a p.l.n p.l.cap,.bool p.l.y,.slice p.l.e p.l.m p.l.cap2,.int .i64 0,.string p.h.c.s,.int .i64 p.h.c.d,.bool p.h.x,.slice p.h.a p.h.n p.h.cap,.bool p.h.y,.slice p.h.e p.h.m p.h.cap2] 84).below hb
      exact⟨o0,o1,o2,o3,hn.cell 3,hn.cell 4,hn.cell 5,hn.cell 6,hn.cell 10,hn.cell 11,hn.cell 12,hn.cell 13⟩)
     clear hp hpok hxv hpcut hzl hzh hie hcl hch hl1 hh1 h2 h3 hblk hbw hq hlb hhb hls hhs hRL hRH hKk hkl;go_upto_region 10 with fail
     refine qar (S:=(fun w'=>w'.cell? ⟨w1.heap.size,0,none⟩=some (.bool x)∧w'.cell? ⟨w1.heap.size,1,none⟩=some (.slice e m c)∧w'.cell? ⟨w1.heap.size,2,none⟩=some (.bool x')∧w'.cell? ⟨w1.heap.size,3,none⟩=some (.slice e' m' c')∧w'.cell? ⟨wr.heap.size,3,none⟩=some (.bool p.l.x)∧w'.cell? ⟨wr.heap.size,4,none⟩=some (.slice p.l.a p.l.n p.l.cap)∧w'.cell? ⟨wr.heap.size,5,none⟩=some (.bool p.l.y)∧w'.cell? ⟨wr.heap.size,6,none⟩=some (.slice p.l.e p.l.m p.l.cap2)∧w'.cell? ⟨wr.heap.size,10,none⟩=some (.bool p.h.x)∧w'.cell? ⟨wr.heap.size,11,none⟩=some (.slice p.h.a p.h.n p.h.cap)∧w'.cell? ⟨wr.heap.size,12,none⟩=some (.bool p.h.y)∧w'.cell? ⟨wr.heap.size,13,none⟩=some (.slice p.h.e p.h.m p.h.cap2))) 10 (by kernel_rfl) (by kernel_rfl) (by exact HSx.out _ (bwD (wr.alloc (.cells #[.int .i64 0,.string p.l.c.s,.int .i64 p.l.c.d,.bool p.l.x,.slice p.l.a p.l.n p.l.cap,.bool p.l.y,.slice p.l.e p.l.m p.l.cap2,.int .i64 0,.string p.h.c.s,.int .i64 p.h.c.d,.bool p.h.x,.slice p.h.a p.h.n p.h.cap,.bool p.h.y,.slice p.h.e p.h.m p.h.cap2] 84)))) (fun hHeld=>?_)
     simp only[List.take_succ_cons,List.take_zero,List.drop_succ_cons,List.drop_zero];refine' tk 0 ?_;(try simp only[tkS]);refine' tk 1 ?_;(try simp only[tkS]);refine' tk 2 ?_;(try simp only[tkS]);refine' tk 3 ?_;(try simp only[tkS]);refine' tk 4 ?_;(try simp only[tkS]);refine' tk 5 ?_;(try simp only[tkS]);refine' tk 6 ?_;(try simp only[tkS]);refine tk1 7 (fun K hK=>?_)
     go_simp;go_at_call 82;refine(qtk _ _ _ (HRR.out.1.mono (qaa (qac wr _) (bwD (wr.alloc (.cells #[.int .i64 0,.string p.l.c.s,.int .i64 p.l.c.d,.bool p.l.x,.slice p.l.a p.l.n p.l.cap,.bool p.l.y,.slice p.l.e p.l.m p.l.cap2,.int .i64 0,.string p.h.c.s,.int .i64 p.h.c.d,.bool p.h.x,.slice p.h.a p.h.n p.h.cap,.bool p.h.y,.slice p.h.e p.h.m p.h.cap2] 84)))))).mono ?_
     rintro z5 w5 ⟨v5,rfl,hv5,hb5⟩;obtain⟨x5,a5,n5,c5,y5,e5,m5,d5,rfl,hv5⟩:=hv5.open;have Hb5:=hI (qaa (bwD (wr.alloc (.cells #[.int .i64 0,.string p.l.c.s,.int .i64 p.l.c.d,.bool p.l.x,.slice p.l.a p.l.n p.l.cap,.bool p.l.y,.slice p.l.e p.l.m p.l.cap2,.int .i64 0,.string p.h.c.s,.int .i64 p.h.c.d,.bool p.h.x,.slice p.h.a p.h.n p.h.cap,.bool p.h.y,.slice p.h.e p.h.m p.h.cap2] 84))) hb5);have Hv5:=hI hv5;clear hv5 hb5;refine hK.out _ _ (by exact HSx.out _ (Hb5.out)) (fun hHeld=>?_)
     clear hK K;(try simp only[tkS]);refine tk1 8 (fun K hK=>?_)
     go_simp;refine hK.out _ _ (by exact HSx.out _ ((qad (Hb5.out) (.cells #[.bool x,.slice e m c,.bool x',.slice e' m' c',.bool p.h.x,.slice p.h.a p.h.n p.h.cap,.bool p.h.y,.slice p.h.e p.h.m p.h.cap2,.bool x5,.slice a5 n5 c5,.bool y5,.slice e5 m5 d5] 77)))) (fun hHeld=>?_)
     clear hK K;(try simp only[tkS]);refine tk1 9 (fun K hK=>?_)
     go_simp;go_at_call 81;refine(qwp _ [lenR (xs.take k),ratS xv.hi,-(ratS xv.lo)] 9000 _ (rqs3 (Blk.new w5 #[.bool x,.slice e m c,.bool x',.slice e' m' c',.bool p.h.x,.slice p.h.a p.h.n p.h.cap,.bool p.h.y,.slice p.h.e p.h.m p.h.cap2,.bool x5,.slice a5 n5 c5,.bool y5,.slice e5 m5 d5] 77) (Hq.out.1.mono (qaa (qac wr _) ((qad (Hb5.out) (.cells #[.bool x,.slice e m c,.bool x',.slice e' m' c',.bool p.h.x,.slice p.h.a p.h.n p.h.cap,.bool p.h.y,.slice p.h.e p.h.m p.h.cap2,.bool x5,.slice a5 n5 c5,.bool y5,.slice e5 m5 d5] 77))))) (HRR.out.2.mono (qaa (qac wr _) ((qad (Hb5.out) (.cells #[.bool x,.slice e m c,.bool x',.slice e' m' c',.bool p.h.x,.slice p.h.a p.h.n p.h.cap,.bool p.h.y,.slice p.h.e p.h.m p.h.cap2,.bool x5,.slice a5 n5 c5,.bool y5,.slice e5 m5 d5] 77))))) (Hv5.out.mono (qac w5 _))) Hz3.out (show(3+1)*(9000+1)≤40000 by decide)).mono ?_
     rintro z6 w6 ⟨v6,rfl,hv6,hb6⟩;rw[sum3,Hstep.out]at hv6;obtain⟨x6,a6,n6,c6,y6,e6,m6,d6,rfl,hv6⟩:=hv6.open;have Hb6:=hI (qaa ((qad (Hb5.out) (.cells #[.bool x,.slice e m c,.bool x',.slice e' m' c',.bool p.h.x,.slice p.h.a p.h.n p.h.cap,.bool p.h.y,.slice p.h.e p.h.m p.h.cap2,.bool x5,.slice a5 n5 c5,.bool y5,.slice e5 m5 d5] 77))) hb6);have Hv6:=hI hv6;clear hv6 hb6;refine hK.out _ _ (by exact HSx.out _ (Hb6.out)) (fun hHeld=>?_)
     clear hK K;(try simp only[tkS]);refine tkD ?_ _
     simp only[Exit.then];have hb7:=qaa (qac wr _) (Hb6.out);have hr:=Hblk.out.below hb7;obtain⟨⟨r0,r1,r2,r3⟩,f0,f1,f2,f3⟩:=qam hr;obtain⟨hv7,hb8⟩:=RQ.put4 Hv6.out hr;have Hv7:=hI hv7;have Hb8:=hI hb8;have Hbel:=hI (qap (b:=w1.heap.size) (.bool x6) (.slice a6 n6 c6) (.bool y6) (.slice e6 m6 d6) (Hbw.out.via hb7 Hbw.out.size) (Nat.le_refl _));clear hv7 hb8 hr hb7
     go_wp2_with fail
     go_roundw
     case rel=>exact⟨k+1,x6,a6,n6,c6,y6,e6,m6,d6,by omega,by go_num,Hbel.out,Hb8.out,⟨Hv7.out,Hun.out⟩⟩
     case measure=>simp[intOf]<;>omega
  ·obtain rfl:k=N:=by omega
   have hkn:¬(k:Int)<(k:Int):=by omega
   have HNu:=hI (show Calls Tryz.prog 61 #[.agg #[.bool x,.slice e m c,.bool x',.slice e' m' c']] wr (Ret (.string ⟨(txtR (lenR (xs.take k))).toArray⟩) wr)from qiv _ _ 1000 wr Hq.out.1 (HSz.out k) (by decide) (HT.out.mono (qaa Hb1.out hbw)));clear hblk hbw hq
   go_wp2_with (go_at_call 61;refine(HNu.out).mono ?_;rintro z w2 ⟨rfl,hb2⟩;have Hb2:=hI (qaa (qaa Hb1.out Hbw.out) hb2);clear hb2)
   go_ret2
   exact⟨by rw[HFin.out Hq.out.2];rfl,Hb2.out⟩
set_option maxRecDepth 10000 in
theorem qro(u:Value)(xs:List Iv)(K:Nat)(w:World)(h:Ivs w u xs)(hiv:∀x∈xs,qa9 x=0)(hz:∀x∈xs,x.lo.size≤K∧x.hi.size≤K)(hK1:1≤K)(hK:1+xs.length*(2*K+2)≤9000):
  Calls Tryz.prog 32 #[u] w (Ret (lenV xs) w):=by
 have hzz:∀x∈xs,Sz K (ratS x.lo)∧Sz K (ratS x.hi):=fun x hx=>⟨qb3 (hz x hx).1 hK1,qb3 (hz x hx).2 hK1⟩
 have hpart:∀k,Sz (1+k*(2*K+2)) (lenR (xs.take k)):=fun k=>(qpr (xs.take k) 0 1 ⟨by decide,by decide⟩ (fun x hx=>hzz x (List.mem_of_mem_take hx))).mono (Nat.add_le_add_left (Nat.mul_le_mul_right _ (by rw[List.length_take];omega)) 1)
 have HC:=hI (fun(k:Nat) (x:Iv) (hx:xs[k]?=some x) (h2:x.le≠2) (h3:x.he≠2)=>show ∃D:ByteArray,(∀W,Calls Tryz.prog 62 #[.string x.hi,.string x.lo] W (Ret (.string D) W))∧∀W,Calls Tryz.prog 53 #[.string ⟨(txtR (lenR (xs.take k))).toArray⟩,.string D] W (Ret (.string ⟨(txtR (lenR (xs.take (k+1)))).toArray⟩) W)from by
  have hm:=List.mem_of_getElem? hx;obtain⟨z1,z2⟩:=hzz x hm;obtain⟨e1,e2⟩:=qtq (hiv x hm);obtain⟨rl,hl,hrl⟩:=qcr (e1 h2);obtain⟨rh,hh,hrh⟩:=qcr (e2 h3);have hk:=qfu hx;have hb:(k+1)*(2*K+2)≤xs.length*(2*K+2):=Nat.mul_le_mul_right _ hk;rw[Nat.add_mul]at hb
  have e:lenR (xs.take (k+1))=lenR (xs.take k)+(rh-rl):=by
   unfold lenR;rw[qa4 hx,List.foldl_append,←hrl,←hrh]
   rfl
  have z3:Sz (K+K+1) (rh-rl):=by
   rw[Rat.sub_eq_add_neg];exact(hrh▸z2).add (hrl▸z1).neg
  refine⟨⟨(txtR (rh-rl)).toArray⟩,fun W=>?_,fun W=>?_⟩
  ·rw[hh,hl]
   exact qrt rh rl K K W (hrh▸z2) (hrl▸z1) (by omega)
  ·rw[e]
   exact qip _ _ (1+k*(2*K+2)) (K+K+1) W (hpart k) z3 (by omega))
 have HFin:=hI (show unbB (xs.take xs.length)=false→lenV xs=.tuple #[.string ⟨(txtR (lenR (xs.take xs.length))).toArray⟩,.int .i64 0]from fun h=>by
  rw[List.take_length]at h⊢;unfold lenV
  rw[if_neg (by rw[h];decide)])
 have HHit:=hI (show unbB xs=true→lenV xs=.tuple #[.string ⟨#[]⟩,.int .i64 22]from fun h=>by
  unfold lenV
  rw[if_pos h])
 have H0:=hI (show(⟨#[48]⟩:ByteArray)=⟨(txtR (lenR (xs.take 0))).toArray⟩from by
  rw[show lenR (xs.take 0)=0 from rfl,qn9])
 obtain⟨V,hV⟩:∃V,lenV xs=V:=⟨_,rfl⟩
 rw[hV]at HFin HHit⊢;have HX:=hI h;obtain⟨a,c,rfl,hc1,hc2⟩:=h.open;unfold maxLen at hc2;obtain⟨N,hN⟩:∃N,xs.length=N:=⟨_,rfl⟩
 have HNl:=hI hN;rw[hN]at HX hc1 HFin⊢;clear h hiv hz hK1 hK hzz hpart hV hN
 go_enter Tryz.func32,Tryz.ntmps32
 go_wp2_with fail
 go_loopw [5,4] (fun i s wr=>∃k:Nat,k≤N∧i=.int .i64 (k:Int)∧s=.string ⟨(txtR (lenR (xs.take k))).toArray⟩∧Below w.heap.size w wr∧Hid (unbB (xs.take k)=false)) (fun i _ _=>N-(intOf i).toNat)
 case atStart=>exact⟨0,by omega,rfl,by rw[←H0.out],Below.refl _ _,rfl⟩
 case round=>
  obtain⟨k,hk,rfl,rfl,hbw,hq⟩:=hrel;have Hbw:=hI hbw;have Hq:=hI hq.out;rcases Nat.lt_or_ge k N with hlt|hge
  ·obtain⟨b,off,xv,rfl,hxv,c0,c1,c2,c3⟩:=HX.out.at hbw hlt
   have hkn:(k:Int)<(N:Int):=by omega
   have hk0:(0:Int)≤(k:Int):=Int.natCast_nonneg _;have hkw:IntKind.i64.wrap ((k:Int)+1)=(k:Int)+1:=IntWalk.i64_in _ (by omega)
   by_cases h2:xv.le=2
   ·have hb1:(xv.le==2)=true:=by rw[h2];rfl
    have Hv:=hI (HHit.out (qid hxv (.inl h2)));clear hxv h2 hbw hq;generalize xv.le=bl at*;generalize(txtR (lenR (xs.take k))).toArray=PK at*
    go_wp2_with fail
    go_ret2
    exact⟨by rw[Hv.out];rfl,Hbw.out⟩
   ·have hb1:(xv.le==2)=false:=beq_eq_false_iff_ne.2 h2
    by_cases h3:xv.he=2
    ·have hb2:(xv.he==2)=true:=by rw[h3];rfl
     have Hv:=hI (HHit.out (qid hxv (.inr h3)));clear hxv h2 h3 hbw hq;generalize xv.le=bl at*;generalize xv.he=bh at*;generalize(txtR (lenR (xs.take k))).toArray=PK at*
     go_wp2_with fail
     go_ret2
     exact⟨by rw[Hv.out];rfl,Hbw.out⟩
    ·have hb2:(xv.he==2)=false:=beq_eq_false_iff_ne.2 h3
     obtain⟨D,hD1,hD2⟩:=HC.out k xv hxv h2 h3;have HD1:=hI hD1;have HD2:=hI hD2;have Hun:=hI (show unbB (xs.take (k+1))=false from by rw[qtg hxv,Hq.out,decide_eq_false (fun h=>h.elim h2 h3)];rfl)
     have HSx:=hI (fun w' (hb:Below wr.heap.size wr w')=>show w'.cell? ⟨b,off+k*4,none⟩=some (.string xv.lo)∧w'.cell? ⟨b,off+k*4+1,none⟩=some (.string xv.hi)from
      ⟨(hb.cell (p:=⟨b,off+k*4,none⟩) (World.block_lt_of_cell? _ _ c0)).trans c0,(hb.cell (p:=⟨b,off+k*4+1,none⟩) (World.block_lt_of_cell? _ _ c1)).trans c1⟩)
     clear hxv hbw hq hD1 hD2 h2 h3 HC;obtain⟨PK,hPK⟩:∃P,(txtR (lenR (xs.take k))).toArray=P:=⟨_,rfl⟩
     rw[hPK]at HD2⊢;clear hPK;generalize xv.le=bl at*;generalize xv.he=bh at*;go_upto_region 7 with fail
     refine wp_region_held_drew (S:=(fun w'=>w'.cell? ⟨b,off+k*4,none⟩=some (.string xv.lo)∧w'.cell? ⟨b,off+k*4+1,none⟩=some (.string xv.hi))) (by kernel_rfl) (by exact HSx.out _ (bwD wr)) (fun hHeld=>?_)
     refine' tk 0 ?_;(try simp only[tkS]);refine' tk 1 ?_;(try simp only[tkS]);refine' tk 2 ?_;(try simp only[tkS]);refine' tk 3 ?_;(try simp only[tkS]);refine' tk 4 ?_;(try simp only[tkS]);refine' tk 5 ?_;(try simp only[tkS]);refine' tk 6 ?_;(try simp only[tkS]);refine' tk 7 ?_;(try simp only[tkS]);refine' tk 8 ?_;(try simp only[tkS]);refine' tk 9 ?_;(try simp only[tkS]);refine' tk 10 ?_;(try simp only[tkS]);refine tk1 11 (fun K hK=>?_)
     go_simp;go_at_call 62;refine(HD1.out _).mono ?_
     rintro z5 w5 ⟨rfl,hb5⟩;have Hb5:=hI (qaa (bwD wr) hb5);clear hb5;refine hK.out _ _ (by exact HSx.out _ (Hb5.out)) (fun hHeld=>?_)
     clear hK K;(try simp only[tkS]);refine tk1 12 (fun K hK=>?_)
     go_simp;go_at_call 53;refine(HD2.out _).mono ?_
     rintro z6 w6 ⟨rfl,hb6⟩;have Hb6:=hI (qaa (Hb5.out) hb6);clear hb6;refine hK.out _ _ (by exact HSx.out _ (Hb6.out)) (fun hHeld=>?_)
     clear hK K;(try simp only[tkS]);refine' tk 13 ?_;(try simp only[tkS]);refine tkD ?_ _
     go_wp2_with fail
     go_roundw
     case rel=>exact⟨k+1,by omega,by go_num,rfl,Hbw.out.via (Hb6.out) Hbw.out.size,Hun.out⟩
     case measure=>simp[intOf]<;>omega
  ·obtain rfl:k=N:=by omega
   have hkn:¬(k:Int)<(k:Int):=by omega
   have Hv:=hI (HFin.out Hq.out);generalize(txtR (lenR (xs.take k))).toArray=PK at*;clear hbw hq
   go_wp2_with fail
   go_ret2
   exact⟨by rw[Hv.out];rfl,Hbw.out⟩
end Go.Proofs.YtacihodamichhaaGreatDoor
