/- Parts of the proof. -/
import Derived.Test.YtacihodamichhaaGreatDoorU39
import Derived.Test.YtacihodamichhaaGreatDoorU42
set_option maxHeartbeats 8000000
namespace Go.Proofs.YtacihodamichhaaGreatDoor
open Go.RowKit
theorem qjb(v:Value)(r:Rat)(K:Nat)(w:World)(h:RQ w v r)(hz:Sz (9*K) r)(hK:K≤2000)(hT:Tab w):Calls Tryz.prog 61 #[v] w (Ret (.string ⟨(txtR r).toArray⟩) w):=by
 obtain⟨q,h,hq⟩:=h;obtain⟨x,a,n,c,x',a',n',c',rfl,h⟩:=h.open;have hB:=Blk.new w #[.bool x,.slice a n c,.bool x',.slice a' n' c'] 77;have HS:=hI (fun w' (hb:Below (w.alloc (.cells #[.bool x,.slice a n c,.bool x',.slice a' n' c'] 77)).heap.size (w.alloc (.cells #[.bool x,.slice a n c,.bool x',.slice a' n' c'] 77)) w')=>qeq hB hb);have HK:=hI (qac w (.cells #[.bool x,.slice a n c,.bool x',.slice a' n' c'] 77));have H1:=hI (fun w' (hb:Below w.heap.size w w')=>qd6 _ r.num q w' (h.mono hb));rw[hq]at H1;have H2:=hI (fun w' (hb:Below w.heap.size w w')=>qub _ r.num K w' (h.parts.1.mono hb) hz.1 (by omega) (hT.mono hb))
 by_cases h1:r.den=1
 ·rw[qce h1]
  rw[decide_eq_true (show((r.den:Nat):Int)=1 by omega)]at H1;generalize(⟨(txtZ r.num).toArray⟩:ByteArray)=D at*;clear h hB hz hT hq h1
  go_enter Tryz.func61,Tryz.ntmps61
  go_wp2_with (first
   |(go_at_call 109;refine(H1.out _ HK.out).mono ?_;rintro e1 w1 ⟨rfl,hb1⟩;obtain⟨c0,c1,c2,c3⟩:=HS.out _ hb1)
   |(go_at_call 114;refine(H2.out _ (HK.out.via hb1 HK.out.size)).mono ?_;rintro e2 w2 ⟨rfl,hb2⟩))
  go_ret
  exact⟨rfl,HK.out.via (qaa hb1 hb2) HK.out.size⟩
 ·rw[qcz h1,←qk9]
  rw[decide_eq_false (show ¬((r.den:Nat):Int)=1 by omega)]at H1
  have hqd:q=(r.den:Int):=by
   unfold dn at hq
   split at hq
   ·omega
   ·exact hq
  have H3:=hI (fun w' (hb:Below w.heap.size w w')=>qub _ q K w' (h.parts.2.mono hb) (by rw[hqd,Int.natAbs_natCast];exact hz.2) (by omega) (hT.mono hb));rw[hqd]at H3;have hs1:=qev (z:=r.num) (qb1 hz.1 (by omega));have hs2:=qev (z:=(r.den:Int)) (by rw[Int.natAbs_natCast];exact qb1 hz.2 (by omega));generalize(⟨(txtZ r.num).toArray⟩:ByteArray)=D at*;generalize(⟨(txtZ (r.den:Int)).toArray⟩:ByteArray)=E at*;have hcat:¬9223372036854775807<D.size+1:=by omega
  have hcat2:¬9223372036854775807<D.size+1+E.size:=by omega
  clear h hB hz hT hq h1 hqd hs1 hs2
  go_enter Tryz.func61,Tryz.ntmps61
  go_wp2_with (go_at_call 109;refine(H1.out _ HK.out).mono ?_;rintro e1 w1 ⟨rfl,hb1⟩;have Hb1:=hI hb1;clear hb1)
  refine wp_region_held_drew (S:=(fun w'=>w'.cell? ⟨w.heap.size,0,none⟩=some (.bool x)∧w'.cell? ⟨w.heap.size,1,none⟩=some (.slice a n c)∧w'.cell? ⟨w.heap.size,2,none⟩=some (.bool x')∧w'.cell? ⟨w.heap.size,3,none⟩=some (.slice a' n' c'))) (by kernel_rfl) (by exact HS.out _ (Hb1.out.dn 1)) (fun hHeld=>?_)
  refine' tk 0 ?_;(try simp only[tkS]);refine' tk 1 ?_;(try simp only[tkS]);refine' tk 4 ?_;(try simp only[tkS]);refine' tk 5 ?_;(try simp only[tkS]);refine tk1 2 (fun K hK=>?_)
  go_simp;go_at_call 114;refine(H2.out _ (HK.out.via (Hb1.out.dn 1) HK.out.size)).mono ?_
  rintro e5 w2 ⟨rfl,hb2⟩;have Hb2:=hI (qaa (Hb1.out.dn 1) hb2);clear hb2;refine hK.out _ _ (by exact HS.out _ (Hb2.out)) (fun hHeld=>?_)
  clear hK K;(try simp only[tkS]);refine' tk 3 ?_;(try simp only[tkS]);refine tk1 6 (fun K hK=>?_)
  go_simp;go_at_call 114;refine(H3.out _ (HK.out.via (Hb2.out) HK.out.size)).mono ?_
  rintro e5 w6 ⟨rfl,hb6⟩;have Hb6:=hI (qaa (Hb2.out) hb6);clear hb6;refine hK.out _ _ (by exact HS.out _ (Hb6.out)) (fun hHeld=>?_)
  clear hK K;(try simp only[tkS]);refine' tk 7 ?_;(try simp only[tkS]);refine' tk 8 ?_;(try simp only[tkS]);refine tkD ?_ _
  go_wp2_with fail
  go_ret
  exact⟨rfl,HK.out.via Hb6.out HK.out.size⟩
def ratS(s:ByteArray):Rat:=mkRat (numR s.data.toList) (dn (denR s.data.toList)).natAbs
theorem qc8{s:ByteArray}{r:Rat}(h:s.data.toList=txtR r):ratS s=r:=by
 unfold ratS;rw[h,(qe7 (qbi r)).1,(qe7 (qbi r)).2,qiy,qla,Int.natAbs_natCast,Rat.mkRat_self]
theorem qi5{s:ByteArray}(h:errL s.data.toList≠0):numR s.data.toList=0∧denR s.data.toList=0∧ratS s=0:=by
 have h1:numR s.data.toList=0:=by unfold numR;rw[if_neg h]
 refine⟨h1,by unfold denR;rw[if_neg h],?_⟩
 unfold ratS;rw[h1,Rat.zero_mkRat]
theorem qfc{w:World}{v:Value}{s:ByteArray}(h:RatV w v (numR s.data.toList) (denR s.data.toList)):RQ w v (ratS s):=by
 by_cases he:errL s.data.toList=0
 ·obtain⟨r,hr⟩:=qjo he
  rw[qc8 hr];rw[hr,(qe7 (qbi r)).1,(qe7 (qbi r)).2,qiy]at h;exact⟨_,h,qla r⟩
 ·obtain⟨h1,h2,h3⟩:=qi5 he
  rw[h1,h2]at h;rw[h3];exact⟨0,h,rfl⟩
theorem qcw{s:ByteArray}{k:Nat}(h:s.size≤k)(hk:0<k):Sz k (ratS s):=by
 by_cases he:errL s.data.toList=0
 ·obtain⟨r,hr⟩:=qjo he
  rw[qc8 hr];have:=qu0 r;rw[←hr,←Lib.size_eq]at this;exact Sz.mono (k:=s.size) this h
 ·rw[(qi5 he).2.2]
  exact⟨Nat.pow_pos (by decide),Nat.one_lt_pow (by omega) (by decide)⟩
theorem qww:Sz 1 1:=⟨by decide,by decide⟩
theorem qwv:Sz 1 2:=⟨by decide,by decide⟩
theorem qpv{w:World}{v:Value}{n:Int}(h:RatV w v n 0):RQ w v (n:Rat):=⟨0,h,rfl⟩
theorem qu3{k:Nat}{r:Rat}(h:Sz k r):Sz (k+1) (r/2):=by
 rw[qdy (by decide)];have e:(10:Nat)^(k+1)=10^k*10:=Nat.pow_succ _ _;refine Sz.mk (Nat.mul_ne_zero r.den_nz (by decide)) ?_ ?_
 ·rw[show((2:Rat).den:Int)=1 from rfl,Int.mul_one]
  have:=h.1;omega
 ·rw[show(2:Rat).num.natAbs=2 from rfl]
  have:=h.2;omega
theorem qxp{x:Iv}(h:qba x=0):x.low.s=x.lo∧x.high.s=x.hi:=by
 have key:∀(n:ByteArray) (k s:Int),qa2 n k=0→(qd5 n k s).s=n:=fun n k s h=>by
  by_cases h2:k=2
  ·subst h2
   unfold qa2 at h;rw[if_pos rfl]at h
   by_cases h3:n.data.toList=[]
   ·unfold qd5
    rw[if_pos rfl];exact(qdm (by rw[ByteArray.toList_eq,ByteArray.toList_eq,h3])).symm
   ·rw[if_neg h3]at h
    exact absurd h (by decide)
  ·unfold qd5
   rw[if_neg h2]
 unfold qba at h
 by_cases h1:x.le<0∨2<x.le∨x.he<0∨2<x.he
 ·rw[if_pos h1]at h
  exact absurd h (by decide)
 ·rw[if_neg h1]at h
  by_cases h2:qa2 x.lo x.le=0
  ·rw[if_neg (by simpa using h2)]at h
   exact⟨key _ _ _ h2,key _ _ _ h⟩
  ·rw[if_pos h2]at h
   exact absurd h h2
theorem qpm{x:Iv}{r:List Iv}(h:qa5 (x::r)=0)(hn:(x::r).length≤256):qba x=0:=Classical.byContradiction fun h1=>by
 unfold qa5 at h;rw[if_neg (by omega),qhz h1]at h;exact h1 h
theorem qdb(w:World)(c1 c2 c3:Array Value)(t1 t2 t3:TypeId):Below w.heap.size w (((w.alloc (.cells c1 t1)).alloc (.cells c2 t2)).alloc (.cells c3 t3))∧Blk (((w.alloc (.cells c1 t1)).alloc (.cells c2 t2)).alloc (.cells c3 t3)) w.heap.size c1 t1∧Blk (((w.alloc (.cells c1 t1)).alloc (.cells c2 t2)).alloc (.cells c3 t3)) (w.heap.size+1) c2 t2∧Blk (((w.alloc (.cells c1 t1)).alloc (.cells c2 t2)).alloc (.cells c3 t3)) (w.heap.size+1+1) c3 t3:=by
 have h1:=Blk.new w c1 t1;have h2:=Blk.new (w.alloc (.cells c1 t1)) c2 t2;have h3:=Blk.new ((w.alloc (.cells c1 t1)).alloc (.cells c2 t2)) c3 t3;simp only[World.size_alloc]at h2 h3;exact⟨qad (qad (qad (Below.refl _ _) _) _) _,(h1.old _).old _,h2.old _,h3⟩
theorem qvx{w:World}{B e sz g n:Nat}{xs:List Value}(h:w.ownsRow B e sz (.slice (some ⟨g,0,none⟩) n n) n xs):Blk w g xs.toArray e:=by
 rcases h.2 with⟨hv,-⟩|⟨g2,cap2,cur,hv,-,hblk,-,-,hcs,htk⟩
 ·cases hv
 ·cases hv
  have:cur=xs.toArray:=by
   apply Array.toList_inj.1
   rw[List.toList_toArray,←htk,List.take_of_length_le (by rw[Array.length_toList,hcs];exact Nat.le_refl _)]
  rw[←this];exact hblk
theorem noU8{x x' y y':Bool}{a a' e e':Option Addr}{n c n' c' m k m' k':Nat}:NoU #[.bool x,.slice a n c,.bool x',.slice a' n' c',.bool y,.slice e m k,.bool y',.slice e' m' k']:=by
 intro v hv d;simp at hv;rcases hv with rfl|rfl|rfl|rfl|rfl|rfl|rfl|rfl<;>simp
theorem nu4{x x':Bool}{a a':Option Addr}{n c n' c':Nat}:∀v∈[Value.bool x,.slice a n c,.bool x',.slice a' n' c'],∀d:Int,v≠.int .u32 d:=by
 intro v hv d;simp at hv;rcases hv with rfl|rfl|rfl|rfl<;>simp
theorem qvp{v:Value}{p q:Int}{R:Nat}{T:TypeId}(vs:List Value)(i:Nat)(w:World)(cs:Array Value)(hv:∀x∈vs,∀d:Int,x≠.int .u32 d)(h:RatV w v p q)(hB:Blk w R cs T)(hn:NoU cs):RatV (setN w R i vs) v p q:=by
 obtain⟨x,a,n,c,x',a',n',c',rfl,h1,h2⟩:=h;exact RatV.mk (IntV.setN vs i w cs hv h1 hB hn) (IntV.setN vs i w cs hv h2 hB hn)
theorem qpw{v:Value}{r:Rat}{R:Nat}{T:TypeId}(vs:List Value)(i:Nat)(w:World)(cs:Array Value)(hv:∀x∈vs,∀d:Int,x≠.int .u32 d)(h:RQ w v r)(hB:Blk w R cs T)(hn:NoU cs):RQ (setN w R i vs) v r:=by
 obtain⟨q,h1,h2⟩:=h;exact⟨q,qvp vs i w cs hv h1 hB hn,h2⟩
theorem qnv{w w':World}{b:Nat}{x0 x1 x2 x3 x4 x5 x6 x7:Value}{T:TypeId}(h:Blk w b #[x0,x1,x2,x3,x4,x5,x6,x7] T)(hb:Below w.heap.size w w'):
  w'.cell? ⟨b,0,none⟩=some x0∧w'.cell? ⟨b,1,none⟩=some x1∧w'.cell? ⟨b,2,none⟩=some x2∧w'.cell? ⟨b,3,none⟩=some x3∧w'.cell? ⟨b,4,none⟩=some x4∧w'.cell? ⟨b,5,none⟩=some x5∧w'.cell? ⟨b,6,none⟩=some x6∧w'.cell? ⟨b,7,none⟩=some x7:=by
 have h':=h.below hb;exact⟨by rw[h'.cell];rfl,by rw[h'.cell];rfl,by rw[h'.cell];rfl,by rw[h'.cell];rfl,by rw[h'.cell];rfl,by rw[h'.cell];rfl,by rw[h'.cell];rfl,by rw[h'.cell];rfl⟩
theorem qxj{w:World}{b:Nat}{cs:Array Value}{T:TypeId}(h:Blk w b cs T):
  w.frozen? ⟨b,0,none⟩=false∧w.frozen? ⟨b,1,none⟩=false∧w.frozen? ⟨b,2,none⟩=false∧w.frozen? ⟨b,3,none⟩=false∧w.frozen? ⟨b,4,none⟩=false∧w.frozen? ⟨b,5,none⟩=false∧w.frozen? ⟨b,6,none⟩=false∧w.frozen? ⟨b,7,none⟩=false:=
 ⟨h.free 0,h.free 1,h.free 2,h.free 3,h.free 4,h.free 5,h.free 6,h.free 7⟩
theorem qwk{w:World}{b:Nat}{x0 x1 x2 x3 x4 x5 x6 x7:Value}{T:TypeId}(h:Blk w b #[x0,x1,x2,x3,x4,x5,x6,x7] T)(y0 y1 y2 y3:Value):Blk ((((w.setCell ⟨b,0,none⟩ y0).setCell ⟨b,1,none⟩ y1).setCell ⟨b,2,none⟩ y2).setCell ⟨b,3,none⟩ y3) b #[y0,y1,y2,y3,x4,x5,x6,x7] T:=by
 simpa using(((h.set 0 y0).set 1 y1).set 2 y2).set 3 y3
theorem qwl{w:World}{b:Nat}{x0 x1 x2 x3 x4 x5 x6 x7:Value}{T:TypeId}(h:Blk w b #[x0,x1,x2,x3,x4,x5,x6,x7] T)(y0 y1 y2 y3:Value):Blk ((((w.setCell ⟨b,4,none⟩ y0).setCell ⟨b,5,none⟩ y1).setCell ⟨b,6,none⟩ y2).setCell ⟨b,7,none⟩ y3) b #[x0,x1,x2,x3,y0,y1,y2,y3] T:=by
 simpa using(((h.set 4 y0).set 5 y1).set 6 y2).set 7 y3
theorem qxr{w w':World}{b:Nat}{x0 x1:Value}{T:TypeId}(h:Blk w b #[x0,x1] T)(hb:Below w.heap.size w w'):w'.cell? ⟨b,0,none⟩=some x0∧w'.cell? ⟨b,1,none⟩=some x1:=by
 have h':=h.below hb;exact⟨by rw[h'.cell];rfl,by rw[h'.cell];rfl⟩
def TwoG(w':World)(v:Value)(z0 z1:Rat):Prop:=∃(g:Nat) (x0:Bool) (a0:Option Addr) (n0 c0:Nat) (y0:Bool) (e0:Option Addr) (m0 d0:Nat) (x1:Bool) (a1:Option Addr) (n1 c1:Nat) (y1:Bool) (e1:Option Addr) (m1 d1:Nat),v=.tuple #[.slice (some ⟨g,0,none⟩) 2 2,.int .i64 0]∧Blk w' g #[.bool x0,.slice a0 n0 c0,.bool y0,.slice e0 m0 d0,.bool x1,.slice a1 n1 c1,.bool y1,.slice e1 m1 d1] 77∧RQ w' (.agg #[.bool x0,.slice a0 n0 c0,.bool y0,.slice e0 m0 d0]) z0∧RQ w' (.agg #[.bool x1,.slice a1 n1 c1,.bool y1,.slice e1 m1 d1]) z1
set_option maxRecDepth 10000 in
theorem qt7(b:Nat)(s0 s1:ByteArray)(w:World)(T:TypeId)(hB:Blk w b #[.string s0,.string s1] T)(l0:s0.size≤5000)(l1:s1.size≤5000)(h0:errL s0.data.toList=0)(h1:errL s1.data.toList=0):
  Calls Tryz.prog 130 #[.slice (some ⟨b,0,none⟩) 2 2,.func (.func 63) #[] #[]] w (RetP (fun v w'=>TwoG w' v (ratS s0) (ratS s1)) w):=by
 have HB:=hI (fun w' (hb:Below w.heap.size w w')=>qxr hB hb);have H0:=hI (fun w'=>qgm s0 w' l0);have H1:=hI (fun w'=>qgm s1 w' l1);unfold qet at H0 H1;rw[h0]at H0;rw[h1]at H1;obtain⟨z0,hz0⟩:∃z,ratS s0=z:=⟨_,rfl⟩
 obtain⟨z1,hz1⟩:∃z,ratS s1=z:=⟨_,rfl⟩
 have HR0s:=hI (fun w' v (h:RatV w' v (numR s0.data.toList) (denR s0.data.toList))=>qfc h);have HR1s:=hI (fun w' v (h:RatV w' v (numR s1.data.toList) (denR s1.data.toList))=>qfc h);rw[hz0]at HR0s⊢;rw[hz1]at HR1s⊢;clear hB h0 h1 l0 l1 hz0 hz1;have hi:(Tryz.prog.info? 77).map (fun i=>(i.zero,i.size,i.bytes))=some (some (.agg #[.bool false,.slice none 0 0,.bool false,.slice none 0 0]),4,64):=by kernel_rfl
 obtain⟨i4,hi4,hz0,hz1,hz2⟩:=info_parts hi;clear hi;have eg:=enters_of (P:=Tryz.prog) Tryz.func63 (by kernel_rfl) rfl;have hmk:(madeCells (Value.agg #[.bool false,.slice none 0 0,.bool false,.slice none 0 0]).cells (2*4)).toList.toArray=#[.bool false,.slice none 0 0,.bool false,.slice none 0 0,.bool false,.slice none 0 0,.bool false,.slice none 0 0]:=by kernel_rfl
 go_enter Tryz.func130,Tryz.ntmps130
 go_wp2_with (at_make;go_loud (refine wpList_make_full _ rfl _ _ 109 rfl w.heap.size 77 i4 (.agg #[.bool false,.slice none 0 0,.bool false,.slice none 0 0]) 4 Tryz.underlying109 hi4 hz0 hz1 .i64 .i64 _ _ 2 rfl rfl (by omega) (by omega) (by rw[hz2];omega) (by unfold maxLen;omega) (by simp) ?_;intro w1 hown hg;have hblk:=qvx hown;rw[hmk]at hblk;have Hblk:=hI hblk;have Hb1:=hI ((Below.refl w.heap.size w).grown hg (Nat.le_refl _) (fun b hb=>by cases hb));clear hown hg hblk))
 go_loopw [15] (fun i wr=>∃k:Nat,k≤2∧i=.int .i64 (k:Int)∧Below w.heap.size w wr∧Hid ((k=0∧Blk wr w.heap.size #[.bool false,.slice none 0 0,.bool false,.slice none 0 0,.bool false,.slice none 0 0,.bool false,.slice none 0 0] 77)∨(k=1∧∃(x0:Bool) (a0:Option Addr) (n0 c0:Nat) (y0:Bool) (e0:Option Addr) (m0 d0:Nat),Blk wr w.heap.size #[.bool x0,.slice a0 n0 c0,.bool y0,.slice e0 m0 d0,.bool false,.slice none 0 0,.bool false,.slice none 0 0] 77∧RQ wr (.agg #[.bool x0,.slice a0 n0 c0,.bool y0,.slice e0 m0 d0]) z0)∨(k=2∧∃(x0:Bool) (a0:Option Addr) (n0 c0:Nat) (y0:Bool) (e0:Option Addr) (m0 d0:Nat) (x1:Bool) (a1:Option Addr) (n1 c1:Nat) (y1:Bool) (e1:Option Addr) (m1 d1:Nat),Blk wr w.heap.size #[.bool x0,.slice a0 n0 c0,.bool y0,.slice e0 m0 d0,.bool x1,.slice a1 n1 c1,.bool y1,.slice e1 m1 d1] 77∧RQ wr (.agg #[.bool x0,.slice a0 n0 c0,.bool y0,.slice e0 m0 d0]) z0∧RQ wr (.agg #[.bool x1,.slice a1 n1 c1,.bool y1,.slice e1 m1 d1]) z1))) (fun i _=>2-(intOf i).toNat)
 case atStart=>exact⟨0,by omega,rfl,Hb1.out,.inl ⟨rfl,Hblk.out⟩⟩
 case round=>
  obtain⟨k,hk,rfl,hbw,hst⟩:=hrel;have Hbw:=hI hbw;obtain⟨s0',s1'⟩:=HB.out _ hbw;clear hbw;rcases hst.out with⟨rfl,hblk⟩|⟨rfl,x0,a0,n0,c0,y0,e0,m0,d0,hblk,hr0⟩|⟨rfl,x0,a0,n0,c0,y0,e0,m0,d0,x1,a1,n1,c1,y1,e1,m1,d1,hblk,hr0,hr1⟩
  ·have HBk:=hI hblk
   clear hblk
   go_wp2_with (go_at_call 63;refine(H0.out _).mono ?_;rintro z w2 ⟨v2,rfl,⟨x0,a0,n0,c0,y0,e0,m0,d0,rfl,hrv0,-,-⟩,hb2⟩;have hrv:=HR0s.out _ _ hrv0;clear hrv0;have hB2:=HBk.out.below hb2;go_loud (obtain⟨p0,p1,p2,p3,p4,p5,p6,p7⟩:=qnv hB2 (Below.refl _ _);obtain⟨f0,f1,f2,f3,f4,f5,f6,f7⟩:=qxj hB2;have hB3:=qwk hB2 (.bool x0) (.slice a0 n0 c0) (.bool y0) (.slice e0 m0 d0);have hR3:=qpw [.bool x0,.slice a0 n0 c0,.bool y0,.slice e0 m0 d0] 0 _ _ nu4 hrv hB2 noU8;have hb3:=qca (B:=w.heap.size) (b:=w.heap.size) (Nat.le_refl _) [.bool x0,.slice a0 n0 c0,.bool y0,.slice e0 m0 d0] 0 _ (Hbw.out.via hb2 Hbw.out.size);simp only[setN,Nat.zero_add,Nat.reduceAdd]at hR3 hb3;have HB3:=hI hB3;have HR3:=hI hR3;have Hb3:=hI hb3;clear hB2 hB3 hR3 hb3 hrv hb2))
   go_roundw
   case rel=>exact⟨1,by omega,by go_num,Hb3.out,.inr (.inl ⟨rfl,x0,a0,n0,c0,y0,e0,m0,d0,HB3.out,HR3.out⟩)⟩
   case measure=>simp[intOf]<;>omega
  ·have HBk:=hI hblk
   have HR0:=hI hr0;clear hblk hr0
   go_wp2_with (go_at_call 63;refine(H1.out _).mono ?_;rintro z w2 ⟨v2,rfl,⟨x1,a1,n1,c1,y1,e1,m1,d1,rfl,hrv0,-,-⟩,hb2⟩;have hrv:=HR1s.out _ _ hrv0;clear hrv0;have hB2:=HBk.out.below hb2;obtain⟨p0,p1,p2,p3,p4,p5,p6,p7⟩:=qnv hB2 (Below.refl _ _);obtain⟨f0,f1,f2,f3,f4,f5,f6,f7⟩:=qxj hB2;have hR0':=HR0.out.mono hb2;have hB3:=qwl hB2 (.bool x1) (.slice a1 n1 c1) (.bool y1) (.slice e1 m1 d1);have hR3:=qpw [.bool x1,.slice a1 n1 c1,.bool y1,.slice e1 m1 d1] 4 _ _ nu4 hrv hB2 noU8;have hR4:=qpw [.bool x1,.slice a1 n1 c1,.bool y1,.slice e1 m1 d1] 4 _ _ nu4 hR0' hB2 noU8;have hb3:=qca (B:=w.heap.size) (b:=w.heap.size) (Nat.le_refl _) [.bool x1,.slice a1 n1 c1,.bool y1,.slice e1 m1 d1] 4 _ (Hbw.out.via hb2 Hbw.out.size);simp only[setN,Nat.reduceAdd]at hR3 hR4 hb3;have HB3:=hI hB3;have HR3:=hI hR3;have HR4:=hI hR4;have Hb3:=hI hb3;clear hB2 hB3 hR3 hR4 hR0' hb3 hrv hb2)
   go_roundw
   case rel=>exact⟨2,by omega,by go_num,Hb3.out,.inr (.inr ⟨rfl,x0,a0,n0,c0,y0,e0,m0,d0,x1,a1,n1,c1,y1,e1,m1,d1,HB3.out,HR4.out,HR3.out⟩)⟩
   case measure=>simp[intOf]<;>omega
  ·have HX:=hI (And.intro hblk (And.intro hr0 hr1))
   clear hblk hr0 hr1
   go_wp2_with fail
   go_ret2
   exact⟨_,rfl,⟨_,x0,a0,n0,c0,y0,e0,m0,d0,x1,a1,n1,c1,y1,e1,m1,d1,rfl,HX.out.1,HX.out.2.1,HX.out.2.2⟩,Hbw.out⟩
theorem qp0(b:Nat)(s0 s1:ByteArray)(w:World)(T:TypeId)(hB:Blk w b #[.string s0,.string s1] T)(l0:s0.size≤5000)(l1:s1.size≤5000)(h0:errL s0.data.toList=0)(h1:errL s1.data.toList=0):
  Calls Tryz.prog 83 #[.slice (some ⟨b,0,none⟩) 2 2] w (RetP (fun v w'=>TwoG w' v (ratS s0) (ratS s1)) w):=by
 have H:=hI (qt7 b s0 s1 w T hB l0 l1 h0 h1);clear hB h0 h1 l0 l1
 go_enter Tryz.func83,Tryz.ntmps83
 go_wp2_with (go_at_call 130;refine(H.out).mono ?_;rintro e w1 ⟨v,rfl,⟨g,x0,a0,n0,c0,y0,e0,m0,d0,x1,a1,n1,c1,y1,e1,m1,d1,rfl,hR⟩,hb1⟩;have HR:=hI hR;clear hR)
 go_ret2
 exact⟨_,rfl,⟨g,x0,a0,n0,c0,y0,e0,m0,d0,x1,a1,n1,c1,y1,e1,m1,d1,rfl,HR.out⟩,hb1⟩
theorem dn1(w:World):Below w.heap.size w (w.drewN 1):=(Below.refl _ _).dn 1
def movS(p q:Rat)(s:ByteArray):ByteArray:=if s.toList.isEmpty=true then⟨#[]⟩else⟨(txtR (p*ratS s+q)).toArray⟩
set_option maxRecDepth 10000 in
theorem qqo(K g:Nat)(s:ByteArray)(p q:Rat)(k0 k1 k2:Nat)(x0:Bool)(a0:Option Addr)(n0 c0:Nat)(y0:Bool)(e0:Option Addr)(m0 d0:Nat)(x1:Bool)(a1:Option Addr)(n1 c1:Nat)(y1:Bool)(e1:Option Addr)(m1 d1:Nat)(w:World)(T:TypeId)(hK:Blk w K #[.slice (some ⟨g,0,none⟩) 2 2] T)(hG:Blk w g #[.bool x0,.slice a0 n0 c0,.bool y0,.slice e0 m0 d0,.bool x1,.slice a1 n1 c1,.bool y1,.slice e1 m1 d1] 77)(h0:RQ w (.agg #[.bool x0,.slice a0 n0 c0,.bool y0,.slice e0 m0 d0]) p)(h1:RQ w (.agg #[.bool x1,.slice a1 n1 c1,.bool y1,.slice e1 m1 d1]) q)(hz0:Sz k0 p)(hz1:Sz k1 q)(hs:s.size≤k2)(hk2:0<k2)(hk3:k2≤5000)(hk:k0+k1+k2≤8000)(hT:Tab w):
  Calls Tryz.prog 85 #[.string s,.pointer (some ⟨K,0,none⟩)] w (Ret (.string (movS p q s)) w):=by
 cases hne:s.toList.isEmpty with
 |true=>
  have hM:movS p q s=⟨#[]⟩:=by unfold movS;rw[if_pos hne]
  rw[hM];clear hK hG h0 h1 hz0 hz1 hs hk2 hk3 hk hT hM
  go_enter Tryz.func85,Tryz.ntmps85
  go_wp2_with fail
  go_ret
  exact⟨rfl,Below.refl _ _⟩
 |false=>
  have hM:movS p q s=⟨(txtR (p*ratS s+q)).toArray⟩:=by unfold movS;rw[if_neg (by rw[hne];decide)]
  rw[hM];have hz2:=qcw (s:=s) (k:=k2) hs hk2;have hz3:=hz0.mul hz2;have hz4:=(hz3.add hz1).mono (show k0+k2+k1+1≤9*1000 by omega);have HX:=hI (And.intro hK (And.intro hG (And.intro h0 h1)));have HZ:=hI (And.intro hz0 (And.intro hz1 (And.intro hz2 hz3)));have HT:=hI hT;have HKk:=hI hk;have HRd:=hI (fun w'=>qgm s w' (Nat.le_trans hs hk3));have HRs:=hI (fun w' v (h:RatV w' v (numR s.data.toList) (denR s.data.toList))=>qfc h);have HNu:=hI (fun v w' (hv:RQ w' v (p*ratS s+q)) (hT':Tab w')=>show Calls Tryz.prog 61 #[v] w' (Ret (.string ⟨(txtR (p*ratS s+q)).toArray⟩) w')from qjb v _ 1000 w' hv hz4 (by decide) hT');unfold qet at HRd;generalize ratS s=r at*;clear hK hG h0 h1 hz0 hz1 hz2 hz3 hz4 hs hk2 hk3 hk hT hM
  go_enter Tryz.func85,Tryz.ntmps85
  go_wp2_with (go_at_call 63;refine(HRd.out _).mono ?_;rintro e w2 ⟨v2,rfl,⟨x2,a2,n2,c2,y2,e2,m2,d2,rfl,hrv,-,-⟩,hb2⟩;have Hrv:=hI (HRs.out _ _ hrv);have Hb2:=hI hb2;clear hrv hb2)
  have HSx:=hI (fun w' (hb:Below (w2.alloc (.cells #[.bool x2,.slice a2 n2 c2,.bool y2,.slice e2 m2 d2] 77)).heap.size (w2.alloc (.cells #[.bool x2,.slice a2 n2 c2,.bool y2,.slice e2 m2 d2] 77)) w')=>show w'.cell? ⟨K,0,none⟩=some (.slice (some ⟨g,0,none⟩) 2 2)∧w'.cell? ⟨g,0,none⟩=some (.bool x0)∧w'.cell? ⟨g,1,none⟩=some (.slice a0 n0 c0)∧w'.cell? ⟨g,2,none⟩=some (.bool y0)∧w'.cell? ⟨g,3,none⟩=some (.slice e0 m0 d0)∧w'.cell? ⟨g,4,none⟩=some (.bool x1)∧w'.cell? ⟨g,5,none⟩=some (.slice a1 n1 c1)∧w'.cell? ⟨g,6,none⟩=some (.bool y1)∧w'.cell? ⟨g,7,none⟩=some (.slice e1 m1 d1)∧w'.cell? ⟨w2.heap.size,0,none⟩=some (.bool x2)∧w'.cell? ⟨w2.heap.size,1,none⟩=some (.slice a2 n2 c2)∧w'.cell? ⟨w2.heap.size,2,none⟩=some (.bool y2)∧w'.cell? ⟨w2.heap.size,3,none⟩=some (.slice e2 m2 d2)from by
   have hb0:=qaa (qaa Hb2.out (qac w2 _)) hb;have hk:=HX.out.1.below hb0;obtain⟨g0,g1,g2,g3,g4,g5,g6,g7⟩:=qnv HX.out.2.1 hb0;obtain⟨t0,t1,t2,t3⟩:=qeq (Blk.new w2 #[.bool x2,.slice a2 n2 c2,.bool y2,.slice e2 m2 d2] 77) hb
   exact⟨by rw[hk.cell];rfl,g0,g1,g2,g3,g4,g5,g6,g7,t0,t1,t2,t3⟩)
  have HM:=hI (fun w' (hb:Below (w2.alloc (.cells #[.bool x2,.slice a2 n2 c2,.bool y2,.slice e2 m2 d2] 77)).heap.size (w2.alloc (.cells #[.bool x2,.slice a2 n2 c2,.bool y2,.slice e2 m2 d2] 77)) w')=>qw0 (.agg #[.bool x0,.slice a0 n0 c0,.bool y0,.slice e0 m0 d0]) (.agg #[.bool x2,.slice a2 n2 c2,.bool y2,.slice e2 m2 d2]) p r k0 k2 w' (HX.out.2.2.1.mono (qaa (qaa Hb2.out (qac w2 _)) hb)) (Hrv.out.mono (qaa (qac w2 _) hb)) HZ.out.1 HZ.out.2.2.1 (by have:=HKk.out;omega));have HA:=hI (fun v w' (hb:Below (w2.alloc (.cells #[.bool x2,.slice a2 n2 c2,.bool y2,.slice e2 m2 d2] 77)).heap.size (w2.alloc (.cells #[.bool x2,.slice a2 n2 c2,.bool y2,.slice e2 m2 d2] 77)) w') (hv:RQ w' v (p*r))=>qmp v (.agg #[.bool x1,.slice a1 n1 c1,.bool y1,.slice e1 m1 d1]) (p*r) q (k0+k2) k1 w' hv (HX.out.2.2.2.mono (qaa (qaa Hb2.out (qac w2 _)) hb)) HZ.out.2.2.2 HZ.out.2.1 (by have:=HKk.out;omega));refine wp_region_held_drew (S:=(fun w'=>w'.cell? ⟨K,0,none⟩=some (.slice (some ⟨g,0,none⟩) 2 2)∧w'.cell? ⟨g,0,none⟩=some (.bool x0)∧w'.cell? ⟨g,1,none⟩=some (.slice a0 n0 c0)∧w'.cell? ⟨g,2,none⟩=some (.bool y0)∧w'.cell? ⟨g,3,none⟩=some (.slice e0 m0 d0)∧w'.cell? ⟨g,4,none⟩=some (.bool x1)∧w'.cell? ⟨g,5,none⟩=some (.slice a1 n1 c1)∧w'.cell? ⟨g,6,none⟩=some (.bool y1)∧w'.cell? ⟨g,7,none⟩=some (.slice e1 m1 d1)∧w'.cell? ⟨w2.heap.size,0,none⟩=some (.bool x2)∧w'.cell? ⟨w2.heap.size,1,none⟩=some (.slice a2 n2 c2)∧w'.cell? ⟨w2.heap.size,2,none⟩=some (.bool y2)∧w'.cell? ⟨w2.heap.size,3,none⟩=some (.slice e2 m2 d2))) (by kernel_rfl) (by exact HSx.out _ (dn1 (w2.alloc (.cells #[.bool x2,.slice a2 n2 c2,.bool y2,.slice e2 m2 d2] 77)))) (fun hHeld=>?_)
  refine' tk 0 ?_;(try simp only[tkS]);refine' tk 1 ?_;(try simp only[tkS]);refine' tk 2 ?_;(try simp only[tkS]);refine' tk 3 ?_;(try simp only[tkS]);refine' tk 5 ?_;(try simp only[tkS]);refine' tk 6 ?_;(try simp only[tkS]);refine' tk 7 ?_;(try simp only[tkS]);refine tk1 4 (fun K hK=>?_)
  go_simp;go_at_call 86;refine(HM.out _ (dn1 (w2.alloc (.cells #[.bool x2,.slice a2 n2 c2,.bool y2,.slice e2 m2 d2] 77)))).mono ?_
  rintro z5 w5 ⟨v5,rfl,hv5,hb5⟩;have Hb5:=hI (qaa (dn1 (w2.alloc (.cells #[.bool x2,.slice a2 n2 c2,.bool y2,.slice e2 m2 d2] 77))) hb5);have Hv5:=hI hv5;clear hv5 hb5
  skip
  refine hK.out _ _ (by exact HSx.out _ (Hb5.out)) (fun hHeld=>?_)
  clear hK K;(try simp only[tkS]);refine tk1 8 (fun K hK=>?_)
  go_simp;go_at_call 58;refine(HA.out _ _ (Hb5.out) Hv5.out).mono ?_
  rintro e6 w6 ⟨v6,rfl,hv6,hb6⟩;have Hb6:=hI (qaa (Hb5.out) hb6);have Hv6:=hI hv6;clear hv6 hb6;refine hK.out _ _ (by exact HSx.out _ (Hb6.out)) (fun hHeld=>?_)
  clear hK K;(try simp only[tkS]);refine tk1 9 (fun K hK=>?_)
  go_simp;go_at_call 61;refine(HNu.out _ _ Hv6.out (HT.out.mono (qaa (qaa Hb2.out (qac w2 _)) (Hb6.out)))).mono ?_
  rintro e7 w7 ⟨rfl,hb7⟩;have Hb7:=hI (qaa (Hb6.out) hb7);clear hb7;refine hK.out _ _ (by exact HSx.out _ (Hb7.out)) (fun hHeld=>?_)
  clear hK K;(try simp only[tkS]);refine' tk 10 ?_;(try simp only[tkS]);refine tkD ?_ _
  go_wp2_with fail
  go_ret
  exact⟨rfl,qaa (qaa Hb2.out (qac w2 _)) (Hb7.out)⟩
theorem qsu{α:Type}{xs L:List α}{k:Nat}(hl:L.length=xs.length)(hk:¬(k:Int)<(xs.length:Int)-1-(k:Int))(hk2:k≤xs.length)(h:∀p,p<xs.length→L[p]?=if p<k∨xs.length-k≤p then xs[xs.length-1-p]? else xs[p]?):L=xs.reverse:=by
 apply List.ext_getElem?
 intro p;rcases Nat.lt_or_ge p xs.length with hp|hp
 ·rw[h p hp,List.getElem?_reverse hp]
  split
  ·rfl
  ·congr 1
   omega
 ·rw[List.getElem?_eq_none (by omega),List.getElem?_eq_none (by rw[List.length_reverse];omega)]
theorem qpz{α:Type}{xs L:List α}{k j:Nat}{x y:α}(hl:L.length=xs.length)(hj:j=xs.length-1-k)(hkj:k<j)(hx:L[k]?=some x)(hy:L[j]?=some y)(h:∀p,p<xs.length→L[p]?=if p<k∨xs.length-k≤p then xs[xs.length-1-p]? else xs[p]?):
  ∀p,p<xs.length→((L.set k y).set j x)[p]?=if p<k+1∨xs.length-(k+1)≤p then xs[xs.length-1-p]? else xs[p]?:=by
 intro p hp;have hk0:=h k (by omega);have hj0:=h j (by omega);rw[if_neg (by omega),hx]at hk0;rw[if_neg (by omega),hy]at hj0;rw[List.getElem?_set]
 by_cases e1:j=p
 ·subst e1
  rw[if_pos rfl,if_pos (by rw[List.length_set];omega),if_pos (by omega),show xs.length-1-j=k by omega,←hk0]
 ·rw[if_neg e1,List.getElem?_set]
  by_cases e2:k=p
  ·subst e2
   rw[if_pos rfl,if_pos (by omega),if_pos (by omega),←hj,←hj0]
  ·rw[if_neg e2,h p hp]
   by_cases e3:p<k∨xs.length-k≤p
   ·rw[if_pos e3,if_pos (by omega)]
   ·rw[if_neg e3,if_neg (by omega)]
theorem qhx:∀(L:List Iv) (k:Nat) (y:Iv),k<L.length→(((((L.map Iv.row).flatten.set (k*4) (.string y.lo)).set (k*4+1) (.string y.hi)).set (k*4+2) (.int .i64 y.le)).set (k*4+3) (.int .i64 y.he))=((L.set k y).map Iv.row).flatten
 |a::L,0,y,_=>rfl
 |a::L,k+1,y,h=>by
  have ih:=qhx L k y (by simpa using h);have sh:∀(t:List Value) (n:Nat) (v:Value),(Iv.row a++t).set (n+4) v=Iv.row a++t.set n v:=fun t n v=>rfl
  rw[List.set_cons_succ,List.map_cons,List.flatten_cons,List.map_cons,List.flatten_cons,←ih,Nat.add_mul,Nat.one_mul,sh,
   show k*4+4+1=k*4+1+4 by omega,sh,show k*4+4+2=k*4+2+4 by omega,sh,show k*4+4+3=k*4+3+4 by omega,sh]
theorem qmy{w:World}{M n g cap:Nat}{L:List Iv}(h:w.ownsRow M 46 4 (.slice (some ⟨g,0,none⟩) n cap) n ((L.map Iv.row).flatten)){i:Nat}{x:Iv}(hx:L[i]?=some x)(hi:i<n):
  (w.cell? ⟨g,i*4,none⟩=some (.string x.lo)∧w.cell? ⟨g,i*4+1,none⟩=some (.string x.hi)∧w.cell? ⟨g,i*4+2,none⟩=some (.int .i64 x.le)∧w.cell? ⟨g,i*4+3,none⟩=some (.int .i64 x.he))∧∀o,w.frozen? ⟨g,o,none⟩=false:=by
 constructor
 ·obtain⟨b',off,ha,hlt,r,hr,hc⟩:=Sl.row (qhk h) (Below.refl _ _) hi
  cases ha
  rw[List.getElem?_map,hx]at hr;cases hr
  have h0:=hc 0 (by decide);have h1:=hc 1 (by decide);have h2:=hc 2 (by decide);have h3:=hc 3 (by decide);rw[Nat.zero_add]at h0 h1 h2 h3;exact⟨h0,h1,h2,h3⟩
 ·intro o
  rcases h.2 with⟨h1,h0⟩|⟨g',cap',cur,h1,hb,hg,_⟩
  ·cases h1
  ·cases h1
   exact frozen_of_row w g _ _ _ hg
set_option maxRecDepth 10000 in
theorem qw1(xs:List Iv)(a:Option Addr)(n c M:Nat)(w:World)(hown:w.ownsRow M 46 4 (.slice a n c) n ((xs.map Iv.row).flatten))(hn:xs.length=n)(hM:M≤w.heap.size)(hn1:n<1000000):
  Calls Tryz.prog 87 #[.slice a n c] w (fun e w'=>e=.returned (.tuple #[])∧w'.ownsRow M 46 4 (.slice a n c) n ((xs.reverse.map Iv.row).flatten)∧Below M w w'):=by
 have hw0:IntKind.i64.wrap ((n:Int)-1)=(n:Int)-1:=IntWalk.i64_in _ (by omega);have Hn:=hI hn;have HM:=hI hM;clear hn hM
 go_enter Tryz.func87,Tryz.ntmps87
 go_wp2_with fail
 go_loopw [2,3] (fun i j wr=>∃(k:Nat) (L:List Iv),k≤n∧i=.int .i64 (k:Int)∧j=.int .i64 ((n:Int)-1-(k:Int))∧wr.ownsRow M 46 4 (.slice a n c) n ((L.map Iv.row).flatten)∧Below M w wr∧Hid (L.length=n∧∀p,p<n→L[p]?=if p<k∨n-k≤p then xs[n-1-p]? else xs[p]?)) (fun i _ _=>n-(intOf i).toNat)
 case atStart=>exact⟨0,xs,Nat.zero_le _,rfl,by simp,hown,Below.refl _ _,Hn.out,fun p hp=>by rw[if_neg (by omega)]⟩
 case round=>
  clear hown;obtain⟨k,L,hk,rfl,rfl,hown,hbw,hpre⟩:=hrel
  by_cases hlt:(k:Int)<(n:Int)-1-(k:Int)
  ·obtain⟨g,rfl⟩:=qbk hown (by omega)
   obtain⟨j,hj⟩:∃j:Nat,(n:Int)-1-(k:Int)=(j:Int):=⟨n-1-k,by omega⟩
   rw[hj]at hlt⊢;obtain⟨x,hx⟩:∃x,L[k]?=some x:=⟨L[k]'(by have:=hpre.out.1;omega),by simp⟩
   obtain⟨y,hy⟩:∃y,L[j]?=some y:=⟨L[j]'(by have:=hpre.out.1;omega),by simp⟩
   obtain⟨⟨ck0,ck1,ck2,ck3⟩,fz⟩:=qmy hown hx (by omega);obtain⟨⟨cj0,cj1,cj2,cj3⟩,-⟩:=qmy hown hy (by omega);have fk0:=fz (k*4);have fk1:=fz (k*4+1);have fk2:=fz (k*4+2);have fk3:=fz (k*4+3);have fj0:=fz (j*4);have fj1:=fz (j*4+1);have fj2:=fz (j*4+2);have fj3:=fz (j*4+3);have hkn:(k:Int)<(n:Int):=by omega
   have hjn:(j:Int)<(n:Int):=by omega
   have hk0:(0:Int)≤(k:Int):=Int.natCast_nonneg _;have hj0:(0:Int)≤(j:Int):=Int.natCast_nonneg _;have hkw:IntKind.i64.wrap ((k:Int)+1)=(k:Int)+1:=IntWalk.i64_in _ (by omega);have hjw:IntKind.i64.wrap ((j:Int)-1)=(j:Int)-1:=IntWalk.i64_in _ (by omega);have hge:=(hown.lt g rfl).1;have Hs:=hI (qpz (j:=j) (hpre.out.1.trans Hn.out.symm) (by rw[Hn.out];omega) (by omega) hx hy (by rw[Hn.out];exact hpre.out.2));have h1:=qak (qak (qak (qak hown (i:=k*4) (by omega) (.string y.lo)) (i:=k*4+1) (by omega) (.string y.hi)) (i:=k*4+2) (by omega) (.int .i64 y.le)) (i:=k*4+3) (by omega) (.int .i64 y.he);rw[qhx L k y (by have:=hpre.out.1;omega)]at h1;have h2:=qak (qak (qak (qak h1 (i:=j*4) (by omega) (.string x.lo)) (i:=j*4+1) (by omega) (.string x.hi)) (i:=j*4+2) (by omega) (.int .i64 x.le)) (i:=j*4+3) (by omega) (.int .i64 x.he);rw[qhx (L.set k y) j x (by rw[List.length_set];have:=hpre.out.1;omega)]at h2;have Hown:=hI h2;have Hbw:=hI ((((((((hbw.setCell (p:=⟨g,k*4,none⟩) hge (.string y.lo)).setCell (p:=⟨g,k*4+1,none⟩) hge (.string y.hi)).setCell (p:=⟨g,k*4+2,none⟩) hge (.int .i64 y.le)).setCell (p:=⟨g,k*4+3,none⟩) hge (.int .i64 y.he)).setCell (p:=⟨g,j*4,none⟩) hge (.string x.lo)).setCell (p:=⟨g,j*4+1,none⟩) hge (.string x.hi)).setCell (p:=⟨g,j*4+2,none⟩) hge (.int .i64 x.le)).setCell (p:=⟨g,j*4+3,none⟩) hge (.int .i64 x.he));have Hj:=hI hj;have Hl:=hI (show((L.set k y).set j x).length=n by rw[List.length_set,List.length_set];exact hpre.out.1);clear h1 h2 hown hbw hpre hx hy hj fz
   go_wp2_with fail
   go_region
   all_goals(go_wp2_with fail)
   go_roundw
   case rel=>
    refine⟨k+1,(L.set k y).set j x,by omega,by go_num,by have:=Hj.out;rw[show(n:Int)-1-((k+1:Nat):Int)=(j:Int)-1 by omega],?_,?_,Hl.out,by have h:=Hs.out;rw[Hn.out]at h;exact h⟩
    ·exact qaf Hown.out ((Below.refl _ _).dn 1)
    ·exact(Hbw.out).dn 1
   case measure=>simp[intOf]<;>omega
  ·have hfin:=qsu (xs:=xs) (hpre.out.1.trans Hn.out.symm) (by rw[Hn.out];exact hlt) (by rw[Hn.out];exact hk) (by rw[Hn.out];exact hpre.out.2)
   subst hfin
   go_wp2_with fail
   go_end0
   exact⟨rfl,by rw[←List.map_reverse];exact hown,hbw⟩
end Go.Proofs.YtacihodamichhaaGreatDoor
