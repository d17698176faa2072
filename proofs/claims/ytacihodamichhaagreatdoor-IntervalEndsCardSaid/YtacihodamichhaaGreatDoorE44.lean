/- Parts of the proof. -/
import Derived.Test.YtacihodamichhaaGreatDoorE39
import Derived.Test.YtacihodamichhaaGreatDoorE43
set_option maxHeartbeats 16000000
namespace Go.Proofs.YtacihodamichhaaGreatDoor
open Go.RowKit
theorem qtz{w:World}{B e sz g n:Nat}{xs:List Value}(h:w.ownsRow B e sz (.slice (some ⟨g,0,none⟩) n n) n xs):Blk w g xs.toArray e:=by
 rcases h.2 with⟨hv,-⟩|⟨g2,cap2,cur,hv,-,hblk,-,-,hcs,htk⟩
 ·cases hv
 ·cases hv
  have:cur=xs.toArray:=by
   apply Array.toList_inj.1
   rw[List.toList_toArray,←htk,List.take_of_length_le (by rw[Array.length_toList,hcs];exact Nat.le_refl _)]
  rw[←this];exact hblk
theorem noU8{x x' y y':Bool}{a a' e e':Option Addr}{n c n' c' m k m' k':Nat}:NoU #[.bool x,.slice a n c,.bool x',.slice a' n' c',.bool y,.slice e m k,.bool y',.slice e' m' k']:=by
 intro v hv d;simp at hv;rcases hv with rfl|rfl|rfl|rfl|rfl|rfl|rfl|rfl<;>simp
theorem nu4{x x':Bool}{a a':Option Addr}{n c n' c':Nat}:∀v∈[Value.bool x,.slice a n c,.bool x',.slice a' n' c'],∀d:Int,v≠.int .u32 d:=by
 intro v hv d;simp at hv;rcases hv with rfl|rfl|rfl|rfl<;>simp
theorem qts{v:Value}{p q:Int}{R:Nat}{T:TypeId}(vs:List Value)(i:Nat)(w:World)(cs:Array Value)(hv:∀x∈vs,∀d:Int,x≠.int .u32 d)(h:RatV w v p q)(hB:Blk w R cs T)(hn:NoU cs):RatV (setN w R i vs) v p q:=by
 obtain⟨x,a,n,c,x',a',n',c',rfl,h1,h2⟩:=h;exact RatV.mk (IntV.setN vs i w cs hv h1 hB hn) (IntV.setN vs i w cs hv h2 hB hn)
theorem qn5{v:Value}{r:Rat}{R:Nat}{T:TypeId}(vs:List Value)(i:Nat)(w:World)(cs:Array Value)(hv:∀x∈vs,∀d:Int,x≠.int .u32 d)(h:RQ w v r)(hB:Blk w R cs T)(hn:NoU cs):RQ (setN w R i vs) v r:=by
 obtain⟨q,h1,h2⟩:=h;exact⟨q,qts vs i w cs hv h1 hB hn,h2⟩
theorem qmk{w w':World}{b:Nat}{x0 x1 x2 x3 x4 x5 x6 x7:Value}{T:TypeId}(h:Blk w b #[x0,x1,x2,x3,x4,x5,x6,x7] T)(hb:Below w.heap.size w w'):
  w'.cell? ⟨b,0,none⟩=some x0∧w'.cell? ⟨b,1,none⟩=some x1∧w'.cell? ⟨b,2,none⟩=some x2∧w'.cell? ⟨b,3,none⟩=some x3∧w'.cell? ⟨b,4,none⟩=some x4∧w'.cell? ⟨b,5,none⟩=some x5∧w'.cell? ⟨b,6,none⟩=some x6∧w'.cell? ⟨b,7,none⟩=some x7:=by
 have h':=h.below hb;exact⟨by rw[h'.cell];rfl,by rw[h'.cell];rfl,by rw[h'.cell];rfl,by rw[h'.cell];rfl,by rw[h'.cell];rfl,by rw[h'.cell];rfl,by rw[h'.cell];rfl,by rw[h'.cell];rfl⟩
theorem qvg{w:World}{b:Nat}{cs:Array Value}{T:TypeId}(h:Blk w b cs T):
  w.frozen? ⟨b,0,none⟩=false∧w.frozen? ⟨b,1,none⟩=false∧w.frozen? ⟨b,2,none⟩=false∧w.frozen? ⟨b,3,none⟩=false∧w.frozen? ⟨b,4,none⟩=false∧w.frozen? ⟨b,5,none⟩=false∧w.frozen? ⟨b,6,none⟩=false∧w.frozen? ⟨b,7,none⟩=false:=
 ⟨h.free 0,h.free 1,h.free 2,h.free 3,h.free 4,h.free 5,h.free 6,h.free 7⟩
theorem quk{w:World}{b:Nat}{x0 x1 x2 x3 x4 x5 x6 x7:Value}{T:TypeId}(h:Blk w b #[x0,x1,x2,x3,x4,x5,x6,x7] T)(y0 y1 y2 y3:Value):Blk ((((w.setCell ⟨b,0,none⟩ y0).setCell ⟨b,1,none⟩ y1).setCell ⟨b,2,none⟩ y2).setCell ⟨b,3,none⟩ y3) b #[y0,y1,y2,y3,x4,x5,x6,x7] T:=by
 simpa using(((h.set 0 y0).set 1 y1).set 2 y2).set 3 y3
theorem qul{w:World}{b:Nat}{x0 x1 x2 x3 x4 x5 x6 x7:Value}{T:TypeId}(h:Blk w b #[x0,x1,x2,x3,x4,x5,x6,x7] T)(y0 y1 y2 y3:Value):Blk ((((w.setCell ⟨b,4,none⟩ y0).setCell ⟨b,5,none⟩ y1).setCell ⟨b,6,none⟩ y2).setCell ⟨b,7,none⟩ y3) b #[x0,x1,x2,x3,y0,y1,y2,y3] T:=by
 simpa using(((h.set 4 y0).set 5 y1).set 6 y2).set 7 y3
theorem qvm{w w':World}{b:Nat}{x0 x1:Value}{T:TypeId}(h:Blk w b #[x0,x1] T)(hb:Below w.heap.size w w'):w'.cell? ⟨b,0,none⟩=some x0∧w'.cell? ⟨b,1,none⟩=some x1:=by
 have h':=h.below hb;exact⟨by rw[h'.cell];rfl,by rw[h'.cell];rfl⟩
def TwoG(w':World)(v:Value)(z0 z1:Rat):Prop:=∃(g:Nat) (x0:Bool) (a0:Option Addr) (n0 c0:Nat) (y0:Bool) (e0:Option Addr) (m0 d0:Nat) (x1:Bool) (a1:Option Addr) (n1 c1:Nat) (y1:Bool) (e1:Option Addr) (m1 d1:Nat),v=.tuple #[.slice (some ⟨g,0,none⟩) 2 2,.int .i64 0]∧Blk w' g #[.bool x0,.slice a0 n0 c0,.bool y0,.slice e0 m0 d0,.bool x1,.slice a1 n1 c1,.bool y1,.slice e1 m1 d1] 77∧RQ w' (.agg #[.bool x0,.slice a0 n0 c0,.bool y0,.slice e0 m0 d0]) z0∧RQ w' (.agg #[.bool x1,.slice a1 n1 c1,.bool y1,.slice e1 m1 d1]) z1
set_option maxRecDepth 10000 in
theorem qse(b:Nat)(s0 s1:ByteArray)(w:World)(T:TypeId)(hB:Blk w b #[.string s0,.string s1] T)(l0:s0.size≤5000)(l1:s1.size≤5000)(h0:errL s0.data.toList=0)(h1:errL s1.data.toList=0):
  Calls Tryz.prog 130 #[.slice (some ⟨b,0,none⟩) 2 2,.func (.func 63) #[] #[]] w (RetP (fun v w'=>TwoG w' v (ratS s0) (ratS s1)) w):=by
 have HB:=hI (fun w' (hb:Below w.heap.size w w')=>qvm hB hb);have H0:=hI (fun w'=>qfa s0 w' l0);have H1:=hI (fun w'=>qfa s1 w' l1);unfold qeb at H0 H1;rw[h0]at H0;rw[h1]at H1;obtain⟨z0,hz0⟩:∃z,ratS s0=z:=⟨_,rfl⟩
 obtain⟨z1,hz1⟩:∃z,ratS s1=z:=⟨_,rfl⟩
 have HR0s:=hI (fun w' v (h:RatV w' v (numR s0.data.toList) (denR s0.data.toList))=>qgw h);have HR1s:=hI (fun w' v (h:RatV w' v (numR s1.data.toList) (denR s1.data.toList))=>qgw h);rw[hz0]at HR0s⊢;rw[hz1]at HR1s⊢;clear hB h0 h1 l0 l1 hz0 hz1;have hi:(Tryz.prog.info? 77).map (fun i=>(i.zero,i.size,i.bytes))=some (some (.agg #[.bool false,.slice none 0 0,.bool false,.slice none 0 0]),4,64):=by kernel_rfl
 obtain⟨i4,hi4,hz0,hz1,hz2⟩:=info_parts hi;clear hi;have eg:=enters_of (P:=Tryz.prog) Tryz.func63 (by kernel_rfl) rfl;have hmk:(madeCells (Value.agg #[.bool false,.slice none 0 0,.bool false,.slice none 0 0]).cells (2*4)).toList.toArray=#[.bool false,.slice none 0 0,.bool false,.slice none 0 0,.bool false,.slice none 0 0,.bool false,.slice none 0 0]:=by kernel_rfl
 go_enter Tryz.func130,Tryz.ntmps130
 go_wp2_with (at_make;go_loud (refine wpList_make_full _ rfl _ _ 109 rfl w.heap.size 77 i4 (.agg #[.bool false,.slice none 0 0,.bool false,.slice none 0 0]) 4 Tryz.underlying109 hi4 hz0 hz1 .i64 .i64 _ _ 2 rfl rfl (by omega) (by omega) (by rw[hz2];omega) (by unfold maxLen;omega) (by simp) ?_;intro w1 hown hg;have hblk:=qtz hown;rw[hmk]at hblk;have Hblk:=hI hblk;have Hb1:=hI ((Below.refl w.heap.size w).grown hg (Nat.le_refl _) (fun b hb=>by cases hb));clear hown hg hblk))
 go_loopw [15] (fun i wr=>∃k:Nat,k≤2∧i=.int .i64 (k:Int)∧Below w.heap.size w wr∧Hid ((k=0∧Blk wr w.heap.size #[.bool false,.slice none 0 0,.bool false,.slice none 0 0,.bool false,.slice none 0 0,.bool false,.slice none 0 0] 77)∨(k=1∧∃(x0:Bool) (a0:Option Addr) (n0 c0:Nat) (y0:Bool) (e0:Option Addr) (m0 d0:Nat),Blk wr w.heap.size #[.bool x0,.slice a0 n0 c0,.bool y0,.slice e0 m0 d0,.bool false,.slice none 0 0,.bool false,.slice none 0 0] 77∧RQ wr (.agg #[.bool x0,.slice a0 n0 c0,.bool y0,.slice e0 m0 d0]) z0)∨(k=2∧∃(x0:Bool) (a0:Option Addr) (n0 c0:Nat) (y0:Bool) (e0:Option Addr) (m0 d0:Nat) (x1:Bool) (a1:Option Addr) (n1 c1:Nat) (y1:Bool) (e1:Option Addr) (m1 d1:Nat),Blk wr w.heap.size #[.bool x0,.slice a0 n0 c0,.bool y0,.slice e0 m0 d0,.bool x1,.slice a1 n1 c1,.bool y1,.slice e1 m1 d1] 77∧RQ wr (.agg #[.bool x0,.slice a0 n0 c0,.bool y0,.slice e0 m0 d0]) z0∧RQ wr (.agg #[.bool x1,.slice a1 n1 c1,.bool y1,.slice e1 m1 d1]) z1))) (fun i _=>2-(intOf i).toNat)
 case atStart=>exact⟨0,by omega,rfl,Hb1.out,.inl ⟨rfl,Hblk.out⟩⟩
 case round=>
  obtain⟨k,hk,rfl,hbw,hst⟩:=hrel;have Hbw:=hI hbw;obtain⟨s0',s1'⟩:=HB.out _ hbw;clear hbw;rcases hst.out with⟨rfl,hblk⟩|⟨rfl,x0,a0,n0,c0,y0,e0,m0,d0,hblk,hr0⟩|⟨rfl,x0,a0,n0,c0,y0,e0,m0,d0,x1,a1,n1,c1,y1,e1,m1,d1,hblk,hr0,hr1⟩
  ·have HBk:=hI hblk
   clear hblk
   go_wp2_with (go_at_call 63;refine(H0.out _).mono ?_;rintro z w2 ⟨v2,rfl,⟨x0,a0,n0,c0,y0,e0,m0,d0,rfl,hrv0,-,-⟩,hb2⟩;have hrv:=HR0s.out _ _ hrv0;clear hrv0;have hB2:=HBk.out.below hb2;go_loud (obtain⟨p0,p1,p2,p3,p4,p5,p6,p7⟩:=qmk hB2 (Below.refl _ _);obtain⟨f0,f1,f2,f3,f4,f5,f6,f7⟩:=qvg hB2;have hB3:=quk hB2 (.bool x0) (.slice a0 n0 c0) (.bool y0) (.slice e0 m0 d0);have hR3:=qn5 [.bool x0,.slice a0 n0 c0,.bool y0,.slice e0 m0 d0] 0 _ _ nu4 hrv hB2 noU8;have hb3:=qb7 (B:=w.heap.size) (b:=w.heap.size) (Nat.le_refl _) [.bool x0,.slice a0 n0 c0,.bool y0,.slice e0 m0 d0] 0 _ (Hbw.out.via hb2 Hbw.out.size);simp only[setN,Nat.zero_add,Nat.reduceAdd]at hR3 hb3;have HB3:=hI hB3;have HR3:=hI hR3;have Hb3:=hI hb3;clear hB2 hB3 hR3 hb3 hrv hb2))
   go_roundw
   case rel=>exact⟨1,by omega,by go_num,Hb3.out,.inr (.inl ⟨rfl,x0,a0,n0,c0,y0,e0,m0,d0,HB3.out,HR3.out⟩)⟩
   case measure=>simp[intOf]<;>omega
  ·have HBk:=hI hblk
   have HR0:=hI hr0;clear hblk hr0
   go_wp2_with (go_at_call 63;refine(H1.out _).mono ?_;rintro z w2 ⟨v2,rfl,⟨x1,a1,n1,c1,y1,e1,m1,d1,rfl,hrv0,-,-⟩,hb2⟩;have hrv:=HR1s.out _ _ hrv0;clear hrv0;have hB2:=HBk.out.below hb2;obtain⟨p0,p1,p2,p3,p4,p5,p6,p7⟩:=qmk hB2 (Below.refl _ _);obtain⟨f0,f1,f2,f3,f4,f5,f6,f7⟩:=qvg hB2;have hR0':=HR0.out.mono hb2;have hB3:=qul hB2 (.bool x1) (.slice a1 n1 c1) (.bool y1) (.slice e1 m1 d1);have hR3:=qn5 [.bool x1,.slice a1 n1 c1,.bool y1,.slice e1 m1 d1] 4 _ _ nu4 hrv hB2 noU8;have hR4:=qn5 [.bool x1,.slice a1 n1 c1,.bool y1,.slice e1 m1 d1] 4 _ _ nu4 hR0' hB2 noU8;have hb3:=qb7 (B:=w.heap.size) (b:=w.heap.size) (Nat.le_refl _) [.bool x1,.slice a1 n1 c1,.bool y1,.slice e1 m1 d1] 4 _ (Hbw.out.via hb2 Hbw.out.size);simp only[setN,Nat.reduceAdd]at hR3 hR4 hb3;have HB3:=hI hB3;have HR3:=hI hR3;have HR4:=hI hR4;have Hb3:=hI hb3;clear hB2 hB3 hR3 hR4 hR0' hb3 hrv hb2)
   go_roundw
   case rel=>exact⟨2,by omega,by go_num,Hb3.out,.inr (.inr ⟨rfl,x0,a0,n0,c0,y0,e0,m0,d0,x1,a1,n1,c1,y1,e1,m1,d1,HB3.out,HR4.out,HR3.out⟩)⟩
   case measure=>simp[intOf]<;>omega
  ·have HX:=hI (And.intro hblk (And.intro hr0 hr1))
   clear hblk hr0 hr1
   go_wp2_with fail
   go_ret2
   exact⟨_,rfl,⟨_,x0,a0,n0,c0,y0,e0,m0,d0,x1,a1,n1,c1,y1,e1,m1,d1,rfl,HX.out.1,HX.out.2.1,HX.out.2.2⟩,Hbw.out⟩
theorem qth(b:Nat)(s0 s1:ByteArray)(w:World)(T:TypeId)(hB:Blk w b #[.string s0,.string s1] T)(l0:s0.size≤5000)(l1:s1.size≤5000)(h0:errL s0.data.toList=0)(h1:errL s1.data.toList=0):
  Calls Tryz.prog 83 #[.slice (some ⟨b,0,none⟩) 2 2] w (RetP (fun v w'=>TwoG w' v (ratS s0) (ratS s1)) w):=by
 have H:=hI (qse b s0 s1 w T hB l0 l1 h0 h1);clear hB h0 h1 l0 l1
 go_enter Tryz.func83,Tryz.ntmps83
 go_wp2_with (go_at_call 130;refine(H.out).mono ?_;rintro e w1 ⟨v,rfl,⟨g,x0,a0,n0,c0,y0,e0,m0,d0,x1,a1,n1,c1,y1,e1,m1,d1,rfl,hR⟩,hb1⟩;have HR:=hI hR;clear hR)
 go_ret2
 exact⟨_,rfl,⟨g,x0,a0,n0,c0,y0,e0,m0,d0,x1,a1,n1,c1,y1,e1,m1,d1,rfl,HR.out⟩,hb1⟩
theorem dn1(w:World):Below w.heap.size w (w.drewN 1):=(Below.refl _ _).dn 1
def movS(p q:Rat)(s:ByteArray):ByteArray:=if s.toList.isEmpty=true then⟨#[]⟩else⟨(txtR (p*ratS s+q)).toArray⟩
set_option maxRecDepth 10000 in
theorem qot(K g:Nat)(s:ByteArray)(p q:Rat)(k0 k1:Nat)(x0:Bool)(a0:Option Addr)(n0 c0:Nat)(y0:Bool)(e0:Option Addr)(m0 d0:Nat)(x1:Bool)(a1:Option Addr)(n1 c1:Nat)(y1:Bool)(e1:Option Addr)(m1 d1:Nat)(w:World)(T:TypeId)(hK:Blk w K #[.slice (some ⟨g,0,none⟩) 2 2] T)(hG:Blk w g #[.bool x0,.slice a0 n0 c0,.bool y0,.slice e0 m0 d0,.bool x1,.slice a1 n1 c1,.bool y1,.slice e1 m1 d1] 77)(h0:RQ w (.agg #[.bool x0,.slice a0 n0 c0,.bool y0,.slice e0 m0 d0]) p)(h1:RQ w (.agg #[.bool x1,.slice a1 n1 c1,.bool y1,.slice e1 m1 d1]) q)(hz0:Sz k0 p)(hz1:Sz k1 q)(hs:s.size≤60)(hk:k0+k1≤8000)(hT:Tab w):
  Calls Tryz.prog 85 #[.string s,.pointer (some ⟨K,0,none⟩)] w (Ret (.string (movS p q s)) w):=by
 cases hne:s.toList.isEmpty with
 |true=>
  have hM:movS p q s=⟨#[]⟩:=by unfold movS;rw[if_pos hne]
  rw[hM];clear hK hG h0 h1 hz0 hz1 hs hk hT hM
  go_enter Tryz.func85,Tryz.ntmps85
  go_wp2_with fail
  go_ret
  exact⟨rfl,Below.refl _ _⟩
 |false=>
  have hM:movS p q s=⟨(txtR (p*ratS s+q)).toArray⟩:=by unfold movS;rw[if_neg (by rw[hne];decide)]
  rw[hM];have hz2:=qd2 (s:=s) (k:=60) hs (by decide);have hz3:=hz0.mul hz2;have hz4:=(hz3.add hz1).mono (show k0+60+k1+1≤9*1000 by omega);have HX:=hI (And.intro hK (And.intro hG (And.intro h0 h1)));have HZ:=hI (And.intro hz0 (And.intro hz1 (And.intro hz2 hz3)));have HT:=hI hT;have HKk:=hI hk;have HRd:=hI (fun w'=>qfa s w' (Nat.le_trans hs (by decide)));have HRs:=hI (fun w' v (h:RatV w' v (numR s.data.toList) (denR s.data.toList))=>qgw h);have HNu:=hI (fun v w' (hv:RQ w' v (p*ratS s+q)) (hT':Tab w')=>show Calls Tryz.prog 61 #[v] w' (Ret (.string ⟨(txtR (p*ratS s+q)).toArray⟩) w')from qdi v _ 1000 w' hv hz4 (by decide) hT');unfold qeb at HRd;generalize ratS s=r at*;clear hK hG h0 h1 hz0 hz1 hz2 hz3 hz4 hs hk hT hM
  go_enter Tryz.func85,Tryz.ntmps85
  go_wp2_with (go_at_call 63;refine(HRd.out _).mono ?_;rintro e w2 ⟨v2,rfl,⟨x2,a2,n2,c2,y2,e2,m2,d2,rfl,hrv,-,-⟩,hb2⟩;have Hrv:=hI (HRs.out _ _ hrv);have Hb2:=hI hb2;clear hrv hb2)
  have HSx:=hI (fun w' (hb:Below (w2.alloc (.cells #[.bool x2,.slice a2 n2 c2,.bool y2,.slice e2 m2 d2] 77)).heap.size (w2.alloc (.cells #[.bool x2,.slice a2 n2 c2,.bool y2,.slice e2 m2 d2] 77)) w')=>show w'.cell? ⟨K,0,none⟩=some (.slice (some ⟨g,0,none⟩) 2 2)∧w'.cell? ⟨g,0,none⟩=some (.bool x0)∧w'.cell? ⟨g,1,none⟩=some (.slice a0 n0 c0)∧w'.cell? ⟨g,2,none⟩=some (.bool y0)∧w'.cell? ⟨g,3,none⟩=some (.slice e0 m0 d0)∧w'.cell? ⟨g,4,none⟩=some (.bool x1)∧w'.cell? ⟨g,5,none⟩=some (.slice a1 n1 c1)∧w'.cell? ⟨g,6,none⟩=some (.bool y1)∧w'.cell? ⟨g,7,none⟩=some (.slice e1 m1 d1)∧w'.cell? ⟨w2.heap.size,0,none⟩=some (.bool x2)∧w'.cell? ⟨w2.heap.size,1,none⟩=some (.slice a2 n2 c2)∧w'.cell? ⟨w2.heap.size,2,none⟩=some (.bool y2)∧w'.cell? ⟨w2.heap.size,3,none⟩=some (.slice e2 m2 d2)from by
   have hb0:=qaa (qaa Hb2.out (qac w2 _)) hb;have hk:=HX.out.1.below hb0;obtain⟨g0,g1,g2,g3,g4,g5,g6,g7⟩:=qmk HX.out.2.1 hb0;obtain⟨t0,t1,t2,t3⟩:=qea (Blk.new w2 #[.bool x2,.slice a2 n2 c2,.bool y2,.slice e2 m2 d2] 77) hb
   exact⟨by rw[hk.cell];rfl,g0,g1,g2,g3,g4,g5,g6,g7,t0,t1,t2,t3⟩)
  have HM:=hI (fun w' (hb:Below (w2.alloc (.cells #[.bool x2,.slice a2 n2 c2,.bool y2,.slice e2 m2 d2] 77)).heap.size (w2.alloc (.cells #[.bool x2,.slice a2 n2 c2,.bool y2,.slice e2 m2 d2] 77)) w')=>quy (.agg #[.bool x0,.slice a0 n0 c0,.bool y0,.slice e0 m0 d0]) (.agg #[.bool x2,.slice a2 n2 c2,.bool y2,.slice e2 m2 d2]) p r k0 60 w' (HX.out.2.2.1.mono (qaa (qaa Hb2.out (qac w2 _)) hb)) (Hrv.out.mono (qaa (qac w2 _) hb)) HZ.out.1 HZ.out.2.2.1 (by have:=HKk.out;omega));have HA:=hI (fun v w' (hb:Below (w2.alloc (.cells #[.bool x2,.slice a2 n2 c2,.bool y2,.slice e2 m2 d2] 77)).heap.size (w2.alloc (.cells #[.bool x2,.slice a2 n2 c2,.bool y2,.slice e2 m2 d2] 77)) w') (hv:RQ w' v (p*r))=>qls v (.agg #[.bool x1,.slice a1 n1 c1,.bool y1,.slice e1 m1 d1]) (p*r) q (k0+60) k1 w' hv (HX.out.2.2.2.mono (qaa (qaa Hb2.out (qac w2 _)) hb)) HZ.out.2.2.2 HZ.out.2.1 (by have:=HKk.out;omega));refine wp_region_held_drew (S:=(fun w'=>w'.cell? ⟨K,0,none⟩=some (.slice (some ⟨g,0,none⟩) 2 2)∧w'.cell? ⟨g,0,none⟩=some (.bool x0)∧w'.cell? ⟨g,1,none⟩=some (.slice a0 n0 c0)∧w'.cell? ⟨g,2,none⟩=some (.bool y0)∧w'.cell? ⟨g,3,none⟩=some (.slice e0 m0 d0)∧w'.cell? ⟨g,4,none⟩=some (.bool x1)∧w'.cell? ⟨g,5,none⟩=some (.slice a1 n1 c1)∧w'.cell? ⟨g,6,none⟩=some (.bool y1)∧w'.cell? ⟨g,7,none⟩=some (.slice e1 m1 d1)∧w'.cell? ⟨w2.heap.size,0,none⟩=some (.bool x2)∧w'.cell? ⟨w2.heap.size,1,none⟩=some (.slice a2 n2 c2)∧w'.cell? ⟨w2.heap.size,2,none⟩=some (.bool y2)∧w'.cell? ⟨w2.heap.size,3,none⟩=some (.slice e2 m2 d2))) (by kernel_rfl) (by exact HSx.out _ (dn1 (w2.alloc (.cells #[.bool x2,.slice a2 n2 c2,.bool y2,.slice e2 m2 d2] 77)))) (fun hHeld=>?_)
  refine' tk 0 ?_;(try simp only[tkS]);refine' tk 1 ?_;(try simp only[tkS]);refine' tk 2 ?_;(try simp only[tkS]);refine' tk 3 ?_;(try simp only[tkS]);refine' tk 5 ?_;(try simp only[tkS]);refine' tk 6 ?_;(try simp only[tkS]);refine' tk 7 ?_;(try simp only[tkS]);refine tk1 4 (fun K hK=>?_)
  go_simp;go_at_call 86;refine(HM.out _ (dn1 (w2.alloc (.cells #[.bool x2,.slice a2 n2 c2,.bool y2,.slice e2 m2 d2] 77)))).mono ?_
  rintro z5 w5 ⟨v5,rfl,hv5,hb5⟩;have Hb5:=hI (qaa (dn1 (w2.alloc (.cells #[.bool x2,.slice a2 n2 c2,.bool y2,.slice e2 m2 d2] 77))) hb5);have Hv5:=hI hv5;clear hv5 hb5
  skip
  refine hK.out _ _ (by exact HSx.out _ (Hb5.out)) (fun hHeld=>?_)
  clear hK K;(try simp only[tkS]);refine tk1 8 (fun K hK=>?_)
  go_simp;go_at_call 58;refine(HA.out _ _ (Hb5.out) Hv5.out).mono ?_
  rintro e6 w6 ⟨v6,rfl,hv6,hb6⟩;have Hb6:=hI (qaa (Hb5.out) hb6);have Hv6:=hI hv6;clear hv6 hb6;refine hK.out _ _ (by exact HSx.out _ (Hb6.out)) (fun hHeld=>?_)
  clear hK K;(try simp only[tkS]);refine tk1 9 (fun K hK=>?_)
  go_simp;go_at_call 61;refine(HNu.out _ _ Hv6.out (HT.out.mono (qaa (qaa Hb2.out (qac w2 _)) (Hb6.out)))).mono ?_
  rintro e7 w7 ⟨rfl,hb7⟩;have Hb7:=hI (qaa (Hb6.out) hb7);clear hb7;refine hK.out _ _ (by exact HSx.out _ (Hb7.out)) (fun hHeld=>?_)
  clear hK K;(try simp only[tkS]);refine' tk 10 ?_;(try simp only[tkS]);refine tkD ?_ _
  go_wp2_with fail
  go_ret
  exact⟨rfl,qaa (qaa Hb2.out (qac w2 _)) (Hb7.out)⟩
theorem quz(a:Option Addr)(c:Nat)(w:World):Calls Tryz.prog 87 #[.slice a 1 c] w (fun e w'=>e=.returned (.tuple #[])∧Below w.heap.size w w'):=by
 go_enter Tryz.func87,Tryz.ntmps87
 go_wp2_with fail
 go_loopw [2,3] (fun i j wr=>i=.int .i64 0∧j=.int .i64 0∧wr=w) (fun _ _ _=>0)
 case atStart=>exact⟨rfl,rfl,rfl⟩
 case round=>
  obtain⟨rfl,rfl,rfl⟩:=hrel
  go_wp2_with fail
  go_end0
  exact⟨rfl,Below.refl _ _⟩
theorem qsb{w:World}{b:Nat}{x0 x1 x2 x3:Value}{T:TypeId}(h:Blk w b #[x0,x1,x2,x3] T)(y0 y1:Value):Blk ((w.setCell ⟨b,0,none⟩ y0).setCell ⟨b,1,none⟩ y1) b #[y0,y1,x2,x3] T:=by
 simpa using(h.set 0 y0).set 1 y1
theorem qsc{w:World}{b:Nat}{x0 x1 x2 x3:Value}{T:TypeId}(h:Blk w b #[x0,x1,x2,x3] T)(y0 y1 y2 y3:Value):Blk ((((w.setCell ⟨b,0,none⟩ y0).setCell ⟨b,1,none⟩ y1).setCell ⟨b,2,none⟩ y2).setCell ⟨b,3,none⟩ y3) b #[y0,y1,y2,y3] T:=by
 simpa using(((h.set 0 y0).set 1 y1).set 2 y2).set 3 y3
def KG(w:World)(K g:Nat)(x0:Bool)(a0:Option Addr)(n0 c0:Nat)(y0:Bool)(e0:Option Addr)(l0 d0:Nat)(x1:Bool)(a1:Option Addr)(n1 c1:Nat)(y1:Bool)(e1:Option Addr)(l1 d1:Nat):Prop:=Blk w K #[.slice (some ⟨g,0,none⟩) 2 2] 109∧Blk w g #[.bool x0,.slice a0 n0 c0,.bool y0,.slice e0 l0 d0,.bool x1,.slice a1 n1 c1,.bool y1,.slice e1 l1 d1] 77∧RQ w (.agg #[.bool x0,.slice a0 n0 c0,.bool y0,.slice e0 l0 d0]) (ratS ⟨#[45,50]⟩)∧RQ w (.agg #[.bool x1,.slice a1 n1 c1,.bool y1,.slice e1 l1 d1]) (ratS ⟨#[49]⟩)
theorem KG.mono{w w':World}{K g:Nat}{x0:Bool}{a0:Option Addr}{n0 c0:Nat}{y0:Bool}{e0:Option Addr}{l0 d0:Nat}{x1:Bool}{a1:Option Addr}{n1 c1:Nat}{y1:Bool}{e1:Option Addr}{l1 d1:Nat}(h:KG w K g x0 a0 n0 c0 y0 e0 l0 d0 x1 a1 n1 c1 y1 e1 l1 d1)(hb:Below w.heap.size w w'):KG w' K g x0 a0 n0 c0 y0 e0 l0 d0 x1 a1 n1 c1 y1 e1 l1 d1:=⟨h.1.below hb,h.2.1.below hb,h.2.2.1.mono hb,h.2.2.2.mono hb⟩
theorem KG.cells{w:World}{K g:Nat}{x0:Bool}{a0:Option Addr}{n0 c0:Nat}{y0:Bool}{e0:Option Addr}{l0 d0:Nat}{x1:Bool}{a1:Option Addr}{n1 c1:Nat}{y1:Bool}{e1:Option Addr}{l1 d1:Nat}(h:KG w K g x0 a0 n0 c0 y0 e0 l0 d0 x1 a1 n1 c1 y1 e1 l1 d1):w.cell? ⟨K,0,none⟩=some (.slice (some ⟨g,0,none⟩) 2 2)∧w.cell? ⟨g,0,none⟩=some (.bool x0)∧w.cell? ⟨g,1,none⟩=some (.slice a0 n0 c0)∧w.cell? ⟨g,2,none⟩=some (.bool y0)∧w.cell? ⟨g,3,none⟩=some (.slice e0 l0 d0):=by
 obtain⟨g0,g1,g2,g3,-⟩:=qmk h.2.1 (Below.refl _ _);exact⟨by rw[h.1.cell];rfl,g0,g1,g2,g3⟩
theorem mv_1:movS (ratS ⟨#[45,50]⟩) (ratS ⟨#[49]⟩) ⟨#[49]⟩=⟨#[45,49]⟩:=by decide+kernel
theorem mv_3:movS (ratS ⟨#[45,50]⟩) (ratS ⟨#[49]⟩) ⟨#[50]⟩=⟨#[45,51]⟩:=by decide+kernel
theorem sg_2:(ratS ⟨#[45,50]⟩).num.sign=-1:=by decide+kernel
set_option maxRecDepth 10000 in
theorem qvv(u:Value)(w:World)(h:Ivs w u [⟨⟨#[49]⟩,⟨#[50]⟩,0,1⟩])(hT:Tab w):
  Calls Tryz.prog 33 #[u,.string ⟨#[45,50]⟩,.string ⟨#[49]⟩] w (RetP (fun v w'=>∃a c,v=.tuple #[.slice a 1 c,.int .i64 0]∧Ivs w' (.slice a 1 c) [⟨⟨#[45,51]⟩,⟨#[45,49]⟩,1,0⟩]) w):=by
 have HP:=hI (qio u _ w h (fun x hx=>by
  cases List.mem_singleton.1 hx
  exact⟨by decide,by decide⟩))
 unfold qke at HP;rw[show qbl [(⟨⟨#[49]⟩,⟨#[50]⟩,0,1⟩:Iv)]=0 by kernel_rfl]at HP;have HT:=hI hT;clear hT;have HX:=hI h;obtain⟨a,c,rfl,hc1,hc2⟩:=h.open;obtain⟨m1,hm1⟩:∃m:ByteArray,⟨#[45,49]⟩=m:=⟨_,rfl⟩
 obtain⟨m3,hm3⟩:∃m:ByteArray,⟨#[45,51]⟩=m:=⟨_,rfl⟩
 have HM1:=hI (fun(K g:Nat) (x0:Bool) (a0:Option Addr) (n0 c0:Nat) (y0:Bool) (e0:Option Addr) (l0 d0:Nat) (x1:Bool) (a1:Option Addr) (n1 c1:Nat) (y1:Bool) (e1:Option Addr) (l1 d1:Nat) (W:World) (hk:KG W K g x0 a0 n0 c0 y0 e0 l0 d0 x1 a1 n1 c1 y1 e1 l1 d1) (hT':Tab W)=>show Calls Tryz.prog 85 #[.string ⟨#[49]⟩,.pointer (some ⟨K,0,none⟩)] W (Ret (.string m1) W)from by
  have:=qot K g ⟨#[49]⟩ (ratS ⟨#[45,50]⟩) (ratS ⟨#[49]⟩) 60 60 x0 a0 n0 c0 y0 e0 l0 d0 x1 a1 n1 c1 y1 e1 l1 d1 W _ hk.1 hk.2.1 hk.2.2.1 hk.2.2.2 (qd2 (by decide) (by decide)) (qd2 (by decide) (by decide)) (by decide) (by decide) hT'
  rw[mv_1,hm1]at this;exact this)
 have HM3:=hI (fun(K g:Nat) (x0:Bool) (a0:Option Addr) (n0 c0:Nat) (y0:Bool) (e0:Option Addr) (l0 d0:Nat) (x1:Bool) (a1:Option Addr) (n1 c1:Nat) (y1:Bool) (e1:Option Addr) (l1 d1:Nat) (W:World) (hk:KG W K g x0 a0 n0 c0 y0 e0 l0 d0 x1 a1 n1 c1 y1 e1 l1 d1) (hT':Tab W)=>show Calls Tryz.prog 85 #[.string ⟨#[50]⟩,.pointer (some ⟨K,0,none⟩)] W (Ret (.string m3) W)from by
  have:=qot K g ⟨#[50]⟩ (ratS ⟨#[45,50]⟩) (ratS ⟨#[49]⟩) 60 60 x0 a0 n0 c0 y0 e0 l0 d0 x1 a1 n1 c1 y1 e1 l1 d1 W _ hk.1 hk.2.1 hk.2.2.1 hk.2.2.2 (qd2 (by decide) (by decide)) (qd2 (by decide) (by decide)) (by decide) (by decide) hT'
  rw[mv_3,hm3]at this;exact this)
 have HRd:=hI (fun b T W (hB:Blk W b #[.string ⟨#[45,50]⟩,.string ⟨#[49]⟩] T)=>qth b ⟨#[45,50]⟩ ⟨#[49]⟩ W T hB (by decide) (by decide) (by kernel_rfl) (by kernel_rfl))
 have HSg:=hI (fun v W (hv:RQ W v (ratS ⟨#[45,50]⟩))=>show Calls Tryz.prog 84 #[v] W (Ret (.int .i64 (-1)) W)from by
  obtain⟨q,h,-⟩:=hv;have:=qjp v _ q W h
  rwa [sg_2]at this)
 have eg:=enters_of (P:=Tryz.prog) Tryz.func85 (by kernel_rfl) rfl;clear h hc1 hc2;rw[hm1,hm3];clear hm1 hm3;rw[show[(⟨⟨#[49]⟩,⟨#[50]⟩,0,1⟩:Iv)].length=1 from rfl]at HP HX⊢
 go_enter Tryz.func33,Tryz.ntmps33
 go_wp2_with (first
  |(go_at_call 84;refine(HSg.out _ _ Hkg.out.2.2.1).mono ?_;rintro e w3 ⟨rfl,hb3⟩;have Hb3:=hI (qaa (qaa Hb2.out (qac w2 _)) hb3);have Hkg3:=hI (Hkg.out.mono hb3);clear hb3)
  |(go_at_call 83;refine(HRd.out _ _ _ (Blk.new w1 #[.string ⟨#[45,50]⟩,.string ⟨#[49]⟩] 23)).mono ?_;rintro e w2 ⟨v2,rfl,⟨g,x0,a0,n0,c0,y0,e0,l0,d0,x1,a1,n1,c1,y1,e1,l1,d1,rfl,hbg,hr0,hr1⟩,hb2⟩;have Hb2:=hI (qaa (qaa Hb1.out (qac w1 _)) hb2);have Hkg:=hI (show KG (w2.alloc (.cells #[.slice (some ⟨g,0,none⟩) 2 2] 109)) w2.heap.size g x0 a0 n0 c0 y0 e0 l0 d0 x1 a1 n1 c1 y1 e1 l1 d1 from⟨Blk.new w2 _ _,hbg.old _,hr0.mono (qac w2 _),hr1.mono (qac w2 _)⟩);obtain⟨k0,g0,g1,g2,g3⟩:=Hkg.out.cells;clear hbg hr0 hr1 hb2)
  |(go_at_call 56;refine(HP.out).mono ?_;rintro e w1 ⟨⟨r1,rfl,hq,-⟩,hb1⟩;obtain⟨ap,cp,ps,rfl,hps,hcs⟩:=hq (by first|rfl|trivial);have hl1:ps.length=1:=(by have:=congrArg List.length hcs;simpa using this);rw[hl1];have Hb1:=hI hb1;clear hq hps hcs hb1 hl1))
 go_loopw [44,13] (fun idx out wr=>∃k:Nat,k≤1∧idx=.int .i64 (k:Int)∧Below w3.heap.size w3 wr∧Hid ((k=0∧out=.slice none 0 0)∨(k=1∧wr.ownsRow w3.heap.size 46 4 out 1 (([(⟨m3,m1,1,0⟩:Iv)].map Iv.row).flatten)))) (fun idx _ _=>1-(intOf idx).toNat)
 case atStart=>exact⟨0,by omega,rfl,Below.refl _ _,.inl ⟨rfl,rfl⟩⟩
 case round=>
  obtain⟨k,hk,rfl,hbw,hst⟩:=hrel;rcases hst.out with⟨hk0,rfl⟩|⟨hk1,hown⟩
  ·obtain⟨b,off,x,rfl,hx,c0,c1,c2,c3⟩:=HX.out.at (qaa Hb3.out hbw) (show k<1 by omega)
   have hxe:x=⟨⟨#[49]⟩,⟨#[50]⟩,0,1⟩:=by rw[hk0]at hx;cases hx;rfl
   subst hxe;dsimp only at c0 c1 c2 c3;have hkn:(k:Int)<1:=by omega
   have hkw:IntKind.i64.wrap ((k:Int)+1)=(k:Int)+1:=IntWalk.i64_in _ (by omega);have Hk:=hI hk0;have Hbw:=hI hbw;have Hkg4:=hI (fun W (hb:Below (wr.alloc (.cells #[.string ⟨#[49]⟩,.string ⟨#[50]⟩,.int .i64 0,.int .i64 1] 46)).heap.size (wr.alloc (.cells #[.string ⟨#[49]⟩,.string ⟨#[50]⟩,.int .i64 0,.int .i64 1] 46)) W)=>Hkg3.out.mono (qaa (qaa hbw (qac wr _)) hb));have HTx:=hI (fun W (hb:Below (wr.alloc (.cells #[.string ⟨#[49]⟩,.string ⟨#[50]⟩,.int .i64 0,.int .i64 1] 46)).heap.size (wr.alloc (.cells #[.string ⟨#[49]⟩,.string ⟨#[50]⟩,.int .i64 0,.int .i64 1] 46)) W)=>HT.out.mono (qaa Hb3.out (qaa (qaa hbw (qac wr _)) hb)));have HBX:=hI (fun W (hb:Below (wr.alloc (.cells #[.string ⟨#[49]⟩,.string ⟨#[50]⟩,.int .i64 0,.int .i64 1] 46)).heap.size (wr.alloc (.cells #[.string ⟨#[49]⟩,.string ⟨#[50]⟩,.int .i64 0,.int .i64 1] 46)) W)=>(Blk.new wr #[.string ⟨#[49]⟩,.string ⟨#[50]⟩,.int .i64 0,.int .i64 1] 46).below hb);clear hk0 hbw hx hst hk
   go_wp2_with fail
   refine qau (S:=(fun w'=>w'.cell? ⟨wr.heap.size,1,none⟩=some (.string ⟨#[50]⟩))) 11 (by kernel_rfl) (by kernel_rfl) (by exact(by have h:=(HBX.out _ (dn1 (wr.alloc (.cells #[.string ⟨#[49]⟩,.string ⟨#[50]⟩,.int .i64 0,.int .i64 1] 46)))).cell 1;exact h)) (fun hHeld=>?_)
   simp only[List.take_succ_cons,List.take_zero,List.drop_succ_cons,List.drop_zero];refine' tk 0 ?_;(try simp only[tkS]);refine' tk 1 ?_;(try simp only[tkS]);refine' tk 4 ?_;(try simp only[tkS]);refine' tk 5 ?_;(try simp only[tkS]);refine' tk 6 ?_;(try simp only[tkS]);refine tk1 2 (fun K hK=>?_)
   have hld:=(HBX.out _ (dn1 (wr.alloc (.cells #[.string ⟨#[49]⟩,.string ⟨#[50]⟩,.int .i64 0,.int .i64 1] 46)))).cell 0;simp only[List.getElem?_toArray,List.getElem?_cons_zero]at hld;go_simp;refine hK.out _ _ (by exact(by have h:=(HBX.out _ (dn1 (wr.alloc (.cells #[.string ⟨#[49]⟩,.string ⟨#[50]⟩,.int .i64 0,.int .i64 1] 46)))).cell 1;exact h)) (fun hHeld=>?_)
   clear hK K;(try simp only[tkS]);refine tk1 3 (fun K hK=>?_)
   go_simp;go_at_call 85;refine(HM1.out _ _ _ _ _ _ _ _ _ _ _ _ _ _ _ _ _ _ _ (Hkg4.out _ (dn1 (wr.alloc (.cells #[.string ⟨#[49]⟩,.string ⟨#[50]⟩,.int .i64 0,.int .i64 1] 46)))) (HTx.out _ (dn1 (wr.alloc (.cells #[.string ⟨#[49]⟩,.string ⟨#[50]⟩,.int .i64 0,.int .i64 1] 46))))).mono ?_
   rintro e5 w5 ⟨rfl,hb5⟩;have Hb5:=hI (qaa (dn1 (wr.alloc (.cells #[.string ⟨#[49]⟩,.string ⟨#[50]⟩,.int .i64 0,.int .i64 1] 46))) hb5);clear hb5;refine hK.out _ _ (by exact(by have h:=(HBX.out _ (Hb5.out)).cell 1;exact h)) (fun hHeld=>?_)
   clear hK K;(try simp only[tkS]);refine' tk 8 ?_;(try simp only[tkS]);refine tk1 7 (fun K hK=>?_)
   go_simp;go_at_call 85;refine(HM3.out _ _ _ _ _ _ _ _ _ _ _ _ _ _ _ _ _ _ _ (Hkg4.out _ (Hb5.out)) (HTx.out _ (Hb5.out))).mono ?_
   rintro e7 w7 ⟨rfl,hb7⟩;have Hb7:=hI (qaa (Hb5.out) hb7);clear hb7;refine hK.out _ _ (by exact(by have h:=(HBX.out _ (Hb7.out)).cell 1;exact h)) (fun hHeld=>?_)
   clear hK K;(try simp only[tkS]);refine tk1 9 (fun K hK=>?_)
   obtain⟨⟨r0,r1,r2,r3⟩,f0,f1,f2,f3⟩:=qam (HBX.out _ Hb7.out);go_simp;refine hK.out _ _ (by exact(by rw[((HBX.out _ Hb7.out).set 0 (.string m1)).cell];rfl)) (fun hHeld=>?_)
   clear hK K;(try simp only[tkS]);refine' tk 10 ?_;(try simp only[tkS]);refine tkD ?_ _
   simp only[Exit.then];have hB1:=(HBX.out _ Hb7.out).set 0 (.string m1);have q1:=hB1.cell 1;have f1':=hB1.free 1;have HB8:=hI (qsb (HBX.out _ Hb7.out) (.string m1) (.string m3));have hsz:w3.heap.size≤wr.heap.size:=Hbw.out.size;have Hb8:=hI (((Hbw.out.via (qaa (qac wr _) Hb7.out) Hbw.out.size).setCell (p:=⟨wr.heap.size,0,none⟩) hsz (.string m1)).setCell (p:=⟨wr.heap.size,1,none⟩) hsz (.string m3));have Hkg8:=hI (Hkg3.out.mono Hb8.out);obtain⟨k0',g0',g1',g2',g3'⟩:=Hkg8.out.cells;clear hB1
   go_wp2_with (first
    |(go_at_call 84;refine(HSg.out _ _ Hkg8.out.2.2.1).mono ?_;rintro e w9 ⟨rfl,hb9⟩;have hB9:=HB8.out.below hb9;obtain⟨⟨s0,s1,s2,s3⟩,t0,t1,t2,t3⟩:=qam hB9;have hB10:=qsc hB9 (.string m3) (.string m1) (.int .i64 1) (.int .i64 0);obtain⟨⟨u0,u1,u2,u3⟩,-⟩:=qam hB10;have Hb10:=hI (((((Hb8.out.via hb9 Hb8.out.size).setCell (p:=⟨wr.heap.size,0,none⟩) hsz (.string m3)).setCell (p:=⟨wr.heap.size,1,none⟩) hsz (.string m1)).setCell (p:=⟨wr.heap.size,2,none⟩) hsz (.int .i64 1)).setCell (p:=⟨wr.heap.size,3,none⟩) hsz (.int .i64 0));have HBn:=hI (show Blk (((((w9.setCell ⟨wr.heap.size,0,none⟩ (.string m3)).setCell ⟨wr.heap.size,1,none⟩ (.string m1)).setCell ⟨wr.heap.size,2,none⟩ (.int .i64 1)).setCell ⟨wr.heap.size,3,none⟩ (.int .i64 0)).alloc (.cells #[.string m3,.string m1,.int .i64 1,.int .i64 0] 46)) w9.heap.size #[.string m3,.string m1,.int .i64 1,.int .i64 0] 46 from by have h:=Blk.new ((((w9.setCell ⟨wr.heap.size,0,none⟩ (.string m3)).setCell ⟨wr.heap.size,1,none⟩ (.string m1)).setCell ⟨wr.heap.size,2,none⟩ (.int .i64 1)).setCell ⟨wr.heap.size,3,none⟩ (.int .i64 0)) #[.string m3,.string m1,.int .i64 1,.int .i64 0] 46;simpa using h);have Hb10n:=hI (Hb10.out.alloc Hb10.out.size (.cells #[.string m3,.string m1,.int .i64 1,.int .i64 0] 46));clear hB9 hB10 hb9)
    |(at_builtin;refine qji EI (by decide) (Iv.row ⟨m3,m1,1,0⟩) rfl _ _ rfl w3.heap.size _ _ _ _ rfl rfl (World.ownsRow_nil _ w3.heap.size 46 4) HBn.out rfl (one4 ⟨m3,m1,1,0⟩) (by omega) (by decide) Hb10n.out.size ?_;intro g11 cap11 w11 hown' hg' _hor _hgl;have Hb11:=hI (Below.grown Hb10n.out hg' Hb10n.out.size (fun q hq=>by cases hq));have Hown11:=hI hown';clear hown' hg'))
   go_roundw
   case rel=>exact⟨k+1,by rw[Hk.out];exact Nat.le_refl _,by go_num,Hb11.out,.inr ⟨by rw[Hk.out],Hown11.out⟩⟩
   case measure=>simp[intOf]<;>omega
  ·obtain rfl:k=1:=hk1
   obtain⟨ao,co,rfl,-,-⟩:=qas hown;have HO:=hI (qku hown);have Hbw:=hI hbw;have Hkg4:=hI (Hkg3.out.mono hbw);have HR:=hI (fun a c W=>quz a c W);obtain⟨k0',g0',g1',g2',g3'⟩:=Hkg4.out.cells;clear hbw hown hst hk
   go_wp2_with (first
    |(go_at_call 84;refine(HSg.out _ _ Hkg4.out.2.2.1).mono ?_;rintro e w9 ⟨rfl,hb9⟩;have Hb9:=hI hb9;clear hb9)
    |(go_at_call 87;refine(HR.out _ _ _).mono ?_;rintro e w10 ⟨rfl,hb10⟩;have Hb10:=hI (qaa Hb9.out hb10);clear hb10))
   go_ret2
   exact⟨_,rfl,⟨ao,co,rfl,HO.out.mono Hb10.out⟩,qaa Hb3.out (Hbw.out.via Hb10.out Hbw.out.size)⟩
end Go.Proofs.YtacihodamichhaaGreatDoor
