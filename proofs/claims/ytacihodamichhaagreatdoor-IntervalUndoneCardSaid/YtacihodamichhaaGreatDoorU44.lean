/- Parts of the proof. -/
import Derived.Test.YtacihodamichhaaGreatDoorU43
set_option maxHeartbeats 16000000
namespace Go.Proofs.YtacihodamichhaaGreatDoor
open Go.RowKit
theorem qny{w:World}{b:Nat}{x0 x1 x2 x3:Value}{T:TypeId}(h:Blk w b #[x0,x1,x2,x3] T)(y0 y1:Value):Blk ((w.setCell ⟨b,0,none⟩ y0).setCell ⟨b,1,none⟩ y1) b #[y0,y1,x2,x3] T:=by
 simpa using(h.set 0 y0).set 1 y1
theorem qt4{w:World}{b:Nat}{x0 x1 x2 x3:Value}{T:TypeId}(h:Blk w b #[x0,x1,x2,x3] T)(y0 y1 y2 y3:Value):Blk ((((w.setCell ⟨b,0,none⟩ y0).setCell ⟨b,1,none⟩ y1).setCell ⟨b,2,none⟩ y2).setCell ⟨b,3,none⟩ y3) b #[y0,y1,y2,y3] T:=by
 simpa using(((h.set 0 y0).set 1 y1).set 2 y2).set 3 y3
def mapI(p q:Rat)(x:Iv):Iv:=if p<0 then⟨movS p q x.hi,movS p q x.lo,x.he,x.le⟩else⟨movS p q x.lo,movS p q x.hi,x.le,x.he⟩
def mapL(p q:Rat)(xs:List Iv):List Iv:=if p<0 then(xs.map (mapI p q)).reverse else xs.map (mapI p q)
def KQ(w:World)(K g:Nat)(p q:Rat)(x0:Bool)(a0:Option Addr)(n0 c0:Nat)(y0:Bool)(e0:Option Addr)(l0 d0:Nat)(x1:Bool)(a1:Option Addr)(n1 c1:Nat)(y1:Bool)(e1:Option Addr)(l1 d1:Nat):Prop:=Blk w K #[.slice (some ⟨g,0,none⟩) 2 2] 109∧Blk w g #[.bool x0,.slice a0 n0 c0,.bool y0,.slice e0 l0 d0,.bool x1,.slice a1 n1 c1,.bool y1,.slice e1 l1 d1] 77∧RQ w (.agg #[.bool x0,.slice a0 n0 c0,.bool y0,.slice e0 l0 d0]) p∧RQ w (.agg #[.bool x1,.slice a1 n1 c1,.bool y1,.slice e1 l1 d1]) q
theorem KQ.mono{w w':World}{K g:Nat}{p q:Rat}{x0:Bool}{a0:Option Addr}{n0 c0:Nat}{y0:Bool}{e0:Option Addr}{l0 d0:Nat}{x1:Bool}{a1:Option Addr}{n1 c1:Nat}{y1:Bool}{e1:Option Addr}{l1 d1:Nat}(h:KQ w K g p q x0 a0 n0 c0 y0 e0 l0 d0 x1 a1 n1 c1 y1 e1 l1 d1)(hb:Below w.heap.size w w'):KQ w' K g p q x0 a0 n0 c0 y0 e0 l0 d0 x1 a1 n1 c1 y1 e1 l1 d1:=⟨h.1.below hb,h.2.1.below hb,h.2.2.1.mono hb,h.2.2.2.mono hb⟩
theorem KQ.cells{w:World}{K g:Nat}{p q:Rat}{x0:Bool}{a0:Option Addr}{n0 c0:Nat}{y0:Bool}{e0:Option Addr}{l0 d0:Nat}{x1:Bool}{a1:Option Addr}{n1 c1:Nat}{y1:Bool}{e1:Option Addr}{l1 d1:Nat}(h:KQ w K g p q x0 a0 n0 c0 y0 e0 l0 d0 x1 a1 n1 c1 y1 e1 l1 d1):w.cell? ⟨K,0,none⟩=some (.slice (some ⟨g,0,none⟩) 2 2)∧w.cell? ⟨g,0,none⟩=some (.bool x0)∧w.cell? ⟨g,1,none⟩=some (.slice a0 n0 c0)∧w.cell? ⟨g,2,none⟩=some (.bool y0)∧w.cell? ⟨g,3,none⟩=some (.slice e0 l0 d0):=by
 obtain⟨g0,g1,g2,g3,-⟩:=qnv h.2.1 (Below.refl _ _);exact⟨by rw[h.1.cell];rfl,g0,g1,g2,g3⟩
set_option maxRecDepth 10000 in
theorem qni(u:Value)(xs:List Iv)(fa sh:ByteArray)(w:World)(h:Ivs w u xs)(hs:∀x∈xs,x.short)(he:qa5 xs=0)(hn:xs.length≤256)(K:Nat)(hK0:0<K)(hK:3*K≤8000)(hz:∀x∈xs,x.lo.size≤K∧x.hi.size≤K)(z0:fa.size≤K)(z1:sh.size≤K)(w0:errL fa.data.toList=0)(w1:errL sh.data.toList=0)(hP:ratS fa<0)(hT:Tab w):
  Calls Tryz.prog 33 #[u,.string fa,.string sh] w (RetP (fun v w'=>∃a c,v=.tuple #[.slice a xs.length c,.int .i64 0]∧Ivs w' (.slice a xs.length c) (mapL (ratS fa) (ratS sh) xs)) w):=by
 have HP:=hI (qgc u _ w h hs);unfold qh5 at HP;rw[he]at HP;have HT:=hI hT;have HX:=hI h;have zf:=qcw z0 hK0;have zs:=qcw z1 hK0
 have HM:=hI (fun(s:ByteArray) (hs:s.size≤K) (K' g:Nat) (x0:Bool) (a0:Option Addr) (n0 c0:Nat) (y0:Bool) (e0:Option Addr) (l0 d0:Nat) (x1:Bool) (a1:Option Addr) (n1 c1:Nat) (y1:Bool) (e1:Option Addr) (l1 d1:Nat) (W:World) (hk:KQ W K' g (ratS fa) (ratS sh) x0 a0 n0 c0 y0 e0 l0 d0 x1 a1 n1 c1 y1 e1 l1 d1) (hT':Tab W)=>show Calls Tryz.prog 85 #[.string s,.pointer (some ⟨K',0,none⟩)] W (Ret (.string (movS (ratS fa) (ratS sh) s)) W)from
  qqo K' g s (ratS fa) (ratS sh) K K K x0 a0 n0 c0 y0 e0 l0 d0 x1 a1 n1 c1 y1 e1 l1 d1 W _ hk.1 hk.2.1 hk.2.2.1 hk.2.2.2 zf zs hs hK0 (by omega) (by omega) hT')
 have HRd:=hI (fun b T W (hB:Blk W b #[.string fa,.string sh] T)=>qp0 b fa sh W T hB (Nat.le_trans z0 (by omega)) (Nat.le_trans z1 (by omega)) w0 w1)
 have HSg:=hI (fun v W (hv:RQ W v (ratS fa))=>show Calls Tryz.prog 84 #[v] W (Ret (.int .i64 (-1)) W)from by
  obtain⟨q,h,-⟩:=hv;have:=qhd v _ q W h
  rwa [show(ratS fa).num.sign=(-1)from Int.sign_eq_neg_one_of_neg (by have h:=(Rat.lt_iff _ _).1 hP;simpa using h)]at this)
 have HMI:=hI (fun x:Iv=>show mapI (ratS fa) (ratS sh) x=⟨movS (ratS fa) (ratS sh) x.hi,movS (ratS fa) (ratS sh) x.lo,x.he,x.le⟩from by unfold mapI;rw[if_pos hP]);have HML:=hI (show mapL (ratS fa) (ratS sh) xs=(xs.map (mapI (ratS fa) (ratS sh))).reverse from by unfold mapL;rw[if_pos hP]);have HZ:=hI (fun k x (hx:xs[k]?=some x)=>hz x (List.mem_of_getElem? hx));have eg:=enters_of (P:=Tryz.prog) Tryz.func85 (by kernel_rfl) rfl;obtain⟨a,c,rfl,hc1,hc2⟩:=h.open;obtain⟨N,hN⟩:∃N,xs.length=N:=⟨_,rfl⟩
 have HNl:=hI hN;rw[hN]at HP HX hn⊢;rw[HML.out];generalize ratS fa=P at*;generalize ratS sh=Q at*;clear h hs he hz z0 z1 w0 w1 hP hT zf zs hc1 hc2 hN hK0 hK
 go_enter Tryz.func33,Tryz.ntmps33
 go_wp2_with (first
  |(go_at_call 84;refine(HSg.out _ _ Hkg.out.2.2.1).mono ?_;rintro e w3 ⟨rfl,hb3⟩;have Hb3:=hI (qaa (qaa Hb2.out (qac w2 _)) hb3);have Hkg3:=hI (Hkg.out.mono hb3);clear hb3)
  |(go_at_call 83;refine(HRd.out _ _ _ (Blk.new w1 #[.string fa,.string sh] 23)).mono ?_;rintro e w2 ⟨v2,rfl,⟨g,x0,a0,n0,c0,y0,e0,l0,d0,x1,a1,n1,c1,y1,e1,l1,d1,rfl,hbg,hr0,hr1⟩,hb2⟩;have Hb2:=hI (qaa (qaa Hb1.out (qac w1 _)) hb2);have Hkg:=hI (show KQ (w2.alloc (.cells #[.slice (some ⟨g,0,none⟩) 2 2] 109)) w2.heap.size g P Q x0 a0 n0 c0 y0 e0 l0 d0 x1 a1 n1 c1 y1 e1 l1 d1 from⟨Blk.new w2 _ _,hbg.old _,hr0.mono (qac w2 _),hr1.mono (qac w2 _)⟩);obtain⟨k0,g0,g1,g2,g3⟩:=Hkg.out.cells;clear hbg hr0 hr1 hb2)
  |(go_at_call 56;refine(HP.out).mono ?_;rintro e w1 ⟨⟨r1,rfl,hq,-⟩,hb1⟩;obtain⟨ap,cp,ps,rfl,hps,hcs⟩:=hq (by first|rfl|trivial);have Hb1:=hI hb1;clear hq hps hcs hb1))
 go_loopw [44,13] (fun idx out wr=>∃k:Nat,k≤N∧idx=.int .i64 (k:Int)∧Below w3.heap.size w3 wr∧wr.ownsRow w3.heap.size 46 4 out k ((((xs.take k).map (mapI P Q)).map Iv.row).flatten)) (fun idx _ _=>N-(intOf idx).toNat)
 case atStart=>exact⟨0,by omega,rfl,Below.refl _ _,World.ownsRow_nil _ w3.heap.size 46 4⟩
 case round=>
  obtain⟨k,hk,rfl,hbw,hown⟩:=hrel;have Hbw:=hI hbw;have Hown:=hI hown;obtain⟨ao,co,rfl,hco,hcm⟩:=qas hown;unfold maxLen at hcm;rcases Nat.lt_or_ge k N with hlt|hge
  ·obtain⟨b,off,⟨lo,hi,le,he⟩,rfl,hx,v0,v1,v2,v3⟩:=HX.out.at (qaa Hb3.out hbw) hlt
   dsimp only at v0 v1 v2 v3;have hkn:(k:Int)<(N:Int):=by omega
   have hk0:(0:Int)≤(k:Int):=Int.natCast_nonneg _;have hkw:IntKind.i64.wrap ((k:Int)+1)=(k:Int)+1:=IntWalk.i64_in _ (by omega);have HM1:=hI (HM.out lo (HZ.out k _ hx).1);have HM3:=hI (HM.out hi (HZ.out k _ hx).2)
   have Hst:=hI (show(((xs.take (k+1)).map (mapI P Q)).map Iv.row).flatten=(((xs.take k).map (mapI P Q)).map Iv.row).flatten++Iv.row ⟨movS P Q hi,movS P Q lo,he,le⟩from by
    rw[qbd hx,List.map_append,List.map_append,List.flatten_append,List.map_cons,HMI.out]
    simp)
   obtain⟨m1,hm1⟩:∃m:ByteArray,movS P Q lo=m:=⟨_,rfl⟩
   obtain⟨m3,hm3⟩:∃m:ByteArray,movS P Q hi=m:=⟨_,rfl⟩
   rw[hm1]at HM1 Hst;rw[hm3]at HM3 Hst;have Hkg4:=hI (fun W (hb:Below (wr.alloc (.cells #[.string lo,.string hi,.int .i64 le,.int .i64 he] 46)).heap.size (wr.alloc (.cells #[.string lo,.string hi,.int .i64 le,.int .i64 he] 46)) W)=>Hkg3.out.mono (qaa (qaa hbw (qac wr _)) hb));have HTx:=hI (fun W (hb:Below (wr.alloc (.cells #[.string lo,.string hi,.int .i64 le,.int .i64 he] 46)).heap.size (wr.alloc (.cells #[.string lo,.string hi,.int .i64 le,.int .i64 he] 46)) W)=>HT.out.mono (qaa Hb3.out (qaa (qaa hbw (qac wr _)) hb)));have HBX:=hI (fun W (hb:Below (wr.alloc (.cells #[.string lo,.string hi,.int .i64 le,.int .i64 he] 46)).heap.size (wr.alloc (.cells #[.string lo,.string hi,.int .i64 le,.int .i64 he] 46)) W)=>(Blk.new wr #[.string lo,.string hi,.int .i64 le,.int .i64 he] 46).below hb);clear hbw hx hown hm1 hm3
   go_wp2_with fail
   refine qar (S:=(fun w'=>w'.cell? ⟨wr.heap.size,1,none⟩=some (.string hi))) 11 (by kernel_rfl) (by kernel_rfl) (by exact(by have h:=(HBX.out _ (dn1 (wr.alloc (.cells #[.string lo,.string hi,.int .i64 le,.int .i64 he] 46)))).cell 1;exact h)) (fun hHeld=>?_)
   simp only[List.take_succ_cons,List.take_zero,List.drop_succ_cons,List.drop_zero];refine' tk 0 ?_;(try simp only[tkS]);refine' tk 1 ?_;(try simp only[tkS]);refine' tk 4 ?_;(try simp only[tkS]);refine' tk 5 ?_;(try simp only[tkS]);refine' tk 6 ?_;(try simp only[tkS]);refine tk1 2 (fun K hK=>?_)
   have hld:=(HBX.out _ (dn1 (wr.alloc (.cells #[.string lo,.string hi,.int .i64 le,.int .i64 he] 46)))).cell 0;simp only[List.getElem?_toArray,List.getElem?_cons_zero]at hld;go_simp;refine hK.out _ _ (by exact(by have h:=(HBX.out _ (dn1 (wr.alloc (.cells #[.string lo,.string hi,.int .i64 le,.int .i64 he] 46)))).cell 1;exact h)) (fun hHeld=>?_)
   clear hK K;(try simp only[tkS]);refine tk1 3 (fun K hK=>?_)
   go_simp;go_at_call 85;refine(HM1.out _ _ _ _ _ _ _ _ _ _ _ _ _ _ _ _ _ _ _ (Hkg4.out _ (dn1 (wr.alloc (.cells #[.string lo,.string hi,.int .i64 le,.int .i64 he] 46)))) (HTx.out _ (dn1 (wr.alloc (.cells #[.string lo,.string hi,.int .i64 le,.int .i64 he] 46))))).mono ?_
   rintro e5 w5 ⟨rfl,hb5⟩;have Hb5:=hI (qaa (dn1 (wr.alloc (.cells #[.string lo,.string hi,.int .i64 le,.int .i64 he] 46))) hb5);clear hb5;refine hK.out _ _ (by exact(by have h:=(HBX.out _ (Hb5.out)).cell 1;exact h)) (fun hHeld=>?_)
   clear hK K;(try simp only[tkS]);refine' tk 8 ?_;(try simp only[tkS]);refine tk1 7 (fun K hK=>?_)
   go_simp;go_at_call 85;refine(HM3.out _ _ _ _ _ _ _ _ _ _ _ _ _ _ _ _ _ _ _ (Hkg4.out _ (Hb5.out)) (HTx.out _ (Hb5.out))).mono ?_
   rintro e7 w7 ⟨rfl,hb7⟩;have Hb7:=hI (qaa (Hb5.out) hb7);clear hb7;refine hK.out _ _ (by exact(by have h:=(HBX.out _ (Hb7.out)).cell 1;exact h)) (fun hHeld=>?_)
   clear hK K;(try simp only[tkS]);refine tk1 9 (fun K hK=>?_)
   obtain⟨⟨r0,r1,r2,r3⟩,f0,f1,f2,f3⟩:=qam (HBX.out _ Hb7.out);go_simp;refine hK.out _ _ (by exact(by rw[((HBX.out _ Hb7.out).set 0 (.string m1)).cell];rfl)) (fun hHeld=>?_)
   clear hK K;(try simp only[tkS]);refine' tk 10 ?_;(try simp only[tkS]);refine tkD ?_ _
   simp only[Exit.then];have hB1:=(HBX.out _ Hb7.out).set 0 (.string m1);have q1:=hB1.cell 1;have f1':=hB1.free 1;have HB8:=hI (qny (HBX.out _ Hb7.out) (.string m1) (.string m3));have hA:=qaa (qac wr _) Hb7.out;have HA8:=hI ((hA.setCell (p:=⟨wr.heap.size,0,none⟩) (Nat.le_refl _) (.string m1)).setCell (p:=⟨wr.heap.size,1,none⟩) (Nat.le_refl _) (.string m3));have Hkg8:=hI (Hkg3.out.mono (Hbw.out.via HA8.out Hbw.out.size));obtain⟨k0',g0',g1',g2',g3'⟩:=Hkg8.out.cells;clear hB1 hA
   go_wp2_with (first
    |(go_at_call 84;refine(HSg.out _ _ Hkg8.out.2.2.1).mono ?_;rintro e w9 ⟨rfl,hb9⟩;have hB9:=HB8.out.below hb9;obtain⟨⟨s0,s1,s2,s3⟩,t0,t1,t2,t3⟩:=qam hB9;have hB10:=qt4 hB9 (.string m3) (.string m1) (.int .i64 he) (.int .i64 le);obtain⟨⟨u0,u1,u2,u3⟩,-⟩:=qam hB10;have hC:=HA8.out.via hb9 HA8.out.size;have hD:=(((hC.setCell (p:=⟨wr.heap.size,0,none⟩) (Nat.le_refl _) (.string m3)).setCell (p:=⟨wr.heap.size,1,none⟩) (Nat.le_refl _) (.string m1)).setCell (p:=⟨wr.heap.size,2,none⟩) (Nat.le_refl _) (.int .i64 he)).setCell (p:=⟨wr.heap.size,3,none⟩) (Nat.le_refl _) (.int .i64 le);have HE:=hI (hD.alloc hD.size (.cells #[.string m3,.string m1,.int .i64 he,.int .i64 le] 46));have HBn:=hI (show Blk (((((w9.setCell ⟨wr.heap.size,0,none⟩ (.string m3)).setCell ⟨wr.heap.size,1,none⟩ (.string m1)).setCell ⟨wr.heap.size,2,none⟩ (.int .i64 he)).setCell ⟨wr.heap.size,3,none⟩ (.int .i64 le)).alloc (.cells #[.string m3,.string m1,.int .i64 he,.int .i64 le] 46)) w9.heap.size #[.string m3,.string m1,.int .i64 he,.int .i64 le] 46 from by have h:=Blk.new ((((w9.setCell ⟨wr.heap.size,0,none⟩ (.string m3)).setCell ⟨wr.heap.size,1,none⟩ (.string m1)).setCell ⟨wr.heap.size,2,none⟩ (.int .i64 he)).setCell ⟨wr.heap.size,3,none⟩ (.int .i64 le)) #[.string m3,.string m1,.int .i64 he,.int .i64 le] 46;simpa using h);clear hB9 hB10 hb9 hC hD)
    |(at_builtin;refine qj0 EI (by decide) (Iv.row ⟨m3,m1,he,le⟩) rfl _ _ rfl w3.heap.size _ _ _ _ rfl rfl (qaf Hown.out HE.out) HBn.out rfl (one4 ⟨m3,m1,he,le⟩) (by omega) (by decide) (Hbw.out.via HE.out Hbw.out.size).size ?_;intro g11 cap11 w11 hown' hg' _hor _hgl;have Hb11:=hI (Below.grown (Hbw.out.via HE.out Hbw.out.size) hg' (Hbw.out.via HE.out Hbw.out.size).size (fun q hq=>(Hown.out.lt q hq).1));have Hown11:=hI hown';clear hown' hg'))
   go_roundw
   case rel=>exact⟨k+1,by omega,by go_num,Hb11.out,by rw[Hst.out];exact Hown11.out⟩
   case measure=>simp[intOf]<;>omega
  ·obtain rfl:k=N:=by omega
   have hkn:¬(k:Int)<(k:Int):=by omega
   have Hkg4:=hI (Hkg3.out.mono hbw);obtain⟨k0',g0',g1',g2',g3'⟩:=Hkg4.out.cells
   have HO:=hI (show wr.ownsRow w3.heap.size 46 4 (.slice ao k co) k (((xs.map (mapI P Q)).map Iv.row).flatten)from by
    have h:=hown
    rwa [List.take_of_length_le (by rw[HNl.out];exact Nat.le_refl _)]at h)
   have HR:=hI (fun W (hb:Below wr.heap.size wr W)=>qw1 (xs.map (mapI P Q)) ao k co w3.heap.size W (qaf HO.out hb) (by rw[List.length_map];exact HNl.out) (Nat.le_trans Hbw.out.size hb.size) (by omega));clear hbw hown hk
   go_wp2_with (first
    |(go_at_call 84;refine(HSg.out _ _ Hkg4.out.2.2.1).mono ?_;rintro e w9 ⟨rfl,hb9⟩;have Hb9:=hI hb9;clear hb9)
    |(go_at_call 87;refine(HR.out _ Hb9.out).mono ?_;rintro e w10 ⟨rfl,ho10,hb10⟩;have Ho10:=hI ho10;have Hb10:=hI ((Hbw.out.via Hb9.out Hbw.out.size).trans hb10);clear ho10 hb10))
   go_ret2
   exact⟨_,rfl,⟨ao,co,rfl,qhk Ho10.out⟩,qaa Hb3.out Hb10.out⟩
set_option maxRecDepth 10000 in
theorem qtm(u:Value)(xs:List Iv)(fa sh:ByteArray)(w:World)(h:Ivs w u xs)(hs:∀x∈xs,x.short)(he:qa5 xs=0)(hn:xs.length≤256)(K:Nat)(hK0:0<K)(hK:3*K≤8000)(hz:∀x∈xs,x.lo.size≤K∧x.hi.size≤K)(z0:fa.size≤K)(z1:sh.size≤K)(w0:errL fa.data.toList=0)(w1:errL sh.data.toList=0)(hP:0<ratS fa)(hT:Tab w):
  Calls Tryz.prog 33 #[u,.string fa,.string sh] w (RetP (fun v w'=>∃a c,v=.tuple #[.slice a xs.length c,.int .i64 0]∧Ivs w' (.slice a xs.length c) (mapL (ratS fa) (ratS sh) xs)) w):=by
 have HP:=hI (qgc u _ w h hs);unfold qh5 at HP;rw[he]at HP;have HT:=hI hT;have HX:=hI h;have zf:=qcw z0 hK0;have zs:=qcw z1 hK0
 have HM:=hI (fun(s:ByteArray) (hs:s.size≤K) (K' g:Nat) (x0:Bool) (a0:Option Addr) (n0 c0:Nat) (y0:Bool) (e0:Option Addr) (l0 d0:Nat) (x1:Bool) (a1:Option Addr) (n1 c1:Nat) (y1:Bool) (e1:Option Addr) (l1 d1:Nat) (W:World) (hk:KQ W K' g (ratS fa) (ratS sh) x0 a0 n0 c0 y0 e0 l0 d0 x1 a1 n1 c1 y1 e1 l1 d1) (hT':Tab W)=>show Calls Tryz.prog 85 #[.string s,.pointer (some ⟨K',0,none⟩)] W (Ret (.string (movS (ratS fa) (ratS sh) s)) W)from
  qqo K' g s (ratS fa) (ratS sh) K K K x0 a0 n0 c0 y0 e0 l0 d0 x1 a1 n1 c1 y1 e1 l1 d1 W _ hk.1 hk.2.1 hk.2.2.1 hk.2.2.2 zf zs hs hK0 (by omega) (by omega) hT')
 have HRd:=hI (fun b T W (hB:Blk W b #[.string fa,.string sh] T)=>qp0 b fa sh W T hB (Nat.le_trans z0 (by omega)) (Nat.le_trans z1 (by omega)) w0 w1)
 have HSg:=hI (fun v W (hv:RQ W v (ratS fa))=>show Calls Tryz.prog 84 #[v] W (Ret (.int .i64 1) W)from by
  obtain⟨q,h,-⟩:=hv;have:=qhd v _ q W h
  rwa [show(ratS fa).num.sign=1 from Int.sign_eq_one_of_pos (by have h:=(Rat.lt_iff _ _).1 hP;simpa using h)]at this)
 have HMI:=hI (fun x:Iv=>show mapI (ratS fa) (ratS sh) x=⟨movS (ratS fa) (ratS sh) x.lo,movS (ratS fa) (ratS sh) x.hi,x.le,x.he⟩from by unfold mapI;rw[if_neg (Rat.not_lt.2 (Rat.le_of_lt hP))]);have HML:=hI (show mapL (ratS fa) (ratS sh) xs=xs.map (mapI (ratS fa) (ratS sh))from by unfold mapL;rw[if_neg (Rat.not_lt.2 (Rat.le_of_lt hP))]);have HZ:=hI (fun k x (hx:xs[k]?=some x)=>hz x (List.mem_of_getElem? hx));have eg:=enters_of (P:=Tryz.prog) Tryz.func85 (by kernel_rfl) rfl;obtain⟨a,c,rfl,hc1,hc2⟩:=h.open;obtain⟨N,hN⟩:∃N,xs.length=N:=⟨_,rfl⟩
 have HNl:=hI hN;rw[hN]at HP HX hn⊢;rw[HML.out];generalize ratS fa=P at*;generalize ratS sh=Q at*;clear h hs he hz z0 z1 w0 w1 hP hT zf zs hc1 hc2 hN hK0 hK
 go_enter Tryz.func33,Tryz.ntmps33
 go_wp2_with (first
  |(go_at_call 84;refine(HSg.out _ _ Hkg.out.2.2.1).mono ?_;rintro e w3 ⟨rfl,hb3⟩;have Hb3:=hI (qaa (qaa Hb2.out (qac w2 _)) hb3);have Hkg3:=hI (Hkg.out.mono hb3);clear hb3)
  |(go_at_call 83;refine(HRd.out _ _ _ (Blk.new w1 #[.string fa,.string sh] 23)).mono ?_;rintro e w2 ⟨v2,rfl,⟨g,x0,a0,n0,c0,y0,e0,l0,d0,x1,a1,n1,c1,y1,e1,l1,d1,rfl,hbg,hr0,hr1⟩,hb2⟩;have Hb2:=hI (qaa (qaa Hb1.out (qac w1 _)) hb2);have Hkg:=hI (show KQ (w2.alloc (.cells #[.slice (some ⟨g,0,none⟩) 2 2] 109)) w2.heap.size g P Q x0 a0 n0 c0 y0 e0 l0 d0 x1 a1 n1 c1 y1 e1 l1 d1 from⟨Blk.new w2 _ _,hbg.old _,hr0.mono (qac w2 _),hr1.mono (qac w2 _)⟩);obtain⟨k0,g0,g1,g2,g3⟩:=Hkg.out.cells;clear hbg hr0 hr1 hb2)
  |(go_at_call 56;refine(HP.out).mono ?_;rintro e w1 ⟨⟨r1,rfl,hq,-⟩,hb1⟩;obtain⟨ap,cp,ps,rfl,hps,hcs⟩:=hq (by first|rfl|trivial);have Hb1:=hI hb1;clear hq hps hcs hb1))
 go_loopw [44,13] (fun idx out wr=>∃k:Nat,k≤N∧idx=.int .i64 (k:Int)∧Below w3.heap.size w3 wr∧wr.ownsRow w3.heap.size 46 4 out k ((((xs.take k).map (mapI P Q)).map Iv.row).flatten)) (fun idx _ _=>N-(intOf idx).toNat)
 case atStart=>exact⟨0,by omega,rfl,Below.refl _ _,World.ownsRow_nil _ w3.heap.size 46 4⟩
 case round=>
  obtain⟨k,hk,rfl,hbw,hown⟩:=hrel;have Hbw:=hI hbw;have Hown:=hI hown;obtain⟨ao,co,rfl,hco,hcm⟩:=qas hown;unfold maxLen at hcm;rcases Nat.lt_or_ge k N with hlt|hge
  ·obtain⟨b,off,⟨lo,hi,le,he⟩,rfl,hx,v0,v1,v2,v3⟩:=HX.out.at (qaa Hb3.out hbw) hlt
   dsimp only at v0 v1 v2 v3;have hkn:(k:Int)<(N:Int):=by omega
   have hk0:(0:Int)≤(k:Int):=Int.natCast_nonneg _;have hkw:IntKind.i64.wrap ((k:Int)+1)=(k:Int)+1:=IntWalk.i64_in _ (by omega);have HM1:=hI (HM.out lo (HZ.out k _ hx).1);have HM3:=hI (HM.out hi (HZ.out k _ hx).2)
   have Hst:=hI (show(((xs.take (k+1)).map (mapI P Q)).map Iv.row).flatten=(((xs.take k).map (mapI P Q)).map Iv.row).flatten++Iv.row ⟨movS P Q lo,movS P Q hi,le,he⟩from by
    rw[qbd hx,List.map_append,List.map_append,List.flatten_append,List.map_cons,HMI.out]
    simp)
   obtain⟨m1,hm1⟩:∃m:ByteArray,movS P Q lo=m:=⟨_,rfl⟩
   obtain⟨m3,hm3⟩:∃m:ByteArray,movS P Q hi=m:=⟨_,rfl⟩
   rw[hm1]at HM1 Hst;rw[hm3]at HM3 Hst;have Hkg4:=hI (fun W (hb:Below (wr.alloc (.cells #[.string lo,.string hi,.int .i64 le,.int .i64 he] 46)).heap.size (wr.alloc (.cells #[.string lo,.string hi,.int .i64 le,.int .i64 he] 46)) W)=>Hkg3.out.mono (qaa (qaa hbw (qac wr _)) hb));have HTx:=hI (fun W (hb:Below (wr.alloc (.cells #[.string lo,.string hi,.int .i64 le,.int .i64 he] 46)).heap.size (wr.alloc (.cells #[.string lo,.string hi,.int .i64 le,.int .i64 he] 46)) W)=>HT.out.mono (qaa Hb3.out (qaa (qaa hbw (qac wr _)) hb)));have HBX:=hI (fun W (hb:Below (wr.alloc (.cells #[.string lo,.string hi,.int .i64 le,.int .i64 he] 46)).heap.size (wr.alloc (.cells #[.string lo,.string hi,.int .i64 le,.int .i64 he] 46)) W)=>(Blk.new wr #[.string lo,.string hi,.int .i64 le,.int .i64 he] 46).below hb);clear hbw hx hown hm1 hm3
   go_wp2_with fail
   refine qar (S:=(fun w'=>w'.cell? ⟨wr.heap.size,1,none⟩=some (.string hi))) 11 (by kernel_rfl) (by kernel_rfl) (by exact(by have h:=(HBX.out _ (dn1 (wr.alloc (.cells #[.string lo,.string hi,.int .i64 le,.int .i64 he] 46)))).cell 1;exact h)) (fun hHeld=>?_)
   simp only[List.take_succ_cons,List.take_zero,List.drop_succ_cons,List.drop_zero];refine' tk 0 ?_;(try simp only[tkS]);refine' tk 1 ?_;(try simp only[tkS]);refine' tk 4 ?_;(try simp only[tkS]);refine' tk 5 ?_;(try simp only[tkS]);refine' tk 6 ?_;(try simp only[tkS]);refine tk1 2 (fun K hK=>?_)
   have hld:=(HBX.out _ (dn1 (wr.alloc (.cells #[.string lo,.string hi,.int .i64 le,.int .i64 he] 46)))).cell 0;simp only[List.getElem?_toArray,List.getElem?_cons_zero]at hld;go_simp;refine hK.out _ _ (by exact(by have h:=(HBX.out _ (dn1 (wr.alloc (.cells #[.string lo,.string hi,.int .i64 le,.int .i64 he] 46)))).cell 1;exact h)) (fun hHeld=>?_)
   clear hK K;(try simp only[tkS]);refine tk1 3 (fun K hK=>?_)
   go_simp;go_at_call 85;refine(HM1.out _ _ _ _ _ _ _ _ _ _ _ _ _ _ _ _ _ _ _ (Hkg4.out _ (dn1 (wr.alloc (.cells #[.string lo,.string hi,.int .i64 le,.int .i64 he] 46)))) (HTx.out _ (dn1 (wr.alloc (.cells #[.string lo,.string hi,.int .i64 le,.int .i64 he] 46))))).mono ?_
   rintro e5 w5 ⟨rfl,hb5⟩;have Hb5:=hI (qaa (dn1 (wr.alloc (.cells #[.string lo,.string hi,.int .i64 le,.int .i64 he] 46))) hb5);clear hb5;refine hK.out _ _ (by exact(by have h:=(HBX.out _ (Hb5.out)).cell 1;exact h)) (fun hHeld=>?_)
   clear hK K;(try simp only[tkS]);refine' tk 8 ?_;(try simp only[tkS]);refine tk1 7 (fun K hK=>?_)
   go_simp;go_at_call 85;refine(HM3.out _ _ _ _ _ _ _ _ _ _ _ _ _ _ _ _ _ _ _ (Hkg4.out _ (Hb5.out)) (HTx.out _ (Hb5.out))).mono ?_
   rintro e7 w7 ⟨rfl,hb7⟩;have Hb7:=hI (qaa (Hb5.out) hb7);clear hb7;refine hK.out _ _ (by exact(by have h:=(HBX.out _ (Hb7.out)).cell 1;exact h)) (fun hHeld=>?_)
   clear hK K;(try simp only[tkS]);refine tk1 9 (fun K hK=>?_)
   obtain⟨⟨r0,r1,r2,r3⟩,f0,f1,f2,f3⟩:=qam (HBX.out _ Hb7.out);go_simp;refine hK.out _ _ (by exact(by rw[((HBX.out _ Hb7.out).set 0 (.string m1)).cell];rfl)) (fun hHeld=>?_)
   clear hK K;(try simp only[tkS]);refine' tk 10 ?_;(try simp only[tkS]);refine tkD ?_ _
   simp only[Exit.then];have hB1:=(HBX.out _ Hb7.out).set 0 (.string m1);have q1:=hB1.cell 1;have f1':=hB1.free 1;have HB8:=hI (qny (HBX.out _ Hb7.out) (.string m1) (.string m3));have hA:=qaa (qac wr _) Hb7.out;have HA8:=hI ((hA.setCell (p:=⟨wr.heap.size,0,none⟩) (Nat.le_refl _) (.string m1)).setCell (p:=⟨wr.heap.size,1,none⟩) (Nat.le_refl _) (.string m3));have Hkg8:=hI (Hkg3.out.mono (Hbw.out.via HA8.out Hbw.out.size));obtain⟨k0',g0',g1',g2',g3'⟩:=Hkg8.out.cells;clear hB1 hA
   go_wp2_with (first
    |(go_at_call 84;refine(HSg.out _ _ Hkg8.out.2.2.1).mono ?_;rintro e w9 ⟨rfl,hb9⟩;have hB9:=HB8.out.below hb9;obtain⟨⟨s0,s1,s2,s3⟩,-⟩:=qam hB9;have hC:=HA8.out.via hb9 HA8.out.size;have HE:=hI (hC.alloc hC.size (.cells #[.string m1,.string m3,.int .i64 le,.int .i64 he] 46));have HBn:=hI (Blk.new w9 #[.string m1,.string m3,.int .i64 le,.int .i64 he] 46);clear hB9 hb9 hC)
    |(at_builtin;refine qj0 EI (by decide) (Iv.row ⟨m1,m3,le,he⟩) rfl _ _ rfl w3.heap.size _ _ _ _ rfl rfl (qaf Hown.out HE.out) HBn.out rfl (one4 ⟨m1,m3,le,he⟩) (by omega) (by decide) (Hbw.out.via HE.out Hbw.out.size).size ?_;intro g11 cap11 w11 hown' hg' _hor _hgl;have Hb11:=hI (Below.grown (Hbw.out.via HE.out Hbw.out.size) hg' (Hbw.out.via HE.out Hbw.out.size).size (fun q hq=>(Hown.out.lt q hq).1));have Hown11:=hI hown';clear hown' hg'))
   go_roundw
   case rel=>exact⟨k+1,by omega,by go_num,Hb11.out,by rw[Hst.out];exact Hown11.out⟩
   case measure=>simp[intOf]<;>omega
  ·obtain rfl:k=N:=by omega
   have hkn:¬(k:Int)<(k:Int):=by omega
   have Hkg4:=hI (Hkg3.out.mono hbw);obtain⟨k0',g0',g1',g2',g3'⟩:=Hkg4.out.cells
   have HO:=hI (show wr.ownsRow w3.heap.size 46 4 (.slice ao k co) k (((xs.map (mapI P Q)).map Iv.row).flatten)from by
    have h:=hown
    rwa [List.take_of_length_le (by rw[HNl.out];exact Nat.le_refl _)]at h)
   clear hbw hown hk
   go_wp2_with (first
    |(go_at_call 84;refine(HSg.out _ _ Hkg4.out.2.2.1).mono ?_;rintro e w9 ⟨rfl,hb9⟩;have Hb9:=hI hb9;clear hb9))
   go_ret2
   exact⟨_,rfl,⟨ao,co,rfl,(qhk HO.out).mono Hb9.out⟩,qaa Hb3.out (Hbw.out.via Hb9.out Hbw.out.size)⟩
end Go.Proofs.YtacihodamichhaaGreatDoor
