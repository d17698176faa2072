/- Parts of the proof. -/
import Derived.Test.YtacihodamichhaaGreatDoorP34
import Derived.Test.YtacihodamichhaaGreatDoorP44
set_option maxHeartbeats 16000000
namespace Go.Proofs.YtacihodamichhaaGreatDoor
open Go.RowKit
theorem qts{w:World}{b:Nat}{x0 x1 x2 x3:Value}{T:TypeId}(h:Blk w b #[x0,x1,x2,x3] T)(y0 y1:Value):Blk ((w.setCell ⟨b,0,none⟩ y0).setCell ⟨b,1,none⟩ y1) b #[y0,y1,x2,x3] T:=by
 simpa using(h.set 0 y0).set 1 y1
theorem qtt{w:World}{b:Nat}{x0 x1 x2 x3:Value}{T:TypeId}(h:Blk w b #[x0,x1,x2,x3] T)(y0 y1 y2 y3:Value):Blk ((((w.setCell ⟨b,0,none⟩ y0).setCell ⟨b,1,none⟩ y1).setCell ⟨b,2,none⟩ y2).setCell ⟨b,3,none⟩ y3) b #[y0,y1,y2,y3] T:=by
 simpa using(((h.set 0 y0).set 1 y1).set 2 y2).set 3 y3
def mapI(p q:Rat)(x:Iv):Iv:=if p<0 then⟨movS p q x.hi,movS p q x.lo,x.he,x.le⟩else⟨movS p q x.lo,movS p q x.hi,x.le,x.he⟩
def mapL(p q:Rat)(xs:List Iv):List Iv:=if p<0 then(xs.map (mapI p q)).reverse else xs.map (mapI p q)
def KQ(w:World)(K g:Nat)(p q:Rat)(x0:Bool)(a0:Option Addr)(n0 c0:Nat)(y0:Bool)(e0:Option Addr)(l0 d0:Nat)(x1:Bool)(a1:Option Addr)(n1 c1:Nat)(y1:Bool)(e1:Option Addr)(l1 d1:Nat):Prop:=Blk w K #[.slice (some ⟨g,0,none⟩) 2 2] 109∧Blk w g #[.bool x0,.slice a0 n0 c0,.bool y0,.slice e0 l0 d0,.bool x1,.slice a1 n1 c1,.bool y1,.slice e1 l1 d1] 77∧RQ w (.agg #[.bool x0,.slice a0 n0 c0,.bool y0,.slice e0 l0 d0]) p∧RQ w (.agg #[.bool x1,.slice a1 n1 c1,.bool y1,.slice e1 l1 d1]) q
theorem KQ.mono{w w':World}{K g:Nat}{p q:Rat}{x0:Bool}{a0:Option Addr}{n0 c0:Nat}{y0:Bool}{e0:Option Addr}{l0 d0:Nat}{x1:Bool}{a1:Option Addr}{n1 c1:Nat}{y1:Bool}{e1:Option Addr}{l1 d1:Nat}(h:KQ w K g p q x0 a0 n0 c0 y0 e0 l0 d0 x1 a1 n1 c1 y1 e1 l1 d1)(hb:Below w.heap.size w w'):KQ w' K g p q x0 a0 n0 c0 y0 e0 l0 d0 x1 a1 n1 c1 y1 e1 l1 d1:=⟨h.1.below hb,h.2.1.below hb,h.2.2.1.mono hb,h.2.2.2.mono hb⟩
theorem KQ.cells{w:World}{K g:Nat}{p q:Rat}{x0:Bool}{a0:Option Addr}{n0 c0:Nat}{y0:Bool}{e0:Option Addr}{l0 d0:Nat}{x1:Bool}{a1:Option Addr}{n1 c1:Nat}{y1:Bool}{e1:Option Addr}{l1 d1:Nat}(h:KQ w K g p q x0 a0 n0 c0 y0 e0 l0 d0 x1 a1 n1 c1 y1 e1 l1 d1):w.cell? ⟨K,0,none⟩=some (.slice (some ⟨g,0,none⟩) 2 2)∧w.cell? ⟨g,0,none⟩=some (.bool x0)∧w.cell? ⟨g,1,none⟩=some (.slice a0 n0 c0)∧w.cell? ⟨g,2,none⟩=some (.bool y0)∧w.cell? ⟨g,3,none⟩=some (.slice e0 l0 d0):=by
 obtain⟨g0,g1,g2,g3,-⟩:=qm7 h.2.1 (Below.refl _ _);exact⟨by rw[h.1.cell];rfl,g0,g1,g2,g3⟩
set_option maxRecDepth 10000 in
theorem qs0(u:Value)(xs:List Iv)(fa sh:ByteArray)(w:World)(h:Ivs w u xs)(hs:∀x∈xs,x.short)(he:qa9 xs=0)(hn:xs.length≤256)(K:Nat)(hK0:0<K)(hK:3*K≤8000)(hz:∀x∈xs,x.lo.size≤K∧x.hi.size≤K)(z0:fa.size≤K)(z1:sh.size≤K)(w0:errL fa.data.toList=0)(w1:errL sh.data.toList=0)(hP:ratS fa<0)(hT:Tab w):
  Calls Tryz.prog 33 #[u,.string fa,.string sh] w (RetP (fun v w'=>∃a c,v=.tuple #[.slice a xs.length c,.int .i64 0]∧Ivs w' (.slice a xs.length c) (mapL (ratS fa) (ratS sh) xs)) w):=by
 have HP:=hI (qhc u _ w h hs);unfold qip at HP;rw[he]at HP;have HT:=hI hT;have HX:=hI h;have zf:=qen z0 hK0;have zs:=qen z1 hK0
 have HM:=hI (fun(s:ByteArray) (hs:s.size≤K) (K' g:Nat) (x0:Bool) (a0:Option Addr) (n0 c0:Nat) (y0:Bool) (e0:Option Addr) (l0 d0:Nat) (x1:Bool) (a1:Option Addr) (n1 c1:Nat) (y1:Bool) (e1:Option Addr) (l1 d1:Nat) (W:World) (hk:KQ W K' g (ratS fa) (ratS sh) x0 a0 n0 c0 y0 e0 l0 d0 x1 a1 n1 c1 y1 e1 l1 d1) (hT':Tab W)=>show Calls Tryz.prog 85 #[.string s,.pointer (some ⟨K',0,none⟩)] W (Ret (.string (movS (ratS fa) (ratS sh) s)) W)from
  qvk K' g s (ratS fa) (ratS sh) K K K x0 a0 n0 c0 y0 e0 l0 d0 x1 a1 n1 c1 y1 e1 l1 d1 W _ hk.1 hk.2.1 hk.2.2.1 hk.2.2.2 zf zs hs hK0 (by omega) (by omega) hT')
 have HRd:=hI (fun b T W (hB:Blk W b #[.string fa,.string sh] T)=>quv b fa sh W T hB (Nat.le_trans z0 (by omega)) (Nat.le_trans z1 (by omega)) w0 w1)
 have HSg:=hI (fun v W (hv:RQ W v (ratS fa))=>show Calls Tryz.prog 84 #[v] W (Ret (.int .i64 (-1)) W)from by
  obtain⟨q,h,-⟩:=hv;have:=qj5 v _ q W h
  rwa [show(ratS fa).num.sign=(-1)from Int.sign_eq_neg_one_of_neg (by have h:=(Rat.lt_iff _ _).1 hP;simpa using h)]at this)
 have HMI:=hI (fun x:Iv=>show mapI (ratS fa) (ratS sh) x=⟨movS (ratS fa) (ratS sh) x.hi,movS (ratS fa) (ratS sh) x.lo,x.he,x.le⟩from by unfold mapI;rw[if_pos hP]);have HML:=hI (show mapL (ratS fa) (ratS sh) xs=(xs.map (mapI (ratS fa) (ratS sh))).reverse from by unfold mapL;rw[if_pos hP]);have HZ:=hI (fun k x (hx:xs[k]?=some x)=>hz x (List.mem_of_getElem? hx));have eg:=enters_of (P:=Tryz.prog) Tryz.func85 (by kernel_rfl) rfl;obtain⟨a,c,rfl,hc1,hc2⟩:=h.open;obtain⟨N,hN⟩:∃N,xs.length=N:=⟨_,rfl⟩
 have HNl:=hI hN;rw[hN]at HP HX hn⊢;rw[HML.out];generalize ratS fa=P at*;generalize ratS sh=Q at*;clear h hs he hz z0 z1 w0 w1 hP hT zf zs hc1 hc2 hN hK0 hK
 go_enter Tryz.func33,Tryz.ntmps33
 go_wp2_with (first
  |(go_at_call 84;refine(HSg.out _ _ Hkg.out.2.2.1).mono ?_;rintro e w3 ⟨rfl,hb3⟩;have Hb3:=hI (qaa (qaa Hb2.out (qac w2 _)) hb3);have Hkg3:=hI (Hkg.out.mono hb3);clear hb3)
  |(go_at_call 83;refine(HRd.out _ _ _ (Blk.new w1 #[.string fa,.string sh] 23)).mono ?_;rintro e w2 ⟨v2,rfl,⟨g,x0,a0,n0,c0,y0,e0,l0,d0,x1,a1,n1,c1,y1,e1,l1,d1,rfl,hbg,hr0,hr1⟩,hb2⟩;have Hb2:=hI (qaa (qaa Hb1.out (qac w1 _)) hb2);have Hkg:=hI (show KQ (w2.alloc (.cells #[.slice (some ⟨g,0,none⟩) 2 2] 109)) w2.heap.size g P Q x0 a0 n0 c0 y0 e0 l0 d0 x1 a1 n1 c1 y1 e1 l1 d1 from⟨Blk.new w2 _ _,hbg.old _,hr0.mono (qac w2 _),hr1.mono (qac w2 _)⟩);obtain⟨k0,g0,g1,g2,g3⟩:=Hkg.out.cells;clear hbg hr0 hr1 hb2)
  |(go_at_call 56;refine(HP.out).mono ?_;rintro e w1 ⟨⟨r1,rfl,hq,-⟩,hb1⟩;obtain⟨ap,cp,ps,rfl,hps,hcs⟩:=hq (by first|rfl|trivial);have Hb1:=hI hb1;clear hq hps hcs hb1))
 go_loopw [44,13] (fun idx out wr=>∃k:Nat,k≤N∧idx=.int .i64 (k:Int)∧Below w3.heap.size w3 wr∧wr.ownsRow w3.heap.size 46 4 out k ((((xs.take k).map (mapI P Q)).map Iv.row).flatten)) (fun idx _ _=>N-(intOf idx).toNat)
 case atStart=>exact⟨0,by omega,rfl,Below.refl _ _,World.ownsRow_nil _ w3.heap.size 46 4⟩
 case round=>
  obtain⟨k,hk,rfl,hbw,hown⟩:=hrel;have Hbw:=hI hbw;have Hown:=hI hown;obtain⟨ao,co,rfl,hco,hcm⟩:=qas hown;unfold maxLen at hcm;rcases Nat.lt_or_ge k N with hlt|hge
  ·obtain⟨b,off,⟨lo,hi,le,he⟩,rfl,hx,v0,v1,v2,v3⟩:=HX.out.at (qaa Hb3.out hbw) hlt
   dsimp only at v0 v1 v2 v3;have hkn:(k:Int)<(N:Int):=by omega
   have hk0:(0:Int)≤(k:Int):=Int.natCast_nonneg _;have hkw:IntKind.i64.wrap ((k:Int)+1)=(k:Int)+1:=IntWalk.i64_in _ (by omega);have HM1:=hI (HM.out lo (HZ.out k _ hx).1);have HM3:=hI (HM.out hi (HZ.out k _ hx).2)
   have Hst:=hI (show(((xs.take (k+1)).map (mapI P Q)).map Iv.row).flatten=(((xs.take k).map (mapI P Q)).map Iv.row).flatten++Iv.row ⟨movS P Q hi,movS P Q lo,he,le⟩from by
    rw[qb8 hx,List.map_append,List.map_append,List.flatten_append,List.map_cons,HMI.out]
    simp)
   obtain⟨m1,hm1⟩:∃m:ByteArray,movS P Q lo=m:=⟨_,rfl⟩
   obtain⟨m3,hm3⟩:∃m:ByteArray,movS P Q hi=m:=⟨_,rfl⟩
   rw[hm1]at HM1 Hst;rw[hm3]at HM3 Hst;have Hkg4:=hI (fun W (hb:Below (wr.alloc (.cells #[.string lo,.string hi,.int .i64 le,.int .i64 he] 46)).heap.size (wr.alloc (.cells #[.string lo,.string hi,.int .i64 le,.int .i64 he] 46)) W)=>Hkg3.out.mono (qaa (qaa hbw (qac wr _)) hb));have HTx:=hI (fun W (hb:Below (wr.alloc (.cells #[.string lo,.string hi,.int .i64 le,.int .i64 he] 46)).heap.size (wr.alloc (.cells #[.string lo,.string hi,.int .i64 le,.int .i64 he] 46)) W)=>HT.out.mono (qaa Hb3.out (qaa (qaa hbw (qac wr _)) hb)));have HBX:=hI (fun W (hb:Below (wr.alloc (.cells #[.string lo,.string hi,.int .i64 le,.int .i64 he] 46)).heap.size (wr.alloc (.cells #[.string lo,.string hi,.int .i64 le,.int .i64 he] 46)) W)=>(Blk.new wr #[.string lo,.string hi,.int .i64 le,.int .i64 he] 46).below hb);clear hbw hx hown hm1 hm3
   go_wp2_with fail
   refine qau (S:=(fun w'=>w'.cell? ⟨wr.heap.size,1,none⟩=some (.string hi))) 11 (by kernel_rfl) (by kernel_rfl) (by exact(by have h:=(HBX.out _ (dn1 (wr.alloc (.cells #[.string lo,.string hi,.int .i64 le,.int .i64 he] 46)))).cell 1;exact h)) (fun hHeld=>?_)
   simp only[List.take_succ_cons,List.take_zero,List.drop_succ_cons,List.drop_zero];refine' tk 0 ?_;(try simp only[tkS]);refine' tk 1 ?_;(try simp only[tkS]);refine' tk 4 ?_;(try simp only[tkS]);refine' tk 5 ?_;(try simp only[tkS]);refine' tk 6 ?_;(try simp only[tkS]);refine tk1 2 (fun K hK=>?_)
   have hld:=(HBX.out _ (dn1 (wr.alloc (.cells #[.string lo,.string hi,.int .i64 le,.int .i64 he] 46)))).cell 0;simp only[List.getElem?_toArray,List.getElem?_cons_zero]at hld;go_simp;refine hK.out _ _ (by exact(by have h:=(HBX.out _ (dn1 (wr.alloc (.cells #[.string lo,.string hi,.int .i64 le,.int .i64 he] 46)))).cell 1;exact h)) (fun hHeld=>?_)
   clear hK K;(try simp only[tkS]);refine tk1 3 (fun K hK=>?_)
   go_simp;go_at_call 85;refine(HM1.out _ _ _ _ _ _ _ _ _ _ _ _ _ _ _ _ _ _ _ (Hkg4.out _ (dn1 (wr.alloc (.cells #[.string lo,.string hi,.int .i64 le,.int .i64 he] 46)))) (HTx.out _ (dn1 (wr.alloc (.cells #[.string lo,.string hi,.int .i64 le,.int .i64 he] 46))))).mono ?_
   rintro e5 w5 ⟨rfl,hb5⟩;have Hb5:=hI (qaa (dn1 (wr.alloc (.cells #[.string lo,.string hi,.int .i64 le,.int .i64 he] 46))) hb5);clear hb5;refine hK.out _ _ (by exact(by have h:=(HBX.out _ (Hb5.out)).cell 1;exact h)) (fun hHeld=>?_)
   clear hK K;(try simp only[tkS]);refine' tk 8 ?_;(try simp only[tkS]);refine tk1 7 (fun K hK=>?_)
   go_simp;go_at_call 85;refine(HM3.out _ _ _ _ _ _ _ _ _ _ _ _ _ _ _ _ _ _ _ (Hkg4.out _ (Hb5.out)) (HTx.out _ (Hb5.out))).mono ?_
   rintro e7 w7 ⟨rfl,hb7⟩;have Hb7:=hI (qaa (Hb5.out) hb7);clear hb7;refine hK.out _ _ (by exact(by have h:=(HBX.out _ (Hb7.out)).cell 1;exact h)) (fun hHeld=>?_)
   clear hK K;(try simp only[tkS]);refine tk1 9 (fun K hK=>?_)
   obtain⟨⟨r0,r1,r2,r3⟩,f0,f1,f2,f3⟩:=qam (HBX.out _ Hb7.out);go_simp;refine hK.out _ _ (by exact(by rw[((HBX.out _ Hb7.out).set 0 (.string m1)).cell];rfl)) (fun hHeld=>?_)
   clear hK K;(try simp only[tkS]);refine' tk 10 ?_;(try simp only[tkS]);refine tkD ?_ _
   simp only[Exit.then];have hB1:=(HBX.out _ Hb7.out).set 0 (.string m1);have q1:=hB1.cell 1;have f1':=hB1.free 1;have HB8:=hI (qts (HBX.out _ Hb7.out) (.string m1) (.string m3));have hA:=qaa (qac wr _) Hb7.out;have HA8:=hI ((hA.setCell (p:=⟨wr.heap.size,0,none⟩) (Nat.le_refl _) (.string m1)).setCell (p:=⟨wr.heap.size,1,none⟩) (Nat.le_refl _) (.string m3));have Hkg8:=hI (Hkg3.out.mono (Hbw.out.via HA8.out Hbw.out.size));obtain⟨k0',g0',g1',g2',g3'⟩:=Hkg8.out.cells;clear hB1 hA
   go_wp2_with (first
    |(go_at_call 84;refine(HSg.out _ _ Hkg8.out.2.2.1).mono ?_;rintro e w9 ⟨rfl,hb9⟩;have hB9:=HB8.out.below hb9;obtain⟨⟨s0,s1,s2,s3⟩,t0,t1,t2,t3⟩:=qam hB9;have hB10:=qtt hB9 (.string m3) (.string m1) (.int .i64 he) (.int .i64 le);obtain⟨⟨u0,u1,u2,u3⟩,-⟩:=qam hB10;have hC:=HA8.out.via hb9 HA8.out.size;have hD:=(((hC.setCell (p:=⟨wr.heap.size,0,none⟩) (Nat.le_refl _) (.string m3)).setCell (p:=⟨wr.heap.size,1,none⟩) (Nat.le_refl _) (.string m1)).setCell (p:=⟨wr.heap.size,2,none⟩) (Nat.le_refl _) (.int .i64 he)).setCell (p:=⟨wr.heap.size,3,none⟩) (Nat.le_refl _) (.int .i64 le);have HE:=hI (hD.alloc hD.size (.cells #[.string m3,.string m1,.int .i64 he,.int .i64 le] 46));have HBn:=hI (show Blk (((((w9.setCell ⟨wr.heap.size,0,none⟩ (.string m3)).setCell ⟨wr.heap.size,1,none⟩ (.string m1)).setCell ⟨wr.heap.size,2,none⟩ (.int .i64 he)).setCell ⟨wr.heap.size,3,none⟩ (.int .i64 le)).alloc (.cells #[.string m3,.string m1,.int .i64 he,.int .i64 le] 46)) w9.heap.size #[.string m3,.string m1,.int .i64 he,.int .i64 le] 46 from by have h:=Blk.new ((((w9.setCell ⟨wr.heap.size,0,none⟩ (.string m3)).setCell ⟨wr.heap.size,1,none⟩ (.string m1)).setCell ⟨wr.heap.size,2,none⟩ (.int .i64 he)).setCell ⟨wr.heap.size,3,none⟩ (.int .i64 le)) #[.string m3,.string m1,.int .i64 he,.int .i64 le] 46;simpa using h);clear hB9 hB10 hb9 hC hD)
    |(at_builtin;refine ql4 EI (by decide) (Iv.row ⟨m3,m1,he,le⟩) rfl _ _ rfl w3.heap.size _ _ _ _ rfl rfl (qaf Hown.out HE.out) HBn.out rfl (one4 ⟨m3,m1,he,le⟩) (by omega) (by decide) (Hbw.out.via HE.out Hbw.out.size).size ?_;intro g11 cap11 w11 hown' hg' _hor _hgl;have Hb11:=hI (Below.grown (Hbw.out.via HE.out Hbw.out.size) hg' (Hbw.out.via HE.out Hbw.out.size).size (fun q hq=>(Hown.out.lt q hq).1));have Hown11:=hI hown';clear hown' hg'))
   go_roundw
   case rel=>exact⟨k+1,by omega,by go_num,Hb11.out,by rw[Hst.out];exact Hown11.out⟩
   case measure=>simp[intOf]<;>omega
  ·obtain rfl:k=N:=by omega
   have hkn:¬(k:Int)<(k:Int):=by omega
   have Hkg4:=hI (Hkg3.out.mono hbw);obtain⟨k0',g0',g1',g2',g3'⟩:=Hkg4.out.cells
   have HO:=hI (show wr.ownsRow w3.heap.size 46 4 (.slice ao k co) k (((xs.map (mapI P Q)).map Iv.row).flatten)from by
    have h:=hown
    rwa [List.take_of_length_le (by rw[HNl.out];exact Nat.le_refl _)]at h)
   have HR:=hI (fun W (hb:Below wr.heap.size wr W)=>qwe (xs.map (mapI P Q)) ao k co w3.heap.size W (qaf HO.out hb) (by rw[List.length_map];exact HNl.out) (Nat.le_trans Hbw.out.size hb.size) (by omega));clear hbw hown hk
   go_wp2_with (first
    |(go_at_call 84;refine(HSg.out _ _ Hkg4.out.2.2.1).mono ?_;rintro e w9 ⟨rfl,hb9⟩;have Hb9:=hI hb9;clear hb9)
    |(go_at_call 87;refine(HR.out _ Hb9.out).mono ?_;rintro e w10 ⟨rfl,ho10,hb10⟩;have Ho10:=hI ho10;have Hb10:=hI ((Hbw.out.via Hb9.out Hbw.out.size).trans hb10);clear ho10 hb10))
   go_ret2
   exact⟨_,rfl,⟨ao,co,rfl,qi5 Ho10.out⟩,qaa Hb3.out Hb10.out⟩
theorem ne_N:qba xsN=0:=by kernel_rfl
theorem nl_N:qed xsN=[⟨⟨#[48]⟩,⟨#[51]⟩,0,0⟩]:=by kernel_rfl
theorem qum:∀x∈xsN,x.short:=fun x hx=>by
 simp only[xsN,List.mem_cons,List.not_mem_nil,or_false]at hx;rcases hx with rfl|rfl|rfl<;>exact⟨by decide,by decide⟩
theorem qwo(b:Nat)(W:World)(hB:Blk W b #[.string ⟨#[50]⟩,.string ⟨#[51]⟩,.int .i64 1,.int .i64 0,.string ⟨#[48]⟩,.string ⟨#[49]⟩,.int .i64 0,.int .i64 1,.string ⟨#[49]⟩,.string ⟨#[50]⟩,.int .i64 0,.int .i64 0] 46):Calls Tryz.prog 23 #[.slice (some ⟨b,0,none⟩) 3 3] W (RetP (fun v w'=>∃a c,v=.tuple #[.slice a 1 c,.int .i64 0]∧Ivs w' (.slice a 1 c) [⟨⟨#[48]⟩,⟨#[51]⟩,0,0⟩]) W):=by
 refine(qn7 (.slice (some ⟨b,0,none⟩) 3 3) xsN W (Ivs.blk xsN hB rfl rfl (by decide)) qum).mono ?_
 rintro e w' ⟨v,rfl,⟨a,c,rfl,hiv⟩,hb⟩;rw[nl_N]at hiv;exact⟨_,rfl,⟨a,c,by rw[nl_N,ne_N];rfl,hiv⟩,hb⟩
theorem nl_1:qed xs1=xs1:=by kernel_rfl
theorem qun:∀x∈xs1,x.short:=fun x hx=>by
 simp only[xs1,List.mem_cons,List.not_mem_nil,or_false]at hx;subst hx;exact⟨by decide,by decide⟩
theorem qxm:(qa3 (qc3 lowR qcs (xs1.map rgOf))).map ivR=xsC:=by kernel_rfl
theorem qjm(u:Value)(w:World)(hx:Ivs w u xs1):Calls Tryz.prog 35 #[u] w (RetP (fun r w'=>∃a c,r=.tuple #[.slice a 2 c,.int .i64 0]∧Ivs w' (.slice a 2 c) xsC) w):=by
 obtain⟨J,hJ,hl⟩:=qmp (xs:=xs1) qun (by decide);rw[nl_1]at hJ;have hg:=hJ.rg;subst hg;refine(qfy hJ (by decide) _ _ hx).mono ?_
 rintro e w' ⟨r,rfl,⟨a,c,rfl,hi⟩,hb⟩;rw[qxm]at hi⊢;exact⟨_,rfl,⟨a,c,rfl,hi⟩,hb⟩
theorem qvy(b:Nat)(W:World)(hB:Blk W b #[.string ⟨#[48]⟩,.string ⟨#[49]⟩,.int .i64 0,.int .i64 1] 46):Calls Tryz.prog 35 #[.slice (some ⟨b,0,none⟩) 1 1] W (RetP (fun r w'=>∃a c,r=.tuple #[.slice a 2 c,.int .i64 0]∧Ivs w' (.slice a 2 c) xsC) W):=
 qjm _ W (Ivs.blk xs1 hB rfl rfl (by decide))
theorem qxb:(⟨(txtR (qc1 ⟨⟨#[49]⟩,⟨#[50]⟩,0,0⟩)).toArray⟩:ByteArray)=⟨#[51,47,50]⟩:=by decide+kernel
theorem qxa:qsg [⟨⟨#[49]⟩,⟨#[50]⟩,0,0⟩]=.tuple #[.string ⟨#[51,47,50]⟩,.bool true,.int .i64 0]:=by
 show Value.tuple #[.string ⟨(txtR (qc1 ⟨⟨#[49]⟩,⟨#[50]⟩,0,0⟩)).toArray⟩,.bool true,.int .i64 0]=_
 rw[qxb]
theorem qwl(b:Nat)(W:World)(hB:Blk W b #[.string ⟨#[49]⟩,.string ⟨#[50]⟩,.int .i64 0,.int .i64 0] 46)(hT:Tab W):Calls Tryz.prog 18 #[.slice (some ⟨b,0,none⟩) 1 1] W (Ret (.tuple #[.string ⟨#[51,47,50]⟩,.bool true,.int .i64 0]) W):=by
 have h:=qqf (.slice (some ⟨b,0,none⟩) 1 1) [⟨⟨#[49]⟩,⟨#[50]⟩,0,0⟩] W (Ivs.blk [⟨⟨#[49]⟩,⟨#[50]⟩,0,0⟩] hB rfl rfl (by decide)) (fun x hx=>by
  cases List.mem_singleton.1 hx
  exact⟨by decide,by decide⟩) (by kernel_rfl) (by decide) hT
 rw[qxa]at h;exact h
theorem nx_C:qvi (qli (qgb (xsC.map Iv.cuts)) ⟨#[48]⟩)=.tuple #[.string ⟨#[49]⟩,.bool true,.int .i64 0]:=by kernel_rfl
theorem qnw(u:Value)(W:World)(h:Ivs W u xsC):Calls Tryz.prog 20 #[u,.string ⟨#[48]⟩] W (Ret (.tuple #[.string ⟨#[49]⟩,.bool true,.int .i64 0]) W):=by
 have h:=qvr u xsC ⟨#[48]⟩ W h (fun x hx=>by
  simp only[xsC,List.mem_cons,List.not_mem_nil,or_false]at hx
  rcases hx with rfl|rfl<;>exact⟨by decide,by decide⟩) (by kernel_rfl) (by decide) (by decide) (by kernel_rfl)
 rw[nx_C]at h;exact h
theorem mw_1:movS (ratS ⟨#[45,50]⟩) (ratS ⟨#[49]⟩) ⟨#[49]⟩=⟨#[45,49]⟩:=by decide+kernel
theorem mw_3:movS (ratS ⟨#[45,50]⟩) (ratS ⟨#[49]⟩) ⟨#[50]⟩=⟨#[45,51]⟩:=by decide+kernel
theorem mw_n:ratS ⟨#[45,50]⟩<0:=by decide+kernel
theorem mw_l:mapL (ratS ⟨#[45,50]⟩) (ratS ⟨#[49]⟩) [⟨⟨#[49]⟩,⟨#[50]⟩,0,1⟩]=[⟨⟨#[45,51]⟩,⟨#[45,49]⟩,1,0⟩]:=by
 unfold mapL mapI;rw[if_pos mw_n,List.map_cons,List.map_nil,List.reverse_singleton,if_pos mw_n];dsimp only;rw[mw_1,mw_3]
theorem qxc(b:Nat)(W:World)(hB:Blk W b #[.string ⟨#[49]⟩,.string ⟨#[50]⟩,.int .i64 0,.int .i64 1] 46)(hT:Tab W):Calls Tryz.prog 33 #[.slice (some ⟨b,0,none⟩) 1 1,.string ⟨#[45,50]⟩,.string ⟨#[49]⟩] W (RetP (fun v w'=>∃a c,v=.tuple #[.slice a 1 c,.int .i64 0]∧Ivs w' (.slice a 1 c) [⟨⟨#[45,51]⟩,⟨#[45,49]⟩,1,0⟩]) W):=by
 have h:=qs0 _ [⟨⟨#[49]⟩,⟨#[50]⟩,0,1⟩] ⟨#[45,50]⟩ ⟨#[49]⟩ W (Ivs.blk [⟨⟨#[49]⟩,⟨#[50]⟩,0,1⟩] hB rfl rfl (by decide)) (fun x hx=>by
  cases List.mem_singleton.1 hx
  exact⟨by decide,by decide⟩) (by kernel_rfl) (by decide) 60 (by decide) (by decide) (fun x hx=>by
  cases List.mem_singleton.1 hx
  exact⟨by decide,by decide⟩) (by decide) (by decide) (by kernel_rfl) (by kernel_rfl) mw_n hT
 rw[mw_l]at h;exact h
set_option maxRecDepth 10000 in
theorem qnz(w:World)(hT:Tab w):Calls Tryz.prog 13 #[] w (Ret (.bool true) w):=by
 have HBt:=hI (fun lo hi le he w'=>ql2 lo hi le he w');have HNo:=hI (fun b W hB=>qwo b W hB);have HCo:=hI (fun b W hB=>qvy b W hB);have HNx:=hI (fun u W h=>qnw u W h);have HPi:=hI (fun b W hB hT'=>qwl b W hB hT');have HT:=hI hT;clear hT;have HMa:=hI (fun b W hB hT'=>qxc b W hB hT');have HSa:=hI (fun u v xs W hx hy hn=>qo5 u v xs W hx hy hn)
 go_enter Tryz.func13,Tryz.ntmps13
 go_wp2_with (first
  |(go_at_call 26;have _t:=H17;clear _t;refine(HSa.out _ _ [⟨⟨#[45,51]⟩,⟨#[45,49]⟩,1,0⟩] _ (I11.out.mono (qac w17 (.cells #[.string ⟨#[45,51]⟩,.string ⟨#[45,49]⟩,.int .i64 1,.int .i64 0] 46))) (Ivs.blk [⟨⟨#[45,51]⟩,⟨#[45,49]⟩,1,0⟩] (Blk.new w17 _ _) rfl rfl (by decide)) (by decide)).mono ?_;rintro e w18 ⟨rfl,hb⟩;have st:=qaa (qac w17 (.cells #[.string ⟨#[45,51]⟩,.string ⟨#[45,49]⟩,.int .i64 1,.int .i64 0] 46)) hb;have H18:=hI (qaa H17.out st);have I4:=hI (I4.out.mono st);have I6:=hI (I6.out.mono st);have I11:=hI (I11.out.mono st);clear st hb)
  |(go_at_call 29;have _t:=H16;clear _t;refine(HBt.out _ _ _ _ _).mono ?_;rintro e w17 ⟨rfl,hb⟩;have st:=hb;have H17:=hI (qaa H16.out st);have I4:=hI (I4.out.mono st);have I6:=hI (I6.out.mono st);have I11:=hI (I11.out.mono st);clear st hb)
  |(go_at_call 26;have _t:=H15;clear _t;refine(HSa.out _ _ xsC _ (I6.out.mono (qac w15 (.cells #[.string ⟨#[]⟩,.string ⟨#[48]⟩,.int .i64 2,.int .i64 1,.string ⟨#[49]⟩,.string ⟨#[]⟩,.int .i64 0,.int .i64 2] 46))) (Ivs.blk xsC (Blk.new w15 _ _) rfl rfl (by decide)) (by decide)).mono ?_;rintro e w16 ⟨rfl,hb⟩;have st:=qaa (qac w15 (.cells #[.string ⟨#[]⟩,.string ⟨#[48]⟩,.int .i64 2,.int .i64 1,.string ⟨#[49]⟩,.string ⟨#[]⟩,.int .i64 0,.int .i64 2] 46)) hb;have H16:=hI (qaa H15.out st);have I4:=hI (I4.out.mono st);have I6:=hI (I6.out.mono st);have I11:=hI (I11.out.mono st);clear st hb)
  |(go_at_call 29;have _t:=H14;clear _t;refine(HBt.out _ _ _ _ _).mono ?_;rintro e w15 ⟨rfl,hb⟩;have st:=hb;have H15:=hI (qaa H14.out st);have I4:=hI (I4.out.mono st);have I6:=hI (I6.out.mono st);have I11:=hI (I11.out.mono st);clear st hb)
  |(go_at_call 29;have _t:=H13;clear _t;refine(HBt.out _ _ _ _ _).mono ?_;rintro e w14 ⟨rfl,hb⟩;have st:=hb;have H14:=hI (qaa H13.out st);have I4:=hI (I4.out.mono st);have I6:=hI (I6.out.mono st);have I11:=hI (I11.out.mono st);clear st hb)
  |(go_at_call 26;have _t:=H12;clear _t;refine(HSa.out _ _ [⟨⟨#[48]⟩,⟨#[51]⟩,0,0⟩] _ (I4.out.mono (qac w12 (.cells #[.string ⟨#[48]⟩,.string ⟨#[51]⟩,.int .i64 0,.int .i64 0] 46))) (Ivs.blk [⟨⟨#[48]⟩,⟨#[51]⟩,0,0⟩] (Blk.new w12 _ _) rfl rfl (by decide)) (by decide)).mono ?_;rintro e w13 ⟨rfl,hb⟩;have st:=qaa (qac w12 (.cells #[.string ⟨#[48]⟩,.string ⟨#[51]⟩,.int .i64 0,.int .i64 0] 46)) hb;have H13:=hI (qaa H12.out st);have I4:=hI (I4.out.mono st);have I6:=hI (I6.out.mono st);have I11:=hI (I11.out.mono st);clear st hb)
  |(go_at_call 29;have _t:=H11;clear _t;refine(HBt.out _ _ _ _ _).mono ?_;rintro e w12 ⟨rfl,hb⟩;have st:=hb;have H12:=hI (qaa H11.out st);have I4:=hI (I4.out.mono st);have I6:=hI (I6.out.mono st);have I11:=hI (I11.out.mono st);clear st hb)
  |(go_at_call 33;refine(HMa.out _ _ (Blk.new w10 _ _) (HT.out.mono (qaa H10.out (qac w10 (.cells #[.string ⟨#[49]⟩,.string ⟨#[50]⟩,.int .i64 0,.int .i64 1] 46))))).mono ?_;rintro e w11 ⟨v,rfl,⟨a11,c11,rfl,hi⟩,hb⟩;have st:=qaa (qac w10 (.cells #[.string ⟨#[49]⟩,.string ⟨#[50]⟩,.int .i64 0,.int .i64 1] 46)) hb;have H11:=hI (qaa H10.out st);have I4:=hI (I4.out.mono st);have I6:=hI (I6.out.mono st);have I11:=hI hi;clear hi;clear st hb)
  |(go_at_call 29;have _t:=H9;clear _t;refine(HBt.out _ _ _ _ _).mono ?_;rintro e w10 ⟨rfl,hb⟩;have st:=hb;have H10:=hI (qaa H9.out st);have I4:=hI (I4.out.mono st);have I6:=hI (I6.out.mono st);clear st hb)
  |(go_at_call 18;refine(HPi.out _ _ (Blk.new w8 _ _) (HT.out.mono (qaa H8.out (qac w8 (.cells #[.string ⟨#[49]⟩,.string ⟨#[50]⟩,.int .i64 0,.int .i64 0] 46))))).mono ?_;rintro e w9 ⟨rfl,hb⟩;have st:=qaa (qac w8 (.cells #[.string ⟨#[49]⟩,.string ⟨#[50]⟩,.int .i64 0,.int .i64 0] 46)) hb;have H9:=hI (qaa H8.out st);have I4:=hI (I4.out.mono st);have I6:=hI (I6.out.mono st);clear st hb)
  |(go_at_call 29;have _t:=H7;clear _t;refine(HBt.out _ _ _ _ _).mono ?_;rintro e w8 ⟨rfl,hb⟩;have st:=hb;have H8:=hI (qaa H7.out st);have I4:=hI (I4.out.mono st);have I6:=hI (I6.out.mono st);clear st hb)
  |(go_at_call 20;refine(HNx.out _ _ I6.out).mono ?_;rintro e w7 ⟨rfl,hb⟩;have st:=hb;have H7:=hI (qaa H6.out st);have I4:=hI (I4.out.mono st);have I6:=hI (I6.out.mono st);clear st hb)
  |(go_at_call 35;refine(HCo.out _ _ (Blk.new w5 _ _)).mono ?_;rintro e w6 ⟨v,rfl,⟨a6,c6,rfl,hi⟩,hb⟩;have st:=qaa (qac w5 (.cells #[.string ⟨#[48]⟩,.string ⟨#[49]⟩,.int .i64 0,.int .i64 1] 46)) hb;have H6:=hI (qaa H5.out st);have I4:=hI (I4.out.mono st);have I6:=hI hi;clear hi;clear st hb)
  |(go_at_call 29;have _t:=H4;clear _t;refine(HBt.out _ _ _ _ _).mono ?_;rintro e w5 ⟨rfl,hb⟩;have st:=hb;have H5:=hI (qaa H4.out st);have I4:=hI (I4.out.mono st);clear st hb)
  |(go_at_call 23;refine(HNo.out _ _ (Blk.new w3 _ _)).mono ?_;rintro e w4 ⟨v,rfl,⟨a4,c4,rfl,hi⟩,hb⟩;have st:=qaa (qac w3 (.cells #[.string ⟨#[50]⟩,.string ⟨#[51]⟩,.int .i64 1,.int .i64 0,.string ⟨#[48]⟩,.string ⟨#[49]⟩,.int .i64 0,.int .i64 1,.string ⟨#[49]⟩,.string ⟨#[50]⟩,.int .i64 0,.int .i64 0] 46)) hb;have H4:=hI (qaa H3.out st);have I4:=hI hi;clear hi;clear st hb)
  |(go_at_call 29;have _t:=H2;clear _t;refine(HBt.out _ _ _ _ _).mono ?_;rintro e w3 ⟨rfl,hb⟩;have st:=hb;have H3:=hI (qaa H2.out st);clear st hb)
  |(go_at_call 29;have _t:=H1;clear _t;refine(HBt.out _ _ _ _ _).mono ?_;rintro e w2 ⟨rfl,hb⟩;have st:=hb;have H2:=hI (qaa H1.out st);clear st hb)
  |(go_at_call 29;refine(HBt.out _ _ _ _ _).mono ?_;rintro e w1 ⟨rfl,hb⟩;have st:=hb;have H1:=hI (hb);clear st hb))
 go_ret
 exact⟨rfl,H18.out⟩
def shB(x:Iv):Bool:=decide (x.lo.size≤60)&&decide (x.hi.size≤60)
def fewB(xs:List Iv):Bool:=!(decide (260<xs.length)||(decide (8<xs.length)&&decide (xs.length<257)))&&xs.all shB
theorem qko{xs:List Iv}(h:fewB xs=true):∀x∈xs,x.short:=by
 unfold fewB at h;rw[Bool.and_eq_true]at h;intro x hx;have:=List.all_eq_true.1 h.2 x hx;unfold shB at this;simp at this;exact⟨Nat.le_trans this.1 (by decide),Nat.le_trans this.2 (by decide)⟩
theorem qvu(v:Value)(xs:List Iv)(w:World)(h:Ivs w v xs)(hln:xs.length<1000000):Calls Tryz.prog 14 #[v] w (Ret (.bool (fewB xs)) w):=by
 obtain⟨a,c,rfl,hc1,hc2⟩:=h.open;have HX:=hI h;obtain⟨T,hT⟩:∃T,fewB xs=T:=⟨_,rfl⟩
 rw[hT];have HT0:=hI (show T=(!(decide (260<xs.length)||(decide (8<xs.length)&&decide (xs.length<257)))&&xs.all shB)from hT.symm);generalize hn:xs.length=n at*;have Hn:=hI hn;clear h hn hT
 by_cases h1:260<n
 ·have Hfin:=hI (show T=false by rw[HT0.out,decide_eq_true h1];rfl)
  have g1:(260:Int)<(n:Int):=by omega
  go_enter Tryz.func14,Tryz.ntmps14
  go_wp2_with fail
  go_ret
  exact⟨by rw[Hfin.out];rfl,Below.refl _ _⟩
 ·have g1:¬(260:Int)<(n:Int):=by omega
  by_cases h2:8<n
  ·have g2:(8:Int)<(n:Int):=by omega
   by_cases h3:n<257
   ·have Hfin:=hI (show T=false by rw[HT0.out,decide_eq_true h2,decide_eq_true h3,Bool.true_and,Bool.or_true];rfl)
    have g3:(n:Int)<257:=by omega
    go_enter Tryz.func14,Tryz.ntmps14
    go_wp2_with fail
    go_ret
    exact⟨by rw[Hfin.out];rfl,Below.refl _ _⟩
   ·have HT:=hI (show T=(true&&xs.all shB)by rw[HT0.out,decide_eq_false h1,decide_eq_false h3,Bool.and_false,Bool.or_false];rfl)
    have g3:¬(n:Int)<257:=by omega
    clear h1 h2 h3 HT0
    go_enter Tryz.func14,Tryz.ntmps14
    go_wp2_with fail
    go_loopw [3] (fun i wr=>wr=w∧∃k:Nat,k≤n∧i=.int .i64 (k:Int)∧Hid (xs.all shB=(xs.drop k).all shB)) (fun i _=>n-(intOf i).toNat)
    case atStart=>exact⟨rfl,0,Nat.zero_le _,rfl,by unfold Hid;rw[List.drop_zero]⟩
    case round=>
     obtain⟨rfl,k,hk,rfl,hpre⟩:=hrel;rcases Nat.lt_or_ge k n with hlt|hge
     ·obtain⟨b,off,x,rfl,hx,c0,c1,c2,c3⟩:=HX.out.at (Below.refl _ _) hlt
      have hkn:(k:Int)<(n:Int):=by omega
      have hk0:(0:Int)≤(k:Int):=Int.natCast_nonneg _;have hkw:IntKind.i64.wrap ((k:Int)+1)=(k:Int)+1:=IntWalk.i64_in _ (by omega);have hpr:=hpre.out;rw[qd3 hx,List.all_cons]at hpr
      by_cases h1:60<x.lo.size
      ·have hf:xs.all shB=false:=by rw[hpr];simp[shB];omega
       have Hfin:=hI (show T=false by rw[HT.out,hf,Bool.and_false]);have g1:(60:Int)<(x.lo.size:Int):=by omega
       clear hpr hx hf
       go_wp2_with fail
       go_ret
       exact⟨by rw[Hfin.out];rfl,Below.refl _ _⟩
      ·have g1:¬(60:Int)<(x.lo.size:Int):=by omega
       by_cases h2:60<x.hi.size
       ·have hf:xs.all shB=false:=by rw[hpr];simp[shB];omega
        have Hfin:=hI (show T=false by rw[HT.out,hf,Bool.and_false]);have g2:(60:Int)<(x.hi.size:Int):=by omega
        clear hpr hx hf
        go_wp2_with fail
        go_ret
        exact⟨by rw[Hfin.out];rfl,Below.refl _ _⟩
       ·have g2:¬(60:Int)<(x.hi.size:Int):=by omega
        have Hnx:=hI (show xs.all shB=(xs.drop (k+1)).all shB by
         rw[hpr,show shB x=true by unfold shB;rw[decide_eq_true (by omega),decide_eq_true (by omega)];rfl,Bool.true_and])
        clear hpr hx h1 h2
        go_wp2_with fail
        go_roundw
        case rel=>exact⟨trivial,k+1,by omega,by go_num,Hnx.out⟩
        case measure=>simp[intOf]<;>omega
     ·obtain rfl:k=n:=by omega
      have hkn:¬(k:Int)<(k:Int):=by omega
      have Hfin:=hI (show T=true by rw[HT.out,hpre.out,List.drop_of_length_le (by rw[Hn.out];exact Nat.le_refl _)];rfl)
      go_wp2_with fail
      go_ret
      exact⟨by rw[Hfin.out];rfl,Below.refl _ _⟩
  ·have g2:¬(8:Int)<(n:Int):=by omega
   have HT:=hI (show T=(true&&xs.all shB)by rw[HT0.out,decide_eq_false h1,decide_eq_false h2,Bool.false_and,Bool.or_false];rfl);clear h1 h2 HT0
   go_enter Tryz.func14,Tryz.ntmps14
   go_wp2_with fail
   go_loopw [3] (fun i wr=>wr=w∧∃k:Nat,k≤n∧i=.int .i64 (k:Int)∧Hid (xs.all shB=(xs.drop k).all shB)) (fun i _=>n-(intOf i).toNat)
   case atStart=>exact⟨rfl,0,Nat.zero_le _,rfl,by unfold Hid;rw[List.drop_zero]⟩
   case round=>
    obtain⟨rfl,k,hk,rfl,hpre⟩:=hrel;rcases Nat.lt_or_ge k n with hlt|hge
    ·obtain⟨b,off,x,rfl,hx,c0,c1,c2,c3⟩:=HX.out.at (Below.refl _ _) hlt
     have hkn:(k:Int)<(n:Int):=by omega
     have hk0:(0:Int)≤(k:Int):=Int.natCast_nonneg _;have hkw:IntKind.i64.wrap ((k:Int)+1)=(k:Int)+1:=IntWalk.i64_in _ (by omega);have hpr:=hpre.out;rw[qd3 hx,List.all_cons]at hpr
     by_cases h1:60<x.lo.size
     ·have hf:xs.all shB=false:=by rw[hpr];simp[shB];omega
      have Hfin:=hI (show T=false by rw[HT.out,hf,Bool.and_false]);have g1:(60:Int)<(x.lo.size:Int):=by omega
      clear hpr hx hf
      go_wp2_with fail
      go_ret
      exact⟨by rw[Hfin.out];rfl,Below.refl _ _⟩
     ·have g1:¬(60:Int)<(x.lo.size:Int):=by omega
      by_cases h2:60<x.hi.size
      ·have hf:xs.all shB=false:=by rw[hpr];simp[shB];omega
       have Hfin:=hI (show T=false by rw[HT.out,hf,Bool.and_false]);have g2:(60:Int)<(x.hi.size:Int):=by omega
       clear hpr hx hf
       go_wp2_with fail
       go_ret
       exact⟨by rw[Hfin.out];rfl,Below.refl _ _⟩
      ·have g2:¬(60:Int)<(x.hi.size:Int):=by omega
       have Hnx:=hI (show xs.all shB=(xs.drop (k+1)).all shB by
        rw[hpr,show shB x=true by unfold shB;rw[decide_eq_true (by omega),decide_eq_true (by omega)];rfl,Bool.true_and])
       clear hpr hx h1 h2
       go_wp2_with fail
       go_roundw
       case rel=>exact⟨trivial,k+1,by omega,by go_num,Hnx.out⟩
       case measure=>simp[intOf]<;>omega
    ·obtain rfl:k=n:=by omega
     have hkn:¬(k:Int)<(k:Int):=by omega
     have Hfin:=hI (show T=true by rw[HT.out,hpre.out,List.drop_of_length_le (by rw[Hn.out];exact Nat.le_refl _)];rfl)
     go_wp2_with fail
     go_ret
     exact⟨by rw[Hfin.out];rfl,Below.refl _ _⟩
theorem qwv{xs:List Iv}(h:fewB xs=true):∀x∈xs,x.lo.size≤60∧x.hi.size≤60:=by
 unfold fewB at h;rw[Bool.and_eq_true]at h;intro x hx;have:=List.all_eq_true.1 h.2 x hx;unfold shB at this
 simpa using this
theorem qss(n:ByteArray)(k:Int):(loC n k).s.size≤n.size:=by
 unfold loC
 split
 ·exact Nat.zero_le _
 ·split<;>exact Nat.le_refl _
theorem qrq(n:ByteArray)(k:Int):(upC n k).s.size≤n.size:=by
 unfold upC
 split
 ·exact Nat.zero_le _
 ·split<;>exact Nat.le_refl _
theorem qpr{xs:List Iv}{k:Nat}(h:∀x∈xs,x.lo.size≤k∧x.hi.size≤k):∀x∈qed xs,x.lo.size≤k∧x.hi.size≤k:=fun x hx=>by
 unfold qed at hx
 split at hx
 ·obtain⟨r,hr,rfl⟩:=List.mem_map.1 hx
  have:=qdl (rs:=xs.map rgOf) (P:=fun c=>c.s.size≤k) (fun r hr=>by
   obtain⟨y,hy,rfl⟩:=List.mem_map.1 hr
   exact⟨Nat.le_trans (qss _ _) (h y hy).1,Nat.le_trans (qrq _ _) (h y hy).2⟩) r hr
  unfold ivR;dsimp only
  constructor
  ·split
   ·exact this.1
   ·exact Nat.zero_le _
  ·split
   ·exact this.2
   ·exact Nat.zero_le _
 ·cases hx
theorem qrw{xs:List Iv}{k:Nat}(h:∀x∈xs,x.lo.size≤k∧x.hi.size≤k):∀x∈setL xs,x.lo.size≤k∧x.hi.size≤k:=
 qpr fun x hx=>h x (List.mem_of_mem_take hx)
end Go.Proofs.YtacihodamichhaaGreatDoor
