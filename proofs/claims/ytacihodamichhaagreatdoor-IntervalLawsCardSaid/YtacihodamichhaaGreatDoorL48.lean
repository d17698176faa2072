/- Parts of the proof. -/
import Derived.Test.YtacihodamichhaaGreatDoorL47
namespace Go.Proofs.YtacihodamichhaaGreatDoor
open Go.RowKit
set_option maxHeartbeats 16000000
theorem qtr(a:Option Addr)(c:Nat)(w:World):Calls Tryz.prog 87 #[.slice a 1 c] w (fun e w'=>e=.returned (.tuple #[])∧Below w.heap.size w w'):=by
 go_enter Tryz.func87,Tryz.ntmps87
 go_wp2_with fail
 go_loopw [2,3] (fun i j wr=>i=.int .i64 0∧j=.int .i64 0∧wr=w) (fun _ _ _=>0)
 case atStart=>exact⟨rfl,rfl,rfl⟩
 case round=>
  obtain⟨rfl,rfl,rfl⟩:=hrel
  go_wp2_with fail
  go_end0
  exact⟨rfl,Below.refl _ _⟩
theorem qrb{w:World}{b:Nat}{x0 x1 x2 x3:Value}{T:TypeId}(h:Blk w b #[x0,x1,x2,x3] T)(y0 y1:Value):Blk ((w.setCell ⟨b,0,none⟩ y0).setCell ⟨b,1,none⟩ y1) b #[y0,y1,x2,x3] T:=by
 simpa using(h.set 0 y0).set 1 y1
theorem qrc{w:World}{b:Nat}{x0 x1 x2 x3:Value}{T:TypeId}(h:Blk w b #[x0,x1,x2,x3] T)(y0 y1 y2 y3:Value):Blk ((((w.setCell ⟨b,0,none⟩ y0).setCell ⟨b,1,none⟩ y1).setCell ⟨b,2,none⟩ y2).setCell ⟨b,3,none⟩ y3) b #[y0,y1,y2,y3] T:=by
 simpa using(((h.set 0 y0).set 1 y1).set 2 y2).set 3 y3
def KG(w:World)(K g:Nat)(x0:Bool)(a0:Option Addr)(n0 c0:Nat)(x1:Bool)(a1:Option Addr)(n1 c1:Nat):Prop:=Blk w K #[.slice (some ⟨g,0,none⟩) 2 2] 109∧Blk w g #[.bool x0,.slice a0 n0 c0,.bool false,.slice none 0 0,.bool x1,.slice a1 n1 c1,.bool false,.slice none 0 0] 77∧RatV w (.agg #[.bool x0,.slice a0 n0 c0,.bool false,.slice none 0 0]) (-2) 0∧RatV w (.agg #[.bool x1,.slice a1 n1 c1,.bool false,.slice none 0 0]) 1 0
theorem KG.mono{w w':World}{K g:Nat}{x0:Bool}{a0:Option Addr}{n0 c0:Nat}{x1:Bool}{a1:Option Addr}{n1 c1:Nat}(h:KG w K g x0 a0 n0 c0 x1 a1 n1 c1)(hb:Below w.heap.size w w'):KG w' K g x0 a0 n0 c0 x1 a1 n1 c1:=⟨h.1.below hb,h.2.1.below hb,h.2.2.1.mono hb,h.2.2.2.mono hb⟩
theorem KG.cells{w:World}{K g:Nat}{x0:Bool}{a0:Option Addr}{n0 c0:Nat}{x1:Bool}{a1:Option Addr}{n1 c1:Nat}(h:KG w K g x0 a0 n0 c0 x1 a1 n1 c1):w.cell? ⟨K,0,none⟩=some (.slice (some ⟨g,0,none⟩) 2 2)∧w.cell? ⟨g,0,none⟩=some (.bool x0)∧w.cell? ⟨g,1,none⟩=some (.slice a0 n0 c0)∧w.cell? ⟨g,2,none⟩=some (.bool false)∧w.cell? ⟨g,3,none⟩=some (.slice none 0 0):=by
 obtain⟨g0,g1,g2,g3,-⟩:=qln h.2.1 (Below.refl _ _);exact⟨by rw[h.1.cell];rfl,g0,g1,g2,g3⟩
set_option maxRecDepth 10000 in
theorem qn5(u:Value)(w:World)(h:Ivs w u [⟨⟨#[49]⟩,⟨#[50]⟩,0,1⟩])(hw1:WT ⟨#[49]⟩ 1)(hw2:WT ⟨#[50]⟩ 2)(hwm:WT ⟨#[45,50]⟩ (-2))(hv1:val ⟨#[49]⟩=1)(hv2:val ⟨#[50]⟩=2):
  Calls Tryz.prog 33 #[u,.string ⟨#[45,50]⟩,.string ⟨#[49]⟩] w (RetP (fun v w'=>∃a c,v=.tuple #[.slice a 1 c,.int .i64 0]∧Ivs w' (.slice a 1 c) [⟨⟨(qcv (-3)).toArray⟩,⟨(qcv (-1)).toArray⟩,1,0⟩]) w):=by
 have hok:∀x∈([⟨⟨#[49]⟩,⟨#[50]⟩,0,1⟩]:List Iv),x.ok:=fun x hx=>by
  cases List.mem_singleton.1 hx
  exact⟨.inr ⟨.inl rfl,by rw[hv1];exact hw1⟩,.inr ⟨.inr rfl,by rw[hv2];exact hw2⟩⟩
 have hset:qre (([⟨⟨#[49]⟩,⟨#[50]⟩,0,1⟩]:List Iv).map Iv.cuts):=by
  refine⟨fun i p hp=>?_,fun i p q hp hq=>?_⟩
  ·rcases i with _|i
   ·cases hp
    exact qpd.2 (.inr ⟨rfl,.inl (by show val ⟨#[49]⟩<val ⟨#[50]⟩;omega)⟩)
   ·simp at hp
  ·simp at hq
 have HP:=hI (qf8 u _ w h hok hset (by simp));have HX:=hI h;obtain⟨a,c,rfl,hc1,hc2⟩:=h.open;obtain⟨m1,hm1⟩:∃m:ByteArray,⟨(qcv (-1)).toArray⟩=m:=⟨_,rfl⟩
 obtain⟨m3,hm3⟩:∃m:ByteArray,⟨(qcv (-3)).toArray⟩=m:=⟨_,rfl⟩
 have HM1:=hI (fun(K g:Nat) (x0:Bool) (a0:Option Addr) (n0 c0:Nat) (x1:Bool) (a1:Option Addr) (n1 c1:Nat) (W:World) (hk:KG W K g x0 a0 n0 c0 x1 a1 n1 c1)=>show Calls Tryz.prog 85 #[.string ⟨#[49]⟩,.pointer (some ⟨K,0,none⟩)] W (Ret (.string m1) W)from by
  have:=qi5 K g ⟨#[49]⟩ 1 (-2) 1 (-1) x0 a0 n0 c0 x1 a1 n1 c1 W _ hk.1 hk.2.1 hk.2.2.1 hk.2.2.2 hw1 (qdg (by simp)) (by rw[qam (by decide) (by decide)];decide) (by rw[qam (by decide) (by decide)];decide) (by rw[qam (by decide) (by decide)];decide) (by rw[qam (by decide) (by decide)];decide) (by decide) (by decide) (by decide)
  rw[hm1]at this;exact this)
 have HM3:=hI (fun(K g:Nat) (x0:Bool) (a0:Option Addr) (n0 c0:Nat) (x1:Bool) (a1:Option Addr) (n1 c1:Nat) (W:World) (hk:KG W K g x0 a0 n0 c0 x1 a1 n1 c1)=>show Calls Tryz.prog 85 #[.string ⟨#[50]⟩,.pointer (some ⟨K,0,none⟩)] W (Ret (.string m3) W)from by
  have:=qi5 K g ⟨#[50]⟩ 2 (-2) 1 (-3) x0 a0 n0 c0 x1 a1 n1 c1 W _ hk.1 hk.2.1 hk.2.2.1 hk.2.2.2 hw2 (qdg (by simp)) (by rw[qam (by decide) (by decide)];decide) (by rw[qam (by decide) (by decide)];decide) (by rw[qam (by decide) (by decide)];decide) (by rw[qam (by decide) (by decide)];decide) (by decide) (by decide) (by decide)
  rw[hm3]at this;exact this)
 have HRd:=hI (fun b T W (hB:Blk W b #[.string ⟨#[45,50]⟩,.string ⟨#[49]⟩] T)=>qng b ⟨#[45,50]⟩ ⟨#[49]⟩ (-2) 1 W T hB hwm hw1);have HSg:=hI (fun v W (hv:RatV W v (-2) 0)=>show Calls Tryz.prog 84 #[v] W (Ret (.int .i64 (-1)) W)from qis v (-2) 0 W hv);have eg:=enters_of (P:=Tryz.prog) Tryz.func85 (by kernel_rfl) rfl;clear h hok hset hw1 hw2 hwm hv1 hv2 hc1 hc2;rw[hm1,hm3];clear hm1 hm3;rw[show[(⟨⟨#[49]⟩,⟨#[50]⟩,0,1⟩:Iv)].length=1 from rfl]at HP HX⊢
 go_enter Tryz.func33,Tryz.ntmps33
 go_wp2_with (first
  |(go_at_call 84;refine(HSg.out _ _ Hkg.out.2.2.1).mono ?_;rintro e w3 ⟨rfl,hb3⟩;have Hb3:=hI (qaa (qaa Hb2.out (qac w2 _)) hb3);have Hkg3:=hI (Hkg.out.mono hb3);clear hb3)
  |(go_at_call 83;refine(HRd.out _ _ _ (Blk.new w1 #[.string ⟨#[45,50]⟩,.string ⟨#[49]⟩] 23)).mono ?_;rintro e w2 ⟨v2,rfl,⟨g,x0,a0,n0,c0,x1,a1,n1,c1,rfl,hbg,hr0,hr1⟩,hb2⟩;have Hb2:=hI (qaa (qaa Hb1.out (qac w1 _)) hb2);have Hkg:=hI (show KG (w2.alloc (.cells #[.slice (some ⟨g,0,none⟩) 2 2] 109)) w2.heap.size g x0 a0 n0 c0 x1 a1 n1 c1 from⟨Blk.new w2 _ _,hbg.old _,hr0.mono (qac w2 _),hr1.mono (qac w2 _)⟩);obtain⟨k0,g0,g1,g2,g3⟩:=Hkg.out.cells;clear hbg hr0 hr1 hb2)
  |(go_at_call 56;refine(HP.out).mono ?_;rintro e w1 ⟨r1,rfl,⟨ap,cp,ps,rfl,hps,hcs⟩,hb1⟩;have hl1:ps.length=1:=(by have:=congrArg List.length hcs;simpa using this);rw[hl1];have Hb1:=hI hb1;clear hps hcs hb1 hl1))
 go_loopw [44,13] (fun idx out wr=>∃k:Nat,k≤1∧idx=.int .i64 (k:Int)∧Below w3.heap.size w3 wr∧Hid ((k=0∧out=.slice none 0 0)∨(k=1∧wr.ownsRow w3.heap.size 46 4 out 1 (([(⟨m3,m1,1,0⟩:Iv)].map Iv.row).flatten)))) (fun idx _ _=>1-(intOf idx).toNat)
 case atStart=>exact⟨0,by omega,rfl,Below.refl _ _,.inl ⟨rfl,rfl⟩⟩
 case round=>
  obtain⟨k,hk,rfl,hbw,hst⟩:=hrel;rcases hst.out with⟨hk0,rfl⟩|⟨hk1,hown⟩
  ·obtain⟨b,off,x,rfl,hx,c0,c1,c2,c3⟩:=HX.out.at (qaa Hb3.out hbw) (show k<1 by omega)
   have hxe:x=⟨⟨#[49]⟩,⟨#[50]⟩,0,1⟩:=by rw[hk0]at hx;cases hx;rfl
   subst hxe;dsimp only at c0 c1 c2 c3;have hkn:(k:Int)<1:=by omega
   have hkw:IntKind.i64.wrap ((k:Int)+1)=(k:Int)+1:=IntWalk.i64_in _ (by omega);have Hk:=hI hk0;have Hbw:=hI hbw;have Hkg4:=hI (fun W (hb:Below (wr.alloc (.cells #[.string ⟨#[49]⟩,.string ⟨#[50]⟩,.int .i64 0,.int .i64 1] 46)).heap.size (wr.alloc (.cells #[.string ⟨#[49]⟩,.string ⟨#[50]⟩,.int .i64 0,.int .i64 1] 46)) W)=>Hkg3.out.mono (qaa (qaa hbw (qac wr _)) hb));have HBX:=hI (fun W (hb:Below (wr.alloc (.cells #[.string ⟨#[49]⟩,.string ⟨#[50]⟩,.int .i64 0,.int .i64 1] 46)).heap.size (wr.alloc (.cells #[.string ⟨#[49]⟩,.string ⟨#[50]⟩,.int .i64 0,.int .i64 1] 46)) W)=>(Blk.new wr #[.string ⟨#[49]⟩,.string ⟨#[50]⟩,.int .i64 0,.int .i64 1] 46).below hb);clear hk0 hbw hx hst hk
   go_wp2_with fail
   refine qa5 (S:=(fun w'=>w'.cell? ⟨wr.heap.size,1,none⟩=some (.string ⟨#[50]⟩))) 11 (by kernel_rfl) (by kernel_rfl) (by exact(by have h:=(HBX.out _ (dn1 (wr.alloc (.cells #[.string ⟨#[49]⟩,.string ⟨#[50]⟩,.int .i64 0,.int .i64 1] 46)))).cell 1;exact h)) (fun hHeld=>?_)
   simp only[List.take_succ_cons,List.take_zero,List.drop_succ_cons,List.drop_zero];refine wpAnyH_take (i:=0) (v:=?v1) rfl (by kernel_rfl) (by kernel_rfl) (by kernel_rfl) (fun _ _ _ h=>h) (Or.inl ⟨by rfl,?hy1⟩) (by assumption) ?rest1
   case hy1=>(intro w hSw;(try dsimp only at hSw);go_simp;try(with_reducible rfl))
   try simp only[Act.put,List.getElem_toArray,List.getElem_cons_zero,List.setIfInBounds_toArray,List.set_cons_zero,List.set_cons_succ]
   refine' tk 1 ?_;(try simp only[tkS]);refine' tk 4 ?_;(try simp only[tkS]);refine' tk 5 ?_;(try simp only[tkS]);refine' tk 6 ?_;(try simp only[tkS]);refine tk1 2 (fun K hK=>?_)
   have hld:=(HBX.out _ (dn1 (wr.alloc (.cells #[.string ⟨#[49]⟩,.string ⟨#[50]⟩,.int .i64 0,.int .i64 1] 46)))).cell 0;simp only[List.getElem?_toArray,List.getElem?_cons_zero]at hld;go_simp;refine hK.out _ _ (by exact(by have h:=(HBX.out _ (dn1 (wr.alloc (.cells #[.string ⟨#[49]⟩,.string ⟨#[50]⟩,.int .i64 0,.int .i64 1] 46)))).cell 1;exact h)) (fun hHeld=>?_)
   clear hK K;(try simp only[tkS]);refine tk1 3 (fun K hK=>?_)
   go_simp;go_at_call 85;refine(HM1.out _ _ _ _ _ _ _ _ _ _ _ (Hkg4.out _ (dn1 (wr.alloc (.cells #[.string ⟨#[49]⟩,.string ⟨#[50]⟩,.int .i64 0,.int .i64 1] 46))))).mono ?_
   rintro e5 w5 ⟨rfl,hb5⟩;have Hb5:=hI (qaa (dn1 (wr.alloc (.cells #[.string ⟨#[49]⟩,.string ⟨#[50]⟩,.int .i64 0,.int .i64 1] 46))) hb5);clear hb5;refine hK.out _ _ (by exact(by have h:=(HBX.out _ (Hb5.out)).cell 1;exact h)) (fun hHeld=>?_)
   clear hK K;(try simp only[tkS]);refine' tk 8 ?_;(try simp only[tkS]);refine tk1 7 (fun K hK=>?_)
   go_simp;go_at_call 85;refine(HM3.out _ _ _ _ _ _ _ _ _ _ _ (Hkg4.out _ (Hb5.out))).mono ?_
   rintro e7 w7 ⟨rfl,hb7⟩;have Hb7:=hI (qaa (Hb5.out) hb7);clear hb7;refine hK.out _ _ (by exact(by have h:=(HBX.out _ (Hb7.out)).cell 1;exact h)) (fun hHeld=>?_)
   clear hK K;(try simp only[tkS]);refine tk1 9 (fun K hK=>?_)
   obtain⟨⟨r0,r1,r2,r3⟩,f0,f1,f2,f3⟩:=qar (HBX.out _ Hb7.out);go_simp;refine hK.out _ _ (by exact(by rw[((HBX.out _ Hb7.out).set 0 (.string m1)).cell];rfl)) (fun hHeld=>?_)
   clear hK K;(try simp only[tkS]);refine' tk 10 ?_;(try simp only[tkS]);refine tkD ?_ _
   simp only[Exit.then];have hB1:=(HBX.out _ Hb7.out).set 0 (.string m1);have q1:=hB1.cell 1;have f1':=hB1.free 1;have HB8:=hI (qrb (HBX.out _ Hb7.out) (.string m1) (.string m3));have hsz:w3.heap.size≤wr.heap.size:=Hbw.out.size;have Hb8:=hI (((Hbw.out.via (qaa (qac wr _) Hb7.out) Hbw.out.size).setCell (p:=⟨wr.heap.size,0,none⟩) hsz (.string m1)).setCell (p:=⟨wr.heap.size,1,none⟩) hsz (.string m3));have Hkg8:=hI (Hkg3.out.mono Hb8.out);obtain⟨k0',g0',g1',g2',g3'⟩:=Hkg8.out.cells;clear hB1
   go_wp2_with (first
    |(go_at_call 84;refine(HSg.out _ _ Hkg8.out.2.2.1).mono ?_;rintro e w9 ⟨rfl,hb9⟩;have hB9:=HB8.out.below hb9;obtain⟨⟨s0,s1,s2,s3⟩,t0,t1,t2,t3⟩:=qar hB9;have hB10:=qrc hB9 (.string m3) (.string m1) (.int .i64 1) (.int .i64 0);obtain⟨⟨u0,u1,u2,u3⟩,-⟩:=qar hB10;have Hb10:=hI (((((Hb8.out.via hb9 Hb8.out.size).setCell (p:=⟨wr.heap.size,0,none⟩) hsz (.string m3)).setCell (p:=⟨wr.heap.size,1,none⟩) hsz (.string m1)).setCell (p:=⟨wr.heap.size,2,none⟩) hsz (.int .i64 1)).setCell (p:=⟨wr.heap.size,3,none⟩) hsz (.int .i64 0));have HBn:=hI (show Blk (((((w9.setCell ⟨wr.heap.size,0,none⟩ (.string m3)).setCell ⟨wr.heap.size,1,none⟩ (.string m1)).setCell ⟨wr.heap.size,2,none⟩ (.int .i64 1)).setCell ⟨wr.heap.size,3,none⟩ (.int .i64 0)).alloc (.cells #[.string m3,.string m1,.int .i64 1,.int .i64 0] 46)) w9.heap.size #[.string m3,.string m1,.int .i64 1,.int .i64 0] 46 from by have h:=Blk.new ((((w9.setCell ⟨wr.heap.size,0,none⟩ (.string m3)).setCell ⟨wr.heap.size,1,none⟩ (.string m1)).setCell ⟨wr.heap.size,2,none⟩ (.int .i64 1)).setCell ⟨wr.heap.size,3,none⟩ (.int .i64 0)) #[.string m3,.string m1,.int .i64 1,.int .i64 0] 46;simpa using h);have Hb10n:=hI (Hb10.out.alloc Hb10.out.size (.cells #[.string m3,.string m1,.int .i64 1,.int .i64 0] 46));clear hB9 hB10 hb9)
    |(at_builtin;refine qkp EI (by decide) (Iv.row ⟨m3,m1,1,0⟩) rfl _ _ rfl w3.heap.size _ _ _ _ rfl rfl (World.ownsRow_nil _ w3.heap.size 46 4) HBn.out rfl (one4 ⟨m3,m1,1,0⟩) (by omega) (by decide) Hb10n.out.size ?_;intro g11 cap11 w11 hown' hg' _hor _hgl;have Hb11:=hI (Below.grown Hb10n.out hg' Hb10n.out.size (fun q hq=>by cases hq));have Hown11:=hI hown';clear hown' hg'))
   go_roundw
   case rel=>exact⟨k+1,by rw[Hk.out];exact Nat.le_refl _,by go_num,Hb11.out,.inr ⟨by rw[Hk.out],Hown11.out⟩⟩
   case measure=>simp[intOf]<;>omega
  ·obtain rfl:k=1:=hk1
   obtain⟨ao,co,rfl,-,-⟩:=qan hown;have HO:=hI (qjz hown);have Hbw:=hI hbw;have Hkg4:=hI (Hkg3.out.mono hbw);have HR:=hI (fun a c W=>qtr a c W);obtain⟨k0',g0',g1',g2',g3'⟩:=Hkg4.out.cells;clear hbw hown hst hk
   go_wp2_with (first
    |(go_at_call 84;refine(HSg.out _ _ Hkg4.out.2.2.1).mono ?_;rintro e w9 ⟨rfl,hb9⟩;have Hb9:=hI hb9;clear hb9)
    |(go_at_call 87;refine(HR.out _ _ _).mono ?_;rintro e w10 ⟨rfl,hb10⟩;have Hb10:=hI (qaa Hb9.out hb10);clear hb10))
   go_ret2
   exact⟨_,rfl,⟨ao,co,rfl,HO.out.mono Hb10.out⟩,qaa Hb3.out (Hbw.out.via Hb10.out Hbw.out.size)⟩
end Go.Proofs.YtacihodamichhaaGreatDoor
