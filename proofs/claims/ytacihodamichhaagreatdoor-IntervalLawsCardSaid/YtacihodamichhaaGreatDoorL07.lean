/- Parts of the proof. -/
import Derived.Deep.LoopGhost
import Derived.Test.YtacihodamichhaaGreatDoorL06
namespace Go.Proofs.YtacihodamichhaaGreatDoor
open Go.RowKit
set_option maxHeartbeats 4000000
theorem Ls.one{w:World}{b d:Nat}{T:TypeId}(h:Blk w b #[.int .u32 (d:Int)] T):Ls w (.slice (some ⟨b,0,none⟩) 1 1) [d]:=by
 refine⟨_,_,rfl,by simp[u32s],by unfold maxLen;omega,.inr ⟨b,0,rfl,h.lt,fun i j hi hj=>?_⟩⟩
 rw[h.cell];simp only[u32s,List.map_cons,List.map_nil,List.length_cons,List.length_nil]at hi;obtain rfl:j=0:=by omega
 obtain rfl:i=0:=by omega
 rfl
theorem qam{y:Nat}(h:y<4294967296)(h0:y≠0):(limbs y).length=1:=by
 rw[qbo h0,show y/4294967296=0 by omega,qag];rfl
def Few(N:Nat):Prop:=(limbs N).length<1000000
theorem qhh(a b:Option Addr)(n m c c':Nat)(x y:Nat)(w:World)(hA:Ls w (.slice a n c) (limbs x))(hB:Ls w (.slice b m c') (limbs y))(hle:y≤x)(h1:(limbs y).length=1)(hn:(limbs x).length<1000000):
  Calls Tryz.prog 173 #[.slice a n c,.slice b m c'] w (fun e w'=>∃q r,e=.returned (.tuple #[q,r])∧MagV w' q (x/y)∧MagV w' r (x%y)∧Below w.heap.size w w'):=by
 have H:=hI (qes _ _ _ _ _ _ _ _ w hA hB);have hc:=qgm hle;obtain⟨hl1,hy32⟩:=qn7 h1
 have hy0:0<y:=by
  rcases Nat.eq_zero_or_pos y with h|h
  ·subst h;rw[qag]at h1;simp at h1
  ·exact h
 generalize cmpN x y=R at*;have hc2:¬R<0:=by omega
 clear hc hle h1;obtain⟨r,hr⟩:∃r,x%y=r:=⟨_,rfl⟩
 obtain⟨q,hq⟩:∃q,x/y=q:=⟨_,rfl⟩
 have hrlt:r<4294967296:=by have:=Nat.mod_lt x hy0;omega
 have HS:=hI (fun w1 (hb1:Below w.heap.size w w1)=>qiq a n c (limbs x) y w1 (hA.mono hb1) (qal x) hn hy32 hy0);rw[qah,hr,hq]at HS;rw[hr,hq];have HT:=hI (fun w2:World=>qcp (some ⟨w2.heap.size,0,none⟩) 1 1 [r] (w2.alloc (.cells #[.int .u32 (r:Int)] 62)) (Ls.one (Blk.new _ _ _)) (Dg.one hrlt));have hnr:natL [r]=r:=by simp[natL]
 rw[hnr]at HT;obtain⟨_,_,hv,_,_⟩:=hA.open;cases hv
 rw[hl1]at hB;obtain⟨_,_,hv,_,_⟩:=hB.open;cases hv
 have HB:=hI hB;clear hA hB hl1 hy32 hrlt hnr hr hq;simp only[List.length_cons,List.length_nil,Nat.zero_add]at H HB⊢
 go_enter Tryz.func173,Tryz.ntmps173
 go_wp2_with (first
  |(go_at_call 143;refine(H.out).mono ?_;rintro e w1 ⟨rfl,hb1⟩;obtain⟨bb,off,d,rfl,hd,c0⟩:=HB.out.at hb1 (show 0<1 by decide);cases hd;rw[Nat.add_zero]at c0)
  |(go_at_call 147;refine(HS.out _ hb1).mono ?_;rintro e w2 ⟨v,rfl,hv,hb2⟩)
  |(go_at_call 172;refine(HT.out _).mono ?_;rintro e w3 ⟨rfl,hl3,hb3⟩))
 have hb23:=((Below.refl w2.heap.size w2).alloc (Nat.le_refl _) _).via hb3 (by simp)
 go_ret2
 exact⟨_,_,rfl,hv.mono hb23,⟨_,_,rfl,hl3.mono hb3⟩,(hb1.via hb2 hb1.size).via hb23 (Nat.le_trans hb1.size hb2.size)⟩
theorem qkd(a b:Option Addr)(n m c c':Nat)(x y:Nat)(w:World)(hA:Ls w (.slice a n c) (limbs x))(hB:Ls w (.slice b m c') (limbs y))(h0:y≠0)(h1:y<4294967296)(hn:(limbs x).length<1000000):
  Calls Tryz.prog 173 #[.slice a n c,.slice b m c'] w (fun e w'=>∃q r,e=.returned (.tuple #[q,r])∧MagV w' q (x/y)∧MagV w' r (x%y)∧Below w.heap.size w w'):=by
 rcases Nat.lt_or_ge x y with h|h
 ·exact qfi a b n m c c' x y w hA hB h
 ·exact qhh a b n m c c' x y w hA hB h (qam h1 h0) hn
theorem qof(u v:Value)(y z:Int)(w:World)(h:IntV w u y)(h':IntV w v z)(hl1:(limbs y.natAbs).length<1000000)(hz:z.natAbs<4294967296):
  Calls Tryz.prog 145 #[u,v] w (RetP (fun r w'=>IntV w' r (Nat.gcd y.natAbs z.natAbs:Nat)) w):=by
 obtain⟨a,c,rfl,hl⟩:=h;obtain⟨a',c',rfl,hl'⟩:=h';generalize decide (y<0)=s1;generalize decide (z<0)=s2;have hK:=qe6 w (.cells #[.bool s1,.slice a (limbs y.natAbs).length c] 75) (.cells #[.bool s2,.slice a' (limbs z.natAbs).length c'] 75) (.cells #[.bool false,.slice none 0 0] 75)
 have hR:Blk (((w.alloc (.cells #[.bool s1,.slice a (limbs y.natAbs).length c] 75)).alloc (.cells #[.bool s2,.slice a' (limbs z.natAbs).length c'] 75)).alloc (.cells #[.bool false,.slice none 0 0] 75)) (w.heap.size+1+1) #[.bool false,.slice none 0 0] 75:=by
  have h:=Blk.new ((w.alloc (.cells #[.bool s1,.slice a (limbs y.natAbs).length c] 75)).alloc (.cells #[.bool s2,.slice a' (limbs z.natAbs).length c'] 75)) #[.bool false,.slice none 0 0] 75
  simpa using h
 have HK:=hI hK;have HR:=hI hR;generalize y.natAbs=Y at*;generalize z.natAbs=Z at*;have HX:=hI (show MagV w (.slice a (limbs Y).length c) Y∧MagV w (.slice a' (limbs Z).length c') Z from⟨⟨_,_,rfl,hl⟩,⟨_,_,rfl,hl'⟩⟩);have Hl1:=hI (show Few Y from hl1);clear hl hl' hK hR hl1;generalize(limbs Y).length=k0 at*;generalize(limbs Z).length=k1 at*
 go_enter Tryz.func145,Tryz.ntmps145
 go_wp2_with fail
 go_quiet (fail)
 go_wp2_with fail
 go_loopg [5,6] Z (fun k u v wr=>∃X,MagV wr u X∧MagV wr v k∧k<4294967296∧Few X∧Below (((w.alloc (.cells #[.bool s1,.slice a k0 c] 75)).alloc (.cells #[.bool s2,.slice a' k1 c'] 75)).alloc (.cells #[.bool false,.slice none 0 0] 75)).heap.size (((w.alloc (.cells #[.bool s1,.slice a k0 c] 75)).alloc (.cells #[.bool s2,.slice a' k1 c'] 75)).alloc (.cells #[.bool false,.slice none 0 0] 75)) wr∧Hid (Nat.gcd X k=Nat.gcd Y Z))
 case atStart=>exact⟨Y,HX.out.1.mono ((HK.out).dn _),HX.out.2.mono ((HK.out).dn _),hz,Hl1.out,(Below.refl _ _).dn _,rfl⟩
 case round=>
  obtain⟨X,hX,hY,hk,hlx,hb,hg⟩:=hrel;have hr:=HR.out.below hb;obtain⟨⟨r0,r1⟩,f0,f1⟩:=qak hr;obtain⟨ax,cx,rfl,hX⟩:=hX;obtain⟨ay,cy,rfl,hY⟩:=hY;have Hb:=hI hb;have Hr:=hI hr;clear hb hr;rcases Nat.eq_zero_or_pos gk with rfl|hpos
  ·have h0:(limbs 0).length=0:=by rw[qag];rfl
   rw[h0];have he:Nat.gcd Y Z=X:=by rw[←hg.out,Nat.gcd_zero_right]
   have He:=hI he;have HXl:=hI hX;have hiv:IntV wr (.agg #[.bool false,.slice ax (limbs X).length cx]) (X:Int):=⟨ax,cx,by simp,hX⟩
   obtain⟨hv2,hb2⟩:=IntV.put2 hiv Hr.out;have Hv2:=hI hv2;have Hb2:=hI hb2;have hbel:=(((HK.out.via Hb.out HK.out.size).setCell (p:=⟨w.heap.size+1+1,0,none⟩) (by show w.heap.size≤w.heap.size+1+1;omega) (.bool false)).setCell (p:=⟨w.heap.size+1+1,1,none⟩) (by show w.heap.size≤w.heap.size+1+1;omega) (.slice ax (limbs X).length cx))
   have Hbel:=hI hbel;clear hv2 hb2 hbel hiv hX hY he hg h0 hlx;generalize(limbs X).length=kx at*
   go_wp2_with fail
   obtain⟨⟨q0,q1⟩,-⟩:=qak Hb2.out;refine bodyPost_ret (v:=.agg #[.bool false,.slice ax kx cx]) (by simp[results,Tryz.results145,go_sem,q0,q1]) rfl ⟨_,rfl,?_,Hbel.out⟩
   rw[He.out];exact Hv2.out
  ·have HD:=hI (qkd _ _ _ _ _ _ _ _ wr hX hY (by omega) hk hlx)
   have hlen:0<(limbs gk).length:=by
    rcases Nat.eq_zero_or_pos (limbs gk).length with h|h
    ·rw[qdn]at h;omega
    ·exact h
   have HY:=hI (show MagV wr (.slice ay (limbs gk).length cy) gk from⟨_,_,rfl,hY⟩);have hlk:(limbs gk).length<1000000:=by rw[qam hk (by omega)];decide
   have Hlk:=hI (show Few gk from hlk);clear hX hY hlk;generalize(limbs gk).length=ky at*;have hlen2:(0:Int)<(ky:Int):=by omega
   go_wp2_with (go_at_call 173;refine(HD.out).mono ?_;rintro e w2 ⟨q,r,rfl,hq,hr2,hb2⟩)
   go_roundg (X%gk)
   case measure=>exact Nat.mod_lt _ hpos
   case rel=>
    exact⟨gk,HY.out.mono hb2,hr2,Nat.lt_trans (Nat.mod_lt _ hpos) hk,Hlk.out,Hb.out.via hb2 Hb.out.size,by unfold Hid;rw[←hg.out,Nat.gcd_comm X gk,Nat.gcd_rec gk X,Nat.gcd_comm]⟩
end Go.Proofs.YtacihodamichhaaGreatDoor
namespace Go.Proofs.YtacihodamichhaaGreatDoor
open Go.RowKit
def natS(l:List UInt8):Nat:=l.foldl (fun n c=>n*10+(c.toNat-48)) 0
def valS:List UInt8→Int
 |[]=>0
 |c::r=>if c=45 then -(natS r:Int)else natS (c::r)
def val(s:ByteArray):Int:=valS s.data.toList
structure Cut where
 b:Int
 s:ByteArray
 d:Int
def or3(x y z:Int):Int:=if x≠0 then x else if y≠0 then y else z
def cmpC(x y:Cut):Int:=or3 (cmpZ x.b y.b) (cmpZ (val x.s) (val y.s)) (cmpZ x.d y.d)
theorem qfd{a b:Int}:cmpZ a b<0↔a<b:=by
 unfold cmpZ;split
 ·simp[*]
 ·split<;>simp<;>omega
theorem qb7{a b:Int}:cmpZ a b=0↔a=b:=by
 unfold cmpZ;split
 ·simp;omega
 ·split<;>simp<;>omega
theorem qic(a b:Int):cmpZ b a=-cmpZ a b:=by
 unfold cmpZ;split<;>split<;>first|rfl|omega|(split<;>first|rfl|omega)
def CLt(x y:Cut):Prop:=x.b<y.b∨(x.b=y.b∧(val x.s<val y.s∨(val x.s=val y.s∧x.d<y.d)))
instance (x y:Cut):Decidable (CLt x y):=by unfold CLt;infer_instance
theorem qpd{x y:Cut}:cmpC x y<0↔CLt x y:=by
 have a:=@qfd x.b y.b;have a':=@qb7 x.b y.b;have b:=@qfd (val x.s) (val y.s);have b':=@qb7 (val x.s) (val y.s);have c:=@qfd x.d y.d;unfold cmpC or3 CLt
 split
 ·omega
 ·split<;>omega
theorem qpc(x:Cut):cmpC x x=0:=by
 have a:=(@qb7 x.b x.b).2 rfl;have b:=(@qb7 (val x.s) (val x.s)).2 rfl;have c:=(@qb7 x.d x.d).2 rfl;unfold cmpC or3;rw[a,b,c];rfl
end Go.Proofs.YtacihodamichhaaGreatDoor
namespace Go.Proofs.YtacihodamichhaaGreatDoor
open Go.RowKit
def RatV(w:World)(v:Value)(p q:Int):Prop:=∃x a n c x' a' n' c',v=.agg #[.bool x,.slice a n c,.bool x',.slice a' n' c']∧IntV w (.agg #[.bool x,.slice a n c]) p∧IntV w (.agg #[.bool x',.slice a' n' c']) q
theorem RatV.mono{w w':World}{v:Value}{p q:Int}(h:RatV w v p q)(hb:Below w.heap.size w w'):RatV w' v p q:=by
 obtain⟨x,a,n,c,x',a',n',c',hv,h1,h2⟩:=h;exact⟨x,a,n,c,x',a',n',c',hv,h1.mono hb,h2.mono hb⟩
theorem IntV.zero(w:World):IntV w (.agg #[.bool false,.slice none 0 0]) 0:=by
 have h0:limbs (Int.natAbs 0)=[]:=qag;exact⟨none,0,by rw[h0];rfl,by rw[h0];exact Ls.nil w⟩
theorem qcq{B b:Nat}{w w1:World}(x:Bool)(a:Option Addr)(k c:Nat)(h:Below B w w1)(hB:B≤b):Below B w ((w1.setCell ⟨b,0,none⟩ (.bool x)).setCell ⟨b,1,none⟩ (.slice a k c)):=
 (h.setCell (p:=⟨b,0,none⟩) hB _).setCell (p:=⟨b,1,none⟩) hB _
theorem qaa{a b c:World}(h:Below a.heap.size a b)(k:Below b.heap.size b c):Below a.heap.size a c:=h.via k h.size
theorem qcm{w w':World}{b:Nat}{x0 x1 x2 x3:Value}{T:TypeId}(h:Blk w b #[x0,x1,x2,x3] T)(hb:Below w.heap.size w w'):
  w'.cell? ⟨b,0,none⟩=some x0∧w'.cell? ⟨b,1,none⟩=some x1∧w'.cell? ⟨b,2,none⟩=some x2∧w'.cell? ⟨b,3,none⟩=some x3:=by
 have h':=h.below hb;exact⟨by rw[h'.cell];rfl,by rw[h'.cell];rfl,by rw[h'.cell];rfl,by rw[h'.cell];rfl⟩
theorem qab{W W':World}{p:Addr}{v:Value}(hb:Below W.heap.size W W')(h:W.cell? p=some v):W'.cell? p=some v:=by
 rcases p with⟨b,o,x⟩
 have hlt:b<W.heap.size:=World.block_lt_of_cell? W _ h;have:=hb.block b hlt;unfold World.cell? at*;simp only[this];exact h
namespace Dr
theorem qdf(w:World):Calls Tryz.prog 141 #[] w (RetP (fun v w'=>IntV w' v 1) w):=by
 have H:=hI (fun w'=>qfu 1 w' (by decide) (by decide));have hR:=Blk.new w #[.bool false,.slice none 0 0] 75;have HR:=hI hR;clear hR
 go_enter Tryz.func141,Tryz.ntmps141
 go_wp2_with (go_at_call 108;refine(H.out _).mono ?_;rintro e w1 ⟨v,rfl,hv,hb⟩;obtain⟨x,a,k,c,rfl,hv⟩:=hv.open;have hr:=HR.out.below hb.b;obtain⟨⟨r0,r1⟩,f0,f1⟩:=qak hr;obtain⟨hv6,hb6⟩:=IntV.put2 hv hr;have Hv6:=hI hv6;have Hb6:=hI hb6;have Hbel:=hI (qcq x a k c ((qac w (.cells #[.bool false,.slice none 0 0] 75)).via hb (qac w _).size) (Nat.le_refl w.heap.size));clear hr hv6 hb6 hb hv)
 obtain⟨⟨q0,q1⟩,-⟩:=qak Hb6.out;exact bodyPost_ret (v:=.agg #[.bool x,.slice a k c]) (by simp[results,Tryz.results141,go_sem,q0,q1]) rfl ⟨_,rfl,Hv6.out,Hbel.out⟩
end Dr
theorem qdf(w:World):Calls Tryz.prog 141 #[] w (RetP (fun v w'=>IntV w' v 1) w):=(Dr.qdf w).mono fun _ _ h=>h.n
theorem qd1(v:Value)(p:Int)(w:World)(h:RatV w v p 0):Calls Tryz.prog 109 #[v] w (RetD (.bool true) w):=by
 obtain⟨x,a,n,c,x',a',n',c',rfl,h1,h2⟩:=h;have hB:=Blk.new w #[.bool x,.slice a n c,.bool x',.slice a' n' c'] 77;have HS:=hI (fun w' (hb:Below (w.alloc (.cells #[.bool x,.slice a n c,.bool x',.slice a' n' c'] 77)).heap.size (w.alloc (.cells #[.bool x,.slice a n c,.bool x',.slice a' n' c'] 77)) w')=>qcm hB hb);have HV:=hI (fun w' (hb:Below (w.alloc (.cells #[.bool x,.slice a n c,.bool x',.slice a' n' c'] 77)).heap.size (w.alloc (.cells #[.bool x,.slice a n c,.bool x',.slice a' n' c'] 77)) w')=>h2.mono ((qac w _).via hb (qac w _).size));have H1:=hI (fun w' (hb:BD (w.alloc (.cells #[.bool x,.slice a n c,.bool x',.slice a' n' c'] 77)) w')=>qm4 _ 0 w' (HV.out _ hb.1));rw[show Int.sign 0=0 from rfl]at H1;clear h1 h2 hB
 go_enter Tryz.func109,Tryz.ntmps109
 go_wp2_with fail
 refine wp_region_held_drew (S:=(fun w'=>w'.cell? ⟨w.heap.size,0,none⟩=some (.bool x)∧w'.cell? ⟨w.heap.size,1,none⟩=some (.slice a n c)∧w'.cell? ⟨w.heap.size,2,none⟩=some (.bool x')∧w'.cell? ⟨w.heap.size,3,none⟩=some (.slice a' n' c'))) (by kernel_rfl) (by exact HS.out _ ((BD.refl _).dn 1).1) (fun hHeld=>?_)
 refine wpAnyH_take (i:=0) (v:=?v1) rfl (by kernel_rfl) (by kernel_rfl) (by kernel_rfl) (fun _ _ _ h=>h) (Or.inl ⟨by rfl,?hy1⟩) (by assumption) ?rest1
 case hy1=>(intro w hSw;(try dsimp only at hSw);go_simp;try(with_reducible rfl))
 try simp only[Act.put,List.getElem_toArray,List.getElem_cons_zero,List.setIfInBounds_toArray,List.set_cons_zero,List.set_cons_succ]
 refine' tk 1 ?_;(try simp only[tkS]);refine tk1 2 (fun K hK=>?_)
 go_simp;go_at_call 131;refine(H1.out _ ((BD.refl _).dn 1)).mono ?_
 rintro e5 w2 ⟨rfl,hb2⟩;have Hb2:=hI (((BD.refl _).dn 1).via hb2);clear hb2;refine hK.out _ _ (by exact HS.out _ (Hb2.out).1) (fun hHeld=>?_)
 clear hK K;(try simp only[tkS]);refine' tk 3 ?_;(try simp only[tkS]);refine' tk 4 ?_;(try simp only[tkS]);refine' tkU 5 ?_;(try simp only[tkS]);refine' tkU 6 ?_;(try simp only[tkS]);refine' tkU 7 ?_;(try simp only[tkS]);refine' tkU 8 ?_;(try simp only[tkS]);refine' tkU 9 ?_;(try simp only[tkS]);refine' tk 10 ?_;(try simp only[tkS]);refine' tk 11 ?_;(try simp only[tkS]);refine tkD ?_ _
 go_wp2_with fail
 go_ret
 exact⟨rfl,(bd1 w _).via Hb2.out⟩
namespace Dr
theorem qhl(v:Value)(p q:Int)(w:World)(h:RatV w v p q)(h0:q≠0):Calls Tryz.prog 109 #[v] w (Ret (.bool (decide (q=1))) w):=by
 obtain⟨x,a,n,c,x',a',n',c',rfl,h1,h2⟩:=h;have hB:=Blk.new w #[.bool x,.slice a n c,.bool x',.slice a' n' c'] 77;have HS:=hI (fun w' (hb:Below (w.alloc (.cells #[.bool x,.slice a n c,.bool x',.slice a' n' c'] 77)).heap.size (w.alloc (.cells #[.bool x,.slice a n c,.bool x',.slice a' n' c'] 77)) w')=>qcm hB hb.b);have HV:=hI (fun w' (hb:Below (w.alloc (.cells #[.bool x,.slice a n c,.bool x',.slice a' n' c'] 77)).heap.size (w.alloc (.cells #[.bool x,.slice a n c,.bool x',.slice a' n' c'] 77)) w')=>h2.mono ((qac w _).via hb (qac w _).size).b);have hsg:((q.sign:Int)==0)=false:=by simpa using h0
 have H1:=hI (fun w' (hb:Below (w.alloc (.cells #[.bool x,.slice a n c,.bool x',.slice a' n' c'] 77)).heap.size (w.alloc (.cells #[.bool x,.slice a n c,.bool x',.slice a' n' c'] 77)) w')=>qec _ q w' (HV.out _ hb));have H2:=hI (fun w'=>qdf w');have H3:=hI (fun w' u (hb:Below (w.alloc (.cells #[.bool x,.slice a n c,.bool x',.slice a' n' c'] 77)).heap.size (w.alloc (.cells #[.bool x,.slice a n c,.bool x',.slice a' n' c'] 77)) w') (hu:IntV w' u 1)=>qbb _ _ q 1 w' (HV.out _ hb) hu)
 have hc:(cmpZ q 1==0)=decide (q=1):=by
  have:=@qb7 q 1;rw[Bool.eq_iff_iff];simp[this]
 rw[←hc];generalize q.sign=sg at*;generalize cmpZ q 1=cz at*;clear h1 h2 hB hc h0
 go_enter Tryz.func109,Tryz.ntmps109
 go_wp2_with fail
 refine wp_region_held_drew (S:=(fun w'=>w'.cell? ⟨w.heap.size,0,none⟩=some (.bool x)∧w'.cell? ⟨w.heap.size,1,none⟩=some (.slice a n c)∧w'.cell? ⟨w.heap.size,2,none⟩=some (.bool x')∧w'.cell? ⟨w.heap.size,3,none⟩=some (.slice a' n' c'))) (by kernel_rfl) (by exact HS.out _ ((Below.refl _ _).dn 1)) (fun hHeld=>?_)
 refine wpAnyH_take (i:=0) (v:=?v12) rfl (by kernel_rfl) (by kernel_rfl) (by kernel_rfl) (fun _ _ _ h=>h) (Or.inl ⟨by rfl,?hy12⟩) (by assumption) ?rest12
 case hy12=>(intro w hSw;(try dsimp only at hSw);go_simp;try(with_reducible rfl))
 try simp only[Act.put,List.getElem_toArray,List.getElem_cons_zero,List.setIfInBounds_toArray,List.set_cons_zero,List.set_cons_succ]
 refine' tk 1 ?_;(try simp only[tkS]);refine tk1 2 (fun K hK=>?_)
 go_simp;go_at_call 131;refine(H1.out _ ((Below.refl _ _).dn 1)).mono ?_
 rintro e5 w2 ⟨rfl,hb2⟩;have Hb2:=hI (qaa ((Below.refl _ _).dn 1) hb2);clear hb2;refine hK.out _ _ (by exact HS.out _ (Hb2.out)) (fun hHeld=>?_)
 clear hK K;(try simp only[tkS]);refine' tk 3 ?_;(try simp only[tkS]);refine' tk 4 ?_;(try simp only[tkS]);refine' tk 5 ?_;(try simp only[tkS]);refine' tk 6 ?_;(try simp only[tkS]);refine tk1 7 (fun K hK=>?_)
 go_simp;go_at_call 141;refine(H2.out _).mono ?_
 rintro e5 w7 ⟨v7,rfl,hv7,hb7⟩;have Hb7:=hI (qaa (Hb2.out) hb7);have Hv7:=hI hv7;clear hv7;clear hb7;refine hK.out _ _ (by exact HS.out _ (Hb7.out)) (fun hHeld=>?_)
 clear hK K;(try simp only[tkS]);refine tk1 8 (fun K hK=>?_)
 go_simp;go_at_call 116;refine(H3.out _ _ (Hb7.out) Hv7.out).mono ?_
 rintro e5 w8 ⟨rfl,hb8⟩;have Hv7:=hI (Hv7.out.mono hb8.b);have Hb8:=hI (qaa (Hb7.out) hb8);clear hb8;refine hK.out _ _ (by exact HS.out _ (Hb8.out)) (fun hHeld=>?_)
 clear hK K;(try simp only[tkS]);refine' tk 9 ?_;(try simp only[tkS]);refine' tk 10 ?_;(try simp only[tkS]);refine' tk 11 ?_;(try simp only[tkS]);refine tkD ?_ _
 go_wp2_with fail
 go_ret
 exact⟨rfl,(qac w _).via Hb8.out (qac w _).size⟩
end Dr
theorem qhl(v:Value)(p q:Int)(w:World)(h:RatV w v p q)(h0:q≠0):Calls Tryz.prog 109 #[v] w (Ret (.bool (decide (q=1))) w):=(Dr.qhl v p q w h h0).mono fun _ _ h=>h.n
end Go.Proofs.YtacihodamichhaaGreatDoor
namespace Go.Proofs.YtacihodamichhaaGreatDoor
open Go.RowKit
theorem noU4{x x':Bool}{a a':Option Addr}{n c n' c':Nat}:NoU #[.bool x,.slice a n c,.bool x',.slice a' n' c']:=by
 intro v hv d;simp at hv;rcases hv with rfl|rfl|rfl|rfl<;>simp
theorem RatV.put{w:World}{v:Value}{p q:Int}(h:RatV w v p q){R i:Nat}{cs:Array Value}{T:TypeId}(hB:Blk w R cs T)(hcs:NoU cs)(u:Value):RatV (w.setCell ⟨R,i,none⟩ u) v p q:=by
 obtain⟨x,a,n,c,x',a',n',c',hv,h1,h2⟩:=h;exact⟨x,a,n,c,x',a',n',c',hv,h1.put hB hcs u,h2.put hB hcs u⟩
theorem RatV.put4{w:World}{p q:Int}{R n c n' c' m k m' k':Nat}{x x' y y':Bool}{a a' e e':Option Addr}{T:TypeId}(h:RatV w (.agg #[.bool x,.slice a n c,.bool x',.slice a' n' c']) p q)(hB:Blk w R #[.bool y,.slice e m k,.bool y',.slice e' m' k'] T):
  RatV ((((w.setCell ⟨R,0,none⟩ (.bool x)).setCell ⟨R,1,none⟩ (.slice a n c)).setCell ⟨R,2,none⟩ (.bool x')).setCell ⟨R,3,none⟩ (.slice a' n' c')) (.agg #[.bool x,.slice a n c,.bool x',.slice a' n' c']) p q∧
  Blk ((((w.setCell ⟨R,0,none⟩ (.bool x)).setCell ⟨R,1,none⟩ (.slice a n c)).setCell ⟨R,2,none⟩ (.bool x')).setCell ⟨R,3,none⟩ (.slice a' n' c')) R #[.bool x,.slice a n c,.bool x',.slice a' n' c'] T:=by
 have h1:=hB.set 0 (.bool x);have h2:=h1.set 1 (.slice a n c);have h3:=h2.set 2 (.bool x');have h4:=h3.set 3 (.slice a' n' c');simp at h1 h2 h3 h4;exact⟨(((h.put hB noU4 _).put h1 noU4 _).put h2 noU4 _).put h3 noU4 _,h4⟩
theorem qav{B b:Nat}{w w1:World}(v0 v1 v2 v3:Value)(h:Below B w w1)(hB:B≤b):Below B w ((((w1.setCell ⟨b,0,none⟩ v0).setCell ⟨b,1,none⟩ v1).setCell ⟨b,2,none⟩ v2).setCell ⟨b,3,none⟩ v3):=
 (((h.setCell (p:=⟨b,0,none⟩) hB _).setCell (p:=⟨b,1,none⟩) hB _).setCell (p:=⟨b,2,none⟩) hB _).setCell (p:=⟨b,3,none⟩) hB _
theorem qar{w:World}{b:Nat}{x0 x1 x2 x3:Value}{T:TypeId}(h:Blk w b #[x0,x1,x2,x3] T):
  (w.cell? ⟨b,0,none⟩=some x0∧w.cell? ⟨b,1,none⟩=some x1∧w.cell? ⟨b,2,none⟩=some x2∧w.cell? ⟨b,3,none⟩=some x3)∧w.frozen? ⟨b,0,none⟩=false∧w.frozen? ⟨b,1,none⟩=false∧w.frozen? ⟨b,2,none⟩=false∧w.frozen? ⟨b,3,none⟩=false:=
 ⟨⟨by rw[h.cell];rfl,by rw[h.cell];rfl,by rw[h.cell];rfl,by rw[h.cell];rfl⟩,h.free 0,h.free 1,h.free 2,h.free 3⟩
theorem RatV.open{w:World}{v:Value}{p q:Int}(h:RatV w v p q):∃x a n c x' a' n' c',v=.agg #[.bool x,.slice a n c,.bool x',.slice a' n' c']∧RatV w (.agg #[.bool x,.slice a n c,.bool x',.slice a' n' c']) p q:=by
 obtain⟨x,a,n,c,x',a',n',c',rfl,h1,h2⟩:=h;exact⟨x,a,n,c,x',a',n',c',rfl,x,a,n,c,x',a',n',c',rfl,h1,h2⟩
theorem RatV.parts{w:World}{p q:Int}{n c n' c':Nat}{x x':Bool}{a a':Option Addr}(h:RatV w (.agg #[.bool x,.slice a n c,.bool x',.slice a' n' c']) p q):IntV w (.agg #[.bool x,.slice a n c]) p∧IntV w (.agg #[.bool x',.slice a' n' c']) q:=by
 obtain⟨x,a,n,c,x',a',n',c',hv,h1,h2⟩:=h;cases hv
 exact⟨h1,h2⟩
theorem RatV.whole0{w:World}{p:Int}{n c:Nat}{x:Bool}{a:Option Addr}(h:IntV w (.agg #[.bool x,.slice a n c]) p):RatV w (.agg #[.bool x,.slice a n c,.bool false,.slice none 0 0]) p 0:=⟨x,a,n,c,_,_,_,_,rfl,h,IntV.zero w⟩
theorem RatV.zero(w:World):RatV w (.agg #[.bool false,.slice none 0 0,.bool false,.slice none 0 0]) 0 0:=RatV.whole0 (IntV.zero w)
theorem qiu(n:Int)(w:World)(h1:-9223372036854775808≤n)(h2:n≤9223372036854775807):
  Calls Tryz.prog 57 #[.int .i64 n] w (RetP (fun v w'=>RatV w' v n 0) w):=by
 have H:=hI (fun w'=>qfu n w' h1 h2);have HR:=hI (Blk.new w #[.bool false,.slice none 0 0,.bool false,.slice none 0 0] 77);clear h1 h2
 go_enter Tryz.func57,Tryz.ntmps57
 go_wp2_with (go_at_call 108;refine(H.out _).mono ?_;rintro e w1 ⟨v,rfl,hv,hb⟩;obtain⟨x5,a5,n5,c5,rfl,hv⟩:=hv.open;have hr:=HR.out.below hb;obtain⟨⟨r0,r1,r2,r3⟩,f0,f1,f2,f3⟩:=qar hr;obtain⟨hv6,hb6⟩:=RatV.put4 (RatV.whole0 hv) hr;have Hv6:=hI hv6;have Hb6:=hI hb6;have Hbel:=hI (qav (b:=w.heap.size) (.bool x5) (.slice a5 n5 c5) (.bool false) (.slice none 0 0) ((qac w (.cells #[.bool false,.slice none 0 0,.bool false,.slice none 0 0] 77)).via hb (qac w _).size) (by omega));clear hv6 hb6;clear hv hb hr)
 obtain⟨⟨q0,q1,q2,q3⟩,-⟩:=qar Hb6.out;refine bodyPost_ret (v:=.agg #[.bool x5,.slice a5 n5 c5,.bool false,.slice none 0 0]) (by simp[results,Tryz.results57,go_sem,q0,q1,q2,q3]) rfl ⟨_,rfl,?_,Hbel.out⟩
 exact Hv6.out
theorem qis(v:Value)(p q:Int)(w:World)(h:RatV w v p q):Calls Tryz.prog 84 #[v] w (Ret (.int .i64 p.sign) w):=by
 obtain⟨x,a,n,c,x',a',n',c',rfl,h1,-⟩:=h;have hB:=Blk.new w #[.bool x,.slice a n c,.bool x',.slice a' n' c'] 77;have H:=hI (qec _ p _ (h1.mono (qac w (.cells #[.bool x,.slice a n c,.bool x',.slice a' n' c'] 77))));generalize p.sign=sg at*;clear h1
 go_enter Tryz.func84,Tryz.ntmps84
 go_wp2_with (go_at_call 131;refine(H.out).mono ?_;rintro e w1 ⟨rfl,hb⟩)
 go_ret
 exact⟨rfl,(qac w _).via hb (qac w _).size⟩
theorem qrh(u v:Value)(p q:Int)(w:World)(h:RatV w u p 0)(h':RatV w v q 0):Calls Tryz.prog 64 #[u,v] w (RetD (.int .i64 (cmpZ p q)) w):=by
 obtain⟨x,a,n,c,x',a',n',c',rfl,h⟩:=h.open;obtain⟨y,e,m,k,y',e',m',k',rfl,h'⟩:=h'.open;have hA:Blk ((w.alloc (.cells #[.bool x,.slice a n c,.bool x',.slice a' n' c'] 77)).alloc (.cells #[.bool y,.slice e m k,.bool y',.slice e' m' k'] 77)) w.heap.size #[.bool x,.slice a n c,.bool x',.slice a' n' c'] 77:=(Blk.new w _ _).old _
 have hB:Blk ((w.alloc (.cells #[.bool x,.slice a n c,.bool x',.slice a' n' c'] 77)).alloc (.cells #[.bool y,.slice e m k,.bool y',.slice e' m' k'] 77)) (w.heap.size+1) #[.bool y,.slice e m k,.bool y',.slice e' m' k'] 77:=by
  have h:=Blk.new (w.alloc (.cells #[.bool x,.slice a n c,.bool x',.slice a' n' c'] 77)) #[.bool y,.slice e m k,.bool y',.slice e' m' k'] 77
  simpa using h
 have HA:=hI (fun w' (hb:Below ((w.alloc (.cells #[.bool x,.slice a n c,.bool x',.slice a' n' c'] 77)).alloc (.cells #[.bool y,.slice e m k,.bool y',.slice e' m' k'] 77)).heap.size ((w.alloc (.cells #[.bool x,.slice a n c,.bool x',.slice a' n' c'] 77)).alloc (.cells #[.bool y,.slice e m k,.bool y',.slice e' m' k'] 77)) w')=>qcm hA hb);have HB:=hI (fun w' (hb:Below ((w.alloc (.cells #[.bool x,.slice a n c,.bool x',.slice a' n' c'] 77)).alloc (.cells #[.bool y,.slice e m k,.bool y',.slice e' m' k'] 77)).heap.size ((w.alloc (.cells #[.bool x,.slice a n c,.bool x',.slice a' n' c'] 77)).alloc (.cells #[.bool y,.slice e m k,.bool y',.slice e' m' k'] 77)) w')=>qcm hB hb);have H1:=hI (fun w' (hb:BD w w')=>qd1 _ p w' (h.mono hb.1));have H2:=hI (fun w' (hb:BD w w')=>qd1 _ q w' (h'.mono hb.1));have H3:=hI (fun w' (hb:BD w w')=>qgl _ _ p q w' (h.parts.1.mono hb.1) (h'.parts.1.mono hb.1));clear h h' hA hB;generalize cmpZ p q=R at*
 go_enter Tryz.func64,Tryz.ntmps64
 go_wp2_with (first
  |(go_at_call 109;refine(H2.out _ ((bd2 w _ _).via hb1)).mono ?_;rintro e2 w2 ⟨rfl,hb2⟩;obtain⟨c0,c1,c2,c3⟩:=HA.out _ (hb1.via hb2).1;obtain⟨d0,d1,d2,d3⟩:=HB.out _ (hb1.via hb2).1)
  |(go_at_call 109;refine(H1.out _ (bd2 w _ _)).mono ?_;rintro e1 w1 ⟨rfl,hb1⟩;obtain⟨d0,d1,d2,d3⟩:=HB.out _ hb1.1)
  |(go_at_call 116;refine(H3.out _ ((bd2 w _ _).via (hb1.via hb2))).mono ?_;rintro e3 w3 ⟨rfl,hb3⟩))
 go_ret
 exact⟨rfl,(bd2 w _ _).via ((hb1.via hb2).via hb3)⟩
end Go.Proofs.YtacihodamichhaaGreatDoor
