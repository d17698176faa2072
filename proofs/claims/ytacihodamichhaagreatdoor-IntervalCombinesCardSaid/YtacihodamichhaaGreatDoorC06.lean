/- Parts of the proof. -/
import Derived.Test.YtacihodamichhaaGreatDoorC05
namespace Go.Proofs.YtacihodamichhaaGreatDoor
open Go.RowKit
set_option maxHeartbeats 4000000
theorem noU4{x x':Bool}{a a':Option Addr}{n c n' c':Nat}:NoU #[.bool x,.slice a n c,.bool x',.slice a' n' c']:=by
 intro v hv d;simp at hv;rcases hv with rfl|rfl|rfl|rfl<;>simp
theorem RatV.put{w:World}{v:Value}{p q:Int}(h:RatV w v p q){R i:Nat}{cs:Array Value}{T:TypeId}(hB:Blk w R cs T)(hcs:NoU cs)(u:Value):RatV (w.setCell ⟨R,i,none⟩ u) v p q:=by
 obtain⟨x,a,n,c,x',a',n',c',hv,h1,h2⟩:=h;exact⟨x,a,n,c,x',a',n',c',hv,h1.put hB hcs u,h2.put hB hcs u⟩
theorem RatV.put4{w:World}{p q:Int}{R n c n' c' m k m' k':Nat}{x x' y y':Bool}{a a' e e':Option Addr}{T:TypeId}(h:RatV w (.agg #[.bool x,.slice a n c,.bool x',.slice a' n' c']) p q)(hB:Blk w R #[.bool y,.slice e m k,.bool y',.slice e' m' k'] T):
  RatV ((((w.setCell ⟨R,0,none⟩ (.bool x)).setCell ⟨R,1,none⟩ (.slice a n c)).setCell ⟨R,2,none⟩ (.bool x')).setCell ⟨R,3,none⟩ (.slice a' n' c')) (.agg #[.bool x,.slice a n c,.bool x',.slice a' n' c']) p q∧
  Blk ((((w.setCell ⟨R,0,none⟩ (.bool x)).setCell ⟨R,1,none⟩ (.slice a n c)).setCell ⟨R,2,none⟩ (.bool x')).setCell ⟨R,3,none⟩ (.slice a' n' c')) R #[.bool x,.slice a n c,.bool x',.slice a' n' c'] T:=by
 have h1:=hB.set 0 (.bool x);have h2:=h1.set 1 (.slice a n c);have h3:=h2.set 2 (.bool x');have h4:=h3.set 3 (.slice a' n' c');simp at h1 h2 h3 h4;exact⟨(((h.put hB noU4 _).put h1 noU4 _).put h2 noU4 _).put h3 noU4 _,h4⟩
theorem qaw{B b:Nat}{w w1:World}(v0 v1 v2 v3:Value)(h:Below B w w1)(hB:B≤b):Below B w ((((w1.setCell ⟨b,0,none⟩ v0).setCell ⟨b,1,none⟩ v1).setCell ⟨b,2,none⟩ v2).setCell ⟨b,3,none⟩ v3):=
 (((h.setCell (p:=⟨b,0,none⟩) hB _).setCell (p:=⟨b,1,none⟩) hB _).setCell (p:=⟨b,2,none⟩) hB _).setCell (p:=⟨b,3,none⟩) hB _
theorem qat{w:World}{b:Nat}{x0 x1 x2 x3:Value}{T:TypeId}(h:Blk w b #[x0,x1,x2,x3] T):
  (w.cell? ⟨b,0,none⟩=some x0∧w.cell? ⟨b,1,none⟩=some x1∧w.cell? ⟨b,2,none⟩=some x2∧w.cell? ⟨b,3,none⟩=some x3)∧w.frozen? ⟨b,0,none⟩=false∧w.frozen? ⟨b,1,none⟩=false∧w.frozen? ⟨b,2,none⟩=false∧w.frozen? ⟨b,3,none⟩=false:=
 ⟨⟨by rw[h.cell];rfl,by rw[h.cell];rfl,by rw[h.cell];rfl,by rw[h.cell];rfl⟩,h.free 0,h.free 1,h.free 2,h.free 3⟩
theorem RatV.open{w:World}{v:Value}{p q:Int}(h:RatV w v p q):∃x a n c x' a' n' c',v=.agg #[.bool x,.slice a n c,.bool x',.slice a' n' c']∧RatV w (.agg #[.bool x,.slice a n c,.bool x',.slice a' n' c']) p q:=by
 obtain⟨x,a,n,c,x',a',n',c',rfl,h1,h2⟩:=h;exact⟨x,a,n,c,x',a',n',c',rfl,x,a,n,c,x',a',n',c',rfl,h1,h2⟩
theorem RatV.parts{w:World}{p q:Int}{n c n' c':Nat}{x x':Bool}{a a':Option Addr}(h:RatV w (.agg #[.bool x,.slice a n c,.bool x',.slice a' n' c']) p q):IntV w (.agg #[.bool x,.slice a n c]) p∧IntV w (.agg #[.bool x',.slice a' n' c']) q:=by
 obtain⟨x,a,n,c,x',a',n',c',hv,h1,h2⟩:=h;cases hv
 exact⟨h1,h2⟩
theorem RatV.whole0{w:World}{p:Int}{n c:Nat}{x:Bool}{a:Option Addr}(h:IntV w (.agg #[.bool x,.slice a n c]) p):RatV w (.agg #[.bool x,.slice a n c,.bool false,.slice none 0 0]) p 0:=⟨x,a,n,c,_,_,_,_,rfl,h,IntV.zero w⟩
theorem RatV.zero(w:World):RatV w (.agg #[.bool false,.slice none 0 0,.bool false,.slice none 0 0]) 0 0:=RatV.whole0 (IntV.zero w)
theorem qi4(n:Int)(w:World)(h1:-9223372036854775808≤n)(h2:n≤9223372036854775807):
  Calls Tryz.prog 57 #[.int .i64 n] w (RetP (fun v w'=>RatV w' v n 0) w):=by
 have H:=hI (fun w'=>qf7 n w' h1 h2);have HR:=hI (Blk.new w #[.bool false,.slice none 0 0,.bool false,.slice none 0 0] 77);clear h1 h2
 go_enter Tryz.func57,Tryz.ntmps57
 go_wp2_with (go_at_call 108;refine(H.out _).mono ?_;rintro e w1 ⟨v,rfl,hv,hb⟩;obtain⟨x5,a5,n5,c5,rfl,hv⟩:=hv.open;have hr:=HR.out.below hb;obtain⟨⟨r0,r1,r2,r3⟩,f0,f1,f2,f3⟩:=qat hr;obtain⟨hv6,hb6⟩:=RatV.put4 (RatV.whole0 hv) hr;have Hv6:=hI hv6;have Hb6:=hI hb6;have Hbel:=hI (qaw (b:=w.heap.size) (.bool x5) (.slice a5 n5 c5) (.bool false) (.slice none 0 0) ((qac w (.cells #[.bool false,.slice none 0 0,.bool false,.slice none 0 0] 77)).via hb (qac w _).size) (by omega));clear hv6 hb6;clear hv hb hr)
 obtain⟨⟨q0,q1,q2,q3⟩,-⟩:=qat Hb6.out;refine bodyPost_ret (v:=.agg #[.bool x5,.slice a5 n5 c5,.bool false,.slice none 0 0]) (by simp[results,Tryz.results57,go_sem,q0,q1,q2,q3]) rfl ⟨_,rfl,?_,Hbel.out⟩
 exact Hv6.out
theorem qi0(v:Value)(p q:Int)(w:World)(h:RatV w v p q):Calls Tryz.prog 84 #[v] w (Ret (.int .i64 p.sign) w):=by
 obtain⟨x,a,n,c,x',a',n',c',rfl,h1,-⟩:=h;have hB:=Blk.new w #[.bool x,.slice a n c,.bool x',.slice a' n' c'] 77;have H:=hI (qeh _ p _ (h1.mono (qac w (.cells #[.bool x,.slice a n c,.bool x',.slice a' n' c'] 77))));generalize p.sign=sg at*;clear h1
 go_enter Tryz.func84,Tryz.ntmps84
 go_wp2_with (go_at_call 131;refine(H.out).mono ?_;rintro e w1 ⟨rfl,hb⟩)
 go_ret
 exact⟨rfl,(qac w _).via hb (qac w _).size⟩
theorem qr0(u v:Value)(p q:Int)(w:World)(h:RatV w u p 0)(h':RatV w v q 0):Calls Tryz.prog 64 #[u,v] w (RetD (.int .i64 (cmpZ p q)) w):=by
 obtain⟨x,a,n,c,x',a',n',c',rfl,h⟩:=h.open;obtain⟨y,e,m,k,y',e',m',k',rfl,h'⟩:=h'.open;have hA:Blk ((w.alloc (.cells #[.bool x,.slice a n c,.bool x',.slice a' n' c'] 77)).alloc (.cells #[.bool y,.slice e m k,.bool y',.slice e' m' k'] 77)) w.heap.size #[.bool x,.slice a n c,.bool x',.slice a' n' c'] 77:=(Blk.new w _ _).old _
 have hB:Blk ((w.alloc (.cells #[.bool x,.slice a n c,.bool x',.slice a' n' c'] 77)).alloc (.cells #[.bool y,.slice e m k,.bool y',.slice e' m' k'] 77)) (w.heap.size+1) #[.bool y,.slice e m k,.bool y',.slice e' m' k'] 77:=by
  have h:=Blk.new (w.alloc (.cells #[.bool x,.slice a n c,.bool x',.slice a' n' c'] 77)) #[.bool y,.slice e m k,.bool y',.slice e' m' k'] 77
  simpa using h
 have HA:=hI (fun w' (hb:Below ((w.alloc (.cells #[.bool x,.slice a n c,.bool x',.slice a' n' c'] 77)).alloc (.cells #[.bool y,.slice e m k,.bool y',.slice e' m' k'] 77)).heap.size ((w.alloc (.cells #[.bool x,.slice a n c,.bool x',.slice a' n' c'] 77)).alloc (.cells #[.bool y,.slice e m k,.bool y',.slice e' m' k'] 77)) w')=>qcs hA hb);have HB:=hI (fun w' (hb:Below ((w.alloc (.cells #[.bool x,.slice a n c,.bool x',.slice a' n' c'] 77)).alloc (.cells #[.bool y,.slice e m k,.bool y',.slice e' m' k'] 77)).heap.size ((w.alloc (.cells #[.bool x,.slice a n c,.bool x',.slice a' n' c'] 77)).alloc (.cells #[.bool y,.slice e m k,.bool y',.slice e' m' k'] 77)) w')=>qcs hB hb);have H1:=hI (fun w' (hb:BD w w')=>qd5 _ p w' (h.mono hb.1));have H2:=hI (fun w' (hb:BD w w')=>qd5 _ q w' (h'.mono hb.1));have H3:=hI (fun w' (hb:BD w w')=>qg0 _ _ p q w' (h.parts.1.mono hb.1) (h'.parts.1.mono hb.1));clear h h' hA hB;generalize cmpZ p q=R at*
 go_enter Tryz.func64,Tryz.ntmps64
 go_wp2_with (first
  |(go_at_call 109;refine(H2.out _ ((bd2 w _ _).via hb1)).mono ?_;rintro e2 w2 ⟨rfl,hb2⟩;obtain⟨c0,c1,c2,c3⟩:=HA.out _ (hb1.via hb2).1;obtain⟨d0,d1,d2,d3⟩:=HB.out _ (hb1.via hb2).1)
  |(go_at_call 109;refine(H1.out _ (bd2 w _ _)).mono ?_;rintro e1 w1 ⟨rfl,hb1⟩;obtain⟨d0,d1,d2,d3⟩:=HB.out _ hb1.1)
  |(go_at_call 116;refine(H3.out _ ((bd2 w _ _).via (hb1.via hb2))).mono ?_;rintro e3 w3 ⟨rfl,hb3⟩))
 go_ret
 exact⟨rfl,(bd2 w _ _).via ((hb1.via hb2).via hb3)⟩
end Go.Proofs.YtacihodamichhaaGreatDoor
namespace Go.Proofs.YtacihodamichhaaGreatDoor
open Go.RowKit
theorem qr1(u v:Value)(p q:Int)(w:World)(h:RatV w u p 0)(h':RatV w v q 0)(hl1:(limbs p.natAbs).length<1000000)(hl2:(limbs q.natAbs).length<1000000):Calls Tryz.prog 58 #[u,v] w (RetP (fun r w'=>RatV w' r (p+q) 0) w):=by
 obtain⟨x,a,n,c,x',a',n',c',rfl,h⟩:=h.open;obtain⟨y,e,m,k,y',e',m',k',rfl,h'⟩:=h'.open;have hA:Blk (((w.alloc (.cells #[.bool x,.slice a n c,.bool x',.slice a' n' c'] 77)).alloc (.cells #[.bool y,.slice e m k,.bool y',.slice e' m' k'] 77)).alloc (.cells #[.bool false,.slice none 0 0,.bool false,.slice none 0 0] 77)) w.heap.size #[.bool x,.slice a n c,.bool x',.slice a' n' c'] 77:=((Blk.new w _ _).old _).old _
 have hB:Blk (((w.alloc (.cells #[.bool x,.slice a n c,.bool x',.slice a' n' c'] 77)).alloc (.cells #[.bool y,.slice e m k,.bool y',.slice e' m' k'] 77)).alloc (.cells #[.bool false,.slice none 0 0,.bool false,.slice none 0 0] 77)) (w.heap.size+1) #[.bool y,.slice e m k,.bool y',.slice e' m' k'] 77:=by
  have h:=(Blk.new (w.alloc (.cells #[.bool x,.slice a n c,.bool x',.slice a' n' c'] 77)) #[.bool y,.slice e m k,.bool y',.slice e' m' k'] 77).old (.cells #[.bool false,.slice none 0 0,.bool false,.slice none 0 0] 77)
  simpa using h
 have hR:Blk (((w.alloc (.cells #[.bool x,.slice a n c,.bool x',.slice a' n' c'] 77)).alloc (.cells #[.bool y,.slice e m k,.bool y',.slice e' m' k'] 77)).alloc (.cells #[.bool false,.slice none 0 0,.bool false,.slice none 0 0] 77)) (w.heap.size+1+1) #[.bool false,.slice none 0 0,.bool false,.slice none 0 0] 77:=by
  have h:=Blk.new ((w.alloc (.cells #[.bool x,.slice a n c,.bool x',.slice a' n' c'] 77)).alloc (.cells #[.bool y,.slice e m k,.bool y',.slice e' m' k'] 77)) #[.bool false,.slice none 0 0,.bool false,.slice none 0 0] 77
  simpa using h
 have HA:=hI (fun w' (hb:Below (((w.alloc (.cells #[.bool x,.slice a n c,.bool x',.slice a' n' c'] 77)).alloc (.cells #[.bool y,.slice e m k,.bool y',.slice e' m' k'] 77)).alloc (.cells #[.bool false,.slice none 0 0,.bool false,.slice none 0 0] 77)).heap.size (((w.alloc (.cells #[.bool x,.slice a n c,.bool x',.slice a' n' c'] 77)).alloc (.cells #[.bool y,.slice e m k,.bool y',.slice e' m' k'] 77)).alloc (.cells #[.bool false,.slice none 0 0,.bool false,.slice none 0 0] 77)) w')=>qcs hA hb);have HB:=hI (fun w' (hb:Below (((w.alloc (.cells #[.bool x,.slice a n c,.bool x',.slice a' n' c'] 77)).alloc (.cells #[.bool y,.slice e m k,.bool y',.slice e' m' k'] 77)).alloc (.cells #[.bool false,.slice none 0 0,.bool false,.slice none 0 0] 77)).heap.size (((w.alloc (.cells #[.bool x,.slice a n c,.bool x',.slice a' n' c'] 77)).alloc (.cells #[.bool y,.slice e m k,.bool y',.slice e' m' k'] 77)).alloc (.cells #[.bool false,.slice none 0 0,.bool false,.slice none 0 0] 77)) w')=>qcs hB hb);have HR:=hI hR;have HK:=hI (qff w (.cells #[.bool x,.slice a n c,.bool x',.slice a' n' c'] 77) (.cells #[.bool y,.slice e m k,.bool y',.slice e' m' k'] 77) (.cells #[.bool false,.slice none 0 0,.bool false,.slice none 0 0] 77));have H1:=hI (fun w' (hb:Below w.heap.size w w')=>(qd5 _ p w' (h.mono hb)).mono fun _ _ h=>h.ret);have H2:=hI (fun w' (hb:Below w.heap.size w w')=>(qd5 _ q w' (h'.mono hb)).mono fun _ _ h=>h.ret);have H3:=hI (fun w' (hb:Below w.heap.size w w')=>qtw _ _ p q w' (h.parts.1.mono hb) (h'.parts.1.mono hb) hl1 hl2);clear h h' hA hB hR hl1 hl2
 go_enter Tryz.func58,Tryz.ntmps58
 go_wp2_with (first
  |(go_at_call 109;refine(H2.out _ (HK.out.via hb1 HK.out.size)).mono ?_;rintro e2 w2 ⟨rfl,hb2⟩;obtain⟨c0,c1,c2,c3⟩:=HA.out _ (qab hb1 hb2);obtain⟨d0,d1,d2,d3⟩:=HB.out _ (qab hb1 hb2))
  |(go_at_call 109;refine(H1.out _ HK.out).mono ?_;rintro e1 w1 ⟨rfl,hb1⟩;obtain⟨d0,d1,d2,d3⟩:=HB.out _ hb1)
  |(go_at_call 110;refine(H3.out _ (HK.out.via (qab hb1 hb2) HK.out.size)).mono ?_;rintro e3 w3 ⟨v5,rfl,hv,hb3⟩;obtain⟨x5,a5,n5,c5,rfl,hv⟩:=hv.open;have hr:=HR.out.below (qab hb1 (qab hb2 hb3));obtain⟨⟨r0,r1,r2,r3⟩,f0,f1,f2,f3⟩:=qat hr;obtain⟨hv6,hb6⟩:=RatV.put4 (RatV.whole0 hv) hr;have Hv6:=hI hv6;have Hb6:=hI hb6;have Hbel:=hI (qaw (b:=w.heap.size+1+1) (.bool x5) (.slice a5 n5 c5) (.bool false) (.slice none 0 0) (HK.out.via (qab hb1 (qab hb2 hb3)) HK.out.size) (by omega));clear hv6 hb6;clear hv hr))
 obtain⟨⟨q0,q1,q2,q3⟩,-⟩:=qat Hb6.out;refine bodyPost_ret (v:=.agg #[.bool x5,.slice a5 n5 c5,.bool false,.slice none 0 0]) (by simp[results,Tryz.results58,go_sem,q0,q1,q2,q3]) rfl ⟨_,rfl,?_,Hbel.out⟩
 exact Hv6.out
theorem qt8(u v:Value)(p q:Int)(w:World)(h:RatV w u p 0)(h':RatV w v q 0)(hl1:(limbs p.natAbs).length<1000000)(hl2:(limbs q.natAbs).length<1000000):Calls Tryz.prog 86 #[u,v] w (RetP (fun r w'=>RatV w' r (p*q) 0) w):=by
 obtain⟨x,a,n,c,x',a',n',c',rfl,h⟩:=h.open;obtain⟨y,e,m,k,y',e',m',k',rfl,h'⟩:=h'.open;have hA:Blk (((w.alloc (.cells #[.bool x,.slice a n c,.bool x',.slice a' n' c'] 77)).alloc (.cells #[.bool y,.slice e m k,.bool y',.slice e' m' k'] 77)).alloc (.cells #[.bool false,.slice none 0 0,.bool false,.slice none 0 0] 77)) w.heap.size #[.bool x,.slice a n c,.bool x',.slice a' n' c'] 77:=((Blk.new w _ _).old _).old _
 have hB:Blk (((w.alloc (.cells #[.bool x,.slice a n c,.bool x',.slice a' n' c'] 77)).alloc (.cells #[.bool y,.slice e m k,.bool y',.slice e' m' k'] 77)).alloc (.cells #[.bool false,.slice none 0 0,.bool false,.slice none 0 0] 77)) (w.heap.size+1) #[.bool y,.slice e m k,.bool y',.slice e' m' k'] 77:=by
  have h:=(Blk.new (w.alloc (.cells #[.bool x,.slice a n c,.bool x',.slice a' n' c'] 77)) #[.bool y,.slice e m k,.bool y',.slice e' m' k'] 77).old (.cells #[.bool false,.slice none 0 0,.bool false,.slice none 0 0] 77)
  simpa using h
 have hR:Blk (((w.alloc (.cells #[.bool x,.slice a n c,.bool x',.slice a' n' c'] 77)).alloc (.cells #[.bool y,.slice e m k,.bool y',.slice e' m' k'] 77)).alloc (.cells #[.bool false,.slice none 0 0,.bool false,.slice none 0 0] 77)) (w.heap.size+1+1) #[.bool false,.slice none 0 0,.bool false,.slice none 0 0] 77:=by
  have h:=Blk.new ((w.alloc (.cells #[.bool x,.slice a n c,.bool x',.slice a' n' c'] 77)).alloc (.cells #[.bool y,.slice e m k,.bool y',.slice e' m' k'] 77)) #[.bool false,.slice none 0 0,.bool false,.slice none 0 0] 77
  simpa using h
 have HA:=hI (fun w' (hb:Below (((w.alloc (.cells #[.bool x,.slice a n c,.bool x',.slice a' n' c'] 77)).alloc (.cells #[.bool y,.slice e m k,.bool y',.slice e' m' k'] 77)).alloc (.cells #[.bool false,.slice none 0 0,.bool false,.slice none 0 0] 77)).heap.size (((w.alloc (.cells #[.bool x,.slice a n c,.bool x',.slice a' n' c'] 77)).alloc (.cells #[.bool y,.slice e m k,.bool y',.slice e' m' k'] 77)).alloc (.cells #[.bool false,.slice none 0 0,.bool false,.slice none 0 0] 77)) w')=>qcs hA hb);have HB:=hI (fun w' (hb:Below (((w.alloc (.cells #[.bool x,.slice a n c,.bool x',.slice a' n' c'] 77)).alloc (.cells #[.bool y,.slice e m k,.bool y',.slice e' m' k'] 77)).alloc (.cells #[.bool false,.slice none 0 0,.bool false,.slice none 0 0] 77)).heap.size (((w.alloc (.cells #[.bool x,.slice a n c,.bool x',.slice a' n' c'] 77)).alloc (.cells #[.bool y,.slice e m k,.bool y',.slice e' m' k'] 77)).alloc (.cells #[.bool false,.slice none 0 0,.bool false,.slice none 0 0] 77)) w')=>qcs hB hb);have HR:=hI hR;have HK:=hI (qff w (.cells #[.bool x,.slice a n c,.bool x',.slice a' n' c'] 77) (.cells #[.bool y,.slice e m k,.bool y',.slice e' m' k'] 77) (.cells #[.bool false,.slice none 0 0,.bool false,.slice none 0 0] 77));have H1:=hI (fun w' (hb:Below w.heap.size w w')=>(qd5 _ p w' (h.mono hb)).mono fun _ _ h=>h.ret);have H2:=hI (fun w' (hb:Below w.heap.size w w')=>(qd5 _ q w' (h'.mono hb)).mono fun _ _ h=>h.ret);have H3:=hI (fun w' (hb:Below w.heap.size w w')=>qd1 _ _ p q w' (h.parts.1.mono hb) (h'.parts.1.mono hb) hl1 hl2);clear h h' hA hB hR hl1 hl2
 go_enter Tryz.func86,Tryz.ntmps86
 go_wp2_with (first
  |(go_at_call 109;refine(H2.out _ (HK.out.via hb1 HK.out.size)).mono ?_;rintro e2 w2 ⟨rfl,hb2⟩;obtain⟨c0,c1,c2,c3⟩:=HA.out _ (qab hb1 hb2);obtain⟨d0,d1,d2,d3⟩:=HB.out _ (qab hb1 hb2))
  |(go_at_call 109;refine(H1.out _ HK.out).mono ?_;rintro e1 w1 ⟨rfl,hb1⟩;obtain⟨d0,d1,d2,d3⟩:=HB.out _ hb1)
  |(go_at_call 112;refine(H3.out _ (HK.out.via (qab hb1 hb2) HK.out.size)).mono ?_;rintro e3 w3 ⟨v5,rfl,hv,hb3⟩;obtain⟨x5,a5,n5,c5,rfl,hv⟩:=hv.open;have hr:=HR.out.below (qab hb1 (qab hb2 hb3));obtain⟨⟨r0,r1,r2,r3⟩,f0,f1,f2,f3⟩:=qat hr;obtain⟨hv6,hb6⟩:=RatV.put4 (RatV.whole0 hv) hr;have Hv6:=hI hv6;have Hb6:=hI hb6;have Hbel:=hI (qaw (b:=w.heap.size+1+1) (.bool x5) (.slice a5 n5 c5) (.bool false) (.slice none 0 0) (HK.out.via (qab hb1 (qab hb2 hb3)) HK.out.size) (by omega));clear hv6 hb6;clear hv hr))
 obtain⟨⟨q0,q1,q2,q3⟩,-⟩:=qat Hb6.out;refine bodyPost_ret (v:=.agg #[.bool x5,.slice a5 n5 c5,.bool false,.slice none 0 0]) (by simp[results,Tryz.results86,go_sem,q0,q1,q2,q3]) rfl ⟨_,rfl,?_,Hbel.out⟩
 exact Hv6.out
namespace Dr
theorem qfd(v:Value)(p:Int)(w:World)(h:RatV w v p 0):Calls Tryz.prog 113 #[v] w (RetP (fun r w'=>IntV w' r 1) w):=by
 obtain⟨x,a,n,c,x',a',n',c',rfl,h⟩:=h.open
 have hR:Blk ((w.alloc (.cells #[.bool x,.slice a n c,.bool x',.slice a' n' c'] 77)).alloc (.cells #[.bool false,.slice none 0 0] 75)) (w.heap.size+1) #[.bool false,.slice none 0 0] 75:=by
  have h:=Blk.new (w.alloc (.cells #[.bool x,.slice a n c,.bool x',.slice a' n' c'] 77)) #[.bool false,.slice none 0 0] 75
  simpa using h
 have HR:=hI hR;have HK:=hI (qa2 w (.cells #[.bool x,.slice a n c,.bool x',.slice a' n' c'] 77) (.cells #[.bool false,.slice none 0 0] 75));have H1:=hI (qeh _ 0 ((w.alloc (.cells #[.bool x,.slice a n c,.bool x',.slice a' n' c'] 77)).alloc (.cells #[.bool false,.slice none 0 0] 75)) (h.parts.2.mono HK.out.b));rw[show Int.sign 0=0 from rfl]at H1;have H2:=hI (fun w'=>qdl w');clear h hR
 go_enter Tryz.func113,Tryz.ntmps113
 go_wp2_with (first
  |(go_at_call 131;refine(H1.out).mono ?_;rintro e1 w1 ⟨rfl,hb1⟩)
  |(go_at_call 141;refine(H2.out _).mono ?_;rintro e2 w2 ⟨v5,rfl,hv,hb2⟩;obtain⟨x5,a5,k5,c5,rfl,hv⟩:=hv.open;have hr:=HR.out.below (qab hb1 hb2).b;obtain⟨⟨r0,r1⟩,f0,f1⟩:=qak hr;obtain⟨hv6,hb6⟩:=IntV.put2 hv hr;have Hv6:=hI hv6;have Hb6:=hI hb6;have Hbel:=hI (qcz (b:=w.heap.size+1) x5 a5 k5 c5 (HK.out.via (qab hb1 hb2) HK.out.size) (by omega));clear hr hv6 hb6 hv))
 obtain⟨⟨q0,q1⟩,-⟩:=qak Hb6.out;exact bodyPost_ret (v:=.agg #[.bool x5,.slice a5 k5 c5]) (by simp[results,Tryz.results113,go_sem,q0,q1]) rfl ⟨_,rfl,Hv6.out,Hbel.out⟩
end Dr
theorem qfd(v:Value)(p:Int)(w:World)(h:RatV w v p 0):Calls Tryz.prog 113 #[v] w (RetP (fun r w'=>IntV w' r 1) w):=(Dr.qfd v p w h).mono fun _ _ h=>h.n
end Go.Proofs.YtacihodamichhaaGreatDoor
namespace Go.Proofs.YtacihodamichhaaGreatDoor
open Go.RowKit
theorem qqe(u v:Value)(p q:Int)(w:World)(h:IntV w u p)(h':IntV w v q)(hq:0<q)(hs:q.natAbs<4294967296)(hl:(limbs p.natAbs).length<1000000)(hg:Nat.gcd p.natAbs q.natAbs=1):
  Calls Tryz.prog 111 #[u,v] w (RetP (fun r w'=>RatV w' r p q) w):=by
 obtain⟨x,a,n,c,rfl,h⟩:=h.open;obtain⟨y,e,m,k,rfl,h'⟩:=h'.open;have hA:Blk (((w.alloc (.cells #[.bool x,.slice a n c] 75)).alloc (.cells #[.bool y,.slice e m k] 75)).alloc (.cells #[.bool false,.slice none 0 0,.bool false,.slice none 0 0] 77)) w.heap.size #[.bool x,.slice a n c] 75:=((Blk.new w _ _).old _).old _
 have hB:Blk (((w.alloc (.cells #[.bool x,.slice a n c] 75)).alloc (.cells #[.bool y,.slice e m k] 75)).alloc (.cells #[.bool false,.slice none 0 0,.bool false,.slice none 0 0] 77)) (w.heap.size+1) #[.bool y,.slice e m k] 75:=by
  have h:=(Blk.new (w.alloc (.cells #[.bool x,.slice a n c] 75)) #[.bool y,.slice e m k] 75).old (.cells #[.bool false,.slice none 0 0,.bool false,.slice none 0 0] 77)
  simpa using h
 have hR:Blk (((w.alloc (.cells #[.bool x,.slice a n c] 75)).alloc (.cells #[.bool y,.slice e m k] 75)).alloc (.cells #[.bool false,.slice none 0 0,.bool false,.slice none 0 0] 77)) (w.heap.size+1+1) #[.bool false,.slice none 0 0,.bool false,.slice none 0 0] 77:=by
  have h:=Blk.new ((w.alloc (.cells #[.bool x,.slice a n c] 75)).alloc (.cells #[.bool y,.slice e m k] 75)) #[.bool false,.slice none 0 0,.bool false,.slice none 0 0] 77
  simpa using h
 have HS:=hI (fun w' (hb:Below (((w.alloc (.cells #[.bool x,.slice a n c] 75)).alloc (.cells #[.bool y,.slice e m k] 75)).alloc (.cells #[.bool false,.slice none 0 0,.bool false,.slice none 0 0] 77)).heap.size (((w.alloc (.cells #[.bool x,.slice a n c] 75)).alloc (.cells #[.bool y,.slice e m k] 75)).alloc (.cells #[.bool false,.slice none 0 0,.bool false,.slice none 0 0] 77)) w')=>And.intro (qak (hA.below hb)).1 (qak (hB.below hb)).1);have HR:=hI hR;have HK:=hI (qff w (.cells #[.bool x,.slice a n c] 75) (.cells #[.bool y,.slice e m k] 75) (.cells #[.bool false,.slice none 0 0,.bool false,.slice none 0 0] 77));have hsg:¬(q.sign<0):=by have:=Int.sign_eq_one_of_pos hq;omega
 have HP:=hI (fun w' (hb:Below w.heap.size w w')=>And.intro (h.mono hb) (h'.mono hb));have H1:=hI (fun w' (hb:Below w.heap.size w w')=>qeh _ q w' (h'.mono hb));have H2:=hI (fun w' (hb:Below w.heap.size w w')=>qot _ _ p q w' (h.mono hb) (h'.mono hb) hl hs);rw[hg]at H2;have H3:=hI (fun w'=>qdl w');have H4:=hI (fun w' u u' (h1:IntV w' u ((1:Nat):Int)) (h2:IntV w' u' 1)=>qbf u u' ((1:Nat):Int) 1 w' h1 h2);rw[show cmpZ ((1:Nat):Int) 1=0 from rfl]at H4;generalize q.sign=sg at*;clear h h' hA hB hR hl hg hs hq
 go_enter Tryz.func111,Tryz.ntmps111
 go_wp2_with (first
  |(go_at_call 131;refine(H1.out _ HK.out).mono ?_;rintro e1 w1 ⟨rfl,hb1⟩;obtain⟨⟨c0,c1⟩,d0,d1⟩:=HS.out _ hb1)
  |(go_at_call 145;refine(H2.out _ (HK.out.via hb1 HK.out.size)).mono ?_;rintro e2 w2 ⟨vg,rfl,hv,hb2⟩;obtain⟨xg,ag,ng,cg,rfl,hv⟩:=hv.open;have Hb12:=hI (qab hb1 hb2);clear hb1 hb2 c0 c1 d0 d1;have Hv:=hI hv;clear hv))
 have hB5:=Blk.new w2 #[.bool xg,.slice ag ng cg] 75;have HS5:=hI (fun w' (hb:Below (w2.alloc (.cells #[.bool xg,.slice ag ng cg] 75)).heap.size (w2.alloc (.cells #[.bool xg,.slice ag ng cg] 75)) w')=>(qak (hB5.below hb)).1);have HV5:=hI (fun w' (hb:Below (w2.alloc (.cells #[.bool xg,.slice ag ng cg] 75)).heap.size (w2.alloc (.cells #[.bool xg,.slice ag ng cg] 75)) w')=>Hv.out.mono ((qac w2 (.cells #[.bool xg,.slice ag ng cg] 75)).via hb (qac w2 _).size));have H15:=hI (qab Hb12.out (qac w2 (.cells #[.bool xg,.slice ag ng cg] 75)));clear hB5 Hv;refine wp_region_held_drew (S:=(fun w'=>w'.cell? ⟨w2.heap.size,0,none⟩=some (.bool xg)∧w'.cell? ⟨w2.heap.size,1,none⟩=some (.slice ag ng cg))) (by kernel_rfl) (by exact HS5.out _ ((Below.refl _ _).dn 1)) (fun hHeld=>?_)
 refine wpAnyH_take (i:=0) (v:=?v1) rfl (by kernel_rfl) (by kernel_rfl) (by kernel_rfl) (fun _ _ _ h=>h) (Or.inl ⟨by rfl,?hy1⟩) (by assumption) ?rest1
 case hy1=>(intro w hSw;(try dsimp only at hSw);go_simp;try(with_reducible rfl))
 try simp only[Act.put,List.getElem_toArray,List.getElem_cons_zero,List.setIfInBounds_toArray,List.set_cons_zero,List.set_cons_succ]
 refine tk1 1 (fun K hK=>?_)
 go_simp;go_at_call 141;refine(H3.out _).mono ?_
 rintro e5 w1 ⟨v1,rfl,hv1,hb1⟩;have Hb1:=hI (qab ((Below.refl _ _).dn 1) hb1);have Hv1:=hI hv1;clear hv1;clear hb1;refine hK.out _ _ (by exact HS5.out _ (Hb1.out)) (fun hHeld=>?_)
 clear hK K;(try simp only[tkS]);refine tk1 2 (fun K hK=>?_)
 go_simp;go_at_call 116;refine(H4.out _ _ _ (HV5.out _ (Hb1.out)) Hv1.out).mono ?_
 rintro e5 w2 ⟨rfl,hb2⟩;have Hv1:=hI (Hv1.out.mono hb2);have Hb2:=hI (qab (Hb1.out) hb2);clear hb2;refine hK.out _ _ (by exact HS5.out _ (Hb2.out)) (fun hHeld=>?_)
 clear hK K;(try simp only[tkS]);refine' tk 3 ?_;(try simp only[tkS]);refine tkD ?_ _
 have Hbf:=hI (qab H15.out Hb2.out);obtain⟨⟨c0,c1⟩,d0,d1⟩:=HS.out _ Hbf.out;have hr:=HR.out.below Hbf.out;obtain⟨⟨r0,r1,r2,r3⟩,f0,f1,f2,f3⟩:=qat hr;have hP:=HP.out _ (HK.out.via Hbf.out HK.out.size);have hrv:RatV _ (.agg #[.bool x,.slice a n c,.bool y,.slice e m k]) p q:=⟨x,a,n,c,y,e,m,k,rfl,hP.1,hP.2⟩
 obtain⟨hv6,hb6⟩:=RatV.put4 hrv hr;have Hv6:=hI hv6;have Hb6:=hI hb6;have Hbel:=hI (qaw (b:=w.heap.size+1+1) (.bool x) (.slice a n c) (.bool y) (.slice e m k) (HK.out.via Hbf.out HK.out.size) (by omega));clear hv6 hb6 hrv hP hr
 go_wp2_with fail
 obtain⟨⟨q0,q1,q2,q3⟩,-⟩:=qat Hb6.out;exact bodyPost_ret (v:=.agg #[.bool x,.slice a n c,.bool y,.slice e m k]) (by simp[results,Tryz.results111,go_sem,q0,q1,q2,q3]) rfl ⟨_,rfl,Hv6.out,Hbel.out⟩
theorem qc3{w:World}{a:Addr}{v:Value}{b:Nat}{v0 v1 v2 v3:Value}(h:w.cell? a=some v)(hne:b≠a.block):((((w.setCell ⟨b,0,none⟩ v0).setCell ⟨b,1,none⟩ v1).setCell ⟨b,2,none⟩ v2).setCell ⟨b,3,none⟩ v3).cell? a=some v:=
 qbi (qbi (qbi (qbi h hne) hne) hne) hne
theorem div1(u v:Value)(p q:Int)(w:World)(h:RatV w u p 0)(h':RatV w v q 0)(hq:0<q)(hs:q.natAbs<4294967296)(hl:(limbs p.natAbs).length<1000000)(hg:Nat.gcd p.natAbs q.natAbs=1):
  Calls Tryz.prog 60 #[u,v] w (RetP (fun r w'=>∃r0,r=.tuple #[r0,.int .i64 0]∧RatV w' r0 p q) w):=by
 have hl2:(limbs q.natAbs).length<1000000:=by rw[qan hs (by omega)];decide
 obtain⟨x,a,n,c,x',a',n',c',rfl,h⟩:=h.open;obtain⟨y,e,m,k,y',e',m',k',rfl,h'⟩:=h'.open;have hA:Blk (((w.alloc (.cells #[.bool x,.slice a n c,.bool x',.slice a' n' c'] 77)).alloc (.cells #[.bool y,.slice e m k,.bool y',.slice e' m' k'] 77)).alloc (.cells #[.bool false,.slice none 0 0,.bool false,.slice none 0 0] 77)) w.heap.size #[.bool x,.slice a n c,.bool x',.slice a' n' c'] 77:=((Blk.new w _ _).old _).old _
 have hB:Blk (((w.alloc (.cells #[.bool x,.slice a n c,.bool x',.slice a' n' c'] 77)).alloc (.cells #[.bool y,.slice e m k,.bool y',.slice e' m' k'] 77)).alloc (.cells #[.bool false,.slice none 0 0,.bool false,.slice none 0 0] 77)) (w.heap.size+1) #[.bool y,.slice e m k,.bool y',.slice e' m' k'] 77:=by
  have h:=(Blk.new (w.alloc (.cells #[.bool x,.slice a n c,.bool x',.slice a' n' c'] 77)) #[.bool y,.slice e m k,.bool y',.slice e' m' k'] 77).old (.cells #[.bool false,.slice none 0 0,.bool false,.slice none 0 0] 77)
  simpa using h
 have hR:Blk (((w.alloc (.cells #[.bool x,.slice a n c,.bool x',.slice a' n' c'] 77)).alloc (.cells #[.bool y,.slice e m k,.bool y',.slice e' m' k'] 77)).alloc (.cells #[.bool false,.slice none 0 0,.bool false,.slice none 0 0] 77)) (w.heap.size+1+1) #[.bool false,.slice none 0 0,.bool false,.slice none 0 0] 77:=by
  have h:=Blk.new ((w.alloc (.cells #[.bool x,.slice a n c,.bool x',.slice a' n' c'] 77)).alloc (.cells #[.bool y,.slice e m k,.bool y',.slice e' m' k'] 77)) #[.bool false,.slice none 0 0,.bool false,.slice none 0 0] 77
  simpa using h
 have HS:=hI (fun w' (hb:Below (((w.alloc (.cells #[.bool x,.slice a n c,.bool x',.slice a' n' c'] 77)).alloc (.cells #[.bool y,.slice e m k,.bool y',.slice e' m' k'] 77)).alloc (.cells #[.bool false,.slice none 0 0,.bool false,.slice none 0 0] 77)).heap.size (((w.alloc (.cells #[.bool x,.slice a n c,.bool x',.slice a' n' c'] 77)).alloc (.cells #[.bool y,.slice e m k,.bool y',.slice e' m' k'] 77)).alloc (.cells #[.bool false,.slice none 0 0,.bool false,.slice none 0 0] 77)) w')=>And.intro (qcs hA hb) (qcs hB hb));have HR:=hI hR;have HK:=hI (qff w (.cells #[.bool x,.slice a n c,.bool x',.slice a' n' c'] 77) (.cells #[.bool y,.slice e m k,.bool y',.slice e' m' k'] 77) (.cells #[.bool false,.slice none 0 0,.bool false,.slice none 0 0] 77));have hsg:((q.sign:Int)==0)=false:=by simp;omega
 have H1:=hI (fun w' (hb:Below w.heap.size w w')=>qi0 _ q 0 w' (h'.mono hb));have HD1:=hI (fun w' (hb:Below w.heap.size w w')=>qfd _ p w' (h.mono hb));have HD2:=hI (fun w' (hb:Below w.heap.size w w')=>qfd _ q w' (h'.mono hb));have h1l:(limbs (Int.natAbs 1)).length<1000000:=by rw[qan (by decide) (by decide)];decide
 have HM1:=hI (fun w' u (hb:Below w.heap.size w w') (hu:IntV w' u 1)=>qd1 _ u p 1 w' (h.parts.1.mono hb) hu hl h1l);have HM2:=hI (fun w' u (hb:Below w.heap.size w w') (hu:IntV w' u 1)=>qd1 u _ 1 q w' hu (h'.parts.1.mono hb) h1l hl2);have HRd:=hI (fun w' u u' (h1:IntV w' u p) (h2:IntV w' u' q)=>qqe u u' p q w' h1 h2 hq hs hl hg);rw[Int.mul_one]at HM1;rw[Int.one_mul]at HM2;generalize q.sign=sg at*;clear h h' hA hB hR hl hg hs hq hl2 h1l
 go_enter Tryz.func60,Tryz.ntmps60
 go_wp2_with (go_at_call 84;refine(H1.out _ HK.out).mono ?_;rintro e0 w0 ⟨rfl,hb0⟩;have Hb0:=hI hb0;clear hb0)
 refine wp_region_held_drew (S:=(fun w'=>w'.cell? ⟨w.heap.size,0,none⟩=some (.bool x)∧w'.cell? ⟨w.heap.size,1,none⟩=some (.slice a n c)∧w'.cell? ⟨w.heap.size,2,none⟩=some (.bool x')∧w'.cell? ⟨w.heap.size,3,none⟩=some (.slice a' n' c')∧w'.cell? ⟨w.heap.size+1,0,none⟩=some (.bool y)∧w'.cell? ⟨w.heap.size+1,1,none⟩=some (.slice e m k)∧w'.cell? ⟨w.heap.size+1,2,none⟩=some (.bool y')∧w'.cell? ⟨w.heap.size+1,3,none⟩=some (.slice e' m' k'))) (by kernel_rfl) (by exact(fun h=>⟨h.1.1,h.1.2.1,h.1.2.2.1,h.1.2.2.2,h.2⟩) (HS.out _ (qab Hb0.out ((Below.refl _ _).dn 1)))) (fun hHeld=>?_)
 refine wpAnyH_take (i:=0) (v:=?v3) rfl (by kernel_rfl) (by kernel_rfl) (by kernel_rfl) (fun _ _ _ h=>h) (Or.inl ⟨by rfl,?hy3⟩) (by assumption) ?rest3
 case hy3=>(intro w hSw;(try dsimp only at hSw);go_simp;try(with_reducible rfl))
 try simp only[Act.put,List.getElem_toArray,List.getElem_cons_zero,List.setIfInBounds_toArray,List.set_cons_zero,List.set_cons_succ]
 refine' tk 1 ?_;(try simp only[tkS]);refine' tk 2 ?_;(try simp only[tkS]);refine' tk 5 ?_;(try simp only[tkS]);refine' tk 7 ?_;(try simp only[tkS]);refine' tk 8 ?_;(try simp only[tkS]);refine tk1 3 (fun K hK=>?_)
 go_simp;go_at_call 113;refine(HD2.out _ (HK.out.via (qab Hb0.out ((Below.refl _ _).dn 1)) HK.out.size)).mono ?_
 rintro e5 w3 ⟨v3,rfl,hv3,hb3⟩;have Hb3:=hI (qab ((Below.refl _ _).dn 1) hb3);have Hv3:=hI hv3;clear hv3;clear hb3;refine hK.out _ _ (by exact(fun h=>⟨h.1.1,h.1.2.1,h.1.2.2.1,h.1.2.2.2,h.2⟩) (HS.out _ (qab Hb0.out (Hb3.out)))) (fun hHeld=>?_)
 clear hK K;(try simp only[tkS]);refine tk1 4 (fun K hK=>?_)
 go_simp;go_at_call 112;refine(HM1.out _ _ (HK.out.via (qab Hb0.out (Hb3.out)) HK.out.size) Hv3.out).mono ?_
 rintro e5 w4 ⟨v4,rfl,hv4,hb4⟩;have Hv3:=hI (Hv3.out.mono hb4);have Hb4:=hI (qab (Hb3.out) hb4);have Hv4:=hI hv4;clear hv4;clear hb4;refine hK.out _ _ (by exact(fun h=>⟨h.1.1,h.1.2.1,h.1.2.2.1,h.1.2.2.2,h.2⟩) (HS.out _ (qab Hb0.out (Hb4.out)))) (fun hHeld=>?_)
 clear hK K;(try simp only[tkS]);refine tk1 6 (fun K hK=>?_)
 go_simp;go_at_call 113;refine(HD1.out _ (HK.out.via (qab Hb0.out (Hb4.out)) HK.out.size)).mono ?_
 rintro e5 w6 ⟨v6,rfl,hv6,hb6⟩;have Hv3:=hI (Hv3.out.mono hb6);have Hv4:=hI (Hv4.out.mono hb6);have Hb6:=hI (qab (Hb4.out) hb6);have Hv6:=hI hv6;clear hv6;clear hb6;refine hK.out _ _ (by exact(fun h=>⟨h.1.1,h.1.2.1,h.1.2.2.1,h.1.2.2.2,h.2⟩) (HS.out _ (qab Hb0.out (Hb6.out)))) (fun hHeld=>?_)
 clear hK K;(try simp only[tkS]);refine tk1 9 (fun K hK=>?_)
 go_simp;go_at_call 112;refine(HM2.out _ _ (HK.out.via (qab Hb0.out (Hb6.out)) HK.out.size) Hv6.out).mono ?_
 rintro e5 w9 ⟨v9,rfl,hv9,hb9⟩;have Hv3:=hI (Hv3.out.mono hb9);have Hv4:=hI (Hv4.out.mono hb9);have Hv6:=hI (Hv6.out.mono hb9);have Hb9:=hI (qab (Hb6.out) hb9);have Hv9:=hI hv9;clear hv9;clear hb9;refine hK.out _ _ (by exact(fun h=>⟨h.1.1,h.1.2.1,h.1.2.2.1,h.1.2.2.2,h.2⟩) (HS.out _ (qab Hb0.out (Hb9.out)))) (fun hHeld=>?_)
 clear hK K;(try simp only[tkS]);refine tk1 10 (fun K hK=>?_)
 go_simp;go_at_call 111;refine(HRd.out _ _ _ Hv4.out Hv9.out).mono ?_
 rintro e5 w10 ⟨v10,rfl,hv10,hb10⟩;have Hv3:=hI (Hv3.out.mono hb10);have Hv4:=hI (Hv4.out.mono hb10);have Hv6:=hI (Hv6.out.mono hb10);have Hv9:=hI (Hv9.out.mono hb10);have Hb10:=hI (qab (Hb9.out) hb10);obtain⟨x5,a5,n5,c5,x6,a6,n6,c6,rfl,hv10⟩:=hv10.open;have Hv10:=hI hv10;clear hv10;clear hb10;refine hK.out _ _ (by exact(fun h=>⟨h.1.1,h.1.2.1,h.1.2.2.1,h.1.2.2.2,h.2⟩) (HS.out _ (qab Hb0.out (Hb10.out)))) (fun hHeld=>?_)
 clear hK K;(try simp only[tkS]);refine tk1 11 (fun K hK=>?_)
 have Hbf:=hI (qab Hb0.out Hb10.out);have hS9:=HS.out _ Hbf.out;have hv:=Hv10.out;have hr:=HR.out.below Hbf.out;have h4:=qat hr;have r0:=h4.1.1;have r1:=h4.1.2.1;have r2:=h4.1.2.2.1;have r3:=h4.1.2.2.2;have f0:=h4.2.1;have f1:=h4.2.2.1;have f2:=h4.2.2.2.1;have f3:=h4.2.2.2.2;have h6:=RatV.put4 hv hr;have Hv66:=hI h6.1;have Hb66:=hI h6.2;have Hbel:=hI (qaw (b:=w.heap.size+1+1) (.bool x5) (.slice a5 n5 c5) (.bool x6) (.slice a6 n6 c6) (HK.out.via Hbf.out HK.out.size) (by omega));have HS9:=hI hS9;clear h6 h4 hv hr hS9;go_simp;refine hK.out _ _ (by exact⟨qc3 HS9.out.1.1 (show w.heap.size+1+1≠w.heap.size by omega),qc3 HS9.out.1.2.1 (show w.heap.size+1+1≠w.heap.size by omega),qc3 HS9.out.1.2.2.1 (show w.heap.size+1+1≠w.heap.size by omega),qc3 HS9.out.1.2.2.2 (show w.heap.size+1+1≠w.heap.size by omega),qc3 HS9.out.2.1 (show w.heap.size+1+1≠w.heap.size+1 by omega),qc3 HS9.out.2.2.1 (show w.heap.size+1+1≠w.heap.size+1 by omega),qc3 HS9.out.2.2.2.1 (show w.heap.size+1+1≠w.heap.size+1 by omega),qc3 HS9.out.2.2.2.2 (show w.heap.size+1+1≠w.heap.size+1 by omega)⟩) (fun hHeld=>?_)
 clear hK K;(try simp only[tkS]);refine' tk 12 ?_;(try simp only[tkS]);refine tkD ?_ _
 go_wp2_with fail
 obtain⟨⟨q0,q1,q2,q3⟩,-⟩:=qat Hb66.out;exact bodyPost_ret (v:=.tuple #[.agg #[.bool x5,.slice a5 n5 c5,.bool x6,.slice a6 n6 c6],.int .i64 0]) (by simp[results,Tryz.results60,go_sem,q0,q1,q2,q3]) rfl ⟨_,rfl,⟨_,rfl,Hv66.out⟩,Hbel.out⟩
end Go.Proofs.YtacihodamichhaaGreatDoor
