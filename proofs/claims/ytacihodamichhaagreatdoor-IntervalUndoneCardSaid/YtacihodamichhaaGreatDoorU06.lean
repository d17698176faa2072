/- Parts of the proof. -/
import Derived.Test.YtacihodamichhaaGreatDoorUShelf
import Derived.Shelf.Strings.SlTrimAscii
import Derived.Laws.RangeString
import Derived.Test.YtacihodamichhaaGreatDoorU05
set_option maxHeartbeats 4000000
namespace Go.Proofs.YtacihodamichhaaGreatDoor
open Go.RowKit
theorem noU4{x x':Bool}{a a':Option Addr}{n c n' c':Nat}:NoU #[.bool x,.slice a n c,.bool x',.slice a' n' c']:=by
 intro v hv d;simp at hv;rcases hv with rfl|rfl|rfl|rfl<;>simp
theorem RatV.put{w:World}{v:Value}{p q:Int}(h:RatV w v p q){R i:Nat}{cs:Array Value}{T:TypeId}(hB:Blk w R cs T)(hcs:NoU cs)(u:Value):RatV (w.setCell ⟨R,i,none⟩ u) v p q:=by
 obtain⟨x,a,n,c,x',a',n',c',hv,h1,h2⟩:=h;exact⟨x,a,n,c,x',a',n',c',hv,h1.put hB hcs u,h2.put hB hcs u⟩
theorem RatV.put4{w:World}{p q:Int}{R n c n' c' m k m' k':Nat}{x x' y y':Bool}{a a' e e':Option Addr}{T:TypeId}(h:RatV w (.agg #[.bool x,.slice a n c,.bool x',.slice a' n' c']) p q)(hB:Blk w R #[.bool y,.slice e m k,.bool y',.slice e' m' k'] T):
  RatV ((((w.setCell ⟨R,0,none⟩ (.bool x)).setCell ⟨R,1,none⟩ (.slice a n c)).setCell ⟨R,2,none⟩ (.bool x')).setCell ⟨R,3,none⟩ (.slice a' n' c')) (.agg #[.bool x,.slice a n c,.bool x',.slice a' n' c']) p q∧
  Blk ((((w.setCell ⟨R,0,none⟩ (.bool x)).setCell ⟨R,1,none⟩ (.slice a n c)).setCell ⟨R,2,none⟩ (.bool x')).setCell ⟨R,3,none⟩ (.slice a' n' c')) R #[.bool x,.slice a n c,.bool x',.slice a' n' c'] T:=by
 have h1:=hB.set 0 (.bool x);have h2:=h1.set 1 (.slice a n c);have h3:=h2.set 2 (.bool x');have h4:=h3.set 3 (.slice a' n' c');simp at h1 h2 h3 h4;exact⟨(((h.put hB noU4 _).put h1 noU4 _).put h2 noU4 _).put h3 noU4 _,h4⟩
theorem qap{B b:Nat}{w w1:World}(v0 v1 v2 v3:Value)(h:Below B w w1)(hB:B≤b):Below B w ((((w1.setCell ⟨b,0,none⟩ v0).setCell ⟨b,1,none⟩ v1).setCell ⟨b,2,none⟩ v2).setCell ⟨b,3,none⟩ v3):=
 (((h.setCell (p:=⟨b,0,none⟩) hB _).setCell (p:=⟨b,1,none⟩) hB _).setCell (p:=⟨b,2,none⟩) hB _).setCell (p:=⟨b,3,none⟩) hB _
theorem qam{w:World}{b:Nat}{x0 x1 x2 x3:Value}{T:TypeId}(h:Blk w b #[x0,x1,x2,x3] T):
  (w.cell? ⟨b,0,none⟩=some x0∧w.cell? ⟨b,1,none⟩=some x1∧w.cell? ⟨b,2,none⟩=some x2∧w.cell? ⟨b,3,none⟩=some x3)∧w.frozen? ⟨b,0,none⟩=false∧w.frozen? ⟨b,1,none⟩=false∧w.frozen? ⟨b,2,none⟩=false∧w.frozen? ⟨b,3,none⟩=false:=
 ⟨⟨by rw[h.cell];rfl,by rw[h.cell];rfl,by rw[h.cell];rfl,by rw[h.cell];rfl⟩,h.free 0,h.free 1,h.free 2,h.free 3⟩
theorem RatV.open{w:World}{v:Value}{p q:Int}(h:RatV w v p q):∃x a n c x' a' n' c',v=.agg #[.bool x,.slice a n c,.bool x',.slice a' n' c']∧RatV w (.agg #[.bool x,.slice a n c,.bool x',.slice a' n' c']) p q:=by
 obtain⟨x,a,n,c,x',a',n',c',rfl,h1,h2⟩:=h;exact⟨x,a,n,c,x',a',n',c',rfl,x,a,n,c,x',a',n',c',rfl,h1,h2⟩
theorem RatV.parts{w:World}{p q:Int}{n c n' c':Nat}{x x':Bool}{a a':Option Addr}(h:RatV w (.agg #[.bool x,.slice a n c,.bool x',.slice a' n' c']) p q):IntV w (.agg #[.bool x,.slice a n c]) p∧IntV w (.agg #[.bool x',.slice a' n' c']) q:=by
 obtain⟨x,a,n,c,x',a',n',c',hv,h1,h2⟩:=h;cases hv
 exact⟨h1,h2⟩
theorem RatV.whole0{w:World}{p:Int}{n c:Nat}{x:Bool}{a:Option Addr}(h:IntV w (.agg #[.bool x,.slice a n c]) p):RatV w (.agg #[.bool x,.slice a n c,.bool false,.slice none 0 0]) p 0:=⟨x,a,n,c,_,_,_,_,rfl,h,IntV.zero w⟩
theorem RatV.zero(w:World):RatV w (.agg #[.bool false,.slice none 0 0,.bool false,.slice none 0 0]) 0 0:=RatV.whole0 (IntV.zero w)
theorem qj8(n:Int)(w:World)(h1:-9223372036854775808≤n)(h2:n≤9223372036854775807):
  Calls Tryz.prog 57 #[.int .i64 n] w (RetP (fun v w'=>RatV w' v n 0) w):=by
 have H:=hI (fun w'=>qg5 n w' h1 h2);have HR:=hI (Blk.new w #[.bool false,.slice none 0 0,.bool false,.slice none 0 0] 77);clear h1 h2
 go_enter Tryz.func57,Tryz.ntmps57
 go_wp2_with (go_at_call 108;refine(H.out _).mono ?_;rintro e w1 ⟨v,rfl,hv,hb⟩;obtain⟨x5,a5,n5,c5,rfl,hv⟩:=hv.open;have hr:=HR.out.below hb;obtain⟨⟨r0,r1,r2,r3⟩,f0,f1,f2,f3⟩:=qam hr;obtain⟨hv6,hb6⟩:=RatV.put4 (RatV.whole0 hv) hr;have Hv6:=hI hv6;have Hb6:=hI hb6;have Hbel:=hI (qap (b:=w.heap.size) (.bool x5) (.slice a5 n5 c5) (.bool false) (.slice none 0 0) ((qac w (.cells #[.bool false,.slice none 0 0,.bool false,.slice none 0 0] 77)).via hb (qac w _).size) (by omega));clear hv6 hb6;clear hv hb hr)
 obtain⟨⟨q0,q1,q2,q3⟩,-⟩:=qam Hb6.out;refine bodyPost_ret (v:=.agg #[.bool x5,.slice a5 n5 c5,.bool false,.slice none 0 0]) (by simp[results,Tryz.results57,go_sem,q0,q1,q2,q3]) rfl ⟨_,rfl,?_,Hbel.out⟩
 exact Hv6.out
theorem qhd(v:Value)(p q:Int)(w:World)(h:RatV w v p q):Calls Tryz.prog 84 #[v] w (Ret (.int .i64 p.sign) w):=by
 obtain⟨x,a,n,c,x',a',n',c',rfl,h1,-⟩:=h;have hB:=Blk.new w #[.bool x,.slice a n c,.bool x',.slice a' n' c'] 77;have H:=hI (qdo _ p _ (h1.mono (qac w (.cells #[.bool x,.slice a n c,.bool x',.slice a' n' c'] 77))));generalize p.sign=sg at*;clear h1
 go_enter Tryz.func84,Tryz.ntmps84
 go_wp2_with (go_at_call 131;refine(H.out).mono ?_;rintro e w1 ⟨rfl,hb⟩)
 go_ret
 exact⟨rfl,(qac w _).via hb (qac w _).size⟩
end Go.Proofs.YtacihodamichhaaGreatDoor
namespace Go.Proofs.YtacihodamichhaaGreatDoor
open Go.RowKit
theorem qye(u v:Value)(p q:Int)(w:World)(h:RatV w u p 0)(h':RatV w v q 0)(hl1:(limbs p.natAbs).length<1000000)(hl2:(limbs q.natAbs).length<1000000):Calls Tryz.prog 58 #[u,v] w (RetP (fun r w'=>RatV w' r (p+q) 0) w):=by
 obtain⟨x,a,n,c,x',a',n',c',rfl,h⟩:=h.open;obtain⟨y,e,m,k,y',e',m',k',rfl,h'⟩:=h'.open;have hA:Blk (((w.alloc (.cells #[.bool x,.slice a n c,.bool x',.slice a' n' c'] 77)).alloc (.cells #[.bool y,.slice e m k,.bool y',.slice e' m' k'] 77)).alloc (.cells #[.bool false,.slice none 0 0,.bool false,.slice none 0 0] 77)) w.heap.size #[.bool x,.slice a n c,.bool x',.slice a' n' c'] 77:=((Blk.new w _ _).old _).old _
 have hB:Blk (((w.alloc (.cells #[.bool x,.slice a n c,.bool x',.slice a' n' c'] 77)).alloc (.cells #[.bool y,.slice e m k,.bool y',.slice e' m' k'] 77)).alloc (.cells #[.bool false,.slice none 0 0,.bool false,.slice none 0 0] 77)) (w.heap.size+1) #[.bool y,.slice e m k,.bool y',.slice e' m' k'] 77:=by
  have h:=(Blk.new (w.alloc (.cells #[.bool x,.slice a n c,.bool x',.slice a' n' c'] 77)) #[.bool y,.slice e m k,.bool y',.slice e' m' k'] 77).old (.cells #[.bool false,.slice none 0 0,.bool false,.slice none 0 0] 77)
  simpa using h
 have hR:Blk (((w.alloc (.cells #[.bool x,.slice a n c,.bool x',.slice a' n' c'] 77)).alloc (.cells #[.bool y,.slice e m k,.bool y',.slice e' m' k'] 77)).alloc (.cells #[.bool false,.slice none 0 0,.bool false,.slice none 0 0] 77)) (w.heap.size+1+1) #[.bool false,.slice none 0 0,.bool false,.slice none 0 0] 77:=by
  have h:=Blk.new ((w.alloc (.cells #[.bool x,.slice a n c,.bool x',.slice a' n' c'] 77)).alloc (.cells #[.bool y,.slice e m k,.bool y',.slice e' m' k'] 77)) #[.bool false,.slice none 0 0,.bool false,.slice none 0 0] 77
  simpa using h
 have HA:=hI (fun w' (hb:Below (((w.alloc (.cells #[.bool x,.slice a n c,.bool x',.slice a' n' c'] 77)).alloc (.cells #[.bool y,.slice e m k,.bool y',.slice e' m' k'] 77)).alloc (.cells #[.bool false,.slice none 0 0,.bool false,.slice none 0 0] 77)).heap.size (((w.alloc (.cells #[.bool x,.slice a n c,.bool x',.slice a' n' c'] 77)).alloc (.cells #[.bool y,.slice e m k,.bool y',.slice e' m' k'] 77)).alloc (.cells #[.bool false,.slice none 0 0,.bool false,.slice none 0 0] 77)) w')=>qeq hA hb);have HB:=hI (fun w' (hb:Below (((w.alloc (.cells #[.bool x,.slice a n c,.bool x',.slice a' n' c'] 77)).alloc (.cells #[.bool y,.slice e m k,.bool y',.slice e' m' k'] 77)).alloc (.cells #[.bool false,.slice none 0 0,.bool false,.slice none 0 0] 77)).heap.size (((w.alloc (.cells #[.bool x,.slice a n c,.bool x',.slice a' n' c'] 77)).alloc (.cells #[.bool y,.slice e m k,.bool y',.slice e' m' k'] 77)).alloc (.cells #[.bool false,.slice none 0 0,.bool false,.slice none 0 0] 77)) w')=>qeq hB hb);have HR:=hI hR;have HK:=hI (qes w (.cells #[.bool x,.slice a n c,.bool x',.slice a' n' c'] 77) (.cells #[.bool y,.slice e m k,.bool y',.slice e' m' k'] 77) (.cells #[.bool false,.slice none 0 0,.bool false,.slice none 0 0] 77));have H1:=hI (fun w' (hb:Below w.heap.size w w')=>(qk7 _ p w' (h.mono hb)).mono fun _ _ h=>h.ret);have H2:=hI (fun w' (hb:Below w.heap.size w w')=>(qk7 _ q w' (h'.mono hb)).mono fun _ _ h=>h.ret);have H3:=hI (fun w' (hb:Below w.heap.size w w')=>qjy _ _ p q w' (h.parts.1.mono hb) (h'.parts.1.mono hb) hl1 hl2);clear h h' hA hB hR hl1 hl2
 go_enter Tryz.func58,Tryz.ntmps58
 go_wp2_with (first
  |(go_at_call 109;refine(H2.out _ (HK.out.via hb1 HK.out.size)).mono ?_;rintro e2 w2 ⟨rfl,hb2⟩;obtain⟨c0,c1,c2,c3⟩:=HA.out _ (qaa hb1 hb2);obtain⟨d0,d1,d2,d3⟩:=HB.out _ (qaa hb1 hb2))
  |(go_at_call 109;refine(H1.out _ HK.out).mono ?_;rintro e1 w1 ⟨rfl,hb1⟩;obtain⟨d0,d1,d2,d3⟩:=HB.out _ hb1)
  |(go_at_call 110;refine(H3.out _ (HK.out.via (qaa hb1 hb2) HK.out.size)).mono ?_;rintro e3 w3 ⟨v5,rfl,hv,hb3⟩;obtain⟨x5,a5,n5,c5,rfl,hv⟩:=hv.open;have hr:=HR.out.below (qaa hb1 (qaa hb2 hb3));obtain⟨⟨r0,r1,r2,r3⟩,f0,f1,f2,f3⟩:=qam hr;obtain⟨hv6,hb6⟩:=RatV.put4 (RatV.whole0 hv) hr;have Hv6:=hI hv6;have Hb6:=hI hb6;have Hbel:=hI (qap (b:=w.heap.size+1+1) (.bool x5) (.slice a5 n5 c5) (.bool false) (.slice none 0 0) (HK.out.via (qaa hb1 (qaa hb2 hb3)) HK.out.size) (by omega));clear hv6 hb6;clear hv hr))
 obtain⟨⟨q0,q1,q2,q3⟩,-⟩:=qam Hb6.out;refine bodyPost_ret (v:=.agg #[.bool x5,.slice a5 n5 c5,.bool false,.slice none 0 0]) (by simp[results,Tryz.results58,go_sem,q0,q1,q2,q3]) rfl ⟨_,rfl,?_,Hbel.out⟩
 exact Hv6.out
namespace Dr
theorem qjt(v:Value)(p:Int)(w:World)(h:RatV w v p 0):Calls Tryz.prog 113 #[v] w (RetP (fun r w'=>IntV w' r 1) w):=by
 obtain⟨x,a,n,c,x',a',n',c',rfl,h⟩:=h.open
 have hR:Blk ((w.alloc (.cells #[.bool x,.slice a n c,.bool x',.slice a' n' c'] 77)).alloc (.cells #[.bool false,.slice none 0 0] 75)) (w.heap.size+1) #[.bool false,.slice none 0 0] 75:=by
  have h:=Blk.new (w.alloc (.cells #[.bool x,.slice a n c,.bool x',.slice a' n' c'] 77)) #[.bool false,.slice none 0 0] 75
  simpa using h
 have HR:=hI hR;have HK:=hI (qaz w (.cells #[.bool x,.slice a n c,.bool x',.slice a' n' c'] 77) (.cells #[.bool false,.slice none 0 0] 75));have H1:=hI (qdo _ 0 ((w.alloc (.cells #[.bool x,.slice a n c,.bool x',.slice a' n' c'] 77)).alloc (.cells #[.bool false,.slice none 0 0] 75)) (h.parts.2.mono HK.out.b));rw[show Int.sign 0=0 from rfl]at H1;have H2:=hI (fun w'=>qdt w');clear h hR
 go_enter Tryz.func113,Tryz.ntmps113
 go_wp2_with (first
  |(go_at_call 131;refine(H1.out).mono ?_;rintro e1 w1 ⟨rfl,hb1⟩)
  |(go_at_call 141;refine(H2.out _).mono ?_;rintro e2 w2 ⟨v5,rfl,hv,hb2⟩;obtain⟨x5,a5,k5,c5,rfl,hv⟩:=hv.open;have hr:=HR.out.below (qaa hb1 hb2).b;obtain⟨⟨r0,r1⟩,f0,f1⟩:=qag hr;obtain⟨hv6,hb6⟩:=IntV.put2 hv hr;have Hv6:=hI hv6;have Hb6:=hI hb6;have Hbel:=hI (qdf (b:=w.heap.size+1) x5 a5 k5 c5 (HK.out.via (qaa hb1 hb2) HK.out.size) (by omega));clear hr hv6 hb6 hv))
 obtain⟨⟨q0,q1⟩,-⟩:=qag Hb6.out;exact bodyPost_ret (v:=.agg #[.bool x5,.slice a5 k5 c5]) (by simp[results,Tryz.results113,go_sem,q0,q1]) rfl ⟨_,rfl,Hv6.out,Hbel.out⟩
end Dr
theorem qjt(v:Value)(p:Int)(w:World)(h:RatV w v p 0):Calls Tryz.prog 113 #[v] w (RetP (fun r w'=>IntV w' r 1) w):=(Dr.qjt v p w h).mono fun _ _ h=>h.n
end Go.Proofs.YtacihodamichhaaGreatDoor
namespace Go.Proofs.YtacihodamichhaaGreatDoor
open Go.RowKit
theorem qc4{w:World}{a:Addr}{v:Value}{b:Nat}{v0 v1 v2 v3:Value}(h:w.cell? a=some v)(hne:b≠a.block):((((w.setCell ⟨b,0,none⟩ v0).setCell ⟨b,1,none⟩ v1).setCell ⟨b,2,none⟩ v2).setCell ⟨b,3,none⟩ v3).cell? a=some v:=
 qbn (qbn (qbn (qbn h hne) hne) hne) hne
end Go.Proofs.YtacihodamichhaaGreatDoor
namespace Go.Proofs.YtacihodamichhaaGreatDoor
open Go.RowKit
def qlo(x:Nat):Bool:=decide (x<48)||decide (57<x)
def qo2:List UInt8:=[48,49,50,51,52,53,54,55,56,57]
theorem pnod(x:Nat)(w:World)(hx:x≤1114111):Calls Tryz.prog 193 #[.int .i32 (x:Int)] w (fun e w'=>e=.returned (.bool (qlo x))∧Below w.heap.size w w'):=by
 unfold qlo;rcases Nat.lt_or_ge x 48 with h|h
 ·have a0:(x:Int)<48:=by omega
  rw[decide_eq_true h,Bool.true_or]
  go_enter Tryz.func193,Tryz.ntmps193
  go_wp2
  go_ret
  exact⟨rfl,Below.refl _ _⟩
 ·have a0:¬(x:Int)<48:=by omega
  rw[decide_eq_false (by omega),Bool.false_or];rcases Nat.lt_or_ge 57 x with h'|h'
  ·have a1:(57:Int)<x:=by omega
   rw[decide_eq_true h']
   go_enter Tryz.func193,Tryz.ntmps193
   go_wp2
   go_ret
   exact⟨rfl,Below.refl _ _⟩
  ·have a1:¬(57:Int)<x:=by omega
   rw[decide_eq_false (by omega)]
   go_enter Tryz.func193,Tryz.ntmps193
   go_wp2
   go_ret
   exact⟨rfl,Below.refl _ _⟩
theorem ten9{k:Nat}(h:k<9):10^k≤100000000:=Nat.le_trans (Nat.pow_le_pow_right (by decide) (show k≤8 by omega)) (by decide)
theorem MagA.zero(w:World):MagA w (.slice none 0 0) 0:=⟨none,0,by rw[qah];rfl,by rw[qah];exact Ls.nil w,AU.none w⟩
end Go.Proofs.YtacihodamichhaaGreatDoor
namespace Go.Proofs.YtacihodamichhaaGreatDoor
open Go.RowKit
def isD(c:UInt8):Bool:=decide (48≤c.toNat)&&decide (c.toNat≤57)
def dv(c:UInt8):Nat:=c.toNat-48
theorem qci{c:UInt8}:isD c=true↔48≤c.toNat∧c.toNat≤57:=by simp[isD]
def valF(acc:Nat)(l:List UInt8):Nat:=l.foldl (fun a c=>a*10+dv c) acc
theorem qeu(acc:Nat):valF acc []=acc:=rfl
theorem qdu(acc:Nat)(c:UInt8)(l:List UInt8):valF acc (c::l)=valF (acc*10+dv c) l:=by
 unfold valF;rw[List.foldl_cons]
def valD(l:List UInt8):Nat:=valF 0 l
def AllD(l:List UInt8):Prop:=∀c∈l,isD c=true
theorem AllD.take{l:List UInt8}(h:AllD l)(k:Nat):AllD (l.take k):=fun c hc=>h c (List.mem_of_mem_take hc)
theorem AllD.drop{l:List UInt8}(h:AllD l)(k:Nat):AllD (l.drop k):=fun c hc=>h c (List.mem_of_mem_drop hc)
theorem qk8(a:List UInt8)(acc:Nat)(b:List UInt8):valF acc (a++b)=valF (valF acc a) b:=List.foldl_append
theorem quv(l:List UInt8):∀acc:Nat,valF acc l=acc*10^l.length+valF 0 l:=by
 induction l with
 |nil=>intro acc;simp[qeu]
 |cons c l ih=>
  intro acc;have h1:=ih (acc*10+dv c);have h2:=ih (0*10+dv c);rw[qdu,qdu,h1,h2,List.length_cons,Nat.pow_succ,Nat.zero_mul,Nat.zero_add,Nat.add_mul,Nat.mul_assoc acc];rw[Nat.mul_comm 10,Nat.add_assoc]
theorem qdd(a b:List UInt8):valD (a++b)=valD a*10^b.length+valD b:=by
 unfold valD;rw[qk8,quv]
theorem qxn{c:UInt8}(h:isD c=true):dv c≤9:=by
 have:=(qci.1 h).2;unfold dv
 omega
theorem qby:∀{l:List UInt8},AllD l→valD l<10^l.length
 |[],_=>by simp[valD,qeu]
 |c::l,h=>by
  have ih:=qby (l:=l) (fun x hx=>h x (by simp[hx]))
  have h1:valD (c::l)=dv c*10^l.length+valD l:=by
   have:=qdd [c] l
   simpa[valD,qdu,qeu]using this
  have h2:=qxn (h c (by simp));rw[h1,List.length_cons,Nat.pow_succ];have h3:dv c*10^l.length≤9*10^l.length:=Nat.mul_le_mul_right _ h2
  omega
theorem qkd:∀{l:List UInt8} {acc:Nat},AllD l→acc*10^l.length+valD l<1000000000→Lib.parseUintM 4294967295 acc l=.ok (valF acc l)
 |[],acc,_,_=>rfl
 |c::l,acc,h,hb=>by
  have hc:=qci.1 (h c (by simp))
  have h1:valD (c::l)=dv c*10^l.length+valD l:=by
   have:=qdd [c] l
   simpa[valD,qdu,qeu]using this
  have e:(acc*10+dv c)*10^l.length+valD l=acc*10^(c::l).length+valD (c::l):=by
   rw[h1,List.length_cons,Nat.pow_succ,Nat.add_mul,Nat.mul_assoc acc,Nat.mul_comm 10]
   omega
  have hp:1≤10^l.length:=Nat.pow_pos (by decide);have h2:(acc*10+dv c)*1≤(acc*10+dv c)*10^l.length:=Nat.mul_le_mul_left _ hp;unfold Lib.parseUintM;rw[if_pos hc,if_neg (by unfold dv at*;omega),if_neg (by unfold dv at*;omega)];exact qkd (fun x hx=>h x (by simp[hx])) (by rw[←e]at hb;exact hb)
theorem quf{l:List UInt8}(h:AllD l)(hne:l≠[])(hl:l.length≤9):Lib.parseUintB 32 l=.ok (valD l)∧valD l<1000000000:=by
 have h1:=qby h;have h2:(10:Nat)^l.length≤10^9:=Nat.pow_le_pow_right (by decide) hl;have h3:valD l<1000000000:=by omega
 refine⟨?_,h3⟩
 unfold Lib.parseUintB;rw[if_neg hne];exact qkd h (by omega)
theorem qnl{l:List UInt8}(h:AllD l):Lib.idxFunc qlo true ⟨l.toArray⟩=-1:=by
 have key:∀(f pos:Nat),Lib.idxFuncFrom qlo true ⟨l.toArray⟩ f pos=-1:=by
  intro f
  induction f with
  |zero=>intro pos;rfl
  |succ f ih=>
   intro pos;unfold Lib.idxFuncFrom
   split
   ·rename_i hp
    have hd:=qci.1 (h ((⟨l.toArray⟩:ByteArray)[pos]'hp) (by
     have:(⟨l.toArray⟩:ByteArray)[pos]'hp=l[pos]'(by rw[Lib.size_eq]at hp;exact hp):=rfl;rw[this]
     exact List.getElem_mem _))
    rw[decode_ascii _ _ hp (by omega)];simp only;rw[if_neg,ih];unfold qlo;rw[decide_eq_false (by omega),decide_eq_false (by omega)]
    decide
   ·rfl
 exact key _ _
theorem qeg{α:Type}{p:α→Bool}:∀{l:List α},l.dropWhile p=[]↔∀x∈l,p x=true
 |[]=>by simp
 |a::l=>by
  have ih:=qeg (p:=p) (l:=l);rw[List.dropWhile_cons]
  by_cases h:p a=true
  ·simp only[h,if_true,List.mem_cons,forall_eq_or_imp,true_and];exact ih
  ·simp only[Bool.not_eq_true]at h;simp[h]
theorem qj3{l cs:List UInt8}:Lib.trimS l cs=[]↔∀c∈l,cs.contains c=true:=by
 unfold Lib.trimS Lib.trimLeftS Lib.trimRightS
 constructor
 ·intro h
  have h1:=qeg.1 h;intro c hc;have h2:∀x∈(l.reverse.dropWhile (cs.contains ·)),cs.contains x=true:=fun x hx=>h1 x (List.mem_reverse.2 hx)
  have h3:=List.takeWhile_append_dropWhile (p:=(cs.contains ·)) (l:=l.reverse);have h4:c∈l.reverse:=List.mem_reverse.2 hc;rw[←h3]at h4;rcases List.mem_append.1 h4 with h5|h5
  ·exact List.all_eq_true.1 List.all_takeWhile c h5
  ·exact h2 c h5
 ·intro h
  have h1:l.reverse.dropWhile (cs.contains ·)=[]:=qeg.2 (fun x hx=>h x (List.mem_reverse.1 hx));rw[h1]
  rfl
theorem qk0{c:UInt8}:qo2.contains c=true↔isD c=true:=by
 rw[qci];have h:∀n:Fin 256,(qo2.contains (UInt8.ofNat n.val)=true)↔(48≤n.val∧n.val≤57):=by decide+kernel
 have hc:c.toNat<256:=c.toNat_lt;have h2:=h ⟨c.toNat,hc⟩;simp only[UInt8.ofNat_toNat]at h2;exact h2
theorem qg8{l:List UInt8}:Lib.trimS l qo2=[]↔AllD l:=by
 rw[qj3];exact⟨fun h c hc=>qk0.1 (h c hc),fun h c hc=>qk0.2 (h c hc)⟩
theorem qid{l:List UInt8}:Lib.trimS l [48]=[]↔∀c∈l,c=48:=by
 rw[qj3];simp
end Go.Proofs.YtacihodamichhaaGreatDoor
