/- Parts of the proof. -/
import Derived.Test.YtacihodamichhaaGreatDoorC14
namespace Go.Proofs.YtacihodamichhaaGreatDoor
open Go.RowKit
set_option maxHeartbeats 8000000
theorem qqr(v:Value)(p:Int)(w:World)(h:RatV w v p 0)(hz:p.natAbs<100)(h0:p≠0):Calls Tryz.prog 61 #[v] w (Ret (.string ⟨(qc4 p).toArray⟩) w):=by
 obtain⟨x,a,n,c,x',a',n',c',rfl,h⟩:=h.open;have hB:=Blk.new w #[.bool x,.slice a n c,.bool x',.slice a' n' c'] 77;have HS:=hI (fun w' (hb:Below (w.alloc (.cells #[.bool x,.slice a n c,.bool x',.slice a' n' c'] 77)).heap.size (w.alloc (.cells #[.bool x,.slice a n c,.bool x',.slice a' n' c'] 77)) w')=>qcs hB hb);have HK:=hI (qac w (.cells #[.bool x,.slice a n c,.bool x',.slice a' n' c'] 77));have H1:=hI (fun w' (hb:Below w.heap.size w w')=>(qd5 _ p w' (h.mono hb)).mono fun _ _ h=>h.ret);have H2:=hI (fun w' (hb:Below w.heap.size w w')=>qm9 _ p w' (h.parts.1.mono hb) hz h0);generalize(⟨(qc4 p).toArray⟩:ByteArray)=D at*;clear h hB hz h0
 go_enter Tryz.func61,Tryz.ntmps61
 go_wp2_with (first
  |(go_at_call 109;refine(H1.out _ HK.out).mono ?_;rintro e1 w1 ⟨rfl,hb1⟩;obtain⟨c0,c1,c2,c3⟩:=HS.out _ hb1)
  |(go_at_call 114;refine(H2.out _ (HK.out.via hb1 HK.out.size)).mono ?_;rintro e2 w2 ⟨rfl,hb2⟩))
 go_ret
 exact⟨rfl,HK.out.via (qab hb1 hb2) HK.out.size⟩
theorem qiv(z:Int)(h:z.natAbs<100):(qc4 z).length≤20:=by
 have:∀M<100,(Lib.decDigits M).length≤2:=by
  intro M hM;rw[Lib.decDigits]
  split
  ·simp
  ·rw[Lib.decDigits,dif_pos (by omega)];simp
 have:=this _ h;unfold qc4
 split<;>simp<;>omega
theorem qqs(v:Value)(p q:Int)(w:World)(h:RatV w v p q)(hz:p.natAbs<100)(h0:p≠0)(hq:q.natAbs<100)(hq1:1<q):Calls Tryz.prog 61 #[v] w (Ret (.string (⟨(qc4 p).toArray⟩++⟨#[47]⟩++⟨(qc4 q).toArray⟩)) w):=by
 obtain⟨x,a,n,c,x',a',n',c',rfl,h⟩:=h.open;have hB:=Blk.new w #[.bool x,.slice a n c,.bool x',.slice a' n' c'] 77;have HS:=hI (fun w' (hb:Below (w.alloc (.cells #[.bool x,.slice a n c,.bool x',.slice a' n' c'] 77)).heap.size (w.alloc (.cells #[.bool x,.slice a n c,.bool x',.slice a' n' c'] 77)) w')=>qcs hB hb);have HK:=hI (qac w (.cells #[.bool x,.slice a n c,.bool x',.slice a' n' c'] 77));have H1:=hI (fun w' (hb:Below w.heap.size w w')=>qhx _ p q w' (h.mono hb) (by omega));rw[decide_eq_false (show ¬q=1 by omega)]at H1;have H2:=hI (fun w' (hb:Below w.heap.size w w')=>qm9 _ p w' (h.parts.1.mono hb) hz h0);have H3:=hI (fun w' (hb:Below w.heap.size w w')=>qm9 _ q w' (h.parts.2.mono hb) hq (by omega));have hs1:(⟨(qc4 p).toArray⟩:ByteArray).size≤20:=by rw[Lib.size_eq];exact qiv p hz
 have hs2:(⟨(qc4 q).toArray⟩:ByteArray).size≤20:=by rw[Lib.size_eq];exact qiv q hq
 generalize(⟨(qc4 p).toArray⟩:ByteArray)=D at*;generalize(⟨(qc4 q).toArray⟩:ByteArray)=E at*;have hcat:¬9223372036854775807<D.size+1:=by omega
 have hcat2:¬9223372036854775807<D.size+1+E.size:=by omega
 clear h hB hz h0 hq hq1 hs1 hs2
 go_enter Tryz.func61,Tryz.ntmps61
 go_wp2_with (go_at_call 109;refine(H1.out _ HK.out).mono ?_;rintro e1 w1 ⟨rfl,hb1⟩;have Hb1:=hI hb1;clear hb1)
 refine wp_region_held_drew (S:=(fun w'=>w'.cell? ⟨w.heap.size,0,none⟩=some (.bool x)∧w'.cell? ⟨w.heap.size,1,none⟩=some (.slice a n c)∧w'.cell? ⟨w.heap.size,2,none⟩=some (.bool x')∧w'.cell? ⟨w.heap.size,3,none⟩=some (.slice a' n' c'))) (by kernel_rfl) (by exact HS.out _ (qab Hb1.out ((Below.refl _ _).dn 1))) (fun hHeld=>?_)
 refine wpAnyH_take (i:=0) (v:=?v1) rfl (by kernel_rfl) (by kernel_rfl) (by kernel_rfl) (fun _ _ _ h=>h) (Or.inl ⟨by rfl,?hy1⟩) (by assumption) ?rest1
 case hy1=>(intro w hSw;(try dsimp only at hSw);go_simp;try(with_reducible rfl))
 try simp only[Act.put,List.getElem_toArray,List.getElem_cons_zero,List.setIfInBounds_toArray,List.set_cons_zero,List.set_cons_succ]
 refine' tk 1 ?_;(try simp only[tkS]);refine' tk 4 ?_;(try simp only[tkS]);refine' tk 5 ?_;(try simp only[tkS]);refine tk1 2 (fun K hK=>?_)
 go_simp;go_at_call 114;refine(H2.out _ (HK.out.via (qab Hb1.out ((Below.refl _ _).dn 1)) HK.out.size)).mono ?_
 rintro e5 w2 ⟨rfl,hb2⟩;have Hb2:=hI (qab ((Below.refl _ _).dn 1) hb2);clear hb2;refine hK.out _ _ (by exact HS.out _ (qab Hb1.out (Hb2.out))) (fun hHeld=>?_)
 clear hK K;(try simp only[tkS]);refine' tk 3 ?_;(try simp only[tkS]);refine tk1 6 (fun K hK=>?_)
 go_simp;go_at_call 114;refine(H3.out _ (HK.out.via (qab Hb1.out (Hb2.out)) HK.out.size)).mono ?_
 rintro e5 w6 ⟨rfl,hb6⟩;have Hb6:=hI (qab (Hb2.out) hb6);clear hb6;refine hK.out _ _ (by exact HS.out _ (qab Hb1.out (Hb6.out))) (fun hHeld=>?_)
 clear hK K;(try simp only[tkS]);refine' tk 7 ?_;(try simp only[tkS]);refine' tk 8 ?_;(try simp only[tkS]);refine tkD ?_ _
 go_wp2_with fail
 go_ret
 exact⟨rfl,HK.out.via (qab Hb1.out Hb6.out) HK.out.size⟩
structure CC where
 c:Cut
 x:Bool
 a:Option Addr
 n:Nat
 cap:Nat
def CC.cells(k:CC):List Value:=[.int .i64 k.c.b,.string k.c.s,.int .i64 k.c.d,.bool k.x,.slice k.a k.n k.cap,.bool false,.slice none 0 0]
def CC.agg(k:CC):Value:=.agg #[.int .i64 k.c.b,.string k.c.s,.int .i64 k.c.d,.bool k.x,.slice k.a k.n k.cap,.bool false,.slice none 0 0]
def CC.ok(w:World)(k:CC):Prop:=IntV w (.agg #[.bool k.x,.slice k.a k.n k.cap]) (val k.c.s)∧AU w k.a
theorem CC.ok.mono{w w':World}{k:CC}(h:k.ok w)(hb:Below w.heap.size w w'):k.ok w':=⟨IntV.mono h.1 hb,h.2.mono hb⟩
theorem CC.ok.rat{w:World}{k:CC}(h:k.ok w):RatV w (.agg #[.bool k.x,.slice k.a k.n k.cap,.bool false,.slice none 0 0]) (val k.c.s) 0:=RatV.whole0 h.1
theorem qa5{w w':World}{b:Nat}{x0 x1 x2 x3 x4 x5 x6:Value}{T:TypeId}(h:Blk w b #[x0,x1,x2,x3,x4,x5,x6] T)(hb:Below w.heap.size w w'):
  w'.cell? ⟨b,0,none⟩=some x0∧w'.cell? ⟨b,1,none⟩=some x1∧w'.cell? ⟨b,2,none⟩=some x2∧w'.cell? ⟨b,3,none⟩=some x3∧w'.cell? ⟨b,4,none⟩=some x4∧w'.cell? ⟨b,5,none⟩=some x5∧w'.cell? ⟨b,6,none⟩=some x6:=by
 have h':=h.below hb;exact⟨by rw[h'.cell];rfl,by rw[h'.cell];rfl,by rw[h'.cell];rfl,by rw[h'.cell];rfl,by rw[h'.cell];rfl,by rw[h'.cell];rfl,by rw[h'.cell];rfl⟩
theorem IntV.grown{w w':World}{B e sz n k c:Nat}{v:Value}{xs:List Value}{x:Bool}{a:Option Addr}{z:Int}(h:IntV w (.agg #[.bool x,.slice a k c]) z)(ha:AU w a)(hown:w.ownsRow B e sz v n xs)(he:e≠62)(hg:w.grownBy w' v.ownBlock):IntV w' (.agg #[.bool x,.slice a k c]) z:=by
 obtain⟨a',c',hv,h⟩:=h;cases hv
 exact⟨a,c,rfl,h.grown ha hown he hg⟩
theorem CC.ok.grown{w w':World}{B e sz n:Nat}{v:Value}{xs:List Value}{k:CC}(h:k.ok w)(hown:w.ownsRow B e sz v n xs)(he:e≠62)(hg:w.grownBy w' v.ownBlock):k.ok w':=⟨h.1.grown h.2 hown he hg,h.2.grown hown he hg⟩
theorem qc8(x y:Int):Lib.compareInt x y=cmpZ x y:=by unfold Lib.compareInt cmpZ;rfl
theorem or_d(b:Nat)(c:Nat)(x y z:Int)(w:World)(hB:Blk w b #[.int .i64 x,.int .i64 y,.int .i64 z] 3):
  Calls Tryz.prog 123 #[.slice (some ⟨b,0,none⟩) 3 c] w (RetD (.int .i64 (or3 x y z)) w):=by
 have c0:w.cell? ⟨b,0,none⟩=some (.int .i64 x):=by rw[hB.cell];rfl
 have c1:w.cell? ⟨b,1,none⟩=some (.int .i64 y):=by rw[hB.cell];rfl
 have c2:w.cell? ⟨b,2,none⟩=some (.int .i64 z):=by rw[hB.cell];rfl
 clear hB;obtain⟨R,hR⟩:∃R,or3 x y z=R:=⟨_,rfl⟩
 rw[hR];have HR:=hI hR;clear hR
 go_enter Tryz.func123,Tryz.ntmps123
 go_wp2_with fail
 go_loopw [8,5] (fun i _ wr=>BD w wr∧(i=.int .i64 0∨(i=.int .i64 1∧x=0)∨(i=.int .i64 2∧x=0∧y=0)∨(i=.int .i64 3∧x=0∧y=0∧z=0))) (fun i _ _=>3-(intOf i).toNat)
 case atStart=>exact⟨BD.refl _,.inl rfl⟩
 case round=>
  obtain⟨hbw,rfl|⟨rfl,rfl⟩|⟨rfl,rfl,rfl⟩|⟨rfl,rfl,rfl,rfl⟩⟩:=hrel
  ·have d0:=qaa hbw.1 c0
   by_cases h:x=0
   ·subst h
    go_wp2_with fail
    go_roundw
    case rel=>exact⟨hbw,.inr (.inl ⟨by go_num,trivial⟩)⟩
    case measure=>simp[intOf]
   ·have h2:(x !=0)=true:=by simpa using h
    go_wp2_with fail
    go_ret
    exact⟨by rw[←HR.out];simp[or3,h],hbw⟩
  ·have d1:=qaa hbw.1 c1
   by_cases h:y=0
   ·subst h
    go_wp2_with fail
    go_roundw
    case rel=>exact⟨hbw,.inr (.inr (.inl ⟨by go_num,trivial,trivial⟩))⟩
    case measure=>simp[intOf]
   ·have h2:(y !=0)=true:=by simpa using h
    go_wp2_with fail
    go_ret
    exact⟨by rw[←HR.out];simp[or3,h],hbw⟩
  ·have d2:=qaa hbw.1 c2
   by_cases h:z=0
   ·subst h
    go_wp2_with fail
    go_roundw
    case rel=>exact⟨hbw,.inr (.inr (.inr ⟨by go_num,trivial,trivial,trivial⟩))⟩
    case measure=>simp[intOf]
   ·have h2:(z !=0)=true:=by simpa using h
    go_wp2_with fail
    go_ret
    exact⟨by rw[←HR.out];simp[or3],hbw⟩
  ·go_wp2_with fail
   go_ret
   exact⟨by rw[←HR.out];simp[or3],hbw⟩
theorem qlv(k l:CC)(w:World)(hk:k.ok w)(hl:l.ok w):Calls Tryz.prog 73 #[k.agg,l.agg] w (RetD (.int .i64 (cmpC k.c l.c)) w):=by
 unfold CC.agg;have hk:=hk.rat;have hl:=hl.rat;obtain⟨⟨b,s,d⟩,x,a,n,c⟩:=k;obtain⟨⟨b',s',d'⟩,x',a',n',c'⟩:=l;dsimp only at hk hl⊢;have hA:Blk ((w.alloc (.cells #[.int .i64 b,.string s,.int .i64 d,.bool x,.slice a n c,.bool false,.slice none 0 0] 79)).alloc (.cells #[.int .i64 b',.string s',.int .i64 d',.bool x',.slice a' n' c',.bool false,.slice none 0 0] 79)) w.heap.size #[.int .i64 b,.string s,.int .i64 d,.bool x,.slice a n c,.bool false,.slice none 0 0] 79:=(Blk.new w _ _).old _
 have hB:Blk ((w.alloc (.cells #[.int .i64 b,.string s,.int .i64 d,.bool x,.slice a n c,.bool false,.slice none 0 0] 79)).alloc (.cells #[.int .i64 b',.string s',.int .i64 d',.bool x',.slice a' n' c',.bool false,.slice none 0 0] 79)) (w.heap.size+1) #[.int .i64 b',.string s',.int .i64 d',.bool x',.slice a' n' c',.bool false,.slice none 0 0] 79:=by
  have h:=Blk.new (w.alloc (.cells #[.int .i64 b,.string s,.int .i64 d,.bool x,.slice a n c,.bool false,.slice none 0 0] 79)) #[.int .i64 b',.string s',.int .i64 d',.bool x',.slice a' n' c',.bool false,.slice none 0 0] 79
  simpa using h
 have HS:=hI (fun w' (hb:BD ((w.alloc (.cells #[.int .i64 b,.string s,.int .i64 d,.bool x,.slice a n c,.bool false,.slice none 0 0] 79)).alloc (.cells #[.int .i64 b',.string s',.int .i64 d',.bool x',.slice a' n' c',.bool false,.slice none 0 0] 79)) w')=>And.intro (qa5 hA hb.1) (qa5 hB hb.1));have H1:=hI (fun w' (hb:BD ((w.alloc (.cells #[.int .i64 b,.string s,.int .i64 d,.bool x,.slice a n c,.bool false,.slice none 0 0] 79)).alloc (.cells #[.int .i64 b',.string s',.int .i64 d',.bool x',.slice a' n' c',.bool false,.slice none 0 0] 79)) w')=>qr0 _ _ (val s) (val s') w' (hk.mono ((bd2 w _ _).via hb).1) (hl.mono ((bd2 w _ _).via hb).1));have H2:=hI (fun p q w'=>Tryz.cmp_Compare_int p q w');have H3:=hI (fun bb cc p q r w' (hB:Blk w' bb #[.int .i64 p,.int .i64 q,.int .i64 r] 3)=>or_d bb cc p q r w' hB)
 have hE:b=b'→s.toList=s'.toList→d=d'→cmpC ⟨b,s,d⟩ ⟨b',s',d'⟩=0:=fun h1 h2 h3=>by
  subst h1 h3;rw[qfe h2];exact qpn _
 have HE:=hI hE;have HC:=hI (show cmpC ⟨b,s,d⟩ ⟨b',s',d'⟩=or3 (Lib.compareInt b b') (cmpZ (val s) (val s')) (Lib.compareInt d d')by rw[qc8,qc8];rfl);generalize cmpC ⟨b,s,d⟩ ⟨b',s',d'⟩=R at*;generalize cmpZ (val s) (val s')=Z at*;clear hk hl hA hB hE
 go_enter Tryz.func73,Tryz.ntmps73
 go_wp2_with fail
 case isTrue.isTrue.isFalse=>
  clear HE;have hbb:b=b':=by assumption
  subst hbb;refine wp_region_held_drew (S:=(fun w'=>w'.cell? ⟨w.heap.size,0,none⟩=some (.int .i64 b)∧w'.cell? ⟨w.heap.size,1,none⟩=some (.string s)∧w'.cell? ⟨w.heap.size,2,none⟩=some (.int .i64 d)∧w'.cell? ⟨w.heap.size,3,none⟩=some (.bool x)∧w'.cell? ⟨w.heap.size,4,none⟩=some (.slice a n c)∧w'.cell? ⟨w.heap.size,5,none⟩=some (.bool false)∧w'.cell? ⟨w.heap.size,6,none⟩=some (.slice none 0 0)∧w'.cell? ⟨w.heap.size+1,0,none⟩=some (.int .i64 b)∧w'.cell? ⟨w.heap.size+1,1,none⟩=some (.string s')∧w'.cell? ⟨w.heap.size+1,2,none⟩=some (.int .i64 d')∧w'.cell? ⟨w.heap.size+1,3,none⟩=some (.bool x')∧w'.cell? ⟨w.heap.size+1,4,none⟩=some (.slice a' n' c')∧w'.cell? ⟨w.heap.size+1,5,none⟩=some (.bool false)∧w'.cell? ⟨w.heap.size+1,6,none⟩=some (.slice none 0 0))) (by kernel_rfl) (by exact(fun h=>⟨h.1.1,h.1.2.1,h.1.2.2.1,h.1.2.2.2.1,h.1.2.2.2.2.1,h.1.2.2.2.2.2.1,h.1.2.2.2.2.2.2,h.2⟩) (HS.out _ ((BD.refl _).dn 1))) (fun hHeld=>?_)
  refine wpAnyH_take (i:=0) (v:=?v1) rfl (by kernel_rfl) (by kernel_rfl) (by kernel_rfl) (fun _ _ _ h=>h) (Or.inl ⟨by rfl,?hy1⟩) (by assumption) ?rest1
  case hy1=>(intro w hSw;(try dsimp only at hSw);go_simp;try(with_reducible rfl))
  try simp only[Act.put,List.getElem_toArray,List.getElem_cons_zero,List.setIfInBounds_toArray,List.set_cons_zero,List.set_cons_succ]
  refine' tk 1 ?_;(try simp only[tkS]);refine' tk 2 ?_;(try simp only[tkS]);refine' tk 3 ?_;(try simp only[tkS]);refine' tk 4 ?_;(try simp only[tkS]);refine' tk 5 ?_;(try simp only[tkS]);refine' tk 7 ?_;(try simp only[tkS]);refine' tk 8 ?_;(try simp only[tkS]);refine' tk 9 ?_;(try simp only[tkS]);refine' tk 10 ?_;(try simp only[tkS]);refine' tk 12 ?_;(try simp only[tkS]);refine' tk 13 ?_;(try simp only[tkS]);refine' tk 14 ?_;(try simp only[tkS]);refine' tk 15 ?_;(try simp only[tkS]);refine' tk 16 ?_;(try simp only[tkS]);refine' tk 17 ?_;(try simp only[tkS]);refine tk1 6 (fun K hK=>?_)
  go_simp;go_at_call 124;refine(H2.out b b _).mono ?_
  rintro e5 w5 ⟨rfl,rfl⟩;refine hK.out _ _ (by exact(fun h=>⟨h.1.1,h.1.2.1,h.1.2.2.1,h.1.2.2.2.1,h.1.2.2.2.2.1,h.1.2.2.2.2.2.1,h.1.2.2.2.2.2.2,h.2⟩) (HS.out _ ((BD.refl _).dn 1))) (fun hHeld=>?_)
  clear hK K;(try simp only[tkS]);refine tk1 11 (fun K hK=>?_)
  go_simp;go_at_call 64;refine(H1.out _ ((BD.refl _).dn 1)).mono ?_
  rintro e5 w11 ⟨rfl,hb11⟩;have Hb11:=hI (((BD.refl _).dn 1).via hb11);clear hb11;refine hK.out _ _ (by exact(fun h=>⟨h.1.1,h.1.2.1,h.1.2.2.1,h.1.2.2.2.1,h.1.2.2.2.2.1,h.1.2.2.2.2.2.1,h.1.2.2.2.2.2.2,h.2⟩) (HS.out _ (Hb11.out))) (fun hHeld=>?_)
  clear hK K;(try simp only[tkS]);refine tk1 18 (fun K hK=>?_)
  go_simp;go_at_call 124;refine(H2.out d d' _).mono ?_
  rintro e5 w5 ⟨rfl,rfl⟩;refine hK.out _ _ (by exact(fun h=>⟨h.1.1,h.1.2.1,h.1.2.2.1,h.1.2.2.2.1,h.1.2.2.2.2.1,h.1.2.2.2.2.2.1,h.1.2.2.2.2.2.2,h.2⟩) (HS.out _ (Hb11.out))) (fun hHeld=>?_)
  clear hK K;(try simp only[tkS]);refine tk1 19 (fun K hK=>?_)
  generalize hX:Lib.compareInt b b=X1 at*;generalize hY:Lib.compareInt d d'=X3 at*;go_simp;refine hK.out _ _ (by exact(fun h=>⟨h.1.1,h.1.2.1,h.1.2.2.1,h.1.2.2.2.1,h.1.2.2.2.2.1,h.1.2.2.2.2.2.1,h.1.2.2.2.2.2.2,h.2⟩) (HS.out _ ((Hb11.out).alloc (.cells #[.int .i64 X1,.int .i64 Z,.int .i64 X3] 3)))) (fun hHeld=>?_)
  clear hK K;(try simp only[tkS]);refine tk1 20 (fun K hK=>?_)
  go_simp;go_at_call 123;refine(H3.out _ _ _ _ _ _ (Blk.new _ _ _)).mono ?_
  rintro e5 w20 ⟨rfl,hb20⟩;have Hb20:=hI (((Hb11.out).alloc (.cells #[.int .i64 X1,.int .i64 Z,.int .i64 X3] 3)).via hb20);clear hb20;refine hK.out _ _ (by exact(fun h=>⟨h.1.1,h.1.2.1,h.1.2.2.1,h.1.2.2.2.1,h.1.2.2.2.2.1,h.1.2.2.2.2.2.1,h.1.2.2.2.2.2.2,h.2⟩) (HS.out _ (Hb20.out))) (fun hHeld=>?_)
  clear hK K;(try simp only[tkS]);refine' tk 21 ?_;(try simp only[tkS]);refine tkD ?_ _
  go_wp2_with fail
  go_ret
  exact⟨by rw[HC.out];first|rfl|skip,(bd2 w _ _).via Hb20.out⟩
 case isTrue.isFalse=>
  clear HE;have hbb:b=b':=by assumption
  subst hbb;refine wp_region_held_drew (S:=(fun w'=>w'.cell? ⟨w.heap.size,0,none⟩=some (.int .i64 b)∧w'.cell? ⟨w.heap.size,1,none⟩=some (.string s)∧w'.cell? ⟨w.heap.size,2,none⟩=some (.int .i64 d)∧w'.cell? ⟨w.heap.size,3,none⟩=some (.bool x)∧w'.cell? ⟨w.heap.size,4,none⟩=some (.slice a n c)∧w'.cell? ⟨w.heap.size,5,none⟩=some (.bool false)∧w'.cell? ⟨w.heap.size,6,none⟩=some (.slice none 0 0)∧w'.cell? ⟨w.heap.size+1,0,none⟩=some (.int .i64 b)∧w'.cell? ⟨w.heap.size+1,1,none⟩=some (.string s')∧w'.cell? ⟨w.heap.size+1,2,none⟩=some (.int .i64 d')∧w'.cell? ⟨w.heap.size+1,3,none⟩=some (.bool x')∧w'.cell? ⟨w.heap.size+1,4,none⟩=some (.slice a' n' c')∧w'.cell? ⟨w.heap.size+1,5,none⟩=some (.bool false)∧w'.cell? ⟨w.heap.size+1,6,none⟩=some (.slice none 0 0))) (by kernel_rfl) (by exact(fun h=>⟨h.1.1,h.1.2.1,h.1.2.2.1,h.1.2.2.2.1,h.1.2.2.2.2.1,h.1.2.2.2.2.2.1,h.1.2.2.2.2.2.2,h.2⟩) (HS.out _ ((BD.refl _).dn 1))) (fun hHeld=>?_)
  refine wpAnyH_take (i:=0) (v:=?v18) rfl (by kernel_rfl) (by kernel_rfl) (by kernel_rfl) (fun _ _ _ h=>h) (Or.inl ⟨by rfl,?hy18⟩) (by assumption) ?rest18
  case hy18=>(intro w hSw;(try dsimp only at hSw);go_simp;try(with_reducible rfl))
  try simp only[Act.put,List.getElem_toArray,List.getElem_cons_zero,List.setIfInBounds_toArray,List.set_cons_zero,List.set_cons_succ]
  refine' tk 1 ?_;(try simp only[tkS]);refine' tk 2 ?_;(try simp only[tkS]);refine' tk 3 ?_;(try simp only[tkS]);refine' tk 4 ?_;(try simp only[tkS]);refine' tk 5 ?_;(try simp only[tkS]);refine' tk 7 ?_;(try simp only[tkS]);refine' tk 8 ?_;(try simp only[tkS]);refine' tk 9 ?_;(try simp only[tkS]);refine' tk 10 ?_;(try simp only[tkS]);refine' tk 12 ?_;(try simp only[tkS]);refine' tk 13 ?_;(try simp only[tkS]);refine' tk 14 ?_;(try simp only[tkS]);refine' tk 15 ?_;(try simp only[tkS]);refine' tk 16 ?_;(try simp only[tkS]);refine' tk 17 ?_;(try simp only[tkS]);refine tk1 6 (fun K hK=>?_)
  go_simp;go_at_call 124;refine(H2.out b b _).mono ?_
  rintro e5 w5 ⟨rfl,rfl⟩;refine hK.out _ _ (by exact(fun h=>⟨h.1.1,h.1.2.1,h.1.2.2.1,h.1.2.2.2.1,h.1.2.2.2.2.1,h.1.2.2.2.2.2.1,h.1.2.2.2.2.2.2,h.2⟩) (HS.out _ ((BD.refl _).dn 1))) (fun hHeld=>?_)
  clear hK K;(try simp only[tkS]);refine tk1 11 (fun K hK=>?_)
  go_simp;go_at_call 64;refine(H1.out _ ((BD.refl _).dn 1)).mono ?_
  rintro e5 w11 ⟨rfl,hb11⟩;have Hb11:=hI (((BD.refl _).dn 1).via hb11);clear hb11;refine hK.out _ _ (by exact(fun h=>⟨h.1.1,h.1.2.1,h.1.2.2.1,h.1.2.2.2.1,h.1.2.2.2.2.1,h.1.2.2.2.2.2.1,h.1.2.2.2.2.2.2,h.2⟩) (HS.out _ (Hb11.out))) (fun hHeld=>?_)
  clear hK K;(try simp only[tkS]);refine tk1 18 (fun K hK=>?_)
  go_simp;go_at_call 124;refine(H2.out d d' _).mono ?_
  rintro e5 w5 ⟨rfl,rfl⟩;refine hK.out _ _ (by exact(fun h=>⟨h.1.1,h.1.2.1,h.1.2.2.1,h.1.2.2.2.1,h.1.2.2.2.2.1,h.1.2.2.2.2.2.1,h.1.2.2.2.2.2.2,h.2⟩) (HS.out _ (Hb11.out))) (fun hHeld=>?_)
  clear hK K;(try simp only[tkS]);refine tk1 19 (fun K hK=>?_)
  generalize hX:Lib.compareInt b b=X1 at*;generalize hY:Lib.compareInt d d'=X3 at*;go_simp;refine hK.out _ _ (by exact(fun h=>⟨h.1.1,h.1.2.1,h.1.2.2.1,h.1.2.2.2.1,h.1.2.2.2.2.1,h.1.2.2.2.2.2.1,h.1.2.2.2.2.2.2,h.2⟩) (HS.out _ ((Hb11.out).alloc (.cells #[.int .i64 X1,.int .i64 Z,.int .i64 X3] 3)))) (fun hHeld=>?_)
  clear hK K;(try simp only[tkS]);refine tk1 20 (fun K hK=>?_)
  go_simp;go_at_call 123;refine(H3.out _ _ _ _ _ _ (Blk.new _ _ _)).mono ?_
  rintro e5 w20 ⟨rfl,hb20⟩;have Hb20:=hI (((Hb11.out).alloc (.cells #[.int .i64 X1,.int .i64 Z,.int .i64 X3] 3)).via hb20);clear hb20;refine hK.out _ _ (by exact(fun h=>⟨h.1.1,h.1.2.1,h.1.2.2.1,h.1.2.2.2.1,h.1.2.2.2.2.1,h.1.2.2.2.2.2.1,h.1.2.2.2.2.2.2,h.2⟩) (HS.out _ (Hb20.out))) (fun hHeld=>?_)
  clear hK K;(try simp only[tkS]);refine' tk 21 ?_;(try simp only[tkS]);refine tkD ?_ _
  go_wp2_with fail
  go_ret
  exact⟨by rw[HC.out];first|rfl|skip,(bd2 w _ _).via Hb20.out⟩
 case isFalse=>
  clear HE;refine wp_region_held_drew (S:=(fun w'=>w'.cell? ⟨w.heap.size,0,none⟩=some (.int .i64 b)∧w'.cell? ⟨w.heap.size,1,none⟩=some (.string s)∧w'.cell? ⟨w.heap.size,2,none⟩=some (.int .i64 d)∧w'.cell? ⟨w.heap.size,3,none⟩=some (.bool x)∧w'.cell? ⟨w.heap.size,4,none⟩=some (.slice a n c)∧w'.cell? ⟨w.heap.size,5,none⟩=some (.bool false)∧w'.cell? ⟨w.heap.size,6,none⟩=some (.slice none 0 0)∧w'.cell? ⟨w.heap.size+1,0,none⟩=some (.int .i64 b')∧w'.cell? ⟨w.heap.size+1,1,none⟩=some (.string s')∧w'.cell? ⟨w.heap.size+1,2,none⟩=some (.int .i64 d')∧w'.cell? ⟨w.heap.size+1,3,none⟩=some (.bool x')∧w'.cell? ⟨w.heap.size+1,4,none⟩=some (.slice a' n' c')∧w'.cell? ⟨w.heap.size+1,5,none⟩=some (.bool false)∧w'.cell? ⟨w.heap.size+1,6,none⟩=some (.slice none 0 0))) (by kernel_rfl) (by exact(fun h=>⟨h.1.1,h.1.2.1,h.1.2.2.1,h.1.2.2.2.1,h.1.2.2.2.2.1,h.1.2.2.2.2.2.1,h.1.2.2.2.2.2.2,h.2⟩) (HS.out _ ((BD.refl _).dn 1))) (fun hHeld=>?_)
  refine wpAnyH_take (i:=0) (v:=?v35) rfl (by kernel_rfl) (by kernel_rfl) (by kernel_rfl) (fun _ _ _ h=>h) (Or.inl ⟨by rfl,?hy35⟩) (by assumption) ?rest35
  case hy35=>(intro w hSw;(try dsimp only at hSw);go_simp;try(with_reducible rfl))
  try simp only[Act.put,List.getElem_toArray,List.getElem_cons_zero,List.setIfInBounds_toArray,List.set_cons_zero,List.set_cons_succ]
  refine' tk 1 ?_;(try simp only[tkS]);refine' tk 2 ?_;(try simp only[tkS]);refine' tk 3 ?_;(try simp only[tkS]);refine' tk 4 ?_;(try simp only[tkS]);refine' tk 5 ?_;(try simp only[tkS]);refine' tk 7 ?_;(try simp only[tkS]);refine' tk 8 ?_;(try simp only[tkS]);refine' tk 9 ?_;(try simp only[tkS]);refine' tk 10 ?_;(try simp only[tkS]);refine' tk 12 ?_;(try simp only[tkS]);refine' tk 13 ?_;(try simp only[tkS]);refine' tk 14 ?_;(try simp only[tkS]);refine' tk 15 ?_;(try simp only[tkS]);refine' tk 16 ?_;(try simp only[tkS]);refine' tk 17 ?_;(try simp only[tkS]);refine tk1 6 (fun K hK=>?_)
  go_simp;go_at_call 124;refine(H2.out b b' _).mono ?_
  rintro e5 w5 ⟨rfl,rfl⟩;refine hK.out _ _ (by exact(fun h=>⟨h.1.1,h.1.2.1,h.1.2.2.1,h.1.2.2.2.1,h.1.2.2.2.2.1,h.1.2.2.2.2.2.1,h.1.2.2.2.2.2.2,h.2⟩) (HS.out _ ((BD.refl _).dn 1))) (fun hHeld=>?_)
  clear hK K;(try simp only[tkS]);refine tk1 11 (fun K hK=>?_)
  go_simp;go_at_call 64;refine(H1.out _ ((BD.refl _).dn 1)).mono ?_
  rintro e5 w11 ⟨rfl,hb11⟩;have Hb11:=hI (((BD.refl _).dn 1).via hb11);clear hb11;refine hK.out _ _ (by exact(fun h=>⟨h.1.1,h.1.2.1,h.1.2.2.1,h.1.2.2.2.1,h.1.2.2.2.2.1,h.1.2.2.2.2.2.1,h.1.2.2.2.2.2.2,h.2⟩) (HS.out _ (Hb11.out))) (fun hHeld=>?_)
  clear hK K;(try simp only[tkS]);refine tk1 18 (fun K hK=>?_)
  go_simp;go_at_call 124;refine(H2.out d d' _).mono ?_
  rintro e5 w5 ⟨rfl,rfl⟩;refine hK.out _ _ (by exact(fun h=>⟨h.1.1,h.1.2.1,h.1.2.2.1,h.1.2.2.2.1,h.1.2.2.2.2.1,h.1.2.2.2.2.2.1,h.1.2.2.2.2.2.2,h.2⟩) (HS.out _ (Hb11.out))) (fun hHeld=>?_)
  clear hK K;(try simp only[tkS]);refine tk1 19 (fun K hK=>?_)
  generalize hX:Lib.compareInt b b'=X1 at*;generalize hY:Lib.compareInt d d'=X3 at*;go_simp;refine hK.out _ _ (by exact(fun h=>⟨h.1.1,h.1.2.1,h.1.2.2.1,h.1.2.2.2.1,h.1.2.2.2.2.1,h.1.2.2.2.2.2.1,h.1.2.2.2.2.2.2,h.2⟩) (HS.out _ ((Hb11.out).alloc (.cells #[.int .i64 X1,.int .i64 Z,.int .i64 X3] 3)))) (fun hHeld=>?_)
  clear hK K;(try simp only[tkS]);refine tk1 20 (fun K hK=>?_)
  go_simp;go_at_call 123;refine(H3.out _ _ _ _ _ _ (Blk.new _ _ _)).mono ?_
  rintro e5 w20 ⟨rfl,hb20⟩;have Hb20:=hI (((Hb11.out).alloc (.cells #[.int .i64 X1,.int .i64 Z,.int .i64 X3] 3)).via hb20);clear hb20;refine hK.out _ _ (by exact(fun h=>⟨h.1.1,h.1.2.1,h.1.2.2.1,h.1.2.2.2.1,h.1.2.2.2.2.1,h.1.2.2.2.2.2.1,h.1.2.2.2.2.2.2,h.2⟩) (HS.out _ (Hb20.out))) (fun hHeld=>?_)
  clear hK K;(try simp only[tkS]);refine' tk 21 ?_;(try simp only[tkS]);refine tkD ?_ _
  go_wp2_with fail
  go_ret
  exact⟨by rw[HC.out];first|rfl|skip,(bd2 w _ _).via Hb20.out⟩
 have hcc:R=0:=HE.out (by assumption) (by assumption) (by assumption);rw[hcc]
 go_ret
 exact⟨rfl,bd2 w _ _⟩
def setN(w:World)(b:Nat):Nat→List Value→World
 |_,[]=>w
 |i,v::r=>setN (w.setCell ⟨b,i,none⟩ v) b (i+1) r
theorem qbm{B b:Nat}{w:World}(hB:B≤b):∀(vs:List Value) (i:Nat) (w1:World),Below B w w1→Below B w (setN w1 b i vs)
 |[],_,_,h=>h
 |v::r,i,_w1,h=>qbm hB r (i+1) _ (h.setCell (p:=⟨b,i,none⟩) hB v)
theorem qk6{b:Nat}{T:TypeId}:∀(vs:List Value) (i:Nat) (w:World) (pre suf:List Value),pre.length=i→suf.length=vs.length→Blk w b (pre++suf).toArray T→Blk (setN w b i vs) b (pre++vs).toArray T
 |[],i,w,pre,suf,_,hs,h=>by
  cases suf with
  |nil=>exact h
  |cons a l=>simp at hs
 |v::r,i,w,pre,suf,hp,hs,h=>by
  cases suf with
  |nil=>simp at hs
  |cons a l=>
   have h1:=h.set i v
   have e:(pre++a::l).toArray.setIfInBounds i v=((pre++[v])++l).toArray:=by
    rw[List.setIfInBounds_toArray,List.set_append_right _ _ (by omega)];subst hp;simp
   rw[e]at h1;have h2:=qk6 r (i+1) _ (pre++[v]) l (by simp[hp]) (by simpa using hs) h1;have e2:pre++[v]++r=pre++v::r:=by simp
   rw[e2]at h2;exact h2
theorem qcx{w:World}{b:Nat}{T:TypeId}{cs:Array Value}(h:Blk w b cs T)(vs:List Value)(hl:cs.size=vs.length):Blk (setN w b 0 vs) b vs.toArray T:=by
 have:=qk6 vs 0 w [] cs.toList rfl (by simpa using hl) (by simpa using h)
 simpa using this
theorem NoU.set{cs:Array Value}(h:NoU cs)(i:Nat){v:Value}(hv:∀d:Int,v≠.int .u32 d):NoU (cs.setIfInBounds i v):=by
 intro x hx d;rw[Array.toList_setIfInBounds]at hx;rcases List.mem_or_eq_of_mem_set hx with h'|rfl
 ·exact h x h' d
 ·exact hv d
theorem IntV.setN{v:Value}{z:Int}{R:Nat}{T:TypeId}:∀(vs:List Value) (i:Nat) (w:World) (cs:Array Value),(∀x∈vs,∀d:Int,x≠.int .u32 d)→IntV w v z→Blk w R cs T→NoU cs→IntV (setN w R i vs) v z
 |[],_,_,_,_,h,_,_=>h
 |x::r,i,_,_,hv,h,hB,hn=>IntV.setN r (i+1) _ _ (fun y hy=>hv y (List.mem_cons_of_mem _ hy)) (h.put hB hn x) (hB.set i x) (hn.set i (hv x (List.mem_cons_self ..)))
theorem AU.setN{a:Option Addr}{R:Nat}:∀(vs:List Value) (i:Nat) (w:World),AU w a→AU (setN w R i vs) a
 |[],_,_,h=>h
 |v::r,i,_,h=>AU.setN r (i+1) _ (h.set R i v)
theorem qf5(k:CC):∀x∈k.cells,∀d:Int,x≠.int .u32 d:=by
 intro x hx d;simp[CC.cells]at hx;rcases hx with rfl|rfl|rfl|rfl|rfl|rfl|rfl<;>simp
theorem noU7{b d:Int}{s:ByteArray}{x x':Bool}{a a':Option Addr}{n c n' c':Nat}:NoU #[.int .i64 b,.string s,.int .i64 d,.bool x,.slice a n c,.bool x',.slice a' n' c']:=by
 intro v hv d';simp at hv;rcases hv with rfl|rfl|rfl|rfl|rfl|rfl|rfl<;>simp
theorem CC.ok.setN{w:World}{k:CC}(h:k.ok w){R:Nat}{cs:Array Value}{T:TypeId}(hB:Blk w R cs T)(hn:NoU cs)(vs:List Value)(hv:∀x∈vs,∀d:Int,x≠.int .u32 d):k.ok (setN w R 0 vs):=
 ⟨IntV.setN vs 0 w cs hv h.1 hB hn,AU.setN vs 0 w h.2⟩
theorem qmx{w:World}{b:Nat}{cs:Array Value}{T:TypeId}(h:Blk w b cs T):
  w.frozen? ⟨b,0,none⟩=false∧w.frozen? ⟨b,1,none⟩=false∧w.frozen? ⟨b,2,none⟩=false∧w.frozen? ⟨b,3,none⟩=false∧w.frozen? ⟨b,4,none⟩=false∧w.frozen? ⟨b,5,none⟩=false∧w.frozen? ⟨b,6,none⟩=false:=
 ⟨h.free 0,h.free 1,h.free 2,h.free 3,h.free 4,h.free 5,h.free 6⟩
def qd4(n:ByteArray)(kind side:Int):Cut:=if kind=2 then⟨-side,⟨#[]⟩,0⟩else⟨0,n,if kind=1 then -side else side⟩
def qpz(n:ByteArray)(kind:Int):Prop:=(kind=2∧n=⟨#[]⟩)∨((kind=0∨kind=1)∧WT n (val n))
theorem qtn(side:Int)(w:World)(hs:side=1∨side=-1):Calls Tryz.prog 122 #[.string ⟨#[]⟩,.int .i64 2,.int .i64 side] w (RetP (fun v w'=>∃k:CC,v=.tuple #[k.agg,.int .i64 0]∧k.c=qd4 ⟨#[]⟩ 2 side∧k.ok w') w):=by
 have hw:IntKind.i64.wrap (-side)=-side:=IntWalk.i64_in _ (by omega);have HR:=hI (Blk.new w #[.int .i64 0,.string ⟨#[]⟩,.int .i64 0,.bool false,.slice none 0 0,.bool false,.slice none 0 0] 79);clear hs
 go_enter Tryz.func122,Tryz.ntmps122
 go_wp2_with fail
 exact bodyPost_ret (v:=.tuple #[.agg #[.int .i64 (-side),.string ⟨#[]⟩,.int .i64 0,.bool false,.slice none 0 0,.bool false,.slice none 0 0],.int .i64 0]) (by simp[results,Tryz.results122,go_sem]) rfl ⟨_,rfl,⟨⟨⟨-side,⟨#[]⟩,0⟩,false,none,0,0⟩,rfl,by simp[qd4],IntV.zero _,AU.none _⟩,qac w _⟩
theorem qtm(n:ByteArray)(kind side:Int)(w:World)(hs:side=1∨side=-1)(hk:kind=0∨kind=1)(hn:WT n (val n)):Calls Tryz.prog 122 #[.string n,.int .i64 kind,.int .i64 side] w (RetP (fun v w'=>∃k:CC,v=.tuple #[k.agg,.int .i64 0]∧k.c=qd4 n kind side∧k.ok w') w):=by
 have hw:IntKind.i64.wrap (-side)=-side:=IntWalk.i64_in _ (by omega);have HR:=hI (Blk.new w #[.int .i64 0,.string ⟨#[]⟩,.int .i64 0,.bool false,.slice none 0 0,.bool false,.slice none 0 0] 79);have H:=hI (fun w'=>qi5 n (val n) w' hn);clear hn;rcases hk with rfl|rfl
 ·rw[show qd4 n 0 side=⟨0,n,side⟩from rfl]
  clear hw hs
  go_enter Tryz.func122,Tryz.ntmps122
  go_wp2_with (go_at_call 63;refine(H.out _).mono ?_;rintro e w3 ⟨v,rfl,⟨x5,a5,n5,c5,rfl,hv,hau⟩,hb3⟩;have hr:=(HR.out.below hb3).old (.cells #[.bool x5,.slice a5 n5 c5,.bool false,.slice none 0 0] 77);obtain⟨r0,r1,r2,r3,r4,r5,r6⟩:=qa5 hr (Below.refl _ _);obtain⟨f0,f1,f2,f3,f4,f5,f6⟩:=qmx hr;have hk6:CC.ok w3 ⟨⟨0,n,side⟩,x5,a5,n5,c5⟩:=⟨hv.parts.1,hau⟩;have hk7:=(hk6.mono (qac w3 (.cells #[.bool x5,.slice a5 n5 c5,.bool false,.slice none 0 0] 77))).setN hr noU7 [.int .i64 0,.string n,.int .i64 (side),.bool x5,.slice a5 n5 c5,.bool false,.slice none 0 0] (qf5 ⟨⟨0,n,side⟩,x5,a5,n5,c5⟩);have hb7:=qcx hr [.int .i64 0,.string n,.int .i64 (side),.bool x5,.slice a5 n5 c5,.bool false,.slice none 0 0] rfl;have hbel:=qbm (b:=w.heap.size) (Nat.le_refl _) [.int .i64 0,.string n,.int .i64 (side),.bool x5,.slice a5 n5 c5,.bool false,.slice none 0 0] 0 _ (((qac w (.cells #[.int .i64 0,.string ⟨#[]⟩,.int .i64 0,.bool false,.slice none 0 0,.bool false,.slice none 0 0] 79)).via hb3 (qac w _).size).via (qac w3 (.cells #[.bool x5,.slice a5 n5 c5,.bool false,.slice none 0 0] 77)) (Nat.le_trans (qac w _).size hb3.size));simp only[setN,Nat.zero_add,Nat.reduceAdd]at hk7 hb7 hbel;have Hk7:=hI hk7;have Hb7:=hI hb7;have Hbel:=hI hbel;clear hk6 hk7 hb7 hbel hr hv hb3)
  obtain⟨q0,q1,q2,q3,q4,q5,q6⟩:=qa5 Hb7.out (Below.refl _ _);exact bodyPost_ret (v:=.tuple #[.agg #[.int .i64 0,.string n,.int .i64 (side),.bool x5,.slice a5 n5 c5,.bool false,.slice none 0 0],.int .i64 0]) (by simp[results,Tryz.results122,go_sem,q0,q1,q2,q3,q4,q5,q6]) rfl ⟨_,rfl,⟨⟨⟨0,n,side⟩,x5,a5,n5,c5⟩,rfl,rfl,Hk7.out⟩,Hbel.out⟩
 ·rw[show qd4 n 1 side=⟨0,n,-side⟩from rfl]
  clear hs
  go_enter Tryz.func122,Tryz.ntmps122
  go_wp2_with (go_at_call 63;refine(H.out _).mono ?_;rintro e w3 ⟨v,rfl,⟨x5,a5,n5,c5,rfl,hv,hau⟩,hb3⟩;have hr:=(HR.out.below hb3).old (.cells #[.bool x5,.slice a5 n5 c5,.bool false,.slice none 0 0] 77);obtain⟨r0,r1,r2,r3,r4,r5,r6⟩:=qa5 hr (Below.refl _ _);obtain⟨f0,f1,f2,f3,f4,f5,f6⟩:=qmx hr;have hk6:CC.ok w3 ⟨⟨0,n,-side⟩,x5,a5,n5,c5⟩:=⟨hv.parts.1,hau⟩;have hk7:=(hk6.mono (qac w3 (.cells #[.bool x5,.slice a5 n5 c5,.bool false,.slice none 0 0] 77))).setN hr noU7 [.int .i64 0,.string n,.int .i64 (-side),.bool x5,.slice a5 n5 c5,.bool false,.slice none 0 0] (qf5 ⟨⟨0,n,-side⟩,x5,a5,n5,c5⟩);have hb7:=qcx hr [.int .i64 0,.string n,.int .i64 (-side),.bool x5,.slice a5 n5 c5,.bool false,.slice none 0 0] rfl;have hbel:=qbm (b:=w.heap.size) (Nat.le_refl _) [.int .i64 0,.string n,.int .i64 (-side),.bool x5,.slice a5 n5 c5,.bool false,.slice none 0 0] 0 _ (((qac w (.cells #[.int .i64 0,.string ⟨#[]⟩,.int .i64 0,.bool false,.slice none 0 0,.bool false,.slice none 0 0] 79)).via hb3 (qac w _).size).via (qac w3 (.cells #[.bool x5,.slice a5 n5 c5,.bool false,.slice none 0 0] 77)) (Nat.le_trans (qac w _).size hb3.size));simp only[setN,Nat.zero_add,Nat.reduceAdd]at hk7 hb7 hbel;have Hk7:=hI hk7;have Hb7:=hI hb7;have Hbel:=hI hbel;clear hk6 hk7 hb7 hbel hr hv hb3)
  obtain⟨q0,q1,q2,q3,q4,q5,q6⟩:=qa5 Hb7.out (Below.refl _ _);exact bodyPost_ret (v:=.tuple #[.agg #[.int .i64 0,.string n,.int .i64 (-side),.bool x5,.slice a5 n5 c5,.bool false,.slice none 0 0],.int .i64 0]) (by simp[results,Tryz.results122,go_sem,q0,q1,q2,q3,q4,q5,q6]) rfl ⟨_,rfl,⟨⟨⟨0,n,-side⟩,x5,a5,n5,c5⟩,rfl,rfl,Hk7.out⟩,Hbel.out⟩
theorem qpa(n:ByteArray)(kind side:Int)(w:World)(hs:side=1∨side=-1)(h:qpz n kind):Calls Tryz.prog 122 #[.string n,.int .i64 kind,.int .i64 side] w (RetP (fun v w'=>∃k:CC,v=.tuple #[k.agg,.int .i64 0]∧k.c=qd4 n kind side∧k.ok w') w):=by
 rcases h with⟨rfl,rfl⟩|⟨hk,hn⟩
 ·exact qtn side w hs
 ·exact qtm n kind side w hs hk hn
end Go.Proofs.YtacihodamichhaaGreatDoor
