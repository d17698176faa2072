/- Parts of the proof. -/
import Derived.Test.YtacihodamichhaaGreatDoorU13
set_option maxHeartbeats 8000000
namespace Go.Proofs.YtacihodamichhaaGreatDoor
open Go.RowKit
theorem qri{M k:Nat}(h:M<10^k)(hk:k≤900000):Few M:=qaq h hk
theorem qtx{l:List UInt8}(h:errL l=0):AllD (absL (topL l))∧(divB l=true→AllD (botL l)):=by
 unfold errL at h
 split at h
 ·exact absurd h (by decide)
 ·rename_i h1
  simp only[Bool.or_eq_true,Bool.not_eq_true',Bool.and_eq_true,not_or,Bool.not_eq_false,not_and]at h1;exact⟨(qan.1 h1.1).2,fun hd=>(qan.1 (h1.2 hd)).2⟩
theorem qjn{l:List UInt8}(hl:l.length≤5000):FewR (numR l) (denR l):=by
 unfold FewR numR denR
 by_cases h0:errL l=0
 ·rw[if_pos h0,if_pos h0]
  obtain⟨h1,h2⟩:=qtx h0;refine⟨?_,?_⟩
  ·unfold numL
   rw[qcc];exact qri (qby h1) (Nat.le_trans (qdr _) (Nat.le_trans (qew l) (by omega)))
  ·unfold denL
   by_cases hd:divB l=true
   ·rw[if_pos hd]
    unfold dn
    split
    ·exact qaq (k:=1) (by decide) (by decide)
    ·exact qri (qby (h2 hd)) (Nat.le_trans (qg6 l) (by omega))
   ·rw[if_neg hd]
    exact qaq (k:=1) (by decide) (by decide)
 ·rw[if_neg h0,if_neg h0]
  exact⟨qaq (k:=1) (by decide) (by decide),qaq (k:=1) (by decide) (by decide)⟩
def cmpG(x y:Cut):Int:=or3 (cmpZ x.b y.b) (cmpQ (numR x.s.data.toList) (denR x.s.data.toList) (numR y.s.data.toList) (denR y.s.data.toList)) (cmpZ x.d y.d)
theorem qeo(x:Cut):cmpG x x=0:=by
 unfold cmpG cmpQ or3;rw[(@qdk x.b x.b).2 rfl,(@qdk x.d x.d).2 rfl,(qdk).2 rfl]
 rfl
structure GC where
 c:Cut
 x:Bool
 a:Option Addr
 n:Nat
 cap:Nat
 y:Bool
 e:Option Addr
 m:Nat
 cap2:Nat
def GC.cells(k:GC):List Value:=[.int .i64 k.c.b,.string k.c.s,.int .i64 k.c.d,.bool k.x,.slice k.a k.n k.cap,.bool k.y,.slice k.e k.m k.cap2]
def GC.agg(k:GC):Value:=.agg #[.int .i64 k.c.b,.string k.c.s,.int .i64 k.c.d,.bool k.x,.slice k.a k.n k.cap,.bool k.y,.slice k.e k.m k.cap2]
def GC.ok(w:World)(k:GC):Prop:=RatV w (.agg #[.bool k.x,.slice k.a k.n k.cap,.bool k.y,.slice k.e k.m k.cap2]) (numR k.c.s.data.toList) (denR k.c.s.data.toList)∧(AU w k.a∧AU w k.e)∧k.c.s.size≤5000
theorem GC.ok.mono{w w':World}{k:GC}(h:k.ok w)(hb:Below w.heap.size w w'):k.ok w':=⟨h.1.mono hb,⟨h.2.1.1.mono hb,h.2.1.2.mono hb⟩,h.2.2⟩
theorem RatV.grown{w w':World}{B e sz n k c k' c':Nat}{v:Value}{xs:List Value}{x x':Bool}{a a':Option Addr}{p q:Int}(h:RatV w (.agg #[.bool x,.slice a k c,.bool x',.slice a' k' c']) p q)(ha:AU w a)(ha':AU w a')(hown:w.ownsRow B e sz v n xs)(he:e≠62)(hg:w.grownBy w' v.ownBlock):RatV w' (.agg #[.bool x,.slice a k c,.bool x',.slice a' k' c']) p q:=
 RatV.mk (h.parts.1.grown ha hown he hg) (h.parts.2.grown ha' hown he hg)
theorem GC.ok.grown{w w':World}{B e sz n:Nat}{v:Value}{xs:List Value}{k:GC}(h:k.ok w)(hown:w.ownsRow B e sz v n xs)(he:e≠62)(hg:w.grownBy w' v.ownBlock):k.ok w':=⟨h.1.grown h.2.1.1 h.2.1.2 hown he hg,⟨h.2.1.1.grown hown he hg,h.2.1.2.grown hown he hg⟩,h.2.2⟩
namespace Dr
theorem qcu(k l:GC)(w:World)(hk:k.ok w)(hl:l.ok w):Calls Tryz.prog 73 #[k.agg,l.agg] w (Ret (.int .i64 (cmpG k.c l.c)) w):=by
 unfold GC.agg;obtain⟨hk,-,hks⟩:=hk;obtain⟨hl,-,hls⟩:=hl;obtain⟨⟨b,s,d⟩,x,a,n,c,y,e,m,r⟩:=k;obtain⟨⟨b',s',d'⟩,x',a',n',c',y',e',m',r'⟩:=l;dsimp only at hk hl hks hls⊢;have hf:=qjn (l:=s.data.toList) (by rw[←Lib.size_eq];exact hks);have hf':=qjn (l:=s'.data.toList) (by rw[←Lib.size_eq];exact hls);have hA:Blk ((w.alloc (.cells #[.int .i64 b,.string s,.int .i64 d,.bool x,.slice a n c,.bool y,.slice e m r] 79)).alloc (.cells #[.int .i64 b',.string s',.int .i64 d',.bool x',.slice a' n' c',.bool y',.slice e' m' r'] 79)) w.heap.size #[.int .i64 b,.string s,.int .i64 d,.bool x,.slice a n c,.bool y,.slice e m r] 79:=(Blk.new w _ _).old _
 have hB:Blk ((w.alloc (.cells #[.int .i64 b,.string s,.int .i64 d,.bool x,.slice a n c,.bool y,.slice e m r] 79)).alloc (.cells #[.int .i64 b',.string s',.int .i64 d',.bool x',.slice a' n' c',.bool y',.slice e' m' r'] 79)) (w.heap.size+1) #[.int .i64 b',.string s',.int .i64 d',.bool x',.slice a' n' c',.bool y',.slice e' m' r'] 79:=by
  have h:=Blk.new (w.alloc (.cells #[.int .i64 b,.string s,.int .i64 d,.bool x,.slice a n c,.bool y,.slice e m r] 79)) #[.int .i64 b',.string s',.int .i64 d',.bool x',.slice a' n' c',.bool y',.slice e' m' r'] 79
  simpa using h
 have HS:=hI (fun w' (hb:Below ((w.alloc (.cells #[.int .i64 b,.string s,.int .i64 d,.bool x,.slice a n c,.bool y,.slice e m r] 79)).alloc (.cells #[.int .i64 b',.string s',.int .i64 d',.bool x',.slice a' n' c',.bool y',.slice e' m' r'] 79)).heap.size ((w.alloc (.cells #[.int .i64 b,.string s,.int .i64 d,.bool x,.slice a n c,.bool y,.slice e m r] 79)).alloc (.cells #[.int .i64 b',.string s',.int .i64 d',.bool x',.slice a' n' c',.bool y',.slice e' m' r'] 79)) w')=>And.intro (qb7 hA hb.b) (qb7 hB hb.b));have H1:=hI (fun w' (hb:Below ((w.alloc (.cells #[.int .i64 b,.string s,.int .i64 d,.bool x,.slice a n c,.bool y,.slice e m r] 79)).alloc (.cells #[.int .i64 b',.string s',.int .i64 d',.bool x',.slice a' n' c',.bool y',.slice e' m' r'] 79)).heap.size ((w.alloc (.cells #[.int .i64 b,.string s,.int .i64 d,.bool x,.slice a n c,.bool y,.slice e m r] 79)).alloc (.cells #[.int .i64 b',.string s',.int .i64 d',.bool x',.slice a' n' c',.bool y',.slice e' m' r'] 79)) w')=>qmn _ _ _ _ _ _ w' (hk.mono ((qaz w (.cells #[.int .i64 b,.string s,.int .i64 d,.bool x,.slice a n c,.bool y,.slice e m r] 79) (.cells #[.int .i64 b',.string s',.int .i64 d',.bool x',.slice a' n' c',.bool y',.slice e' m' r'] 79)).via hb (qaz w (.cells #[.int .i64 b,.string s,.int .i64 d,.bool x,.slice a n c,.bool y,.slice e m r] 79) (.cells #[.int .i64 b',.string s',.int .i64 d',.bool x',.slice a' n' c',.bool y',.slice e' m' r'] 79)).size).b) (hl.mono ((qaz w (.cells #[.int .i64 b,.string s,.int .i64 d,.bool x,.slice a n c,.bool y,.slice e m r] 79) (.cells #[.int .i64 b',.string s',.int .i64 d',.bool x',.slice a' n' c',.bool y',.slice e' m' r'] 79)).via hb (qaz w (.cells #[.int .i64 b,.string s,.int .i64 d,.bool x,.slice a n c,.bool y,.slice e m r] 79) (.cells #[.int .i64 b',.string s',.int .i64 d',.bool x',.slice a' n' c',.bool y',.slice e' m' r'] 79)).size).b) hf hf');have H2:=hI (fun p q w'=>Tryz.cmp_Compare_int p q w')
 have H3:=hI (fun bb cc p q r w' (hB:Blk w' bb #[.int .i64 p,.int .i64 q,.int .i64 r] 3)=>(or_d bb cc p q r w' hB).mono fun _ _ h=>rdR h)
 have hE:b=b'→s.toList=s'.toList→d=d'→cmpG ⟨b,s,d⟩ ⟨b',s',d'⟩=0:=fun h1 h2 h3=>by
  subst h1 h3;rw[qdm h2];exact qeo _
 have HE:=hI hE;have HC:=hI (show cmpG ⟨b,s,d⟩ ⟨b',s',d'⟩=or3 (Lib.compareInt b b') (cmpQ (numR s.data.toList) (denR s.data.toList) (numR s'.data.toList) (denR s'.data.toList)) (Lib.compareInt d d')by rw[qf9,qf9];rfl);generalize cmpG ⟨b,s,d⟩ ⟨b',s',d'⟩=R at*;generalize cmpQ (numR s.data.toList) (denR s.data.toList) (numR s'.data.toList) (denR s'.data.toList)=Z at*;have HK:=hI (qaz w (.cells #[.int .i64 b,.string s,.int .i64 d,.bool x,.slice a n c,.bool y,.slice e m r] 79) (.cells #[.int .i64 b',.string s',.int .i64 d',.bool x',.slice a' n' c',.bool y',.slice e' m' r'] 79));clear hk hl hA hB hE hf hf' hks hls
 go_enter Tryz.func73,Tryz.ntmps73
 go_wp2_with fail
 case isTrue.isTrue.isFalse=>
  clear HE;have hbb:b=b':=by assumption
  subst hbb;refine wp_region_held_drew (S:=(fun w'=>w'.cell? ⟨w.heap.size,0,none⟩=some (.int .i64 b)∧w'.cell? ⟨w.heap.size,1,none⟩=some (.string s)∧w'.cell? ⟨w.heap.size,2,none⟩=some (.int .i64 d)∧w'.cell? ⟨w.heap.size,3,none⟩=some (.bool x)∧w'.cell? ⟨w.heap.size,4,none⟩=some (.slice a n c)∧w'.cell? ⟨w.heap.size,5,none⟩=some (.bool y)∧w'.cell? ⟨w.heap.size,6,none⟩=some (.slice e m r)∧w'.cell? ⟨w.heap.size+1,0,none⟩=some (.int .i64 b)∧w'.cell? ⟨w.heap.size+1,1,none⟩=some (.string s')∧w'.cell? ⟨w.heap.size+1,2,none⟩=some (.int .i64 d')∧w'.cell? ⟨w.heap.size+1,3,none⟩=some (.bool x')∧w'.cell? ⟨w.heap.size+1,4,none⟩=some (.slice a' n' c')∧w'.cell? ⟨w.heap.size+1,5,none⟩=some (.bool y')∧w'.cell? ⟨w.heap.size+1,6,none⟩=some (.slice e' m' r'))) (by kernel_rfl) (by exact(fun h=>⟨h.1.1,h.1.2.1,h.1.2.2.1,h.1.2.2.2.1,h.1.2.2.2.2.1,h.1.2.2.2.2.2.1,h.1.2.2.2.2.2.2,h.2⟩) (HS.out _ ((Below.refl _ _).dn 1))) (fun hHeld=>?_)
  refine wpAnyH_take (i:=0) (v:=?v1) rfl (by kernel_rfl) (by kernel_rfl) (by kernel_rfl) (fun _ _ _ h=>h) (Or.inl ⟨by rfl,?hy1⟩) (by assumption) ?rest1
  case hy1=>(intro w hSw;(try dsimp only at hSw);go_simp;try(with_reducible rfl))
  try simp only[Act.put,List.getElem_toArray,List.getElem_cons_zero,List.setIfInBounds_toArray,List.set_cons_zero,List.set_cons_succ]
  refine' tk 1 ?_;(try simp only[tkS]);refine' tk 2 ?_;(try simp only[tkS]);refine' tk 3 ?_;(try simp only[tkS]);refine' tk 4 ?_;(try simp only[tkS]);refine' tk 5 ?_;(try simp only[tkS]);refine' tk 7 ?_;(try simp only[tkS]);refine' tk 8 ?_;(try simp only[tkS]);refine' tk 9 ?_;(try simp only[tkS]);refine' tk 10 ?_;(try simp only[tkS]);refine' tk 12 ?_;(try simp only[tkS]);refine' tk 13 ?_;(try simp only[tkS]);refine' tk 14 ?_;(try simp only[tkS]);refine' tk 15 ?_;(try simp only[tkS]);refine' tk 16 ?_;(try simp only[tkS]);refine' tk 17 ?_;(try simp only[tkS]);refine tk1 6 (fun K hK=>?_)
  go_simp;go_at_call 124;refine(H2.out b b _).mono ?_
  rintro e5 w5 ⟨rfl,rfl⟩;refine hK.out _ _ (by exact(fun h=>⟨h.1.1,h.1.2.1,h.1.2.2.1,h.1.2.2.2.1,h.1.2.2.2.2.1,h.1.2.2.2.2.2.1,h.1.2.2.2.2.2.2,h.2⟩) (HS.out _ ((Below.refl _ _).dn 1))) (fun hHeld=>?_)
  clear hK K;(try simp only[tkS]);refine tk1 11 (fun K hK=>?_)
  go_simp;go_at_call 64;refine(H1.out _ ((Below.refl _ _).dn 1)).mono ?_
  rintro e5 w11 ⟨rfl,hb11⟩;have Hb11:=hI (qaa ((Below.refl _ _).dn 1) hb11);clear hb11;refine hK.out _ _ (by exact(fun h=>⟨h.1.1,h.1.2.1,h.1.2.2.1,h.1.2.2.2.1,h.1.2.2.2.2.1,h.1.2.2.2.2.2.1,h.1.2.2.2.2.2.2,h.2⟩) (HS.out _ (Hb11.out))) (fun hHeld=>?_)
  clear hK K;(try simp only[tkS]);refine tk1 18 (fun K hK=>?_)
  go_simp;go_at_call 124;refine(H2.out d d' _).mono ?_
  rintro e5 w5 ⟨rfl,rfl⟩;refine hK.out _ _ (by exact(fun h=>⟨h.1.1,h.1.2.1,h.1.2.2.1,h.1.2.2.2.1,h.1.2.2.2.2.1,h.1.2.2.2.2.2.1,h.1.2.2.2.2.2.2,h.2⟩) (HS.out _ (Hb11.out))) (fun hHeld=>?_)
  clear hK K;(try simp only[tkS]);refine tk1 19 (fun K hK=>?_)
  generalize hX:Lib.compareInt b b=X1 at*;generalize hY:Lib.compareInt d d'=X3 at*;go_simp;refine hK.out _ _ (by exact(fun h=>⟨h.1.1,h.1.2.1,h.1.2.2.1,h.1.2.2.2.1,h.1.2.2.2.2.1,h.1.2.2.2.2.2.1,h.1.2.2.2.2.2.2,h.2⟩) (HS.out _ ((Hb11.out).alloc ((Hb11.out).size) (.cells #[.int .i64 X1,.int .i64 Z,.int .i64 X3] 3)))) (fun hHeld=>?_)
  clear hK K;(try simp only[tkS]);refine tk1 20 (fun K hK=>?_)
  go_simp;go_at_call 123;refine(H3.out _ _ _ _ _ _ (Blk.new _ _ _)).mono ?_
  rintro e5 w20 ⟨rfl,hb20⟩;have Hb20:=hI (qaa ((Hb11.out).alloc ((Hb11.out).size) (.cells #[.int .i64 X1,.int .i64 Z,.int .i64 X3] 3)) hb20);clear hb20;refine hK.out _ _ (by exact(fun h=>⟨h.1.1,h.1.2.1,h.1.2.2.1,h.1.2.2.2.1,h.1.2.2.2.2.1,h.1.2.2.2.2.2.1,h.1.2.2.2.2.2.2,h.2⟩) (HS.out _ (Hb20.out))) (fun hHeld=>?_)
  clear hK K;(try simp only[tkS]);refine' tk 21 ?_;(try simp only[tkS]);refine tkD ?_ _
  go_wp2_with fail
  go_ret
  exact⟨by rw[HC.out];first|rfl|skip,HK.out.via (Hb20.out) HK.out.size⟩
 case isTrue.isFalse=>
  clear HE;have hbb:b=b':=by assumption
  subst hbb;refine wp_region_held_drew (S:=(fun w'=>w'.cell? ⟨w.heap.size,0,none⟩=some (.int .i64 b)∧w'.cell? ⟨w.heap.size,1,none⟩=some (.string s)∧w'.cell? ⟨w.heap.size,2,none⟩=some (.int .i64 d)∧w'.cell? ⟨w.heap.size,3,none⟩=some (.bool x)∧w'.cell? ⟨w.heap.size,4,none⟩=some (.slice a n c)∧w'.cell? ⟨w.heap.size,5,none⟩=some (.bool y)∧w'.cell? ⟨w.heap.size,6,none⟩=some (.slice e m r)∧w'.cell? ⟨w.heap.size+1,0,none⟩=some (.int .i64 b)∧w'.cell? ⟨w.heap.size+1,1,none⟩=some (.string s')∧w'.cell? ⟨w.heap.size+1,2,none⟩=some (.int .i64 d')∧w'.cell? ⟨w.heap.size+1,3,none⟩=some (.bool x')∧w'.cell? ⟨w.heap.size+1,4,none⟩=some (.slice a' n' c')∧w'.cell? ⟨w.heap.size+1,5,none⟩=some (.bool y')∧w'.cell? ⟨w.heap.size+1,6,none⟩=some (.slice e' m' r'))) (by kernel_rfl) (by exact(fun h=>⟨h.1.1,h.1.2.1,h.1.2.2.1,h.1.2.2.2.1,h.1.2.2.2.2.1,h.1.2.2.2.2.2.1,h.1.2.2.2.2.2.2,h.2⟩) (HS.out _ ((Below.refl _ _).dn 1))) (fun hHeld=>?_)
  refine wpAnyH_take (i:=0) (v:=?v18) rfl (by kernel_rfl) (by kernel_rfl) (by kernel_rfl) (fun _ _ _ h=>h) (Or.inl ⟨by rfl,?hy18⟩) (by assumption) ?rest18
  case hy18=>(intro w hSw;(try dsimp only at hSw);go_simp;try(with_reducible rfl))
  try simp only[Act.put,List.getElem_toArray,List.getElem_cons_zero,List.setIfInBounds_toArray,List.set_cons_zero,List.set_cons_succ]
  refine' tk 1 ?_;(try simp only[tkS]);refine' tk 2 ?_;(try simp only[tkS]);refine' tk 3 ?_;(try simp only[tkS]);refine' tk 4 ?_;(try simp only[tkS]);refine' tk 5 ?_;(try simp only[tkS]);refine' tk 7 ?_;(try simp only[tkS]);refine' tk 8 ?_;(try simp only[tkS]);refine' tk 9 ?_;(try simp only[tkS]);refine' tk 10 ?_;(try simp only[tkS]);refine' tk 12 ?_;(try simp only[tkS]);refine' tk 13 ?_;(try simp only[tkS]);refine' tk 14 ?_;(try simp only[tkS]);refine' tk 15 ?_;(try simp only[tkS]);refine' tk 16 ?_;(try simp only[tkS]);refine' tk 17 ?_;(try simp only[tkS]);refine tk1 6 (fun K hK=>?_)
  go_simp;go_at_call 124;refine(H2.out b b _).mono ?_
  rintro e5 w5 ⟨rfl,rfl⟩;refine hK.out _ _ (by exact(fun h=>⟨h.1.1,h.1.2.1,h.1.2.2.1,h.1.2.2.2.1,h.1.2.2.2.2.1,h.1.2.2.2.2.2.1,h.1.2.2.2.2.2.2,h.2⟩) (HS.out _ ((Below.refl _ _).dn 1))) (fun hHeld=>?_)
  clear hK K;(try simp only[tkS]);refine tk1 11 (fun K hK=>?_)
  go_simp;go_at_call 64;refine(H1.out _ ((Below.refl _ _).dn 1)).mono ?_
  rintro e5 w11 ⟨rfl,hb11⟩;have Hb11:=hI (qaa ((Below.refl _ _).dn 1) hb11);clear hb11;refine hK.out _ _ (by exact(fun h=>⟨h.1.1,h.1.2.1,h.1.2.2.1,h.1.2.2.2.1,h.1.2.2.2.2.1,h.1.2.2.2.2.2.1,h.1.2.2.2.2.2.2,h.2⟩) (HS.out _ (Hb11.out))) (fun hHeld=>?_)
  clear hK K;(try simp only[tkS]);refine tk1 18 (fun K hK=>?_)
  go_simp;go_at_call 124;refine(H2.out d d' _).mono ?_
  rintro e5 w5 ⟨rfl,rfl⟩;refine hK.out _ _ (by exact(fun h=>⟨h.1.1,h.1.2.1,h.1.2.2.1,h.1.2.2.2.1,h.1.2.2.2.2.1,h.1.2.2.2.2.2.1,h.1.2.2.2.2.2.2,h.2⟩) (HS.out _ (Hb11.out))) (fun hHeld=>?_)
  clear hK K;(try simp only[tkS]);refine tk1 19 (fun K hK=>?_)
  generalize hX:Lib.compareInt b b=X1 at*;generalize hY:Lib.compareInt d d'=X3 at*;go_simp;refine hK.out _ _ (by exact(fun h=>⟨h.1.1,h.1.2.1,h.1.2.2.1,h.1.2.2.2.1,h.1.2.2.2.2.1,h.1.2.2.2.2.2.1,h.1.2.2.2.2.2.2,h.2⟩) (HS.out _ ((Hb11.out).alloc ((Hb11.out).size) (.cells #[.int .i64 X1,.int .i64 Z,.int .i64 X3] 3)))) (fun hHeld=>?_)
  clear hK K;(try simp only[tkS]);refine tk1 20 (fun K hK=>?_)
  go_simp;go_at_call 123;refine(H3.out _ _ _ _ _ _ (Blk.new _ _ _)).mono ?_
  rintro e5 w20 ⟨rfl,hb20⟩;have Hb20:=hI (qaa ((Hb11.out).alloc ((Hb11.out).size) (.cells #[.int .i64 X1,.int .i64 Z,.int .i64 X3] 3)) hb20);clear hb20;refine hK.out _ _ (by exact(fun h=>⟨h.1.1,h.1.2.1,h.1.2.2.1,h.1.2.2.2.1,h.1.2.2.2.2.1,h.1.2.2.2.2.2.1,h.1.2.2.2.2.2.2,h.2⟩) (HS.out _ (Hb20.out))) (fun hHeld=>?_)
  clear hK K;(try simp only[tkS]);refine' tk 21 ?_;(try simp only[tkS]);refine tkD ?_ _
  go_wp2_with fail
  go_ret
  exact⟨by rw[HC.out];first|rfl|skip,HK.out.via (Hb20.out) HK.out.size⟩
 case isFalse=>
  clear HE;refine wp_region_held_drew (S:=(fun w'=>w'.cell? ⟨w.heap.size,0,none⟩=some (.int .i64 b)∧w'.cell? ⟨w.heap.size,1,none⟩=some (.string s)∧w'.cell? ⟨w.heap.size,2,none⟩=some (.int .i64 d)∧w'.cell? ⟨w.heap.size,3,none⟩=some (.bool x)∧w'.cell? ⟨w.heap.size,4,none⟩=some (.slice a n c)∧w'.cell? ⟨w.heap.size,5,none⟩=some (.bool y)∧w'.cell? ⟨w.heap.size,6,none⟩=some (.slice e m r)∧w'.cell? ⟨w.heap.size+1,0,none⟩=some (.int .i64 b')∧w'.cell? ⟨w.heap.size+1,1,none⟩=some (.string s')∧w'.cell? ⟨w.heap.size+1,2,none⟩=some (.int .i64 d')∧w'.cell? ⟨w.heap.size+1,3,none⟩=some (.bool x')∧w'.cell? ⟨w.heap.size+1,4,none⟩=some (.slice a' n' c')∧w'.cell? ⟨w.heap.size+1,5,none⟩=some (.bool y')∧w'.cell? ⟨w.heap.size+1,6,none⟩=some (.slice e' m' r'))) (by kernel_rfl) (by exact(fun h=>⟨h.1.1,h.1.2.1,h.1.2.2.1,h.1.2.2.2.1,h.1.2.2.2.2.1,h.1.2.2.2.2.2.1,h.1.2.2.2.2.2.2,h.2⟩) (HS.out _ ((Below.refl _ _).dn 1))) (fun hHeld=>?_)
  refine wpAnyH_take (i:=0) (v:=?v35) rfl (by kernel_rfl) (by kernel_rfl) (by kernel_rfl) (fun _ _ _ h=>h) (Or.inl ⟨by rfl,?hy35⟩) (by assumption) ?rest35
  case hy35=>(intro w hSw;(try dsimp only at hSw);go_simp;try(with_reducible rfl))
  try simp only[Act.put,List.getElem_toArray,List.getElem_cons_zero,List.setIfInBounds_toArray,List.set_cons_zero,List.set_cons_succ]
  refine' tk 1 ?_;(try simp only[tkS]);refine' tk 2 ?_;(try simp only[tkS]);refine' tk 3 ?_;(try simp only[tkS]);refine' tk 4 ?_;(try simp only[tkS]);refine' tk 5 ?_;(try simp only[tkS]);refine' tk 7 ?_;(try simp only[tkS]);refine' tk 8 ?_;(try simp only[tkS]);refine' tk 9 ?_;(try simp only[tkS]);refine' tk 10 ?_;(try simp only[tkS]);refine' tk 12 ?_;(try simp only[tkS]);refine' tk 13 ?_;(try simp only[tkS]);refine' tk 14 ?_;(try simp only[tkS]);refine' tk 15 ?_;(try simp only[tkS]);refine' tk 16 ?_;(try simp only[tkS]);refine' tk 17 ?_;(try simp only[tkS]);refine tk1 6 (fun K hK=>?_)
  go_simp;go_at_call 124;refine(H2.out b b' _).mono ?_
  rintro e5 w5 ⟨rfl,rfl⟩;refine hK.out _ _ (by exact(fun h=>⟨h.1.1,h.1.2.1,h.1.2.2.1,h.1.2.2.2.1,h.1.2.2.2.2.1,h.1.2.2.2.2.2.1,h.1.2.2.2.2.2.2,h.2⟩) (HS.out _ ((Below.refl _ _).dn 1))) (fun hHeld=>?_)
  clear hK K;(try simp only[tkS]);refine tk1 11 (fun K hK=>?_)
  go_simp;go_at_call 64;refine(H1.out _ ((Below.refl _ _).dn 1)).mono ?_
  rintro e5 w11 ⟨rfl,hb11⟩;have Hb11:=hI (qaa ((Below.refl _ _).dn 1) hb11);clear hb11;refine hK.out _ _ (by exact(fun h=>⟨h.1.1,h.1.2.1,h.1.2.2.1,h.1.2.2.2.1,h.1.2.2.2.2.1,h.1.2.2.2.2.2.1,h.1.2.2.2.2.2.2,h.2⟩) (HS.out _ (Hb11.out))) (fun hHeld=>?_)
  clear hK K;(try simp only[tkS]);refine tk1 18 (fun K hK=>?_)
  go_simp;go_at_call 124;refine(H2.out d d' _).mono ?_
  rintro e5 w5 ⟨rfl,rfl⟩;refine hK.out _ _ (by exact(fun h=>⟨h.1.1,h.1.2.1,h.1.2.2.1,h.1.2.2.2.1,h.1.2.2.2.2.1,h.1.2.2.2.2.2.1,h.1.2.2.2.2.2.2,h.2⟩) (HS.out _ (Hb11.out))) (fun hHeld=>?_)
  clear hK K;(try simp only[tkS]);refine tk1 19 (fun K hK=>?_)
  generalize hX:Lib.compareInt b b'=X1 at*;generalize hY:Lib.compareInt d d'=X3 at*;go_simp;refine hK.out _ _ (by exact(fun h=>⟨h.1.1,h.1.2.1,h.1.2.2.1,h.1.2.2.2.1,h.1.2.2.2.2.1,h.1.2.2.2.2.2.1,h.1.2.2.2.2.2.2,h.2⟩) (HS.out _ ((Hb11.out).alloc ((Hb11.out).size) (.cells #[.int .i64 X1,.int .i64 Z,.int .i64 X3] 3)))) (fun hHeld=>?_)
  clear hK K;(try simp only[tkS]);refine tk1 20 (fun K hK=>?_)
  go_simp;go_at_call 123;refine(H3.out _ _ _ _ _ _ (Blk.new _ _ _)).mono ?_
  rintro e5 w20 ⟨rfl,hb20⟩;have Hb20:=hI (qaa ((Hb11.out).alloc ((Hb11.out).size) (.cells #[.int .i64 X1,.int .i64 Z,.int .i64 X3] 3)) hb20);clear hb20;refine hK.out _ _ (by exact(fun h=>⟨h.1.1,h.1.2.1,h.1.2.2.1,h.1.2.2.2.1,h.1.2.2.2.2.1,h.1.2.2.2.2.2.1,h.1.2.2.2.2.2.2,h.2⟩) (HS.out _ (Hb20.out))) (fun hHeld=>?_)
  clear hK K;(try simp only[tkS]);refine' tk 21 ?_;(try simp only[tkS]);refine tkD ?_ _
  go_wp2_with fail
  go_ret
  exact⟨by rw[HC.out];first|rfl|skip,HK.out.via (Hb20.out) HK.out.size⟩
 have hcc:R=0:=HE.out (by assumption) (by assumption) (by assumption);rw[hcc]
 go_ret
 exact⟨rfl,qaz w _ _⟩
end Dr
theorem qcu(k l:GC)(w:World)(hk:k.ok w)(hl:l.ok w):Calls Tryz.prog 73 #[k.agg,l.agg] w (Ret (.int .i64 (cmpG k.c l.c)) w):=(Dr.qcu k l w hk hl).mono fun _ _ h=>h.n
end Go.Proofs.YtacihodamichhaaGreatDoor
namespace Go.Proofs.YtacihodamichhaaGreatDoor
open Go.RowKit
theorem qa9{w w':World}{b:Nat}{x0 x1 x2 x3 x4 x5 x6 x7 x8 x9 x10 x11 x12 x13:Value}{T:TypeId}(h:Blk w b #[x0,x1,x2,x3,x4,x5,x6,x7,x8,x9,x10,x11,x12,x13] T)(hb:Below w.heap.size w w'):
  w'.cell? ⟨b,0,none⟩=some x0∧w'.cell? ⟨b,1,none⟩=some x1∧w'.cell? ⟨b,2,none⟩=some x2∧w'.cell? ⟨b,3,none⟩=some x3∧w'.cell? ⟨b,4,none⟩=some x4∧w'.cell? ⟨b,5,none⟩=some x5∧w'.cell? ⟨b,6,none⟩=some x6∧w'.cell? ⟨b,7,none⟩=some x7∧w'.cell? ⟨b,8,none⟩=some x8∧w'.cell? ⟨b,9,none⟩=some x9∧w'.cell? ⟨b,10,none⟩=some x10∧w'.cell? ⟨b,11,none⟩=some x11∧w'.cell? ⟨b,12,none⟩=some x12∧w'.cell? ⟨b,13,none⟩=some x13:=by
 have h':=h.below hb;exact⟨by rw[h'.cell];rfl,by rw[h'.cell];rfl,by rw[h'.cell];rfl,by rw[h'.cell];rfl,by rw[h'.cell];rfl,by rw[h'.cell];rfl,by rw[h'.cell];rfl,by rw[h'.cell];rfl,by rw[h'.cell];rfl,by rw[h'.cell];rfl,by rw[h'.cell];rfl,by rw[h'.cell];rfl,by rw[h'.cell];rfl,by rw[h'.cell];rfl⟩
theorem qul{w:World}{b:Nat}{cs:Array Value}{T:TypeId}(h:Blk w b cs T):
  w.frozen? ⟨b,0,none⟩=false∧w.frozen? ⟨b,1,none⟩=false∧w.frozen? ⟨b,2,none⟩=false∧w.frozen? ⟨b,3,none⟩=false∧w.frozen? ⟨b,4,none⟩=false∧w.frozen? ⟨b,5,none⟩=false∧w.frozen? ⟨b,6,none⟩=false∧w.frozen? ⟨b,7,none⟩=false∧w.frozen? ⟨b,8,none⟩=false∧w.frozen? ⟨b,9,none⟩=false∧w.frozen? ⟨b,10,none⟩=false∧w.frozen? ⟨b,11,none⟩=false∧w.frozen? ⟨b,12,none⟩=false∧w.frozen? ⟨b,13,none⟩=false:=
 ⟨h.free 0,h.free 1,h.free 2,h.free 3,h.free 4,h.free 5,h.free 6,h.free 7,h.free 8,h.free 9,h.free 10,h.free 11,h.free 12,h.free 13⟩
theorem qxb{b d b' d':Int}{s s':ByteArray}{x x' y y':Bool}{a a' e e':Option Addr}{n c n' c' m k m' k':Nat}:NoU #[.int .i64 b,.string s,.int .i64 d,.bool x,.slice a n c,.bool x',.slice a' n' c',.int .i64 b',.string s',.int .i64 d',.bool y,.slice e m k,.bool y',.slice e' m' k']:=by
 intro v hv d';simp at hv;rcases hv with rfl|rfl|rfl|rfl|rfl|rfl|rfl|rfl|rfl|rfl|rfl|rfl|rfl|rfl<;>simp
structure Iv where
 lo:ByteArray
 hi:ByteArray
 le:Int
 he:Int
def Iv.agg(x:Iv):Value:=.agg #[.string x.lo,.string x.hi,.int .i64 x.le,.int .i64 x.he]
def Iv.low(x:Iv):Cut:=qd5 x.lo x.le 1
def Iv.high(x:Iv):Cut:=qd5 x.hi x.he (-1)
def qd0(c:Cut)(side:Int):Int:=if c.b≠0 then 2 else if c.d=side then 0 else 1
end Go.Proofs.YtacihodamichhaaGreatDoor
namespace Go.Proofs.YtacihodamichhaaGreatDoor
open Go.RowKit
def Iv.row(x:Iv):List Value:=[.string x.lo,.string x.hi,.int .i64 x.le,.int .i64 x.he]
structure PP where
 l:CC
 h:CC
def Iv.cuts(x:Iv):Cut × Cut:=(x.low,x.high)
def Ivs(w:World)(v:Value)(xs:List Iv):Prop:=Sl w 4 v (xs.map Iv.row)
theorem Ivs.mono{w w':World}{v:Value}{xs:List Iv}(h:Ivs w v xs)(hb:Below w.heap.size w w'):Ivs w' v xs:=Sl.mono h hb
theorem Ivs.open{w:World}{v:Value}{xs:List Iv}(h:Ivs w v xs):∃a cap,v=.slice a xs.length cap∧xs.length≤cap∧cap≤maxLen:=by
 have:=Sl.open h;simpa using this
theorem Ivs.at{w wr:World}{n cap:Nat}{a:Option Addr}{xs:List Iv}(h:Ivs w (.slice a n cap) xs)(hb:Below w.heap.size w wr){k:Nat}(hk:k<n):
  ∃b off x,a=some ⟨b,off,none⟩∧xs[k]?=some x∧wr.cell? ⟨b,off+k*4,none⟩=some (.string x.lo)∧wr.cell? ⟨b,off+k*4+1,none⟩=some (.string x.hi)∧wr.cell? ⟨b,off+k*4+2,none⟩=some (.int .i64 x.le)∧wr.cell? ⟨b,off+k*4+3,none⟩=some (.int .i64 x.he):=by
 obtain⟨b,off,ha,hlt,r,hr,hc⟩:=Sl.row h hb hk;simp only[List.getElem?_map,Option.map_eq_some_iff]at hr;obtain⟨l,hl,rfl⟩:=hr;exact⟨b,off,l,ha,hl,hc 0 (by decide),hc 1 (by decide),hc 2 (by decide),hc 3 (by decide)⟩
theorem qb5{α:Type}(f:α→List Value)(ps:List α)(p:α):(ps.map f).flatten++f p=((ps++[p]).map f).flatten:=by simp
theorem qhk{w:World}{B n:Nat}{v:Value}{xs:List Iv}(h:w.ownsRow B 46 4 v n ((xs.map Iv.row).flatten)):Ivs w v xs:=
 Sl.own h (fun r hr=>by obtain⟨p,_,rfl⟩:=List.mem_map.1 hr;rfl) (by decide)
theorem EP:ElemTy 80 84 14 192:=⟨Tryz.underlying80,by kernel_rfl⟩
theorem EI:ElemTy 22 46 4 48:=⟨Tryz.underlying22,by kernel_rfl⟩
theorem EC:ElemTy 68 79 7 96:=⟨Tryz.underlying68,by kernel_rfl⟩
theorem one4(x:Iv):∀u∈x.row,u.oneCell'=true:=by
 intro u hu;simp[Iv.row]at hu;rcases hu with rfl|rfl|rfl|rfl<;>rfl
end Go.Proofs.YtacihodamichhaaGreatDoor
namespace Go.Proofs.YtacihodamichhaaGreatDoor
open Go.RowKit
theorem geti{α:Type}{l:List α}{k:Nat}{x:α}(h:l[k]?=some x):l.take (k+1)=l.take k++[x]:=by rw[List.take_add_one,h];rfl
end Go.Proofs.YtacihodamichhaaGreatDoor
namespace Go.Proofs.YtacihodamichhaaGreatDoor
open Go.RowKit
theorem qrt(w:World):Below w.heap.size w w.drew:=⟨rfl,rfl,rfl,Nat.le_refl _,fun _ _=>rfl⟩
theorem qtp(n:Nat)(w:World)(hn:n≤1000):Calls Tryz.prog 170 #[.slice none 0 0,.int .i64 n] w (RetP (fun v w'=>w'.ownsRow w.heap.size 84 14 v 0 []∧∃a c,v=.slice a 0 c) w):=by
 have hi:(Tryz.prog.info? 84).map (fun i=>(i.zero.map fun z=>z.cells.size,i.size,i.bytes))=some (some 14,14,192):=EP.info;simp only[Option.map_eq_some_iff,Prod.mk.injEq]at hi;obtain⟨i,hi,⟨z,hz,hzs⟩,hsize,hby⟩:=hi;rcases Nat.eq_zero_or_pos n with rfl|hpos
 ·have h:=Any8.slices_Grow_room Tryz.growP none 0 0 0 w (by omega) (by omega) (by omega) (by omega)
  change Calls Tryz.prog 170 _ _ _ at h
  exact h.mono fun e w' ⟨he,hw⟩=>⟨_,he,⟨by subst hw;exact World.ownsRow_nil _ _ _ _,_,_,rfl⟩,by subst hw;exact Below.refl _ _⟩
 ·have h:=Any8.slices_Grow_grow Tryz.growP i z hi hz (by omega) none 0 0 n [] w (by omega) (by omega) (by rw[hby];omega) (by omega) (by simp) (fun _=>rfl) (fun a ha=>by cases ha)
  change Calls Tryz.prog 170 _ _ _ at h
  refine h.mono fun e w' ⟨he,hw⟩=>?_
  subst hw;have hblk:=Blk.new w.drew (([]:List Value).toArray++Builtin.zeroCells z.cells (0+n-0)++Builtin.zeroCells z.cells (grownCap w (0+n) 0 84-(0+n))) 84;refine⟨_,he,⟨⟨rfl,.inr ⟨w.heap.size,_,_,rfl,Nat.le_refl _,hblk,Nat.zero_le _,grownCap_le_maxLen w _ _ _ (by unfold maxLen;omega),?_,rfl⟩⟩,_,_,rfl⟩,(qrt w).alloc (Nat.le_refl _) _⟩
  have hge:=grownCap_ge w (0+n) 0 84
  show _=grownCap w (0+n) 0 84*14
  rw[Array.size_append,Array.size_append,size_zeroCells,size_zeroCells,hzs]
  show 0+(0+n-0)*14+(grownCap w (0+n) 0 84-(0+n))*14=_
  omega
theorem qt8{ops:Array Oper}{rest:List Oper}{o:Oper}{a:Act}{Q:Exit→Act→World→Prop}{W:World}(hgd:o.guard=none)(s x:Operand)(ho:o.op=.call { callee:=.builtin .append,args:=#[s,x],argTypes:=#[80,80] })
  (b d:Option Addr) (k cap c m:Nat) (hm:m=0) (hs:a.eval s=.slice b k cap) (hx:a.eval x=.slice d m c) (hk:k≤cap) (h:wpList Tryz.prog ops Q rest (a.put o.dst (.slice b k cap)) W):wpList Tryz.prog ops Q (o::rest) a W:=by
 subst hm;have hi:=EP.info;simp only[Option.map_eq_some_iff,Prod.mk.injEq]at hi;obtain⟨i,hi,⟨z,hz,hzs⟩,hsize,hby⟩:=hi
 have hr:(Builtin.append_ #[80,80] o.type #[.slice b k cap,.slice d 0 c]).run Tryz.prog W=.ok (.slice b k cap) W:=by
  cases b<;>cases d<;>simp[Builtin.append_,run_underlying EP.und,sizeOf,typeInfo,hi,Builtin.lenOf,Builtin.firstCells,loadCells,loadCellsFrom,hk,storeCells]
 refine wpList_plain hgd fun _ hK=>?_
 unfold Oper.wp execOp;simp only[ho,resolve,invoke,builtin,Sem.run_bind,Sem.run_pure,Result.andThen_ok,List.map_toArray,List.map_cons,List.map_nil,hs,hx,hr];exact hK _ _ h
end Go.Proofs.YtacihodamichhaaGreatDoor
namespace Go.Proofs.YtacihodamichhaaGreatDoor
open Go.RowKit
theorem qg7{w w':World}(h1:w'.heap=w.heap)(h2:w'.tape=w.tape)(h3:w'.drawn=w.drawn)(h4:w'.os=w.os)(h5:w'.output=w.output):w'=w:=by
 cases w;cases w';simp_all
theorem qtz(w:World)(q:Nat):w.drewN q={ w with drawn:=w.drawn+q }:=by
 induction q generalizing w with
 |zero=>rfl
 |succ n ih=>first|rfl|(rw[World.drewN,ih];simp[World.drew];omega)
theorem qsd{W w':World}(h:BD W w'):∃q os',w'=Go.Sort.grow (W.drewN q) os':=by
 refine⟨w'.drawn-W.drawn,w'.heap.extract W.heap.size w'.heap.size,?_⟩
 rw[qtz];refine qg7 ?_ h.1.tape ?_ h.1.os h.1.output
 ·show w'.heap=W.heap++w'.heap.extract W.heap.size w'.heap.size
  apply Array.ext_getElem?
  intro i;rcases Nat.lt_or_ge i W.heap.size with hi|hi
  ·rw[h.1.block i hi,Array.getElem?_append_left hi]
  ·rw[Array.getElem?_append_right hi,Array.getElem?_extract]
   split
   ·congr 1;omega
   ·rename_i hn
    rw[Array.getElem?_eq_none]
    omega
 ·show w'.drawn=W.drawn+(w'.drawn-W.drawn)
  have:=h.2
  omega
theorem qdc{α:Type}[Inhabited α](enc:α→List Value)(k:Nat)(w:World)(blk off m:Nat)(d:Array α)(os:Array Obj):w.grownBy (sortWorldK enc k w blk off m d os) (some blk):=by
 refine⟨rfl,rfl,rfl,?_,fun b hb hne=>?_⟩
 ·show w.heap.size≤((Go.Sort.putRowK enc k (Go.Sort.ahead w m) blk off d).heap++os).size
  rw[Array.size_append];have:(Go.Sort.putRowK enc k (Go.Sort.ahead w m) blk off d).heap.size=w.heap.size:=Go.Sort.size_putRow _ _ _ _ _
  omega
 ·show((Go.Sort.putRowK enc k (Go.Sort.ahead w m) blk off d).heap++os)[b]?=w.heap[b]?
  have hs:(Go.Sort.putRowK enc k (Go.Sort.ahead w m) blk off d).heap.size=w.heap.size:=Go.Sort.size_putRow _ _ _ _ _;rw[Array.getElem?_append_left (by omega)];unfold Go.Sort.putRowK Go.Sort.putRow Go.Sort.mapBlock;have hne2:blk≠b:=fun e=>hne (by rw[e])
  first
   |simp[Array.getElem?_modify,hne2]
   |(simp only[Go.Sort.ahead];rw[Array.getElem?_modify];simp[hne2])
theorem qgp{β:Type}(cells:β→List Value)(sz:Nat)(hlen:∀x,(cells x).length=sz)(hsz:0<sz){α:Type}[Inhabited α](val:α→β)(d:Array α)(w:World){B e g cap:Nat}
  (hown:w.ownsRow B e sz (.slice (some ⟨g,0,none⟩) d.size cap) d.size (((d.toList.map val).map cells).flatten)):Go.Sort.HoldsK (fun a=>cells (val a)) sz w g 0 d:=by
 intro t ht;rw[Go.Sort.size_flatK]at ht;have hi:t/sz<d.size:=Nat.div_lt_of_lt_mul (by rwa [Nat.mul_comm]at ht);have hj:t%sz<sz:=Nat.mod_lt _ hsz
 have hrl:∀r∈(d.toList.map val).map cells,r.length=sz:=fun r hr=>by
  obtain⟨p,_,rfl⟩:=List.mem_map.1 hr;exact hlen p
 have hrn:((d.toList.map val).map cells).length=d.size:=by simp
 have hf:=qf5 hrl (i:=t/sz) (j:=t%sz) (by rw[hrn];exact hi) hj;rw[Nat.div_add_mod']at hf;have hc:=hown.cells (g:=g) rfl t _ hf;have ha:(⟨g,0,none⟩:Addr).add t=⟨g,0+t,none⟩:=by unfold Addr.add;split<;>simp_all
 rw[ha]at hc;refine⟨?_,?_⟩
 ·rw[hc,Go.Sort.get_flatK _ _ _ _ ht]
  congr 1
  simp only[id]
  have e1:((d.toList.map val).map cells).getD (t/sz) []=cells (val d[t/sz]!):=by
   rw[List.getD_eq_getElem?_getD,List.getElem?_map,List.getElem?_map,Array.getElem?_toList,Array.getElem?_eq_getElem hi,getElem!_pos d (t/sz) hi]
   rfl
  rw[e1];have hj2:t%sz<(cells (val d[t/sz]!)).length:=by rw[hlen];exact hj
  rw[List.getD_eq_getElem?_getD,List.getElem?_eq_getElem hj2,getElem!_pos (cells (val d[t/sz]!)) (t%sz) hj2]
  rfl
 ·rcases hown.2 with⟨hv,_⟩|⟨g',cap',cur,hv,-,hgb,-⟩
  ·cases hv
  ·cases hv
   exact frozen_of_row w g _ cur _ hgb
theorem qhc{β:Type}(cells:β→List Value)(sz:Nat)(hlen:∀x,(cells x).length=sz){α:Type}[Inhabited α](val:α→β)(d:Array α)(w:World){g cap:Nat}
  (h:Go.Sort.HoldsK (fun a=>cells (val a)) sz w g 0 d) (hg:g<w.heap.size) (hc:d.size≤cap) (hm:cap≤maxLen):Sl w sz (.slice (some ⟨g,0,none⟩) d.size cap) ((d.toList.map val).map cells):=by
 have hrn:((d.toList.map val).map cells).length=d.size:=by simp
 refine⟨_,_,by rw[hrn],by rw[hrn];exact hc,hm,.inr ⟨g,0,rfl,hg,fun i j hi hj=>?_⟩⟩
 rw[hrn]at hi;have:=(h.cell hi hj).1;rw[this]
 congr 1
 have e1:((d.toList.map val).map cells).getD i []=cells (val d[i]!):=by
  rw[List.getD_eq_getElem?_getD,List.getElem?_map,List.getElem?_map,Array.getElem?_toList,Array.getElem?_eq_getElem hi,getElem!_pos d i hi]
  rfl
 rw[e1];have hj2:j<(cells (val d[i]!)).length:=by rw[hlen];exact hj
 rw[List.getD_eq_getElem?_getD,List.getElem?_eq_getElem hj2,getElem!_pos (cells (val d[i]!)) j hj2]
 rfl
end Go.Proofs.YtacihodamichhaaGreatDoor
