/- Parts of the proof. -/
import Derived.Test.YtacihodamichhaaGreatDoorC15
set_option maxHeartbeats 8000000
namespace Go.Proofs.YtacihodamichhaaGreatDoor
open Go.RowKit
theorem qo0{M k:Nat}(h:M<10^k)(hk:k≤900000):Few M:=qbt h hk
theorem qrc{l:List UInt8}(h:errL l=0):AllD (absL (topL l))∧(divB l=true→AllD (botL l)):=by
 unfold errL at h
 split at h
 ·exact absurd h (by decide)
 ·rename_i h1
  simp only[Bool.or_eq_true,Bool.not_eq_true',Bool.and_eq_true,not_or,Bool.not_eq_false,not_and]at h1;exact⟨(qaj.1 h1.1).2,fun hd=>(qaj.1 (h1.2 hd)).2⟩
theorem qo2{l:List UInt8}(hl:l.length≤5000):FewR (numR l) (denR l):=by
 unfold FewR numR denR
 by_cases h0:errL l=0
 ·rw[if_pos h0,if_pos h0]
  obtain⟨h1,h2⟩:=qrc h0;refine⟨?_,?_⟩
  ·unfold numL
   rw[qbk];exact qo0 (qay h1) (Nat.le_trans (qfg _) (Nat.le_trans (qey l) (by omega)))
  ·unfold denL
   by_cases hd:divB l=true
   ·rw[if_pos hd]
    unfold dn
    split
    ·exact qbt (k:=1) (by decide) (by decide)
    ·exact qo0 (qay (h2 hd)) (Nat.le_trans (qga l) (by omega))
   ·rw[if_neg hd]
    exact qbt (k:=1) (by decide) (by decide)
 ·rw[if_neg h0,if_neg h0]
  exact⟨qbt (k:=1) (by decide) (by decide),qbt (k:=1) (by decide) (by decide)⟩
def cmpG(x y:Cut):Int:=or3 (cmpZ x.b y.b) (cmpQ (numR x.s.data.toList) (denR x.s.data.toList) (numR y.s.data.toList) (denR y.s.data.toList)) (cmpZ x.d y.d)
theorem qee(x:Cut):cmpG x x=0:=by
 unfold cmpG cmpQ or3;rw[(@qcd x.b x.b).2 rfl,(@qcd x.d x.d).2 rfl,(qcd).2 rfl]
 rfl
structure GC where
 c:Cut
 x:Bool
 a:Option Addr
 n:Nat
 cap:Nat
 y:Bool
 e:Option Addr
 m:Nat
 cap2:Nat
def GC.cells(k:GC):List Value:=[.int .i64 k.c.b,.string k.c.s,.int .i64 k.c.d,.bool k.x,.slice k.a k.n k.cap,.bool k.y,.slice k.e k.m k.cap2]
def GC.agg(k:GC):Value:=.agg #[.int .i64 k.c.b,.string k.c.s,.int .i64 k.c.d,.bool k.x,.slice k.a k.n k.cap,.bool k.y,.slice k.e k.m k.cap2]
def GC.ok(w:World)(k:GC):Prop:=RatV w (.agg #[.bool k.x,.slice k.a k.n k.cap,.bool k.y,.slice k.e k.m k.cap2]) (numR k.c.s.data.toList) (denR k.c.s.data.toList)∧(AU w k.a∧AU w k.e)∧k.c.s.size≤5000
theorem GC.ok.mono{w w':World}{k:GC}(h:k.ok w)(hb:Below w.heap.size w w'):k.ok w':=⟨h.1.mono hb,⟨h.2.1.1.mono hb,h.2.1.2.mono hb⟩,h.2.2⟩
theorem RatV.grown{w w':World}{B e sz n k c k' c':Nat}{v:Value}{xs:List Value}{x x':Bool}{a a':Option Addr}{p q:Int}(h:RatV w (.agg #[.bool x,.slice a k c,.bool x',.slice a' k' c']) p q)(ha:AU w a)(ha':AU w a')(hown:w.ownsRow B e sz v n xs)(he:e≠62)(hg:w.grownBy w' v.ownBlock):RatV w' (.agg #[.bool x,.slice a k c,.bool x',.slice a' k' c']) p q:=
 RatV.mk (h.parts.1.grown ha hown he hg) (h.parts.2.grown ha' hown he hg)
theorem GC.ok.grown{w w':World}{B e sz n:Nat}{v:Value}{xs:List Value}{k:GC}(h:k.ok w)(hown:w.ownsRow B e sz v n xs)(he:e≠62)(hg:w.grownBy w' v.ownBlock):k.ok w':=⟨h.1.grown h.2.1.1 h.2.1.2 hown he hg,⟨h.2.1.1.grown hown he hg,h.2.1.2.grown hown he hg⟩,h.2.2⟩
namespace Dr
theorem qcr(k l:GC)(w:World)(hk:k.ok w)(hl:l.ok w):Calls Tryz.prog 73 #[k.agg,l.agg] w (Ret (.int .i64 (cmpG k.c l.c)) w):=by
 unfold GC.agg;obtain⟨hk,-,hks⟩:=hk;obtain⟨hl,-,hls⟩:=hl;obtain⟨⟨b,s,d⟩,x,a,n,c,y,e,m,r⟩:=k;obtain⟨⟨b',s',d'⟩,x',a',n',c',y',e',m',r'⟩:=l;dsimp only at hk hl hks hls⊢;have hf:=qo2 (l:=s.data.toList) (by rw[←Lib.size_eq];exact hks);have hf':=qo2 (l:=s'.data.toList) (by rw[←Lib.size_eq];exact hls);have hA:Blk ((w.alloc (.cells #[.int .i64 b,.string s,.int .i64 d,.bool x,.slice a n c,.bool y,.slice e m r] 79)).alloc (.cells #[.int .i64 b',.string s',.int .i64 d',.bool x',.slice a' n' c',.bool y',.slice e' m' r'] 79)) w.heap.size #[.int .i64 b,.string s,.int .i64 d,.bool x,.slice a n c,.bool y,.slice e m r] 79:=(Blk.new w _ _).old _
 have hB:Blk ((w.alloc (.cells #[.int .i64 b,.string s,.int .i64 d,.bool x,.slice a n c,.bool y,.slice e m r] 79)).alloc (.cells #[.int .i64 b',.string s',.int .i64 d',.bool x',.slice a' n' c',.bool y',.slice e' m' r'] 79)) (w.heap.size+1) #[.int .i64 b',.string s',.int .i64 d',.bool x',.slice a' n' c',.bool y',.slice e' m' r'] 79:=by
  have h:=Blk.new (w.alloc (.cells #[.int .i64 b,.string s,.int .i64 d,.bool x,.slice a n c,.bool y,.slice e m r] 79)) #[.int .i64 b',.string s',.int .i64 d',.bool x',.slice a' n' c',.bool y',.slice e' m' r'] 79
  simpa using h
 have HS:=hI (fun w' (hb:Below ((w.alloc (.cells #[.int .i64 b,.string s,.int .i64 d,.bool x,.slice a n c,.bool y,.slice e m r] 79)).alloc (.cells #[.int .i64 b',.string s',.int .i64 d',.bool x',.slice a' n' c',.bool y',.slice e' m' r'] 79)).heap.size ((w.alloc (.cells #[.int .i64 b,.string s,.int .i64 d,.bool x,.slice a n c,.bool y,.slice e m r] 79)).alloc (.cells #[.int .i64 b',.string s',.int .i64 d',.bool x',.slice a' n' c',.bool y',.slice e' m' r'] 79)) w')=>And.intro (qa5 hA hb.b) (qa5 hB hb.b));have H1:=hI (fun w' (hb:Below ((w.alloc (.cells #[.int .i64 b,.string s,.int .i64 d,.bool x,.slice a n c,.bool y,.slice e m r] 79)).alloc (.cells #[.int .i64 b',.string s',.int .i64 d',.bool x',.slice a' n' c',.bool y',.slice e' m' r'] 79)).heap.size ((w.alloc (.cells #[.int .i64 b,.string s,.int .i64 d,.bool x,.slice a n c,.bool y,.slice e m r] 79)).alloc (.cells #[.int .i64 b',.string s',.int .i64 d',.bool x',.slice a' n' c',.bool y',.slice e' m' r'] 79)) w')=>qnu _ _ _ _ _ _ w' (hk.mono ((qa2 w (.cells #[.int .i64 b,.string s,.int .i64 d,.bool x,.slice a n c,.bool y,.slice e m r] 79) (.cells #[.int .i64 b',.string s',.int .i64 d',.bool x',.slice a' n' c',.bool y',.slice e' m' r'] 79)).via hb (qa2 w (.cells #[.int .i64 b,.string s,.int .i64 d,.bool x,.slice a n c,.bool y,.slice e m r] 79) (.cells #[.int .i64 b',.string s',.int .i64 d',.bool x',.slice a' n' c',.bool y',.slice e' m' r'] 79)).size).b) (hl.mono ((qa2 w (.cells #[.int .i64 b,.string s,.int .i64 d,.bool x,.slice a n c,.bool y,.slice e m r] 79) (.cells #[.int .i64 b',.string s',.int .i64 d',.bool x',.slice a' n' c',.bool y',.slice e' m' r'] 79)).via hb (qa2 w (.cells #[.int .i64 b,.string s,.int .i64 d,.bool x,.slice a n c,.bool y,.slice e m r] 79) (.cells #[.int .i64 b',.string s',.int .i64 d',.bool x',.slice a' n' c',.bool y',.slice e' m' r'] 79)).size).b) hf hf');have H2:=hI (fun p q w'=>Tryz.cmp_Compare_int p q w')
 have H3:=hI (fun bb cc p q r w' (hB:Blk w' bb #[.int .i64 p,.int .i64 q,.int .i64 r] 3)=>(or_d bb cc p q r w' hB).mono fun _ _ h=>rdR h)
 have hE:b=b'→s.toList=s'.toList→d=d'→cmpG ⟨b,s,d⟩ ⟨b',s',d'⟩=0:=fun h1 h2 h3=>by
  subst h1 h3;rw[qfe h2];exact qee _
 have HE:=hI hE;have HC:=hI (show cmpG ⟨b,s,d⟩ ⟨b',s',d'⟩=or3 (Lib.compareInt b b') (cmpQ (numR s.data.toList) (denR s.data.toList) (numR s'.data.toList) (denR s'.data.toList)) (Lib.compareInt d d')by rw[qc8,qc8];rfl);generalize cmpG ⟨b,s,d⟩ ⟨b',s',d'⟩=R at*;generalize cmpQ (numR s.data.toList) (denR s.data.toList) (numR s'.data.toList) (denR s'.data.toList)=Z at*;have HK:=hI (qa2 w (.cells #[.int .i64 b,.string s,.int .i64 d,.bool x,.slice a n c,.bool y,.slice e m r] 79) (.cells #[.int .i64 b',.string s',.int .i64 d',.bool x',.slice a' n' c',.bool y',.slice e' m' r'] 79));clear hk hl hA hB hE hf hf' hks hls
 go_enter Tryz.func73,Tryz.ntmps73
 go_wp2_with fail
 case isTrue.isTrue.isFalse=>
  clear HE;have hbb:b=b':=by assumption
  subst hbb;refine wp_region_held_drew (S:=(fun w'=>w'.cell? ⟨w.heap.size,0,none⟩=some (.int .i64 b)∧w'.cell? ⟨w.heap.size,1,none⟩=some (.string s)∧w'.cell? ⟨w.heap.size,2,none⟩=some (.int .i64 d)∧w'.cell? ⟨w.heap.size,3,none⟩=some (.bool x)∧w'.cell? ⟨w.heap.size,4,none⟩=some (.slice a n c)∧w'.cell? ⟨w.heap.size,5,none⟩=some (.bool y)∧w'.cell? ⟨w.heap.size,6,none⟩=some (.slice e m r)∧w'.cell? ⟨w.heap.size+1,0,none⟩=some (.int .i64 b)∧w'.cell? ⟨w.heap.size+1,1,none⟩=some (.string s')∧w'.cell? ⟨w.heap.size+1,2,none⟩=some (.int .i64 d')∧w'.cell? ⟨w.heap.size+1,3,none⟩=some (.bool x')∧w'.cell? ⟨w.heap.size+1,4,none⟩=some (.slice a' n' c')∧w'.cell? ⟨w.heap.size+1,5,none⟩=some (.bool y')∧w'.cell? ⟨w.heap.size+1,6,none⟩=some (.slice e' m' r'))) (by kernel_rfl) (by exact(fun h=>⟨h.1.1,h.1.2.1,h.1.2.2.1,h.1.2.2.2.1,h.1.2.2.2.2.1,h.1.2.2.2.2.2.1,h.1.2.2.2.2.2.2,h.2⟩) (HS.out _ ((Below.refl _ _).dn 1))) (fun hHeld=>?_)
  refine wpAnyH_take (i:=0) (v:=?v1) rfl (by kernel_rfl) (by kernel_rfl) (by kernel_rfl) (fun _ _ _ h=>h) (Or.inl ⟨by rfl,?hy1⟩) (by assumption) ?rest1
  case hy1=>(intro w hSw;(try dsimp only at hSw);go_simp;try(with_reducible rfl))
  try simp only[Act.put,List.getElem_toArray,List.getElem_cons_zero,List.setIfInBounds_toArray,List.set_cons_zero,List.set_cons_succ]
  refine' tk 1 ?_;(try simp only[tkS]);refine' tk 2 ?_;(try simp only[tkS]);refine' tk 3 ?_;(try simp only[tkS]);refine' tk 4 ?_;(try simp only[tkS]);refine' tk 5 ?_;(try simp only[tkS]);refine' tk 7 ?_;(try simp only[tkS]);refine' tk 8 ?_;(try simp only[tkS]);refine' tk 9 ?_;(try simp only[tkS]);refine' tk 10 ?_;(try simp only[tkS]);refine' tk 12 ?_;(try simp only[tkS]);refine' tk 13 ?_;(try simp only[tkS]);refine' tk 14 ?_;(try simp only[tkS]);refine' tk 15 ?_;(try simp only[tkS]);refine' tk 16 ?_;(try simp only[tkS]);refine' tk 17 ?_;(try simp only[tkS]);refine tk1 6 (fun K hK=>?_)
  go_simp;go_at_call 124;refine(H2.out b b _).mono ?_
  rintro e5 w5 ⟨rfl,rfl⟩;refine hK.out _ _ (by exact(fun h=>⟨h.1.1,h.1.2.1,h.1.2.2.1,h.1.2.2.2.1,h.1.2.2.2.2.1,h.1.2.2.2.2.2.1,h.1.2.2.2.2.2.2,h.2⟩) (HS.out _ ((Below.refl _ _).dn 1))) (fun hHeld=>?_)
  clear hK K;(try simp only[tkS]);refine tk1 11 (fun K hK=>?_)
  go_simp;go_at_call 64;refine(H1.out _ ((Below.refl _ _).dn 1)).mono ?_
  rintro e5 w11 ⟨rfl,hb11⟩;have Hb11:=hI (qab ((Below.refl _ _).dn 1) hb11);clear hb11;refine hK.out _ _ (by exact(fun h=>⟨h.1.1,h.1.2.1,h.1.2.2.1,h.1.2.2.2.1,h.1.2.2.2.2.1,h.1.2.2.2.2.2.1,h.1.2.2.2.2.2.2,h.2⟩) (HS.out _ (Hb11.out))) (fun hHeld=>?_)
  clear hK K;(try simp only[tkS]);refine tk1 18 (fun K hK=>?_)
  go_simp;go_at_call 124;refine(H2.out d d' _).mono ?_
  rintro e5 w5 ⟨rfl,rfl⟩;refine hK.out _ _ (by exact(fun h=>⟨h.1.1,h.1.2.1,h.1.2.2.1,h.1.2.2.2.1,h.1.2.2.2.2.1,h.1.2.2.2.2.2.1,h.1.2.2.2.2.2.2,h.2⟩) (HS.out _ (Hb11.out))) (fun hHeld=>?_)
  clear hK K;(try simp only[tkS]);refine tk1 19 (fun K hK=>?_)
  generalize hX:Lib.compareInt b b=X1 at*;generalize hY:Lib.compareInt d d'=X3 at*;go_simp;refine hK.out _ _ (by exact(fun h=>⟨h.1.1,h.1.2.1,h.1.2.2.1,h.1.2.2.2.1,h.1.2.2.2.2.1,h.1.2.2.2.2.2.1,h.1.2.2.2.2.2.2,h.2⟩) (HS.out _ ((Hb11.out).alloc ((Hb11.out).size) (.cells #[.int .i64 X1,.int .i64 Z,.int .i64 X3] 3)))) (fun hHeld=>?_)
  clear hK K;(try simp only[tkS]);refine tk1 20 (fun K hK=>?_)
  go_simp;go_at_call 123;refine(H3.out _ _ _ _ _ _ (Blk.new _ _ _)).mono ?_
  rintro e5 w20 ⟨rfl,hb20⟩;have Hb20:=hI (qab ((Hb11.out).alloc ((Hb11.out).size) (.cells #[.int .i64 X1,.int .i64 Z,.int .i64 X3] 3)) hb20);clear hb20;refine hK.out _ _ (by exact(fun h=>⟨h.1.1,h.1.2.1,h.1.2.2.1,h.1.2.2.2.1,h.1.2.2.2.2.1,h.1.2.2.2.2.2.1,h.1.2.2.2.2.2.2,h.2⟩) (HS.out _ (Hb20.out))) (fun hHeld=>?_)
  clear hK K;(try simp only[tkS]);refine' tk 21 ?_;(try simp only[tkS]);refine tkD ?_ _
  go_wp2_with fail
  go_ret
  exact⟨by rw[HC.out];first|rfl|skip,HK.out.via (Hb20.out) HK.out.size⟩
 case isTrue.isFalse=>
  clear HE;have hbb:b=b':=by assumption
  subst hbb;refine wp_region_held_drew (S:=(fun w'=>w'.cell? ⟨w.heap.size,0,none⟩=some (.int .i64 b)∧w'.cell? ⟨w.heap.size,1,none⟩=some (.string s)∧w'.cell? ⟨w.heap.size,2,none⟩=some (.int .i64 d)∧w'.cell? ⟨w.heap.size,3,none⟩=some (.bool x)∧w'.cell? ⟨w.heap.size,4,none⟩=some (.slice a n c)∧w'.cell? ⟨w.heap.size,5,none⟩=some (.bool y)∧w'.cell? ⟨w.heap.size,6,none⟩=some (.slice e m r)∧w'.cell? ⟨w.heap.size+1,0,none⟩=some (.int .i64 b)∧w'.cell? ⟨w.heap.size+1,1,none⟩=some (.string s')∧w'.cell? ⟨w.heap.size+1,2,none⟩=some (.int .i64 d')∧w'.cell? ⟨w.heap.size+1,3,none⟩=some (.bool x')∧w'.cell? ⟨w.heap.size+1,4,none⟩=some (.slice a' n' c')∧w'.cell? ⟨w.heap.size+1,5,none⟩=some (.bool y')∧w'.cell? ⟨w.heap.size+1,6,none⟩=some (.slice e' m' r'))) (by kernel_rfl) (by exact(fun h=>⟨h.1.1,h.1.2.1,h.1.2.2.1,h.1.2.2.2.1,h.1.2.2.2.2.1,h.1.2.2.2.2.2.1,h.1.2.2.2.2.2.2,h.2⟩) (HS.out _ ((Below.refl _ _).dn 1))) (fun hHeld=>?_)
  refine wpAnyH_take (i:=0) (v:=?v18) rfl (by kernel_rfl) (by kernel_rfl) (by kernel_rfl) (fun _ _ _ h=>h) (Or.inl ⟨by rfl,?hy18⟩) (by assumption) ?rest18
  case hy18=>(intro w hSw;(try dsimp only at hSw);go_simp;try(with_reducible rfl))
  try simp only[Act.put,List.getElem_toArray,List.getElem_cons_zero,List.setIfInBounds_toArray,List.set_cons_zero,List.set_cons_succ]
  refine' tk 1 ?_;(try simp only[tkS]);refine' tk 2 ?_;(try simp only[tkS]);refine' tk 3 ?_;(try simp only[tkS]);refine' tk 4 ?_;(try simp only[tkS]);refine' tk 5 ?_;(try simp only[tkS]);refine' tk 7 ?_;(try simp only[tkS]);refine' tk 8 ?_;(try simp only[tkS]);refine' tk 9 ?_;(try simp only[tkS]);refine' tk 10 ?_;(try simp only[tkS]);refine' tk 12 ?_;(try simp only[tkS]);refine' tk 13 ?_;(try simp only[tkS]);refine' tk 14 ?_;(try simp only[tkS]);refine' tk 15 ?_;(try simp only[tkS]);refine' tk 16 ?_;(try simp only[tkS]);refine' tk 17 ?_;(try simp only[tkS]);refine tk1 6 (fun K hK=>?_)
  go_simp;go_at_call 124;refine(H2.out b b _).mono ?_
  rintro e5 w5 ⟨rfl,rfl⟩;refine hK.out _ _ (by exact(fun h=>⟨h.1.1,h.1.2.1,h.1.2.2.1,h.1.2.2.2.1,h.1.2.2.2.2.1,h.1.2.2.2.2.2.1,h.1.2.2.2.2.2.2,h.2⟩) (HS.out _ ((Below.refl _ _).dn 1))) (fun hHeld=>?_)
  clear hK K;(try simp only[tkS]);refine tk1 11 (fun K hK=>?_)
  go_simp;go_at_call 64;refine(H1.out _ ((Below.refl _ _).dn 1)).mono ?_
  rintro e5 w11 ⟨rfl,hb11⟩;have Hb11:=hI (qab ((Below.refl _ _).dn 1) hb11);clear hb11;refine hK.out _ _ (by exact(fun h=>⟨h.1.1,h.1.2.1,h.1.2.2.1,h.1.2.2.2.1,h.1.2.2.2.2.1,h.1.2.2.2.2.2.1,h.1.2.2.2.2.2.2,h.2⟩) (HS.out _ (Hb11.out))) (fun hHeld=>?_)
  clear hK K;(try simp only[tkS]);refine tk1 18 (fun K hK=>?_)
  go_simp;go_at_call 124;refine(H2.out d d' _).mono ?_
  rintro e5 w5 ⟨rfl,rfl⟩;refine hK.out _ _ (by exact(fun h=>⟨h.1.1,h.1.2.1,h.1.2.2.1,h.1.2.2.2.1,h.1.2.2.2.2.1,h.1.2.2.2.2.2.1,h.1.2.2.2.2.2.2,h.2⟩) (HS.out _ (Hb11.out))) (fun hHeld=>?_)
  clear hK K;(try simp only[tkS]);refine tk1 19 (fun K hK=>?_)
  generalize hX:Lib.compareInt b b=X1 at*;generalize hY:Lib.compareInt d d'=X3 at*;go_simp;refine hK.out _ _ (by exact(fun h=>⟨h.1.1,h.1.2.1,h.1.2.2.1,h.1.2.2.2.1,h.1.2.2.2.2.1,h.1.2.2.2.2.2.1,h.1.2.2.2.2.2.2,h.2⟩) (HS.out _ ((Hb11.out).alloc ((Hb11.out).size) (.cells #[.int .i64 X1,.int .i64 Z,.int .i64 X3] 3)))) (fun hHeld=>?_)
  clear hK K;(try simp only[tkS]);refine tk1 20 (fun K hK=>?_)
  go_simp;go_at_call 123;refine(H3.out _ _ _ _ _ _ (Blk.new _ _ _)).mono ?_
  rintro e5 w20 ⟨rfl,hb20⟩;have Hb20:=hI (qab ((Hb11.out).alloc ((Hb11.out).size) (.cells #[.int .i64 X1,.int .i64 Z,.int .i64 X3] 3)) hb20);clear hb20;refine hK.out _ _ (by exact(fun h=>⟨h.1.1,h.1.2.1,h.1.2.2.1,h.1.2.2.2.1,h.1.2.2.2.2.1,h.1.2.2.2.2.2.1,h.1.2.2.2.2.2.2,h.2⟩) (HS.out _ (Hb20.out))) (fun hHeld=>?_)
  clear hK K;(try simp only[tkS]);refine' tk 21 ?_;(try simp only[tkS]);refine tkD ?_ _
  go_wp2_with fail
  go_ret
  exact⟨by rw[HC.out];first|rfl|skip,HK.out.via (Hb20.out) HK.out.size⟩
 case isFalse=>
  clear HE;refine wp_region_held_drew (S:=(fun w'=>w'.cell? ⟨w.heap.size,0,none⟩=some (.int .i64 b)∧w'.cell? ⟨w.heap.size,1,none⟩=some (.string s)∧w'.cell? ⟨w.heap.size,2,none⟩=some (.int .i64 d)∧w'.cell? ⟨w.heap.size,3,none⟩=some (.bool x)∧w'.cell? ⟨w.heap.size,4,none⟩=some (.slice a n c)∧w'.cell? ⟨w.heap.size,5,none⟩=some (.bool y)∧w'.cell? ⟨w.heap.size,6,none⟩=some (.slice e m r)∧w'.cell? ⟨w.heap.size+1,0,none⟩=some (.int .i64 b')∧w'.cell? ⟨w.heap.size+1,1,none⟩=some (.string s')∧w'.cell? ⟨w.heap.size+1,2,none⟩=some (.int .i64 d')∧w'.cell? ⟨w.heap.size+1,3,none⟩=some (.bool x')∧w'.cell? ⟨w.heap.size+1,4,none⟩=some (.slice a' n' c')∧w'.cell? ⟨w.heap.size+1,5,none⟩=some (.bool y')∧w'.cell? ⟨w.heap.size+1,6,none⟩=some (.slice e' m' r'))) (by kernel_rfl) (by exact(fun h=>⟨h.1.1,h.1.2.1,h.1.2.2.1,h.1.2.2.2.1,h.1.2.2.2.2.1,h.1.2.2.2.2.2.1,h.1.2.2.2.2.2.2,h.2⟩) (HS.out _ ((Below.refl _ _).dn 1))) (fun hHeld=>?_)
  refine wpAnyH_take (i:=0) (v:=?v35) rfl (by kernel_rfl) (by kernel_rfl) (by kernel_rfl) (fun _ _ _ h=>h) (Or.inl ⟨by rfl,?hy35⟩) (by assumption) ?rest35
  case hy35=>(intro w hSw;(try dsimp only at hSw);go_simp;try(with_reducible rfl))
  try simp only[Act.put,List.getElem_toArray,List.getElem_cons_zero,List.setIfInBounds_toArray,List.set_cons_zero,List.set_cons_succ]
  refine' tk 1 ?_;(try simp only[tkS]);refine' tk 2 ?_;(try simp only[tkS]);refine' tk 3 ?_;(try simp only[tkS]);refine' tk 4 ?_;(try simp only[tkS]);refine' tk 5 ?_;(try simp only[tkS]);refine' tk 7 ?_;(try simp only[tkS]);refine' tk 8 ?_;(try simp only[tkS]);refine' tk 9 ?_;(try simp only[tkS]);refine' tk 10 ?_;(try simp only[tkS]);refine' tk 12 ?_;(try simp only[tkS]);refine' tk 13 ?_;(try simp only[tkS]);refine' tk 14 ?_;(try simp only[tkS]);refine' tk 15 ?_;(try simp only[tkS]);refine' tk 16 ?_;(try simp only[tkS]);refine' tk 17 ?_;(try simp only[tkS]);refine tk1 6 (fun K hK=>?_)
  go_simp;go_at_call 124;refine(H2.out b b' _).mono ?_
  rintro e5 w5 ⟨rfl,rfl⟩;refine hK.out _ _ (by exact(fun h=>⟨h.1.1,h.1.2.1,h.1.2.2.1,h.1.2.2.2.1,h.1.2.2.2.2.1,h.1.2.2.2.2.2.1,h.1.2.2.2.2.2.2,h.2⟩) (HS.out _ ((Below.refl _ _).dn 1))) (fun hHeld=>?_)
  clear hK K;(try simp only[tkS]);refine tk1 11 (fun K hK=>?_)
  go_simp;go_at_call 64;refine(H1.out _ ((Below.refl _ _).dn 1)).mono ?_
  rintro e5 w11 ⟨rfl,hb11⟩;have Hb11:=hI (qab ((Below.refl _ _).dn 1) hb11);clear hb11;refine hK.out _ _ (by exact(fun h=>⟨h.1.1,h.1.2.1,h.1.2.2.1,h.1.2.2.2.1,h.1.2.2.2.2.1,h.1.2.2.2.2.2.1,h.1.2.2.2.2.2.2,h.2⟩) (HS.out _ (Hb11.out))) (fun hHeld=>?_)
  clear hK K;(try simp only[tkS]);refine tk1 18 (fun K hK=>?_)
  go_simp;go_at_call 124;refine(H2.out d d' _).mono ?_
  rintro e5 w5 ⟨rfl,rfl⟩;refine hK.out _ _ (by exact(fun h=>⟨h.1.1,h.1.2.1,h.1.2.2.1,h.1.2.2.2.1,h.1.2.2.2.2.1,h.1.2.2.2.2.2.1,h.1.2.2.2.2.2.2,h.2⟩) (HS.out _ (Hb11.out))) (fun hHeld=>?_)
  clear hK K;(try simp only[tkS]);refine tk1 19 (fun K hK=>?_)
  generalize hX:Lib.compareInt b b'=X1 at*;generalize hY:Lib.compareInt d d'=X3 at*;go_simp;refine hK.out _ _ (by exact(fun h=>⟨h.1.1,h.1.2.1,h.1.2.2.1,h.1.2.2.2.1,h.1.2.2.2.2.1,h.1.2.2.2.2.2.1,h.1.2.2.2.2.2.2,h.2⟩) (HS.out _ ((Hb11.out).alloc ((Hb11.out).size) (.cells #[.int .i64 X1,.int .i64 Z,.int .i64 X3] 3)))) (fun hHeld=>?_)
  clear hK K;(try simp only[tkS]);refine tk1 20 (fun K hK=>?_)
  go_simp;go_at_call 123;refine(H3.out _ _ _ _ _ _ (Blk.new _ _ _)).mono ?_
  rintro e5 w20 ⟨rfl,hb20⟩;have Hb20:=hI (qab ((Hb11.out).alloc ((Hb11.out).size) (.cells #[.int .i64 X1,.int .i64 Z,.int .i64 X3] 3)) hb20);clear hb20;refine hK.out _ _ (by exact(fun h=>⟨h.1.1,h.1.2.1,h.1.2.2.1,h.1.2.2.2.1,h.1.2.2.2.2.1,h.1.2.2.2.2.2.1,h.1.2.2.2.2.2.2,h.2⟩) (HS.out _ (Hb20.out))) (fun hHeld=>?_)
  clear hK K;(try simp only[tkS]);refine' tk 21 ?_;(try simp only[tkS]);refine tkD ?_ _
  go_wp2_with fail
  go_ret
  exact⟨by rw[HC.out];first|rfl|skip,HK.out.via (Hb20.out) HK.out.size⟩
 have hcc:R=0:=HE.out (by assumption) (by assumption) (by assumption);rw[hcc]
 go_ret
 exact⟨rfl,qa2 w _ _⟩
end Dr
theorem qcr(k l:GC)(w:World)(hk:k.ok w)(hl:l.ok w):Calls Tryz.prog 73 #[k.agg,l.agg] w (Ret (.int .i64 (cmpG k.c l.c)) w):=(Dr.qcr k l w hk hl).mono fun _ _ h=>h.n
end Go.Proofs.YtacihodamichhaaGreatDoor
namespace Go.Proofs.YtacihodamichhaaGreatDoor
open Go.RowKit
theorem qa0{w w':World}{b:Nat}{x0 x1 x2 x3 x4 x5 x6 x7 x8 x9 x10 x11 x12 x13:Value}{T:TypeId}(h:Blk w b #[x0,x1,x2,x3,x4,x5,x6,x7,x8,x9,x10,x11,x12,x13] T)(hb:Below w.heap.size w w'):
  w'.cell? ⟨b,0,none⟩=some x0∧w'.cell? ⟨b,1,none⟩=some x1∧w'.cell? ⟨b,2,none⟩=some x2∧w'.cell? ⟨b,3,none⟩=some x3∧w'.cell? ⟨b,4,none⟩=some x4∧w'.cell? ⟨b,5,none⟩=some x5∧w'.cell? ⟨b,6,none⟩=some x6∧w'.cell? ⟨b,7,none⟩=some x7∧w'.cell? ⟨b,8,none⟩=some x8∧w'.cell? ⟨b,9,none⟩=some x9∧w'.cell? ⟨b,10,none⟩=some x10∧w'.cell? ⟨b,11,none⟩=some x11∧w'.cell? ⟨b,12,none⟩=some x12∧w'.cell? ⟨b,13,none⟩=some x13:=by
 have h':=h.below hb;exact⟨by rw[h'.cell];rfl,by rw[h'.cell];rfl,by rw[h'.cell];rfl,by rw[h'.cell];rfl,by rw[h'.cell];rfl,by rw[h'.cell];rfl,by rw[h'.cell];rfl,by rw[h'.cell];rfl,by rw[h'.cell];rfl,by rw[h'.cell];rfl,by rw[h'.cell];rfl,by rw[h'.cell];rfl,by rw[h'.cell];rfl,by rw[h'.cell];rfl⟩
theorem qox{w:World}{b:Nat}{cs:Array Value}{T:TypeId}(h:Blk w b cs T):
  w.frozen? ⟨b,0,none⟩=false∧w.frozen? ⟨b,1,none⟩=false∧w.frozen? ⟨b,2,none⟩=false∧w.frozen? ⟨b,3,none⟩=false∧w.frozen? ⟨b,4,none⟩=false∧w.frozen? ⟨b,5,none⟩=false∧w.frozen? ⟨b,6,none⟩=false∧w.frozen? ⟨b,7,none⟩=false∧w.frozen? ⟨b,8,none⟩=false∧w.frozen? ⟨b,9,none⟩=false∧w.frozen? ⟨b,10,none⟩=false∧w.frozen? ⟨b,11,none⟩=false∧w.frozen? ⟨b,12,none⟩=false∧w.frozen? ⟨b,13,none⟩=false:=
 ⟨h.free 0,h.free 1,h.free 2,h.free 3,h.free 4,h.free 5,h.free 6,h.free 7,h.free 8,h.free 9,h.free 10,h.free 11,h.free 12,h.free 13⟩
theorem qqt{b d b' d':Int}{s s':ByteArray}{x x' y y':Bool}{a a' e e':Option Addr}{n c n' c' m k m' k':Nat}:NoU #[.int .i64 b,.string s,.int .i64 d,.bool x,.slice a n c,.bool x',.slice a' n' c',.int .i64 b',.string s',.int .i64 d',.bool y,.slice e m k,.bool y',.slice e' m' k']:=by
 intro v hv d';simp at hv;rcases hv with rfl|rfl|rfl|rfl|rfl|rfl|rfl|rfl|rfl|rfl|rfl|rfl|rfl|rfl<;>simp
theorem qjd(k l:CC):∀x∈k.cells++l.cells,∀d:Int,x≠.int .u32 d:=fun x hx=>by
 rcases List.mem_append.1 hx with h|h
 ·exact qf5 k x h
 ·exact qf5 l x h
structure Iv where
 lo:ByteArray
 hi:ByteArray
 le:Int
 he:Int
def Iv.ok(x:Iv):Prop:=qpz x.lo x.le∧qpz x.hi x.he
def Iv.agg(x:Iv):Value:=.agg #[.string x.lo,.string x.hi,.int .i64 x.le,.int .i64 x.he]
def Iv.low(x:Iv):Cut:=qd4 x.lo x.le 1
def Iv.high(x:Iv):Cut:=qd4 x.hi x.he (-1)
def pagg(k l:CC):Value:=.agg #[.int .i64 k.c.b,.string k.c.s,.int .i64 k.c.d,.bool k.x,.slice k.a k.n k.cap,.bool false,.slice none 0 0,.int .i64 l.c.b,.string l.c.s,.int .i64 l.c.d,.bool l.x,.slice l.a l.n l.cap,.bool false,.slice none 0 0]
theorem qpz.range{n:ByteArray}{k:Int}(h:qpz n k):0≤k∧k≤2:=by
 rcases h with⟨rfl,_⟩|⟨rfl|rfl,_⟩<;>omega
theorem qqn(x:Iv)(w:World)(h:x.ok):Calls Tryz.prog 72 #[x.agg] w (RetP (fun v w'=>∃k l:CC,v=.tuple #[pagg k l,.int .i64 0]∧k.c=x.low∧l.c=x.high∧k.ok w'∧l.ok w') w):=by
 obtain⟨lo,hi,le,he⟩:=x;obtain⟨h1,h2⟩:=h;unfold Iv.agg Iv.low Iv.high;dsimp only at h1 h2⊢;obtain⟨r1,r2⟩:=h1.range;obtain⟨r3,r4⟩:=h2.range;have g1:¬le<0:=by omega
 have g2:¬2<le:=by omega
 have g3:¬he<0:=by omega
 have g4:¬2<he:=by omega
 have hA:Blk ((w.alloc (.cells #[.string lo,.string hi,.int .i64 le,.int .i64 he] 46)).alloc (.cells #[.int .i64 0,.string ⟨#[]⟩,.int .i64 0,.bool false,.slice none 0 0,.bool false,.slice none 0 0,.int .i64 0,.string ⟨#[]⟩,.int .i64 0,.bool false,.slice none 0 0,.bool false,.slice none 0 0] 84)) w.heap.size #[.string lo,.string hi,.int .i64 le,.int .i64 he] 46:=(Blk.new w _ _).old _
 have hR:Blk ((w.alloc (.cells #[.string lo,.string hi,.int .i64 le,.int .i64 he] 46)).alloc (.cells #[.int .i64 0,.string ⟨#[]⟩,.int .i64 0,.bool false,.slice none 0 0,.bool false,.slice none 0 0,.int .i64 0,.string ⟨#[]⟩,.int .i64 0,.bool false,.slice none 0 0,.bool false,.slice none 0 0] 84)) (w.heap.size+1) #[.int .i64 0,.string ⟨#[]⟩,.int .i64 0,.bool false,.slice none 0 0,.bool false,.slice none 0 0,.int .i64 0,.string ⟨#[]⟩,.int .i64 0,.bool false,.slice none 0 0,.bool false,.slice none 0 0] 84:=by
  have h:=Blk.new (w.alloc (.cells #[.string lo,.string hi,.int .i64 le,.int .i64 he] 46)) #[.int .i64 0,.string ⟨#[]⟩,.int .i64 0,.bool false,.slice none 0 0,.bool false,.slice none 0 0,.int .i64 0,.string ⟨#[]⟩,.int .i64 0,.bool false,.slice none 0 0,.bool false,.slice none 0 0] 84
  simpa using h
 have HA:=hI (fun w' (hb:Below ((w.alloc (.cells #[.string lo,.string hi,.int .i64 le,.int .i64 he] 46)).alloc (.cells #[.int .i64 0,.string ⟨#[]⟩,.int .i64 0,.bool false,.slice none 0 0,.bool false,.slice none 0 0,.int .i64 0,.string ⟨#[]⟩,.int .i64 0,.bool false,.slice none 0 0,.bool false,.slice none 0 0] 84)).heap.size ((w.alloc (.cells #[.string lo,.string hi,.int .i64 le,.int .i64 he] 46)).alloc (.cells #[.int .i64 0,.string ⟨#[]⟩,.int .i64 0,.bool false,.slice none 0 0,.bool false,.slice none 0 0,.int .i64 0,.string ⟨#[]⟩,.int .i64 0,.bool false,.slice none 0 0,.bool false,.slice none 0 0] 84)) w')=>qcs hA hb);have HR:=hI hR;have HK:=hI (qa2 w (.cells #[.string lo,.string hi,.int .i64 le,.int .i64 he] 46) (.cells #[.int .i64 0,.string ⟨#[]⟩,.int .i64 0,.bool false,.slice none 0 0,.bool false,.slice none 0 0,.int .i64 0,.string ⟨#[]⟩,.int .i64 0,.bool false,.slice none 0 0,.bool false,.slice none 0 0] 84));have H1:=hI (fun w'=>qpa lo le 1 w' (.inl rfl) h1);have H2:=hI (fun w'=>qpa hi he (-1) w' (.inr rfl) h2);generalize qd4 lo le 1=cl at*;generalize qd4 hi he (-1)=ch at*;clear h1 h2 r1 r2 r3 r4 hA hR
 go_enter Tryz.func72,Tryz.ntmps72
 go_wp2_with (first
  |(go_at_call 122;have _t:=Hb1;clear _t;refine(H2.out _).mono ?_;rintro e w2 ⟨v2,rfl,⟨k2,rfl,hc2,hk2⟩,hb2⟩;obtain⟨⟨b2,s2,d2⟩,x2,a2,n2,c2⟩:=k2;have Hc2:=hI hc2;have Hk2:=hI hk2;have Hb2:=hI hb2;unfold CC.agg;have hB4:=((Blk.new w1 #[.int .i64 b1,.string s1,.int .i64 d1,.bool x1,.slice a1 n1 c1,.bool false,.slice none 0 0] 79).below hb2).old (.cells #[.int .i64 b2,.string s2,.int .i64 d2,.bool x2,.slice a2 n2 c2,.bool false,.slice none 0 0] 79);obtain⟨p0,p1,p2,p3,p4,p5,p6⟩:=qa5 hB4 (Below.refl _ _);have hr:=HR.out.below (qab Hb1.out (qab (qac w1 (.cells #[.int .i64 b1,.string s1,.int .i64 d1,.bool x1,.slice a1 n1 c1,.bool false,.slice none 0 0] 79)) (qab Hb2.out (qac w2 (.cells #[.int .i64 b2,.string s2,.int .i64 d2,.bool x2,.slice a2 n2 c2,.bool false,.slice none 0 0] 79)))));obtain⟨r0,r1,r2,r3,r4,r5,r6,r7,r8,r9,r10,r11,r12,r13⟩:=qa0 hr (Below.refl _ _);obtain⟨f0,f1,f2,f3,f4,f5,f6,f7,f8,f9,f10,f11,f12,f13⟩:=qox hr;have hk6:CC.ok w2 ⟨⟨b1,s1,d1⟩,x1,a1,n1,c1⟩:=(Hk1.out.mono (qac w1 (.cells #[.int .i64 b1,.string s1,.int .i64 d1,.bool x1,.slice a1 n1 c1,.bool false,.slice none 0 0] 79))).mono Hb2.out;have hk7:=(hk6.mono (qac w2 (.cells #[.int .i64 b2,.string s2,.int .i64 d2,.bool x2,.slice a2 n2 c2,.bool false,.slice none 0 0] 79))).setN hr qqt [.int .i64 b1,.string s1,.int .i64 d1,.bool x1,.slice a1 n1 c1,.bool false,.slice none 0 0,.int .i64 b2,.string s2,.int .i64 d2,.bool x2,.slice a2 n2 c2,.bool false,.slice none 0 0] (qjd ⟨⟨b1,s1,d1⟩,x1,a1,n1,c1⟩ ⟨⟨b2,s2,d2⟩,x2,a2,n2,c2⟩);have hk8:=(Hk2.out.mono (qac w2 (.cells #[.int .i64 b2,.string s2,.int .i64 d2,.bool x2,.slice a2 n2 c2,.bool false,.slice none 0 0] 79))).setN hr qqt [.int .i64 b1,.string s1,.int .i64 d1,.bool x1,.slice a1 n1 c1,.bool false,.slice none 0 0,.int .i64 b2,.string s2,.int .i64 d2,.bool x2,.slice a2 n2 c2,.bool false,.slice none 0 0] (qjd ⟨⟨b1,s1,d1⟩,x1,a1,n1,c1⟩ ⟨⟨b2,s2,d2⟩,x2,a2,n2,c2⟩);have hb7:=qcx hr [.int .i64 b1,.string s1,.int .i64 d1,.bool x1,.slice a1 n1 c1,.bool false,.slice none 0 0,.int .i64 b2,.string s2,.int .i64 d2,.bool x2,.slice a2 n2 c2,.bool false,.slice none 0 0] rfl;have hbel:=qbm (b:=w.heap.size+1) (Nat.le_add_right _ 1) [.int .i64 b1,.string s1,.int .i64 d1,.bool x1,.slice a1 n1 c1,.bool false,.slice none 0 0,.int .i64 b2,.string s2,.int .i64 d2,.bool x2,.slice a2 n2 c2,.bool false,.slice none 0 0] 0 _ (HK.out.via (qab Hb1.out (qab (qac w1 (.cells #[.int .i64 b1,.string s1,.int .i64 d1,.bool x1,.slice a1 n1 c1,.bool false,.slice none 0 0] 79)) (qab Hb2.out (qac w2 (.cells #[.int .i64 b2,.string s2,.int .i64 d2,.bool x2,.slice a2 n2 c2,.bool false,.slice none 0 0] 79))))) HK.out.size);simp only[setN,Nat.zero_add,Nat.reduceAdd]at hk7 hk8 hb7 hbel;have Hk7:=hI hk7;have Hk8:=hI hk8;have Hb7:=hI hb7;have Hbel:=hI hbel;clear hk6 hk7 hk8 hb7 hbel hr hk2 hb2 hc2 hB4)
  |(go_at_call 122;refine(H1.out _).mono ?_;rintro e w1 ⟨v1,rfl,⟨k1,rfl,hc1,hk1⟩,hb1⟩;obtain⟨⟨b1,s1,d1⟩,x1,a1,n1,c1⟩:=k1;have Hc1:=hI hc1;have Hk1:=hI hk1;have Hb1:=hI hb1;unfold CC.agg;obtain⟨e0,e1,e2,e3⟩:=HA.out _ (qab hb1 (qac w1 (.cells #[.int .i64 b1,.string s1,.int .i64 d1,.bool x1,.slice a1 n1 c1,.bool false,.slice none 0 0] 79)));clear hc1 hk1 hb1))
 obtain⟨q0,q1,q2,q3,q4,q5,q6,q7,q8,q9,q10,q11,q12,q13⟩:=qa0 Hb7.out (Below.refl _ _);exact bodyPost_ret (v:=.tuple #[.agg #[.int .i64 b1,.string s1,.int .i64 d1,.bool x1,.slice a1 n1 c1,.bool false,.slice none 0 0,.int .i64 b2,.string s2,.int .i64 d2,.bool x2,.slice a2 n2 c2,.bool false,.slice none 0 0],.int .i64 0]) (by simp[results,Tryz.results72,go_sem,q0,q1,q2,q3,q4,q5,q6,q7,q8,q9,q10,q11,q12,q13]) rfl ⟨_,rfl,⟨⟨⟨b1,s1,d1⟩,x1,a1,n1,c1⟩,⟨⟨b2,s2,d2⟩,x2,a2,n2,c2⟩,rfl,Hc1.out,Hc2.out,Hk7.out,Hk8.out⟩,Hbel.out⟩
def qdt(c:Cut)(side:Int):Int:=if c.b≠0 then 2 else if c.d=side then 0 else 1
end Go.Proofs.YtacihodamichhaaGreatDoor
