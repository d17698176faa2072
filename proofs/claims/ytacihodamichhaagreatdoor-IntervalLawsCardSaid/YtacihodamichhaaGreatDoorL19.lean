/- Parts of the proof. -/
import Derived.Test.YtacihodamichhaaGreatDoorL16
import Derived.Test.YtacihodamichhaaGreatDoorL18
set_option maxHeartbeats 8000000
namespace Go.Proofs.YtacihodamichhaaGreatDoor
open Go.RowKit
theorem qom{M k:Nat}(h:M<10^k)(hk:k≤900000):Few M:=qbn h hk
theorem qqu{l:List UInt8}(h:errL l=0):AllD (absL (topL l))∧(divB l=true→AllD (botL l)):=by
 unfold errL at h
 split at h
 ·exact absurd h (by decide)
 ·rename_i h1
  simp only[Bool.or_eq_true,Bool.not_eq_true',Bool.and_eq_true,not_or,Bool.not_eq_false,not_and]at h1;exact⟨(qaj.1 h1.1).2,fun hd=>(qaj.1 (h1.2 hd)).2⟩
theorem qoo{l:List UInt8}(hl:l.length≤5000):FewR (numR l) (denR l):=by
 unfold FewR numR denR
 by_cases h0:errL l=0
 ·rw[if_pos h0,if_pos h0]
  obtain⟨h1,h2⟩:=qqu h0;refine⟨?_,?_⟩
  ·unfold numL
   rw[qbf];exact qom (qay h1) (Nat.le_trans (qe7 _) (Nat.le_trans (qep l) (by omega)))
  ·unfold denL
   by_cases hd:divB l=true
   ·rw[if_pos hd]
    unfold dn
    split
    ·exact qbn (k:=1) (by decide) (by decide)
    ·exact qom (qay (h2 hd)) (Nat.le_trans (qfw l) (by omega))
   ·rw[if_neg hd]
    exact qbn (k:=1) (by decide) (by decide)
 ·rw[if_neg h0,if_neg h0]
  exact⟨qbn (k:=1) (by decide) (by decide),qbn (k:=1) (by decide) (by decide)⟩
def cmpG(x y:Cut):Int:=or3 (cmpZ x.b y.b) (cmpQ (numR x.s.data.toList) (denR x.s.data.toList) (numR y.s.data.toList) (denR y.s.data.toList)) (cmpZ x.d y.d)
theorem qd9(x:Cut):cmpG x x=0:=by
 unfold cmpG cmpQ or3;rw[(@qb7 x.b x.b).2 rfl,(@qb7 x.d x.d).2 rfl,(qb7).2 rfl]
 rfl
structure GC where
 c:Cut
 x:Bool
 a:Option Addr
 n:Nat
 cap:Nat
 y:Bool
 e:Option Addr
 m:Nat
 cap2:Nat
def GC.cells(k:GC):List Value:=[.int .i64 k.c.b,.string k.c.s,.int .i64 k.c.d,.bool k.x,.slice k.a k.n k.cap,.bool k.y,.slice k.e k.m k.cap2]
def GC.agg(k:GC):Value:=.agg #[.int .i64 k.c.b,.string k.c.s,.int .i64 k.c.d,.bool k.x,.slice k.a k.n k.cap,.bool k.y,.slice k.e k.m k.cap2]
def GC.ok(w:World)(k:GC):Prop:=RatV w (.agg #[.bool k.x,.slice k.a k.n k.cap,.bool k.y,.slice k.e k.m k.cap2]) (numR k.c.s.data.toList) (denR k.c.s.data.toList)∧(AU w k.a∧AU w k.e)∧k.c.s.size≤5000
theorem GC.ok.mono{w w':World}{k:GC}(h:k.ok w)(hb:Below w.heap.size w w'):k.ok w':=⟨h.1.mono hb,⟨h.2.1.1.mono hb,h.2.1.2.mono hb⟩,h.2.2⟩
theorem RatV.grown{w w':World}{B e sz n k c k' c':Nat}{v:Value}{xs:List Value}{x x':Bool}{a a':Option Addr}{p q:Int}(h:RatV w (.agg #[.bool x,.slice a k c,.bool x',.slice a' k' c']) p q)(ha:AU w a)(ha':AU w a')(hown:w.ownsRow B e sz v n xs)(he:e≠62)(hg:w.grownBy w' v.ownBlock):RatV w' (.agg #[.bool x,.slice a k c,.bool x',.slice a' k' c']) p q:=
 RatV.mk (h.parts.1.grown ha hown he hg) (h.parts.2.grown ha' hown he hg)
theorem GC.ok.grown{w w':World}{B e sz n:Nat}{v:Value}{xs:List Value}{k:GC}(h:k.ok w)(hown:w.ownsRow B e sz v n xs)(he:e≠62)(hg:w.grownBy w' v.ownBlock):k.ok w':=⟨h.1.grown h.2.1.1 h.2.1.2 hown he hg,⟨h.2.1.1.grown hown he hg,h.2.1.2.grown hown he hg⟩,h.2.2⟩
namespace Dr
theorem qcl(k l:GC)(w:World)(hk:k.ok w)(hl:l.ok w):Calls Tryz.prog 73 #[k.agg,l.agg] w (Ret (.int .i64 (cmpG k.c l.c)) w):=by
 unfold GC.agg;obtain⟨hk,-,hks⟩:=hk;obtain⟨hl,-,hls⟩:=hl;obtain⟨⟨b,s,d⟩,x,a,n,c,y,e,m,r⟩:=k;obtain⟨⟨b',s',d'⟩,x',a',n',c',y',e',m',r'⟩:=l;dsimp only at hk hl hks hls⊢;have hf:=qoo (l:=s.data.toList) (by rw[←Lib.size_eq];exact hks);have hf':=qoo (l:=s'.data.toList) (by rw[←Lib.size_eq];exact hls);have hA:Blk ((w.alloc (.cells #[.int .i64 b,.string s,.int .i64 d,.bool x,.slice a n c,.bool y,.slice e m r] 79)).alloc (.cells #[.int .i64 b',.string s',.int .i64 d',.bool x',.slice a' n' c',.bool y',.slice e' m' r'] 79)) w.heap.size #[.int .i64 b,.string s,.int .i64 d,.bool x,.slice a n c,.bool y,.slice e m r] 79:=(Blk.new w _ _).old _
 have hB:Blk ((w.alloc (.cells #[.int .i64 b,.string s,.int .i64 d,.bool x,.slice a n c,.bool y,.slice e m r] 79)).alloc (.cells #[.int .i64 b',.string s',.int .i64 d',.bool x',.slice a' n' c',.bool y',.slice e' m' r'] 79)) (w.heap.size+1) #[.int .i64 b',.string s',.int .i64 d',.bool x',.slice a' n' c',.bool y',.slice e' m' r'] 79:=by
  have h:=Blk.new (w.alloc (.cells #[.int .i64 b,.string s,.int .i64 d,.bool x,.slice a n c,.bool y,.slice e m r] 79)) #[.int .i64 b',.string s',.int .i64 d',.bool x',.slice a' n' c',.bool y',.slice e' m' r'] 79
  simpa using h
 have HS:=hI (fun w' (hb:Below ((w.alloc (.cells #[.int .i64 b,.string s,.int .i64 d,.bool x,.slice a n c,.bool y,.slice e m r] 79)).alloc (.cells #[.int .i64 b',.string s',.int .i64 d',.bool x',.slice a' n' c',.bool y',.slice e' m' r'] 79)).heap.size ((w.alloc (.cells #[.int .i64 b,.string s,.int .i64 d,.bool x,.slice a n c,.bool y,.slice e m r] 79)).alloc (.cells #[.int .i64 b',.string s',.int .i64 d',.bool x',.slice a' n' c',.bool y',.slice e' m' r'] 79)) w')=>And.intro (qa4 hA hb.b) (qa4 hB hb.b));have H1:=hI (fun w' (hb:Below ((w.alloc (.cells #[.int .i64 b,.string s,.int .i64 d,.bool x,.slice a n c,.bool y,.slice e m r] 79)).alloc (.cells #[.int .i64 b',.string s',.int .i64 d',.bool x',.slice a' n' c',.bool y',.slice e' m' r'] 79)).heap.size ((w.alloc (.cells #[.int .i64 b,.string s,.int .i64 d,.bool x,.slice a n c,.bool y,.slice e m r] 79)).alloc (.cells #[.int .i64 b',.string s',.int .i64 d',.bool x',.slice a' n' c',.bool y',.slice e' m' r'] 79)) w')=>qnh _ _ _ _ _ _ w' (hk.mono ((qa1 w (.cells #[.int .i64 b,.string s,.int .i64 d,.bool x,.slice a n c,.bool y,.slice e m r] 79) (.cells #[.int .i64 b',.string s',.int .i64 d',.bool x',.slice a' n' c',.bool y',.slice e' m' r'] 79)).via hb (qa1 w (.cells #[.int .i64 b,.string s,.int .i64 d,.bool x,.slice a n c,.bool y,.slice e m r] 79) (.cells #[.int .i64 b',.string s',.int .i64 d',.bool x',.slice a' n' c',.bool y',.slice e' m' r'] 79)).size).b) (hl.mono ((qa1 w (.cells #[.int .i64 b,.string s,.int .i64 d,.bool x,.slice a n c,.bool y,.slice e m r] 79) (.cells #[.int .i64 b',.string s',.int .i64 d',.bool x',.slice a' n' c',.bool y',.slice e' m' r'] 79)).via hb (qa1 w (.cells #[.int .i64 b,.string s,.int .i64 d,.bool x,.slice a n c,.bool y,.slice e m r] 79) (.cells #[.int .i64 b',.string s',.int .i64 d',.bool x',.slice a' n' c',.bool y',.slice e' m' r'] 79)).size).b) hf hf');have H2:=hI (fun p q w'=>Tryz.cmp_Compare_int p q w')
 have H3:=hI (fun bb cc p q r w' (hB:Blk w' bb #[.int .i64 p,.int .i64 q,.int .i64 r] 3)=>(or_d bb cc p q r w' hB).mono fun _ _ h=>rdR h)
 have hE:b=b'→s.toList=s'.toList→d=d'→cmpG ⟨b,s,d⟩ ⟨b',s',d'⟩=0:=fun h1 h2 h3=>by
  subst h1 h3;rw[qe5 h2];exact qd9 _
 have HE:=hI hE;have HC:=hI (show cmpG ⟨b,s,d⟩ ⟨b',s',d'⟩=or3 (Lib.compareInt b b') (cmpQ (numR s.data.toList) (denR s.data.toList) (numR s'.data.toList) (denR s'.data.toList)) (Lib.compareInt d d')by rw[qc1,qc1];rfl);generalize cmpG ⟨b,s,d⟩ ⟨b',s',d'⟩=R at*;generalize cmpQ (numR s.data.toList) (denR s.data.toList) (numR s'.data.toList) (denR s'.data.toList)=Z at*;have HK:=hI (qa1 w (.cells #[.int .i64 b,.string s,.int .i64 d,.bool x,.slice a n c,.bool y,.slice e m r] 79) (.cells #[.int .i64 b',.string s',.int .i64 d',.bool x',.slice a' n' c',.bool y',.slice e' m' r'] 79));clear hk hl hA hB hE hf hf' hks hls
 go_enter Tryz.func73,Tryz.ntmps73
 go_wp2_with fail
 case isTrue.isTrue.isFalse=>
  clear HE;have hbb:b=b':=by assumption
  subst hbb;refine wp_region_held_drew (S:=(fun w'=>w'.cell? ⟨w.heap.size,0,none⟩=some (.int .i64 b)∧w'.cell? ⟨w.heap.size,1,none⟩=some (.string s)∧w'.cell? ⟨w.heap.size,2,none⟩=some (.int .i64 d)∧w'.cell? ⟨w.heap.size,3,none⟩=some (.bool x)∧w'.cell? ⟨w.heap.size,4,none⟩=some (.slice a n c)∧w'.cell? ⟨w.heap.size,5,none⟩=some (.bool y)∧w'.cell? ⟨w.heap.size,6,none⟩=some (.slice e m r)∧w'.cell? ⟨w.heap.size+1,0,none⟩=some (.int .i64 b)∧w'.cell? ⟨w.heap.size+1,1,none⟩=some (.string s')∧w'.cell? ⟨w.heap.size+1,2,none⟩=some (.int .i64 d')∧w'.cell? ⟨w.heap.size+1,3,none⟩=some (.bool x')∧w'.cell? ⟨w.heap.size+1,4,none⟩=some (.slice a' n' c')∧w'.cell? ⟨w.heap.size+1,5,none⟩=some (.bool y')∧w'.cell? ⟨w.heap.size+1,6,none⟩=some (.slice e' m' r'))) (by kernel_rfl) (by exact(fun h=>⟨h.1.1,h.1.2.1,h.1.2.2.1,h.1.2.2.2.1,h.1.2.2.2.2.1,h.1.2.2.2.2.2.1,h.1.2.2.2.2.2.2,h.2⟩) (HS.out _ ((Below.refl _ _).dn 1))) (fun hHeld=>?_)
  refine wpAnyH_take (i:=0) (v:=?v1) rfl (by kernel_rfl) (by kernel_rfl) (by kernel_rfl) (fun _ _ _ h=>h) (Or.inl ⟨by rfl,?hy1⟩) (by assumption) ?rest1
  case hy1=>(intro w hSw;(try dsimp only at hSw);go_simp;try(with_reducible rfl))
  try simp only[Act.put,List.getElem_toArray,List.getElem_cons_zero,List.setIfInBounds_toArray,List.set_cons_zero,List.set_cons_succ]
  refine' tk 1 ?_;(try simp only[tkS]);refine' tk 2 ?_;(try simp only[tkS]);refine' tk 3 ?_;(try simp only[tkS]);refine' tk 4 ?_;(try simp only[tkS]);refine' tk 5 ?_;(try simp only[tkS]);refine' tk 7 ?_;(try simp only[tkS]);refine' tk 8 ?_;(try simp only[tkS]);refine' tk 9 ?_;(try simp only[tkS]);refine' tk 10 ?_;(try simp only[tkS]);refine' tk 12 ?_;(try simp only[tkS]);refine' tk 13 ?_;(try simp only[tkS]);refine' tk 14 ?_;(try simp only[tkS]);refine' tk 15 ?_;(try simp only[tkS]);refine' tk 16 ?_;(try simp only[tkS]);refine' tk 17 ?_;(try simp only[tkS]);refine tk1 6 (fun K hK=>?_)
  go_simp;go_at_call 124;refine(H2.out b b _).mono ?_
  rintro e5 w5 ⟨rfl,rfl⟩;refine hK.out _ _ (by exact(fun h=>⟨h.1.1,h.1.2.1,h.1.2.2.1,h.1.2.2.2.1,h.1.2.2.2.2.1,h.1.2.2.2.2.2.1,h.1.2.2.2.2.2.2,h.2⟩) (HS.out _ ((Below.refl _ _).dn 1))) (fun hHeld=>?_)
  clear hK K;(try simp only[tkS]);refine tk1 11 (fun K hK=>?_)
  go_simp;go_at_call 64;refine(H1.out _ ((Below.refl _ _).dn 1)).mono ?_
  rintro e5 w11 ⟨rfl,hb11⟩;have Hb11:=hI (qaa ((Below.refl _ _).dn 1) hb11);clear hb11;refine hK.out _ _ (by exact(fun h=>⟨h.1.1,h.1.2.1,h.1.2.2.1,h.1.2.2.2.1,h.1.2.2.2.2.1,h.1.2.2.2.2.2.1,h.1.2.2.2.2.2.2,h.2⟩) (HS.out _ (Hb11.out))) (fun hHeld=>?_)
  clear hK K;(try simp only[tkS]);refine tk1 18 (fun K hK=>?_)
  go_simp;go_at_call 124;refine(H2.out d d' _).mono ?_
  rintro e5 w5 ⟨rfl,rfl⟩;refine hK.out _ _ (by exact(fun h=>⟨h.1.1,h.1.2.1,h.1.2.2.1,h.1.2.2.2.1,h.1.2.2.2.2.1,h.1.2.2.2.2.2.1,h.1.2.2.2.2.2.2,h.2⟩) (HS.out _ (Hb11.out))) (fun hHeld=>?_)
  clear hK K;(try simp only[tkS]);refine tk1 19 (fun K hK=>?_)
  generalize hX:Lib.compareInt b b=X1 at*;generalize hY:Lib.compareInt d d'=X3 at*;go_simp;refine hK.out _ _ (by exact(fun h=>⟨h.1.1,h.1.2.1,h.1.2.2.1,h.1.2.2.2.1,h.1.2.2.2.2.1,h.1.2.2.2.2.2.1,h.1.2.2.2.2.2.2,h.2⟩) (HS.out _ ((Hb11.out).alloc ((Hb11.out).size) (.cells #[.int .i64 X1,.int .i64 Z,.int .i64 X3] 3)))) (fun hHeld=>?_)
  clear hK K;(try simp only[tkS]);refine tk1 20 (fun K hK=>?_)
  go_simp;go_at_call 123;refine(H3.out _ _ _ _ _ _ (Blk.new _ _ _)).mono ?_
  rintro e5 w20 ⟨rfl,hb20⟩;have Hb20:=hI (qaa ((Hb11.out).alloc ((Hb11.out).size) (.cells #[.int .i64 X1,.int .i64 Z,.int .i64 X3] 3)) hb20);clear hb20;refine hK.out _ _ (by exact(fun h=>⟨h.1.1,h.1.2.1,h.1.2.2.1,h.1.2.2.2.1,h.1.2.2.2.2.1,h.1.2.2.2.2.2.1,h.1.2.2.2.2.2.2,h.2⟩) (HS.out _ (Hb20.out))) (fun hHeld=>?_)
  clear hK K;(try simp only[tkS]);refine' tk 21 ?_;(try simp only[tkS]);refine tkD ?_ _
  go_wp2_with fail
  go_ret
  exact⟨by rw[HC.out];first|rfl|skip,HK.out.via (Hb20.out) HK.out.size⟩
 case isTrue.isFalse=>
  clear HE;have hbb:b=b':=by assumption
  subst hbb;refine wp_region_held_drew (S:=(fun w'=>w'.cell? ⟨w.heap.size,0,none⟩=some (.int .i64 b)∧w'.cell? ⟨w.heap.size,1,none⟩=some (.string s)∧w'.cell? ⟨w.heap.size,2,none⟩=some (.int .i64 d)∧w'.cell? ⟨w.heap.size,3,none⟩=some (.bool x)∧w'.cell? ⟨w.heap.size,4,none⟩=some (.slice a n c)∧w'.cell? ⟨w.heap.size,5,none⟩=some (.bool y)∧w'.cell? ⟨w.heap.size,6,none⟩=some (.slice e m r)∧w'.cell? ⟨w.heap.size+1,0,none⟩=some (.int .i64 b)∧w'.cell? ⟨w.heap.size+1,1,none⟩=some (.string s')∧w'.cell? ⟨w.heap.size+1,2,none⟩=some (.int .i64 d')∧w'.cell? ⟨w.heap.size+1,3,none⟩=some (.bool x')∧w'.cell? ⟨w.heap.size+1,4,none⟩=some (.slice a' n' c')∧w'.cell? ⟨w.heap.size+1,5,none⟩=some (.bool y')∧w'.cell? ⟨w.heap.size+1,6,none⟩=some (.slice e' m' r'))) (by kernel_rfl) (by exact(fun h=>⟨h.1.1,h.1.2.1,h.1.2.2.1,h.1.2.2.2.1,h.1.2.2.2.2.1,h.1.2.2.2.2.2.1,h.1.2.2.2.2.2.2,h.2⟩) (HS.out _ ((Below.refl _ _).dn 1))) (fun hHeld=>?_)
  refine wpAnyH_take (i:=0) (v:=?v18) rfl (by kernel_rfl) (by kernel_rfl) (by kernel_rfl) (fun _ _ _ h=>h) (Or.inl ⟨by rfl,?hy18⟩) (by assumption) ?rest18
  case hy18=>(intro w hSw;(try dsimp only at hSw);go_simp;try(with_reducible rfl))
  try simp only[Act.put,List.getElem_toArray,List.getElem_cons_zero,List.setIfInBounds_toArray,List.set_cons_zero,List.set_cons_succ]
  refine' tk 1 ?_;(try simp only[tkS]);refine' tk 2 ?_;(try simp only[tkS]);refine' tk 3 ?_;(try simp only[tkS]);refine' tk 4 ?_;(try simp only[tkS]);refine' tk 5 ?_;(try simp only[tkS]);refine' tk 7 ?_;(try simp only[tkS]);refine' tk 8 ?_;(try simp only[tkS]);refine' tk 9 ?_;(try simp only[tkS]);refine' tk 10 ?_;(try simp only[tkS]);refine' tk 12 ?_;(try simp only[tkS]);refine' tk 13 ?_;(try simp only[tkS]);refine' tk 14 ?_;(try simp only[tkS]);refine' tk 15 ?_;(try simp only[tkS]);refine' tk 16 ?_;(try simp only[tkS]);refine' tk 17 ?_;(try simp only[tkS]);refine tk1 6 (fun K hK=>?_)
  go_simp;go_at_call 124;refine(H2.out b b _).mono ?_
  rintro e5 w5 ⟨rfl,rfl⟩;refine hK.out _ _ (by exact(fun h=>⟨h.1.1,h.1.2.1,h.1.2.2.1,h.1.2.2.2.1,h.1.2.2.2.2.1,h.1.2.2.2.2.2.1,h.1.2.2.2.2.2.2,h.2⟩) (HS.out _ ((Below.refl _ _).dn 1))) (fun hHeld=>?_)
  clear hK K;(try simp only[tkS]);refine tk1 11 (fun K hK=>?_)
  go_simp;go_at_call 64;refine(H1.out _ ((Below.refl _ _).dn 1)).mono ?_
  rintro e5 w11 ⟨rfl,hb11⟩;have Hb11:=hI (qaa ((Below.refl _ _).dn 1) hb11);clear hb11;refine hK.out _ _ (by exact(fun h=>⟨h.1.1,h.1.2.1,h.1.2.2.1,h.1.2.2.2.1,h.1.2.2.2.2.1,h.1.2.2.2.2.2.1,h.1.2.2.2.2.2.2,h.2⟩) (HS.out _ (Hb11.out))) (fun hHeld=>?_)
  clear hK K;(try simp only[tkS]);refine tk1 18 (fun K hK=>?_)
  go_simp;go_at_call 124;refine(H2.out d d' _).mono ?_
  rintro e5 w5 ⟨rfl,rfl⟩;refine hK.out _ _ (by exact(fun h=>⟨h.1.1,h.1.2.1,h.1.2.2.1,h.1.2.2.2.1,h.1.2.2.2.2.1,h.1.2.2.2.2.2.1,h.1.2.2.2.2.2.2,h.2⟩) (HS.out _ (Hb11.out))) (fun hHeld=>?_)
  clear hK K;(try simp only[tkS]);refine tk1 19 (fun K hK=>?_)
  generalize hX:Lib.compareInt b b=X1 at*;generalize hY:Lib.compareInt d d'=X3 at*;go_simp;refine hK.out _ _ (by exact(fun h=>⟨h.1.1,h.1.2.1,h.1.2.2.1,h.1.2.2.2.1,h.1.2.2.2.2.1,h.1.2.2.2.2.2.1,h.1.2.2.2.2.2.2,h.2⟩) (HS.out _ ((Hb11.out).alloc ((Hb11.out).size) (.cells #[.int .i64 X1,.int .i64 Z,.int .i64 X3] 3)))) (fun hHeld=>?_)
  clear hK K;(try simp only[tkS]);refine tk1 20 (fun K hK=>?_)
  go_simp;go_at_call 123;refine(H3.out _ _ _ _ _ _ (Blk.new _ _ _)).mono ?_
  rintro e5 w20 ⟨rfl,hb20⟩;have Hb20:=hI (qaa ((Hb11.out).alloc ((Hb11.out).size) (.cells #[.int .i64 X1,.int .i64 Z,.int .i64 X3] 3)) hb20);clear hb20;refine hK.out _ _ (by exact(fun h=>⟨h.1.1,h.1.2.1,h.1.2.2.1,h.1.2.2.2.1,h.1.2.2.2.2.1,h.1.2.2.2.2.2.1,h.1.2.2.2.2.2.2,h.2⟩) (HS.out _ (Hb20.out))) (fun hHeld=>?_)
  clear hK K;(try simp only[tkS]);refine' tk 21 ?_;(try simp only[tkS]);refine tkD ?_ _
  go_wp2_with fail
  go_ret
  exact⟨by rw[HC.out];first|rfl|skip,HK.out.via (Hb20.out) HK.out.size⟩
 case isFalse=>
  clear HE;refine wp_region_held_drew (S:=(fun w'=>w'.cell? ⟨w.heap.size,0,none⟩=some (.int .i64 b)∧w'.cell? ⟨w.heap.size,1,none⟩=some (.string s)∧w'.cell? ⟨w.heap.size,2,none⟩=some (.int .i64 d)∧w'.cell? ⟨w.heap.size,3,none⟩=some (.bool x)∧w'.cell? ⟨w.heap.size,4,none⟩=some (.slice a n c)∧w'.cell? ⟨w.heap.size,5,none⟩=some (.bool y)∧w'.cell? ⟨w.heap.size,6,none⟩=some (.slice e m r)∧w'.cell? ⟨w.heap.size+1,0,none⟩=some (.int .i64 b')∧w'.cell? ⟨w.heap.size+1,1,none⟩=some (.string s')∧w'.cell? ⟨w.heap.size+1,2,none⟩=some (.int .i64 d')∧w'.cell? ⟨w.heap.size+1,3,none⟩=some (.bool x')∧w'.cell? ⟨w.heap.size+1,4,none⟩=some (.slice a' n' c')∧w'.cell? ⟨w.heap.size+1,5,none⟩=some (.bool y')∧w'.cell? ⟨w.heap.size+1,6,none⟩=some (.slice e' m' r'))) (by kernel_rfl) (by exact(fun h=>⟨h.1.1,h.1.2.1,h.1.2.2.1,h.1.2.2.2.1,h.1.2.2.2.2.1,h.1.2.2.2.2.2.1,h.1.2.2.2.2.2.2,h.2⟩) (HS.out _ ((Below.refl _ _).dn 1))) (fun hHeld=>?_)
  refine wpAnyH_take (i:=0) (v:=?v35) rfl (by kernel_rfl) (by kernel_rfl) (by kernel_rfl) (fun _ _ _ h=>h) (Or.inl ⟨by rfl,?hy35⟩) (by assumption) ?rest35
  case hy35=>(intro w hSw;(try dsimp only at hSw);go_simp;try(with_reducible rfl))
  try simp only[Act.put,List.getElem_toArray,List.getElem_cons_zero,List.setIfInBounds_toArray,List.set_cons_zero,List.set_cons_succ]
  refine' tk 1 ?_;(try simp only[tkS]);refine' tk 2 ?_;(try simp only[tkS]);refine' tk 3 ?_;(try simp only[tkS]);refine' tk 4 ?_;(try simp only[tkS]);refine' tk 5 ?_;(try simp only[tkS]);refine' tk 7 ?_;(try simp only[tkS]);refine' tk 8 ?_;(try simp only[tkS]);refine' tk 9 ?_;(try simp only[tkS]);refine' tk 10 ?_;(try simp only[tkS]);refine' tk 12 ?_;(try simp only[tkS]);refine' tk 13 ?_;(try simp only[tkS]);refine' tk 14 ?_;(try simp only[tkS]);refine' tk 15 ?_;(try simp only[tkS]);refine' tk 16 ?_;(try simp only[tkS]);refine' tk 17 ?_;(try simp only[tkS]);refine tk1 6 (fun K hK=>?_)
  go_simp;go_at_call 124;refine(H2.out b b' _).mono ?_
  rintro e5 w5 ⟨rfl,rfl⟩;refine hK.out _ _ (by exact(fun h=>⟨h.1.1,h.1.2.1,h.1.2.2.1,h.1.2.2.2.1,h.1.2.2.2.2.1,h.1.2.2.2.2.2.1,h.1.2.2.2.2.2.2,h.2⟩) (HS.out _ ((Below.refl _ _).dn 1))) (fun hHeld=>?_)
  clear hK K;(try simp only[tkS]);refine tk1 11 (fun K hK=>?_)
  go_simp;go_at_call 64;refine(H1.out _ ((Below.refl _ _).dn 1)).mono ?_
  rintro e5 w11 ⟨rfl,hb11⟩;have Hb11:=hI (qaa ((Below.refl _ _).dn 1) hb11);clear hb11;refine hK.out _ _ (by exact(fun h=>⟨h.1.1,h.1.2.1,h.1.2.2.1,h.1.2.2.2.1,h.1.2.2.2.2.1,h.1.2.2.2.2.2.1,h.1.2.2.2.2.2.2,h.2⟩) (HS.out _ (Hb11.out))) (fun hHeld=>?_)
  clear hK K;(try simp only[tkS]);refine tk1 18 (fun K hK=>?_)
  go_simp;go_at_call 124;refine(H2.out d d' _).mono ?_
  rintro e5 w5 ⟨rfl,rfl⟩;refine hK.out _ _ (by exact(fun h=>⟨h.1.1,h.1.2.1,h.1.2.2.1,h.1.2.2.2.1,h.1.2.2.2.2.1,h.1.2.2.2.2.2.1,h.1.2.2.2.2.2.2,h.2⟩) (HS.out _ (Hb11.out))) (fun hHeld=>?_)
  clear hK K;(try simp only[tkS]);refine tk1 19 (fun K hK=>?_)
  generalize hX:Lib.compareInt b b'=X1 at*;generalize hY:Lib.compareInt d d'=X3 at*;go_simp;refine hK.out _ _ (by exact(fun h=>⟨h.1.1,h.1.2.1,h.1.2.2.1,h.1.2.2.2.1,h.1.2.2.2.2.1,h.1.2.2.2.2.2.1,h.1.2.2.2.2.2.2,h.2⟩) (HS.out _ ((Hb11.out).alloc ((Hb11.out).size) (.cells #[.int .i64 X1,.int .i64 Z,.int .i64 X3] 3)))) (fun hHeld=>?_)
  clear hK K;(try simp only[tkS]);refine tk1 20 (fun K hK=>?_)
  go_simp;go_at_call 123;refine(H3.out _ _ _ _ _ _ (Blk.new _ _ _)).mono ?_
  rintro e5 w20 ⟨rfl,hb20⟩;have Hb20:=hI (qaa ((Hb11.out).alloc ((Hb11.out).size) (.cells #[.int .i64 X1,.int .i64 Z,.int .i64 X3] 3)) hb20);clear hb20;refine hK.out _ _ (by exact(fun h=>⟨h.1.1,h.1.2.1,h.1.2.2.1,h.1.2.2.2.1,h.1.2.2.2.2.1,h.1.2.2.2.2.2.1,h.1.2.2.2.2.2.2,h.2⟩) (HS.out _ (Hb20.out))) (fun hHeld=>?_)
  clear hK K;(try simp only[tkS]);refine' tk 21 ?_;(try simp only[tkS]);refine tkD ?_ _
  go_wp2_with fail
  go_ret
  exact⟨by rw[HC.out];first|rfl|skip,HK.out.via (Hb20.out) HK.out.size⟩
 have hcc:R=0:=HE.out (by assumption) (by assumption) (by assumption);rw[hcc]
 go_ret
 exact⟨rfl,qa1 w _ _⟩
end Dr
theorem qcl(k l:GC)(w:World)(hk:k.ok w)(hl:l.ok w):Calls Tryz.prog 73 #[k.agg,l.agg] w (Ret (.int .i64 (cmpG k.c l.c)) w):=(Dr.qcl k l w hk hl).mono fun _ _ h=>h.n
end Go.Proofs.YtacihodamichhaaGreatDoor
