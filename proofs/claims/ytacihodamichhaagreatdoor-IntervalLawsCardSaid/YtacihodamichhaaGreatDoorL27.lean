/- Parts of the proof. -/
import Derived.Test.YtacihodamichhaaGreatDoorL13
import Derived.Test.YtacihodamichhaaGreatDoorL26
namespace Go.Proofs.YtacihodamichhaaGreatDoor
open Go.RowKit
set_option maxHeartbeats 4000000
theorem qb0(neg:Bool)(N:Nat)(w:World)(hf:qbr N):Calls Tryz.prog 118 #[.string ⟨(txtN neg N).toArray⟩] w (RetP (fun v w'=>DgV w' v N) w):=by
 obtain⟨p,h1,h2,h3,h4,h5⟩:=qkq neg N;unfold qbr at hf;rcases h4 with h4|h4
 ·rw[h4]
  have h:=qf5 p false p w rfl h1 (by omega);rw[h3]at h;exact h
 ·rw[h4]
  have h:=qf5 p true (45::p) w rfl h1 (by omega);rw[h3]at h;exact h
theorem qei(z:Int):(z<0∧z.sign=-1)∨(z=0∧z.sign=0)∨(0<z∧z.sign=1):=by
 rcases Int.lt_trichotomy z 0 with h|h|h
 ·exact .inl ⟨h,Int.sign_eq_neg_one_of_neg h⟩
 ·exact .inr (.inl ⟨h,by rw[h];rfl⟩)
 ·exact .inr (.inr ⟨h,Int.sign_eq_one_of_pos h⟩)
theorem qkh{y z:Int}(h:y.sign<z.sign):cmpZ y z=-1:=by
 have a:=qei y;have b:=qei z;unfold cmpZ;rw[if_pos (by omega)]
theorem qki{y z:Int}(h:z.sign<y.sign):cmpZ y z=1:=by
 have a:=qei y;have b:=qei z;unfold cmpZ;rw[if_neg (by omega),if_pos (by omega)]
theorem qjk{y z:Int}(h:y.sign=z.sign)(hn:y.sign<0):cmpZ y z=cmpN z.natAbs y.natAbs:=by
 have a:=qei y;have b:=qei z;unfold cmpZ cmpN
 split
 ·rw[if_pos (by omega)]
 ·split
  ·rw[if_neg (by omega),if_pos (by omega)]
  ·rw[if_neg (by omega),if_neg (by omega)]
theorem qjj{y z:Int}(h:y.sign=z.sign)(hn:¬y.sign<0):cmpZ y z=cmpN y.natAbs z.natAbs:=by
 have a:=qei y;have b:=qei z;unfold cmpZ cmpN
 split
 ·rw[if_pos (by omega)]
 ·split
  ·rw[if_neg (by omega),if_pos (by omega)]
  ·rw[if_neg (by omega),if_neg (by omega)]
theorem qpn(y z:Int)(w:World)(hy:qbr y.natAbs)(hz:qbr z.natAbs):Calls Tryz.prog 70 #[.string ⟨(txtZ y).toArray⟩,.string ⟨(txtZ z).toArray⟩] w (Ret (.int .i64 (cmpZ y z)) w):=by
 have H1:=hI (fun w'=>qc4 y w');have H2:=hI (fun w'=>qc4 z w');have H3:=hI (fun w'=>qb0 (decide (y<0)) y.natAbs w' hy);have H4:=hI (fun w'=>qb0 (decide (z<0)) z.natAbs w' hz);have H5:=hI (fun u v w' (hu:DgV w' u y.natAbs) (hv:DgV w' v z.natAbs)=>(qhq u v y.natAbs z.natAbs w' hu hv).mono fun _ _ h=>h.ret);have H6:=hI (fun u v w' (hu:DgV w' u z.natAbs) (hv:DgV w' v y.natAbs)=>(qhq u v z.natAbs y.natAbs w' hu hv).mono fun _ _ h=>h.ret)
 change Hid (∀w',Calls Tryz.prog 118 #[.string ⟨(txtZ y).toArray⟩] w' _)at H3
 change Hid (∀w',Calls Tryz.prog 118 #[.string ⟨(txtZ z).toArray⟩] w' _)at H4
 have e1:=@qkh y z;have e2:=@qki y z;have e3:=@qjk y z;have e4:=@qjj y z;generalize cmpZ y z=R at*;generalize(⟨(txtZ y).toArray⟩:ByteArray)=Y at*;generalize(⟨(txtZ z).toArray⟩:ByteArray)=Z at*;generalize y.sign=a at*;generalize z.sign=b at*;generalize cmpN y.natAbs z.natAbs=P at*;generalize cmpN z.natAbs y.natAbs=N at*
 by_cases h1:a<b
 ·rw[e1 h1]
  clear e1 e2 e3 e4
  go_enter Tryz.func70,Tryz.ntmps70
  go_wp2_with (first
   |(have _t:=Hb1;clear _t;go_at_call 120;refine(H2.out _).mono ?_;rintro e w2 ⟨rfl,hb2⟩;have Hb2:=hI (qaa Hb1.out hb2);clear hb2)
   |(go_at_call 120;refine(H1.out _).mono ?_;rintro e w1 ⟨rfl,hb1⟩;have Hb1:=hI hb1;clear hb1))
  go_ret
  exact⟨rfl,Hb2.out⟩
 ·by_cases h2:b<a
  ·rw[e2 h2]
   clear e1 e2 e3 e4
   go_enter Tryz.func70,Tryz.ntmps70
   go_wp2_with (first
    |(have _t:=Hb1;clear _t;go_at_call 120;refine(H2.out _).mono ?_;rintro e w2 ⟨rfl,hb2⟩;have Hb2:=hI (qaa Hb1.out hb2);clear hb2)
    |(go_at_call 120;refine(H1.out _).mono ?_;rintro e w1 ⟨rfl,hb1⟩;have Hb1:=hI hb1;clear hb1))
   go_ret
   exact⟨rfl,Hb2.out⟩
  ·obtain rfl:a=b:=by omega
   by_cases h3:a<0
   ·rw[e3 rfl h3]
    clear e1 e2 e3 e4
    go_enter Tryz.func70,Tryz.ntmps70
    go_wp2_with (first
     |(have _t:=Hb1;clear _t;go_at_call 120;refine(H2.out _).mono ?_;rintro e w2 ⟨rfl,hb2⟩;have Hb2:=hI (qaa Hb1.out hb2);clear hb2)
     |(go_at_call 120;refine(H1.out _).mono ?_;rintro e w1 ⟨rfl,hb1⟩;have Hb1:=hI hb1;clear hb1)
     |(have _t:=HV3;clear _t;go_at_call 118;refine(H3.out _).mono ?_;rintro e w4 ⟨v4,rfl,hv4,hb4⟩;have HV4:=hI hv4;have HV3':=hI (HV3.out.mono hb4);have Hb4:=hI (qaa Hb3.out hb4);clear hv4 hb4)
     |(go_at_call 118;refine(H4.out _).mono ?_;rintro e w3 ⟨v3,rfl,hv3,hb3⟩;have HV3:=hI hv3;have Hb3:=hI (qaa Hb2.out hb3);clear hv3 hb3)
     |(go_at_call 121;refine(H6.out _ _ _ HV3'.out HV4.out).mono ?_;rintro e w5 ⟨rfl,hb5⟩))
    go_ret
    exact⟨rfl,qaa Hb4.out hb5⟩
   ·rw[e4 rfl h3]
    clear e1 e2 e3 e4
    go_enter Tryz.func70,Tryz.ntmps70
    go_wp2_with (first
     |(have _t:=Hb1;clear _t;go_at_call 120;refine(H2.out _).mono ?_;rintro e w2 ⟨rfl,hb2⟩;have Hb2:=hI (qaa Hb1.out hb2);clear hb2)
     |(go_at_call 120;refine(H1.out _).mono ?_;rintro e w1 ⟨rfl,hb1⟩;have Hb1:=hI hb1;clear hb1)
     |(have _t:=HV3;clear _t;go_at_call 118;refine(H4.out _).mono ?_;rintro e w4 ⟨v4,rfl,hv4,hb4⟩;have HV4:=hI hv4;have HV3':=hI (HV3.out.mono hb4);have Hb4:=hI (qaa Hb3.out hb4);clear hv4 hb4)
     |(go_at_call 118;refine(H3.out _).mono ?_;rintro e w3 ⟨v3,rfl,hv3,hb3⟩;have HV3:=hI hv3;have Hb3:=hI (qaa Hb2.out hb3);clear hv3 hb3)
     |(go_at_call 121;refine(H5.out _ _ _ HV3'.out HV4.out).mono ?_;rintro e w5 ⟨rfl,hb5⟩))
    go_ret
    exact⟨rfl,qaa Hb4.out hb5⟩
def dvs(l:List Nat):List Value:=(qcw l).map (Value.int .i64)
def OI(M:Nat)(w:World)(g:Nat)(xs:List Nat):Prop:=w.ownsRow M 3 1 (.slice (some ⟨g,0,none⟩) xs.length xs.length) xs.length (dvs xs)
theorem OI.cell{M:Nat}{w:World}{g:Nat}{xs:List Nat}(h:OI M w g xs){i d:Nat}(hd:xs[i]?=some d):w.cell? ⟨g,i,none⟩=some (Value.int .i64 (d:Int))∧w.frozen? ⟨g,i,none⟩=false:=by
 constructor
 ·have hS:Ds w (.slice (some ⟨g,0,none⟩) xs.length xs.length) xs:=Sl.own1 h
  obtain⟨b,off,d',ha,hd',hc⟩:=hS.at (Below.refl _ _) (qbs hd);cases ha
  rw[hd]at hd';cases hd'
  rwa [Nat.zero_add]at hc
 ·rcases h.2 with⟨h1,h0⟩|⟨g',cap',cur,h1,hb,hg,_⟩
  ·cases h1
  ·cases h1
   exact frozen_of_row w g _ _ _ hg
theorem OI.set{M:Nat}{w:World}{g:Nat}{xs:List Nat}(h:OI M w g xs){i:Nat}(hi:i<xs.length)(d:Nat):OI M (w.setCell ⟨g,i,none⟩ (Value.int .i64 (d:Int))) g (xs.set i d):=by
 have h1:=qao h (i:=i) (by omega) (Value.int .i64 (d:Int));unfold OI;rw[List.length_set];have e:dvs (xs.set i d)=(dvs xs).set i (Value.int .i64 (d:Int)):=by unfold dvs qcw;rw[List.map_set,List.map_set]
 rw[e];exact h1
theorem OI.ls{M:Nat}{w:World}{g:Nat}{xs:List Nat}(h:OI M w g xs):Ds w (.slice (some ⟨g,0,none⟩) xs.length xs.length) xs:=Sl.own1 h
theorem OI.below{M:Nat}{w w':World}{g:Nat}{xs:List Nat}(h:OI M w g xs)(hb:Below w.heap.size w w'):OI M w' g xs:=qaf h hb
theorem qqi(n:Nat):(madeCells (Value.int .i64 0).cells (n*1)).toList=dvs (List.replicate n 0):=by
 simp only[madeCells,Value.cells,Nat.mul_one,dvs,qcw,List.map_replicate]
 apply List.ext_getElem<;>simp
 intro i hi;simp[Nat.mod_one]
theorem OI.made{M:Nat}{w:World}{g n:Nat}(h:w.ownsRow M 3 1 (.slice (some ⟨g,0,none⟩) n n) n (madeCells (Value.int .i64 0).cells (n*1)).toList):OI M w g (List.replicate n 0):=by
 rw[qqi]at h;unfold OI;rw[List.length_replicate];exact h
theorem OI.lt{M:Nat}{w:World}{g:Nat}{xs:List Nat}(h:OI M w g xs):g<w.heap.size:=(World.ownsRow.lt h g rfl).2
theorem OI.low{M:Nat}{w:World}{g n q:Nat}{done:List Nat}(h:OI M w g (List.replicate n 0++(q::done))):w.cell? ⟨g,n,none⟩=some (Value.int .i64 (q:Int))∧w.frozen? ⟨g,n,none⟩=false:=
 h.cell (by rw[List.getElem?_append_right (by simp),List.length_replicate,Nat.sub_self];rfl)
theorem OI.setLow{M:Nat}{w:World}{g n q:Nat}{done:List Nat}(h:OI M w g (List.replicate n 0++(q::done)))(d:Nat):OI M (w.setCell ⟨g,n,none⟩ (Value.int .i64 (d:Int))) g (List.replicate n 0++(d::done)):=by
 have:=h.set (i:=n) (by simp) d
 rwa [List.set_append_right _ _ (by simp),List.length_replicate,Nat.sub_self,List.set_cons_zero]at this
theorem qjy(w:World)(T:TypeId)(v:Value):(w.alloc (.cells #[v] T)).ownsRow w.heap.size T 1 (.slice (some ⟨w.heap.size,0,none⟩) 1 1) 1 [v]:=
 ⟨rfl,.inr ⟨w.heap.size,1,#[v],rfl,Nat.le_refl _,heap_alloc_new w _,Nat.le_refl _,by unfold maxLen;omega,rfl,rfl⟩⟩
theorem qtk{ops:Array Oper}{rest:List Oper}{o:Oper}{a:Act}{Q:Exit→Act→World→Prop}{W:World}(hgd:o.guard=none)(s x:Operand)(ho:o.op=.call { callee:=.builtin .append,args:=#[s,x],argTypes:=#[135,135] })
  (B g d:Nat) (ad:Option Addr) (m c:Nat) (l:List Nat) (hs:a.eval s=.slice (some ⟨g,0,none⟩) 1 1) (hx:a.eval x=.slice ad m c) (hown:W.ownsRow B 3 1 (.slice (some ⟨g,0,none⟩) 1 1) 1 [Value.int .i64 (d:Int)]) (hq:Ds W (.slice ad m c) l) (hn:m≤1000000) (hB:B≤W.heap.size)
  (h:∀g' c' w',w'.ownsRow B 3 1 (.slice (some ⟨g',0,none⟩) (1+m) c') (1+m) (dvs (d::l))→W.grownBy w' (some g)→wpList Tryz.prog ops Q rest (a.put o.dst (.slice (some ⟨g',0,none⟩) (1+m) c')) w'):wpList Tryz.prog ops Q (o::rest) a W:=by
 have hi:=ED.info;simp only[Option.map_eq_some_iff,Prod.mk.injEq]at hi;obtain⟨i,hi,⟨z,hz,hzs⟩,hsize,hby⟩:=hi
 have hm:l.length=m:=by
  obtain⟨_,_,hv,_⟩:=hq.open;cases hv
  rfl
 rcases Nat.eq_zero_or_pos m with rfl|hpos
 ·obtain rfl:l=[]:=List.length_eq_zero_iff.1 hm
  have hr:(Builtin.append_ #[135,135] o.type #[.slice (some ⟨g,0,none⟩) 1 1,.slice ad 0 c]).run Tryz.prog W=.ok (.slice (some ⟨g,0,none⟩) 1 1) W:=by
   cases ad<;>simp[Builtin.append_,run_underlying ED.und,sizeOf,typeInfo,hi,Builtin.lenOf,Builtin.firstCells,loadCells,loadCellsFrom,storeCells]
  refine wpList_plain hgd fun _ hK=>?_
  unfold Oper.wp execOp;simp only[ho,resolve,invoke,builtin,Sem.run_bind,Sem.run_pure,Result.andThen_ok,List.map_toArray,List.map_cons,List.map_nil,hs,hx,hr];exact hK _ _ (h _ _ _ hown ⟨rfl,rfl,rfl,Nat.le_refl _,fun _ _ _=>rfl⟩)
 ·obtain⟨b,off,-,rfl,-,-⟩:=hq.at (Below.refl _ _) hpos
  have hfl:=Sl.flat hq (fun r hr=>by obtain⟨p,_,rfl⟩:=List.mem_map.1 hr;rfl) (by decide);rw[qol]at hfl;refine wpList_append_own _ hgd s x 135 ho B 3 i z 1 8 ED.und hi hz hsize hby hzs (by decide) _ 1 _ hs hown ⟨b,off,none⟩ m c (dvs l) hx (by unfold dvs;rw[List.length_map,qga,hm,Nat.mul_one]) hfl ?_ (by unfold maxLen;omega) (by omega) hB (fun v' w' a1 a2 _=>?_)
  ·intro u hu
   unfold dvs at hu;obtain⟨p,_,rfl⟩:=List.mem_map.1 hu
   rfl
  ·obtain⟨a',c',rfl,-,-⟩:=qan a1
   obtain⟨g',rfl⟩:=qbc a1 (by omega);exact h g' c' w' a1 a2
end Go.Proofs.YtacihodamichhaaGreatDoor
