/- Parts of the proof. -/
import Derived.Test.YtacihodamichhaaGreatDoorU30
set_option maxHeartbeats 4000000
namespace Go.Proofs.YtacihodamichhaaGreatDoor
open Go.RowKit
theorem qo8{ops:Array Oper}{rest:List Oper}{o:Oper}{a:Act}{Q:Exit→Act→World→Prop}{W:World}(hgd:o.guard=none)(s x:Operand)(ho:o.op=.call { callee:=.builtin .append,args:=#[s,x],argTypes:=#[80,80] })
  (B n:Nat) (v:Value) (ps qs:List GP) (b off m c:Nat) (hs:a.eval s=v) (hx:a.eval x=.slice (some ⟨b,off,none⟩) m c) (hown:W.ownsRow B 84 14 v n ((ps.map GP.row).flatten)) (hq:Sl W 14 (.slice (some ⟨b,off,none⟩) m c) (qs.map GP.row)) (hn:n+m≤1000) (hB:B≤W.heap.size)
  (h:∀v' w',w'.ownsRow B 84 14 v' (n+m) (((ps++qs).map GP.row).flatten)→W.grownBy w' v.ownBlock→wpList Tryz.prog ops Q rest (a.put o.dst v') w'):wpList Tryz.prog ops Q (o::rest) a W:=by
 have hi:=EP.info;simp only[Option.map_eq_some_iff,Prod.mk.injEq]at hi;obtain⟨i,hi,⟨z,hz,hzs⟩,hsize,hby⟩:=hi;have hrl:∀r∈qs.map GP.row,r.length=14:=fun r hr=>by obtain⟨p,_,rfl⟩:=List.mem_map.1 hr;rfl
 have hm:(qs.map GP.row).length=m:=by
  obtain⟨_,_,hv,_⟩:=hq.open;cases hv
  rfl
 refine wpList_append_own _ hgd s x 80 ho B 84 i z 14 192 EP.und hi hz hsize hby hzs (by decide) v n _ hs hown ⟨b,off,none⟩ m c ((qs.map GP.row).flatten) hx (by rw[qcr hrl,hm]) (hq.flat hrl (by decide)) ?_ (by unfold maxLen;omega) (by omega) hB (fun v' w' a1 a2 _=>h v' w' (by rw[List.map_append,List.flatten_append];exact a1) a2)
 intro u hu;obtain⟨r,hr,hu⟩:=List.mem_flatten.1 hu;obtain⟨p,_,rfl⟩:=List.mem_map.1 hr;exact qfw p u hu
theorem qt3(b:Nat)(c:Nat)(x y:Value)(px py:List GP)(w:World)(hB:Blk w b #[x,y] 80)(hx:qa0 w x px)(hy:qa0 w y py)(hnx:px.length≤300)(hny:py.length≤300):
  Calls Tryz.prog 132 #[.slice (some ⟨b,0,none⟩) 2 c] w (RetP (fun v w'=>w'.ownsRow w.heap.size 84 14 v (px.length+py.length) (((px++py).map GP.row).flatten)) w):=by
 obtain⟨ax,cx,rfl,hcx,-⟩:=hx.open;obtain⟨ay,cy,rfl,hcy,-⟩:=hy.open;have HX:=hI hx.1;have HY:=hI hy.1;have HC:=hI (fun w' (hb:Below w.heap.size w w')=>(qag (hB.below hb)).1);obtain⟨n,hn⟩:∃n,px.length=n:=⟨_,rfl⟩
 obtain⟨m,hm⟩:∃m,py.length=m:=⟨_,rfl⟩
 rw[hn]at HX HC hnx⊢;rw[hm]at HY HC hny⊢;have hcap:=hB.cell;have HG:=hI (fun w'=>qtp (n+m) w' (by omega));have e1:IntKind.i64.wrap ((n:Int)+(m:Int))=(n:Int)+(m:Int):=IntWalk.i64_in _ (by omega);have e2:((n+m:Nat):Int)=(n:Int)+(m:Int):=by omega
 have e3:¬(n:Int)<0:=by omega
 have e4:¬(n:Int)+(m:Int)<0:=by omega
 have e5:IntKind.i64.wrap (n:Int)=(n:Int):=IntWalk.i64_in _ (by omega);rw[e2]at HG;have HN:=hI (And.intro hn hm);clear hx hy hB hn hm hcap
 go_enter Tryz.func132,Tryz.ntmps132
 go_wp2_with fail
 go_loopw [11,3,5] (fun i s _ wr=>Below w.heap.size w wr∧((i=.int .i64 0∧s=.int .i64 0)∨(i=.int .i64 1∧s=.int .i64 n)∨(i=.int .i64 2∧s=.int .i64 ((n:Int)+(m:Int))))) (fun i _ _ _=>2-(intOf i).toNat)
 case atStart=>exact⟨Below.refl _ _,.inl ⟨rfl,rfl⟩⟩
 case round=>
  obtain⟨hbw,⟨rfl,rfl⟩|⟨rfl,rfl⟩|⟨rfl,rfl⟩⟩:=hrel
  ·obtain⟨c0,c1⟩:=HC.out _ hbw
   go_wp2_with fail
   go_roundw
   case rel=>exact⟨hbw,.inr (.inl ⟨by go_num,by go_num⟩)⟩
   case measure=>simp[intOf]
  ·obtain⟨c0,c1⟩:=HC.out _ hbw
   go_wp2_with fail
   go_roundw
   case rel=>exact⟨hbw,.inr (.inr ⟨by go_num,by go_num⟩)⟩
   case measure=>simp[intOf]
  ·have Hbw:=hI hbw
   clear hbw
   go_wp2_with (go_at_call 170;refine(HG.out _).mono ?_;rintro e w1 ⟨v1,rfl,⟨hown,a1,c1',rfl⟩,hb1⟩;have Hown:=hI hown;have Hb1:=hI hb1;clear hown hb1)
   go_loopw [27,6,8] (fun i out _ wr=>Below w.heap.size w wr∧((i=.int .i64 0∧wr.ownsRow w.heap.size 84 14 out 0 ((([]:List GP).map GP.row).flatten))∨(i=.int .i64 1∧wr.ownsRow w.heap.size 84 14 out n ((px.map GP.row).flatten))∨(i=.int .i64 2∧wr.ownsRow w.heap.size 84 14 out (n+m) (((px++py).map GP.row).flatten)))) (fun i _ _ _=>2-(intOf i).toNat)
   case atStart=>exact⟨qaa Hbw.out Hb1.out,.inl ⟨rfl,qda Hown.out Hbw.out.size⟩⟩
   case round=>
    obtain⟨hbw,⟨rfl,hown⟩|⟨rfl,hown⟩|⟨rfl,hown⟩⟩:=hrel
    ·obtain⟨c0,c1⟩:=HC.out _ hbw
     obtain⟨ao,co,rfl,hco,-⟩:=qas hown;have hkc:(0:Int)+0≤(co:Int):=by omega
     rcases Nat.eq_zero_or_pos n with hz|hpos
     ·have HZ:=hI hz
      clear hz
      go_wp2_with (at_builtin;refine qt8 rfl _ _ rfl _ _ 0 co _ n HZ.out rfl rfl (by omega) ?_)
      go_roundw
      case rel=>exact⟨hbw,.inr (.inl ⟨by go_num,by have hp:px=[]:=List.eq_nil_of_length_eq_zero (HN.out.1.trans HZ.out);rw[hp,HZ.out];exact hown⟩)⟩
      case measure=>simp[intOf]
     ·obtain⟨bb,off,rfl⟩:∃bb off,ax=some ⟨bb,off,none⟩:=by
       obtain⟨b',off,ha,_⟩:=Sl.row HX.out (Below.refl _ _) hpos;exact⟨b',off,ha⟩
      go_wp2_with (at_builtin;refine qo8 rfl _ _ rfl w.heap.size (0) _ ([]) (px) bb off n cx rfl rfl hown (Sl.mono HX.out hbw) (by omega) hbw.size ?_;intro v' w5 hown' hg';have hbw3:=Below.grown hbw hg' hbw.size (fun k hk=>(hown.lt k hk).1))
      go_roundw
      case rel=>exact⟨hbw3,.inr (.inl ⟨by go_num,by simpa using hown'⟩)⟩
      case measure=>simp[intOf]
    ·obtain⟨c0,c1⟩:=HC.out _ hbw
     obtain⟨ao,co,rfl,hco,-⟩:=qas hown;have hkc:(n:Int)+0≤(co:Int):=by omega
     rcases Nat.eq_zero_or_pos m with hz|hpos
     ·have HZ:=hI hz
      clear hz
      go_wp2_with (at_builtin;refine qt8 rfl _ _ rfl _ _ n co _ m HZ.out rfl rfl (by omega) ?_)
      go_roundw
      case rel=>exact⟨hbw,.inr (.inr ⟨by go_num,by have hp:py=[]:=List.eq_nil_of_length_eq_zero (HN.out.2.trans HZ.out);rw[hp,HZ.out,List.append_nil];exact hown⟩)⟩
      case measure=>simp[intOf]
     ·obtain⟨bb,off,rfl⟩:∃bb off,ay=some ⟨bb,off,none⟩:=by
       obtain⟨b',off,ha,_⟩:=Sl.row HY.out (Below.refl _ _) hpos;exact⟨b',off,ha⟩
      go_wp2_with (at_builtin;refine qo8 rfl _ _ rfl w.heap.size (n) _ (px) (py) bb off m cy rfl rfl hown (Sl.mono HY.out hbw) (by omega) hbw.size ?_;intro v' w5 hown' hg';have hbw3:=Below.grown hbw hg' hbw.size (fun k hk=>(hown.lt k hk).1))
      go_roundw
      case rel=>exact⟨hbw3,.inr (.inr ⟨by go_num,hown'⟩)⟩
      case measure=>simp[intOf]
    ·obtain⟨c0,c1⟩:=HC.out _ hbw
     go_wp2_with fail
     go_ret
     exact⟨_,rfl,hown,hbw⟩
def putO(o:Option Nat)(s:Bool)(W:World):World:=match o with
 |none=>W
 |some F=>W.setCell ⟨F,0,none⟩ (.bool s)
def BlkO(o:Option Nat)(s:Bool)(W:World):Prop:=match o with
 |none=>True
 |some F=>Blk W F #[.bool s] 4
variable {o:Option Nat} {s t:Bool} {w w' W:World}
theorem qdg:(putO o s W).heap.size=W.heap.size:=by
 cases o with
 |none=>rfl
 |some F=>simp[putO,World.setCell]
theorem qn9{F:Nat}{u:Value}(h:w'.heap[F]?=w.heap[F]?):(w'.setCell ⟨F,0,none⟩ u).heap[F]?=(w.setCell ⟨F,0,none⟩ u).heap[F]?:=by
 simp[World.setCell,Array.getElem?_modify,h]
theorem qp6{k:Nat}(h:w'.heap[k]?=w.heap[k]?):(putO o s w').heap[k]?=(putO o s w).heap[k]?:=by
 cases o with
 |none=>exact h
 |some F=>
  show(w'.setCell ⟨F,0,none⟩ _).heap[k]?=(w.setCell ⟨F,0,none⟩ _).heap[k]?
  by_cases hk:k=F
  ·subst hk;exact qn9 h
  ·rw[Below.heap_setCell _ _ _ _ hk,Below.heap_setCell _ _ _ _ hk,h]
theorem qp5:(putO o s W).os=W.os:=by cases o<;>rfl
theorem qka:(putO o s W).tape=W.tape:=by cases o<;>rfl
theorem qhi:(putO o s W).output=W.output:=by cases o<;>rfl
theorem qik{n:Nat}(hb:Below n w w')(s:Bool):Below n (putO o s w) (putO o s w'):=
 ⟨by rw[qp5,qp5,hb.os],by rw[qka,qka,hb.tape],by rw[qhi,qhi,hb.output],by rw[qdg,qdg];exact hb.size,fun k hk=>qp6 (hb.block k hk)⟩
theorem qh4(h:Below w.heap.size (putO o s w) w'):Below (putO o s w).heap.size (putO o s w) w':=by
 rw[qdg];exact h
theorem viaO{n:Nat}{A:World}(h1:Below n A w)(h2:Below w.heap.size (putO o s w) w')(hn:n≤w.heap.size):Below n (putO o s A) w':=
 (qik h1 s).via (qh4 h2) (by rw[qdg];exact hn)
theorem qn8{F:Nat}(h:Blk w F #[.bool s] 4):w.setCell ⟨F,0,none⟩ (.bool s)=w:=by
 have hs:=h.set 0 (.bool s);refine qg7 (Array.ext_getElem? fun k=>?_) rfl rfl rfl rfl
 by_cases hk:k=F
 ·subst hk
  unfold Blk at h hs;rw[hs,h];rfl
 ·exact Below.heap_setCell _ _ _ _ hk
theorem qld{F:Nat}(h:Blk w F #[.bool s] 4)(x y:Bool):(w.setCell ⟨F,0,none⟩ (.bool x)).setCell ⟨F,0,none⟩ (.bool y)=w.setCell ⟨F,0,none⟩ (.bool y):=by
 have h1:=(h.set 0 (.bool x)).set 0 (.bool y);have h2:=h.set 0 (.bool y);refine qg7 (Array.ext_getElem? fun k=>?_) rfl rfl rfl rfl
 by_cases hk:k=F
 ·subst hk
  unfold Blk at h1 h2;rw[h1,h2];rfl
 ·rw[Below.heap_setCell _ _ _ _ hk,Below.heap_setCell _ _ _ _ hk,Below.heap_setCell _ _ _ _ hk]
theorem qvt(h:BlkO o s w):putO o s w=w:=by
 cases o with
 |none=>rfl
 |some F=>exact qn8 h
theorem qs2(h:BlkO o s w)(x y:Bool):putO o y (putO o x w)=putO o y w:=by
 cases o with
 |none=>rfl
 |some F=>exact qld h x y
theorem BlkO.mono(h:BlkO o s w)(hb:Below w.heap.size w w'):BlkO o s w':=by
 cases o with
 |none=>trivial
 |some F=>exact Blk.below h hb
theorem BlkO.put(h:BlkO o s w)(x:Bool):BlkO o x (putO o x w):=by
 cases o with
 |none=>trivial
 |some F=>
  have h0:Blk w F #[.bool s] 4:=h
  show Blk (w.setCell ⟨F,0,none⟩ (.bool x)) F #[.bool x] 4
  simpa using h0.set 0 (.bool x)
theorem BlkO.lt(h:BlkO o s w)(F:Nat)(e:o=some F):F<w.heap.size:=by
 subst e;exact Blk.lt h
theorem neO(hB:BlkO o s w){b i:Nat}{z:Int}(h:w.cell? ⟨b,i,none⟩=some (.int .i64 z))(F:Nat)(e:o=some F):b≠F:=by
 subst e;rintro rfl;have h2:Blk w b #[.bool s] 4:=hB;rw[h2.cell]at h;have h3:=Array.mem_of_getElem? h;simp at h3
theorem qae{b i:Nat}{v:Value}(hb:Below w.heap.size (putO o t w) w')(h:w.cell? ⟨b,i,none⟩=some v)(hne:∀F,o=some F→b≠F):w'.cell? ⟨b,i,none⟩=some v:=by
 refine qab (qh4 hb) ?_
 cases o with
 |none=>exact h
 |some F=>
  show(w.setCell ⟨F,0,none⟩ _).cell? _=_
  rw[World.cell?_of_block (w:=w) (a:=⟨b,i,none⟩) (Below.heap_setCell w ⟨F,0,none⟩ _ b (hne F rfl))];exact h
theorem nob:NoU #[.bool s]:=by
 intro y hy d e;simp at hy;rw[hy]at e;cases e
theorem RatV.putO{v:Value}{p q:Int}(h:RatV w v p q)(hB:BlkO o s w)(x:Bool):RatV (putO o x w) v p q:=by
 cases o with
 |none=>exact h
 |some F=>exact RatV.put h hB nob _
theorem AU.putO{a:Option Addr}(h:AU w a)(x:Bool):AU (putO o x w) a:=by
 cases o with
 |none=>exact h
 |some F=>exact h.set F 0 _
theorem GC.ok.putO{k:GC}(h:k.ok w)(hB:BlkO o s w)(x:Bool):k.ok (putO o x w):=⟨RatV.putO h.1 hB x,⟨AU.putO h.2.1.1 x,AU.putO h.2.1.2 x⟩,h.2.2⟩
theorem GP.ok.putO{p:GP}(h:p.ok w)(hB:BlkO o s w)(x:Bool):p.ok (putO o x w):=⟨GC.ok.putO h.1 hB x,GC.ok.putO h.2 hB x⟩
theorem Blk.putO{b:Nat}{cs:Array Value}{T:TypeId}(h:Blk w b cs T)(hB:BlkO o s w)(hT:T≠4)(x:Bool):Blk (putO o x w) b cs T:=by
 cases o with
 |none=>exact h
 |some F=>
  have hne:b≠F:=by
   rintro rfl;unfold Blk at h;have hB':Blk w b #[.bool s] 4:=hB;unfold Blk at hB';rw[hB']at h;cases h
   exact hT rfl
  exact h.other (p:=⟨F,0,none⟩) hne _
theorem qs6{B e sz n:Nat}{v:Value}{xs:List Value}(h:w.ownsRow B e sz v n xs)(hF:∀F,o=some F→F<B)(x:Bool):(putO o x w).ownsRow B e sz v n xs:=by
 cases o with
 |none=>exact h
 |some F=>exact ownsRow_setCell_below h (hF F rfl) _
theorem Sl.putO{sz:Nat}{v:Value}{rows:List (List Value)}(h:Sl w sz v rows)(hB:BlkO o s w)(hsz:0<sz)(hr:∀r∈rows,∃z:Int,r.getD 0 undef=.int .i64 z)(x:Bool):Sl (putO o x w) sz v rows:=by
 cases o with
 |none=>exact h
 |some F=>
  obtain⟨a,cap,rfl,hc,hm,hh⟩:=h;refine⟨a,cap,rfl,hc,hm,?_⟩
  rcases hh with h0|⟨b,off,rfl,hlt,hcell⟩
  ·exact .inl h0
  ·refine .inr ⟨b,off,rfl,by have:=qdg (o:=some F) (s:=x) (W:=w);omega,fun i j hi hj=>?_⟩
   have hne:b≠F:=by
    rintro rfl;have h1:=hcell i 0 hi hsz;obtain⟨z,hz⟩:=hr (rows.getD i []) (by rw[List.getD_eq_getElem?_getD,List.getElem?_eq_getElem hi];exact List.getElem_mem _);rw[hz]at h1;have h2:Blk w b #[.bool s] 4:=hB;rw[h2.cell]at h1;have h3:=Array.mem_of_getElem? h1;simp at h3
   show(w.setCell ⟨F,0,none⟩ _).cell? _=_
   rw[World.cell?_of_block (w:=w) (a:=⟨b,_,none⟩) (Below.heap_setCell w ⟨F,0,none⟩ _ b hne)];exact hcell i j hi hj
theorem qa0.putO{v:Value}{ps:List GP}(h:qa0 w v ps)(hB:BlkO o s w)(x:Bool):qa0 (putO o x w) v ps:=
 ⟨Sl.putO h.1 hB (by decide) (fun r hr=>by obtain⟨p,_,rfl⟩:=List.mem_map.1 hr;exact⟨_,rfl⟩) x,fun p hp=>GP.ok.putO (h.2 p hp) hB x⟩
theorem qfk.putO{v:Value}{P:List GC}(h:qfk w v P)(hB:BlkO o s w)(x:Bool):qfk (putO o x w) v P:=
 ⟨Sl.putO h.1 hB (by decide) (fun r hr=>by obtain⟨p,_,rfl⟩:=List.mem_map.1 hr;exact⟨_,rfl⟩) x,fun p hp=>GC.ok.putO (h.2 p hp) hB x⟩
def runS{α:Type}(lt:α→α→Prop)[DecidableRel lt](next:Bool→Bool→Bool→Bool):List α→List (α × α)→List (α × α)→Bool→Bool
 |low::high::r,X,Y,s=>runS lt next (high::r) (qa4 lt low X) (qa4 lt low Y) (next s (begR lt low (qa4 lt low X)) (begR lt low (qa4 lt low Y)))
 |[_],_,_,s=>s
 |[],_,_,s=>s
end Go.Proofs.YtacihodamichhaaGreatDoor
