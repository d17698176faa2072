/- Parts of the proof. -/
import Derived.Test.YtacihodamichhaaGreatDoorU31
set_option maxHeartbeats 16000000
namespace Go.Proofs.YtacihodamichhaaGreatDoor
open Go.RowKit
theorem qr3(b c:Nat)(ax ay:Option Addr)(nx cx ny cy:Nat)(px py:List GP)(w:World)(hB:Blk w b #[.slice ax nx cx,.slice ay ny cy] 80)(hx:qa0 w (.slice ax nx cx) px)(hy:qa0 w (.slice ay ny cy) py)(hnx:nx≤300)(hny:ny≤300):
  Calls Tryz.prog 132 #[.slice (some ⟨b,0,none⟩) 2 c] w (RetP (fun v w'=>w'.ownsRow w.heap.size 84 14 v (nx+ny) (((px++py).map GP.row).flatten)) w):=by
 have hx':=hx;obtain⟨_,_,hv,_,_⟩:=hx.open;obtain⟨_,_,hv',_,_⟩:=hy.open;have e1:nx=px.length:=by cases hv;rfl
 have e2:ny=py.length:=by cases hv';rfl
 rw[e1]at hnx⊢;rw[e2]at hny⊢;exact qt3 b c _ _ px py w hB hx hy hnx hny
def gLow:GC:=⟨lowest,false,none,0,0,false,none,0,0⟩
def qtt:GC:=⟨highest,false,none,0,0,false,none,0,0⟩
theorem qwc(w:World):gLow.ok w:=⟨RatV.zero w,⟨AU.none w,AU.none w⟩,by decide⟩
theorem qts(w:World):qtt.ok w:=⟨RatV.zero w,⟨AU.none w,AU.none w⟩,by decide⟩
theorem qut{ops:Array Oper}{rest:List Oper}{o:Oper}{a:Act}{Q:Exit→Act→World→Prop}{W:World}(hgd:o.guard=none)(s x:Operand)(ho:o.op=.call { callee:=.builtin .append,args:=#[s,x],argTypes:=#[68,68] })
  (B n:Nat) (v:Value) (xs:List Value) (k l:GC) (g:Nat) (hs:a.eval s=v) (hx:a.eval x=.slice (some ⟨g,0,none⟩) 2 2) (hown:W.ownsRow B 79 7 v n xs) (hblk:W.heap[g]?=some (.cells (k.cells++l.cells).toArray 79 (0,0))) (hn:n<1000000) (hB:B≤W.heap.size)
  (h:∀v' w',w'.ownsRow B 79 7 v' (n+2) (xs++(k.cells++l.cells))→W.grownBy w' v.ownBlock→wpList Tryz.prog ops Q rest (a.put o.dst v') w'):wpList Tryz.prog ops Q (o::rest) a W:=by
 have hi:=EC.info;simp only[Option.map_eq_some_iff,Prod.mk.injEq]at hi;obtain⟨i,hi,⟨z,hz,hzs⟩,hsize,hby⟩:=hi;refine wpList_append_own _ hgd s x 68 ho B 79 i z 7 96 EC.und hi hz hsize hby hzs (by decide) v n _ hs hown ⟨g,0,none⟩ 2 2 (k.cells++l.cells) hx rfl (World.news_of_block (cs:=(k.cells++l.cells).toArray) (t:=79) (fr:=(0,0)) (by simpa using hblk)) ?_ (by unfold maxLen;omega) (by omega) hB (fun v' w' a1 a2 _=>h v' w' a1 a2)
 intro u hu;rcases List.mem_append.1 hu with h|h
 ·exact qqh k u h
 ·exact qqh l u h
theorem qs7(w:World):(w.alloc (.cells #[.int .i64 (-1),.string ⟨#[]⟩,.int .i64 0,.bool false,.slice none 0 0,.bool false,.slice none 0 0,.int .i64 1,.string ⟨#[]⟩,.int .i64 0,.bool false,.slice none 0 0,.bool false,.slice none 0 0] 79)).ownsRow w.heap.size 79 7 (.slice (some ⟨w.heap.size,0,none⟩) 2 2) 2 (([gLow,qtt].map GC.cells).flatten):=
 ⟨rfl,.inr ⟨w.heap.size,2,_,rfl,Nat.le_refl _,Blk.new w _ _,Nat.le_refl _,by unfold maxLen;omega,rfl,rfl⟩⟩
def gkcuts(ps:List GP):List GC:=[gLow,qtt]++(ps.map fun p=>[p.l,p.h]).flatten
theorem qu5(P:List GC)(N:Nat)(hN:P.length=N)(w:World)(B g cap:Nat)(hne:P≠[])(hown:w.ownsRow B 79 7 (.slice (some ⟨g,0,none⟩) N cap) N ((P.map GC.cells).flatten))(hok:∀k∈P,k.ok w)(hsz:N<4611686018427387904):
  Calls Tryz.prog 133 #[.slice (some ⟨g,0,none⟩) N cap,.func (.func 73) #[] #[]] w (fun e w'=>e=.returned (.tuple #[])∧w.grownBy w' (some g)∧∃P':List GC,P'.Perm P∧(∀(i j:Nat) (x y:GC),i<j→P'[i]?=some x→P'[j]?=some y→¬CG y.c x.c)∧w'.ownsRow B 79 7 (.slice (some ⟨g,0,none⟩) N cap) N ((P'.map GC.cells).flatten)∧∀k∈P',k.ok w'):=by
 subst hN;exact(qn4 P w B g cap hne hown hok hsz).mono fun e w' ⟨h1,h2,P',h3,h4,h5,h6⟩=>⟨h1,h2,P',h3,h4,h5,h6⟩
theorem qgt{P:List GC}(h:∀(i j:Nat) (x y:GC),i<j→P[i]?=some x→P[j]?=some y→¬CG y.c x.c):(P.map GC.c).Pairwise (fun x y=>¬CG y x):=by
 refine qcx fun i j x y hij hx hy=>?_
 simp only[List.getElem?_map,Option.map_eq_some_iff]at hx hy;obtain⟨a,ha,rfl⟩:=hx;obtain⟨b,hb,rfl⟩:=hy;exact h i j a b hij ha hb
theorem qrs(lo:Cut)(p:PC)(r:List PC):qa4 CG lo (p::r)=if cmpG p.2 lo≤0 then qa4 CG lo r else p::r:=by
 rw[qa4]
 by_cases h:CG lo p.2
 ·rw[if_pos h,if_neg (by have:=qia.2 h;omega)]
 ·rw[if_neg h,if_pos (qnu.1 h)]
theorem qn0(lo:Cut)(p:PC)(r:List PC):begR CG lo (p::r)=decide (cmpG p.1 lo≤0):=by
 rw[begR,decide_eq_decide];exact qnu
theorem quo{P:List GC}:∀n,(ddN P n).length≤n
 |0=>Nat.le_refl _
 |1=>by show(P.take 1).length≤1;rw[List.length_take];omega
 |n+2=>by
  have ih:=quo (P:=P) (n+1);unfold ddN
  split
  ·split
   ·omega
   ·rw[List.length_append];simp;omega
  ·omega
theorem qmx(v:Value)(xs:List Iv)(w:World)(h:Ivs w v xs)(hs:∀x∈xs,x.short)(he:qa5 xs=0):
  Calls Tryz.prog 56 #[v] w (RetP (fun r w'=>∃a c,∃ps:List GP,r=.tuple #[.slice a ps.length c,.int .i64 0]∧qa0 w' (.slice a ps.length c) ps∧ps.map GP.cuts=xs.map Iv.cuts) w):=by
 refine(qgc v xs w h hs).mono ?_
 rintro e w' ⟨⟨v',rfl,h1,-⟩,hb⟩;obtain⟨a,c,ps,rfl,hp,hc⟩:=h1 he;exact⟨_,rfl,⟨a,c,ps,by rw[he],hp,hc⟩,hb⟩
theorem qs0{O:List PC}{q:PC}{lo hi:Cut}(hl:O.getLast?=some q)(hne:cmpG q.2 lo≠0):putT CG O (lo,hi)=O++[(lo,hi)]:=by
 unfold putT;rw[hl];dsimp only;rw[if_pos];have h1:=@qia q.2 lo
 by_cases h:CG q.2 lo
 ·exact .inl h
 ·have:=quq.1 h
  exact .inr (h1.1 (by omega))
theorem qsz{O:List PC}{q:PC}{lo hi:Cut}(hl:O.getLast?=some q)(he:cmpG q.2 lo=0):putT CG O (lo,hi)=O.dropLast++[(q.1,hi)]:=by
 unfold putT;rw[hl];dsimp only;rw[if_neg];have:=qk4.1 he;rintro(h|h)
 ·exact this.1 h
 ·exact this.2 h
theorem qc6(w:World):Below w.heap.size w w:=Below.refl _ _
theorem Blk.drewg{w:World}{b:Nat}{cs:Array Value}{T:TypeId}(h:Blk w b cs T):Blk w.drew b cs T:=h
theorem qcb(w:World):Below w.heap.size w (w.drewN 1):=(Below.refl _ _).dn 1
theorem qbl{w W:World}(h:Below w.heap.size w W)(o:Obj):Below w.heap.size w (W.alloc o):=h.alloc h.size o
theorem qa0.tail{w:World}{b off nr cq:Nat}{p:GP}{r:List GP}(h:qa0 w (.slice (some ⟨b,off,none⟩) (nr+1) cq) (p::r)):qa0 w (.slice (if cq=1 then some ⟨b,off,none⟩else some ⟨b,off+14,none⟩) nr (cq-1)) r:=by
 refine⟨?_,fun q hq=>h.2 q (List.mem_cons_of_mem _ hq)⟩
 obtain⟨a,cap,hv,hc,hm,hh⟩:=h.1;have hv':=hv;simp only[List.map_cons,List.length_cons,List.length_map,Value.slice.injEq]at hv';obtain⟨ha,hn,hcc⟩:=hv';simp only[List.map_cons,List.length_cons,List.length_map]at hc;have hnr:nr=r.length:=by omega
 refine⟨_,_,by rw[List.length_map,hnr],by rw[List.length_map];omega,by omega,?_⟩
 by_cases h1:cq=1
 ·left;omega
 ·rw[if_neg h1]
  rcases hh with h0|⟨b',off',hb',hlt,hcell⟩
  ·left;omega
  ·rw[←ha]at hb'
   cases hb'
   refine .inr ⟨b,off+14,rfl,hlt,fun i j hi hj=>?_⟩
   have:=hcell (i+1) j (by simpa using hi) hj;rw[show off+14+i*14+j=off+(i+1)*14+j by omega,this];simp
theorem qpe{keep:Bool→Bool→Bool}{P:List Cut}{j:Nat}{lo hi:Cut}{X Y X' Y' O F:List PC}(hPd:P.drop j=lo::hi::P.drop (j+2))(hX:X'=qa4 CG lo X)(hY:Y'=qa4 CG lo Y)(hr:runR CG keep (P.drop j) X Y O=F):
  runR CG keep (P.drop (j+1)) X' Y' (if keep (begR CG lo X') (begR CG lo Y')=true then putT CG O (lo,hi)else O)=F:=by
 have h1:P.drop (j+1)=hi::P.drop (j+2):=by
  have h2:P.drop (j+1)=(P.drop j).drop 1:=by rw[List.drop_drop]
  rw[h2,hPd];rfl
 subst hX hY;rw[hPd]at hr;rw[h1];exact hr
theorem qpd{next:Bool→Bool→Bool→Bool}{P:List Cut}{j:Nat}{lo hi:Cut}{X Y X' Y':List PC}{s sF:Bool}(hPd:P.drop j=lo::hi::P.drop (j+2))(hX:X'=qa4 CG lo X)(hY:Y'=qa4 CG lo Y)(hr:runS CG next (P.drop j) X Y s=sF):
  runS CG next (P.drop (j+1)) X' Y' (next s (begR CG lo X') (begR CG lo Y'))=sF:=by
 have h1:P.drop (j+1)=hi::P.drop (j+2):=by
  have h2:P.drop (j+1)=(P.drop j).drop 1:=by rw[List.drop_drop]
  rw[h2,hPd];rfl
 subst hX hY;rw[hPd]at hr;rw[h1];exact hr
theorem qoy(l:List GP):(gkcuts l).length=2+2*l.length:=by
 unfold gkcuts
 induction l with
 |nil=>rfl
 |cons p l ih=>simp at ih⊢;omega
theorem qlw(l:List GP)(p:GP):((gkcuts l).map GC.cells).flatten++(p.l.cells++p.h.cells)=((gkcuts (l++[p])).map GC.cells).flatten:=by simp[gkcuts]
theorem qtq(l:List GP):(gkcuts l).map GC.c=qbj (l.map GP.cuts):=by
 unfold gkcuts qbj
 induction l with
 |nil=>rfl
 |cons p l ih=>simp[gLow,qtt,GP.cuts]at ih⊢;exact ih
theorem qrd{l:List GP}{w:World}(h:∀p∈l,p.ok w):∀k∈gkcuts l,k.ok w:=by
 intro k hk;unfold gkcuts at hk;rcases List.mem_append.1 hk with h1|h1
 ·simp at h1
  rcases h1 with rfl|rfl
  ·exact qwc w
  ·exact qts w
 ·obtain⟨r,hr,hkr⟩:=List.mem_flatten.1 h1
  obtain⟨p,hp,rfl⟩:=List.mem_map.1 hr;simp at hkr;rcases hkr with rfl|rfl
  ·exact(h p hp).1
  ·exact(h p hp).2
def qmb(keep:Bool→Bool→Bool)(xs ys:List Iv)(r:Value)(w':World):Prop:=∃P:List Cut,(P.Pairwise CG∧(∀c∈P,c∈qbj ((xs++ys).map Iv.cuts))∧∀c∈qbj ((xs++ys).map Iv.cuts),∃c'∈P,cmpG c c'=0)∧∃F,runR CG keep P (xs.map Iv.cuts) (ys.map Iv.cuts) []=F∧((256<F.length∧r=.tuple #[.slice none 0 0,.int .i64 6])∨(F.length≤256∧∃a c,r=.tuple #[.slice a F.length c,.int .i64 0]∧Ivs w' (.slice a F.length c) (F.map ivOf)))
def qyc(o:Option Nat)(keep:Bool→Bool→Bool)(next:Bool→Bool→Bool→Bool)(s0:Bool)(xs ys:List Iv)(w:World)(r:Value)(w':World):Prop:=∃P:List Cut,(P.Pairwise CG∧(∀c∈P,c∈qbj ((xs++ys).map Iv.cuts))∧∀c∈qbj ((xs++ys).map Iv.cuts),∃c'∈P,cmpG c c'=0)∧(∃F,runR CG keep P (xs.map Iv.cuts) (ys.map Iv.cuts) []=F∧((256<F.length∧r=.tuple #[.slice none 0 0,.int .i64 6])∨(F.length≤256∧∃a c,r=.tuple #[.slice a F.length c,.int .i64 0]∧Ivs w' (.slice a F.length c) (F.map ivOf))))∧Below w.heap.size (putO o (runS CG next P (xs.map Iv.cuts) (ys.map Iv.cuts) s0) w) w'
set_option maxRecDepth 10000 in
theorem qxq(o:Option Nat)(s0:Bool)(next:Bool→Bool→Bool→Bool)(cb:Array Value)(g:Nat)(keep:Bool→Bool→Bool)(hkeep:∀(s p q:Bool) (W:World),BlkO o s W→Calls Tryz.prog g (#[.bool p,.bool q]++cb) W (fun e W'=>e=.returned (.bool (keep p q))∧Below W.heap.size (putO o (next s p q) W) W'))(heg:∀args w,(callFunc g args).run Tryz.prog w=.ok (.enter g args) w)(u v:Value)(xs ys:List Iv)(w:World)(hB0:BlkO o s0 w)(hx:Ivs w u xs)(hy:Ivs w v ys)(hsx:∀x∈xs,x.short)(hsy:∀x∈ys,x.short)(hex:qa5 xs=0)(hey:qa5 ys=0)(hnx:xs.length≤256)(hny:ys.length≤256):
  Calls Tryz.prog 91 #[u,v,.func (.func g) #[] cb] w (fun e w'=>∃r,e=.returned r∧qyc o keep next s0 xs ys w r w'):=by
 have HPX:=hI (fun w' (hb:Below w.heap.size w w')=>qmx u xs w' (hx.mono hb) hsx hex);have HPY:=hI (fun w' (hb:Below w.heap.size w w')=>qmx v ys w' (hy.mono hb) hsy hey);have hnn:∀(l:List GP),l.map GP.cuts=xs.map Iv.cuts→l.length≤256:=fun l h=>by have:=congrArg List.length h;simp at this;omega
 have hnn2:∀(l:List GP),l.map GP.cuts=ys.map Iv.cuts→l.length≤256:=fun l h=>by have:=congrArg List.length h;simp at this;omega
 have HN:=hI (And.intro hnn hnn2);have HKeep:=hI hkeep;have HB0:=hI hB0;clear hx hy hsx hsy hex hey hnx hny hnn hnn2 hkeep hB0
 go_enter Tryz.func91,Tryz.ntmps91
 go_wp2_with (first
  |(go_at_call 56;have _t:=Hb1;clear _t;refine(HPY.out _ Hb1.out).mono ?_;rintro e w2 ⟨r2,rfl,⟨ay,cy,py,rfl,hpy,hcy⟩,hb2⟩;have Hpy:=hI hpy;have Hcy:=hI hcy;have Hb2:=hI hb2;obtain⟨ny,hny⟩:∃n,py.length=n:=⟨_,rfl⟩;rw[hny]at Hpy;rw[hny];have Hny:=hI hny;clear hpy hcy hb2 hny)
  |(go_at_call 56;refine(HPX.out _ (Below.refl _ _)).mono ?_;rintro e w1 ⟨r1,rfl,⟨ax,cx,px,rfl,hpx,hcx⟩,hb1⟩;have Hpx:=hI hpx;have Hcx:=hI hcx;have Hb1:=hI hb1;obtain⟨nx,hnx⟩:∃n,px.length=n:=⟨_,rfl⟩;rw[hnx]at Hpx;rw[hnx];have Hnx:=hI hnx;clear hpx hcx hb1 hnx)
  |(go_at_call 132;have Hbl:=hI (qaz w2 (.cells #[.int .i64 (-1),.string ⟨#[]⟩,.int .i64 0,.bool false,.slice none 0 0,.bool false,.slice none 0 0,.int .i64 1,.string ⟨#[]⟩,.int .i64 0,.bool false,.slice none 0 0,.bool false,.slice none 0 0] 79) (.cells #[.slice ax nx cx,.slice ay ny cy] 80));have hB3:Blk ((w2.alloc (.cells #[.int .i64 (-1),.string ⟨#[]⟩,.int .i64 0,.bool false,.slice none 0 0,.bool false,.slice none 0 0,.int .i64 1,.string ⟨#[]⟩,.int .i64 0,.bool false,.slice none 0 0,.bool false,.slice none 0 0] 79)).alloc (.cells #[.slice ax nx cx,.slice ay ny cy] 80)) (w2.heap.size+1) #[.slice ax nx cx,.slice ay ny cy] 80:=(by have h:=Blk.new (w2.alloc (.cells #[.int .i64 (-1),.string ⟨#[]⟩,.int .i64 0,.bool false,.slice none 0 0,.bool false,.slice none 0 0,.int .i64 1,.string ⟨#[]⟩,.int .i64 0,.bool false,.slice none 0 0,.bool false,.slice none 0 0] 79)) #[.slice ax nx cx,.slice ay ny cy] 80;simpa using h);refine(qr3 (w2.heap.size+1) 2 ax ay nx cx ny cy px py _ hB3 (Hpx.out.mono (qaa Hb2.out Hbl.out)) (Hpy.out.mono Hbl.out) (by have:=HN.out.1 px Hcx.out;have:=Hnx.out;omega) (by have:=HN.out.2 py Hcy.out;have:=Hny.out;omega)).mono ?_;rintro e w3 ⟨v3,rfl,hown3,hb3⟩;obtain⟨n3,hn3⟩:∃n,nx+ny=n:=⟨_,rfl⟩;rw[hn3]at hown3;obtain⟨a3,c3,rfl,hc3,-⟩:=qas hown3;have Hown3:=hI hown3;have Hb3:=hI hb3;have Hn3:=hI hn3;clear hown3 hb3 hn3))
 go_loopw [45,11] (fun i out wr=>∃k:Nat,k≤n3∧i=.int .i64 (k:Int)∧Below w2.heap.size w2 wr∧wr.ownsRow w2.heap.size 84 14 (.slice a3 n3 c3) n3 (((px++py).map GP.row).flatten)∧wr.ownsRow w2.heap.size 79 7 out (2+2*k) (((gkcuts ((px++py).take k)).map GC.cells).flatten)) (fun i _ _=>n3-(intOf i).toNat)
 case atStart=>exact⟨0,by omega,rfl,(qaa (qaz w2 (.cells #[.int .i64 (-1),.string ⟨#[]⟩,.int .i64 0,.bool false,.slice none 0 0,.bool false,.slice none 0 0,.int .i64 1,.string ⟨#[]⟩,.int .i64 0,.bool false,.slice none 0 0,.bool false,.slice none 0 0] 79) (.cells #[.slice ax nx cx,.slice ay ny cy] 80)) Hb3.out),qda Hown3.out (by simp<;>omega),qaf (qs7 w2) (qaa (qac (w2.alloc (.cells #[.int .i64 (-1),.string ⟨#[]⟩,.int .i64 0,.bool false,.slice none 0 0,.bool false,.slice none 0 0,.int .i64 1,.string ⟨#[]⟩,.int .i64 0,.bool false,.slice none 0 0,.bool false,.slice none 0 0] 79)) (.cells #[.slice ax nx cx,.slice ay ny cy] 80)) Hb3.out)⟩
 case round=>
  obtain⟨k,hk,rfl,hbw,hown,hplc⟩:=hrel;rcases Nat.lt_or_ge k n3 with hlt|hge
  ·have hprt:=qcj hown (fun q hq=>by
    rcases List.mem_append.1 hq with h|h
    ·exact((Hpx.out.2 q h).mono Hb2.out).mono hbw
    ·exact(Hpy.out.2 q h).mono hbw)
   obtain⟨g3,off,p,ha3,hp,hpok,cells⟩:=qa0.at hprt (Below.refl _ _) hlt
   have hoff:off=0:=by
    obtain⟨g',hg'⟩:=qbk hown (by omega);rw[ha3]at hg';cases hg'
    rfl
   subst ha3 hoff;rw[Nat.zero_add]at cells;obtain⟨e0,e1,e2,e3,e4,e5,e6,e7,e8,e9,e10,e11,e12,e13⟩:=cells;obtain⟨ao,co,rfl,hco,-⟩:=qas hplc;have hn31:=Hn3.out;have hnx1:=HN.out.1 px Hcx.out;have hny1:=HN.out.2 py Hcy.out;have hnx2:=Hnx.out;have hny2:=Hny.out;have hnle:n3≤512:=by omega
   have hkn:(k:Int)<(n3:Int):=by omega
   have hik:IntKind.i64.wrap ((k:Int)+1)=(k:Int)+1:=IntWalk.i64_in _ (by omega);have Htk:=hI (show((gkcuts ((px++py).take k)).map GC.cells).flatten++(p.l.cells++p.h.cells)=((gkcuts ((px++py).take (k+1))).map GC.cells).flatten by rw[geti hp,qlw])
   have hBn:((wr.alloc (.cells #[.int .i64 p.l.c.b,.string p.l.c.s,.int .i64 p.l.c.d,.bool p.l.x,.slice p.l.a p.l.n p.l.cap,.bool p.l.y,.slice p.l.e p.l.m p.l.cap2,.int .i64 p.h.c.b,.string p.h.c.s,.int .i64 p.h.c.d,.bool p.h.x,.slice p.h.a p.h.n p.h.cap,.bool p.h.y,.slice p.h.e p.h.m p.h.cap2] 84)).alloc (.cells #[.int .i64 p.l.c.b,.string p.l.c.s,.int .i64 p.l.c.d,.bool p.l.x,.slice p.l.a p.l.n p.l.cap,.bool p.l.y,.slice p.l.e p.l.m p.l.cap2,.int .i64 p.h.c.b,.string p.h.c.s,.int .i64 p.h.c.d,.bool p.h.x,.slice p.h.a p.h.n p.h.cap,.bool p.h.y,.slice p.h.e p.h.m p.h.cap2] 79)).heap[wr.heap.size+1]?=some (.cells (p.l.cells++p.h.cells).toArray 79 (0,0)):=by
    have h:=Blk.new (wr.alloc (.cells #[.int .i64 p.l.c.b,.string p.l.c.s,.int .i64 p.l.c.d,.bool p.l.x,.slice p.l.a p.l.n p.l.cap,.bool p.l.y,.slice p.l.e p.l.m p.l.cap2,.int .i64 p.h.c.b,.string p.h.c.s,.int .i64 p.h.c.d,.bool p.h.x,.slice p.h.a p.h.n p.h.cap,.bool p.h.y,.slice p.h.e p.h.m p.h.cap2] 84)) #[.int .i64 p.l.c.b,.string p.l.c.s,.int .i64 p.l.c.d,.bool p.l.x,.slice p.l.a p.l.n p.l.cap,.bool p.l.y,.slice p.l.e p.l.m p.l.cap2,.int .i64 p.h.c.b,.string p.h.c.s,.int .i64 p.h.c.d,.bool p.h.x,.slice p.h.a p.h.n p.h.cap,.bool p.h.y,.slice p.h.e p.h.m p.h.cap2] 79;unfold Blk at h
    simpa[GC.cells]using h
   have HBn:=hI hBn;have Hpl:=hI (qaf hplc (qaz wr (.cells #[.int .i64 p.l.c.b,.string p.l.c.s,.int .i64 p.l.c.d,.bool p.l.x,.slice p.l.a p.l.n p.l.cap,.bool p.l.y,.slice p.l.e p.l.m p.l.cap2,.int .i64 p.h.c.b,.string p.h.c.s,.int .i64 p.h.c.d,.bool p.h.x,.slice p.h.a p.h.n p.h.cap,.bool p.h.y,.slice p.h.e p.h.m p.h.cap2] 84) (.cells #[.int .i64 p.l.c.b,.string p.l.c.s,.int .i64 p.l.c.d,.bool p.l.x,.slice p.l.a p.l.n p.l.cap,.bool p.l.y,.slice p.l.e p.l.m p.l.cap2,.int .i64 p.h.c.b,.string p.h.c.s,.int .i64 p.h.c.d,.bool p.h.x,.slice p.h.a p.h.n p.h.cap,.bool p.h.y,.slice p.h.e p.h.m p.h.cap2] 79)));have Hpl0:=hI hplc;have Hown:=hI (qaf hown (qaz wr (.cells #[.int .i64 p.l.c.b,.string p.l.c.s,.int .i64 p.l.c.d,.bool p.l.x,.slice p.l.a p.l.n p.l.cap,.bool p.l.y,.slice p.l.e p.l.m p.l.cap2,.int .i64 p.h.c.b,.string p.h.c.s,.int .i64 p.h.c.d,.bool p.h.x,.slice p.h.a p.h.n p.h.cap,.bool p.h.y,.slice p.h.e p.h.m p.h.cap2] 84) (.cells #[.int .i64 p.l.c.b,.string p.l.c.s,.int .i64 p.l.c.d,.bool p.l.x,.slice p.l.a p.l.n p.l.cap,.bool p.l.y,.slice p.l.e p.l.m p.l.cap2,.int .i64 p.h.c.b,.string p.h.c.s,.int .i64 p.h.c.d,.bool p.h.x,.slice p.h.a p.h.n p.h.cap,.bool p.h.y,.slice p.h.e p.h.m p.h.cap2] 79)));have Hbw:=hI hbw;clear hn31 hnx1 hny1 hnx2 hny2 hBn hplc hown hbw hprt hp hpok
   go_wp2_with (at_builtin;refine qut rfl _ _ rfl w2.heap.size _ _ _ p.l p.h (wr.heap.size+1) rfl rfl Hpl.out HBn.out (by omega) (Nat.le_trans Hbw.out.size (qaz wr _ _).size) ?_;intro v' w5 hown' hg';have Hbw3:=hI (Below.grown (Hbw.out.via (qaz wr (.cells #[.int .i64 p.l.c.b,.string p.l.c.s,.int .i64 p.l.c.d,.bool p.l.x,.slice p.l.a p.l.n p.l.cap,.bool p.l.y,.slice p.l.e p.l.m p.l.cap2,.int .i64 p.h.c.b,.string p.h.c.s,.int .i64 p.h.c.d,.bool p.h.x,.slice p.h.a p.h.n p.h.cap,.bool p.h.y,.slice p.h.e p.h.m p.h.cap2] 84) (.cells #[.int .i64 p.l.c.b,.string p.l.c.s,.int .i64 p.l.c.d,.bool p.l.x,.slice p.l.a p.l.n p.l.cap,.bool p.l.y,.slice p.l.e p.l.m p.l.cap2,.int .i64 p.h.c.b,.string p.h.c.s,.int .i64 p.h.c.d,.bool p.h.x,.slice p.h.a p.h.n p.h.cap,.bool p.h.y,.slice p.h.e p.h.m p.h.cap2] 79)) Hbw.out.size) hg' (Nat.le_trans Hbw.out.size (qaz wr (.cells #[.int .i64 p.l.c.b,.string p.l.c.s,.int .i64 p.l.c.d,.bool p.l.x,.slice p.l.a p.l.n p.l.cap,.bool p.l.y,.slice p.l.e p.l.m p.l.cap2,.int .i64 p.h.c.b,.string p.h.c.s,.int .i64 p.h.c.d,.bool p.h.x,.slice p.h.a p.h.n p.h.cap,.bool p.h.y,.slice p.h.e p.h.m p.h.cap2] 84) (.cells #[.int .i64 p.l.c.b,.string p.l.c.s,.int .i64 p.l.c.d,.bool p.l.x,.slice p.l.a p.l.n p.l.cap,.bool p.l.y,.slice p.l.e p.l.m p.l.cap2,.int .i64 p.h.c.b,.string p.h.c.s,.int .i64 p.h.c.d,.bool p.h.x,.slice p.h.a p.h.n p.h.cap,.bool p.h.y,.slice p.h.e p.h.m p.h.cap2] 79)).size) (fun k hk=>(Hpl.out.lt k hk).1));have Hown5:=hI hown';have Hown6:=hI (qon Hown.out Hpl.out (by decide) hg');clear hown' hg')
   go_roundw
   case rel=>exact⟨k+1,by omega,by go_num,Hbw3.out,Hown6.out,by have:=Hown5.out;rw[Htk.out]at this;exact this⟩
   case measure=>simp[intOf]<;>omega
  ·obtain rfl:k=n3:=by omega
   have hkn:¬(k:Int)<(k:Int):=by omega
   have hn31:=Hn3.out;have hnx1:=HN.out.1 px Hcx.out;have hny1:=HN.out.2 py Hcy.out;have hnx2:=Hnx.out;have hny2:=Hny.out;have hnle:k≤512:=by omega
   have hpql:(px++py).length=k:=by rw[List.length_append];omega
   rw[List.take_of_length_le (by rw[hpql];exact Nat.le_refl _)]at hplc;obtain⟨ao,co,rfl,hco,-⟩:=qas hplc;obtain⟨gp,rfl⟩:=qbk hplc (by omega);obtain⟨N,hN⟩:∃N,2+2*k=N:=⟨_,rfl⟩
   have hN2:N≤1026:=by omega
   have hN3:2≤N:=by omega
   rw[hN]at hplc hco⊢;have hkl:(gkcuts (px++py)).length=N:=by rw[qoy,hpql,hN]
   have hkok:=qrd (l:=px++py) (w:=wr) (fun q hq=>by
    rcases List.mem_append.1 hq with h|h
    ·exact((Hpx.out.2 q h).mono Hb2.out).mono hbw
    ·exact(Hpy.out.2 q h).mono hbw)
   have hkc:(gkcuts (px++py)).map GC.c=qbj ((xs++ys).map Iv.cuts):=by
    rw[qtq,List.map_append,Hcx.out,Hcy.out,←List.map_append]
   have HS:=hI (qu5 (gkcuts (px++py)) N hkl wr _ gp co (by unfold gkcuts;simp) hplc hkok (by omega));have HKc:=hI (And.intro hkc hkl);have Hpl:=hI hplc;have Hbw:=hI hbw;clear hn31 hnx1 hny1 hnx2 hny2 hkc hkok hplc hown hkl hpql hbw hN
   go_wp2_with (first
    |(go_at_call 133;refine(HS.out).mono ?_;rintro e w6 ⟨rfl,hg6,P',hperm',hsort',hown6,hok6⟩;have Hb6:=hI (Below.grown Hbw.out hg6 Hbw.out.size (fun q hq=>(Hpl.out.lt q (by rw[←hq];rfl)).1));have hPl':P'.length=N:=hperm'.length_eq.trans HKc.out.2;have HCo:=hI (qr4 P' N w6 w2.heap.size gp co hPl' hown6 hok6 (by omega) (by omega));have HPl':=hI hPl';have Hperm:=hI hperm';have Hsort:=hI hsort';unfold qwo at HCo;clear hg6 hperm' hsort' hown6 hok6 hPl')
    |(go_at_call 134;refine(HCo.out).mono ?_;rintro e w7 ⟨M,rfl,hM,hg7,hcu7⟩;have hMN:M≤N:=(by rw[←hM,←HPl'.out];exact quo _);have hMw:IntKind.i64.wrap ((M:Int)-1)=(M:Int)-1:=IntWalk.i64_in _ (by omega);have Hb7:=hI (Below.grown Hb6.out hg7 Hb6.out.size (fun q hq=>by cases hq;exact(Hpl.out.lt gp rfl).1));have HM:=hI hM;have Hcu7:=hI hcu7;clear hM hg7 hcu7))
   have HX7:=hI ((Hpx.out.mono Hb2.out).mono Hb7.out);have HY7:=hI (Hpy.out.mono Hb7.out);have Hbase:=hI (((Hb1.out.via Hb2.out Hb1.out.size).via Hb7.out (Nat.le_trans Hb1.out.size Hb2.out.size)));have HB7:=hI (BlkO.mono HB0.out Hbase.out);obtain⟨B7,hB7⟩:∃B,w7.heap.size=B:=⟨_,rfl⟩
   have HE7:=hI hB7;have HKN:=hI (fun W:World=>World.ownsRow_nil W B7 84 14);have HF7:=hI (fun F (h:o=some F)=>show F<B7 by rw[←hB7];exact BlkO.lt HB7.out F h);clear hB7 HB0;have hDd:=qxo (P:=P') (qgt Hsort.out) (N-1) (by rw[HPl'.out];omega);rw[show N=P'.length from HPl'.out.symm]at hDd;have hDn:ddN P' (P'.length-1+1)=ddN P' P'.length:=by rw[Nat.sub_add_cancel (by rw[HPl'.out];omega)]
   obtain⟨P,hPm⟩:∃P,(ddN P' P'.length).map GC.c=P:=⟨_,rfl⟩
   have hM1:1≤M:=by rw[←HM.out,←hDn];exact hDd.pos
   have hmem:∀c,c∈P'.map GC.c↔c∈qbj ((xs++ys).map Iv.cuts):=fun c=>by rw[←HKc.out.1];exact(Hperm.out.map GC.c).mem_iff
   have HPost:=hI (show P.Pairwise CG∧(∀c∈P,c∈qbj ((xs++ys).map Iv.cuts))∧∀c∈qbj ((xs++ys).map Iv.cuts),∃c'∈P,cmpG c c'=0 by
    subst hPm;rw[←hDn];refine⟨hDd.strict,fun c hc=>?_,fun c hc=>?_⟩
    ·obtain⟨k',hk',rfl⟩:=List.mem_map.1 hc
     exact(hmem _).1 (List.mem_map_of_mem (hDd.sub k' hk'))
    ·obtain⟨k',hk',rfl⟩:=List.mem_map.1 ((hmem c).2 hc)
     obtain⟨k2,h1,h2⟩:=hDd.cover k' (by rw[List.take_of_length_le (by omega)];exact hk')
     exact⟨k2.c,List.mem_map_of_mem h1,h2⟩)
   have HPm:=hI hPm;have HPl:=hI HM.out;obtain⟨F,hF⟩:∃F,runR CG keep P (xs.map Iv.cuts) (ys.map Iv.cuts) []=F:=⟨_,rfl⟩
   have HFF:=hI hF;obtain⟨sF,hsF⟩:∃x,runS CG next P (xs.map Iv.cuts) (ys.map Iv.cuts) s0=x:=⟨_,rfl⟩
   have HsF:=hI hsF;clear hsF;clear hDd hDn hPm hmem hF;clear Hown3 Hb3 Hpl Hbw HS HKc HCo Hpx Hpy hco Hperm Hsort HM HPl'
   go_loopw [64,8,10,14] (fun i xv yv out wr=>∃(wS:World) (s:Bool) (j nO:Nat) (XP YP OP:List GP),j+1≤M∧i=.int .i64 (j:Int)∧Hid (wS=putO o s w7)∧qa0 wS xv XP∧qa0 wS yv YP∧wr.ownsRow B7 84 14 out nO ((OP.map GP.row).flatten)∧Below wS.heap.size wS wr∧Hid (OP.length=nO∧nO≤j∧XP.length≤300∧YP.length≤300∧(∀p∈OP,p.ok wr)∧runR CG keep (P.drop j) (XP.map GP.cuts) (YP.map GP.cuts) (OP.map GP.cuts)=F∧runS CG next (P.drop j) (XP.map GP.cuts) (YP.map GP.cuts) s=sF)) (fun i _ _ _ _=>M-(intOf i).toNat)
   case atStart=>exact⟨w7,s0,0,0,px,py,[],by omega,rfl,(qvt HB7.out).symm,HX7.out,HY7.out,HKN.out _,Below.refl _ _,rfl,by omega,by have:=HN.out.1 px Hcx.out;omega,by have:=HN.out.2 py Hcy.out;omega,fun p hp=>by simp at hp,by rw[Hcx.out,Hcy.out];exact HFF.out,by rw[Hcx.out,Hcy.out];exact HsF.out⟩
   case round=>
    obtain⟨wS,s,j,nO,XP,YP,OP,hjN,rfl,HwS,hXP,hYP,hown,hbw,hinv⟩:=hrel;have HES:=hI (show wS.heap.size=B7 by rw[HwS.out,qdg];exact HE7.out);have HBS:=hI (show BlkO o s wS by rw[HwS.out];exact BlkO.put HB7.out s);rcases Nat.lt_or_ge (j+1) M with hlt|hge
    ·have hcuS:=qfk.putO Hcu7.out HB7.out s
     rw[←HwS.out]at hcuS;obtain⟨bb,off,lo,hbb,hlo,hlook,hloc⟩:=hcuS.at hbw (show j<M by omega);cases hbb
     obtain⟨bb,off,hi,hbb,hhi,hhiok,hhic⟩:=hcuS.at hbw (show j+1<M from hlt);cases hbb
     rw[Nat.zero_add]at hloc hhic
     have hPd:P.drop j=lo.c::hi.c::P.drop (j+2):=by
      have h1:P[j]?=some lo.c:=by rw[←HPm.out,List.getElem?_map,hlo];rfl
      have h2:P[j+1]?=some hi.c:=by rw[←HPm.out,List.getElem?_map,hhi];rfl
      obtain⟨g1,e1⟩:=List.getElem?_eq_some_iff.1 h1;obtain⟨g2,e2⟩:=List.getElem?_eq_some_iff.1 h2;rw[List.drop_eq_getElem_cons g1,List.drop_eq_getElem_cons g2,e1,e2]
     have hjn:(j:Int)<(M:Int)-1:=by omega
     have hjn2:(j:Int)<(M:Int):=by omega
     have hjn3:(j:Int)+1<(M:Int):=by omega
     have hj0:(0:Int)≤(j:Int):=by omega
     have hj1:(0:Int)≤(j:Int)+1:=by omega
     have hjw:IntKind.i64.wrap ((j:Int)+1)=(j:Int)+1:=IntWalk.i64_in _ (by omega);have hjt:((j:Int)+1).toNat=j+1:=by omega
     have HPd:=hI hPd;have Hlk:=hI (And.intro hlook hhiok);have HSx:=hI (fun w' (hb:Below wr.heap.size wr w')=>show w'.cell? ⟨gp,j*7,none⟩=some (.int .i64 lo.c.b)∧w'.cell? ⟨gp,j*7+1,none⟩=some (.string lo.c.s)∧w'.cell? ⟨gp,j*7+2,none⟩=some (.int .i64 lo.c.d)∧w'.cell? ⟨gp,j*7+3,none⟩=some (.bool lo.x)∧w'.cell? ⟨gp,j*7+4,none⟩=some (.slice lo.a lo.n lo.cap)∧w'.cell? ⟨gp,j*7+5,none⟩=some (.bool lo.y)∧w'.cell? ⟨gp,j*7+6,none⟩=some (.slice lo.e lo.m lo.cap2)∧w'.cell? ⟨gp,(j+1)*7,none⟩=some (.int .i64 hi.c.b)∧w'.cell? ⟨gp,(j+1)*7+1,none⟩=some (.string hi.c.s)∧w'.cell? ⟨gp,(j+1)*7+2,none⟩=some (.int .i64 hi.c.d)∧w'.cell? ⟨gp,(j+1)*7+3,none⟩=some (.bool hi.x)∧w'.cell? ⟨gp,(j+1)*7+4,none⟩=some (.slice hi.a hi.n hi.cap)∧w'.cell? ⟨gp,(j+1)*7+5,none⟩=some (.bool hi.y)∧w'.cell? ⟨gp,(j+1)*7+6,none⟩=some (.slice hi.e hi.m hi.cap2)from⟨qab hb hloc.1,qab hb hloc.2.1,qab hb hloc.2.2.1,qab hb hloc.2.2.2.1,qab hb hloc.2.2.2.2.1,qab hb hloc.2.2.2.2.2.1,qab hb hloc.2.2.2.2.2.2,qab hb hhic.1,qab hb hhic.2.1,qab hb hhic.2.2.1,qab hb hhic.2.2.2.1,qab hb hhic.2.2.2.2.1,qab hb hhic.2.2.2.2.2.1,qab hb hhic.2.2.2.2.2.2⟩);have HXP:=hI hXP;have HYP:=hI hYP;have Hown:=hI hown;have Hbw:=hI hbw;clear hPd hlook hloc hhiok hhic hXP hYP hown hbw hlo hhi hcuS;go_upto_region 19 with fail
     go_cut [16,17]from 65 to 157 (fun a16 a17 wx=>∃b16 b17:Nat,a16=.pointer (some ⟨b16,0,none⟩)∧a17=.pointer (some ⟨b17,0,none⟩)∧Below wr.heap.size wr wx∧Blk wx b16 #[.int .i64 lo.c.b,.string lo.c.s,.int .i64 lo.c.d,.bool lo.x,.slice lo.a lo.n lo.cap,.bool lo.y,.slice lo.e lo.m lo.cap2] 79∧Blk wx b17 #[.int .i64 hi.c.b,.string hi.c.s,.int .i64 hi.c.d,.bool hi.x,.slice hi.a hi.n hi.cap,.bool hi.y,.slice hi.e hi.m hi.cap2] 79)
     case first=>as_aux_lemma=>
      refine wpRg HSx.out (qc6 wr).drew (by kernel_rfl) (fun hHeld=>?_)
      refine' tk 0 ?_;(try simp only[tkS]);refine' tk 1 ?_;(try simp only[tkS]);refine' tk 2 ?_;(try simp only[tkS]);refine' tk 3 ?_;(try simp only[tkS]);refine' tk 4 ?_;(try simp only[tkS]);refine' tk 5 ?_;(try simp only[tkS]);refine' tk 6 ?_;(try simp only[tkS]);refine' tk 7 ?_;(try simp only[tkS]);refine' tk 8 ?_;(try simp only[tkS]);refine wpAnyH_ready (rs:=[9,10]) (by kernel_rfl) (by simp) ?_
      refine AllReadyH.cons rfl (fun K hK=>?_) (AllReadyH.cons rfl (fun K hK=>?_) AllReadyH.nil)
      ·go_simp
       refine hK.out _ _ (by exact HSx.out _ (qbl (qc6 wr) (.cells #[.int .i64 0,.string ⟨#[]⟩,.int .i64 0,.bool false,.slice none 0 0,.bool false,.slice none 0 0] 79)).drew) (fun hHeld=>?_)
       clear hK K;(try simp only[tkS]);refine tk1 10 (fun K hK=>?_)
       go_simp;refine hK.out _ _ (by exact HSx.out _ (qbl (qbl (qc6 wr) (.cells #[.int .i64 0,.string ⟨#[]⟩,.int .i64 0,.bool false,.slice none 0 0,.bool false,.slice none 0 0] 79)) (.cells #[.int .i64 0,.string ⟨#[]⟩,.int .i64 0,.bool false,.slice none 0 0,.bool false,.slice none 0 0] 79)).drew) (fun hHeld=>?_)
       clear hK K;(try simp only[tkS]);refine tk1 11 (fun K hK=>?_)
       go_simp;refine hK.out _ _ (by exact HSx.out _ (qbl (qbl (qc6 wr) (.cells #[.int .i64 lo.c.b,.string lo.c.s,.int .i64 lo.c.d,.bool lo.x,.slice lo.a lo.n lo.cap,.bool lo.y,.slice lo.e lo.m lo.cap2] 79)) (.cells #[.int .i64 0,.string ⟨#[]⟩,.int .i64 0,.bool false,.slice none 0 0,.bool false,.slice none 0 0] 79)).drew) (fun hHeld=>?_)
       clear hK K;(try simp only[tkS]);refine tk1 12 (fun K hK=>?_)
       go_simp;refine hK.out _ _ (by exact HSx.out _ (qbl (qbl (qc6 wr) (.cells #[.int .i64 lo.c.b,.string lo.c.s,.int .i64 lo.c.d,.bool lo.x,.slice lo.a lo.n lo.cap,.bool lo.y,.slice lo.e lo.m lo.cap2] 79)) (.cells #[.int .i64 hi.c.b,.string hi.c.s,.int .i64 hi.c.d,.bool hi.x,.slice hi.a hi.n hi.cap,.bool hi.y,.slice hi.e hi.m hi.cap2] 79)).drew) (fun hHeld=>?_)
       clear hK K;(try simp only[tkS]);refine tkD ?_ _
       go_wp2_with fail
       go_meet;have h16:Blk ((wr.alloc (.cells #[.int .i64 lo.c.b,.string lo.c.s,.int .i64 lo.c.d,.bool lo.x,.slice lo.a lo.n lo.cap,.bool lo.y,.slice lo.e lo.m lo.cap2] 79)).alloc (.cells #[.int .i64 hi.c.b,.string hi.c.s,.int .i64 hi.c.d,.bool hi.x,.slice hi.a hi.n hi.cap,.bool hi.y,.slice hi.e hi.m hi.cap2] 79)) wr.heap.size #[.int .i64 lo.c.b,.string lo.c.s,.int .i64 lo.c.d,.bool lo.x,.slice lo.a lo.n lo.cap,.bool lo.y,.slice lo.e lo.m lo.cap2] 79:=(Blk.new wr _ _).old _
       have h17:Blk ((wr.alloc (.cells #[.int .i64 lo.c.b,.string lo.c.s,.int .i64 lo.c.d,.bool lo.x,.slice lo.a lo.n lo.cap,.bool lo.y,.slice lo.e lo.m lo.cap2] 79)).alloc (.cells #[.int .i64 hi.c.b,.string hi.c.s,.int .i64 hi.c.d,.bool hi.x,.slice hi.a hi.n hi.cap,.bool hi.y,.slice hi.e hi.m hi.cap2] 79)) (wr.heap.size+1) #[.int .i64 hi.c.b,.string hi.c.s,.int .i64 hi.c.d,.bool hi.x,.slice hi.a hi.n hi.cap,.bool hi.y,.slice hi.e hi.m hi.cap2] 79:=by
        have h:=Blk.new (wr.alloc (.cells #[.int .i64 lo.c.b,.string lo.c.s,.int .i64 lo.c.d,.bool lo.x,.slice lo.a lo.n lo.cap,.bool lo.y,.slice lo.e lo.m lo.cap2] 79)) #[.int .i64 hi.c.b,.string hi.c.s,.int .i64 hi.c.d,.bool hi.x,.slice hi.a hi.n hi.cap,.bool hi.y,.slice hi.e hi.m hi.cap2] 79
        simpa using h
       exact⟨wr.heap.size,wr.heap.size+1,rfl,rfl,(qbl (qbl (qc6 wr) (.cells #[.int .i64 lo.c.b,.string lo.c.s,.int .i64 lo.c.d,.bool lo.x,.slice lo.a lo.n lo.cap,.bool lo.y,.slice lo.e lo.m lo.cap2] 79)) (.cells #[.int .i64 hi.c.b,.string hi.c.s,.int .i64 hi.c.d,.bool hi.x,.slice hi.a hi.n hi.cap,.bool hi.y,.slice hi.e hi.m hi.cap2] 79)).drew,Blk.drewg h16,Blk.drewg h17⟩
      ·go_simp
       refine hK.out _ _ (by exact HSx.out _ (qbl (qc6 wr) (.cells #[.int .i64 0,.string ⟨#[]⟩,.int .i64 0,.bool false,.slice none 0 0,.bool false,.slice none 0 0] 79)).drew) (fun hHeld=>?_)
       clear hK K;(try simp only[tkS]);refine tk1 9 (fun K hK=>?_)
       go_simp;refine hK.out _ _ (by exact HSx.out _ (qbl (qbl (qc6 wr) (.cells #[.int .i64 0,.string ⟨#[]⟩,.int .i64 0,.bool false,.slice none 0 0,.bool false,.slice none 0 0] 79)) (.cells #[.int .i64 0,.string ⟨#[]⟩,.int .i64 0,.bool false,.slice none 0 0,.bool false,.slice none 0 0] 79)).drew) (fun hHeld=>?_)
       clear hK K;(try simp only[tkS]);refine tk1 11 (fun K hK=>?_)
       go_simp;refine hK.out _ _ (by exact HSx.out _ (qbl (qbl (qc6 wr) (.cells #[.int .i64 0,.string ⟨#[]⟩,.int .i64 0,.bool false,.slice none 0 0,.bool false,.slice none 0 0] 79)) (.cells #[.int .i64 lo.c.b,.string lo.c.s,.int .i64 lo.c.d,.bool lo.x,.slice lo.a lo.n lo.cap,.bool lo.y,.slice lo.e lo.m lo.cap2] 79)).drew) (fun hHeld=>?_)
       clear hK K;(try simp only[tkS]);refine tk1 12 (fun K hK=>?_)
       go_simp;refine hK.out _ _ (by exact HSx.out _ (qbl (qbl (qc6 wr) (.cells #[.int .i64 hi.c.b,.string hi.c.s,.int .i64 hi.c.d,.bool hi.x,.slice hi.a hi.n hi.cap,.bool hi.y,.slice hi.e hi.m hi.cap2] 79)) (.cells #[.int .i64 lo.c.b,.string lo.c.s,.int .i64 lo.c.d,.bool lo.x,.slice lo.a lo.n lo.cap,.bool lo.y,.slice lo.e lo.m lo.cap2] 79)).drew) (fun hHeld=>?_)
       clear hK K;(try simp only[tkS]);refine tkD ?_ _
       go_wp2_with fail
       go_meet;have h17:Blk ((wr.alloc (.cells #[.int .i64 hi.c.b,.string hi.c.s,.int .i64 hi.c.d,.bool hi.x,.slice hi.a hi.n hi.cap,.bool hi.y,.slice hi.e hi.m hi.cap2] 79)).alloc (.cells #[.int .i64 lo.c.b,.string lo.c.s,.int .i64 lo.c.d,.bool lo.x,.slice lo.a lo.n lo.cap,.bool lo.y,.slice lo.e lo.m lo.cap2] 79)) wr.heap.size #[.int .i64 hi.c.b,.string hi.c.s,.int .i64 hi.c.d,.bool hi.x,.slice hi.a hi.n hi.cap,.bool hi.y,.slice hi.e hi.m hi.cap2] 79:=(Blk.new wr _ _).old _
       have h16:Blk ((wr.alloc (.cells #[.int .i64 hi.c.b,.string hi.c.s,.int .i64 hi.c.d,.bool hi.x,.slice hi.a hi.n hi.cap,.bool hi.y,.slice hi.e hi.m hi.cap2] 79)).alloc (.cells #[.int .i64 lo.c.b,.string lo.c.s,.int .i64 lo.c.d,.bool lo.x,.slice lo.a lo.n lo.cap,.bool lo.y,.slice lo.e lo.m lo.cap2] 79)) (wr.heap.size+1) #[.int .i64 lo.c.b,.string lo.c.s,.int .i64 lo.c.d,.bool lo.x,.slice lo.a lo.n lo.cap,.bool lo.y,.slice lo.e lo.m lo.cap2] 79:=by
        have h:=Blk.new (wr.alloc (.cells #[.int .i64 hi.c.b,.string hi.c.s,.int .i64 hi.c.d,.bool hi.x,.slice hi.a hi.n hi.cap,.bool hi.y,.slice hi.e hi.m hi.cap2] 79)) #[.int .i64 lo.c.b,.string lo.c.s,.int .i64 lo.c.d,.bool lo.x,.slice lo.a lo.n lo.cap,.bool lo.y,.slice lo.e lo.m lo.cap2] 79
        simpa using h
       exact⟨wr.heap.size+1,wr.heap.size,rfl,rfl,(qbl (qbl (qc6 wr) (.cells #[.int .i64 hi.c.b,.string hi.c.s,.int .i64 hi.c.d,.bool hi.x,.slice hi.a hi.n hi.cap,.bool hi.y,.slice hi.e hi.m hi.cap2] 79)) (.cells #[.int .i64 lo.c.b,.string lo.c.s,.int .i64 lo.c.d,.bool lo.x,.slice lo.a lo.n lo.cap,.bool lo.y,.slice lo.e lo.m lo.cap2] 79)).drew,Blk.drewg h16,Blk.drewg h17⟩
     case rest=>
      obtain⟨b16,b17,rfl,rfl,hbx,hB16,hB17⟩:=hcut;have Hbx:=hI hbx;have HB17:=hI hB17;have HB16:=hI hB16;go_upto_block 4 with fail
      go_cut [8]from 65 to 157 (fun xv wx=>∃XQ:List GP,qa0 wS xv XQ∧XQ.map GP.cuts=qa4 CG lo.c (XP.map GP.cuts)∧XQ.length≤XP.length∧Below wc.heap.size wc wx)
      case first=>as_aux_lemma=>
       go_wp2_with fail
       go_loopw [8] (fun xv wz=>∃XQ:List GP,qa0 wS xv XQ∧Below wc.heap.size wc wz∧Hid (qa4 CG lo.c (XQ.map GP.cuts)=qa4 CG lo.c (XP.map GP.cuts)∧XQ.length≤XP.length)) (fun xv _=>match xv with|.slice _ n _=>n|_=>0)
       case atStart=>exact⟨XP,HXP.out,Below.refl _ _,rfl,Nat.le_refl _⟩
       case round=>
        obtain⟨XQ,hXQ,hbz,hq⟩:=hrel;obtain⟨aq,cq,rfl,hcq,hcq2⟩:=hXQ.open;unfold maxLen at hcq2;cases XQ with
        |nil=>
         rw[List.length_nil];have Hbz:=hI hbz;have HXQ:=hI hXQ;clear hXQ hbz;go_upto_region 20 with fail
         refine wp_region_held_drew (S:=(fun _=>True)) (by kernel_rfl) (by exact trivial) (fun hHeld=>?_)
         refine' tk 0 ?_;(try simp only[tkS]);refine' tk 1 ?_;(try simp only[tkS]);refine' tk 2 ?_;(try simp only[tkS]);refine' tk 3 ?_;(try simp only[tkS]);refine' tkU 4 ?_;(try simp only[tkS]);refine' tkU 5 ?_;(try simp only[tkS]);refine' tkU 6 ?_;(try simp only[tkS]);refine' tkU 7 ?_;(try simp only[tkS]);refine' tkU 8 ?_;(try simp only[tkS]);refine' tkU 9 ?_;(try simp only[tkS]);refine' tkU 10 ?_;(try simp only[tkS]);refine' tk 11 ?_;(try simp only[tkS]);refine tkD ?_ _
         go_wp2_with fail
         go_meet;exact⟨[],HXQ.out,hq.out.1,Nat.zero_le _,Hbz.out.via (qcb _) Hbz.out.size⟩
        |cons p r=>
         rw[List.length_cons]at hcq⊢;obtain⟨b,off,pp,rfl,hpp,hpok,hpc⟩:=qa0.at hXQ (Hbw.out.via (qaa Hbx.out hbz) Hbw.out.size) (show 0<(p::r).length by simp);cases hpp
         rw[Nat.zero_mul,Nat.add_zero]at hpc;have hb16:=qb7 hB16 hbz;have HSy:=hI (fun w' (hb:Below wr.heap.size wr w')=>show w'.cell? ⟨b,off+7,none⟩=some (.int .i64 p.h.c.b)∧w'.cell? ⟨b,off+8,none⟩=some (.string p.h.c.s)∧w'.cell? ⟨b,off+9,none⟩=some (.int .i64 p.h.c.d)∧w'.cell? ⟨b,off+10,none⟩=some (.bool p.h.x)∧w'.cell? ⟨b,off+11,none⟩=some (.slice p.h.a p.h.n p.h.cap)∧w'.cell? ⟨b,off+12,none⟩=some (.bool p.h.y)∧w'.cell? ⟨b,off+13,none⟩=some (.slice p.h.e p.h.m p.h.cap2)∧w'.cell? ⟨b16,0,none⟩=some (.int .i64 lo.c.b)∧w'.cell? ⟨b16,1,none⟩=some (.string lo.c.s)∧w'.cell? ⟨b16,2,none⟩=some (.int .i64 lo.c.d)∧w'.cell? ⟨b16,3,none⟩=some (.bool lo.x)∧w'.cell? ⟨b16,4,none⟩=some (.slice lo.a lo.n lo.cap)∧w'.cell? ⟨b16,5,none⟩=some (.bool lo.y)∧w'.cell? ⟨b16,6,none⟩=some (.slice lo.e lo.m lo.cap2)from⟨qab hb hpc.2.2.2.2.2.2.2.1,qab hb hpc.2.2.2.2.2.2.2.2.1,qab hb hpc.2.2.2.2.2.2.2.2.2.1,qab hb hpc.2.2.2.2.2.2.2.2.2.2.1,qab hb hpc.2.2.2.2.2.2.2.2.2.2.2.1,qab hb hpc.2.2.2.2.2.2.2.2.2.2.2.2.1,qab hb hpc.2.2.2.2.2.2.2.2.2.2.2.2.2,qab hb hb16.1,qab hb hb16.2.1,qab hb hb16.2.2.1,qab hb hb16.2.2.2.1,qab hb hb16.2.2.2.2.1,qab hb hb16.2.2.2.2.2.1,qab hb hb16.2.2.2.2.2.2⟩);have Hck:=hI (fun w' (hb:Below wr.heap.size wr w')=>qct p.h lo w' (hpok.2.mono hb) ((Hlk.out.1.mono (qaa Hbx.out hbz)).mono hb));have HXQ:=hI hXQ;have Hbz:=hI hbz;have hdt:qa4 CG lo.c ((p::r).map GP.cuts)=if cmpG p.h.c lo.c≤0 then qa4 CG lo.c (r.map GP.cuts)else(p::r).map GP.cuts:=qrs _ _ _
         have Hdt:=hI hdt;generalize hnr:r.length=nr at*;have Hnr:=hI hnr;have hn1:(0:Int)<(nr:Int)+1:=by omega
         have hn2:(1:Int)≤(nr:Int)+1:=by omega
         have hn3:(nr:Int)+1≤(cq:Int):=by omega
         have hn4:1≤nr+1:=by omega
         have hn5:nr+1≤cq:=by omega
         have hn6:(1:Int)≤(cq:Int):=by omega
         clear hpok hpc hb16 hXQ hbz hdt hnr;unfold GC.agg at Hck;generalize hR:cmpG p.h.c lo.c=R at*;have HR:=hI hR;clear hR;rcases Int.lt_or_le 0 R with hgt|hle
         ·have hle:¬R≤0:=by omega
          go_upto_region 20 with fail
          refine wpRg HSy.out (qcb wr) (by kernel_rfl) (fun hHeld=>?_)
          refine' tk 0 ?_;(try simp only[tkS]);refine' tk 1 ?_;(try simp only[tkS]);refine' tk 2 ?_;(try simp only[tkS]);refine' tk 3 ?_;(try simp only[tkS]);refine' tk 4 ?_;(try simp only[tkS]);refine' tk 5 ?_;(try simp only[tkS]);refine' tk 6 ?_;(try simp only[tkS]);refine' tk 7 ?_;(try simp only[tkS]);refine' tk 8 ?_;(try simp only[tkS]);refine tk1 9 (fun K hK=>?_)
          go_simp;go_at_call 73;refine(Hck.out _ (qcb wr)).mono ?_
          rintro e5 w9 ⟨rfl,hbq,-⟩;have hb9:=hbq;have Hb9:=hI (qaa (qcb wr) hb9);clear hb9 hbq;refine hK.out _ _ (by exact HSy.out _ (Hb9.out)) (fun hHeld=>?_)
          clear hK K;(try simp only[tkS]);refine' tk 10 ?_;(try simp only[tkS]);refine' tk 11 ?_;(try simp only[tkS]);refine tkD ?_ _
          go_wp2_with fail
          go_meet;exact⟨p::r,by have h:=HXQ.out;rw[List.length_cons,Hnr.out]at h;exact h,by rw[←hq.out.1,Hdt.out,if_neg (show ¬R≤0 by omega)],by have:=hq.out.2;exact this,Hbz.out.via (Hb9.out) Hbz.out.size⟩
         ·have hle2:R≤0:=hle
          go_upto_region 20 with fail
          refine wpRg HSy.out (qcb wr) (by kernel_rfl) (fun hHeld=>?_)
          refine' tk 0 ?_;(try simp only[tkS]);refine' tk 1 ?_;(try simp only[tkS]);refine' tk 2 ?_;(try simp only[tkS]);refine' tk 3 ?_;(try simp only[tkS]);refine' tk 4 ?_;(try simp only[tkS]);refine' tk 5 ?_;(try simp only[tkS]);refine' tk 6 ?_;(try simp only[tkS]);refine' tk 7 ?_;(try simp only[tkS]);refine' tk 8 ?_;(try simp only[tkS]);refine tk1 9 (fun K hK=>?_)
          go_simp;go_at_call 73;refine(Hck.out _ (qcb wr)).mono ?_
          rintro e5 w9 ⟨rfl,hbq,-⟩;have hb9:=hbq;have Hb9:=hI (qaa (qcb wr) hb9);clear hb9 hbq;refine hK.out _ _ (by exact HSy.out _ (Hb9.out)) (fun hHeld=>?_)
          clear hK K;(try simp only[tkS]);refine' tk 10 ?_;(try simp only[tkS]);refine' tk 11 ?_;(try simp only[tkS]);refine tkD ?_ _
          go_wp2_with fail
          generalize hq2:(if cq=1 then some (⟨b,off,none⟩:Addr)else some ⟨b,off+14,none⟩)=aq2;have Hq2:=hI hq2;clear hq2;go_roundw
          case rel=>
           have ht:=qa0.tail HXQ.out;rw[Hq2.out,Hnr.out]at ht;have h1:=hq.out.1;rw[Hdt.out,if_pos (show R≤0 by omega)]at h1;have h2:=hq.out.2;simp only[List.length_cons]at h2;exact⟨r,ht,Hbz.out.via (Hb9.out) Hbz.out.size,h1,by omega⟩
          case measure=>simp
      case rest=>
       obtain⟨XQ,hXQ,hXQ1,hXQ2,hbx2⟩:=hcut
       rename World=>wx1
       have HXQ:=hI hXQ;have HXQ1:=hI (And.intro hXQ1 hXQ2);have Hbx2:=hI hbx2;clear hXQ hXQ1 hXQ2 hbx2;go_upto_block 6 with fail
       go_cut [10]from 65 to 157 (fun xv wx=>∃XQ:List GP,qa0 wS xv XQ∧XQ.map GP.cuts=qa4 CG lo.c (YP.map GP.cuts)∧XQ.length≤YP.length∧Below wx1.heap.size wx1 wx)
       case first=>as_aux_lemma=>
        go_wp2_with fail
        go_loopw [10] (fun xv wz=>∃XQ:List GP,qa0 wS xv XQ∧Below wx1.heap.size wx1 wz∧Hid (qa4 CG lo.c (XQ.map GP.cuts)=qa4 CG lo.c (YP.map GP.cuts)∧XQ.length≤YP.length)) (fun xv _=>match xv with|.slice _ n _=>n|_=>0)
        case atStart=>exact⟨YP,HYP.out,Below.refl _ _,rfl,Nat.le_refl _⟩
        case round=>
         obtain⟨XQ,hXQ,hbz,hq⟩:=hrel;obtain⟨aq,cq,rfl,hcq,hcq2⟩:=hXQ.open;unfold maxLen at hcq2;cases XQ with
         |nil=>
          rw[List.length_nil];have Hbz:=hI hbz;have HXQ:=hI hXQ;clear hXQ hbz;go_upto_region 22 with fail
          refine wp_region_held_drew (S:=(fun _=>True)) (by kernel_rfl) (by exact trivial) (fun hHeld=>?_)
          refine' tk 0 ?_;(try simp only[tkS]);refine' tk 1 ?_;(try simp only[tkS]);refine' tk 2 ?_;(try simp only[tkS]);refine' tk 3 ?_;(try simp only[tkS]);refine' tkU 4 ?_;(try simp only[tkS]);refine' tkU 5 ?_;(try simp only[tkS]);refine' tkU 6 ?_;(try simp only[tkS]);refine' tkU 7 ?_;(try simp only[tkS]);refine' tkU 8 ?_;(try simp only[tkS]);refine' tkU 9 ?_;(try simp only[tkS]);refine' tkU 10 ?_;(try simp only[tkS]);refine' tk 11 ?_;(try simp only[tkS]);refine tkD ?_ _
          go_wp2_with fail
          go_meet;exact⟨[],HXQ.out,hq.out.1,Nat.zero_le _,Hbz.out.via (qcb _) Hbz.out.size⟩
         |cons p r=>
          rw[List.length_cons]at hcq⊢;obtain⟨b,off,pp,rfl,hpp,hpok,hpc⟩:=qa0.at hXQ (Hbw.out.via (qaa Hbx.out (qaa Hbx2.out hbz)) Hbw.out.size) (show 0<(p::r).length by simp);cases hpp
          rw[Nat.zero_mul,Nat.add_zero]at hpc;have hb16:=qb7 HB16.out (qaa Hbx2.out hbz);have HSy:=hI (fun w' (hb:Below wr.heap.size wr w')=>show w'.cell? ⟨b,off+7,none⟩=some (.int .i64 p.h.c.b)∧w'.cell? ⟨b,off+8,none⟩=some (.string p.h.c.s)∧w'.cell? ⟨b,off+9,none⟩=some (.int .i64 p.h.c.d)∧w'.cell? ⟨b,off+10,none⟩=some (.bool p.h.x)∧w'.cell? ⟨b,off+11,none⟩=some (.slice p.h.a p.h.n p.h.cap)∧w'.cell? ⟨b,off+12,none⟩=some (.bool p.h.y)∧w'.cell? ⟨b,off+13,none⟩=some (.slice p.h.e p.h.m p.h.cap2)∧w'.cell? ⟨b16,0,none⟩=some (.int .i64 lo.c.b)∧w'.cell? ⟨b16,1,none⟩=some (.string lo.c.s)∧w'.cell? ⟨b16,2,none⟩=some (.int .i64 lo.c.d)∧w'.cell? ⟨b16,3,none⟩=some (.bool lo.x)∧w'.cell? ⟨b16,4,none⟩=some (.slice lo.a lo.n lo.cap)∧w'.cell? ⟨b16,5,none⟩=some (.bool lo.y)∧w'.cell? ⟨b16,6,none⟩=some (.slice lo.e lo.m lo.cap2)from⟨qab hb hpc.2.2.2.2.2.2.2.1,qab hb hpc.2.2.2.2.2.2.2.2.1,qab hb hpc.2.2.2.2.2.2.2.2.2.1,qab hb hpc.2.2.2.2.2.2.2.2.2.2.1,qab hb hpc.2.2.2.2.2.2.2.2.2.2.2.1,qab hb hpc.2.2.2.2.2.2.2.2.2.2.2.2.1,qab hb hpc.2.2.2.2.2.2.2.2.2.2.2.2.2,qab hb hb16.1,qab hb hb16.2.1,qab hb hb16.2.2.1,qab hb hb16.2.2.2.1,qab hb hb16.2.2.2.2.1,qab hb hb16.2.2.2.2.2.1,qab hb hb16.2.2.2.2.2.2⟩);have Hck:=hI (fun w' (hb:Below wr.heap.size wr w')=>qct p.h lo w' (hpok.2.mono hb) ((Hlk.out.1.mono (qaa Hbx.out (qaa Hbx2.out hbz))).mono hb));have HXQ:=hI hXQ;have Hbz:=hI hbz;have hdt:qa4 CG lo.c ((p::r).map GP.cuts)=if cmpG p.h.c lo.c≤0 then qa4 CG lo.c (r.map GP.cuts)else(p::r).map GP.cuts:=qrs _ _ _
          have Hdt:=hI hdt;generalize hnr:r.length=nr at*;have Hnr:=hI hnr;have hn1:(0:Int)<(nr:Int)+1:=by omega
          have hn2:(1:Int)≤(nr:Int)+1:=by omega
          have hn3:(nr:Int)+1≤(cq:Int):=by omega
          have hn4:1≤nr+1:=by omega
          have hn5:nr+1≤cq:=by omega
          have hn6:(1:Int)≤(cq:Int):=by omega
          clear hpok hpc hb16 hXQ hbz hdt hnr;unfold GC.agg at Hck;generalize hR:cmpG p.h.c lo.c=R at*;have HR:=hI hR;clear hR;rcases Int.lt_or_le 0 R with hgt|hle
          ·have hle:¬R≤0:=by omega
           go_upto_region 22 with fail
           refine wpRg HSy.out (qcb wr) (by kernel_rfl) (fun hHeld=>?_)
           refine' tk 0 ?_;(try simp only[tkS]);refine' tk 1 ?_;(try simp only[tkS]);refine' tk 2 ?_;(try simp only[tkS]);refine' tk 3 ?_;(try simp only[tkS]);refine' tk 4 ?_;(try simp only[tkS]);refine' tk 5 ?_;(try simp only[tkS]);refine' tk 6 ?_;(try simp only[tkS]);refine' tk 7 ?_;(try simp only[tkS]);refine' tk 8 ?_;(try simp only[tkS]);refine tk1 9 (fun K hK=>?_)
           go_simp;go_at_call 73;refine(Hck.out _ (qcb wr)).mono ?_
           rintro e5 w9 ⟨rfl,hbq,-⟩;have hb9:=hbq;have Hb9:=hI (qaa (qcb wr) hb9);clear hb9 hbq;refine hK.out _ _ (by exact HSy.out _ (Hb9.out)) (fun hHeld=>?_)
           clear hK K;(try simp only[tkS]);refine' tk 10 ?_;(try simp only[tkS]);refine' tk 11 ?_;(try simp only[tkS]);refine tkD ?_ _
           go_wp2_with fail
           go_meet;exact⟨p::r,by have h:=HXQ.out;rw[List.length_cons,Hnr.out]at h;exact h,by rw[←hq.out.1,Hdt.out,if_neg (show ¬R≤0 by omega)],by have:=hq.out.2;exact this,Hbz.out.via (Hb9.out) Hbz.out.size⟩
          ·have hle2:R≤0:=hle
           go_upto_region 22 with fail
           refine wpRg HSy.out (qcb wr) (by kernel_rfl) (fun hHeld=>?_)
           refine' tk 0 ?_;(try simp only[tkS]);refine' tk 1 ?_;(try simp only[tkS]);refine' tk 2 ?_;(try simp only[tkS]);refine' tk 3 ?_;(try simp only[tkS]);refine' tk 4 ?_;(try simp only[tkS]);refine' tk 5 ?_;(try simp only[tkS]);refine' tk 6 ?_;(try simp only[tkS]);refine' tk 7 ?_;(try simp only[tkS]);refine' tk 8 ?_;(try simp only[tkS]);refine tk1 9 (fun K hK=>?_)
           go_simp;go_at_call 73;refine(Hck.out _ (qcb wr)).mono ?_
           rintro e5 w9 ⟨rfl,hbq,-⟩;have hb9:=hbq;have Hb9:=hI (qaa (qcb wr) hb9);clear hb9 hbq;refine hK.out _ _ (by exact HSy.out _ (Hb9.out)) (fun hHeld=>?_)
           clear hK K;(try simp only[tkS]);refine' tk 10 ?_;(try simp only[tkS]);refine' tk 11 ?_;(try simp only[tkS]);refine tkD ?_ _
           go_wp2_with fail
           generalize hq2:(if cq=1 then some (⟨b,off,none⟩:Addr)else some ⟨b,off+14,none⟩)=aq2;have Hq2:=hI hq2;clear hq2;go_roundw
           case rel=>
            have ht:=qa0.tail HXQ.out;rw[Hq2.out,Hnr.out]at ht;have h1:=hq.out.1;rw[Hdt.out,if_pos (show R≤0 by omega)]at h1;have h2:=hq.out.2;simp only[List.length_cons]at h2;exact⟨r,ht,Hbz.out.via (Hb9.out) Hbz.out.size,h1,by omega⟩
           case measure=>simp
       case rest=>
        obtain⟨YQ,hYQ,hYQ1,hYQ2,hbx3⟩:=hcut
        rename World=>wx2
        have HYQ:=hI hYQ;have HYQ1:=hI (And.intro hYQ1 hYQ2);have Hbx3:=hI hbx3;clear hYQ hYQ1 hYQ2 hbx3;have HXQ2:=hI (HXQ.out.mono (Hbw.out.via (qaa Hbx.out (qaa Hbx2.out Hbx3.out)) Hbw.out.size));have HYQ2:=hI (HYQ.out.mono (Hbw.out.via (qaa Hbx.out (qaa Hbx2.out Hbx3.out)) Hbw.out.size));have Hb16:=hI (HB16.out.below (qaa Hbx2.out Hbx3.out));have Hlo:=hI (Hlk.out.1.mono (qaa Hbx.out (qaa Hbx2.out Hbx3.out)));obtain⟨aq,cq,rfl,hcq,-⟩:=HXQ2.out.open;obtain⟨ay',cy',rfl,hcy',-⟩:=HYQ2.out.open;have HBx2:=hI (HBS.out.mono (Hbw.out.via (qaa Hbx.out (qaa Hbx2.out Hbx3.out)) Hbw.out.size));go_upto_region 24 with fail
        go_cut [130]from 65 to 157 (fun t wx=>t=.bool (!(keep (begR CG lo.c (XQ.map GP.cuts)) (begR CG lo.c (YQ.map GP.cuts))))∧Below wx2.heap.size (putO o (next s (begR CG lo.c (XQ.map GP.cuts)) (begR CG lo.c (YQ.map GP.cuts))) wx2) wx)
        case first=>as_aux_lemma=>
         rcases XQ with _|⟨p,r⟩
         ·rcases YQ with _|⟨q,t⟩
          ·have hb16:=qb7 Hb16.out (Below.refl _ _)
           rw[List.length_nil];have He1:=hI (show begR CG lo.c (([]:List GP).map GP.cuts)=false from rfl);try rw[List.length_nil]
           have He2:=hI (show begR CG lo.c (([]:List GP).map GP.cuts)=false from rfl);have HSz:=hI (fun w' (hb:Below wx2.heap.size wx2 w')=>show w'.cell? ⟨b16,0,none⟩=some (.int .i64 lo.c.b)∧w'.cell? ⟨b16,1,none⟩=some (.string lo.c.s)∧w'.cell? ⟨b16,2,none⟩=some (.int .i64 lo.c.d)∧w'.cell? ⟨b16,3,none⟩=some (.bool lo.x)∧w'.cell? ⟨b16,4,none⟩=some (.slice lo.a lo.n lo.cap)∧w'.cell? ⟨b16,5,none⟩=some (.bool lo.y)∧w'.cell? ⟨b16,6,none⟩=some (.slice lo.e lo.m lo.cap2)from⟨qab hb hb16.1,qab hb hb16.2.1,qab hb hb16.2.2.1,qab hb hb16.2.2.2.1,qab hb hb16.2.2.2.2.1,qab hb hb16.2.2.2.2.2.1,qab hb hb16.2.2.2.2.2.2⟩);have nhb16:=neO HBx2.out hb16.1;have HSzO:=hI (fun t w' (hb:Below wx2.heap.size (putO o t wx2) w')=>show w'.cell? ⟨b16,0,none⟩=some (.int .i64 lo.c.b)∧w'.cell? ⟨b16,1,none⟩=some (.string lo.c.s)∧w'.cell? ⟨b16,2,none⟩=some (.int .i64 lo.c.d)∧w'.cell? ⟨b16,3,none⟩=some (.bool lo.x)∧w'.cell? ⟨b16,4,none⟩=some (.slice lo.a lo.n lo.cap)∧w'.cell? ⟨b16,5,none⟩=some (.bool lo.y)∧w'.cell? ⟨b16,6,none⟩=some (.slice lo.e lo.m lo.cap2)from⟨qae hb hb16.1 nhb16,qae hb hb16.2.1 nhb16,qae hb hb16.2.2.1 nhb16,qae hb hb16.2.2.2.1 nhb16,qae hb hb16.2.2.2.2.1 nhb16,qae hb hb16.2.2.2.2.2.1 nhb16,qae hb hb16.2.2.2.2.2.2 nhb16⟩);clear nhb16;clear hb16;refine wpRg HSz.out (qcb wx2) (by kernel_rfl) (fun hHeld=>?_)
           refine' tk 0 ?_;(try simp only[tkS]);refine' tk 1 ?_;(try simp only[tkS]);refine' tk 2 ?_;(try simp only[tkS]);refine' tk 3 ?_;(try simp only[tkS]);refine' tk 4 ?_;(try simp only[tkS]);refine' tkU 5 ?_;(try simp only[tkS]);refine' tkU 6 ?_;(try simp only[tkS]);refine' tkU 7 ?_;(try simp only[tkS]);refine' tkU 8 ?_;(try simp only[tkS]);refine' tkU 9 ?_;(try simp only[tkS]);refine' tkU 10 ?_;(try simp only[tkS]);refine' tkU 11 ?_;(try simp only[tkS]);refine' tk 12 ?_;(try simp only[tkS]);refine' tk 13 ?_;(try simp only[tkS]);refine' tk 14 ?_;(try simp only[tkS]);refine' tk 15 ?_;(try simp only[tkS]);refine' tk 16 ?_;(try simp only[tkS]);refine' tkU 17 ?_;(try simp only[tkS]);refine' tkU 18 ?_;(try simp only[tkS]);refine' tkU 19 ?_;(try simp only[tkS]);refine' tkU 20 ?_;(try simp only[tkS]);refine' tkU 21 ?_;(try simp only[tkS]);refine' tkU 22 ?_;(try simp only[tkS]);refine' tkU 23 ?_;(try simp only[tkS]);refine' tk 24 ?_;(try simp only[tkS]);refine tk1 25 (fun K hK=>?_)
           go_simp;go_at_fn g;refine(HKeep.out s false false _ (HBx2.out.mono (qcb wx2))).mono ?_
           rintro e5 w25 ⟨rfl,hb25⟩;have Hb25:=hI (viaO (qcb wx2) hb25 (qcb wx2).size);clear hb25;refine hK.out _ _ (by exact HSzO.out _ _ (Hb25.out)) (fun hHeld=>?_)
           clear hK K;(try simp only[tkS]);refine' tk 26 ?_;(try simp only[tkS]);refine tkD ?_ _
           go_wp2_with fail
           go_meet;rw[He1.out];try rw[He2.out]
           exact⟨rfl,Hb25.out⟩
          ·have hb16:=qb7 Hb16.out (Below.refl _ _)
           rw[List.length_nil];have He1:=hI (show begR CG lo.c (([]:List GP).map GP.cuts)=false from rfl);obtain⟨b2,o2,qq,rfl,hqq,hqok,hqc⟩:=qa0.at HYQ2.out (Below.refl _ _) (show 0<(q::t).length by simp);cases hqq
           rw[Nat.zero_mul,Nat.add_zero]at hqc;have HC2:=hI (fun w' (hb:Below wx2.heap.size wx2 w')=>qct q.l lo w' (hqok.1.mono hb) (Hlo.out.mono hb));unfold GC.agg at HC2;have he2:begR CG lo.c ((q::t).map GP.cuts)=decide (cmpG q.l.c lo.c≤0):=qn0 _ _ _;generalize cmpG q.l.c lo.c=R2 at*;have He2:=hI he2;clear he2;generalize hnr2:(q::t).length=nr2 at*;have hn21:(0:Int)<(nr2:Int):=by rw[←hnr2,List.length_cons];omega
           have hn22:0<nr2:=by omega
           clear hnr2 hqok;have HSz:=hI (fun w' (hb:Below wx2.heap.size wx2 w')=>show w'.cell? ⟨b16,0,none⟩=some (.int .i64 lo.c.b)∧w'.cell? ⟨b16,1,none⟩=some (.string lo.c.s)∧w'.cell? ⟨b16,2,none⟩=some (.int .i64 lo.c.d)∧w'.cell? ⟨b16,3,none⟩=some (.bool lo.x)∧w'.cell? ⟨b16,4,none⟩=some (.slice lo.a lo.n lo.cap)∧w'.cell? ⟨b16,5,none⟩=some (.bool lo.y)∧w'.cell? ⟨b16,6,none⟩=some (.slice lo.e lo.m lo.cap2)∧w'.cell? ⟨b2,o2,none⟩=some (.int .i64 q.l.c.b)∧w'.cell? ⟨b2,o2+1,none⟩=some (.string q.l.c.s)∧w'.cell? ⟨b2,o2+2,none⟩=some (.int .i64 q.l.c.d)∧w'.cell? ⟨b2,o2+3,none⟩=some (.bool q.l.x)∧w'.cell? ⟨b2,o2+4,none⟩=some (.slice q.l.a q.l.n q.l.cap)∧w'.cell? ⟨b2,o2+5,none⟩=some (.bool q.l.y)∧w'.cell? ⟨b2,o2+6,none⟩=some (.slice q.l.e q.l.m q.l.cap2)from⟨qab hb hb16.1,qab hb hb16.2.1,qab hb hb16.2.2.1,qab hb hb16.2.2.2.1,qab hb hb16.2.2.2.2.1,qab hb hb16.2.2.2.2.2.1,qab hb hb16.2.2.2.2.2.2,qab hb hqc.1,qab hb hqc.2.1,qab hb hqc.2.2.1,qab hb hqc.2.2.2.1,qab hb hqc.2.2.2.2.1,qab hb hqc.2.2.2.2.2.1,qab hb hqc.2.2.2.2.2.2.1⟩);have nhb16:=neO HBx2.out hb16.1;have nhqc:=neO HBx2.out hqc.1;have HSzO:=hI (fun t w' (hb:Below wx2.heap.size (putO o t wx2) w')=>show w'.cell? ⟨b16,0,none⟩=some (.int .i64 lo.c.b)∧w'.cell? ⟨b16,1,none⟩=some (.string lo.c.s)∧w'.cell? ⟨b16,2,none⟩=some (.int .i64 lo.c.d)∧w'.cell? ⟨b16,3,none⟩=some (.bool lo.x)∧w'.cell? ⟨b16,4,none⟩=some (.slice lo.a lo.n lo.cap)∧w'.cell? ⟨b16,5,none⟩=some (.bool lo.y)∧w'.cell? ⟨b16,6,none⟩=some (.slice lo.e lo.m lo.cap2)∧w'.cell? ⟨b2,o2,none⟩=some (.int .i64 q.l.c.b)∧w'.cell? ⟨b2,o2+1,none⟩=some (.string q.l.c.s)∧w'.cell? ⟨b2,o2+2,none⟩=some (.int .i64 q.l.c.d)∧w'.cell? ⟨b2,o2+3,none⟩=some (.bool q.l.x)∧w'.cell? ⟨b2,o2+4,none⟩=some (.slice q.l.a q.l.n q.l.cap)∧w'.cell? ⟨b2,o2+5,none⟩=some (.bool q.l.y)∧w'.cell? ⟨b2,o2+6,none⟩=some (.slice q.l.e q.l.m q.l.cap2)from⟨qae hb hb16.1 nhb16,qae hb hb16.2.1 nhb16,qae hb hb16.2.2.1 nhb16,qae hb hb16.2.2.2.1 nhb16,qae hb hb16.2.2.2.2.1 nhb16,qae hb hb16.2.2.2.2.2.1 nhb16,qae hb hb16.2.2.2.2.2.2 nhb16,qae hb hqc.1 nhqc,qae hb hqc.2.1 nhqc,qae hb hqc.2.2.1 nhqc,qae hb hqc.2.2.2.1 nhqc,qae hb hqc.2.2.2.2.1 nhqc,qae hb hqc.2.2.2.2.2.1 nhqc,qae hb hqc.2.2.2.2.2.2.1 nhqc⟩)
           clear nhb16 nhqc;clear hb16 hqc;refine wpRg HSz.out (qcb wx2) (by kernel_rfl) (fun hHeld=>?_)
           refine' tk 0 ?_;(try simp only[tkS]);refine' tk 1 ?_;(try simp only[tkS]);refine' tk 2 ?_;(try simp only[tkS]);refine' tk 3 ?_;(try simp only[tkS]);refine' tk 4 ?_;(try simp only[tkS]);refine' tkU 5 ?_;(try simp only[tkS]);refine' tkU 6 ?_;(try simp only[tkS]);refine' tkU 7 ?_;(try simp only[tkS]);refine' tkU 8 ?_;(try simp only[tkS]);refine' tkU 9 ?_;(try simp only[tkS]);refine' tkU 10 ?_;(try simp only[tkS]);refine' tkU 11 ?_;(try simp only[tkS]);refine' tk 12 ?_;(try simp only[tkS]);refine' tk 13 ?_;(try simp only[tkS]);refine' tk 14 ?_;(try simp only[tkS]);refine' tk 15 ?_;(try simp only[tkS]);refine' tk 16 ?_;(try simp only[tkS]);refine' tk 17 ?_;(try simp only[tkS]);refine' tk 18 ?_;(try simp only[tkS]);refine' tk 19 ?_;(try simp only[tkS]);refine' tk 20 ?_;(try simp only[tkS]);refine' tk 21 ?_;(try simp only[tkS]);refine tk1 22 (fun K hK=>?_)
           go_simp;go_at_call 73;refine(HC2.out _ (qcb wx2)).mono ?_
           rintro e5 w22 ⟨rfl,hbq,-⟩;have hb22:=hbq;have Hb22:=hI (qaa (qcb wx2) hb22);clear hb22 hbq;refine hK.out _ _ (by exact HSz.out _ (Hb22.out)) (fun hHeld=>?_)
           clear hK K;(try simp only[tkS]);refine' tk 23 ?_;(try simp only[tkS]);refine' tk 24 ?_;(try simp only[tkS]);refine tk1 25 (fun K hK=>?_)
           go_simp;go_at_fn g;refine(HKeep.out s false (decide (R2≤0)) _ (HBx2.out.mono (Hb22.out))).mono ?_
           rintro e5 w25 ⟨rfl,hb25⟩;have Hb25:=hI (viaO (Hb22.out) hb25 (Hb22.out).size);clear hb25;refine hK.out _ _ (by exact HSzO.out _ _ (Hb25.out)) (fun hHeld=>?_)
           clear hK K;(try simp only[tkS]);refine' tk 26 ?_;(try simp only[tkS]);refine tkD ?_ _
           go_wp2_with fail
           go_meet;rw[He1.out];try rw[He2.out]
           exact⟨rfl,Hb25.out⟩
         ·rcases YQ with _|⟨q,t⟩
          ·have hb16:=qb7 Hb16.out (Below.refl _ _)
           obtain⟨b1,o1,pp,rfl,hpp,hpok,hpc⟩:=qa0.at HXQ2.out (Below.refl _ _) (show 0<(p::r).length by simp);cases hpp
           rw[Nat.zero_mul,Nat.add_zero]at hpc;have HC1:=hI (fun w' (hb:Below wx2.heap.size wx2 w')=>qct p.l lo w' (hpok.1.mono hb) (Hlo.out.mono hb));unfold GC.agg at HC1;have he1:begR CG lo.c ((p::r).map GP.cuts)=decide (cmpG p.l.c lo.c≤0):=qn0 _ _ _;generalize cmpG p.l.c lo.c=R1 at*;have He1:=hI he1;clear he1;generalize hnr1:(p::r).length=nr1 at*;have hn11:(0:Int)<(nr1:Int):=by rw[←hnr1,List.length_cons];omega
           have hn12:0<nr1:=by omega
           clear hnr1 hpok;try rw[List.length_nil]
           have He2:=hI (show begR CG lo.c (([]:List GP).map GP.cuts)=false from rfl);have HSz:=hI (fun w' (hb:Below wx2.heap.size wx2 w')=>show w'.cell? ⟨b16,0,none⟩=some (.int .i64 lo.c.b)∧w'.cell? ⟨b16,1,none⟩=some (.string lo.c.s)∧w'.cell? ⟨b16,2,none⟩=some (.int .i64 lo.c.d)∧w'.cell? ⟨b16,3,none⟩=some (.bool lo.x)∧w'.cell? ⟨b16,4,none⟩=some (.slice lo.a lo.n lo.cap)∧w'.cell? ⟨b16,5,none⟩=some (.bool lo.y)∧w'.cell? ⟨b16,6,none⟩=some (.slice lo.e lo.m lo.cap2)∧w'.cell? ⟨b1,o1,none⟩=some (.int .i64 p.l.c.b)∧w'.cell? ⟨b1,o1+1,none⟩=some (.string p.l.c.s)∧w'.cell? ⟨b1,o1+2,none⟩=some (.int .i64 p.l.c.d)∧w'.cell? ⟨b1,o1+3,none⟩=some (.bool p.l.x)∧w'.cell? ⟨b1,o1+4,none⟩=some (.slice p.l.a p.l.n p.l.cap)∧w'.cell? ⟨b1,o1+5,none⟩=some (.bool p.l.y)∧w'.cell? ⟨b1,o1+6,none⟩=some (.slice p.l.e p.l.m p.l.cap2)from⟨qab hb hb16.1,qab hb hb16.2.1,qab hb hb16.2.2.1,qab hb hb16.2.2.2.1,qab hb hb16.2.2.2.2.1,qab hb hb16.2.2.2.2.2.1,qab hb hb16.2.2.2.2.2.2,qab hb hpc.1,qab hb hpc.2.1,qab hb hpc.2.2.1,qab hb hpc.2.2.2.1,qab hb hpc.2.2.2.2.1,qab hb hpc.2.2.2.2.2.1,qab hb hpc.2.2.2.2.2.2.1⟩);have nhb16:=neO HBx2.out hb16.1;have nhpc:=neO HBx2.out hpc.1;have HSzO:=hI (fun t w' (hb:Below wx2.heap.size (putO o t wx2) w')=>show w'.cell? ⟨b16,0,none⟩=some (.int .i64 lo.c.b)∧w'.cell? ⟨b16,1,none⟩=some (.string lo.c.s)∧w'.cell? ⟨b16,2,none⟩=some (.int .i64 lo.c.d)∧w'.cell? ⟨b16,3,none⟩=some (.bool lo.x)∧w'.cell? ⟨b16,4,none⟩=some (.slice lo.a lo.n lo.cap)∧w'.cell? ⟨b16,5,none⟩=some (.bool lo.y)∧w'.cell? ⟨b16,6,none⟩=some (.slice lo.e lo.m lo.cap2)∧w'.cell? ⟨b1,o1,none⟩=some (.int .i64 p.l.c.b)∧w'.cell? ⟨b1,o1+1,none⟩=some (.string p.l.c.s)∧w'.cell? ⟨b1,o1+2,none⟩=some (.int .i64 p.l.c.d)∧w'.cell? ⟨b1,o1+3,none⟩=some (.bool p.l.x)∧w'.cell? ⟨b1,o1+4,none⟩=some (.slice p.l.a p.l.n p.l.cap)∧w'.cell? ⟨b1,o1+5,none⟩=some (.bool p.l.y)∧w'.cell? ⟨b1,o1+6,none⟩=some (.slice p.l.e p.l.m p.l.cap2)from⟨qae hb hb16.1 nhb16,qae hb hb16.2.1 nhb16,qae hb hb16.2.2.1 nhb16,qae hb hb16.2.2.2.1 nhb16,qae hb hb16.2.2.2.2.1 nhb16,qae hb hb16.2.2.2.2.2.1 nhb16,qae hb hb16.2.2.2.2.2.2 nhb16,qae hb hpc.1 nhpc,qae hb hpc.2.1 nhpc,qae hb hpc.2.2.1 nhpc,qae hb hpc.2.2.2.1 nhpc,qae hb hpc.2.2.2.2.1 nhpc,qae hb hpc.2.2.2.2.2.1 nhpc,qae hb hpc.2.2.2.2.2.2.1 nhpc⟩)
           clear nhb16 nhpc;clear hb16 hpc;refine wpRg HSz.out (qcb wx2) (by kernel_rfl) (fun hHeld=>?_)
           refine' tk 0 ?_;(try simp only[tkS]);refine' tk 1 ?_;(try simp only[tkS]);refine' tk 2 ?_;(try simp only[tkS]);refine' tk 3 ?_;(try simp only[tkS]);refine' tk 4 ?_;(try simp only[tkS]);refine' tk 5 ?_;(try simp only[tkS]);refine' tk 6 ?_;(try simp only[tkS]);refine' tk 7 ?_;(try simp only[tkS]);refine' tk 8 ?_;(try simp only[tkS]);refine' tk 9 ?_;(try simp only[tkS]);refine' tk 13 ?_;(try simp only[tkS]);refine' tk 14 ?_;(try simp only[tkS]);refine' tk 15 ?_;(try simp only[tkS]);refine tk1 10 (fun K hK=>?_)
           go_simp;go_at_call 73;refine(HC1.out _ (qcb wx2)).mono ?_
           rintro e5 w10 ⟨rfl,hbq,-⟩;have hb10:=hbq;have Hb10:=hI (qaa (qcb wx2) hb10);clear hb10 hbq;refine hK.out _ _ (by exact HSz.out _ (Hb10.out)) (fun hHeld=>?_)
           clear hK K;(try simp only[tkS]);refine' tk 11 ?_;(try simp only[tkS]);refine' tk 12 ?_;(try simp only[tkS]);refine' tk 16 ?_;(try simp only[tkS]);refine' tkU 17 ?_;(try simp only[tkS]);refine' tkU 18 ?_;(try simp only[tkS]);refine' tkU 19 ?_;(try simp only[tkS]);refine' tkU 20 ?_;(try simp only[tkS]);refine' tkU 21 ?_;(try simp only[tkS]);refine' tkU 22 ?_;(try simp only[tkS]);refine' tkU 23 ?_;(try simp only[tkS]);refine' tk 24 ?_;(try simp only[tkS]);refine tk1 25 (fun K hK=>?_)
           go_simp;go_at_fn g;refine(HKeep.out s (decide (R1≤0)) false _ (HBx2.out.mono (Hb10.out))).mono ?_
           rintro e5 w25 ⟨rfl,hb25⟩;have Hb25:=hI (viaO (Hb10.out) hb25 (Hb10.out).size);clear hb25;refine hK.out _ _ (by exact HSzO.out _ _ (Hb25.out)) (fun hHeld=>?_)
           clear hK K;(try simp only[tkS]);refine' tk 26 ?_;(try simp only[tkS]);refine tkD ?_ _
           go_wp2_with fail
           go_meet;rw[He1.out];try rw[He2.out]
           exact⟨rfl,Hb25.out⟩
          ·have hb16:=qb7 Hb16.out (Below.refl _ _)
           obtain⟨b1,o1,pp,rfl,hpp,hpok,hpc⟩:=qa0.at HXQ2.out (Below.refl _ _) (show 0<(p::r).length by simp);cases hpp
           rw[Nat.zero_mul,Nat.add_zero]at hpc;have HC1:=hI (fun w' (hb:Below wx2.heap.size wx2 w')=>qct p.l lo w' (hpok.1.mono hb) (Hlo.out.mono hb));unfold GC.agg at HC1;have he1:begR CG lo.c ((p::r).map GP.cuts)=decide (cmpG p.l.c lo.c≤0):=qn0 _ _ _;generalize cmpG p.l.c lo.c=R1 at*;have He1:=hI he1;clear he1;generalize hnr1:(p::r).length=nr1 at*;have hn11:(0:Int)<(nr1:Int):=by rw[←hnr1,List.length_cons];omega
           have hn12:0<nr1:=by omega
           clear hnr1 hpok;obtain⟨b2,o2,qq,rfl,hqq,hqok,hqc⟩:=qa0.at HYQ2.out (Below.refl _ _) (show 0<(q::t).length by simp);cases hqq
           rw[Nat.zero_mul,Nat.add_zero]at hqc;have HC2:=hI (fun w' (hb:Below wx2.heap.size wx2 w')=>qct q.l lo w' (hqok.1.mono hb) (Hlo.out.mono hb));unfold GC.agg at HC2;have he2:begR CG lo.c ((q::t).map GP.cuts)=decide (cmpG q.l.c lo.c≤0):=qn0 _ _ _;generalize cmpG q.l.c lo.c=R2 at*;have He2:=hI he2;clear he2;generalize hnr2:(q::t).length=nr2 at*;have hn21:(0:Int)<(nr2:Int):=by rw[←hnr2,List.length_cons];omega
           have hn22:0<nr2:=by omega
           clear hnr2 hqok;have HSz:=hI (fun w' (hb:Below wx2.heap.size wx2 w')=>show w'.cell? ⟨b16,0,none⟩=some (.int .i64 lo.c.b)∧w'.cell? ⟨b16,1,none⟩=some (.string lo.c.s)∧w'.cell? ⟨b16,2,none⟩=some (.int .i64 lo.c.d)∧w'.cell? ⟨b16,3,none⟩=some (.bool lo.x)∧w'.cell? ⟨b16,4,none⟩=some (.slice lo.a lo.n lo.cap)∧w'.cell? ⟨b16,5,none⟩=some (.bool lo.y)∧w'.cell? ⟨b16,6,none⟩=some (.slice lo.e lo.m lo.cap2)∧w'.cell? ⟨b1,o1,none⟩=some (.int .i64 p.l.c.b)∧w'.cell? ⟨b1,o1+1,none⟩=some (.string p.l.c.s)∧w'.cell? ⟨b1,o1+2,none⟩=some (.int .i64 p.l.c.d)∧w'.cell? ⟨b1,o1+3,none⟩=some (.bool p.l.x)∧w'.cell? ⟨b1,o1+4,none⟩=some (.slice p.l.a p.l.n p.l.cap)∧w'.cell? ⟨b1,o1+5,none⟩=some (.bool p.l.y)∧w'.cell? ⟨b1,o1+6,none⟩=some (.slice p.l.e p.l.m p.l.cap2)∧w'.cell? ⟨b2,o2,none⟩=some (.int .i64 q.l.c.b)∧w'.cell? ⟨b2,o2+1,none⟩=some (.string q.l.c.s)∧w'.cell? ⟨b2,o2+2,none⟩=some (.int .i64 q.l.c.d)∧w'.cell? ⟨b2,o2+3,none⟩=some (.bool q.l.x)∧w'.cell? ⟨b2,o2+4,none⟩=some (.slice q.l.a q.l.n q.l.cap)∧w'.cell? ⟨b2,o2+5,none⟩=some (.bool q.l.y)∧w'.cell? ⟨b2,o2+6,none⟩=some (.slice q.l.e q.l.m q.l.cap2)from⟨qab hb hb16.1,qab hb hb16.2.1,qab hb hb16.2.2.1,qab hb hb16.2.2.2.1,qab hb hb16.2.2.2.2.1,qab hb hb16.2.2.2.2.2.1,qab hb hb16.2.2.2.2.2.2,qab hb hpc.1,qab hb hpc.2.1,qab hb hpc.2.2.1,qab hb hpc.2.2.2.1,qab hb hpc.2.2.2.2.1,qab hb hpc.2.2.2.2.2.1,qab hb hpc.2.2.2.2.2.2.1,qab hb hqc.1,qab hb hqc.2.1,qab hb hqc.2.2.1,qab hb hqc.2.2.2.1,qab hb hqc.2.2.2.2.1,qab hb hqc.2.2.2.2.2.1,qab hb hqc.2.2.2.2.2.2.1⟩);have nhb16:=neO HBx2.out hb16.1;have nhpc:=neO HBx2.out hpc.1;have nhqc:=neO HBx2.out hqc.1;have HSzO:=hI (fun t w' (hb:Below wx2.heap.size (putO o t wx2) w')=>show w'.cell? ⟨b16,0,none⟩=some (.int .i64 lo.c.b)∧w'.cell? ⟨b16,1,none⟩=some (.string lo.c.s)∧w'.cell? ⟨b16,2,none⟩=some (.int .i64 lo.c.d)∧w'.cell? ⟨b16,3,none⟩=some (.bool lo.x)∧w'.cell? ⟨b16,4,none⟩=some (.slice lo.a lo.n lo.cap)∧w'.cell? ⟨b16,5,none⟩=some (.bool lo.y)∧w'.cell? ⟨b16,6,none⟩=some (.slice lo.e lo.m lo.cap2)∧w'.cell? ⟨b1,o1,none⟩=some (.int .i64 p.l.c.b)∧w'.cell? ⟨b1,o1+1,none⟩=some (.string p.l.c.s)∧w'.cell? ⟨b1,o1+2,none⟩=some (.int .i64 p.l.c.d)∧w'.cell? ⟨b1,o1+3,none⟩=some (.bool p.l.x)∧w'.cell? ⟨b1,o1+4,none⟩=some (.slice p.l.a p.l.n p.l.cap)∧w'.cell? ⟨b1,o1+5,none⟩=some (.bool p.l.y)∧w'.cell? ⟨b1,o1+6,none⟩=some (.slice p.l.e p.l.m p.l.cap2)∧w'.cell? ⟨b2,o2,none⟩=some (.int .i64 q.l.c.b)∧w'.cell? ⟨b2,o2+1,none⟩=some (.string q.l.c.s)∧w'.cell? ⟨b2,o2+2,none⟩=some (.int .i64 q.l.c.d)∧w'.cell? ⟨b2,o2+3,none⟩=some (.bool q.l.x)∧w'.cell? ⟨b2,o2+4,none⟩=some (.slice q.l.a q.l.n q.l.cap)∧w'.cell? ⟨b2,o2+5,none⟩=some (.bool q.l.y)∧w'.cell? ⟨b2,o2+6,none⟩=some (.slice q.l.e q.l.m q.l.cap2)from⟨qae hb hb16.1 nhb16,qae hb hb16.2.1 nhb16,qae hb hb16.2.2.1 nhb16,qae hb hb16.2.2.2.1 nhb16,qae hb hb16.2.2.2.2.1 nhb16,qae hb hb16.2.2.2.2.2.1 nhb16,qae hb hb16.2.2.2.2.2.2 nhb16,qae hb hpc.1 nhpc,qae hb hpc.2.1 nhpc,qae hb hpc.2.2.1 nhpc,qae hb hpc.2.2.2.1 nhpc,qae hb hpc.2.2.2.2.1 nhpc,qae hb hpc.2.2.2.2.2.1 nhpc,qae hb hpc.2.2.2.2.2.2.1 nhpc,qae hb hqc.1 nhqc,qae hb hqc.2.1 nhqc,qae hb hqc.2.2.1 nhqc,qae hb hqc.2.2.2.1 nhqc,qae hb hqc.2.2.2.2.1 nhqc,qae hb hqc.2.2.2.2.2.1 nhqc,qae hb hqc.2.2.2.2.2.2.1 nhqc⟩)
           clear nhb16 nhpc nhqc;clear hb16 hpc hqc;refine wpRg HSz.out (qcb wx2) (by kernel_rfl) (fun hHeld=>?_)
           refine' tk 0 ?_;(try simp only[tkS]);refine' tk 1 ?_;(try simp only[tkS]);refine' tk 2 ?_;(try simp only[tkS]);refine' tk 3 ?_;(try simp only[tkS]);refine' tk 4 ?_;(try simp only[tkS]);refine' tk 5 ?_;(try simp only[tkS]);refine' tk 6 ?_;(try simp only[tkS]);refine' tk 7 ?_;(try simp only[tkS]);refine' tk 8 ?_;(try simp only[tkS]);refine' tk 9 ?_;(try simp only[tkS]);refine' tk 13 ?_;(try simp only[tkS]);refine' tk 14 ?_;(try simp only[tkS]);refine' tk 15 ?_;(try simp only[tkS]);refine tk1 10 (fun K hK=>?_)
           go_simp;go_at_call 73;refine(HC1.out _ (qcb wx2)).mono ?_
           rintro e5 w10 ⟨rfl,hbq,-⟩;have hb10:=hbq;have Hb10:=hI (qaa (qcb wx2) hb10);clear hb10 hbq;refine hK.out _ _ (by exact HSz.out _ (Hb10.out)) (fun hHeld=>?_)
           clear hK K;(try simp only[tkS]);refine' tk 11 ?_;(try simp only[tkS]);refine' tk 12 ?_;(try simp only[tkS]);refine' tk 16 ?_;(try simp only[tkS]);refine' tk 17 ?_;(try simp only[tkS]);refine' tk 18 ?_;(try simp only[tkS]);refine' tk 19 ?_;(try simp only[tkS]);refine' tk 20 ?_;(try simp only[tkS]);refine' tk 21 ?_;(try simp only[tkS]);refine tk1 22 (fun K hK=>?_)
           go_simp;go_at_call 73;refine(HC2.out _ (Hb10.out)).mono ?_
           rintro e5 w22 ⟨rfl,hbq,-⟩;have hb22:=hbq;have Hb22:=hI (qaa (Hb10.out) hb22);clear hb22 hbq;refine hK.out _ _ (by exact HSz.out _ (Hb22.out)) (fun hHeld=>?_)
           clear hK K;(try simp only[tkS]);refine' tk 23 ?_;(try simp only[tkS]);refine' tk 24 ?_;(try simp only[tkS]);refine tk1 25 (fun K hK=>?_)
           go_simp;go_at_fn g;refine(HKeep.out s (decide (R1≤0)) (decide (R2≤0)) _ (HBx2.out.mono (Hb22.out))).mono ?_
           rintro e5 w25 ⟨rfl,hb25⟩;have Hb25:=hI (viaO (Hb22.out) hb25 (Hb22.out).size);clear hb25;refine hK.out _ _ (by exact HSzO.out _ _ (Hb25.out)) (fun hHeld=>?_)
           clear hK K;(try simp only[tkS]);refine' tk 26 ?_;(try simp only[tkS]);refine tkD ?_ _
           go_wp2_with fail
           go_meet;rw[He1.out];try rw[He2.out]
           exact⟨rfl,Hb25.out⟩
        case rest=>
         obtain⟨rfl,hbx4⟩:=hcut
         rename World=>wx3
         have HsT:=hI (qpd HPd.out HXQ1.out.1 HYQ1.out.1 hinv.out.2.2.2.2.2.2);generalize next s (begR CG lo.c (XQ.map GP.cuts)) (begR CG lo.c (YQ.map GP.cuts))=s' at*;have Hbt:=hI (qaa Hbx.out (qaa Hbx2.out Hbx3.out));have HbW:=hI (qh4 hbx4);obtain⟨wT,hwT⟩:∃W,W=putO o s' w7:=⟨_,rfl⟩
         have HwT:=hI hwT;have HST:=hI (show putO o s' wS=wT by rw[hwT,HwS.out];exact qs2 HB7.out s s');have hT:wT.heap.size=B7:=by rw[hwT,qdg];exact HE7.out
         have Hown3:=hI (qaf (qs6 (qaf Hown.out Hbt.out) HF7.out s') HbW.out);have Hb73:=hI (show Below wT.heap.size wT wx3 by have h:=viaO (Hbw.out.via Hbt.out Hbw.out.size) hbx4 (Nat.le_trans Hbw.out.size Hbt.out.size);rw[HST.out]at h;rw[hT,←HES.out];exact h);have HXT:=hI (show qa0 wT _ XQ by rw[←HST.out];exact qa0.putO HXQ.out HBS.out s');have HYT:=hI (show qa0 wT _ YQ by rw[←HST.out];exact qa0.putO HYQ.out HBS.out s');have Hc16:=hI ((Blk.putO Hb16.out HBx2.out (by decide) s').below HbW.out);have Hc17:=hI ((Blk.putO (HB17.out.below (qaa Hbx2.out Hbx3.out)) HBx2.out (by decide) s').below HbW.out);have Hlk3:=hI (And.intro ((GC.ok.putO Hlo.out HBx2.out s').mono HbW.out) ((GC.ok.putO (Hlk.out.2.mono Hbt.out) HBx2.out s').mono HbW.out));have HOk:=hI (fun(p:GP) (h:p.ok wr)=>(GP.ok.putO (h.mono Hbt.out) HBx2.out s').mono HbW.out);have Hst:=hI (qpe HPd.out HXQ1.out.1 HYQ1.out.1 hinv.out.2.2.2.2.2.1);clear hwT;subst hT;have hXl:XQ.length≤300:=Nat.le_trans HXQ1.out.2 hinv.out.2.2.1;have hYl:YQ.length≤300:=Nat.le_trans HYQ1.out.2 hinv.out.2.2.2.1;have Hlens:=hI (And.intro hXl hYl);have hnj:=hinv.out.2.1;generalize keep (begR CG lo.c (XQ.map GP.cuts)) (begR CG lo.c (YQ.map GP.cuts))=kp at*;clear hXl hYl hbx4;cases kp
         ·have hkt:(!false)=true:=rfl
          go_wp2_with fail
          go_roundw
          case rel=>refine⟨wT,s',j+1,nO,XQ,YQ,OP,by omega,by go_num,HwT.out,HXT.out,HYT.out,Hown3.out,Hb73.out,hinv.out.1,by omega,Hlens.out.1,Hlens.out.2,fun p hp=>HOk.out p (hinv.out.2.2.2.2.1 p hp),Hst.out,HsT.out⟩
          case measure=>simp[intOf]<;>omega
         ·have hkf:(!true)=false:=rfl
          obtain⟨ao,co',rfl,hco',-⟩:=qas Hown3.out;have hm1:IntKind.i64.wrap (-1:Int)=-1:=by decide
          rcases nO with _|mO
          ·have hO0:OP=[]:=List.length_eq_zero_iff.1 hinv.out.1
           have Hst2:=hI (show runR CG keep (P.drop (j+1)) (XQ.map GP.cuts) (YQ.map GP.cuts) (OP.map GP.cuts++[(lo.c,hi.c)])=F by rw[←Hst.out,hO0];rfl);go_upto_region 26 with fail
           refine wp_region_held_drew (S:=(fun _=>True)) (by kernel_rfl) (by exact trivial) (fun hHeld=>?_)
           refine' tk 0 ?_;(try simp only[tkS]);refine' tk 1 ?_;(try simp only[tkS]);refine' tk 2 ?_;(try simp only[tkS]);refine' tkU 3 ?_;(try simp only[tkS]);refine' tkU 4 ?_;(try simp only[tkS]);refine' tkU 5 ?_;(try simp only[tkS]);refine' tkU 6 ?_;(try simp only[tkS]);refine' tkU 7 ?_;(try simp only[tkS]);refine' tkU 8 ?_;(try simp only[tkS]);refine' tkU 9 ?_;(try simp only[tkS]);refine' tkU 10 ?_;(try simp only[tkS]);refine' tk 11 ?_;(try simp only[tkS]);refine tkD ?_ _
           have Hbq0:=hI (qc6 wx3);have Hbq:=hI (qcb wx3);have hp16:=qb7 (Hc16.out.below Hbq0.out) (Below.refl _ _);obtain⟨x0,x1,x2,x3,x4,x5,x6⟩:=hp16;have hp17:=qb7 (Hc17.out.below Hbq0.out) (Below.refl _ _);obtain⟨y0,y1,y2,y3,y4,y5,y6⟩:=hp17;have Hb74:=hI (Hb73.out.via Hbq.out Hb73.out.size);have Hown4:=hI (qaf Hown3.out Hbq.out)
           go_wp2_with (at_builtin;refine qcv EP (by decide) (GP.row (⟨lo,hi⟩:GP)) rfl _ _ rfl wT.heap.size _ _ _ rfl rfl Hown4.out rfl (qfw (⟨lo,hi⟩:GP)) (by omega) (by decide) Hb74.out.size ?_;intro v' w9 hown' hg';have Hbw9:=hI (qau Hb74.out Hown4.out hg' Hb74.out.size);have Hown9:=hI hown';have Hg9:=hI hg';clear hown' hg')
           go_roundw
           case rel=>
            refine⟨wT,s',j+1,0+1,XQ,YQ,OP++[(⟨lo,hi⟩:GP)],by omega,by go_num,HwT.out,HXT.out,HYT.out,by have:=Hown9.out;rw[qb5]at this;exact this,Hbw9.out,by rw[List.length_append,hinv.out.1];rfl,by omega,Hlens.out.1,Hlens.out.2,?_,?_,HsT.out⟩
            ·intro q hq
             rcases List.mem_append.1 hq with h|h
             ·exact((HOk.out q (hinv.out.2.2.2.2.1 q h)).mono Hbq.out).app Hown4.out (by decide) Hg9.out
             ·cases List.mem_singleton.1 h
              exact GP.ok.app (⟨Hlk3.out.1.mono Hbq.out,Hlk3.out.2.mono Hbq.out⟩:GP.ok _ (⟨lo,hi⟩:GP)) Hown4.out (by decide) Hg9.out
            ·rw[List.map_append];exact Hst2.out
           case measure=>simp[intOf]<;>omega
          ·obtain⟨gO,rfl⟩:=qbk Hown3.out (by omega)
           have hprt:=qcj Hown3.out (fun q hq=>HOk.out q (hinv.out.2.2.2.2.1 q hq));obtain⟨gg,oo,p,hpa,hp,hpok,hpc⟩:=qa0.at hprt (Below.refl _ _) (show mO<mO+1 by omega);cases hpa
           rw[Nat.zero_add]at hpc;have h16:=qb7 Hc16.out (Below.refl _ _);have HSq:=hI (fun w' (hb:Below wx3.heap.size wx3 w')=>show w'.cell? ⟨gO,mO*14+7,none⟩=some (.int .i64 p.h.c.b)∧w'.cell? ⟨gO,mO*14+8,none⟩=some (.string p.h.c.s)∧w'.cell? ⟨gO,mO*14+9,none⟩=some (.int .i64 p.h.c.d)∧w'.cell? ⟨gO,mO*14+10,none⟩=some (.bool p.h.x)∧w'.cell? ⟨gO,mO*14+11,none⟩=some (.slice p.h.a p.h.n p.h.cap)∧w'.cell? ⟨gO,mO*14+12,none⟩=some (.bool p.h.y)∧w'.cell? ⟨gO,mO*14+13,none⟩=some (.slice p.h.e p.h.m p.h.cap2)∧w'.cell? ⟨b16,0,none⟩=some (.int .i64 lo.c.b)∧w'.cell? ⟨b16,1,none⟩=some (.string lo.c.s)∧w'.cell? ⟨b16,2,none⟩=some (.int .i64 lo.c.d)∧w'.cell? ⟨b16,3,none⟩=some (.bool lo.x)∧w'.cell? ⟨b16,4,none⟩=some (.slice lo.a lo.n lo.cap)∧w'.cell? ⟨b16,5,none⟩=some (.bool lo.y)∧w'.cell? ⟨b16,6,none⟩=some (.slice lo.e lo.m lo.cap2)from⟨qab hb hpc.2.2.2.2.2.2.2.1,qab hb hpc.2.2.2.2.2.2.2.2.1,qab hb hpc.2.2.2.2.2.2.2.2.2.1,qab hb hpc.2.2.2.2.2.2.2.2.2.2.1,qab hb hpc.2.2.2.2.2.2.2.2.2.2.2.1,qab hb hpc.2.2.2.2.2.2.2.2.2.2.2.2.1,qab hb hpc.2.2.2.2.2.2.2.2.2.2.2.2.2,qab hb h16.1,qab hb h16.2.1,qab hb h16.2.2.1,qab hb h16.2.2.2.1,qab hb h16.2.2.2.2.1,qab hb h16.2.2.2.2.2.1,qab hb h16.2.2.2.2.2.2⟩);have Hck:=hI (fun w' (hb:Below wx3.heap.size wx3 w')=>qct p.h lo w' (hpok.2.mono hb) (Hlk3.out.1.mono hb));have Hgl:=hI (show(OP.map GP.cuts).getLast?=some p.cuts by rw[List.getLast?_map,List.getLast?_eq_getElem?,hinv.out.1,show mO+1-1=mO from rfl,hp];rfl);have Hgp:=hI (show OP.getLast?=some p by rw[List.getLast?_eq_getElem?,hinv.out.1];exact hp);have Hpok:=hI hpok;unfold GC.agg at Hck;generalize hRq:cmpG p.h.c lo.c=R at*;have HRq:=hI hRq;have hmw:IntKind.i64.wrap (mO:Int)=mO:=IntWalk.i64_in _ (by omega);have hm3:(((mO+1:Nat):Int)-1)=(mO:Int):=by omega
           have hm4:(0:Int)≤(mO:Int):=by omega
           have hm5:(mO:Int)<(mO:Int)+1:=by omega
           have hm6:(mO:Int)<((mO+1:Nat):Int):=by omega
           clear hprt hpok hpc h16 hp hRq
           by_cases hz:R=0
           ·have Hst2:=hI (show runR CG keep (P.drop (j+1)) (XQ.map GP.cuts) (YQ.map GP.cuts) ((OP.map GP.cuts).dropLast++[(p.l.c,hi.c)])=F by rw[←Hst.out];show _=runR CG keep (P.drop (j+1)) (XQ.map GP.cuts) (YQ.map GP.cuts) (putT CG (OP.map GP.cuts) (lo.c,hi.c));rw[qsz Hgl.out (show cmpG p.cuts.2 lo.c=0 by show cmpG p.h.c lo.c=0;rw[HRq.out];exact hz)];rfl)
            have hz2:(R==0)=true:=by simpa using hz
            go_upto_region 26 with fail
            refine wpRg HSq.out (qcb wx3) (by kernel_rfl) (fun hHeld=>?_)
            refine' tk 0 ?_;(try simp only[tkS]);refine' tk 1 ?_;(try simp only[tkS]);refine' tk 2 ?_;(try simp only[tkS]);refine' tk 3 ?_;(try simp only[tkS]);refine' tk 4 ?_;(try simp only[tkS]);refine' tk 5 ?_;(try simp only[tkS]);refine' tk 6 ?_;(try simp only[tkS]);refine' tk 7 ?_;(try simp only[tkS]);refine' tk 8 ?_;(try simp only[tkS]);refine tk1 9 (fun K hK=>?_)
            go_simp;go_at_call 73;refine(Hck.out _ (qcb wx3)).mono ?_
            rintro e5 wk ⟨rfl,hbq,-⟩;have hb9:=hbq;have Hb9:=hI (qaa (qcb wx3) hb9);clear hb9 hbq;refine hK.out _ _ (by exact HSq.out _ (Hb9.out)) (fun hHeld=>?_)
            clear hK K;(try simp only[tkS]);refine' tk 10 ?_;(try simp only[tkS]);refine' tk 11 ?_;(try simp only[tkS]);refine tkD ?_ _
            have Hbq0:=hI (Hb9.out);obtain⟨t0,t1,t2,t3,t4,t5,t6,x0,x1,x2,x3,x4,x5,x6⟩:=HSq.out _ Hbq0.out;have hp17:=qb7 (Hc17.out.below Hbq0.out) (Below.refl _ _);obtain⟨y0,y1,y2,y3,y4,y5,y6⟩:=hp17;have Hb74:=hI (Hb73.out.via Hbq0.out Hb73.out.size);have Hown4:=hI (qaf Hown3.out Hbq0.out);have hfr:=fun i=>qjk Hown4.out i
            have fr7:=hfr (mO*14+7);have fr8:=hfr (mO*14+8);have fr9:=hfr (mO*14+9);have fr10:=hfr (mO*14+10);have fr11:=hfr (mO*14+11);have fr12:=hfr (mO*14+12);have fr13:=hfr (mO*14+13);clear hfr;have Hsn:=hI (qcn Hgp.out);have HPt:=hI (qmu hi (by rw[List.length_dropLast,hinv.out.1];rfl:OP.dropLast.length=mO) (by have:=Hown4.out;rw[Hsn.out]at this;exact this));have Hb9:=hI (Below.grown Hb74.out HPt.out.2 Hb74.out.size (fun k' hk'=>(Hown4.out.lt k' hk').1))
            go_wp2_with fail
            go_roundw
            case rel=>
             refine⟨wT,s',j+1,mO+1,XQ,YQ,OP.dropLast++[(⟨p.l,hi⟩:GP)],by omega,by go_num,HwT.out,HXT.out,HYT.out,HPt.out.1,Hb9.out,by rw[List.length_append,List.length_dropLast,hinv.out.1];rfl,by omega,Hlens.out.1,Hlens.out.2,?_,?_,HsT.out⟩
             ·intro q hq
              rcases List.mem_append.1 hq with h|h
              ·exact((HOk.out q (hinv.out.2.2.2.2.1 q (List.dropLast_subset _ h))).mono Hbq0.out).grownP Hown4.out (by decide) HPt.out.2
              ·cases List.mem_singleton.1 h
               exact GP.ok.grownP (⟨Hpok.out.1.mono Hbq0.out,Hlk3.out.2.mono Hbq0.out⟩:GP.ok _ (⟨p.l,hi⟩:GP)) Hown4.out (by decide) HPt.out.2
             ·rw[List.map_append,List.map_dropLast];exact Hst2.out
            case measure=>simp[intOf]<;>omega
           ·have Hst2:=hI (show runR CG keep (P.drop (j+1)) (XQ.map GP.cuts) (YQ.map GP.cuts) (OP.map GP.cuts++[(lo.c,hi.c)])=F by rw[←Hst.out];show _=runR CG keep (P.drop (j+1)) (XQ.map GP.cuts) (YQ.map GP.cuts) (putT CG (OP.map GP.cuts) (lo.c,hi.c));rw[qs0 Hgl.out (show cmpG p.cuts.2 lo.c≠0 by show cmpG p.h.c lo.c≠0;rw[HRq.out];exact hz)])
            have hz2:(R==0)=false:=by simpa using hz
            go_upto_region 26 with fail
            refine wpRg HSq.out (qcb wx3) (by kernel_rfl) (fun hHeld=>?_)
            refine' tk 0 ?_;(try simp only[tkS]);refine' tk 1 ?_;(try simp only[tkS]);refine' tk 2 ?_;(try simp only[tkS]);refine' tk 3 ?_;(try simp only[tkS]);refine' tk 4 ?_;(try simp only[tkS]);refine' tk 5 ?_;(try simp only[tkS]);refine' tk 6 ?_;(try simp only[tkS]);refine' tk 7 ?_;(try simp only[tkS]);refine' tk 8 ?_;(try simp only[tkS]);refine tk1 9 (fun K hK=>?_)
            go_simp;go_at_call 73;refine(Hck.out _ (qcb wx3)).mono ?_
            rintro e5 wk ⟨rfl,hbq,-⟩;have hb9:=hbq;have Hb9:=hI (qaa (qcb wx3) hb9);clear hb9 hbq;refine hK.out _ _ (by exact HSq.out _ (Hb9.out)) (fun hHeld=>?_)
            clear hK K;(try simp only[tkS]);refine' tk 10 ?_;(try simp only[tkS]);refine' tk 11 ?_;(try simp only[tkS]);refine tkD ?_ _
            have Hbq0:=hI (Hb9.out);have Hbq:=hI (Hb9.out);have hp16:=qb7 (Hc16.out.below Hbq0.out) (Below.refl _ _);obtain⟨x0,x1,x2,x3,x4,x5,x6⟩:=hp16;have hp17:=qb7 (Hc17.out.below Hbq0.out) (Below.refl _ _);obtain⟨y0,y1,y2,y3,y4,y5,y6⟩:=hp17;have Hb74:=hI (Hb73.out.via Hbq.out Hb73.out.size);have Hown4:=hI (qaf Hown3.out Hbq.out)
            go_wp2_with (at_builtin;refine qcv EP (by decide) (GP.row (⟨lo,hi⟩:GP)) rfl _ _ rfl wT.heap.size _ _ _ rfl rfl Hown4.out rfl (qfw (⟨lo,hi⟩:GP)) (by omega) (by decide) Hb74.out.size ?_;intro v' w9 hown' hg';have Hbw9:=hI (qau Hb74.out Hown4.out hg' Hb74.out.size);have Hown9:=hI hown';have Hg9:=hI hg';clear hown' hg')
            go_roundw
            case rel=>
             refine⟨wT,s',j+1,(mO+1)+1,XQ,YQ,OP++[(⟨lo,hi⟩:GP)],by omega,by go_num,HwT.out,HXT.out,HYT.out,by have:=Hown9.out;rw[qb5]at this;exact this,Hbw9.out,by rw[List.length_append,hinv.out.1];rfl,by omega,Hlens.out.1,Hlens.out.2,?_,?_,HsT.out⟩
             ·intro q hq
              rcases List.mem_append.1 hq with h|h
              ·exact((HOk.out q (hinv.out.2.2.2.2.1 q h)).mono Hbq.out).app Hown4.out (by decide) Hg9.out
              ·cases List.mem_singleton.1 h
               exact GP.ok.app (⟨Hlk3.out.1.mono Hbq.out,Hlk3.out.2.mono Hbq.out⟩:GP.ok _ (⟨lo,hi⟩:GP)) Hown4.out (by decide) Hg9.out
             ·rw[List.map_append];exact Hst2.out
            case measure=>simp[intOf]<;>omega
    ·have hj:j+1=M:=by omega
     have hjn:¬(j:Int)<(M:Int)-1:=by omega
     have hPl:P.length=M:=by rw[←HPm.out,List.length_map];exact HPl.out
     have hPd:∃q,P.drop j=[q]:=by
      obtain⟨q,hq⟩:∃q,P[j]?=some q:=⟨_,List.getElem?_eq_getElem (by omega)⟩
      obtain⟨g1,e1⟩:=List.getElem?_eq_some_iff.1 hq;exact⟨q,by rw[List.drop_eq_getElem_cons g1,List.drop_eq_nil_of_le (by omega),e1]⟩
     have hOF:OP.map GP.cuts=F:=by
      obtain⟨q,hq⟩:=hPd;have:=hinv.out.2.2.2.2.2.1;rw[hq]at this;exact this
     have HBf:=hI (show Below w.heap.size (putO o sF w) wr by
      obtain⟨q,hq⟩:=hPd;have h1:=hinv.out.2.2.2.2.2.2;rw[hq]at h1;have h2:s=sF:=h1;have h3:=qik (o:=o) Hbase.out s;rw[←HwS.out]at h3;rw[←h2]
      exact h3.via hbw (by rw[HES.out,←HE7.out];exact Hbase.out.size))
     have hFl:F.length=nO:=by rw[←hOF,List.length_map];exact hinv.out.1
     have hprt:=qcj hown hinv.out.2.2.2.2.1;obtain⟨ao,co',rfl,hco',-⟩:=qas hown;have HFl:=hI hFl;have HOF:=hI hOF;have HPrt:=hI hprt;have Hszf:=hI (show w.heap.size≤wr.heap.size from Nat.le_trans (by rw[HES.out,←HE7.out];exact Hbase.out.size) hbw.size);have Hnl:=hI hinv.out.1;clear hown hprt hOF hFl hPd hPl hbw;rcases Nat.lt_or_ge 256 nO with hbig|hsm
     ·have hb1:(256:Int)<(nO:Int):=by omega
      go_wp2_with fail
      go_ret2
      exact⟨_,rfl,P,HPost.out,⟨F,HFF.out,.inl ⟨by rw[HFl.out];exact hbig,rfl⟩⟩,by rw[HsF.out];exact HBf.out⟩
     ·have hb1:¬(256:Int)<(nO:Int):=by omega
      have HI:=hI (qhw _ OP _ HPrt.out (by rw[Hnl.out];omega));rw[Hnl.out]at HI
      go_wp2_with (go_at_call 76;refine(HI.out).mono ?_;rintro e w9 ⟨v9,rfl,⟨a9,c9,rfl,hiv⟩,hb9⟩)
      go_ret2
      refine⟨_,rfl,P,HPost.out,⟨F,HFF.out,.inr ⟨by rw[HFl.out];exact hsm,a9,c9,by rw[HFl.out];rfl,?_⟩⟩,by rw[HsF.out];exact HBf.out.via hb9 Hszf.out⟩
      rw[HFl.out,←HOF.out,List.map_map];exact hiv
theorem qr5(g:Nat)(keep:Bool→Bool→Bool)(hkeep:∀(p q:Bool) (W:World),Calls Tryz.prog g #[.bool p,.bool q] W (Ret (.bool (keep p q)) W))(heg:∀args w,(callFunc g args).run Tryz.prog w=.ok (.enter g args) w)(u v:Value)(xs ys:List Iv)(w:World)(hx:Ivs w u xs)(hy:Ivs w v ys)(hsx:∀x∈xs,x.short)(hsy:∀x∈ys,x.short)(hex:qa5 xs=0)(hey:qa5 ys=0)(hnx:xs.length≤256)(hny:ys.length≤256):
  Calls Tryz.prog 91 #[u,v,.func (.func g) #[] #[]] w (RetP (qmb keep xs ys) w):=by
 refine(qxq none false (fun s _ _=>s) #[] g keep (fun _ p q W _=>((hkeep p q W).mono fun e W' h=>h:Calls Tryz.prog g (#[.bool p,.bool q]++#[]) W (fun e W'=>e=.returned (.bool (keep p q))∧Below W.heap.size W W'))) heg u v xs ys w trivial hx hy hsx hsy hex hey hnx hny).mono ?_
 rintro e w' ⟨r,h1,P,h2,h3,h4⟩;exact⟨r,h1,⟨P,h2,h3⟩,h4⟩
end Go.Proofs.YtacihodamichhaaGreatDoor
