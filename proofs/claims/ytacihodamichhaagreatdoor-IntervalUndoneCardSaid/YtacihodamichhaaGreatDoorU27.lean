/- Parts of the proof. -/
import Derived.Deep.RegionLawGrows
import Derived.Test.YtacihodamichhaaGreatDoorU22
import Derived.Test.YtacihodamichhaaGreatDoorU26
set_option maxHeartbeats 8000000
namespace Go.Proofs.YtacihodamichhaaGreatDoor
open Go.RowKit
def ivR(r:RP):Iv:=⟨if r.1.b=0 then r.1.s else⟨#[]⟩,if r.2.b=0 then r.2.s else⟨#[]⟩,if r.1.b=0 then(if r.1.d=1 then 0 else 1)else 2,if r.2.b=0 then(if r.2.d=1 then 1 else 0)else 2⟩
set_option maxRecDepth 10000 in
theorem qh7(v:Value)(rs:List RP)(w:World)(h:Rgs w v rs)(hn:rs.length<100000):
  Calls Tryz.prog 78 #[v] w (RetP (fun r w'=>∃a c,r=.slice a rs.length c∧Ivs w' (.slice a rs.length c) (rs.map ivR)) w):=by
 obtain⟨a,c,rfl,hc1,hc2⟩:=h.open;unfold maxLen at hc2;have HX:=hI h;clear h;generalize hln:rs.length=n at*;have Hln:=hI hln;clear hln;have HN:=hI (fun W:World=>World.ownsRow_nil W W.heap.size 46 4)
 go_enter Tryz.func78,Tryz.ntmps78
 go_wp2_with fail
 go_loopw [4,3] (fun i out wr=>∃(k:Nat),k≤n∧i=.int .i64 (k:Int)∧Below w.heap.size w wr∧wr.ownsRow w.heap.size 46 4 out k ((((rs.take k).map ivR).map Iv.row).flatten)) (fun i _ _=>n-(intOf i).toNat)
 case atStart=>exact⟨0,by omega,rfl,Below.refl _ _,HN.out _⟩
 case round=>
  obtain⟨k,hk,rfl,hbw,hown⟩:=hrel;have Hbw:=hI hbw;have Hown:=hI hown;rcases Nat.lt_or_ge k n with hlt|hge
  ·obtain⟨b,off,r,rfl,hx,c0,c1,c2,c3,c4,c5⟩:=HX.out.at hbw hlt
   have hkn:(k:Int)<(n:Int):=by omega
   have hk0:(0:Int)≤(k:Int):=Int.natCast_nonneg _;have hkw:IntKind.i64.wrap ((k:Int)+1)=(k:Int)+1:=IntWalk.i64_in _ (by omega);have Hxc:=hI (show((rs.take (k+1)).map ivR).map Iv.row=((rs.take k).map ivR).map Iv.row++[(ivR r).row]by rw[qbd hx,List.map_append,List.map_append];rfl);have hblt:=World.block_lt_of_cell? _ _ c0;obtain⟨⟨b1,s1,d1⟩,b2,s2,d2⟩:=r;dsimp only at c0 c1 c2 c3 c4 c5;obtain⟨lo,hlo⟩:∃x,(ivR (⟨b1,s1,d1⟩,⟨b2,s2,d2⟩)).lo=x:=⟨_,rfl⟩
   obtain⟨hi,hhi⟩:∃x,(ivR (⟨b1,s1,d1⟩,⟨b2,s2,d2⟩)).hi=x:=⟨_,rfl⟩
   obtain⟨le,hle⟩:∃x,(ivR (⟨b1,s1,d1⟩,⟨b2,s2,d2⟩)).le=x:=⟨_,rfl⟩
   obtain⟨he,hhe⟩:∃x,(ivR (⟨b1,s1,d1⟩,⟨b2,s2,d2⟩)).he=x:=⟨_,rfl⟩
   have hiv:ivR (⟨b1,s1,d1⟩,⟨b2,s2,d2⟩)=⟨lo,hi,le,he⟩:=by rw[←hlo,←hhi,←hle,←hhe]
   rw[hiv]at Hxc;have Hcs:=hI (And.intro hlo (And.intro hhi (And.intro hle hhe)));clear hx hbw hown hlo hhi hle hhe hiv;have Hcell:=hI (fun w' (hb:Below wr.heap.size wr w')=>And.intro ((hb.cell (p:=⟨b,off+k*6+3,none⟩) hblt).trans c3) (And.intro ((hb.cell (p:=⟨b,off+k*6+4,none⟩) hblt).trans c4) ((hb.cell (p:=⟨b,off+k*6+5,none⟩) hblt).trans c5)))
   go_upto_if 22 with fail
   go_cut [6]from 12 to 50 (fun _ wx=>Below wr.heap.size wr wx∧Blk wx wr.heap.size #[.string lo,.string ⟨#[]⟩,.int .i64 le,.int .i64 2] 46)
   case first=>
    have hlo:=Hcs.out.1;have hle:=Hcs.out.2.2.1;unfold ivR at hlo hle;dsimp only at hlo hle;clear Hcs Hxc Hown HN Hcell;rcases Classical.em (b1=0)with h1|h1
    ·subst h1
     rw[if_pos rfl]at hlo hle;rcases Classical.em (d1=1)with e1|e1
     ·subst e1
      rw[if_pos rfl]at hle;subst hlo hle
      go_wp2_with fail
      go_meet;exact⟨qaz wr (.cells #[.string s1,.string ⟨#[]⟩,.int .i64 0,.int .i64 2] 46) (.cells #[.int .i64 0,.string s1,.int .i64 1] 116),(Blk.new wr _ _).old _⟩
     ·rw[if_neg e1]at hle
      subst hlo hle;have e1b:(d1==1)=false:=beq_eq_false_iff_ne.2 e1;clear e1
      go_wp2_with fail
      go_meet;exact⟨qaz wr (.cells #[.string s1,.string ⟨#[]⟩,.int .i64 1,.int .i64 2] 46) (.cells #[.int .i64 0,.string s1,.int .i64 d1] 116),(Blk.new wr _ _).old _⟩
    ·rw[if_neg h1]at hlo hle
     subst hlo hle;have h1b:(b1==0)=false:=beq_eq_false_iff_ne.2 h1;clear h1
     go_wp2_with fail
     go_meet;exact⟨qaz wr (.cells #[.string ⟨#[]⟩,.string ⟨#[]⟩,.int .i64 2,.int .i64 2] 46) (.cells #[.int .i64 b1,.string s1,.int .i64 d1] 116),(Blk.new wr _ _).old _⟩
   case rest=>
    obtain⟨hbx,hB5⟩:=hcut
    rename World=>wx
    obtain⟨c3,c4,c5⟩:=Hcell.out _ hbx;obtain⟨⟨p0,p1,p2,p3⟩,f0,f1,f2,f3⟩:=qam hB5;have hlt5:=hB5.lt;have HB5:=hI hB5;have Hbx:=hI hbx;generalize hg5:wr.heap.size=B5 at*;have Hg5:=hI hg5;clear hbx hB5 hg5 Hcell c0 c1 c2
    go_upto_if 38 with fail
    go_cut [7]from 12 to 50 (fun _ wy=>Below B5 wr wy∧Blk wy B5 #[.string lo,.string hi,.int .i64 le,.int .i64 he] 46)
    case first=>
     have hhi:=Hcs.out.2.1;have hhe:=Hcs.out.2.2.2;unfold ivR at hhi hhe;dsimp only at hhi hhe;clear Hcs Hxc Hown HN;rcases Classical.em (b2=0)with h2|h2
     ·subst h2
      rw[if_pos rfl]at hhi hhe;rcases Classical.em (d2=1)with e2|e2
      ·subst e2
       rw[if_pos rfl]at hhe;subst hhi hhe
       go_wp2_with fail
       go_meet;exact⟨((((Hbx.out.setCell (p:=⟨B5,1,none⟩) (Nat.le_refl _) (.string s2)).setCell (p:=⟨B5,3,none⟩) (Nat.le_refl _) (.int .i64 0)).setCell (p:=⟨B5,3,none⟩) (Nat.le_refl _) (.int .i64 1)).alloc (by simp only[World.size_setCell];exact Nat.le_of_lt hlt5) (.cells #[.int .i64 0,.string s2,.int .i64 1] 116)),((((HB5.out.set 1 (.string s2)).set 3 (.int .i64 0)).set 3 (.int .i64 1)).old (.cells #[.int .i64 0,.string s2,.int .i64 1] 116))⟩
      ·rw[if_neg e2]at hhe
       subst hhi hhe;have e2b:(d2==1)=false:=beq_eq_false_iff_ne.2 e2;clear e2
       go_wp2_with fail
       go_meet;exact⟨(((Hbx.out.setCell (p:=⟨B5,1,none⟩) (Nat.le_refl _) (.string s2)).setCell (p:=⟨B5,3,none⟩) (Nat.le_refl _) (.int .i64 0)).alloc (by simp only[World.size_setCell];exact Nat.le_of_lt hlt5) (.cells #[.int .i64 0,.string s2,.int .i64 d2] 116)),(((HB5.out.set 1 (.string s2)).set 3 (.int .i64 0)).old (.cells #[.int .i64 0,.string s2,.int .i64 d2] 116))⟩
     ·rw[if_neg h2]at hhi hhe
      subst hhi hhe;have h2b:(b2==0)=false:=beq_eq_false_iff_ne.2 h2;clear h2
      go_wp2_with fail
      go_meet;exact⟨(Hbx.out.alloc (Nat.le_of_lt hlt5) (.cells #[.int .i64 b2,.string s2,.int .i64 d2] 116)),(HB5.out.old (.cells #[.int .i64 b2,.string s2,.int .i64 d2] 116))⟩
    case rest=>
     obtain⟨hby,hB⟩:=hcut;rw[←Hg5.out]at hby;have Hbx:=hI (Hbw.out.via hby Hbw.out.size);have Hown4:=hI (qaf Hown.out hby);obtain⟨⟨p0,p1,p2,p3⟩,-⟩:=qam hB;clear hby hB f0 f1 f2 f3
     go_wp2_with (at_builtin;refine qcv EI (by decide) (Iv.row ⟨lo,hi,le,he⟩) rfl _ _ rfl w.heap.size _ _ _ rfl rfl Hown4.out rfl (one4 ⟨lo,hi,le,he⟩) (by omega) (by decide) Hbx.out.size ?_;intro v' w5 hown' hg';have Hb5:=hI (qau Hbx.out Hown4.out hg' Hbx.out.size);have Hown5:=hI hown';clear hown' hg')
     go_roundw
     case rel=>exact⟨k+1,by omega,by go_num,Hb5.out,by rw[Hxc.out,List.flatten_append,List.flatten_cons,List.flatten_nil,List.append_nil];exact Hown5.out⟩
     case measure=>simp[intOf]<;>omega
  ·obtain rfl:k=n:=by omega
   have hkn:¬(k:Int)<(k:Int):=by omega
   obtain⟨aa,cap,rfl,-,-⟩:=qas hown;have Hres:=hI (show Ivs wr (.slice aa k cap) (rs.map ivR)by have:=qhk hown;rwa [List.take_of_length_le (by rw[Hln.out];exact Nat.le_refl _)]at this)
   go_wp2_with fail
   go_ret
   exact⟨_,rfl,⟨aa,cap,rfl,Hres.out⟩,Hbw.out⟩
def ltR(x y:Cut):Prop:=CG (toP x) (toP y)
instance (x y:Cut):Decidable (ltR x y):=inferInstanceAs (Decidable (CG _ _))
theorem qcd:SWk ltR:=⟨fun _x=>qco.irr _,fun h k=>qco.tr h k,fun h k=>qco.ntr h k⟩
def OkR(r:RP):Prop:=RokC r.1∧RokC r.2
def insR(S:List RP)(x:RP):List RP:=S.takeWhile (fun s=>decide (¬ltR x.1 s.1))++x::S.dropWhile (fun s=>decide (¬ltR x.1 s.1))
def qh6(rs:List RP)(S:List RP):List RP:=(rs.filter fun r=>decide (ltR r.1 r.2)).foldl insR S
def qn5(rs:List RP):List RP:=qh6 rs []
def qa1(rs:List RP):List RP:=qdz ltR (qn5 rs)
theorem qt9{α:Type}{p:α→Bool}:∀{S:List α} {s:α},s∈S.takeWhile p→p s=true
 |[],s,h=>by cases h
 |a::S,s,h=>by
  rw[List.takeWhile_cons]at h
  split at h
  ·rename_i ha
   rcases List.mem_cons.1 h with rfl|h
   ·exact ha
   ·exact qt9 h
  ·cases h
theorem qrr{α:Type}{p:α→Bool}:∀{S D:List α} {d:α},S.dropWhile p=d::D→p d=false
 |[],D,d,h=>by cases h
 |a::S,D,d,h=>by
  rw[List.dropWhile_cons]at h
  split at h
  ·exact qrr h
  ·rename_i ha
   cases h
   simpa using ha
theorem qdj(S:List RP)(x:RP):(insR S x).Perm (x::S):=by
 unfold insR;refine List.perm_middle.trans (List.Perm.cons x ?_)
 rw[List.takeWhile_append_dropWhile]
theorem qlu{S:List RP}{x:RP}(h:S.Pairwise fun p q=>¬ltR q.1 p.1):(insR S x).Pairwise fun p q=>¬ltR q.1 p.1:=by
 have hS:=List.takeWhile_append_dropWhile (p:=fun s:RP=>decide (¬ltR x.1 s.1)) (l:=S);unfold insR
 have h1:∀s∈S.takeWhile (fun s=>decide (¬ltR x.1 s.1)),¬ltR x.1 s.1:=fun s hs=>by
  have:=qt9 hs
  simpa using this
 have h2:∀s∈S.dropWhile (fun s=>decide (¬ltR x.1 s.1)),ltR x.1 s.1:=by
  intro s hs;cases e:S.dropWhile (fun s=>decide (¬ltR x.1 s.1))with
  |nil=>rw[e]at hs;cases hs
  |cons d D=>
   have hd:ltR x.1 d.1:=by
    have:=qrr e
    simpa using this
   rw[e]at hs;rcases List.mem_cons.1 hs with rfl|hs
   ·exact hd
   ·rw[←hS,e]at h
    have:=(List.pairwise_cons.1 (List.pairwise_append.1 h).2.1).1 s hs;exact qcd.lt_le hd this
 rw[←hS]at h;obtain⟨a1,a2,a3⟩:=List.pairwise_append.1 h;refine List.pairwise_append.2 ⟨a1,List.pairwise_cons.2 ⟨fun s hs=>qcd.asym (h2 s hs),a2⟩,fun p hp q hq=>?_⟩
 rcases List.mem_cons.1 hq with rfl|hq
 ·exact h1 p hp
 ·exact a3 p hp q hq
theorem qrg(l:List RP):∀S:List RP,S.Pairwise (fun p q=>¬ltR q.1 p.1)→(l.foldl insR S).Pairwise (fun p q=>¬ltR q.1 p.1)∧(l.foldl insR S).Perm (S++l):=by
 induction l with
 |nil=>intro S h;exact⟨h,by rw[List.append_nil];exact List.Perm.refl _⟩
 |cons x l ih=>
  intro S h;obtain⟨a,b⟩:=ih (insR S x) (qlu h);refine⟨a,b.trans ?_⟩
  refine(List.Perm.append_right l (qdj S x)).trans ?_
  exact(List.perm_middle (l₁:=S) (a:=x) (l₂:=l)).symm
theorem qg0(rs:List RP):(qn5 rs).Pairwise (fun p q=>¬ltR q.1 p.1)∧(qn5 rs).Perm (rs.filter fun r=>decide (ltR r.1 r.2)):=by
 have:=qrg (rs.filter fun r=>decide (ltR r.1 r.2)) [] .nil
 rwa [List.nil_append]at this
theorem qsm(rs:List RP):∀r∈qn5 rs,ltR r.1 r.2:=fun r hr=>by
 have:=(List.mem_filter.1 ((qg0 rs).2.mem_iff.1 hr)).2
 simpa using this
theorem qb0(rs:List RP):IsSet ltR (qa1 rs)∧∀c,Mem ltR (qa1 rs) c↔Mem ltR rs c:=by
 obtain⟨h1,h2⟩:=qg0 rs;obtain⟨k1,k2⟩:=qkj qcd (qsm rs) h1;exact⟨k1,fun c=>by rw[qa1,k2,Mem.perm h2,qbq qcd]⟩
theorem qbv{rs:List RP}{P:Cut→Prop}(h:∀r∈rs,P r.1∧P r.2):∀r∈qa1 rs,P r.1∧P r.2:=
 qgf _ _ (fun r hr=>h r (List.mem_filter.1 ((qg0 rs).2.mem_iff.1 hr)).1) (fun r hr=>by cases hr)
theorem qn6{r:RP}(h:¬ltR r.1 r.2)(l S:List RP):qh6 (l++[r]) S=qh6 l S:=by
 unfold qh6;rw[List.filter_append,List.filter_cons_of_neg (by simpa using h),List.filter_nil,List.append_nil]
theorem qph{r:RP}(h:ltR r.1 r.2)(l S:List RP):qh6 (l++[r]) S=insR (qh6 l S) r:=by
 unfold qh6;rw[List.filter_append,List.filter_cons_of_pos (by simpa using h),List.filter_nil,List.foldl_append]
 rfl
theorem qwa{S:List RP}{x:RP}{k:Nat}(h1:∀s∈S.take k,¬ltR x.1 s.1)(h2:∀s,S[k]?=some s→ltR x.1 s.1):insR S x=S.take k++x::S.drop k:=by
 have e:S.takeWhile (fun s=>decide (¬ltR x.1 s.1))=S.take k∧S.dropWhile (fun s=>decide (¬ltR x.1 s.1))=S.drop k:=by
  induction S generalizing k with
  |nil=>simp
  |cons a S ih=>
   cases k with
   |zero=>
    have:=h2 a rfl
    constructor
    ·rw[List.takeWhile_cons,if_neg (by simpa using this)];rfl
    ·rw[List.dropWhile_cons,if_neg (by simpa using this)];rfl
   |succ k=>
    have ha:=h1 a (by simp);obtain⟨i1,i2⟩:=ih (k:=k) (fun s hs=>h1 s (by simp[hs])) (fun s hs=>h2 s (by simpa using hs))
    constructor
    ·rw[List.takeWhile_cons,if_pos (by simpa using ha),i1];rfl
    ·rw[List.dropWhile_cons,if_pos (by simpa using ha),i2];rfl
 unfold insR;rw[e.1,e.2]
theorem Sl.takeK{w:World}{sz n cap k:Nat}{a:Option Addr}{rows:List (List Value)}(h:Sl w sz (.slice a n cap) rows)(hk:k≤n):Sl w sz (.slice a k k) (rows.take k):=by
 obtain⟨a',cap',hv,hc,hm,h⟩:=h;simp only[Value.slice.injEq]at hv;obtain⟨rfl,rfl,rfl⟩:=hv;refine⟨a,k,by rw[List.length_take,Nat.min_eq_left hk],by rw[List.length_take];omega,by omega,?_⟩
 rcases h with h|⟨b,off,rfl,hb,h⟩
 ·exact .inl (by omega)
 ·refine .inr ⟨b,off,rfl,hb,fun i j hi hj=>?_⟩
  rw[List.length_take]at hi;rw[h i j (by omega) hj];simp only[List.getD_eq_getElem?_getD];rw[List.getElem?_take_of_lt (by omega)]
theorem Sl.dropK{w:World}{sz n cap k b off:Nat}{rows:List (List Value)}(h:Sl w sz (.slice (some ⟨b,off,none⟩) n cap) rows)(hk:k<n):Sl w sz (.slice (some ⟨b,off+k*sz,none⟩) (n-k) (cap-k)) (rows.drop k):=by
 obtain⟨a',cap',hv,hc,hm,h⟩:=h;simp only[Value.slice.injEq]at hv;obtain⟨rfl,rfl,rfl⟩:=hv;refine⟨some ⟨b,off+k*sz,none⟩,cap-k,by rw[List.length_drop],by rw[List.length_drop];omega,by omega,?_⟩
 rcases h with h|⟨b',off',he,hb,h⟩
 ·omega
 ·cases he
  refine .inr ⟨b,off+k*sz,rfl,hb,fun i j hi hj=>?_⟩
  rw[List.length_drop]at hi;have:=h (k+i) j (by omega) hj;rw[show off+k*sz+i*sz+j=off+(k+i)*sz+j by rw[Nat.add_mul];omega,this];simp only[List.getD_eq_getElem?_getD];rw[List.getElem?_drop]
theorem qgz{t e size bytes:Nat}(E:ElemTy t e size bytes)(hsz:0<size){ops:Array Oper}{o:Oper}{a:Act}{K:Act→World→Prop}{Q:Exit→Act→World→Prop}{E':Prop}{W:World}
  (hgd:o.guard=none) (s x:Operand) (ho:o.op=.call { callee:=.builtin .append,args:=#[s,x],argTypes:=#[t,t] }) (ao ad:Option Addr) (n cap m c:Nat) (R1 R2:List (List Value))
  (hs:a.eval s=.slice ao n cap) (hx:a.eval x=.slice ad m c) (h1:Sl W size (.slice ao n cap) R1) (h2:Sl W size (.slice ad m c) R2) (hl1:∀r∈R1,r.length=size) (hl2:∀r∈R2,r.length=size) (hu:∀r∈R2,∀u∈r,u.oneCell'=true)
  (hm:0<m) (hnone:ao=none→cap=0) (hfull:cap<n+m) (hn:n+m<1000000) (hb:bytes≤1000)
  (h:∀v' w',w'.ownsRow W.heap.size e size v' (n+m) (R1.flatten++R2.flatten)→W.grownBy w' none→K (a.put o.dst v') w'):
  if Region.wanted o (yielded ops a.tmps)=true then Oper.wp Tryz.prog o a W K Q else E':=by
 have hi:=E.info;simp only[Option.map_eq_some_iff,Prod.mk.injEq]at hi;obtain⟨i,hi,⟨z,hz,hzs⟩,hsize,hby⟩:=hi;have hbb:(n+m)*bytes≤140737488355328:=Nat.le_trans (Nat.mul_le_mul (show n+m≤1000000 by omega) hb) (by decide);have hn1:R1.length=n:=by obtain⟨_,_,hv,_⟩:=Sl.open h1;cases hv;rfl
 have hn2:R2.length=m:=by obtain⟨_,_,hv,_⟩:=Sl.open h2;cases hv;rfl
 have hcap:n≤cap:=by obtain⟨_,_,hv,hc,_⟩:=Sl.open h1;cases hv;omega
 obtain⟨b2,off2,rfl⟩:∃b off,ad=some ⟨b,off,none⟩:=by
  obtain⟨_,_,hv,h1,_,h2⟩:=h2;cases hv
  rcases h2 with h2|⟨b,off,rfl,-,-⟩
  ·omega
  ·exact⟨b,off,rfl⟩
 refine step_append_grows hgd s x t ho e i z size bytes E.und hi hz hsize hby hzs hsz ao n cap R1.flatten hs (fun hq=>?_) (by rw[qcr hl1,hn1]) (fun b hq j u hj=>?_) ⟨b2,off2,none⟩ m c R2.flatten hx (by rw[qcr hl2,hn2]) (Sl.flat h2 hl2 hsz) ?_ hfull (by unfold maxLen;omega) hbb h
 ·have:=hnone hq;omega
 ·subst hq
  obtain⟨_,_,hv,q1,_,q2⟩:=id h1;cases hv
  rcases q2 with q2|⟨b1,off1,he,-,-⟩
  ·rw[List.length_eq_zero_iff.1 (show R1.length=0 by omega)]at hj
   simp at hj
  ·cases he
   exact Sl.flat h1 hl1 hsz j u hj
 ·intro u hu'
  obtain⟨r,hr,hu'⟩:=List.mem_flatten.1 hu';exact hu r hr u hu'
theorem qmd{t e size bytes:Nat}(E:ElemTy t e size bytes){ops:Array Oper}{o:Oper}{a:Act}{K:Act→World→Prop}{Q:Exit→Act→World→Prop}{E':Prop}{W:World}
  (hgd:o.guard=none) (s x:Operand) (ho:o.op=.call { callee:=.builtin .append,args:=#[s,x],argTypes:=#[t,t] }) (ao ad:Option Addr) (n cap c:Nat)
  (hs:a.eval s=.slice ao n cap) (hx:a.eval x=.slice ad 0 c) (hk:n≤cap) (h:K (a.put o.dst (.slice ao n cap)) W):
  if Region.wanted o (yielded ops a.tmps)=true then Oper.wp Tryz.prog o a W K Q else E':=by
 have hi:=E.info;simp only[Option.map_eq_some_iff,Prod.mk.injEq]at hi;obtain⟨i,hi,⟨z,hz,hzs⟩,hsize,hby⟩:=hi
 have hr:(Builtin.append_ #[t,t] o.type #[.slice ao n cap,.slice ad 0 c]).run Tryz.prog W=.ok (.slice ao n cap) W:=by
  cases ao<;>cases ad<;>simp[Builtin.append_,run_underlying E.und,sizeOf,typeInfo,hi,Builtin.lenOf,Builtin.firstCells,loadCells,loadCellsFrom,hk,storeCells]
 have hw:Region.wanted o (yielded ops a.tmps)=true:=by simp[Region.wanted,hgd]
 rw[if_pos hw];unfold Oper.wp;simp[execOp,ho,resolve,invoke,builtin,hs,hx,hr,Result.andThen];exact h
theorem qcg{w w':World}(h:w.grownBy w' none):Below w.heap.size w w':=⟨h.os,h.tape,h.output,h.size,fun k hk=>h.block k hk (by simp)⟩
end Go.Proofs.YtacihodamichhaaGreatDoor
