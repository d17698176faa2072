/- Parts of the proof. -/
import Derived.Deep.RegionLawGrows
import Derived.Test.YtacihodamichhaaGreatDoorP22
import Derived.Test.YtacihodamichhaaGreatDoorP27
set_option maxHeartbeats 8000000
namespace Go.Proofs.YtacihodamichhaaGreatDoor
open Go.RowKit
abbrev RP:=Cut × Cut
def rrow(r:RP):List Value:=[.int .i64 r.1.b,.string r.1.s,.int .i64 r.1.d,.int .i64 r.2.b,.string r.2.s,.int .i64 r.2.d]
def Rgs(w:World)(v:Value)(rs:List RP):Prop:=Sl w 6 v (rs.map rrow)
theorem Rgs.open{w:World}{v:Value}{rs:List RP}(h:Rgs w v rs):∃a cap,v=.slice a rs.length cap∧rs.length≤cap∧cap≤maxLen:=by
 have:=Sl.open h;simpa using this
def qua(w:World)(b o:Nat)(r:RP):Prop:=w.cell? ⟨b,o,none⟩=some (.int .i64 r.1.b)∧w.cell? ⟨b,o+1,none⟩=some (.string r.1.s)∧w.cell? ⟨b,o+2,none⟩=some (.int .i64 r.1.d)∧w.cell? ⟨b,o+3,none⟩=some (.int .i64 r.2.b)∧w.cell? ⟨b,o+4,none⟩=some (.string r.2.s)∧w.cell? ⟨b,o+5,none⟩=some (.int .i64 r.2.d)
theorem Rgs.at{w wr:World}{n cap:Nat}{a:Option Addr}{rs:List RP}(h:Rgs w (.slice a n cap) rs)(hb:Below w.heap.size w wr){k:Nat}(hk:k<n):
  ∃b off r,a=some ⟨b,off,none⟩∧rs[k]?=some r∧qua wr b (off+k*6) r:=by
 obtain⟨b,off,ha,hlt,r,hr,hc⟩:=Sl.row h hb hk;simp only[List.getElem?_map,Option.map_eq_some_iff]at hr;obtain⟨l,hl,rfl⟩:=hr;exact⟨b,off,l,ha,hl,hc 0 (by decide),hc 1 (by decide),hc 2 (by decide),hc 3 (by decide),hc 4 (by decide),hc 5 (by decide)⟩
def qcn(rs:List RP):List Value:=(rs.map rrow).flatten
theorem qdy(rs:List RP)(r:RP):qcn (rs++[r])=qcn rs++rrow r:=by
 unfold qcn;rw[List.map_append,List.flatten_append,List.map_singleton,List.flatten_cons,List.flatten_nil,List.append_nil]
theorem qec{w:World}{B n:Nat}{v:Value}{rs:List RP}(h:w.ownsRow B 119 6 v n (qcn rs)):Rgs w v rs:=
 Sl.own h (fun r hr=>by obtain⟨p,_,rfl⟩:=List.mem_map.1 hr;rfl) (by decide)
theorem ER:ElemTy 104 119 6 64:=⟨Tryz.underlying104,by kernel_rfl⟩
theorem one6(r:RP):∀u∈rrow r,u.oneCell'=true:=by
 intro u hu;simp[rrow]at hu;rcases hu with rfl|rfl|rfl|rfl|rfl|rfl<;>rfl
def rgOf(x:Iv):RP:=(loC x.lo x.le,upC x.hi x.he)
theorem qb8{α:Type}{l:List α}{k:Nat}{x:α}(h:l[k]?=some x):l.take (k+1)=l.take k++[x]:=by
 obtain⟨hi,rfl⟩:=List.getElem?_eq_some_iff.1 h;rw[List.take_succ_eq_append_getElem hi]
set_option maxRecDepth 10000 in
theorem qnl(v:Value)(xs:List Iv)(w:World)(h:Ivs w v xs)(hn:xs.length<100000):
  Calls Tryz.prog 80 #[v] w (RetP (fun r w'=>w'.ownsRow w.heap.size 119 6 r xs.length (qcn (xs.map rgOf))) w):=by
 obtain⟨a,c,rfl,hc1,hc2⟩:=h.open;unfold maxLen at hc2;have HX:=hI h;clear h;generalize hln:xs.length=n at*;have Hln:=hI hln;clear hln;have HL:=hI (fun s k w'=>qvn s k w');have HU:=hI (fun s k w'=>quf s k w');have HN:=hI (fun W:World=>World.ownsRow_nil W W.heap.size 119 6)
 go_enter Tryz.func80,Tryz.ntmps80
 go_wp2_with fail
 go_loopw [4,3] (fun i out wr=>∃(k:Nat),k≤n∧i=.int .i64 (k:Int)∧Below w.heap.size w wr∧wr.ownsRow w.heap.size 119 6 out k (qcn ((xs.take k).map rgOf))) (fun i _ _=>n-(intOf i).toNat)
 case atStart=>exact⟨0,by omega,rfl,Below.refl _ _,HN.out _⟩
 case round=>
  obtain⟨k,hk,rfl,hbw,hown⟩:=hrel;have Hbw:=hI hbw;have Hown:=hI hown;rcases Nat.lt_or_ge k n with hlt|hge
  ·obtain⟨b,off,x,rfl,hx,d0,d1,d2,d3⟩:=HX.out.at (Below.refl _ _) hlt
   have hkn:(k:Int)<(n:Int):=by omega
   have hk0:(0:Int)≤(k:Int):=Int.natCast_nonneg _;have hkw:IntKind.i64.wrap ((k:Int)+1)=(k:Int)+1:=IntWalk.i64_in _ (by omega);have Hxc:=hI (show qcn ((xs.take (k+1)).map rgOf)=qcn ((xs.take k).map rgOf)++rrow (loC x.lo x.le,upC x.hi x.he)by rw[qb8 hx,List.map_append,←qdy];rfl);have Hcell:=hI (fun w' (hb:Below w.heap.size w w')=>And.intro ((hb.cell (p:=⟨b,off+k*4,none⟩) (World.block_lt_of_cell? _ _ d0)).trans d0) (And.intro ((hb.cell (p:=⟨b,off+k*4+1,none⟩) (World.block_lt_of_cell? _ _ d1)).trans d1) (And.intro ((hb.cell (p:=⟨b,off+k*4+2,none⟩) (World.block_lt_of_cell? _ _ d2)).trans d2) ((hb.cell (p:=⟨b,off+k*4+3,none⟩) (World.block_lt_of_cell? _ _ d3)).trans d3))));obtain⟨c0,c1,c2,c3⟩:=Hcell.out _ hbw;have HLx:=hI (fun w'=>HL.out x.lo x.le w');have HUx:=hI (fun w'=>HU.out x.hi x.he w');unfold rcA rcut at HLx HUx;clear hx hbw hown HL HU d0 d1 d2 d3;generalize loC x.lo x.le=lc at*;generalize upC x.hi x.he=uc at*;go_upto_region 5 with fail
   refine wp_region_held_drew (S:=(fun w'=>w'.cell? ⟨b,off+k*4,none⟩=some (.string x.lo)∧w'.cell? ⟨b,off+k*4+1,none⟩=some (.string x.hi)∧w'.cell? ⟨b,off+k*4+2,none⟩=some (.int .i64 x.le)∧w'.cell? ⟨b,off+k*4+3,none⟩=some (.int .i64 x.he))) (by kernel_rfl) (by exact Hcell.out _ (Below.via Hbw.out (bwD wr) Hbw.out.size)) (fun hHeld=>?_)
   refine' tk 0 ?_;(try simp only[tkS]);refine' tk 1 ?_;(try simp only[tkS]);refine' tk 2 ?_;(try simp only[tkS]);refine' tk 3 ?_;(try simp only[tkS]);refine' tk 4 ?_;(try simp only[tkS]);refine' tk 5 ?_;(try simp only[tkS]);refine' tk 6 ?_;(try simp only[tkS]);refine' tk 7 ?_;(try simp only[tkS]);refine' tk 8 ?_;(try simp only[tkS]);refine' tk 9 ?_;(try simp only[tkS]);refine' tk 10 ?_;(try simp only[tkS]);refine' tk 12 ?_;(try simp only[tkS]);refine' tk 13 ?_;(try simp only[tkS]);refine' tk 14 ?_;(try simp only[tkS]);refine' tk 15 ?_;(try simp only[tkS]);refine' tk 16 ?_;(try simp only[tkS]);refine' tk 17 ?_;(try simp only[tkS]);refine' tk 18 ?_;(try simp only[tkS]);refine' tk 19 ?_;(try simp only[tkS]);refine' tk 20 ?_;(try simp only[tkS]);refine' tk 21 ?_;(try simp only[tkS]);refine tk1 11 (fun K hK=>?_)
   go_simp;go_at_call 89;refine(HLx.out _).mono ?_
   rintro e5 w11 ⟨rfl,hb11⟩;have H11:=hI (Below.via (Below.via Hbw.out (bwD wr) Hbw.out.size) hb11 (Below.size (Below.via Hbw.out (bwD wr) Hbw.out.size)));have Hbo11:=hI hb11;clear hb11;refine hK.out _ _ (by exact Hcell.out _ (H11.out)) (fun hHeld=>?_)
   clear hK K;(try simp only[tkS]);refine tk1 22 (fun K hK=>?_)
   go_simp;go_at_call 90;refine(HUx.out _).mono ?_
   rintro e5 w22 ⟨rfl,hb22⟩;have H22:=hI (Below.via (H11.out) hb22 (Below.size (H11.out)));have Hbo22:=hI hb22;clear hb22;refine hK.out _ _ (by exact Hcell.out _ (H22.out)) (fun hHeld=>?_)
   clear hK K;(try simp only[tkS]);refine' tk 23 ?_;(try simp only[tkS]);refine tk1 24 (fun K hK=>?_)
   go_simp;refine hK.out _ _ (by exact Hcell.out _ (Below.alloc (H22.out) (Below.size (H22.out)) (.cells #[.int .i64 lc.b,.string lc.s,.int .i64 lc.d,.int .i64 uc.b,.string uc.s,.int .i64 uc.d] 119))) (fun hHeld=>?_)
   clear hK K;(try simp only[tkS]);refine tk1 25 (fun K hK=>?_)
   refine quk ER (by decide) (rrow (lc,uc)) (by rfl) _ _ (by rfl) w.heap.size k _ _ _ (by rfl) (by rfl) (by exact World.ownsRow.alloc (qaf (qaf (qaf Hown.out (bwD wr)) Hbo11.out) Hbo22.out) _) (by exact heap_alloc_new _ _) (by rfl) (one6 (lc,uc)) (by omega) (by decide) (by exact Below.size (Below.alloc (H22.out) (Below.size (H22.out)) (.cells #[.int .i64 lc.b,.string lc.s,.int .i64 lc.d,.int .i64 uc.b,.string uc.s,.int .i64 uc.d] 119))) ?_
   intro g5 cap5 w5 hown' hg' _ _;have Hb5:=hI (Below.grown (Below.alloc (H22.out) (Below.size (H22.out)) (.cells #[.int .i64 lc.b,.string lc.s,.int .i64 lc.d,.int .i64 uc.b,.string uc.s,.int .i64 uc.d] 119)) hg' (Below.size (Below.alloc (H22.out) (Below.size (H22.out)) (.cells #[.int .i64 lc.b,.string lc.s,.int .i64 lc.d,.int .i64 uc.b,.string uc.s,.int .i64 uc.d] 119))) (fun q hq=>(Hown.out.lt q hq).1));have Hown5:=hI hown';clear hown' hg';refine hK.out _ _ (by exact Hcell.out _ (Hb5.out)) (fun hHeld=>?_)
   clear hK K;(try simp only[tkS]);refine' tk 26 ?_;(try simp only[tkS]);refine tkD ?_ _
   go_wp2_with fail
   go_roundw
   case rel=>exact⟨k+1,by omega,by go_num,Hb5.out,by rw[Hxc.out];exact Hown5.out⟩
   case measure=>simp[intOf]<;>omega
  ·obtain rfl:k=n:=by omega
   have hkn:¬(k:Int)<(k:Int):=by omega
   go_wp2_with fail
   go_ret
   exact⟨_,rfl,by have:=Hown.out;rw[List.take_of_length_le (by rw[Hln.out];exact Nat.le_refl _)]at this;exact this,Hbw.out⟩
def ivR(r:RP):Iv:=⟨if r.1.b=0 then r.1.s else⟨#[]⟩,if r.2.b=0 then r.2.s else⟨#[]⟩,if r.1.b=0 then(if r.1.d=1 then 0 else 1)else 2,if r.2.b=0 then(if r.2.d=1 then 1 else 0)else 2⟩
set_option maxRecDepth 10000 in
theorem qhy(v:Value)(rs:List RP)(w:World)(h:Rgs w v rs)(hn:rs.length<100000):
  Calls Tryz.prog 78 #[v] w (RetP (fun r w'=>∃a c,r=.slice a rs.length c∧Ivs w' (.slice a rs.length c) (rs.map ivR)) w):=by
 obtain⟨a,c,rfl,hc1,hc2⟩:=h.open;unfold maxLen at hc2;have HX:=hI h;clear h;generalize hln:rs.length=n at*;have Hln:=hI hln;clear hln;have HN:=hI (fun W:World=>World.ownsRow_nil W W.heap.size 46 4)
 go_enter Tryz.func78,Tryz.ntmps78
 go_wp2_with fail
 go_loopw [4,3] (fun i out wr=>∃(k:Nat),k≤n∧i=.int .i64 (k:Int)∧Below w.heap.size w wr∧wr.ownsRow w.heap.size 46 4 out k ((((rs.take k).map ivR).map Iv.row).flatten)) (fun i _ _=>n-(intOf i).toNat)
 case atStart=>exact⟨0,by omega,rfl,Below.refl _ _,HN.out _⟩
 case round=>
  obtain⟨k,hk,rfl,hbw,hown⟩:=hrel;have Hbw:=hI hbw;have Hown:=hI hown;rcases Nat.lt_or_ge k n with hlt|hge
  ·obtain⟨b,off,r,rfl,hx,c0,c1,c2,c3,c4,c5⟩:=HX.out.at hbw hlt
   have hkn:(k:Int)<(n:Int):=by omega
   have hk0:(0:Int)≤(k:Int):=Int.natCast_nonneg _;have hkw:IntKind.i64.wrap ((k:Int)+1)=(k:Int)+1:=IntWalk.i64_in _ (by omega);have Hxc:=hI (show((rs.take (k+1)).map ivR).map Iv.row=((rs.take k).map ivR).map Iv.row++[(ivR r).row]by rw[qb8 hx,List.map_append,List.map_append];rfl);have hblt:=World.block_lt_of_cell? _ _ c0;obtain⟨⟨b1,s1,d1⟩,b2,s2,d2⟩:=r;dsimp only at c0 c1 c2 c3 c4 c5;obtain⟨lo,hlo⟩:∃x,(ivR (⟨b1,s1,d1⟩,⟨b2,s2,d2⟩)).lo=x:=⟨_,rfl⟩
   obtain⟨hi,hhi⟩:∃x,(ivR (⟨b1,s1,d1⟩,⟨b2,s2,d2⟩)).hi=x:=⟨_,rfl⟩
   obtain⟨le,hle⟩:∃x,(ivR (⟨b1,s1,d1⟩,⟨b2,s2,d2⟩)).le=x:=⟨_,rfl⟩
   obtain⟨he,hhe⟩:∃x,(ivR (⟨b1,s1,d1⟩,⟨b2,s2,d2⟩)).he=x:=⟨_,rfl⟩
   have hiv:ivR (⟨b1,s1,d1⟩,⟨b2,s2,d2⟩)=⟨lo,hi,le,he⟩:=by rw[←hlo,←hhi,←hle,←hhe]
   rw[hiv]at Hxc;have Hcs:=hI (And.intro hlo (And.intro hhi (And.intro hle hhe)));clear hx hbw hown hlo hhi hle hhe hiv;have Hcell:=hI (fun w' (hb:Below wr.heap.size wr w')=>And.intro ((hb.cell (p:=⟨b,off+k*6+3,none⟩) hblt).trans c3) (And.intro ((hb.cell (p:=⟨b,off+k*6+4,none⟩) hblt).trans c4) ((hb.cell (p:=⟨b,off+k*6+5,none⟩) hblt).trans c5)))
   go_upto_if 22 with fail
   go_cut [6]from 12 to 50 (fun _ wx=>Below wr.heap.size wr wx∧Blk wx wr.heap.size #[.string lo,.string ⟨#[]⟩,.int .i64 le,.int .i64 2] 46)
   case first=>
    have hlo:=Hcs.out.1;have hle:=Hcs.out.2.2.1;unfold ivR at hlo hle;dsimp only at hlo hle;clear Hcs Hxc Hown HN Hcell;rcases Classical.em (b1=0)with h1|h1
    ·subst h1
     rw[if_pos rfl]at hlo hle;rcases Classical.em (d1=1)with e1|e1
     ·subst e1
      rw[if_pos rfl]at hle;subst hlo hle
      go_wp2_with fail
      go_meet;exact⟨qar wr (.cells #[.string s1,.string ⟨#[]⟩,.int .i64 0,.int .i64 2] 46) (.cells #[.int .i64 0,.string s1,.int .i64 1] 116),(Blk.new wr _ _).old _⟩
     ·rw[if_neg e1]at hle
      subst hlo hle;have e1b:(d1==1)=false:=beq_eq_false_iff_ne.2 e1;clear e1
      go_wp2_with fail
      go_meet;exact⟨qar wr (.cells #[.string s1,.string ⟨#[]⟩,.int .i64 1,.int .i64 2] 46) (.cells #[.int .i64 0,.string s1,.int .i64 d1] 116),(Blk.new wr _ _).old _⟩
    ·rw[if_neg h1]at hlo hle
     subst hlo hle;have h1b:(b1==0)=false:=beq_eq_false_iff_ne.2 h1;clear h1
     go_wp2_with fail
     go_meet;exact⟨qar wr (.cells #[.string ⟨#[]⟩,.string ⟨#[]⟩,.int .i64 2,.int .i64 2] 46) (.cells #[.int .i64 b1,.string s1,.int .i64 d1] 116),(Blk.new wr _ _).old _⟩
   case rest=>
    obtain⟨hbx,hB5⟩:=hcut
    rename World=>wx
    obtain⟨c3,c4,c5⟩:=Hcell.out _ hbx;obtain⟨⟨p0,p1,p2,p3⟩,f0,f1,f2,f3⟩:=qam hB5;have hlt5:=hB5.lt;have HB5:=hI hB5;have Hbx:=hI hbx;generalize hg5:wr.heap.size=B5 at*;have Hg5:=hI hg5;clear hbx hB5 hg5 Hcell c0 c1 c2
    go_upto_if 38 with fail
    go_cut [7]from 12 to 50 (fun _ wy=>Below B5 wr wy∧Blk wy B5 #[.string lo,.string hi,.int .i64 le,.int .i64 he] 46)
    case first=>
     have hhi:=Hcs.out.2.1;have hhe:=Hcs.out.2.2.2;unfold ivR at hhi hhe;dsimp only at hhi hhe;clear Hcs Hxc Hown HN;rcases Classical.em (b2=0)with h2|h2
     ·subst h2
      rw[if_pos rfl]at hhi hhe;rcases Classical.em (d2=1)with e2|e2
      ·subst e2
       rw[if_pos rfl]at hhe;subst hhi hhe
       go_wp2_with fail
       go_meet;exact⟨((((Hbx.out.setCell (p:=⟨B5,1,none⟩) (Nat.le_refl _) (.string s2)).setCell (p:=⟨B5,3,none⟩) (Nat.le_refl _) (.int .i64 0)).setCell (p:=⟨B5,3,none⟩) (Nat.le_refl _) (.int .i64 1)).alloc (by simp only[World.size_setCell];exact Nat.le_of_lt hlt5) (.cells #[.int .i64 0,.string s2,.int .i64 1] 116)),((((HB5.out.set 1 (.string s2)).set 3 (.int .i64 0)).set 3 (.int .i64 1)).old (.cells #[.int .i64 0,.string s2,.int .i64 1] 116))⟩
      ·rw[if_neg e2]at hhe
       subst hhi hhe;have e2b:(d2==1)=false:=beq_eq_false_iff_ne.2 e2;clear e2
       go_wp2_with fail
       go_meet;exact⟨(((Hbx.out.setCell (p:=⟨B5,1,none⟩) (Nat.le_refl _) (.string s2)).setCell (p:=⟨B5,3,none⟩) (Nat.le_refl _) (.int .i64 0)).alloc (by simp only[World.size_setCell];exact Nat.le_of_lt hlt5) (.cells #[.int .i64 0,.string s2,.int .i64 d2] 116)),(((HB5.out.set 1 (.string s2)).set 3 (.int .i64 0)).old (.cells #[.int .i64 0,.string s2,.int .i64 d2] 116))⟩
     ·rw[if_neg h2]at hhi hhe
      subst hhi hhe;have h2b:(b2==0)=false:=beq_eq_false_iff_ne.2 h2;clear h2
      go_wp2_with fail
      go_meet;exact⟨(Hbx.out.alloc (Nat.le_of_lt hlt5) (.cells #[.int .i64 b2,.string s2,.int .i64 d2] 116)),(HB5.out.old (.cells #[.int .i64 b2,.string s2,.int .i64 d2] 116))⟩
    case rest=>
     obtain⟨hby,hB⟩:=hcut;rw[←Hg5.out]at hby;have Hbx:=hI (Hbw.out.via hby Hbw.out.size);have Hown4:=hI (qaf Hown.out hby);obtain⟨⟨p0,p1,p2,p3⟩,-⟩:=qam hB;clear hby hB f0 f1 f2 f3
     go_wp2_with (at_builtin;refine qct EI (by decide) (Iv.row ⟨lo,hi,le,he⟩) rfl _ _ rfl w.heap.size _ _ _ rfl rfl Hown4.out rfl (one4 ⟨lo,hi,le,he⟩) (by omega) (by decide) Hbx.out.size ?_;intro v' w5 hown' hg';have Hb5:=hI (qat Hbx.out Hown4.out hg' Hbx.out.size);have Hown5:=hI hown';clear hown' hg')
     go_roundw
     case rel=>exact⟨k+1,by omega,by go_num,Hb5.out,by rw[Hxc.out,List.flatten_append,List.flatten_cons,List.flatten_nil,List.append_nil];exact Hown5.out⟩
     case measure=>simp[intOf]<;>omega
  ·obtain rfl:k=n:=by omega
   have hkn:¬(k:Int)<(k:Int):=by omega
   obtain⟨aa,cap,rfl,-,-⟩:=qas hown;have Hres:=hI (show Ivs wr (.slice aa k cap) (rs.map ivR)by have:=qi5 hown;rwa [List.take_of_length_le (by rw[Hln.out];exact Nat.le_refl _)]at this)
   go_wp2_with fail
   go_ret
   exact⟨_,rfl,⟨aa,cap,rfl,Hres.out⟩,Hbw.out⟩
def ltR(x y:Cut):Prop:=CG (toP x) (toP y)
instance (x y:Cut):Decidable (ltR x y):=inferInstanceAs (Decidable (CG _ _))
theorem qco:SWk ltR:=⟨fun _x=>qcm.irr _,fun h k=>qcm.tr h k,fun h k=>qcm.ntr h k⟩
def OkR(r:RP):Prop:=RokC r.1∧RokC r.2
def insR(S:List RP)(x:RP):List RP:=S.takeWhile (fun s=>decide (¬ltR x.1 s.1))++x::S.dropWhile (fun s=>decide (¬ltR x.1 s.1))
def qhx(rs:List RP)(S:List RP):List RP:=(rs.filter fun r=>decide (ltR r.1 r.2)).foldl insR S
def qne(rs:List RP):List RP:=qhx rs []
def qa3(rs:List RP):List RP:=qdz ltR (qne rs)
theorem qtx{α:Type}{p:α→Bool}:∀{S:List α} {s:α},s∈S.takeWhile p→p s=true
 |[],s,h=>by cases h
 |a::S,s,h=>by
  rw[List.takeWhile_cons]at h
  split at h
  ·rename_i ha
   rcases List.mem_cons.1 h with rfl|h
   ·exact ha
   ·exact qtx h
  ·cases h
theorem qq1{α:Type}{p:α→Bool}:∀{S D:List α} {d:α},S.dropWhile p=d::D→p d=false
 |[],D,d,h=>by cases h
 |a::S,D,d,h=>by
  rw[List.dropWhile_cons]at h
  split at h
  ·exact qq1 h
  ·rename_i ha
   cases h
   simpa using ha
theorem qdm(S:List RP)(x:RP):(insR S x).Perm (x::S):=by
 unfold insR;refine List.perm_middle.trans (List.Perm.cons x ?_)
 rw[List.takeWhile_append_dropWhile]
theorem qlm{S:List RP}{x:RP}(h:S.Pairwise fun p q=>¬ltR q.1 p.1):(insR S x).Pairwise fun p q=>¬ltR q.1 p.1:=by
 have hS:=List.takeWhile_append_dropWhile (p:=fun s:RP=>decide (¬ltR x.1 s.1)) (l:=S);unfold insR
 have h1:∀s∈S.takeWhile (fun s=>decide (¬ltR x.1 s.1)),¬ltR x.1 s.1:=fun s hs=>by
  have:=qtx hs
  simpa using this
 have h2:∀s∈S.dropWhile (fun s=>decide (¬ltR x.1 s.1)),ltR x.1 s.1:=by
  intro s hs;cases e:S.dropWhile (fun s=>decide (¬ltR x.1 s.1))with
  |nil=>rw[e]at hs;cases hs
  |cons d D=>
   have hd:ltR x.1 d.1:=by
    have:=qq1 e
    simpa using this
   rw[e]at hs;rcases List.mem_cons.1 hs with rfl|hs
   ·exact hd
   ·rw[←hS,e]at h
    have:=(List.pairwise_cons.1 (List.pairwise_append.1 h).2.1).1 s hs;exact qco.lt_le hd this
 rw[←hS]at h;obtain⟨a1,a2,a3⟩:=List.pairwise_append.1 h;refine List.pairwise_append.2 ⟨a1,List.pairwise_cons.2 ⟨fun s hs=>qco.asym (h2 s hs),a2⟩,fun p hp q hq=>?_⟩
 rcases List.mem_cons.1 hq with rfl|hq
 ·exact h1 p hp
 ·exact a3 p hp q hq
theorem qqq(l:List RP):∀S:List RP,S.Pairwise (fun p q=>¬ltR q.1 p.1)→(l.foldl insR S).Pairwise (fun p q=>¬ltR q.1 p.1)∧(l.foldl insR S).Perm (S++l):=by
 induction l with
 |nil=>intro S h;exact⟨h,by rw[List.append_nil];exact List.Perm.refl _⟩
 |cons x l ih=>
  intro S h;obtain⟨a,b⟩:=ih (insR S x) (qlm h);refine⟨a,b.trans ?_⟩
  refine(List.Perm.append_right l (qdm S x)).trans ?_
  exact(List.perm_middle (l₁:=S) (a:=x) (l₂:=l)).symm
theorem qgt(rs:List RP):(qne rs).Pairwise (fun p q=>¬ltR q.1 p.1)∧(qne rs).Perm (rs.filter fun r=>decide (ltR r.1 r.2)):=by
 have:=qqq (rs.filter fun r=>decide (ltR r.1 r.2)) [] .nil
 rwa [List.nil_append]at this
theorem qru(rs:List RP):∀r∈qne rs,ltR r.1 r.2:=fun r hr=>by
 have:=(List.mem_filter.1 ((qgt rs).2.mem_iff.1 hr)).2
 simpa using this
theorem qcd(rs:List RP):IsSet ltR (qa3 rs)∧∀c,Mem ltR (qa3 rs) c↔Mem ltR rs c:=by
 obtain⟨h1,h2⟩:=qgt rs;obtain⟨k1,k2⟩:=qkh qco (qru rs) h1;exact⟨k1,fun c=>by rw[qa3,k2,Mem.perm h2,qcv qco]⟩
theorem qdl{rs:List RP}{P:Cut→Prop}(h:∀r∈rs,P r.1∧P r.2):∀r∈qa3 rs,P r.1∧P r.2:=
 qf7 _ _ (fun r hr=>h r (List.mem_filter.1 ((qgt rs).2.mem_iff.1 hr)).1) (fun r hr=>by cases hr)
theorem qnf{r:RP}(h:¬ltR r.1 r.2)(l S:List RP):qhx (l++[r]) S=qhx l S:=by
 unfold qhx;rw[List.filter_append,List.filter_cons_of_neg (by simpa using h),List.filter_nil,List.append_nil]
theorem qow{r:RP}(h:ltR r.1 r.2)(l S:List RP):qhx (l++[r]) S=insR (qhx l S) r:=by
 unfold qhx;rw[List.filter_append,List.filter_cons_of_pos (by simpa using h),List.filter_nil,List.foldl_append]
 rfl
theorem qvq{S:List RP}{x:RP}{k:Nat}(h1:∀s∈S.take k,¬ltR x.1 s.1)(h2:∀s,S[k]?=some s→ltR x.1 s.1):insR S x=S.take k++x::S.drop k:=by
 have e:S.takeWhile (fun s=>decide (¬ltR x.1 s.1))=S.take k∧S.dropWhile (fun s=>decide (¬ltR x.1 s.1))=S.drop k:=by
  induction S generalizing k with
  |nil=>simp
  |cons a S ih=>
   cases k with
   |zero=>
    have:=h2 a rfl
    constructor
    ·rw[List.takeWhile_cons,if_neg (by simpa using this)];rfl
    ·rw[List.dropWhile_cons,if_neg (by simpa using this)];rfl
   |succ k=>
    have ha:=h1 a (by simp);obtain⟨i1,i2⟩:=ih (k:=k) (fun s hs=>h1 s (by simp[hs])) (fun s hs=>h2 s (by simpa using hs))
    constructor
    ·rw[List.takeWhile_cons,if_pos (by simpa using ha),i1];rfl
    ·rw[List.dropWhile_cons,if_pos (by simpa using ha),i2];rfl
 unfold insR;rw[e.1,e.2]
theorem Sl.takeK{w:World}{sz n cap k:Nat}{a:Option Addr}{rows:List (List Value)}(h:Sl w sz (.slice a n cap) rows)(hk:k≤n):Sl w sz (.slice a k k) (rows.take k):=by
 obtain⟨a',cap',hv,hc,hm,h⟩:=h;simp only[Value.slice.injEq]at hv;obtain⟨rfl,rfl,rfl⟩:=hv;refine⟨a,k,by rw[List.length_take,Nat.min_eq_left hk],by rw[List.length_take];omega,by omega,?_⟩
 rcases h with h|⟨b,off,rfl,hb,h⟩
 ·exact .inl (by omega)
 ·refine .inr ⟨b,off,rfl,hb,fun i j hi hj=>?_⟩
  rw[List.length_take]at hi;rw[h i j (by omega) hj];simp only[List.getD_eq_getElem?_getD];rw[List.getElem?_take_of_lt (by omega)]
theorem Sl.dropK{w:World}{sz n cap k b off:Nat}{rows:List (List Value)}(h:Sl w sz (.slice (some ⟨b,off,none⟩) n cap) rows)(hk:k<n):Sl w sz (.slice (some ⟨b,off+k*sz,none⟩) (n-k) (cap-k)) (rows.drop k):=by
 obtain⟨a',cap',hv,hc,hm,h⟩:=h;simp only[Value.slice.injEq]at hv;obtain⟨rfl,rfl,rfl⟩:=hv;refine⟨some ⟨b,off+k*sz,none⟩,cap-k,by rw[List.length_drop],by rw[List.length_drop];omega,by omega,?_⟩
 rcases h with h|⟨b',off',he,hb,h⟩
 ·omega
 ·cases he
  refine .inr ⟨b,off+k*sz,rfl,hb,fun i j hi hj=>?_⟩
  rw[List.length_drop]at hi;have:=h (k+i) j (by omega) hj;rw[show off+k*sz+i*sz+j=off+(k+i)*sz+j by rw[Nat.add_mul];omega,this];simp only[List.getD_eq_getElem?_getD];rw[List.getElem?_drop]
theorem qgs{t e size bytes:Nat}(E:ElemTy t e size bytes)(hsz:0<size){ops:Array Oper}{o:Oper}{a:Act}{K:Act→World→Prop}{Q:Exit→Act→World→Prop}{E':Prop}{W:World}
  (hgd:o.guard=none) (s x:Operand) (ho:o.op=.call { callee:=.builtin .append,args:=#[s,x],argTypes:=#[t,t] }) (ao ad:Option Addr) (n cap m c:Nat) (R1 R2:List (List Value))
  (hs:a.eval s=.slice ao n cap) (hx:a.eval x=.slice ad m c) (h1:Sl W size (.slice ao n cap) R1) (h2:Sl W size (.slice ad m c) R2) (hl1:∀r∈R1,r.length=size) (hl2:∀r∈R2,r.length=size) (hu:∀r∈R2,∀u∈r,u.oneCell'=true)
  (hm:0<m) (hnone:ao=none→cap=0) (hfull:cap<n+m) (hn:n+m<1000000) (hb:bytes≤1000)
  (h:∀v' w',w'.ownsRow W.heap.size e size v' (n+m) (R1.flatten++R2.flatten)→W.grownBy w' none→K (a.put o.dst v') w'):
  if Region.wanted o (yielded ops a.tmps)=true then Oper.wp Tryz.prog o a W K Q else E':=by
 have hi:=E.info;simp only[Option.map_eq_some_iff,Prod.mk.injEq]at hi;obtain⟨i,hi,⟨z,hz,hzs⟩,hsize,hby⟩:=hi;have hbb:(n+m)*bytes≤140737488355328:=Nat.le_trans (Nat.mul_le_mul (show n+m≤1000000 by omega) hb) (by decide);have hn1:R1.length=n:=by obtain⟨_,_,hv,_⟩:=Sl.open h1;cases hv;rfl
 have hn2:R2.length=m:=by obtain⟨_,_,hv,_⟩:=Sl.open h2;cases hv;rfl
 have hcap:n≤cap:=by obtain⟨_,_,hv,hc,_⟩:=Sl.open h1;cases hv;omega
 obtain⟨b2,off2,rfl⟩:∃b off,ad=some ⟨b,off,none⟩:=by
  obtain⟨_,_,hv,h1,_,h2⟩:=h2;cases hv
  rcases h2 with h2|⟨b,off,rfl,-,-⟩
  ·omega
  ·exact⟨b,off,rfl⟩
 refine step_append_grows hgd s x t ho e i z size bytes E.und hi hz hsize hby hzs hsz ao n cap R1.flatten hs (fun hq=>?_) (by rw[qcp hl1,hn1]) (fun b hq j u hj=>?_) ⟨b2,off2,none⟩ m c R2.flatten hx (by rw[qcp hl2,hn2]) (Sl.flat h2 hl2 hsz) ?_ hfull (by unfold maxLen;omega) hbb h
 ·have:=hnone hq;omega
 ·subst hq
  obtain⟨_,_,hv,q1,_,q2⟩:=id h1;cases hv
  rcases q2 with q2|⟨b1,off1,he,-,-⟩
  ·rw[List.length_eq_zero_iff.1 (show R1.length=0 by omega)]at hj
   simp at hj
  ·cases he
   exact Sl.flat h1 hl1 hsz j u hj
 ·intro u hu'
  obtain⟨r,hr,hu'⟩:=List.mem_flatten.1 hu';exact hu r hr u hu'
theorem ql7{t e size bytes:Nat}(E:ElemTy t e size bytes){ops:Array Oper}{o:Oper}{a:Act}{K:Act→World→Prop}{Q:Exit→Act→World→Prop}{E':Prop}{W:World}
  (hgd:o.guard=none) (s x:Operand) (ho:o.op=.call { callee:=.builtin .append,args:=#[s,x],argTypes:=#[t,t] }) (ao ad:Option Addr) (n cap c:Nat)
  (hs:a.eval s=.slice ao n cap) (hx:a.eval x=.slice ad 0 c) (hk:n≤cap) (h:K (a.put o.dst (.slice ao n cap)) W):
  if Region.wanted o (yielded ops a.tmps)=true then Oper.wp Tryz.prog o a W K Q else E':=by
 have hi:=E.info;simp only[Option.map_eq_some_iff,Prod.mk.injEq]at hi;obtain⟨i,hi,⟨z,hz,hzs⟩,hsize,hby⟩:=hi
 have hr:(Builtin.append_ #[t,t] o.type #[.slice ao n cap,.slice ad 0 c]).run Tryz.prog W=.ok (.slice ao n cap) W:=by
  cases ao<;>cases ad<;>simp[Builtin.append_,run_underlying E.und,sizeOf,typeInfo,hi,Builtin.lenOf,Builtin.firstCells,loadCells,loadCellsFrom,hk,storeCells]
 have hw:Region.wanted o (yielded ops a.tmps)=true:=by simp[Region.wanted,hgd]
 rw[if_pos hw];unfold Oper.wp;simp[execOp,ho,resolve,invoke,builtin,hs,hx,hr,Result.andThen];exact h
theorem qce{w w':World}(h:w.grownBy w' none):Below w.heap.size w w':=⟨h.os,h.tape,h.output,h.size,fun k hk=>h.block k hk (by simp)⟩
end Go.Proofs.YtacihodamichhaaGreatDoor
