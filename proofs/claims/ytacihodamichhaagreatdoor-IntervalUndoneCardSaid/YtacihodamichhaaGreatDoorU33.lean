/- Parts of the proof. -/
import Derived.Test.YtacihodamichhaaGreatDoorU32
set_option maxHeartbeats 4000000
namespace Go.Proofs.YtacihodamichhaaGreatDoor
open Go.RowKit
def lowR:Cut:=⟨-1,⟨#[]⟩,0⟩
def qe6:Cut:=⟨1,⟨#[]⟩,0⟩
theorem qlg:RokC lowR:=.inr ⟨.inr rfl,rfl,rfl⟩
theorem qi2:RokC qe6:=.inr ⟨.inl rfl,rfl,rfl⟩
theorem qkt{α:Type}(en_:α):∀(X:List (α × α)) (a:α),(qf4 a en_ X).length=X.length+1
 |[],_=>rfl
 |p::X,_=>by show(qf4 p.2 en_ X).length+1=_;rw[qkt en_ X];rfl
theorem qqz(X Y:List RP):(qdn ltR X Y).length=X.length*Y.length:=by
 unfold qdn
 induction X with
 |nil=>simp
 |cons p X ih=>rw[List.map_cons,List.flatten_cons,List.length_append,ih,List.length_map,List.length_cons,Nat.add_mul,Nat.one_mul,Nat.add_comm]
theorem qq6:qb8 lowest:=⟨lowR,qlg,rfl⟩
theorem qot:qb8 highest:=⟨qe6,qi2,rfl⟩
theorem qlr{c:Cut}(h:qb8 c):c=lowest∨c=highest∨c.b=0:=by
 obtain⟨⟨b,s,d⟩,hr,rfl⟩:=h;rcases hr with⟨hb,-⟩|⟨hb|hb,hs,hd⟩
 ·exact .inr (.inr hb)
 ·dsimp only at hb hs hd
  subst hb hs hd;exact .inr (.inl rfl)
 ·dsimp only at hb hs hd
  subst hb hs hd;exact .inl rfl
theorem qln{c:Cut}(h:qb8 c):¬CG c lowest:=by
 rcases qlr h with rfl|rfl|hb
 ·exact qco.irr _
 ·rw[qep]
  rintro(h|⟨h,-⟩)
  ·exact absurd h (by decide)
  ·exact absurd h (by decide)
 ·rw[qep,hb]
  rintro(h|⟨h,-⟩)
  ·exact absurd h (by decide)
  ·exact absurd h (by decide)
theorem qv5{c:Cut}(h:qb8 c)(hne:c≠highest):CG c highest:=by
 rcases qlr h with rfl|rfl|hb
 ·rw[qep];exact .inl (by decide)
 ·exact absurd rfl hne
 ·rw[qep,hb];exact .inl (by decide)
theorem qmz{c:Cut}(h:qb8 c):¬CG highest c:=by
 rcases qlr h with rfl|rfl|hb
 ·rw[qep]
  rintro(h|⟨h,-⟩)
  ·exact absurd h (by decide)
  ·exact absurd h (by decide)
 ·exact qco.irr _
 ·rw[qep,hb]
  rintro(h|⟨h,-⟩)
  ·exact absurd h (by decide)
  ·exact absurd h (by decide)
theorem SetI.tp{xs:List Iv}{J:List RP}(h:SetI xs J):xs.map Iv.cuts=J.map tpR:=h.cuts
theorem SetI.known{xs:List Iv}{J:List RP}(h:SetI xs J):∀p∈xs.map Iv.cuts,qb8 p.1∧qb8 p.2:=fun p hp=>by
 rw[h.tp]at hp;obtain⟨r,hr,rfl⟩:=List.mem_map.1 hp;exact⟨⟨_,(h.ok r hr).1,rfl⟩,_,(h.ok r hr).2,rfl⟩
theorem qo3{keep:Bool→Bool→Bool}{xs ys:List Iv}{Jx Jy:List RP}(hx:SetI xs Jx)(hy:SetI ys Jy){P:List Cut}
  (hP:P.Pairwise CG) (hsub:∀c∈P,c∈qbj ((xs++ys).map Iv.cuts)) (hcov:∀c∈qbj ((xs++ys).map Iv.cuts),∃c'∈P,cmpG c c'=0)
  {J:List RP} (hJ:IsSet ltR J) (hJo:∀r∈J,OkR r)
  (hmem:∀c,qb8 c→(Mem CG (J.map tpR) c↔CG c highest∧keep (memB CG (xs.map Iv.cuts) c) (memB CG (ys.map Iv.cuts) c)=true)):
  runR CG keep P (xs.map Iv.cuts) (ys.map Iv.cuts) []=J.map tpR:=by
 have hkn:∀c∈qbj ((xs++ys).map Iv.cuts),qb8 c:=fun c hc=>by
  unfold qbj at hc;rcases List.mem_append.1 hc with h|h
  ·simp only[List.mem_cons,List.not_mem_nil,or_false]at h
   rcases h with rfl|rfl
   ·exact qq6
   ·exact qot
  ·obtain⟨l,hl,hcl⟩:=List.mem_flatten.1 h
   obtain⟨p,hp,rfl⟩:=List.mem_map.1 hl
   have hp2:qb8 p.1∧qb8 p.2:=by
    rw[List.map_append]at hp;rcases List.mem_append.1 hp with h|h
    ·exact hx.known p h
    ·exact hy.known p h
   simp only[List.mem_cons,List.not_mem_nil,or_false]at hcl;rcases hcl with rfl|rfl
   ·exact hp2.1
   ·exact hp2.2
 have hall:∀c∈qbj ((xs++ys).map Iv.cuts),c∈P:=fun c hc=>by
  obtain⟨c',h1,h2⟩:=hcov c hc;have h3:=qk4.1 h2;rw[qe3 c c' (hkn c hc) (hkn c' (hsub c' h1)) h3.1 h3.2];exact h1
 have hPk:∀c∈P,qb8 c:=fun c hc=>hkn c (hsub c hc)
 have hlo:lowest∈P:=hall _ (by unfold qbj;simp);have hhi:highest∈P:=hall _ (by unfold qbj;simp)
 have hends:∀{zs:List Iv},(∀z∈zs,z∈xs++ys)→∀p∈zs.map Iv.cuts,p.1∈P∧p.2∈P:=fun hz p hp=>by
  obtain⟨z,hzz,rfl⟩:=List.mem_map.1 hp
  have h1:∀c∈[z.cuts.1,z.cuts.2],c∈P:=fun c hc=>hall c (by
   unfold qbj
   exact List.mem_append_right _ (List.mem_flatten.2 ⟨_,List.mem_map.2 ⟨z.cuts,List.mem_map_of_mem (hz z hzz),rfl⟩,hc⟩))
  exact⟨h1 _ (by simp),h1 _ (by simp)⟩
 cases P with
 |nil=>cases hlo
 |cons a P=>
  obtain⟨ha,hP'⟩:=List.pairwise_cons.1 hP
  have hal:a=lowest:=by
   rcases List.mem_cons.1 hlo with h|h
   ·exact h.symm
   ·exact absurd (ha _ h) (qln (hPk a (List.mem_cons_self ..)))
  have hne:(highest:Cut)≠lowest:=fun h=>absurd (congrArg Cut.b h) (by decide)
  have hhi':highest∈P:=by
   rcases List.mem_cons.1 hhi with h|h
   ·exact absurd (h.trans hal) hne
   ·exact h
  have hin:∀{c:Cut},c∈a::P→¬CG a c∨c∈P:=fun h=>by
   rcases List.mem_cons.1 h with rfl|h
   ·exact .inl (qco.irr _)
   ·exact .inr h
  have hpX:∀{zs:List Iv},(∀z∈zs,z∈xs++ys)→∀p∈zs.map Iv.cuts,(¬CG a p.1∨p.1∈P)∧(¬CG a p.2∨p.2∈P):=fun hz p hp=>⟨hin (hends hz p hp).1,hin (hends hz p hp).2⟩
  obtain⟨hF1,hF2⟩:=qle qco keep P a (xs.map Iv.cuts) (ys.map Iv.cuts) [] hP (by rw[hx.tp];exact qmh hx.set) (by rw[hy.tp];exact qmh hy.set) IsSet.nil (fun q hq=>by cases hq) (hpX (fun z hz=>List.mem_append_left _ hz)) (hpX (fun z hz=>List.mem_append_right _ hz));refine IsSet.uniq qco qb8 qe3 hF1 (qmh hJ) ?_ ?_ ?_
  ·exact qml keep (a::P) _ _ [] hPk (fun p h=>by cases h)
  ·intro p hp
   obtain⟨r,hr,rfl⟩:=List.mem_map.1 hp;exact⟨⟨_,(hJo r hr).1,rfl⟩,_,(hJo r hr).2,rfl⟩
  ·intro c hc
   rw[hF2,hmem c hc]
   constructor
   ·rintro(h|⟨h1,⟨z,hz,hcz⟩,h3⟩)
    ·exact absurd h Mem.nil
    ·refine⟨?_,h3⟩
     have hzk:=hPk z (List.mem_cons_of_mem _ hz)
     by_cases hzh:z=highest
     ·rwa [←hzh]
     ·exact qco.tr hcz (qv5 hzk hzh)
   ·rintro⟨h1,h3⟩
    exact .inr ⟨by rw[hal];exact qln hc,⟨highest,hhi',h1⟩,h3⟩
def SetP(L:List Iv)(r:Value)(w':World):Prop:=∃a c,r=.tuple #[.slice a (if 256<L.length then[]else L).length c,.int .i64 (if 256<L.length then 6 else 0)]∧Ivs w' (.slice a (if 256<L.length then[]else L).length c) (if 256<L.length then[]else L)
theorem qjv{keep:Bool→Bool→Bool}{xs ys:List Iv}{Jx Jy:List RP}(hx:SetI xs Jx)(hy:SetI ys Jy){J:List RP}(hJ:IsSet ltR J)(hJo:∀r∈J,OkR r)
  (hmem:∀c,qb8 c→(Mem CG (J.map tpR) c↔CG c highest∧keep (memB CG (xs.map Iv.cuts) c) (memB CG (ys.map Iv.cuts) c)=true)) {r:Value} {w':World} (h:qmb keep xs ys r w'):SetP (J.map ivR) r w':=by
 obtain⟨P,⟨h1,h2,h3⟩,F,hF,h⟩:=h;have hFJ:=qo3 hx hy h1 h2 h3 hJ hJo hmem;rw[hF]at hFJ;have hl:F.length=(J.map ivR).length:=by rw[hFJ,List.length_map,List.length_map]
 have hiv:F.map ivOf=J.map ivR:=by
  rw[hFJ,List.map_map];exact List.map_congr_left fun r hr=>qng (hJo r hr)
 unfold SetP;rcases h with⟨hb,rfl⟩|⟨hs,a,c,rfl,hi⟩
 ·rw[←hl]
  simp only[if_pos hb];exact⟨none,0,rfl,Sl.nil w' 4⟩
 ·rw[←hl]
  simp only[if_neg (show ¬256<F.length by omega)];rw[hl,hiv]at hi;exact⟨a,c,by rw[hl],hi⟩
theorem qmb.tup{keep:Bool→Bool→Bool}{xs ys:List Iv}{r:Value}{w':World}(h:qmb keep xs ys r w'):∃a n c e,r=.tuple #[.slice a n c,.int .i64 e]:=by
 obtain⟨P,-,F,-,⟨-,rfl⟩|⟨-,a,c,rfl,-⟩⟩:=h
 ·exact⟨none,0,0,6,rfl⟩
 ·exact⟨a,_,c,0,rfl⟩
theorem qou(p q:Bool)(W:World):Calls Tryz.prog 93 #[.bool p,.bool q] W (Ret (.bool ((fun a b=>a||b) p q)) W):=by
 cases p<;>cases q
 all_goals
  go_enter Tryz.func93,Tryz.ntmps93
  go_wp2_with fail
  go_ret
  exact⟨rfl,Below.refl _ _⟩
theorem qtl(u v:Value)(xs ys:List Iv)(w:World)(hx:Ivs w u xs)(hy:Ivs w v ys)(hsx:∀x∈xs,x.short)(hsy:∀x∈ys,x.short)(hex:qa5 xs=0)(hey:qa5 ys=0)(hnx:xs.length≤256)(hny:ys.length≤256):
  Calls Tryz.prog 36 #[u,v] w (RetP (qmb (fun a b=>a||b) xs ys) w):=by
 have H:=hI (qr5 93 (fun a b=>a||b) (fun p q W=>qou p q W) (enters_of Tryz.func93 (by kernel_rfl) rfl) u v xs ys w hx hy hsx hsy hex hey hnx hny);clear hx hy hsx hsy hex hey hnx hny
 go_enter Tryz.func36,Tryz.ntmps36
 go_wp2_with (go_at_call 91;refine(H.out).mono ?_;rintro e w1 ⟨r,rfl,hc,hb⟩;obtain⟨a1,n1,c1,e1,rfl⟩:=hc.tup;have Hc:=hI hc;have Hb:=hI hb;clear hc hb)
 go_ret2
 exact⟨_,rfl,Hc.out,Hb.out⟩
theorem qh8(p q:Bool)(W:World):Calls Tryz.prog 94 #[.bool p,.bool q] W (Ret (.bool ((fun a b=>a&&b) p q)) W):=by
 cases p<;>cases q
 all_goals
  go_enter Tryz.func94,Tryz.ntmps94
  go_wp2_with fail
  go_ret
  exact⟨rfl,Below.refl _ _⟩
theorem qkr(u v:Value)(xs ys:List Iv)(w:World)(hx:Ivs w u xs)(hy:Ivs w v ys)(hsx:∀x∈xs,x.short)(hsy:∀x∈ys,x.short)(hex:qa5 xs=0)(hey:qa5 ys=0)(hnx:xs.length≤256)(hny:ys.length≤256):
  Calls Tryz.prog 37 #[u,v] w (RetP (qmb (fun a b=>a&&b) xs ys) w):=by
 have H:=hI (qr5 94 (fun a b=>a&&b) (fun p q W=>qh8 p q W) (enters_of Tryz.func94 (by kernel_rfl) rfl) u v xs ys w hx hy hsx hsy hex hey hnx hny);clear hx hy hsx hsy hex hey hnx hny
 go_enter Tryz.func37,Tryz.ntmps37
 go_wp2_with (go_at_call 91;refine(H.out).mono ?_;rintro e w1 ⟨r,rfl,hc,hb⟩;obtain⟨a1,n1,c1,e1,rfl⟩:=hc.tup;have Hc:=hI hc;have Hb:=hI hb;clear hc hb)
 go_ret2
 exact⟨_,rfl,Hc.out,Hb.out⟩
theorem qhu(p q:Bool)(W:World):Calls Tryz.prog 92 #[.bool p,.bool q] W (Ret (.bool ((fun a _=>!a) p q)) W):=by
 cases p<;>cases q
 all_goals
  go_enter Tryz.func92,Tryz.ntmps92
  go_wp2_with fail
  go_ret
  exact⟨rfl,Below.refl _ _⟩
theorem qjj(u:Value)(xs:List Iv)(w:World)(hx:Ivs w u xs)(hsx:∀x∈xs,x.short)(hex:qa5 xs=0)(hnx:xs.length≤256):
  Calls Tryz.prog 35 #[u] w (RetP (qmb (fun a _=>!a) xs []) w):=by
 have H:=hI (qr5 92 (fun a _=>!a) (fun p q W=>qhu p q W) (enters_of Tryz.func92 (by kernel_rfl) rfl) u (.slice none 0 0) xs [] w hx (Sl.nil w 4) hsx (fun x h=>by cases h) hex rfl hnx (Nat.zero_le _));clear hx hsx hex hnx
 go_enter Tryz.func35,Tryz.ntmps35
 go_wp2_with (go_at_call 91;refine(H.out).mono ?_;rintro e w1 ⟨r,rfl,hc,hb⟩;obtain⟨a1,n1,c1,e1,rfl⟩:=hc.tup;have Hc:=hI hc;have Hb:=hI hb;clear hc hb)
 go_ret2
 exact⟨_,rfl,Hc.out,Hb.out⟩
theorem qmm{r:RP}(h:OkR r)(hl:ltR r.1 r.2):rgOf (ivR r)=r:=by
 obtain⟨h1,h2⟩:=h;obtain⟨n1,n2⟩:=qxd h1 h2 hl;obtain⟨⟨b1,s1,d1⟩,b2,s2,d2⟩:=r;unfold rgOf ivR loC upC;dsimp only at h1 h2 n1 n2⊢
 congr 1
 ·rcases h1 with⟨hb,-,-,h0,h1⟩|⟨hb|hb,hs,hd⟩
  ·dsimp only at hb h0 h1
   subst hb;rcases(show d1=0∨d1=1 by omega)with rfl|rfl<;>simp
  ·exact absurd hb n1
  ·dsimp only at hb hs hd
   subst hb hs hd;simp
 ·rcases h2 with⟨hb,-,-,h0,h1⟩|⟨hb|hb,hs,hd⟩
  ·dsimp only at hb h0 h1
   subst hb;rcases(show d2=0∨d2=1 by omega)with rfl|rfl<;>simp
  ·dsimp only at hb hs hd
   subst hb hs hd;simp
  ·exact absurd hb n2
theorem SetI.rg{xs:List Iv}{J:List RP}(h:SetI xs J):xs.map rgOf=J:=by
 rw[h.eq,List.map_map]
 conv=>rhs;rw[←List.map_id J]
 exact List.map_congr_left fun r hr=>qmm (h.ok r hr) (h.set.ne r hr)
theorem SetI.mem{xs:List Iv}{J:List RP}(h:SetI xs J)(r:Cut):memB CG (xs.map Iv.cuts) (toP r)=true↔Mem ltR J r:=by
 rw[qcf,h.tp,qio]
theorem qjg{J:List RP}(hJ:∀r∈J,OkR r){r:Cut}(h:Mem ltR J r):CG (toP r) highest:=by
 obtain⟨p,hp,-,h2⟩:=h;exact qco.lt_le h2 (qmz ⟨_,(hJ p hp).2,rfl⟩)
theorem qjx{a b:Bool}{p q:Prop}(h1:a=true↔p)(h2:b=true↔q):((a||b)=true↔p∨q)∧((a&&b)=true↔p∧q)∧((!a)=true↔¬p)∧((a&&!b)=true↔p∧¬q):=by
 cases a<;>cases b<;>simp_all
section
variable {xs ys:List Iv} {Jx Jy:List RP} (hx:SetI xs Jx) (hy:SetI ys Jy)
include hx hy
theorem qqt(c:Cut)(hc:qb8 c):Mem CG ((qa1 (Jx++Jy)).map tpR) c↔CG c highest∧(memB CG (xs.map Iv.cuts) c||memB CG (ys.map Iv.cuts) c)=true:=by
 obtain⟨r,hr,rfl⟩:=hc;rw[qio,(qb0 _).2,Mem.app,(qjx (hx.mem r) (hy.mem r)).1];exact⟨fun h=>⟨h.elim (qjg hx.ok) (qjg hy.ok),h⟩,fun h=>h.2⟩
theorem qqu(c:Cut)(hc:qb8 c):Mem CG ((qa1 (qdn ltR Jx Jy)).map tpR) c↔CG c highest∧(memB CG (xs.map Iv.cuts) c&&memB CG (ys.map Iv.cuts) c)=true:=by
 obtain⟨r,hr,rfl⟩:=hc;rw[qio,(qb0 _).2,qm4 qcd,(qjx (hx.mem r) (hy.mem r)).2.1];exact⟨fun h=>⟨qjg hx.ok h.1,h⟩,fun h=>h.2⟩
end
theorem qm8{r:Cut}(h:RokC r):¬ltR r lowR:=qln ⟨r,h,rfl⟩
theorem qv9{r:Cut}(h:RokC r):¬ltR qe6 r:=qmz ⟨r,h,rfl⟩
theorem qv4{J:List RP}(hs:IsSet ltR J)(hok:∀r∈J,OkR r){r:Cut}(hr:RokC r):Mem ltR (qf4 lowR qe6 J) r↔ltR r qe6∧¬Mem ltR J r:=by
 constructor
 ·intro h
  have hlt:ltR r qe6:=by
   obtain⟨p,hp,-,h2⟩:=h;have hp2:=(qjm (P:=RokC) qe6 qi2 J lowR qlg (fun q hq=>hok q hq) p hp).2;exact qcd.lt_le h2 (qv9 hp2)
  exact⟨hlt,(qjl qcd qe6 J lowR hs (fun p hp=>qm8 (hok p hp).1) r (qm8 hr) hlt).1 h⟩
 ·rintro⟨h1,h2⟩
  exact(qjl qcd qe6 J lowR hs (fun p hp=>qm8 (hok p hp).1) r (qm8 hr) h1).2 h2
theorem qqv{xs:List Iv}{Jx:List RP}(hx:SetI xs Jx)(c:Cut)(hc:qb8 c):Mem CG ((qa1 (qf4 lowR qe6 Jx)).map tpR) c↔CG c highest∧(!memB CG (xs.map Iv.cuts) c)=true:=by
 obtain⟨r,hr,rfl⟩:=hc;rw[qio,(qb0 _).2,qv4 hx.set hx.ok hr,(qjx (hx.mem r) (hx.mem r)).2.2.1];exact Iff.rfl
theorem qsq{J:List RP}(h:∀r∈J,OkR r):∀r∈qa1 (qf4 lowR qe6 J),OkR r:=qbv (P:=RokC) (qjm qe6 qi2 _ _ qlg h)
theorem qsp{X Y:List RP}(hX:∀r∈X,OkR r)(hY:∀r∈Y,OkR r):∀r∈qa1 (qdn ltR X Y),OkR r:=qbv (P:=RokC) (qg2 hX hY)
def EqP(xs ys:List Iv)(w:World)(e:Ending)(w':World):Prop:=(∃B:Bool,(B=true↔xs=ys)∧e=.returned (.bool B))∧Below w.heap.size w w'
theorem qxw(u v:Value)(xs ys:List Iv)(w:World)(hx:Ivs w u xs)(hy:Ivs w v ys)(hn:xs.length≤1000)(hm:ys.length≤1000):Calls Tryz.prog 26 #[u,v] w (EqP xs ys w):=by
 obtain⟨a,c,rfl,hc1,hc2⟩:=hx.open;obtain⟨a',c',rfl,hc1',hc2'⟩:=hy.open;unfold maxLen at hc2 hc2';have HX:=hI hx;have HY:=hI hy;clear hx hy;generalize hln:xs.length=n at*;generalize hlm:ys.length=m at*;have Hln:=hI hln;have Hlm:=hI hlm;clear hln hlm
 by_cases hne:n=m
 ·subst hne
  go_enter Tryz.func26,Tryz.ntmps26
  go_wp2_with fail
  go_loopw [5] (fun i wr=>∃k:Nat,k≤n∧i=.int .i64 (k:Int)∧Below w.heap.size w wr∧Hid (xs.take k=ys.take k)) (fun i _=>n-(intOf i).toNat)
  case atStart=>exact⟨0,by omega,rfl,Below.refl _ _,rfl⟩
  case round=>
   obtain⟨k,hk,rfl,hbw,hpre⟩:=hrel;rcases Nat.lt_or_ge k n with hlt|hge
   ·obtain⟨b,off,x,rfl,hxk,c0,c1,c2,c3⟩:=HX.out.at hbw hlt
    obtain⟨b',off',y,rfl,hyk,d0,d1,d2,d3⟩:=HY.out.at hbw hlt;have hkn:(k:Int)<(n:Int):=by omega
    have hik:IntKind.i64.wrap ((k:Int)+1)=(k:Int)+1:=IntWalk.i64_in _ (by omega);have HSx:=hI (fun w' (hb:Below wr.heap.size wr w')=>show w'.cell? ⟨b,off+k*4,none⟩=some (.string x.lo)∧w'.cell? ⟨b,off+k*4+1,none⟩=some (.string x.hi)∧w'.cell? ⟨b,off+k*4+2,none⟩=some (.int .i64 x.le)∧w'.cell? ⟨b,off+k*4+3,none⟩=some (.int .i64 x.he)∧w'.cell? ⟨b',off'+k*4,none⟩=some (.string y.lo)∧w'.cell? ⟨b',off'+k*4+1,none⟩=some (.string y.hi)∧w'.cell? ⟨b',off'+k*4+2,none⟩=some (.int .i64 y.le)∧w'.cell? ⟨b',off'+k*4+3,none⟩=some (.int .i64 y.he)from⟨qab hb c0,qab hb c1,qab hb c2,qab hb c3,qab hb d0,qab hb d1,qab hb d2,qab hb d3⟩);have Hbw:=hI hbw;have Hxy:=hI (And.intro hxk hyk);clear hbw hxk hyk c0 c1 c2 c3 d0 d1 d2 d3
    by_cases hxy:x=y
    ·subst hxy
     go_upto_region 6 with fail
     refine wpRg HSx.out (bwD wr) (by kernel_rfl) (fun hHeld=>?_)
     refine' tk 0 ?_;(try simp only[tkS]);refine' tk 1 ?_;(try simp only[tkS]);refine' tk 2 ?_;(try simp only[tkS]);refine' tk 3 ?_;(try simp only[tkS]);refine' tk 4 ?_;(try simp only[tkS]);refine' tk 5 ?_;(try simp only[tkS]);refine' tk 6 ?_;(try simp only[tkS]);refine' tk 7 ?_;(try simp only[tkS]);refine' tk 8 ?_;(try simp only[tkS]);refine tkD ?_ _
     go_wp2_with fail
     go_roundw
     case rel=>exact⟨k+1,by omega,by go_num,Hbw.out.dn 1,by
      show xs.take (k+1)=ys.take (k+1)
      obtain⟨h1,h2⟩:=List.getElem?_eq_some_iff.1 Hxy.out.1;obtain⟨h3,h4⟩:=List.getElem?_eq_some_iff.1 Hxy.out.2
      rw[List.take_succ_eq_append_getElem h1,List.take_succ_eq_append_getElem h3,hpre.out,h2,h4]⟩
     case measure=>simp[intOf]<;>omega
    ·have Hne:=hI (show xs≠ys from fun e=>hxy (by have h1:=Hxy.out.1;rw[e,Hxy.out.2]at h1;exact(Option.some.inj h1).symm))
     by_cases h1:x.lo=y.lo
     ·by_cases h2:x.hi=y.hi
      ·by_cases h3:x.le=y.le
       ·have h4:¬x.he=y.he:=fun h4=>hxy (by cases x;cases y;simp_all)
        have e4:(x.he==y.he)=false:=by simpa using h4
        clear hxy h4;rw[h1,h2,h3]at HSx;go_upto_region 6 with fail
        refine wpRg HSx.out (bwD wr) (by kernel_rfl) (fun hHeld=>?_)
        refine' tk 0 ?_;(try simp only[tkS]);refine' tk 1 ?_;(try simp only[tkS]);refine' tk 2 ?_;(try simp only[tkS]);refine' tk 3 ?_;(try simp only[tkS]);refine' tk 4 ?_;(try simp only[tkS]);refine' tk 5 ?_;(try simp only[tkS]);refine' tk 6 ?_;(try simp only[tkS]);refine' tk 7 ?_;(try simp only[tkS]);refine' tk 8 ?_;(try simp only[tkS]);refine tkD ?_ _
        go_wp2_with fail
        go_ret
        exact⟨⟨false,⟨fun h=>(by cases h),fun h=>absurd h Hne.out⟩,rfl⟩,Hbw.out.dn 1⟩
       ·have e3:(x.le==y.le)=false:=by simpa using h3
        clear hxy h3;rw[h1,h2]at HSx;go_upto_region 6 with fail
        refine wpRg HSx.out (bwD wr) (by kernel_rfl) (fun hHeld=>?_)
        refine' tk 0 ?_;(try simp only[tkS]);refine' tk 1 ?_;(try simp only[tkS]);refine' tk 2 ?_;(try simp only[tkS]);refine' tk 3 ?_;(try simp only[tkS]);refine' tk 4 ?_;(try simp only[tkS]);refine' tk 5 ?_;(try simp only[tkS]);refine' tk 6 ?_;(try simp only[tkS]);refine' tk 7 ?_;(try simp only[tkS]);refine' tk 8 ?_;(try simp only[tkS]);refine tkD ?_ _
        go_wp2_with fail
        go_ret
        exact⟨⟨false,⟨fun h=>(by cases h),fun h=>absurd h Hne.out⟩,rfl⟩,Hbw.out.dn 1⟩
      ·have e2:(x.hi.toList==y.hi.toList)=false:=qgb h2
       clear hxy h2;rw[h1]at HSx;go_upto_region 6 with fail
       refine wpRg HSx.out (bwD wr) (by kernel_rfl) (fun hHeld=>?_)
       refine' tk 0 ?_;(try simp only[tkS]);refine' tk 1 ?_;(try simp only[tkS]);refine' tk 2 ?_;(try simp only[tkS]);refine' tk 3 ?_;(try simp only[tkS]);refine' tk 4 ?_;(try simp only[tkS]);refine' tk 5 ?_;(try simp only[tkS]);refine' tk 6 ?_;(try simp only[tkS]);refine' tk 7 ?_;(try simp only[tkS]);refine' tk 8 ?_;(try simp only[tkS]);refine tkD ?_ _
       go_wp2_with fail
       go_ret
       exact⟨⟨false,⟨fun h=>(by cases h),fun h=>absurd h Hne.out⟩,rfl⟩,Hbw.out.dn 1⟩
     ·have e1:(x.lo.toList==y.lo.toList)=false:=qgb h1
      clear hxy h1;go_upto_region 6 with fail
      refine wpRg HSx.out (bwD wr) (by kernel_rfl) (fun hHeld=>?_)
      refine' tk 0 ?_;(try simp only[tkS]);refine' tk 1 ?_;(try simp only[tkS]);refine' tk 2 ?_;(try simp only[tkS]);refine' tk 3 ?_;(try simp only[tkS]);refine' tk 4 ?_;(try simp only[tkS]);refine' tk 5 ?_;(try simp only[tkS]);refine' tk 6 ?_;(try simp only[tkS]);refine' tk 7 ?_;(try simp only[tkS]);refine' tk 8 ?_;(try simp only[tkS]);refine tkD ?_ _
      go_wp2_with fail
      go_ret
      exact⟨⟨false,⟨fun h=>(by cases h),fun h=>absurd h Hne.out⟩,rfl⟩,Hbw.out.dn 1⟩
   ·obtain rfl:k=n:=by omega
    have hkn:¬(k:Int)<(k:Int):=by omega
    have Heq:=hI (show xs=ys by
     have:=hpre.out
     rwa [List.take_of_length_le (by rw[Hln.out];exact Nat.le_refl _),List.take_of_length_le (by rw[Hlm.out];exact Nat.le_refl _)]at this)
    have Hbw:=hI hbw;clear hbw hpre
    go_wp2_with fail
    go_ret
    exact⟨⟨true,⟨fun _=>Heq.out,fun _=>rfl⟩,rfl⟩,Hbw.out⟩
 ·have hne2:((n:Int)==(m:Int))=false:=by
   rw[beq_eq_false_iff_ne];omega
  go_enter Tryz.func26,Tryz.ntmps26
  go_wp2_with fail
  go_ret
  exact⟨⟨false,⟨fun h=>(by cases h),fun h=>absurd (by rw[←Hln.out,←Hlm.out,h]) hne⟩,rfl⟩,Below.refl _ _⟩
theorem qoa(u v:Value)(xs ys:List Iv)(w:World)(hx:Ivs w u xs)(hy:Ivs w v ys)(hn:xs.length≤1000)(hm:ys.length≤1000):Calls Tryz.prog 96 #[u,v] w (EqP xs ys w):=by
 obtain⟨a,c,rfl,hc1,hc2⟩:=hx.open;obtain⟨a',c',rfl,hc1',hc2'⟩:=hy.open;unfold maxLen at hc2 hc2';have HX:=hI hx;have HY:=hI hy;clear hx hy;generalize hln:xs.length=n at*;generalize hlm:ys.length=m at*;have Hln:=hI hln;have Hlm:=hI hlm;clear hln hlm
 by_cases hne:n=m
 ·subst hne
  go_enter Tryz.func96,Tryz.ntmps96
  go_wp2_with fail
  go_loopw [13] (fun i wr=>∃k:Nat,k≤n∧i=.int .i64 (k:Int)∧Below w.heap.size w wr∧Hid (xs.take k=ys.take k)) (fun i _=>n-(intOf i).toNat)
  case atStart=>exact⟨0,by omega,rfl,Below.refl _ _,rfl⟩
  case round=>
   obtain⟨k,hk,rfl,hbw,hpre⟩:=hrel;rcases Nat.lt_or_ge k n with hlt|hge
   ·obtain⟨b,off,x,rfl,hxk,c0,c1,c2,c3⟩:=HX.out.at hbw hlt
    obtain⟨b',off',y,rfl,hyk,d0,d1,d2,d3⟩:=HY.out.at hbw hlt;have hkn:(k:Int)<(n:Int):=by omega
    have hik:IntKind.i64.wrap ((k:Int)+1)=(k:Int)+1:=IntWalk.i64_in _ (by omega);have HSx:=hI (fun w' (hb:Below wr.heap.size wr w')=>show w'.cell? ⟨b,off+k*4,none⟩=some (.string x.lo)∧w'.cell? ⟨b,off+k*4+1,none⟩=some (.string x.hi)∧w'.cell? ⟨b,off+k*4+2,none⟩=some (.int .i64 x.le)∧w'.cell? ⟨b,off+k*4+3,none⟩=some (.int .i64 x.he)∧w'.cell? ⟨b',off'+k*4,none⟩=some (.string y.lo)∧w'.cell? ⟨b',off'+k*4+1,none⟩=some (.string y.hi)∧w'.cell? ⟨b',off'+k*4+2,none⟩=some (.int .i64 y.le)∧w'.cell? ⟨b',off'+k*4+3,none⟩=some (.int .i64 y.he)from⟨qab hb c0,qab hb c1,qab hb c2,qab hb c3,qab hb d0,qab hb d1,qab hb d2,qab hb d3⟩);have Hbw:=hI hbw;have Hxy:=hI (And.intro hxk hyk);clear hbw hxk hyk c0 c1 c2 c3 d0 d1 d2 d3
    by_cases hxy:x=y
    ·subst hxy
     go_upto_region 6 with fail
     refine wpRg HSx.out (bwD wr) (by kernel_rfl) (fun hHeld=>?_)
     refine' tk 0 ?_;(try simp only[tkS]);refine' tk 1 ?_;(try simp only[tkS]);refine' tk 2 ?_;(try simp only[tkS]);refine' tk 3 ?_;(try simp only[tkS]);refine' tk 4 ?_;(try simp only[tkS]);refine' tk 5 ?_;(try simp only[tkS]);refine' tk 6 ?_;(try simp only[tkS]);refine' tk 7 ?_;(try simp only[tkS]);refine' tk 8 ?_;(try simp only[tkS]);refine tkD ?_ _
     go_wp2_with fail
     go_roundw
     case rel=>exact⟨k+1,by omega,by go_num,Hbw.out.dn 1,by
      show xs.take (k+1)=ys.take (k+1)
      obtain⟨h1,h2⟩:=List.getElem?_eq_some_iff.1 Hxy.out.1;obtain⟨h3,h4⟩:=List.getElem?_eq_some_iff.1 Hxy.out.2
      rw[List.take_succ_eq_append_getElem h1,List.take_succ_eq_append_getElem h3,hpre.out,h2,h4]⟩
     case measure=>simp[intOf]<;>omega
    ·have Hne:=hI (show xs≠ys from fun e=>hxy (by have h1:=Hxy.out.1;rw[e,Hxy.out.2]at h1;exact(Option.some.inj h1).symm))
     by_cases h1:x.lo=y.lo
     ·by_cases h2:x.hi=y.hi
      ·by_cases h3:x.le=y.le
       ·have h4:¬x.he=y.he:=fun h4=>hxy (by cases x;cases y;simp_all)
        have e4:(x.he==y.he)=false:=by simpa using h4
        clear hxy h4;rw[h1,h2,h3]at HSx;go_upto_region 6 with fail
        refine wpRg HSx.out (bwD wr) (by kernel_rfl) (fun hHeld=>?_)
        refine' tk 0 ?_;(try simp only[tkS]);refine' tk 1 ?_;(try simp only[tkS]);refine' tk 2 ?_;(try simp only[tkS]);refine' tk 3 ?_;(try simp only[tkS]);refine' tk 4 ?_;(try simp only[tkS]);refine' tk 5 ?_;(try simp only[tkS]);refine' tk 6 ?_;(try simp only[tkS]);refine' tk 7 ?_;(try simp only[tkS]);refine' tk 8 ?_;(try simp only[tkS]);refine tkD ?_ _
        go_wp2_with fail
        go_ret
        exact⟨⟨false,⟨fun h=>(by cases h),fun h=>absurd h Hne.out⟩,rfl⟩,Hbw.out.dn 1⟩
       ·have e3:(x.le==y.le)=false:=by simpa using h3
        clear hxy h3;rw[h1,h2]at HSx;go_upto_region 6 with fail
        refine wpRg HSx.out (bwD wr) (by kernel_rfl) (fun hHeld=>?_)
        refine' tk 0 ?_;(try simp only[tkS]);refine' tk 1 ?_;(try simp only[tkS]);refine' tk 2 ?_;(try simp only[tkS]);refine' tk 3 ?_;(try simp only[tkS]);refine' tk 4 ?_;(try simp only[tkS]);refine' tk 5 ?_;(try simp only[tkS]);refine' tk 6 ?_;(try simp only[tkS]);refine' tk 7 ?_;(try simp only[tkS]);refine' tk 8 ?_;(try simp only[tkS]);refine tkD ?_ _
        go_wp2_with fail
        go_ret
        exact⟨⟨false,⟨fun h=>(by cases h),fun h=>absurd h Hne.out⟩,rfl⟩,Hbw.out.dn 1⟩
      ·have e2:(x.hi.toList==y.hi.toList)=false:=qgb h2
       clear hxy h2;rw[h1]at HSx;go_upto_region 6 with fail
       refine wpRg HSx.out (bwD wr) (by kernel_rfl) (fun hHeld=>?_)
       refine' tk 0 ?_;(try simp only[tkS]);refine' tk 1 ?_;(try simp only[tkS]);refine' tk 2 ?_;(try simp only[tkS]);refine' tk 3 ?_;(try simp only[tkS]);refine' tk 4 ?_;(try simp only[tkS]);refine' tk 5 ?_;(try simp only[tkS]);refine' tk 6 ?_;(try simp only[tkS]);refine' tk 7 ?_;(try simp only[tkS]);refine' tk 8 ?_;(try simp only[tkS]);refine tkD ?_ _
       go_wp2_with fail
       go_ret
       exact⟨⟨false,⟨fun h=>(by cases h),fun h=>absurd h Hne.out⟩,rfl⟩,Hbw.out.dn 1⟩
     ·have e1:(x.lo.toList==y.lo.toList)=false:=qgb h1
      clear hxy h1;go_upto_region 6 with fail
      refine wpRg HSx.out (bwD wr) (by kernel_rfl) (fun hHeld=>?_)
      refine' tk 0 ?_;(try simp only[tkS]);refine' tk 1 ?_;(try simp only[tkS]);refine' tk 2 ?_;(try simp only[tkS]);refine' tk 3 ?_;(try simp only[tkS]);refine' tk 4 ?_;(try simp only[tkS]);refine' tk 5 ?_;(try simp only[tkS]);refine' tk 6 ?_;(try simp only[tkS]);refine' tk 7 ?_;(try simp only[tkS]);refine' tk 8 ?_;(try simp only[tkS]);refine tkD ?_ _
      go_wp2_with fail
      go_ret
      exact⟨⟨false,⟨fun h=>(by cases h),fun h=>absurd h Hne.out⟩,rfl⟩,Hbw.out.dn 1⟩
   ·obtain rfl:k=n:=by omega
    have hkn:¬(k:Int)<(k:Int):=by omega
    have Heq:=hI (show xs=ys by
     have:=hpre.out
     rwa [List.take_of_length_le (by rw[Hln.out];exact Nat.le_refl _),List.take_of_length_le (by rw[Hlm.out];exact Nat.le_refl _)]at this)
    have Hbw:=hI hbw;clear hbw hpre
    go_wp2_with fail
    go_ret
    exact⟨⟨true,⟨fun _=>Heq.out,fun _=>rfl⟩,rfl⟩,Hbw.out⟩
 ·have hne2:((n:Int)==(m:Int))=false:=by
   rw[beq_eq_false_iff_ne];omega
  go_enter Tryz.func96,Tryz.ntmps96
  go_wp2_with fail
  go_ret
  exact⟨⟨false,⟨fun h=>(by cases h),fun h=>absurd (by rw[←Hln.out,←Hlm.out,h]) hne⟩,rfl⟩,Below.refl _ _⟩
end Go.Proofs.YtacihodamichhaaGreatDoor
