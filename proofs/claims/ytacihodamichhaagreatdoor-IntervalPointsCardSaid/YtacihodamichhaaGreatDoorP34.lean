/- Parts of the proof. -/
import Derived.Test.YtacihodamichhaaGreatDoorP33
set_option maxHeartbeats 1000000
namespace Go.Proofs.YtacihodamichhaaGreatDoor
open Go.RowKit
def lowR:Cut:=⟨-1,⟨#[]⟩,0⟩
def qcs:Cut:=⟨1,⟨#[]⟩,0⟩
theorem qla:RokC lowR:=.inr ⟨.inr rfl,rfl,rfl⟩
theorem qix:RokC qcs:=.inr ⟨.inl rfl,rfl,rfl⟩
theorem qhn{α:Type}(en_:α):∀(X:List (α × α)) (a:α),(qc3 a en_ X).length=X.length+1
 |[],_=>rfl
 |p::X,_=>by show(qc3 p.2 en_ X).length+1=_;rw[qhn en_ X];rfl
theorem qp6(X Y:List RP):(qee ltR X Y).length=X.length*Y.length:=by
 unfold qee
 induction X with
 |nil=>simp
 |cons p X ih=>rw[List.map_cons,List.flatten_cons,List.length_append,ih,List.length_map,List.length_cons,Nat.add_mul,Nat.one_mul,Nat.add_comm]
theorem qqa:qb4 lowest:=⟨lowR,qla,rfl⟩
theorem qn0:qb4 highest:=⟨qcs,qix,rfl⟩
theorem qll{c:Cut}(h:qb4 c):c=lowest∨c=highest∨c.b=0:=by
 obtain⟨⟨b,s,d⟩,hr,rfl⟩:=h;rcases hr with⟨hb,-⟩|⟨hb|hb,hs,hd⟩
 ·exact .inr (.inr hb)
 ·dsimp only at hb hs hd
  subst hb hs hd;exact .inr (.inl rfl)
 ·dsimp only at hb hs hd
  subst hb hs hd;exact .inl rfl
theorem qlg{c:Cut}(h:qb4 c):¬CG c lowest:=by
 rcases qll h with rfl|rfl|hb
 ·exact qcm.irr _
 ·rw[qes]
  rintro(h|⟨h,-⟩)
  ·exact absurd h (by decide)
  ·exact absurd h (by decide)
 ·rw[qes,hb]
  rintro(h|⟨h,-⟩)
  ·exact absurd h (by decide)
  ·exact absurd h (by decide)
theorem qvm{c:Cut}(h:qb4 c)(hne:c≠highest):CG c highest:=by
 rcases qll h with rfl|rfl|hb
 ·rw[qes];exact .inl (by decide)
 ·exact absurd rfl hne
 ·rw[qes,hb];exact .inl (by decide)
theorem qmo{c:Cut}(h:qb4 c):¬CG highest c:=by
 rcases qll h with rfl|rfl|hb
 ·rw[qes]
  rintro(h|⟨h,-⟩)
  ·exact absurd h (by decide)
  ·exact absurd h (by decide)
 ·exact qcm.irr _
 ·rw[qes,hb]
  rintro(h|⟨h,-⟩)
  ·exact absurd h (by decide)
  ·exact absurd h (by decide)
theorem SetI.tp{xs:List Iv}{J:List RP}(h:SetI xs J):xs.map Iv.cuts=J.map tpR:=h.cuts
theorem SetI.known{xs:List Iv}{J:List RP}(h:SetI xs J):∀p∈xs.map Iv.cuts,qb4 p.1∧qb4 p.2:=fun p hp=>by
 rw[h.tp]at hp;obtain⟨r,hr,rfl⟩:=List.mem_map.1 hp;exact⟨⟨_,(h.ok r hr).1,rfl⟩,_,(h.ok r hr).2,rfl⟩
theorem qof{keep:Bool→Bool→Bool}{xs ys:List Iv}{Jx Jy:List RP}(hx:SetI xs Jx)(hy:SetI ys Jy){P:List Cut}
  (hP:P.Pairwise CG) (hsub:∀c∈P,c∈qbj ((xs++ys).map Iv.cuts)) (hcov:∀c∈qbj ((xs++ys).map Iv.cuts),∃c'∈P,cmpG c c'=0)
  {J:List RP} (hJ:IsSet ltR J) (hJo:∀r∈J,OkR r)
  (hmem:∀c,qb4 c→(Mem CG (J.map tpR) c↔CG c highest∧keep (memB CG (xs.map Iv.cuts) c) (memB CG (ys.map Iv.cuts) c)=true)):
  runR CG keep P (xs.map Iv.cuts) (ys.map Iv.cuts) []=J.map tpR:=by
 have hkn:∀c∈qbj ((xs++ys).map Iv.cuts),qb4 c:=fun c hc=>by
  unfold qbj at hc;rcases List.mem_append.1 hc with h|h
  ·simp only[List.mem_cons,List.not_mem_nil,or_false]at h
   rcases h with rfl|rfl
   ·exact qqa
   ·exact qn0
  ·obtain⟨l,hl,hcl⟩:=List.mem_flatten.1 h
   obtain⟨p,hp,rfl⟩:=List.mem_map.1 hl
   have hp2:qb4 p.1∧qb4 p.2:=by
    rw[List.map_append]at hp;rcases List.mem_append.1 hp with h|h
    ·exact hx.known p h
    ·exact hy.known p h
   simp only[List.mem_cons,List.not_mem_nil,or_false]at hcl;rcases hcl with rfl|rfl
   ·exact hp2.1
   ·exact hp2.2
 have hall:∀c∈qbj ((xs++ys).map Iv.cuts),c∈P:=fun c hc=>by
  obtain⟨c',h1,h2⟩:=hcov c hc;have h3:=qkx.1 h2;rw[qe7 c c' (hkn c hc) (hkn c' (hsub c' h1)) h3.1 h3.2];exact h1
 have hPk:∀c∈P,qb4 c:=fun c hc=>hkn c (hsub c hc)
 have hlo:lowest∈P:=hall _ (by unfold qbj;simp);have hhi:highest∈P:=hall _ (by unfold qbj;simp)
 have hends:∀{zs:List Iv},(∀z∈zs,z∈xs++ys)→∀p∈zs.map Iv.cuts,p.1∈P∧p.2∈P:=fun hz p hp=>by
  obtain⟨z,hzz,rfl⟩:=List.mem_map.1 hp
  have h1:∀c∈[z.cuts.1,z.cuts.2],c∈P:=fun c hc=>hall c (by
   unfold qbj
   exact List.mem_append_right _ (List.mem_flatten.2 ⟨_,List.mem_map.2 ⟨z.cuts,List.mem_map_of_mem (hz z hzz),rfl⟩,hc⟩))
  exact⟨h1 _ (by simp),h1 _ (by simp)⟩
 cases P with
 |nil=>cases hlo
 |cons a P=>
  obtain⟨ha,hP'⟩:=List.pairwise_cons.1 hP
  have hal:a=lowest:=by
   rcases List.mem_cons.1 hlo with h|h
   ·exact h.symm
   ·exact absurd (ha _ h) (qlg (hPk a (List.mem_cons_self ..)))
  have hne:(highest:Cut)≠lowest:=fun h=>absurd (congrArg Cut.b h) (by decide)
  have hhi':highest∈P:=by
   rcases List.mem_cons.1 hhi with h|h
   ·exact absurd (h.trans hal) hne
   ·exact h
  have hin:∀{c:Cut},c∈a::P→¬CG a c∨c∈P:=fun h=>by
   rcases List.mem_cons.1 h with rfl|h
   ·exact .inl (qcm.irr _)
   ·exact .inr h
  have hpX:∀{zs:List Iv},(∀z∈zs,z∈xs++ys)→∀p∈zs.map Iv.cuts,(¬CG a p.1∨p.1∈P)∧(¬CG a p.2∨p.2∈P):=fun hz p hp=>⟨hin (hends hz p hp).1,hin (hends hz p hp).2⟩
  obtain⟨hF1,hF2⟩:=qk8 qcm keep P a (xs.map Iv.cuts) (ys.map Iv.cuts) [] hP (by rw[hx.tp];exact qma hx.set) (by rw[hy.tp];exact qma hy.set) IsSet.nil (fun q hq=>by cases hq) (hpX (fun z hz=>List.mem_append_left _ hz)) (hpX (fun z hz=>List.mem_append_right _ hz));refine IsSet.uniq qcm qb4 qe7 hF1 (qma hJ) ?_ ?_ ?_
  ·exact qmd keep (a::P) _ _ [] hPk (fun p h=>by cases h)
  ·intro p hp
   obtain⟨r,hr,rfl⟩:=List.mem_map.1 hp;exact⟨⟨_,(hJo r hr).1,rfl⟩,_,(hJo r hr).2,rfl⟩
  ·intro c hc
   rw[hF2,hmem c hc]
   constructor
   ·rintro(h|⟨h1,⟨z,hz,hcz⟩,h3⟩)
    ·exact absurd h Mem.nil
    ·refine⟨?_,h3⟩
     have hzk:=hPk z (List.mem_cons_of_mem _ hz)
     by_cases hzh:z=highest
     ·rwa [←hzh]
     ·exact qcm.tr hcz (qvm hzk hzh)
   ·rintro⟨h1,h3⟩
    exact .inr ⟨by rw[hal];exact qlg hc,⟨highest,hhi',h1⟩,h3⟩
def SetP(L:List Iv)(r:Value)(w':World):Prop:=∃a c,r=.tuple #[.slice a (if 256<L.length then[]else L).length c,.int .i64 (if 256<L.length then 6 else 0)]∧Ivs w' (.slice a (if 256<L.length then[]else L).length c) (if 256<L.length then[]else L)
theorem qgy{keep:Bool→Bool→Bool}{xs ys:List Iv}{Jx Jy:List RP}(hx:SetI xs Jx)(hy:SetI ys Jy){J:List RP}(hJ:IsSet ltR J)(hJo:∀r∈J,OkR r)
  (hmem:∀c,qb4 c→(Mem CG (J.map tpR) c↔CG c highest∧keep (memB CG (xs.map Iv.cuts) c) (memB CG (ys.map Iv.cuts) c)=true)) {r:Value} {w':World} (h:qky keep xs ys r w'):SetP (J.map ivR) r w':=by
 obtain⟨P,⟨h1,h2,h3⟩,F,hF,h⟩:=h;have hFJ:=qof hx hy h1 h2 h3 hJ hJo hmem;rw[hF]at hFJ;have hl:F.length=(J.map ivR).length:=by rw[hFJ,List.length_map,List.length_map]
 have hiv:F.map ivOf=J.map ivR:=by
  rw[hFJ,List.map_map];exact List.map_congr_left fun r hr=>qmw (hJo r hr)
 unfold SetP;rcases h with⟨hb,rfl⟩|⟨hs,a,c,rfl,hi⟩
 ·rw[←hl]
  simp only[if_pos hb];exact⟨none,0,rfl,Sl.nil w' 4⟩
 ·rw[←hl]
  simp only[if_neg (show ¬256<F.length by omega)];rw[hl,hiv]at hi;exact⟨a,c,by rw[hl],hi⟩
theorem qky.tup{keep:Bool→Bool→Bool}{xs ys:List Iv}{r:Value}{w':World}(h:qky keep xs ys r w'):∃a n c e,r=.tuple #[.slice a n c,.int .i64 e]:=by
 obtain⟨P,-,F,-,⟨-,rfl⟩|⟨-,a,c,rfl,-⟩⟩:=h
 ·exact⟨none,0,0,6,rfl⟩
 ·exact⟨a,_,c,0,rfl⟩
theorem qn1(p q:Bool)(W:World):Calls Tryz.prog 93 #[.bool p,.bool q] W (Ret (.bool ((fun a b=>a||b) p q)) W):=by
 cases p<;>cases q
 all_goals
  go_enter Tryz.func93,Tryz.ntmps93
  go_wp2_with fail
  go_ret
  exact⟨rfl,Below.refl _ _⟩
theorem qsx(u v:Value)(xs ys:List Iv)(w:World)(hx:Ivs w u xs)(hy:Ivs w v ys)(hsx:∀x∈xs,x.short)(hsy:∀x∈ys,x.short)(hex:qa9 xs=0)(hey:qa9 ys=0)(hnx:xs.length≤256)(hny:ys.length≤256):
  Calls Tryz.prog 36 #[u,v] w (RetP (qky (fun a b=>a||b) xs ys) w):=by
 have H:=hI (qm5 93 (fun a b=>a||b) (fun p q W=>qn1 p q W) (enters_of Tryz.func93 (by kernel_rfl) rfl) u v xs ys w hx hy hsx hsy hex hey hnx hny);clear hx hy hsx hsy hex hey hnx hny
 go_enter Tryz.func36,Tryz.ntmps36
 go_wp2_with (go_at_call 91;refine(H.out).mono ?_;rintro e w1 ⟨r,rfl,hc,hb⟩;obtain⟨a1,n1,c1,e1,rfl⟩:=hc.tup;have Hc:=hI hc;have Hb:=hI hb;clear hc hb)
 go_ret2
 exact⟨_,rfl,Hc.out,Hb.out⟩
theorem qhz(p q:Bool)(W:World):Calls Tryz.prog 94 #[.bool p,.bool q] W (Ret (.bool ((fun a b=>a&&b) p q)) W):=by
 cases p<;>cases q
 all_goals
  go_enter Tryz.func94,Tryz.ntmps94
  go_wp2_with fail
  go_ret
  exact⟨rfl,Below.refl _ _⟩
theorem qkm(u v:Value)(xs ys:List Iv)(w:World)(hx:Ivs w u xs)(hy:Ivs w v ys)(hsx:∀x∈xs,x.short)(hsy:∀x∈ys,x.short)(hex:qa9 xs=0)(hey:qa9 ys=0)(hnx:xs.length≤256)(hny:ys.length≤256):
  Calls Tryz.prog 37 #[u,v] w (RetP (qky (fun a b=>a&&b) xs ys) w):=by
 have H:=hI (qm5 94 (fun a b=>a&&b) (fun p q W=>qhz p q W) (enters_of Tryz.func94 (by kernel_rfl) rfl) u v xs ys w hx hy hsx hsy hex hey hnx hny);clear hx hy hsx hsy hex hey hnx hny
 go_enter Tryz.func37,Tryz.ntmps37
 go_wp2_with (go_at_call 91;refine(H.out).mono ?_;rintro e w1 ⟨r,rfl,hc,hb⟩;obtain⟨a1,n1,c1,e1,rfl⟩:=hc.tup;have Hc:=hI hc;have Hb:=hI hb;clear hc hb)
 go_ret2
 exact⟨_,rfl,Hc.out,Hb.out⟩
theorem qhk(p q:Bool)(W:World):Calls Tryz.prog 92 #[.bool p,.bool q] W (Ret (.bool ((fun a _=>!a) p q)) W):=by
 cases p<;>cases q
 all_goals
  go_enter Tryz.func92,Tryz.ntmps92
  go_wp2_with fail
  go_ret
  exact⟨rfl,Below.refl _ _⟩
theorem qjc(u:Value)(xs:List Iv)(w:World)(hx:Ivs w u xs)(hsx:∀x∈xs,x.short)(hex:qa9 xs=0)(hnx:xs.length≤256):
  Calls Tryz.prog 35 #[u] w (RetP (qky (fun a _=>!a) xs []) w):=by
 have H:=hI (qm5 92 (fun a _=>!a) (fun p q W=>qhk p q W) (enters_of Tryz.func92 (by kernel_rfl) rfl) u (.slice none 0 0) xs [] w hx (Sl.nil w 4) hsx (fun x h=>by cases h) hex rfl hnx (Nat.zero_le _));clear hx hsx hex hnx
 go_enter Tryz.func35,Tryz.ntmps35
 go_wp2_with (go_at_call 91;refine(H.out).mono ?_;rintro e w1 ⟨r,rfl,hc,hb⟩;obtain⟨a1,n1,c1,e1,rfl⟩:=hc.tup;have Hc:=hI hc;have Hb:=hI hb;clear hc hb)
 go_ret2
 exact⟨_,rfl,Hc.out,Hb.out⟩
theorem qn2(p q:Bool)(W:World):Calls Tryz.prog 103 #[.bool p,.bool q] W (Ret (.bool ((fun a b=>a&&!b) p q)) W):=by
 cases p<;>cases q
 all_goals
  go_enter Tryz.func103,Tryz.ntmps103
  go_wp2_with fail
  go_ret
  exact⟨rfl,Below.refl _ _⟩
theorem qsz(u v:Value)(xs ys:List Iv)(w:World)(hx:Ivs w u xs)(hy:Ivs w v ys)(hsx:∀x∈xs,x.short)(hsy:∀x∈ys,x.short)(hex:qa9 xs=0)(hey:qa9 ys=0)(hnx:xs.length≤256)(hny:ys.length≤256):
  Calls Tryz.prog 45 #[u,v] w (RetP (qky (fun a b=>a&&!b) xs ys) w):=by
 have H:=hI (qm5 103 (fun a b=>a&&!b) (fun p q W=>qn2 p q W) (enters_of Tryz.func103 (by kernel_rfl) rfl) u v xs ys w hx hy hsx hsy hex hey hnx hny);clear hx hy hsx hsy hex hey hnx hny
 go_enter Tryz.func45,Tryz.ntmps45
 go_wp2_with (go_at_call 91;refine(H.out).mono ?_;rintro e w1 ⟨r,rfl,hc,hb⟩;obtain⟨a1,n1,c1,e1,rfl⟩:=hc.tup;have Hc:=hI hc;have Hb:=hI hb;clear hc hb)
 go_ret2
 exact⟨_,rfl,Hc.out,Hb.out⟩
theorem qme{r:RP}(h:OkR r)(hl:ltR r.1 r.2):rgOf (ivR r)=r:=by
 obtain⟨h1,h2⟩:=h;obtain⟨n1,n2⟩:=qvo h1 h2 hl;obtain⟨⟨b1,s1,d1⟩,b2,s2,d2⟩:=r;unfold rgOf ivR loC upC;dsimp only at h1 h2 n1 n2⊢
 congr 1
 ·rcases h1 with⟨hb,-,-,h0,h1⟩|⟨hb|hb,hs,hd⟩
  ·dsimp only at hb h0 h1
   subst hb;rcases(show d1=0∨d1=1 by omega)with rfl|rfl<;>simp
  ·exact absurd hb n1
  ·dsimp only at hb hs hd
   subst hb hs hd;simp
 ·rcases h2 with⟨hb,-,-,h0,h1⟩|⟨hb|hb,hs,hd⟩
  ·dsimp only at hb h0 h1
   subst hb;rcases(show d2=0∨d2=1 by omega)with rfl|rfl<;>simp
  ·dsimp only at hb hs hd
   subst hb hs hd;simp
  ·exact absurd hb n2
theorem SetI.rg{xs:List Iv}{J:List RP}(h:SetI xs J):xs.map rgOf=J:=by
 rw[h.eq,List.map_map]
 conv=>rhs;rw[←List.map_id J]
 exact List.map_congr_left fun r hr=>qme (h.ok r hr) (h.set.ne r hr)
theorem SetI.mem{xs:List Iv}{J:List RP}(h:SetI xs J)(r:Cut):memB CG (xs.map Iv.cuts) (toP r)=true↔Mem ltR J r:=by
 rw[qfw,h.tp,qhi]
theorem qja{J:List RP}(hJ:∀r∈J,OkR r){r:Cut}(h:Mem ltR J r):CG (toP r) highest:=by
 obtain⟨p,hp,-,h2⟩:=h;exact qcm.lt_le h2 (qmo ⟨_,(hJ p hp).2,rfl⟩)
theorem qg0{a b:Bool}{p q:Prop}(h1:a=true↔p)(h2:b=true↔q):((a||b)=true↔p∨q)∧((a&&b)=true↔p∧q)∧((!a)=true↔¬p)∧((a&&!b)=true↔p∧¬q):=by
 cases a<;>cases b<;>simp_all
section
variable {xs ys:List Iv} {Jx Jy:List RP} (hx:SetI xs Jx) (hy:SetI ys Jy)
include hx hy
theorem qp1(c:Cut)(hc:qb4 c):Mem CG ((qa3 (Jx++Jy)).map tpR) c↔CG c highest∧(memB CG (xs.map Iv.cuts) c||memB CG (ys.map Iv.cuts) c)=true:=by
 obtain⟨r,hr,rfl⟩:=hc;rw[qhi,(qcd _).2,Mem.app,(qg0 (hx.mem r) (hy.mem r)).1];exact⟨fun h=>⟨h.elim (qja hx.ok) (qja hy.ok),h⟩,fun h=>h.2⟩
theorem qp3(c:Cut)(hc:qb4 c):Mem CG ((qa3 (qee ltR Jx Jy)).map tpR) c↔CG c highest∧(memB CG (xs.map Iv.cuts) c&&memB CG (ys.map Iv.cuts) c)=true:=by
 obtain⟨r,hr,rfl⟩:=hc;rw[qhi,(qcd _).2,qgw qco,(qg0 (hx.mem r) (hy.mem r)).2.1];exact⟨fun h=>⟨qja hx.ok h.1,h⟩,fun h=>h.2⟩
end
theorem qmv{r:Cut}(h:RokC r):¬ltR r lowR:=qlg ⟨r,h,rfl⟩
theorem qvp{r:Cut}(h:RokC r):¬ltR qcs r:=qmo ⟨r,h,rfl⟩
theorem qi8{J:List RP}(hs:IsSet ltR J)(hok:∀r∈J,OkR r){r:Cut}(hr:RokC r):Mem ltR (qc3 lowR qcs J) r↔ltR r qcs∧¬Mem ltR J r:=by
 constructor
 ·intro h
  have hlt:ltR r qcs:=by
   obtain⟨p,hp,-,h2⟩:=h;have hp2:=(qjf (P:=RokC) qcs qix J lowR qla (fun q hq=>hok q hq) p hp).2;exact qco.lt_le h2 (qvp hp2)
  exact⟨hlt,(qje qco qcs J lowR hs (fun p hp=>qmv (hok p hp).1) r (qmv hr) hlt).1 h⟩
 ·rintro⟨h1,h2⟩
  exact(qje qco qcs J lowR hs (fun p hp=>qmv (hok p hp).1) r (qmv hr) h1).2 h2
theorem qp4{xs:List Iv}{Jx:List RP}(hx:SetI xs Jx)(c:Cut)(hc:qb4 c):Mem CG ((qa3 (qc3 lowR qcs Jx)).map tpR) c↔CG c highest∧(!memB CG (xs.map Iv.cuts) c)=true:=by
 obtain⟨r,hr,rfl⟩:=hc;rw[qhi,(qcd _).2,qi8 hx.set hx.ok hr,(qg0 (hx.mem r) (hx.mem r)).2.2.1];exact Iff.rfl
theorem qp2{xs ys:List Iv}{Jx Jy:List RP}(hx:SetI xs Jx)(hy:SetI ys Jy)(c:Cut)(hc:qb4 c):Mem CG ((qa3 (qee ltR Jx (qa3 (qc3 lowR qcs Jy)))).map tpR) c↔CG c highest∧(memB CG (xs.map Iv.cuts) c&&!memB CG (ys.map Iv.cuts) c)=true:=by
 obtain⟨r,hr,rfl⟩:=hc;rw[qhi,(qcd _).2,qgw qco,(qcd _).2,qi8 hy.set hy.ok hr,(qg0 (hx.mem r) (hy.mem r)).2.2.2];exact⟨fun h=>⟨h.2.1,h.1,h.2.2⟩,fun h=>⟨h.2.1,h.1,h.2.2⟩⟩
theorem qr0{J:List RP}(h:∀r∈J,OkR r):∀r∈qa3 (qc3 lowR qcs J),OkR r:=qdl (P:=RokC) (qjf qcs qix _ _ qla h)
theorem qrz{X Y:List RP}(hX:∀r∈X,OkR r)(hY:∀r∈Y,OkR r):∀r∈qa3 (qee ltR X Y),OkR r:=qdl (P:=RokC) (qsm hX hY)
def SetQ(U:List Iv)(r:Value)(w':World):Prop:=∃a c,r=.tuple #[.slice a U.length c,.int .i64 0]∧Ivs w' (.slice a U.length c) U
theorem SetP.q{L:List Iv}{r:Value}{w':World}(h:SetP L r w')(hl:L.length≤256):SetQ L r w':=by
 unfold SetP at h;simp only[if_neg (show ¬256<L.length by omega)]at h;exact h
section
variable {xs ys:List Iv} {Jx Jy:List RP}
theorem SetI.n(hx:SetI xs Jx):xs.length≤256:=by rw[hx.length];exact hx.len
theorem qf4(hx:SetI xs Jx)(hy:SetI ys Jy)(h:Jx.length+Jy.length≤256):SetI ((qa3 (Jx++Jy)).map ivR) (qa3 (Jx++Jy)):=
 ⟨rfl,qdl (P:=RokC) (fun r hr=>(List.mem_append.1 hr).elim (hx.ok r) (hy.ok r)),(qcd _).1,Nat.le_trans (qd1 _) (by rw[List.length_append];exact h)⟩
theorem qey(hx:SetI xs Jx)(hy:SetI ys Jy)(h:Jx.length*Jy.length≤256):SetI ((qa3 (qee ltR Jx Jy)).map ivR) (qa3 (qee ltR Jx Jy)):=
 ⟨rfl,qrz hx.ok hy.ok,(qcd _).1,Nat.le_trans (qd1 _) (by rw[qp6];exact h)⟩
theorem qez(hx:SetI xs Jx)(h:Jx.length+1≤256):SetI ((qa3 (qc3 lowR qcs Jx)).map ivR) (qa3 (qc3 lowR qcs Jx)):=
 ⟨rfl,qr0 hx.ok,(qcd _).1,Nat.le_trans (qd1 _) (by rw[qhn];exact h)⟩
theorem qvs(J:List RP):(qa3 (qc3 lowR qcs J)).length≤J.length+1:=by
 have h:=qd1 (qc3 lowR qcs J)
 rwa [qhn]at h
theorem qf5(hx:SetI xs Jx)(hy:SetI ys Jy)(h:Jx.length*(Jy.length+1)≤256)(h2:Jy.length+1≤256):SetI ((qa3 (qee ltR Jx (qa3 (qc3 lowR qcs Jy)))).map ivR) (qa3 (qee ltR Jx (qa3 (qc3 lowR qcs Jy)))):=
 qey hx (qez hy h2) (Nat.le_trans (Nat.mul_le_mul (Nat.le_refl _) (qvs Jy)) h)
theorem qsw(hx:SetI xs Jx)(hy:SetI ys Jy)(h:Jx.length+Jy.length≤256)(u v:Value)(w:World)(hu:Ivs w u xs)(hv:Ivs w v ys):Calls Tryz.prog 36 #[u,v] w (RetP (SetQ ((qa3 (Jx++Jy)).map ivR)) w):=by
 have hJ:=qf4 hx hy h;refine(qsx u v xs ys w hu hv hx.short hy.short hx.err hy.err hx.n hy.n).mono ?_
 rintro e w' ⟨r,rfl,h,hb⟩;exact⟨r,rfl,(qgy hx hy hJ.set hJ.ok (fun c hc=>qp1 hx hy c hc) h).q hJ.n,hb⟩
theorem qkl(hx:SetI xs Jx)(hy:SetI ys Jy)(h:Jx.length*Jy.length≤256)(u v:Value)(w:World)(hu:Ivs w u xs)(hv:Ivs w v ys):Calls Tryz.prog 37 #[u,v] w (RetP (SetQ ((qa3 (qee ltR Jx Jy)).map ivR)) w):=by
 have hJ:=qey hx hy h;refine(qkm u v xs ys w hu hv hx.short hy.short hx.err hy.err hx.n hy.n).mono ?_
 rintro e w' ⟨r,rfl,h,hb⟩;exact⟨r,rfl,(qgy hx hy hJ.set hJ.ok (fun c hc=>qp3 hx hy c hc) h).q hJ.n,hb⟩
theorem qfy(hx:SetI xs Jx)(h:Jx.length+1≤256)(u:Value)(w:World)(hu:Ivs w u xs):Calls Tryz.prog 35 #[u] w (RetP (SetQ ((qa3 (qc3 lowR qcs Jx)).map ivR)) w):=by
 have hJ:=qez hx h;refine(qjc u xs w hu hx.short hx.err hx.n).mono ?_
 rintro e w' ⟨r,rfl,h,hb⟩;exact⟨r,rfl,(qgy hx SetI.nil hJ.set hJ.ok (fun c hc=>qp4 hx c hc) h).q hJ.n,hb⟩
theorem qsy(hx:SetI xs Jx)(hy:SetI ys Jy)(h:Jx.length*(Jy.length+1)≤256)(h2:Jy.length+1≤256)(u v:Value)(w:World)(hu:Ivs w u xs)(hv:Ivs w v ys):Calls Tryz.prog 45 #[u,v] w (RetP (SetQ ((qa3 (qee ltR Jx (qa3 (qc3 lowR qcs Jy)))).map ivR)) w):=by
 have hJ:=qf5 hx hy h h2;refine(qsz u v xs ys w hu hv hx.short hy.short hx.err hy.err hx.n hy.n).mono ?_
 rintro e w' ⟨r,rfl,h,hb⟩;exact⟨r,rfl,(qgy hx hy hJ.set hJ.ok (fun c hc=>qp2 hx hy c hc) h).q hJ.n,hb⟩
end
end Go.Proofs.YtacihodamichhaaGreatDoor
