/- Parts of the proof. -/
import Derived.Test.YtacihodamichhaaGreatDoorL43
namespace Go.Proofs.YtacihodamichhaaGreatDoor
open Go.RowKit
set_option maxHeartbeats 2000000
def lowR:Cut:=⟨-1,⟨#[]⟩,0⟩
def qbx:Cut:=⟨1,⟨#[]⟩,0⟩
theorem qju:RokC lowR:=.inr ⟨.inr rfl,rfl,rfl⟩
theorem qhs:RokC qbx:=.inr ⟨.inl rfl,rfl,rfl⟩
theorem qgi{α:Type}(en_:α):∀(X:List (α × α)) (a:α),(qb6 a en_ X).length=X.length+1
 |[],_=>rfl
 |p::X,_=>by show(qb6 p.2 en_ X).length+1=_;rw[qgi en_ X];rfl
theorem qn4(X Y:List RP):(qej ltR X Y).length=X.length*Y.length:=by
 unfold qej
 induction X with
 |nil=>simp
 |cons p X ih=>rw[List.map_cons,List.flatten_cons,List.length_append,ih,List.length_map,List.length_cons,Nat.add_mul,Nat.one_mul,Nat.add_comm]
theorem qn8:qbz lowest:=⟨lowR,qju,rfl⟩
theorem qmh:qbz highest:=⟨qbx,qhs,rfl⟩
theorem qj4{c:Cut}(h:qbz c):c=lowest∨c=highest∨c.b=0:=by
 obtain⟨⟨b,s,d⟩,hr,rfl⟩:=h;rcases hr with⟨hb,-⟩|⟨hb|hb,hs,hd⟩
 ·exact .inr (.inr hb)
 ·dsimp only at hb hs hd
  subst hb hs hd;exact .inr (.inl rfl)
 ·dsimp only at hb hs hd
  subst hb hs hd;exact .inl rfl
theorem qj1{c:Cut}(h:qbz c):¬CG c lowest:=by
 rcases qj4 h with rfl|rfl|hb
 ·exact qce.irr _
 ·rw[qek]
  rintro(h|⟨h,-⟩)
  ·exact absurd h (by decide)
  ·exact absurd h (by decide)
 ·rw[qek,hb]
  rintro(h|⟨h,-⟩)
  ·exact absurd h (by decide)
  ·exact absurd h (by decide)
theorem qsy{c:Cut}(h:qbz c)(hne:c≠highest):CG c highest:=by
 rcases qj4 h with rfl|rfl|hb
 ·rw[qek];exact .inl (by decide)
 ·exact absurd rfl hne
 ·rw[qek,hb];exact .inl (by decide)
theorem qk7{c:Cut}(h:qbz c):¬CG highest c:=by
 rcases qj4 h with rfl|rfl|hb
 ·rw[qek]
  rintro(h|⟨h,-⟩)
  ·exact absurd h (by decide)
  ·exact absurd h (by decide)
 ·exact qce.irr _
 ·rw[qek,hb]
  rintro(h|⟨h,-⟩)
  ·exact absurd h (by decide)
  ·exact absurd h (by decide)
theorem SetI.tp{xs:List Iv}{J:List RP}(h:SetI xs J):xs.map Iv.cuts=J.map tpR:=h.cuts
theorem SetI.known{xs:List Iv}{J:List RP}(h:SetI xs J):∀p∈xs.map Iv.cuts,qbz p.1∧qbz p.2:=fun p hp=>by
 rw[h.tp]at hp;obtain⟨r,hr,rfl⟩:=List.mem_map.1 hp;exact⟨⟨_,(h.ok r hr).1,rfl⟩,_,(h.ok r hr).2,rfl⟩
theorem qhi{keep:Bool→Bool→Bool}{xs ys:List Iv}{Jx Jy:List RP}(hx:SetI xs Jx)(hy:SetI ys Jy){P:List Cut}
  (hP:P.Pairwise CG) (hsub:∀c∈P,c∈qa8 ((xs++ys).map Iv.cuts)) (hcov:∀c∈qa8 ((xs++ys).map Iv.cuts),∃c'∈P,cmpG c c'=0)
  {J:List RP} (hJ:IsSet ltR J) (hJo:∀r∈J,OkR r)
  (hmem:∀c,qbz c→(Mem CG (J.map tpR) c↔CG c highest∧keep (memB CG (xs.map Iv.cuts) c) (memB CG (ys.map Iv.cuts) c)=true)):
  runR CG keep P (xs.map Iv.cuts) (ys.map Iv.cuts) []=J.map tpR:=by
 have hkn:∀c∈qa8 ((xs++ys).map Iv.cuts),qbz c:=fun c hc=>by
  unfold qa8 at hc;rcases List.mem_append.1 hc with h|h
  ·simp only[List.mem_cons,List.not_mem_nil,or_false]at h
   rcases h with rfl|rfl
   ·exact qn8
   ·exact qmh
  ·obtain⟨l,hl,hcl⟩:=List.mem_flatten.1 h
   obtain⟨p,hp,rfl⟩:=List.mem_map.1 hl
   have hp2:qbz p.1∧qbz p.2:=by
    rw[List.map_append]at hp;rcases List.mem_append.1 hp with h|h
    ·exact hx.known p h
    ·exact hy.known p h
   simp only[List.mem_cons,List.not_mem_nil,or_false]at hcl;rcases hcl with rfl|rfl
   ·exact hp2.1
   ·exact hp2.2
 have hall:∀c∈qa8 ((xs++ys).map Iv.cuts),c∈P:=fun c hc=>by
  obtain⟨c',h1,h2⟩:=hcov c hc;have h3:=qjl.1 h2;rw[qeh c c' (hkn c hc) (hkn c' (hsub c' h1)) h3.1 h3.2];exact h1
 have hPk:∀c∈P,qbz c:=fun c hc=>hkn c (hsub c hc)
 have hlo:lowest∈P:=hall _ (by unfold qa8;simp);have hhi:highest∈P:=hall _ (by unfold qa8;simp)
 have hends:∀{zs:List Iv},(∀z∈zs,z∈xs++ys)→∀p∈zs.map Iv.cuts,p.1∈P∧p.2∈P:=fun hz p hp=>by
  obtain⟨z,hzz,rfl⟩:=List.mem_map.1 hp
  have h1:∀c∈[z.cuts.1,z.cuts.2],c∈P:=fun c hc=>hall c (by
   unfold qa8
   exact List.mem_append_right _ (List.mem_flatten.2 ⟨_,List.mem_map.2 ⟨z.cuts,List.mem_map_of_mem (hz z hzz),rfl⟩,hc⟩))
  exact⟨h1 _ (by simp),h1 _ (by simp)⟩
 cases P with
 |nil=>cases hlo
 |cons a P=>
  obtain⟨ha,hP'⟩:=List.pairwise_cons.1 hP
  have hal:a=lowest:=by
   rcases List.mem_cons.1 hlo with h|h
   ·exact h.symm
   ·exact absurd (ha _ h) (qj1 (hPk a (List.mem_cons_self ..)))
  have hne:(highest:Cut)≠lowest:=fun h=>absurd (congrArg Cut.b h) (by decide)
  have hhi':highest∈P:=by
   rcases List.mem_cons.1 hhi with h|h
   ·exact absurd (h.trans hal) hne
   ·exact h
  have hin:∀{c:Cut},c∈a::P→¬CG a c∨c∈P:=fun h=>by
   rcases List.mem_cons.1 h with rfl|h
   ·exact .inl (qce.irr _)
   ·exact .inr h
  have hpX:∀{zs:List Iv},(∀z∈zs,z∈xs++ys)→∀p∈zs.map Iv.cuts,(¬CG a p.1∨p.1∈P)∧(¬CG a p.2∨p.2∈P):=fun hz p hp=>⟨hin (hends hz p hp).1,hin (hends hz p hp).2⟩
  obtain⟨hF1,hF2⟩:=qjr qce keep P a (xs.map Iv.cuts) (ys.map Iv.cuts) [] hP (by rw[hx.tp];exact qku hx.set) (by rw[hy.tp];exact qku hy.set) IsSet.nil (fun q hq=>by cases hq) (hpX (fun z hz=>List.mem_append_left _ hz)) (hpX (fun z hz=>List.mem_append_right _ hz));refine IsSet.uniq qce qbz qeh hF1 (qku hJ) ?_ ?_ ?_
  ·exact qky keep (a::P) _ _ [] hPk (fun p h=>by cases h)
  ·intro p hp
   obtain⟨r,hr,rfl⟩:=List.mem_map.1 hp;exact⟨⟨_,(hJo r hr).1,rfl⟩,_,(hJo r hr).2,rfl⟩
  ·intro c hc
   rw[hF2,hmem c hc]
   constructor
   ·rintro(h|⟨h1,⟨z,hz,hcz⟩,h3⟩)
    ·exact absurd h Mem.nil
    ·refine⟨?_,h3⟩
     have hzk:=hPk z (List.mem_cons_of_mem _ hz)
     by_cases hzh:z=highest
     ·rwa [←hzh]
     ·exact qce.tr hcz (qsy hzk hzh)
   ·rintro⟨h1,h3⟩
    exact .inr ⟨by rw[hal];exact qj1 hc,⟨highest,hhi',h1⟩,h3⟩
def SetP(L:List Iv)(r:Value)(w':World):Prop:=∃a c,r=.tuple #[.slice a (if 256<L.length then[]else L).length c,.int .i64 (if 256<L.length then 6 else 0)]∧Ivs w' (.slice a (if 256<L.length then[]else L).length c) (if 256<L.length then[]else L)
theorem qib{keep:Bool→Bool→Bool}{xs ys:List Iv}{Jx Jy:List RP}(hx:SetI xs Jx)(hy:SetI ys Jy){J:List RP}(hJ:IsSet ltR J)(hJo:∀r∈J,OkR r)
  (hmem:∀c,qbz c→(Mem CG (J.map tpR) c↔CG c highest∧keep (memB CG (xs.map Iv.cuts) c) (memB CG (ys.map Iv.cuts) c)=true)) {r:Value} {w':World} (h:qkn keep xs ys r w'):SetP (J.map ivR) r w':=by
 obtain⟨P,⟨h1,h2,h3⟩,F,hF,h⟩:=h;have hFJ:=qhi hx hy h1 h2 h3 hJ hJo hmem;rw[hF]at hFJ;have hl:F.length=(J.map ivR).length:=by rw[hFJ,List.length_map,List.length_map]
 have hiv:F.map ivOf=J.map ivR:=by
  rw[hFJ,List.map_map];exact List.map_congr_left fun r hr=>qlc (hJo r hr)
 unfold SetP;rcases h with⟨hb,rfl⟩|⟨hs,a,c,rfl,hi⟩
 ·rw[←hl]
  simp only[if_pos hb];exact⟨none,0,rfl,Sl.nil w' 4⟩
 ·rw[←hl]
  simp only[if_neg (show ¬256<F.length by omega)];rw[hl,hiv]at hi;exact⟨a,c,by rw[hl],hi⟩
theorem qkn.tup{keep:Bool→Bool→Bool}{xs ys:List Iv}{r:Value}{w':World}(h:qkn keep xs ys r w'):∃a n c e,r=.tuple #[.slice a n c,.int .i64 e]:=by
 obtain⟨P,-,F,-,⟨-,rfl⟩|⟨-,a,c,rfl,-⟩⟩:=h
 ·exact⟨none,0,0,6,rfl⟩
 ·exact⟨a,_,c,0,rfl⟩
theorem qmi(p q:Bool)(W:World):Calls Tryz.prog 93 #[.bool p,.bool q] W (Ret (.bool ((fun a b=>a||b) p q)) W):=by
 cases p<;>cases q
 all_goals
  go_enter Tryz.func93,Tryz.ntmps93
  go_wp2_with fail
  go_ret
  exact⟨rfl,Below.refl _ _⟩
theorem qqn(u v:Value)(xs ys:List Iv)(w:World)(hx:Ivs w u xs)(hy:Ivs w v ys)(hsx:∀x∈xs,x.short)(hsy:∀x∈ys,x.short)(hex:qbl xs=0)(hey:qbl ys=0)(hnx:xs.length≤256)(hny:ys.length≤256):
  Calls Tryz.prog 36 #[u,v] w (RetP (qkn (fun a b=>a||b) xs ys) w):=by
 have H:=hI (qpa 93 (fun a b=>a||b) (fun p q W=>qmi p q W) (enters_of Tryz.func93 (by kernel_rfl) rfl) u v xs ys w hx hy hsx hsy hex hey hnx hny);clear hx hy hsx hsy hex hey hnx hny
 go_enter Tryz.func36,Tryz.ntmps36
 go_wp2_with (go_at_call 91;refine(H.out).mono ?_;rintro e w1 ⟨r,rfl,hc,hb⟩;obtain⟨a1,n1,c1,e1,rfl⟩:=hc.tup;have Hc:=hI hc;have Hb:=hI hb;clear hc hb)
 go_ret2
 exact⟨_,rfl,Hc.out,Hb.out⟩
theorem qgt(p q:Bool)(W:World):Calls Tryz.prog 94 #[.bool p,.bool q] W (Ret (.bool ((fun a b=>a&&b) p q)) W):=by
 cases p<;>cases q
 all_goals
  go_enter Tryz.func94,Tryz.ntmps94
  go_wp2_with fail
  go_ret
  exact⟨rfl,Below.refl _ _⟩
theorem qjd(u v:Value)(xs ys:List Iv)(w:World)(hx:Ivs w u xs)(hy:Ivs w v ys)(hsx:∀x∈xs,x.short)(hsy:∀x∈ys,x.short)(hex:qbl xs=0)(hey:qbl ys=0)(hnx:xs.length≤256)(hny:ys.length≤256):
  Calls Tryz.prog 37 #[u,v] w (RetP (qkn (fun a b=>a&&b) xs ys) w):=by
 have H:=hI (qpa 94 (fun a b=>a&&b) (fun p q W=>qgt p q W) (enters_of Tryz.func94 (by kernel_rfl) rfl) u v xs ys w hx hy hsx hsy hex hey hnx hny);clear hx hy hsx hsy hex hey hnx hny
 go_enter Tryz.func37,Tryz.ntmps37
 go_wp2_with (go_at_call 91;refine(H.out).mono ?_;rintro e w1 ⟨r,rfl,hc,hb⟩;obtain⟨a1,n1,c1,e1,rfl⟩:=hc.tup;have Hc:=hI hc;have Hb:=hI hb;clear hc hb)
 go_ret2
 exact⟨_,rfl,Hc.out,Hb.out⟩
theorem qgf(p q:Bool)(W:World):Calls Tryz.prog 92 #[.bool p,.bool q] W (Ret (.bool ((fun a _=>!a) p q)) W):=by
 cases p<;>cases q
 all_goals
  go_enter Tryz.func92,Tryz.ntmps92
  go_wp2_with fail
  go_ret
  exact⟨rfl,Below.refl _ _⟩
theorem qh3(u:Value)(xs:List Iv)(w:World)(hx:Ivs w u xs)(hsx:∀x∈xs,x.short)(hex:qbl xs=0)(hnx:xs.length≤256):
  Calls Tryz.prog 35 #[u] w (RetP (qkn (fun a _=>!a) xs []) w):=by
 have H:=hI (qpa 92 (fun a _=>!a) (fun p q W=>qgf p q W) (enters_of Tryz.func92 (by kernel_rfl) rfl) u (.slice none 0 0) xs [] w hx (Sl.nil w 4) hsx (fun x h=>by cases h) hex rfl hnx (Nat.zero_le _));clear hx hsx hex hnx
 go_enter Tryz.func35,Tryz.ntmps35
 go_wp2_with (go_at_call 91;refine(H.out).mono ?_;rintro e w1 ⟨r,rfl,hc,hb⟩;obtain⟨a1,n1,c1,e1,rfl⟩:=hc.tup;have Hc:=hI hc;have Hb:=hI hb;clear hc hb)
 go_ret2
 exact⟨_,rfl,Hc.out,Hb.out⟩
theorem qpw{r:RP}(h:OkR r)(hl:ltR r.1 r.2):rgOf (ivR r)=r:=by
 obtain⟨h1,h2⟩:=h;obtain⟨n1,n2⟩:=qt3 h1 h2 hl;obtain⟨⟨b1,s1,d1⟩,b2,s2,d2⟩:=r;unfold rgOf ivR loC upC;dsimp only at h1 h2 n1 n2⊢
 congr 1
 ·rcases h1 with⟨hb,-,-,h0,h1⟩|⟨hb|hb,hs,hd⟩
  ·dsimp only at hb h0 h1
   subst hb;rcases(show d1=0∨d1=1 by omega)with rfl|rfl<;>simp
  ·exact absurd hb n1
  ·dsimp only at hb hs hd
   subst hb hs hd;simp
 ·rcases h2 with⟨hb,-,-,h0,h1⟩|⟨hb|hb,hs,hd⟩
  ·dsimp only at hb h0 h1
   subst hb;rcases(show d2=0∨d2=1 by omega)with rfl|rfl<;>simp
  ·dsimp only at hb hs hd
   subst hb hs hd;simp
  ·exact absurd hb n2
theorem SetI.rg{xs:List Iv}{J:List RP}(h:SetI xs J):xs.map rgOf=J:=by
 rw[h.eq,List.map_map]
 conv=>rhs;rw[←List.map_id J]
 exact List.map_congr_left fun r hr=>qpw (h.ok r hr) (h.set.ne r hr)
theorem SetI.mem{xs:List Iv}{J:List RP}(h:SetI xs J)(r:Cut):memB CG (xs.map Iv.cuts) (toP r)=true↔Mem ltR J r:=by
 rw[qez,h.tp,qgd]
theorem qfs{J:List RP}(hJ:∀r∈J,OkR r){r:Cut}(h:Mem ltR J r):CG (toP r) highest:=by
 obtain⟨p,hp,-,h2⟩:=h;exact qce.lt_le h2 (qk7 ⟨_,(hJ p hp).2,rfl⟩)
theorem qfx{a b:Bool}{p q:Prop}(h1:a=true↔p)(h2:b=true↔q):((a||b)=true↔p∨q)∧((a&&b)=true↔p∧q)∧((!a)=true↔¬p)∧((a&&!b)=true↔p∧¬q):=by
 cases a<;>cases b<;>simp_all
section
variable {xs ys:List Iv} {Jx Jy:List RP} (hx:SetI xs Jx) (hy:SetI ys Jy)
include hx hy
theorem qnz(c:Cut)(hc:qbz c):Mem CG ((qax (Jx++Jy)).map tpR) c↔CG c highest∧(memB CG (xs.map Iv.cuts) c||memB CG (ys.map Iv.cuts) c)=true:=by
 obtain⟨r,hr,rfl⟩:=hc;rw[qgd,(qbi _).2,Mem.app,(qfx (hx.mem r) (hy.mem r)).1];exact⟨fun h=>⟨h.elim (qfs hx.ok) (qfs hy.ok),h⟩,fun h=>h.2⟩
theorem qn1(c:Cut)(hc:qbz c):Mem CG ((qax (qej ltR Jx Jy)).map tpR) c↔CG c highest∧(memB CG (xs.map Iv.cuts) c&&memB CG (ys.map Iv.cuts) c)=true:=by
 obtain⟨r,hr,rfl⟩:=hc;rw[qgd,(qbi _).2,qe0 qb5,(qfx (hx.mem r) (hy.mem r)).2.1];exact⟨fun h=>⟨qfs hx.ok h.1,h⟩,fun h=>h.2⟩
end
theorem qlb{r:Cut}(h:RokC r):¬ltR r lowR:=qj1 ⟨r,h,rfl⟩
theorem qs0{r:Cut}(h:RokC r):¬ltR qbx r:=qk7 ⟨r,h,rfl⟩
theorem qj2{J:List RP}(hs:IsSet ltR J)(hok:∀r∈J,OkR r){r:Cut}(hr:RokC r):Mem ltR (qb6 lowR qbx J) r↔ltR r qbx∧¬Mem ltR J r:=by
 constructor
 ·intro h
  have hlt:ltR r qbx:=by
   obtain⟨p,hp,-,h2⟩:=h;have hp2:=(qh6 (P:=RokC) qbx qhs J lowR qju (fun q hq=>hok q hq) p hp).2;exact qb5.lt_le h2 (qs0 hp2)
  exact⟨hlt,(qh5 qb5 qbx J lowR hs (fun p hp=>qlb (hok p hp).1) r (qlb hr) hlt).1 h⟩
 ·rintro⟨h1,h2⟩
  exact(qh5 qb5 qbx J lowR hs (fun p hp=>qlb (hok p hp).1) r (qlb hr) h1).2 h2
theorem qn2{xs:List Iv}{Jx:List RP}(hx:SetI xs Jx)(c:Cut)(hc:qbz c):Mem CG ((qax (qb6 lowR qbx Jx)).map tpR) c↔CG c highest∧(!memB CG (xs.map Iv.cuts) c)=true:=by
 obtain⟨r,hr,rfl⟩:=hc;rw[qgd,(qbi _).2,qj2 hx.set hx.ok hr,(qfx (hx.mem r) (hx.mem r)).2.2.1];exact Iff.rfl
theorem qn0{xs ys:List Iv}{Jx Jy:List RP}(hx:SetI xs Jx)(hy:SetI ys Jy)(c:Cut)(hc:qbz c):Mem CG ((qax (qej ltR Jx (qax (qb6 lowR qbx Jy)))).map tpR) c↔CG c highest∧(memB CG (xs.map Iv.cuts) c&&!memB CG (ys.map Iv.cuts) c)=true:=by
 obtain⟨r,hr,rfl⟩:=hc;rw[qgd,(qbi _).2,qe0 qb5,(qbi _).2,qj2 hy.set hy.ok hr,(qfx (hx.mem r) (hy.mem r)).2.2.2];exact⟨fun h=>⟨h.2.1,h.1,h.2.2⟩,fun h=>⟨h.2.1,h.1,h.2.2⟩⟩
theorem qdb{J:List RP}(h:∀r∈J,OkR r):∀r∈qax (qb6 lowR qbx J),OkR r:=qdp (P:=RokC) (qh6 qbx qhs _ _ qju h)
theorem qhr{X Y:List RP}(hX:∀r∈X,OkR r)(hY:∀r∈Y,OkR r):∀r∈qax (qej ltR X Y),OkR r:=qdp (P:=RokC) (qqg hX hY)
theorem qir:∀(P:List Cut) (X Y O:List PC),runR CG (fun _ _=>false) P X Y O=O
 |[],_,_,_=>rfl
 |[_],_,_,_=>rfl
 |low::high::r,X,Y,O=>by
  rw[runR];exact qir (high::r) _ _ _
theorem qsm(O:List PC)(p:PC):putT CG O p≠[]:=by
 unfold putT
 split
 ·simp
 ·split<;>simp
theorem qnc:∀(P:List Cut) (X Y O:List PC) (s:Bool),(s=true↔O≠[])→(runS CG (fun s p q=>s||(p&&!q)) P X Y s=true↔runR CG (fun p q=>p&&!q) P X Y O≠[])
 |[],_,_,_,_,h=>h
 |[_],_,_,_,_,h=>h
 |low::high::r,X,Y,O,s,h=>by
  rw[runS,runR];refine qnc (high::r) _ _ _ _ ?_
  generalize begR CG low (qa3 CG low X)=a;generalize begR CG low (qa3 CG low Y)=b
  show(s||(a&&!b))=true↔(if(a&&!b)=true then putT CG O (low,high)else O)≠[]
  by_cases hk:(a&&!b)=true
  ·rw[if_pos hk,hk,Bool.or_true]
   exact⟨fun _=>qsm _ _,fun _=>rfl⟩
  ·have hk2:(a&&!b)=false:=by simpa using hk
   rw[if_neg hk,hk2,Bool.or_false];exact h
theorem qj5(F:Nat)(s p q:Bool)(W:World)(hB:BlkO (some F) s W):Calls Tryz.prog 95 #[.bool p,.bool q,.pointer (some ⟨F,0,none⟩)] W (fun e W'=>e=.returned (.bool false)∧Below W.heap.size (putO (some F) (s||(p&&!q)) W) W'):=by
 have hb:Blk W F #[.bool s] 4:=hB;have hc:W.cell? ⟨F,0,none⟩=some (.bool s):=by rw[hb.cell];rfl
 have hf:=hb.free 0;clear hb hB;cases s<;>cases p<;>cases q
 all_goals
  go_enter Tryz.func95,Tryz.ntmps95
  go_wp2_with fail
  go_ret
  exact⟨rfl,by unfold putO;exact Below.refl _ _⟩
theorem qob(u v:Value)(xs ys:List Iv)(w:World)(hx:Ivs w u xs)(hy:Ivs w v ys)(hsx:∀x∈xs,x.short)(hsy:∀x∈ys,x.short)(hex:qbl xs=0)(hey:qbl ys=0)(hnx:xs.length≤256)(hny:ys.length≤256):
  Calls Tryz.prog 38 #[u,v] w (RetP (fun r _=>∃P:List Cut,(P.Pairwise CG∧(∀c∈P,c∈qa8 ((xs++ys).map Iv.cuts))∧∀c∈qa8 ((xs++ys).map Iv.cuts),∃c'∈P,cmpG c c'=0)∧r=.tuple #[.bool (decide (runR CG (fun a b=>a&&!b) P (xs.map Iv.cuts) (ys.map Iv.cuts) []=[])),.int .i64 0]) w):=by
 have H:=hI (fun(W:World) (hb:Below w.heap.size w W) (F:Nat) (hF:BlkO (some F) false W)=>qrp (some F) false (fun s p q=>s||(p&&!q)) #[.pointer (some ⟨F,0,none⟩)] 95 (fun _ _=>false) (fun s p q W hB=>qj5 F s p q W hB) (enters_of Tryz.func95 (by kernel_rfl) rfl) u v xs ys W hF (hx.mono hb) (hy.mono hb) hsx hsy hex hey hnx hny);clear hx hy hsx hsy hex hey hnx hny
 go_enter Tryz.func38,Tryz.ntmps38
 go_wp2_with (go_at_call 91;go_loud (refine(H.out _ (qac w (.cells #[.bool false] 4)) w.heap.size (Blk.new w _ _)).mono ?_;rintro e w1 ⟨r,rfl,P,hP,⟨F,hF,hr⟩,hb⟩;rw[qir]at hF;subst hF;rcases hr with⟨hr,-⟩|⟨-,a1,c1,rfl,-⟩;exact absurd hr (by simp);have HP:=hI hP;have hS:=qnc P (xs.map Iv.cuts) (ys.map Iv.cuts) [] false (by simp);generalize runS CG (fun s p q=>s||(p&&!q)) P (xs.map Iv.cuts) (ys.map Iv.cuts) false=sF at hS hb;have HS:=hI hS;have hblk:Blk w1 w.heap.size #[.bool sF] 4:=Blk.below (BlkO.put (o:=some w.heap.size) (s:=false) (Blk.new w #[.bool false] 4) sF) (qea hb);have hcell:w1.cell? ⟨w.heap.size,0,none⟩=some (.bool sF):=(by rw[hblk.cell];rfl);have Hb:=hI (((qac w (.cells #[.bool false] 4)).setCell (p:=⟨w.heap.size,0,none⟩) (Nat.le_refl _) (.bool sF)).via (qea (o:=some w.heap.size) hb) (Nat.le_trans (qac w _).size (Nat.le_of_eq (qcr (o:=some w.heap.size) (s:=sF)).symm)));clear hP hS hb hblk;rw[List.length_nil]))
 go_ret2
 refine⟨_,rfl,⟨P,HP.out,?_⟩,Hb.out⟩
 have h:=HS.out;cases sF
 ·have h2:runR CG (fun p q=>p&&!q) P (xs.map Iv.cuts) (ys.map Iv.cuts) []=[]:=by
   by_cases h3:runR CG (fun p q=>p&&!q) P (xs.map Iv.cuts) (ys.map Iv.cuts) []=[]
   ·exact h3
   ·exact absurd (h.2 h3) (by simp)
  rw[decide_eq_true h2];rfl
 ·rw[decide_eq_false (h.1 rfl)];rfl
end Go.Proofs.YtacihodamichhaaGreatDoor
