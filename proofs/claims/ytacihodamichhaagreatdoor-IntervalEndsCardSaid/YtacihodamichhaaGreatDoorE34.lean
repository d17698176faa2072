/- Parts of the proof. -/
import Derived.Test.YtacihodamichhaaGreatDoorE33
set_option maxHeartbeats 1000000
namespace Go.Proofs.YtacihodamichhaaGreatDoor
open Go.RowKit
def lowR:Cut:=⟨-1,⟨#[]⟩,0⟩
def qet:Cut:=⟨1,⟨#[]⟩,0⟩
theorem qkp:RokC lowR:=.inr ⟨.inr rfl,rfl,rfl⟩
theorem qig:RokC qet:=.inr ⟨.inl rfl,rfl,rfl⟩
theorem qj5{α:Type}(en_:α):∀(X:List (α × α)) (a:α),(qfm a en_ X).length=X.length+1
 |[],_=>rfl
 |p::X,_=>by show(qfm p.2 en_ X).length+1=_;rw[qj5 en_ X];rfl
theorem qo2:qcb lowest:=⟨lowR,qkp,rfl⟩
theorem qnb:qcb highest:=⟨qet,qig,rfl⟩
theorem qk0{c:Cut}(h:qcb c):c=lowest∨c=highest∨c.b=0:=by
 obtain⟨⟨b,s,d⟩,hr,rfl⟩:=h;rcases hr with⟨hb,-⟩|⟨hb|hb,hs,hd⟩
 ·exact .inr (.inr hb)
 ·dsimp only at hb hs hd
  subst hb hs hd;exact .inr (.inl rfl)
 ·dsimp only at hb hs hd
  subst hb hs hd;exact .inl rfl
theorem qkw{c:Cut}(h:qcb c):¬CG c lowest:=by
 rcases qk0 h with rfl|rfl|hb
 ·exact qcq.irr _
 ·rw[qeu]
  rintro(h|⟨h,-⟩)
  ·exact absurd h (by decide)
  ·exact absurd h (by decide)
 ·rw[qeu,hb]
  rintro(h|⟨h,-⟩)
  ·exact absurd h (by decide)
  ·exact absurd h (by decide)
theorem qt5{c:Cut}(h:qcb c)(hne:c≠highest):CG c highest:=by
 rcases qk0 h with rfl|rfl|hb
 ·rw[qeu];exact .inl (by decide)
 ·exact absurd rfl hne
 ·rw[qeu,hb];exact .inl (by decide)
theorem qq8{c:Cut}(h:qcb c):¬CG highest c:=by
 rcases qk0 h with rfl|rfl|hb
 ·rw[qeu]
  rintro(h|⟨h,-⟩)
  ·exact absurd h (by decide)
  ·exact absurd h (by decide)
 ·exact qcq.irr _
 ·rw[qeu,hb]
  rintro(h|⟨h,-⟩)
  ·exact absurd h (by decide)
  ·exact absurd h (by decide)
theorem SetI.tp{xs:List Iv}{J:List RP}(h:SetI xs J):xs.map Iv.cuts=J.map tpR:=h.cuts
theorem SetI.known{xs:List Iv}{J:List RP}(h:SetI xs J):∀p∈xs.map Iv.cuts,qcb p.1∧qcb p.2:=fun p hp=>by
 rw[h.tp]at hp;obtain⟨r,hr,rfl⟩:=List.mem_map.1 hp;exact⟨⟨_,(h.ok r hr).1,rfl⟩,_,(h.ok r hr).2,rfl⟩
theorem qni{keep:Bool→Bool→Bool}{xs ys:List Iv}{Jx Jy:List RP}(hx:SetI xs Jx)(hy:SetI ys Jy){P:List Cut}
  (hP:P.Pairwise CG) (hsub:∀c∈P,c∈qbi ((xs++ys).map Iv.cuts)) (hcov:∀c∈qbi ((xs++ys).map Iv.cuts),∃c'∈P,cmpG c c'=0)
  {J:List RP} (hJ:IsSet ltR J) (hJo:∀r∈J,OkR r)
  (hmem:∀c,qcb c→(Mem CG (J.map tpR) c↔CG c highest∧keep (memB CG (xs.map Iv.cuts) c) (memB CG (ys.map Iv.cuts) c)=true)):
  runR CG keep P (xs.map Iv.cuts) (ys.map Iv.cuts) []=J.map tpR:=by
 have hkn:∀c∈qbi ((xs++ys).map Iv.cuts),qcb c:=fun c hc=>by
  unfold qbi at hc;rcases List.mem_append.1 hc with h|h
  ·simp only[List.mem_cons,List.not_mem_nil,or_false]at h
   rcases h with rfl|rfl
   ·exact qo2
   ·exact qnb
  ·obtain⟨l,hl,hcl⟩:=List.mem_flatten.1 h
   obtain⟨p,hp,rfl⟩:=List.mem_map.1 hl
   have hp2:qcb p.1∧qcb p.2:=by
    rw[List.map_append]at hp;rcases List.mem_append.1 hp with h|h
    ·exact hx.known p h
    ·exact hy.known p h
   simp only[List.mem_cons,List.not_mem_nil,or_false]at hcl;rcases hcl with rfl|rfl
   ·exact hp2.1
   ·exact hp2.2
 have hall:∀c∈qbi ((xs++ys).map Iv.cuts),c∈P:=fun c hc=>by
  obtain⟨c',h1,h2⟩:=hcov c hc;have h3:=qkd.1 h2;rw[qfx c c' (hkn c hc) (hkn c' (hsub c' h1)) h3.1 h3.2];exact h1
 have hPk:∀c∈P,qcb c:=fun c hc=>hkn c (hsub c hc)
 have hlo:lowest∈P:=hall _ (by unfold qbi;simp);have hhi:highest∈P:=hall _ (by unfold qbi;simp)
 have hends:∀{zs:List Iv},(∀z∈zs,z∈xs++ys)→∀p∈zs.map Iv.cuts,p.1∈P∧p.2∈P:=fun hz p hp=>by
  obtain⟨z,hzz,rfl⟩:=List.mem_map.1 hp
  have h1:∀c∈[z.cuts.1,z.cuts.2],c∈P:=fun c hc=>hall c (by
   unfold qbi
   exact List.mem_append_right _ (List.mem_flatten.2 ⟨_,List.mem_map.2 ⟨z.cuts,List.mem_map_of_mem (hz z hzz),rfl⟩,hc⟩))
  exact⟨h1 _ (by simp),h1 _ (by simp)⟩
 cases P with
 |nil=>cases hlo
 |cons a P=>
  obtain⟨ha,hP'⟩:=List.pairwise_cons.1 hP
  have hal:a=lowest:=by
   rcases List.mem_cons.1 hlo with h|h
   ·exact h.symm
   ·exact absurd (ha _ h) (qkw (hPk a (List.mem_cons_self ..)))
  have hne:(highest:Cut)≠lowest:=fun h=>absurd (congrArg Cut.b h) (by decide)
  have hhi':highest∈P:=by
   rcases List.mem_cons.1 hhi with h|h
   ·exact absurd (h.trans hal) hne
   ·exact h
  have hin:∀{c:Cut},c∈a::P→¬CG a c∨c∈P:=fun h=>by
   rcases List.mem_cons.1 h with rfl|h
   ·exact .inl (qcq.irr _)
   ·exact .inr h
  have hpX:∀{zs:List Iv},(∀z∈zs,z∈xs++ys)→∀p∈zs.map Iv.cuts,(¬CG a p.1∨p.1∈P)∧(¬CG a p.2∨p.2∈P):=fun hz p hp=>⟨hin (hends hz p hp).1,hin (hends hz p hp).2⟩
  obtain⟨hF1,hF2⟩:=qkn qcq keep P a (xs.map Iv.cuts) (ys.map Iv.cuts) [] hP (by rw[hx.tp];exact qlm hx.set) (by rw[hy.tp];exact qlm hy.set) IsSet.nil (fun q hq=>by cases hq) (hpX (fun z hz=>List.mem_append_left _ hz)) (hpX (fun z hz=>List.mem_append_right _ hz));refine IsSet.uniq qcq qcb qfx hF1 (qlm hJ) ?_ ?_ ?_
  ·exact qlp keep (a::P) _ _ [] hPk (fun p h=>by cases h)
  ·intro p hp
   obtain⟨r,hr,rfl⟩:=List.mem_map.1 hp;exact⟨⟨_,(hJo r hr).1,rfl⟩,_,(hJo r hr).2,rfl⟩
  ·intro c hc
   rw[hF2,hmem c hc]
   constructor
   ·rintro(h|⟨h1,⟨z,hz,hcz⟩,h3⟩)
    ·exact absurd h Mem.nil
    ·refine⟨?_,h3⟩
     have hzk:=hPk z (List.mem_cons_of_mem _ hz)
     by_cases hzh:z=highest
     ·rwa [←hzh]
     ·exact qcq.tr hcz (qt5 hzk hzh)
   ·rintro⟨h1,h3⟩
    exact .inr ⟨by rw[hal];exact qkw hc,⟨highest,hhi',h1⟩,h3⟩
def SetP(L:List Iv)(r:Value)(w':World):Prop:=∃a c,r=.tuple #[.slice a (if 256<L.length then[]else L).length c,.int .i64 (if 256<L.length then 6 else 0)]∧Ivs w' (.slice a (if 256<L.length then[]else L).length c) (if 256<L.length then[]else L)
theorem qrz{keep:Bool→Bool→Bool}{xs ys:List Iv}{Jx Jy:List RP}(hx:SetI xs Jx)(hy:SetI ys Jy){J:List RP}(hJ:IsSet ltR J)(hJo:∀r∈J,OkR r)
  (hmem:∀c,qcb c→(Mem CG (J.map tpR) c↔CG c highest∧keep (memB CG (xs.map Iv.cuts) c) (memB CG (ys.map Iv.cuts) c)=true)) {r:Value} {w':World} (h:qqd keep xs ys r w'):SetP (J.map ivR) r w':=by
 obtain⟨P,⟨h1,h2,h3⟩,F,hF,h⟩:=h;have hFJ:=qni hx hy h1 h2 h3 hJ hJo hmem;rw[hF]at hFJ;have hl:F.length=(J.map ivR).length:=by rw[hFJ,List.length_map,List.length_map]
 have hiv:F.map ivOf=J.map ivR:=by
  rw[hFJ,List.map_map];exact List.map_congr_left fun r hr=>qma (hJo r hr)
 unfold SetP;rcases h with⟨hb,rfl⟩|⟨hs,a,c,rfl,hi⟩
 ·rw[←hl]
  simp only[if_pos hb];exact⟨none,0,rfl,Sl.nil w' 4⟩
 ·rw[←hl]
  simp only[if_neg (show ¬256<F.length by omega)];rw[hl,hiv]at hi;exact⟨a,c,by rw[hl],hi⟩
theorem qqd.tup{keep:Bool→Bool→Bool}{xs ys:List Iv}{r:Value}{w':World}(h:qqd keep xs ys r w'):∃a n c e,r=.tuple #[.slice a n c,.int .i64 e]:=by
 obtain⟨P,-,F,-,⟨-,rfl⟩|⟨-,a,c,rfl,-⟩⟩:=h
 ·exact⟨none,0,0,6,rfl⟩
 ·exact⟨a,_,c,0,rfl⟩
theorem qg5(p q:Bool)(W:World):Calls Tryz.prog 92 #[.bool p,.bool q] W (Ret (.bool ((fun a _=>!a) p q)) W):=by
 cases p<;>cases q
 all_goals
  go_enter Tryz.func92,Tryz.ntmps92
  go_wp2_with fail
  go_ret
  exact⟨rfl,Below.refl _ _⟩
theorem qiv(u:Value)(xs:List Iv)(w:World)(hx:Ivs w u xs)(hsx:∀x∈xs,x.short)(hex:qbl xs=0)(hnx:xs.length≤256):
  Calls Tryz.prog 35 #[u] w (RetP (qqd (fun a _=>!a) xs []) w):=by
 have H:=hI (qvl 92 (fun a _=>!a) (fun p q W=>qg5 p q W) (enters_of Tryz.func92 (by kernel_rfl) rfl) u (.slice none 0 0) xs [] w hx (Sl.nil w 4) hsx (fun x h=>by cases h) hex rfl hnx (Nat.zero_le _));clear hx hsx hex hnx
 go_enter Tryz.func35,Tryz.ntmps35
 go_wp2_with (go_at_call 91;refine(H.out).mono ?_;rintro e w1 ⟨r,rfl,hc,hb⟩;obtain⟨a1,n1,c1,e1,rfl⟩:=hc.tup;have Hc:=hI hc;have Hb:=hI hb;clear hc hb)
 go_ret2
 exact⟨_,rfl,Hc.out,Hb.out⟩
theorem qqr{r:RP}(h:OkR r)(hl:ltR r.1 r.2):rgOf (ivR r)=r:=by
 obtain⟨h1,h2⟩:=h;obtain⟨n1,n2⟩:=qvb h1 h2 hl;obtain⟨⟨b1,s1,d1⟩,b2,s2,d2⟩:=r;unfold rgOf ivR loC upC;dsimp only at h1 h2 n1 n2⊢
 congr 1
 ·rcases h1 with⟨hb,-,-,h0,h1⟩|⟨hb|hb,hs,hd⟩
  ·dsimp only at hb h0 h1
   subst hb;rcases(show d1=0∨d1=1 by omega)with rfl|rfl<;>simp
  ·exact absurd hb n1
  ·dsimp only at hb hs hd
   subst hb hs hd;simp
 ·rcases h2 with⟨hb,-,-,h0,h1⟩|⟨hb|hb,hs,hd⟩
  ·dsimp only at hb h0 h1
   subst hb;rcases(show d2=0∨d2=1 by omega)with rfl|rfl<;>simp
  ·dsimp only at hb hs hd
   subst hb hs hd;simp
  ·exact absurd hb n2
theorem SetI.rg{xs:List Iv}{J:List RP}(h:SetI xs J):xs.map rgOf=J:=by
 rw[h.eq,List.map_map]
 conv=>rhs;rw[←List.map_id J]
 exact List.map_congr_left fun r hr=>qqr (h.ok r hr) (h.set.ne r hr)
theorem SetI.mem{xs:List Iv}{J:List RP}(h:SetI xs J)(r:Cut):memB CG (xs.map Iv.cuts) (toP r)=true↔Mem ltR J r:=by
 rw[qfj,h.tp,ql3]
theorem qsa{a b:Bool}{p q:Prop}(h1:a=true↔p)(h2:b=true↔q):((a||b)=true↔p∨q)∧((a&&b)=true↔p∧q)∧((!a)=true↔¬p)∧((a&&!b)=true↔p∧¬q):=by
 cases a<;>cases b<;>simp_all
section
variable {xs ys:List Iv} {Jx Jy:List RP} (hx:SetI xs Jx) (hy:SetI ys Jy)
include hx hy
end
theorem ql7{r:Cut}(h:RokC r):¬ltR r lowR:=qkw ⟨r,h,rfl⟩
theorem qt7{r:Cut}(h:RokC r):¬ltR qet r:=qq8 ⟨r,h,rfl⟩
theorem qt4{J:List RP}(hs:IsSet ltR J)(hok:∀r∈J,OkR r){r:Cut}(hr:RokC r):Mem ltR (qfm lowR qet J) r↔ltR r qet∧¬Mem ltR J r:=by
 constructor
 ·intro h
  have hlt:ltR r qet:=by
   obtain⟨p,hp,-,h2⟩:=h;have hp2:=(qiy (P:=RokC) qet qig J lowR qkp (fun q hq=>hok q hq) p hp).2;exact qd6.lt_le h2 (qt7 hp2)
  exact⟨hlt,(qix qd6 qet J lowR hs (fun p hp=>ql7 (hok p hp).1) r (ql7 hr) hlt).1 h⟩
 ·rintro⟨h1,h2⟩
  exact(qix qd6 qet J lowR hs (fun p hp=>ql7 (hok p hp).1) r (ql7 hr) h1).2 h2
theorem qow{xs:List Iv}{Jx:List RP}(hx:SetI xs Jx)(c:Cut)(hc:qcb c):Mem CG ((qc2 (qfm lowR qet Jx)).map tpR) c↔CG c highest∧(!memB CG (xs.map Iv.cuts) c)=true:=by
 obtain⟨r,hr,rfl⟩:=hc;rw[ql3,(qgk _).2,qt4 hx.set hx.ok hr,(qsa (hx.mem r) (hx.mem r)).2.2.1];exact Iff.rfl
theorem qqp{J:List RP}(h:∀r∈J,OkR r):∀r∈qc2 (qfm lowR qet J),OkR r:=qfk (P:=RokC) (qiy qet qig _ _ qkp h)
def SetQ(U:List Iv)(r:Value)(w':World):Prop:=∃a c,r=.tuple #[.slice a U.length c,.int .i64 0]∧Ivs w' (.slice a U.length c) U
theorem SetP.q{L:List Iv}{r:Value}{w':World}(h:SetP L r w')(hl:L.length≤256):SetQ L r w':=by
 unfold SetP at h;simp only[if_neg (show ¬256<L.length by omega)]at h;exact h
section
variable {xs ys:List Iv} {Jx Jy:List RP}
theorem SetI.n(hx:SetI xs Jx):xs.length≤256:=by rw[hx.length];exact hx.len
theorem qmt(hx:SetI xs Jx)(h:Jx.length+1≤256):SetI ((qc2 (qfm lowR qet Jx)).map ivR) (qc2 (qfm lowR qet Jx)):=
 ⟨rfl,qqp hx.ok,(qgk _).1,Nat.le_trans (qg6 _) (by rw[qj5];exact h)⟩
theorem qiu(hx:SetI xs Jx)(h:Jx.length+1≤256)(u:Value)(w:World)(hu:Ivs w u xs):Calls Tryz.prog 35 #[u] w (RetP (SetQ ((qc2 (qfm lowR qet Jx)).map ivR)) w):=by
 have hJ:=qmt hx h;refine(qiv u xs w hu hx.short hx.err hx.n).mono ?_
 rintro e w' ⟨r,rfl,h,hb⟩;exact⟨r,rfl,(qrz hx SetI.nil hJ.set hJ.ok (fun c hc=>qow hx c hc) h).q hJ.n,hb⟩
end
end Go.Proofs.YtacihodamichhaaGreatDoor
