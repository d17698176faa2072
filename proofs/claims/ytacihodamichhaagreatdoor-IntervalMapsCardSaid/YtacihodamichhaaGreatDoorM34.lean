/- Parts of the proof. -/
import Derived.Test.YtacihodamichhaaGreatDoorM33
set_option maxHeartbeats 1000000
namespace Go.Proofs.YtacihodamichhaaGreatDoor
open Go.RowKit
def lowR:Cut:=⟨-1,⟨#[]⟩,0⟩
def qez:Cut:=⟨1,⟨#[]⟩,0⟩
theorem qkx:RokC lowR:=.inr ⟨.inr rfl,rfl,rfl⟩
theorem qil:RokC qez:=.inr ⟨.inl rfl,rfl,rfl⟩
theorem qkd{α:Type}(en_:α):∀(X:List (α × α)) (a:α),(qfx a en_ X).length=X.length+1
 |[],_=>rfl
 |p::X,_=>by show(qfx p.2 en_ X).length+1=_;rw[qkd en_ X];rfl
theorem qps:qcc lowest:=⟨lowR,qkx,rfl⟩
theorem qnv:qcc highest:=⟨qez,qil,rfl⟩
theorem qla{c:Cut}(h:qcc c):c=lowest∨c=highest∨c.b=0:=by
 obtain⟨⟨b,s,d⟩,hr,rfl⟩:=h;rcases hr with⟨hb,-⟩|⟨hb|hb,hs,hd⟩
 ·exact .inr (.inr hb)
 ·dsimp only at hb hs hd
  subst hb hs hd;exact .inr (.inl rfl)
 ·dsimp only at hb hs hd
  subst hb hs hd;exact .inl rfl
theorem qk5{c:Cut}(h:qcc c):¬CG c lowest:=by
 rcases qla h with rfl|rfl|hb
 ·exact qcp.irr _
 ·rw[qel]
  rintro(h|⟨h,-⟩)
  ·exact absurd h (by decide)
  ·exact absurd h (by decide)
 ·rw[qel,hb]
  rintro(h|⟨h,-⟩)
  ·exact absurd h (by decide)
  ·exact absurd h (by decide)
theorem qu7{c:Cut}(h:qcc c)(hne:c≠highest):CG c highest:=by
 rcases qla h with rfl|rfl|hb
 ·rw[qel];exact .inl (by decide)
 ·exact absurd rfl hne
 ·rw[qel,hb];exact .inl (by decide)
theorem qr7{c:Cut}(h:qcc c):¬CG highest c:=by
 rcases qla h with rfl|rfl|hb
 ·rw[qel]
  rintro(h|⟨h,-⟩)
  ·exact absurd h (by decide)
  ·exact absurd h (by decide)
 ·exact qcp.irr _
 ·rw[qel,hb]
  rintro(h|⟨h,-⟩)
  ·exact absurd h (by decide)
  ·exact absurd h (by decide)
theorem SetI.tp{xs:List Iv}{J:List RP}(h:SetI xs J):xs.map Iv.cuts=J.map tpR:=h.cuts
theorem SetI.known{xs:List Iv}{J:List RP}(h:SetI xs J):∀p∈xs.map Iv.cuts,qcc p.1∧qcc p.2:=fun p hp=>by
 rw[h.tp]at hp;obtain⟨r,hr,rfl⟩:=List.mem_map.1 hp;exact⟨⟨_,(h.ok r hr).1,rfl⟩,_,(h.ok r hr).2,rfl⟩
theorem qn2{keep:Bool→Bool→Bool}{xs ys:List Iv}{Jx Jy:List RP}(hx:SetI xs Jx)(hy:SetI ys Jy){P:List Cut}
  (hP:P.Pairwise CG) (hsub:∀c∈P,c∈qbj ((xs++ys).map Iv.cuts)) (hcov:∀c∈qbj ((xs++ys).map Iv.cuts),∃c'∈P,cmpG c c'=0)
  {J:List RP} (hJ:IsSet ltR J) (hJo:∀r∈J,OkR r)
  (hmem:∀c,qcc c→(Mem CG (J.map tpR) c↔CG c highest∧keep (memB CG (xs.map Iv.cuts) c) (memB CG (ys.map Iv.cuts) c)=true)):
  runR CG keep P (xs.map Iv.cuts) (ys.map Iv.cuts) []=J.map tpR:=by
 have hkn:∀c∈qbj ((xs++ys).map Iv.cuts),qcc c:=fun c hc=>by
  unfold qbj at hc;rcases List.mem_append.1 hc with h|h
  ·simp only[List.mem_cons,List.not_mem_nil,or_false]at h
   rcases h with rfl|rfl
   ·exact qps
   ·exact qnv
  ·obtain⟨l,hl,hcl⟩:=List.mem_flatten.1 h
   obtain⟨p,hp,rfl⟩:=List.mem_map.1 hl
   have hp2:qcc p.1∧qcc p.2:=by
    rw[List.map_append]at hp;rcases List.mem_append.1 hp with h|h
    ·exact hx.known p h
    ·exact hy.known p h
   simp only[List.mem_cons,List.not_mem_nil,or_false]at hcl;rcases hcl with rfl|rfl
   ·exact hp2.1
   ·exact hp2.2
 have hall:∀c∈qbj ((xs++ys).map Iv.cuts),c∈P:=fun c hc=>by
  obtain⟨c',h1,h2⟩:=hcov c hc;have h3:=qkm.1 h2;rw[qex c c' (hkn c hc) (hkn c' (hsub c' h1)) h3.1 h3.2];exact h1
 have hPk:∀c∈P,qcc c:=fun c hc=>hkn c (hsub c hc)
 have hlo:lowest∈P:=hall _ (by unfold qbj;simp);have hhi:highest∈P:=hall _ (by unfold qbj;simp)
 have hends:∀{zs:List Iv},(∀z∈zs,z∈xs++ys)→∀p∈zs.map Iv.cuts,p.1∈P∧p.2∈P:=fun hz p hp=>by
  obtain⟨z,hzz,rfl⟩:=List.mem_map.1 hp
  have h1:∀c∈[z.cuts.1,z.cuts.2],c∈P:=fun c hc=>hall c (by
   unfold qbj
   exact List.mem_append_right _ (List.mem_flatten.2 ⟨_,List.mem_map.2 ⟨z.cuts,List.mem_map_of_mem (hz z hzz),rfl⟩,hc⟩))
  exact⟨h1 _ (by simp),h1 _ (by simp)⟩
 cases P with
 |nil=>cases hlo
 |cons a P=>
  obtain⟨ha,hP'⟩:=List.pairwise_cons.1 hP
  have hal:a=lowest:=by
   rcases List.mem_cons.1 hlo with h|h
   ·exact h.symm
   ·exact absurd (ha _ h) (qk5 (hPk a (List.mem_cons_self ..)))
  have hne:(highest:Cut)≠lowest:=fun h=>absurd (congrArg Cut.b h) (by decide)
  have hhi':highest∈P:=by
   rcases List.mem_cons.1 hhi with h|h
   ·exact absurd (h.trans hal) hne
   ·exact h
  have hin:∀{c:Cut},c∈a::P→¬CG a c∨c∈P:=fun h=>by
   rcases List.mem_cons.1 h with rfl|h
   ·exact .inl (qcp.irr _)
   ·exact .inr h
  have hpX:∀{zs:List Iv},(∀z∈zs,z∈xs++ys)→∀p∈zs.map Iv.cuts,(¬CG a p.1∨p.1∈P)∧(¬CG a p.2∨p.2∈P):=fun hz p hp=>⟨hin (hends hz p hp).1,hin (hends hz p hp).2⟩
  obtain⟨hF1,hF2⟩:=qkv qcp keep P a (xs.map Iv.cuts) (ys.map Iv.cuts) [] hP (by rw[hx.tp];exact qlz hx.set) (by rw[hy.tp];exact qlz hy.set) IsSet.nil (fun q hq=>by cases hq) (hpX (fun z hz=>List.mem_append_left _ hz)) (hpX (fun z hz=>List.mem_append_right _ hz));refine IsSet.uniq qcp qcc qex hF1 (qlz hJ) ?_ ?_ ?_
  ·exact ql2 keep (a::P) _ _ [] hPk (fun p h=>by cases h)
  ·intro p hp
   obtain⟨r,hr,rfl⟩:=List.mem_map.1 hp;exact⟨⟨_,(hJo r hr).1,rfl⟩,_,(hJo r hr).2,rfl⟩
  ·intro c hc
   rw[hF2,hmem c hc]
   constructor
   ·rintro(h|⟨h1,⟨z,hz,hcz⟩,h3⟩)
    ·exact absurd h Mem.nil
    ·refine⟨?_,h3⟩
     have hzk:=hPk z (List.mem_cons_of_mem _ hz)
     by_cases hzh:z=highest
     ·rwa [←hzh]
     ·exact qcp.tr hcz (qu7 hzk hzh)
   ·rintro⟨h1,h3⟩
    exact .inr ⟨by rw[hal];exact qk5 hc,⟨highest,hhi',h1⟩,h3⟩
def SetP(L:List Iv)(r:Value)(w':World):Prop:=∃a c,r=.tuple #[.slice a (if 256<L.length then[]else L).length c,.int .i64 (if 256<L.length then 6 else 0)]∧Ivs w' (.slice a (if 256<L.length then[]else L).length c) (if 256<L.length then[]else L)
theorem qs0{keep:Bool→Bool→Bool}{xs ys:List Iv}{Jx Jy:List RP}(hx:SetI xs Jx)(hy:SetI ys Jy){J:List RP}(hJ:IsSet ltR J)(hJo:∀r∈J,OkR r)
  (hmem:∀c,qcc c→(Mem CG (J.map tpR) c↔CG c highest∧keep (memB CG (xs.map Iv.cuts) c) (memB CG (ys.map Iv.cuts) c)=true)) {r:Value} {w':World} (h:qq6 keep xs ys r w'):SetP (J.map ivR) r w':=by
 obtain⟨P,⟨h1,h2,h3⟩,F,hF,h⟩:=h;have hFJ:=qn2 hx hy h1 h2 h3 hJ hJo hmem;rw[hF]at hFJ;have hl:F.length=(J.map ivR).length:=by rw[hFJ,List.length_map,List.length_map]
 have hiv:F.map ivOf=J.map ivR:=by
  rw[hFJ,List.map_map];exact List.map_congr_left fun r hr=>qmn (hJo r hr)
 unfold SetP;rcases h with⟨hb,rfl⟩|⟨hs,a,c,rfl,hi⟩
 ·rw[←hl]
  simp only[if_pos hb];exact⟨none,0,rfl,Sl.nil w' 4⟩
 ·rw[←hl]
  simp only[if_neg (show ¬256<F.length by omega)];rw[hl,hiv]at hi;exact⟨a,c,by rw[hl],hi⟩
theorem qq6.tup{keep:Bool→Bool→Bool}{xs ys:List Iv}{r:Value}{w':World}(h:qq6 keep xs ys r w'):∃a n c e,r=.tuple #[.slice a n c,.int .i64 e]:=by
 obtain⟨P,-,F,-,⟨-,rfl⟩|⟨-,a,c,rfl,-⟩⟩:=h
 ·exact⟨none,0,0,6,rfl⟩
 ·exact⟨a,_,c,0,rfl⟩
theorem qg9(p q:Bool)(W:World):Calls Tryz.prog 92 #[.bool p,.bool q] W (Ret (.bool ((fun a _=>!a) p q)) W):=by
 cases p<;>cases q
 all_goals
  go_enter Tryz.func92,Tryz.ntmps92
  go_wp2_with fail
  go_ret
  exact⟨rfl,Below.refl _ _⟩
theorem qi1(u:Value)(xs:List Iv)(w:World)(hx:Ivs w u xs)(hsx:∀x∈xs,x.short)(hex:qbd xs=0)(hnx:xs.length≤256):
  Calls Tryz.prog 35 #[u] w (RetP (qq6 (fun a _=>!a) xs []) w):=by
 have H:=hI (qwk 92 (fun a _=>!a) (fun p q W=>qg9 p q W) (enters_of Tryz.func92 (by kernel_rfl) rfl) u (.slice none 0 0) xs [] w hx (Sl.nil w 4) hsx (fun x h=>by cases h) hex rfl hnx (Nat.zero_le _));clear hx hsx hex hnx
 go_enter Tryz.func35,Tryz.ntmps35
 go_wp2_with (go_at_call 91;refine(H.out).mono ?_;rintro e w1 ⟨r,rfl,hc,hb⟩;obtain⟨a1,n1,c1,e1,rfl⟩:=hc.tup;have Hc:=hI hc;have Hb:=hI hb;clear hc hb)
 go_ret2
 exact⟨_,rfl,Hc.out,Hb.out⟩
theorem ql3{r:RP}(h:OkR r)(hl:ltR r.1 r.2):rgOf (ivR r)=r:=by
 obtain⟨h1,h2⟩:=h;obtain⟨n1,n2⟩:=qv6 h1 h2 hl;obtain⟨⟨b1,s1,d1⟩,b2,s2,d2⟩:=r;unfold rgOf ivR loC upC;dsimp only at h1 h2 n1 n2⊢
 congr 1
 ·rcases h1 with⟨hb,-,-,h0,h1⟩|⟨hb|hb,hs,hd⟩
  ·dsimp only at hb h0 h1
   subst hb;rcases(show d1=0∨d1=1 by omega)with rfl|rfl<;>simp
  ·exact absurd hb n1
  ·dsimp only at hb hs hd
   subst hb hs hd;simp
 ·rcases h2 with⟨hb,-,-,h0,h1⟩|⟨hb|hb,hs,hd⟩
  ·dsimp only at hb h0 h1
   subst hb;rcases(show d2=0∨d2=1 by omega)with rfl|rfl<;>simp
  ·dsimp only at hb hs hd
   subst hb hs hd;simp
  ·exact absurd hb n2
theorem SetI.rg{xs:List Iv}{J:List RP}(h:SetI xs J):xs.map rgOf=J:=by
 rw[h.eq,List.map_map]
 conv=>rhs;rw[←List.map_id J]
 exact List.map_congr_left fun r hr=>ql3 (h.ok r hr) (h.set.ne r hr)
theorem SetI.mem{xs:List Iv}{J:List RP}(h:SetI xs J)(r:Cut):memB CG (xs.map Iv.cuts) (toP r)=true↔Mem ltR J r:=by
 rw[qfs,h.tp,qmg]
theorem qtc{a b:Bool}{p q:Prop}(h1:a=true↔p)(h2:b=true↔q):((a||b)=true↔p∨q)∧((a&&b)=true↔p∧q)∧((!a)=true↔¬p)∧((a&&!b)=true↔p∧¬q):=by
 cases a<;>cases b<;>simp_all
section
variable {xs ys:List Iv} {Jx Jy:List RP} (hx:SetI xs Jx) (hy:SetI ys Jy)
include hx hy
end
theorem qml{r:Cut}(h:RokC r):¬ltR r lowR:=qk5 ⟨r,h,rfl⟩
theorem qu8{r:Cut}(h:RokC r):¬ltR qez r:=qr7 ⟨r,h,rfl⟩
theorem qu6{J:List RP}(hs:IsSet ltR J)(hok:∀r∈J,OkR r){r:Cut}(hr:RokC r):Mem ltR (qfx lowR qez J) r↔ltR r qez∧¬Mem ltR J r:=by
 constructor
 ·intro h
  have hlt:ltR r qez:=by
   obtain⟨p,hp,-,h2⟩:=h;have hp2:=(qi4 (P:=RokC) qez qil J lowR qkx (fun q hq=>hok q hq) p hp).2;exact qdo.lt_le h2 (qu8 hp2)
  exact⟨hlt,(qi3 qdo qez J lowR hs (fun p hp=>qml (hok p hp).1) r (qml hr) hlt).1 h⟩
 ·rintro⟨h1,h2⟩
  exact(qi3 qdo qez J lowR hs (fun p hp=>qml (hok p hp).1) r (qml hr) h1).2 h2
theorem qpl{xs:List Iv}{Jx:List RP}(hx:SetI xs Jx)(c:Cut)(hc:qcc c):Mem CG ((qb8 (qfx lowR qez Jx)).map tpR) c↔CG c highest∧(!memB CG (xs.map Iv.cuts) c)=true:=by
 obtain⟨r,hr,rfl⟩:=hc;rw[qmg,(qey _).2,qu6 hx.set hx.ok hr,(qtc (hx.mem r) (hx.mem r)).2.2.1];exact Iff.rfl
theorem qrk{J:List RP}(h:∀r∈J,OkR r):∀r∈qb8 (qfx lowR qez J),OkR r:=qei (P:=RokC) (qi4 qez qil _ _ qkx h)
def SetQ(U:List Iv)(r:Value)(w':World):Prop:=∃a c,r=.tuple #[.slice a U.length c,.int .i64 0]∧Ivs w' (.slice a U.length c) U
theorem SetP.q{L:List Iv}{r:Value}{w':World}(h:SetP L r w')(hl:L.length≤256):SetQ L r w':=by
 unfold SetP at h;simp only[if_neg (show ¬256<L.length by omega)]at h;exact h
section
variable {xs ys:List Iv} {Jx Jy:List RP}
theorem SetI.n(hx:SetI xs Jx):xs.length≤256:=by rw[hx.length];exact hx.len
theorem qna(hx:SetI xs Jx)(h:Jx.length+1≤256):SetI ((qb8 (qfx lowR qez Jx)).map ivR) (qb8 (qfx lowR qez Jx)):=
 ⟨rfl,qrk hx.ok,(qey _).1,Nat.le_trans (qfv _) (by rw[qkd];exact h)⟩
theorem qi0(hx:SetI xs Jx)(h:Jx.length+1≤256)(u:Value)(w:World)(hu:Ivs w u xs):Calls Tryz.prog 35 #[u] w (RetP (SetQ ((qb8 (qfx lowR qez Jx)).map ivR)) w):=by
 have hJ:=qna hx h;refine(qi1 u xs w hu hx.short hx.err hx.n).mono ?_
 rintro e w' ⟨r,rfl,h,hb⟩;exact⟨r,rfl,(qs0 hx SetI.nil hJ.set hJ.ok (fun c hc=>qpl hx c hc) h).q hJ.n,hb⟩
end
end Go.Proofs.YtacihodamichhaaGreatDoor
