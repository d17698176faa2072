/- Parts of the proof. -/
import Derived.Test.YtacihodamichhaaGreatDoorC33
import Derived.Test.YtacihodamichhaaGreatDoorC37
import Derived.Test.YtacihodamichhaaGreatDoorC39
namespace Go.Proofs.YtacihodamichhaaGreatDoor
open Go.RowKit
set_option maxHeartbeats 4000000
theorem qol:qb7 lowest:=⟨lowR,qfj,rfl⟩
theorem qms:qb7 highest:=⟨qaz,qel,rfl⟩
theorem qki{c:Cut}(h:qb7 c):c=lowest∨c=highest∨c.b=0:=by
 obtain⟨⟨b,s,d⟩,hr,rfl⟩:=h;rcases hr with⟨hb,-⟩|⟨hb|hb,hs,hd⟩
 ·exact .inr (.inr hb)
 ·dsimp only at hb hs hd
  subst hb hs hd;exact .inr (.inl rfl)
 ·dsimp only at hb hs hd
  subst hb hs hd;exact .inl rfl
theorem qkg{c:Cut}(h:qb7 c):¬CG c lowest:=by
 rcases qki h with rfl|rfl|hb
 ·exact qcn.irr _
 ·rw[qeu]
  rintro(h|⟨h,-⟩)
  ·exact absurd h (by decide)
  ·exact absurd h (by decide)
 ·rw[qeu,hb]
  rintro(h|⟨h,-⟩)
  ·exact absurd h (by decide)
  ·exact absurd h (by decide)
theorem qtd{c:Cut}(h:qb7 c)(hne:c≠highest):CG c highest:=by
 rcases qki h with rfl|rfl|hb
 ·rw[qeu];exact .inl (by decide)
 ·exact absurd rfl hne
 ·rw[qeu,hb];exact .inl (by decide)
theorem qli{c:Cut}(h:qb7 c):¬CG highest c:=by
 rcases qki h with rfl|rfl|hb
 ·rw[qeu]
  rintro(h|⟨h,-⟩)
  ·exact absurd h (by decide)
  ·exact absurd h (by decide)
 ·exact qcn.irr _
 ·rw[qeu,hb]
  rintro(h|⟨h,-⟩)
  ·exact absurd h (by decide)
  ·exact absurd h (by decide)
theorem SetI.tp{xs:List Iv}{J:List RP}(h:SetI xs J):xs.map Iv.cuts=J.map tpR:=h.cuts
theorem SetI.known{xs:List Iv}{J:List RP}(h:SetI xs J):∀p∈xs.map Iv.cuts,qb7 p.1∧qb7 p.2:=fun p hp=>by
 rw[h.tp]at hp;obtain⟨r,hr,rfl⟩:=List.mem_map.1 hp;exact⟨⟨_,(h.ok r hr).1,rfl⟩,_,(h.ok r hr).2,rfl⟩
theorem qht{keep:Bool→Bool→Bool}{xs ys:List Iv}{Jx Jy:List RP}(hx:SetI xs Jx)(hy:SetI ys Jy){P:List Cut}
  (hP:P.Pairwise CG) (hsub:∀c∈P,c∈qbb ((xs++ys).map Iv.cuts)) (hcov:∀c∈qbb ((xs++ys).map Iv.cuts),∃c'∈P,cmpG c c'=0)
  {J:List RP} (hJ:IsSet ltR J) (hJo:∀r∈J,OkR r)
  (hmem:∀c,qb7 c→(Mem CG (J.map tpR) c↔CG c highest∧keep (memB CG (xs.map Iv.cuts) c) (memB CG (ys.map Iv.cuts) c)=true)):
  runR CG keep P (xs.map Iv.cuts) (ys.map Iv.cuts) []=J.map tpR:=by
 have hkn:∀c∈qbb ((xs++ys).map Iv.cuts),qb7 c:=fun c hc=>by
  unfold qbb at hc;rcases List.mem_append.1 hc with h|h
  ·simp only[List.mem_cons,List.not_mem_nil,or_false]at h
   rcases h with rfl|rfl
   ·exact qol
   ·exact qms
  ·obtain⟨l,hl,hcl⟩:=List.mem_flatten.1 h
   obtain⟨p,hp,rfl⟩:=List.mem_map.1 hl
   have hp2:qb7 p.1∧qb7 p.2:=by
    rw[List.map_append]at hp;rcases List.mem_append.1 hp with h|h
    ·exact hx.known p h
    ·exact hy.known p h
   simp only[List.mem_cons,List.not_mem_nil,or_false]at hcl;rcases hcl with rfl|rfl
   ·exact hp2.1
   ·exact hp2.2
 have hall:∀c∈qbb ((xs++ys).map Iv.cuts),c∈P:=fun c hc=>by
  obtain⟨c',h1,h2⟩:=hcov c hc;have h3:=qjw.1 h2;rw[qfo c c' (hkn c hc) (hkn c' (hsub c' h1)) h3.1 h3.2];exact h1
 have hPk:∀c∈P,qb7 c:=fun c hc=>hkn c (hsub c hc)
 have hlo:lowest∈P:=hall _ (by unfold qbb;simp);have hhi:highest∈P:=hall _ (by unfold qbb;simp)
 have hends:∀{zs:List Iv},(∀z∈zs,z∈xs++ys)→∀p∈zs.map Iv.cuts,p.1∈P∧p.2∈P:=fun hz p hp=>by
  obtain⟨z,hzz,rfl⟩:=List.mem_map.1 hp
  have h1:∀c∈[z.cuts.1,z.cuts.2],c∈P:=fun c hc=>hall c (by
   unfold qbb
   exact List.mem_append_right _ (List.mem_flatten.2 ⟨_,List.mem_map.2 ⟨z.cuts,List.mem_map_of_mem (hz z hzz),rfl⟩,hc⟩))
  exact⟨h1 _ (by simp),h1 _ (by simp)⟩
 cases P with
 |nil=>cases hlo
 |cons a P=>
  obtain⟨ha,hP'⟩:=List.pairwise_cons.1 hP
  have hal:a=lowest:=by
   rcases List.mem_cons.1 hlo with h|h
   ·exact h.symm
   ·exact absurd (ha _ h) (qkg (hPk a (List.mem_cons_self ..)))
  have hne:(highest:Cut)≠lowest:=fun h=>absurd (congrArg Cut.b h) (by decide)
  have hhi':highest∈P:=by
   rcases List.mem_cons.1 hhi with h|h
   ·exact absurd (h.trans hal) hne
   ·exact h
  have hin:∀{c:Cut},c∈a::P→¬CG a c∨c∈P:=fun h=>by
   rcases List.mem_cons.1 h with rfl|h
   ·exact .inl (qcn.irr _)
   ·exact .inr h
  have hpX:∀{zs:List Iv},(∀z∈zs,z∈xs++ys)→∀p∈zs.map Iv.cuts,(¬CG a p.1∨p.1∈P)∧(¬CG a p.2∨p.2∈P):=fun hz p hp=>⟨hin (hends hz p hp).1,hin (hends hz p hp).2⟩
  obtain⟨hF1,hF2⟩:=qj5 qcn keep P a (xs.map Iv.cuts) (ys.map Iv.cuts) [] hP (by rw[hx.tp];exact qk5 hx.set) (by rw[hy.tp];exact qk5 hy.set) IsSet.nil (fun q hq=>by cases hq) (hpX (fun z hz=>List.mem_append_left _ hz)) (hpX (fun z hz=>List.mem_append_right _ hz));refine IsSet.uniq qcn qb7 qfo hF1 (qk5 hJ) ?_ ?_ ?_
  ·exact qk9 keep (a::P) _ _ [] hPk (fun p h=>by cases h)
  ·intro p hp
   obtain⟨r,hr,rfl⟩:=List.mem_map.1 hp;exact⟨⟨_,(hJo r hr).1,rfl⟩,_,(hJo r hr).2,rfl⟩
  ·intro c hc
   rw[hF2,hmem c hc]
   constructor
   ·rintro(h|⟨h1,⟨z,hz,hcz⟩,h3⟩)
    ·exact absurd h Mem.nil
    ·refine⟨?_,h3⟩
     have hzk:=hPk z (List.mem_cons_of_mem _ hz)
     by_cases hzh:z=highest
     ·rwa [←hzh]
     ·exact qcn.tr hcz (qtd hzk hzh)
   ·rintro⟨h1,h3⟩
    exact .inr ⟨by rw[hal];exact qkg hc,⟨highest,hhi',h1⟩,h3⟩
def SetP(L:List Iv)(r:Value)(w':World):Prop:=∃a c,r=.tuple #[.slice a (if 256<L.length then[]else L).length c,.int .i64 (if 256<L.length then 6 else 0)]∧Ivs w' (.slice a (if 256<L.length then[]else L).length c) (if 256<L.length then[]else L)
theorem qf8{keep:Bool→Bool→Bool}{xs ys:List Iv}{Jx Jy:List RP}(hx:SetI xs Jx)(hy:SetI ys Jy){J:List RP}(hJ:IsSet ltR J)(hJo:∀r∈J,OkR r)
  (hmem:∀c,qb7 c→(Mem CG (J.map tpR) c↔CG c highest∧keep (memB CG (xs.map Iv.cuts) c) (memB CG (ys.map Iv.cuts) c)=true)) {r:Value} {w':World} (h:qjz keep xs ys r w'):SetP (J.map ivR) r w':=by
 obtain⟨P,⟨h1,h2,h3⟩,F,hF,h⟩:=h;have hFJ:=qht hx hy h1 h2 h3 hJ hJo hmem;rw[hF]at hFJ;have hl:F.length=(J.map ivR).length:=by rw[hFJ,List.length_map,List.length_map]
 have hiv:F.map ivOf=J.map ivR:=by
  rw[hFJ,List.map_map];exact List.map_congr_left fun r hr=>qlo (hJo r hr)
 unfold SetP;rcases h with⟨hb,rfl⟩|⟨hs,a,c,rfl,hi⟩
 ·rw[←hl]
  simp only[if_pos hb];exact⟨none,0,rfl,Sl.nil w' 4⟩
 ·rw[←hl]
  simp only[if_neg (show ¬256<F.length by omega)];rw[hl,hiv]at hi;exact⟨a,c,by rw[hl],hi⟩
theorem qjz.tup{keep:Bool→Bool→Bool}{xs ys:List Iv}{r:Value}{w':World}(h:qjz keep xs ys r w'):∃a n c e,r=.tuple #[.slice a n c,.int .i64 e]:=by
 obtain⟨P,-,F,-,⟨-,rfl⟩|⟨-,a,c,rfl,-⟩⟩:=h
 ·exact⟨none,0,0,6,rfl⟩
 ·exact⟨a,_,c,0,rfl⟩
theorem qmt(p q:Bool)(W:World):Calls Tryz.prog 93 #[.bool p,.bool q] W (Ret (.bool ((fun a b=>a||b) p q)) W):=by
 cases p<;>cases q
 all_goals
  go_enter Tryz.func93,Tryz.ntmps93
  go_wp2_with fail
  go_ret
  exact⟨rfl,Below.refl _ _⟩
theorem qq2(u v:Value)(xs ys:List Iv)(w:World)(hx:Ivs w u xs)(hy:Ivs w v ys)(hsx:∀x∈xs,x.short)(hsy:∀x∈ys,x.short)(hex:qbj xs=0)(hey:qbj ys=0)(hnx:xs.length≤256)(hny:ys.length≤256):
  Calls Tryz.prog 36 #[u,v] w (RetP (qjz (fun a b=>a||b) xs ys) w):=by
 have H:=hI (qlx 93 (fun a b=>a||b) (fun p q W=>qmt p q W) (enters_of Tryz.func93 (by kernel_rfl) rfl) u v xs ys w hx hy hsx hsy hex hey hnx hny);clear hx hy hsx hsy hex hey hnx hny
 go_enter Tryz.func36,Tryz.ntmps36
 go_wp2_with (go_at_call 91;refine(H.out).mono ?_;rintro e w1 ⟨r,rfl,hc,hb⟩;obtain⟨a1,n1,c1,e1,rfl⟩:=hc.tup;have Hc:=hI hc;have Hb:=hI hb;clear hc hb)
 go_ret2
 exact⟨_,rfl,Hc.out,Hb.out⟩
theorem qg7(p q:Bool)(W:World):Calls Tryz.prog 94 #[.bool p,.bool q] W (Ret (.bool ((fun a b=>a&&b) p q)) W):=by
 cases p<;>cases q
 all_goals
  go_enter Tryz.func94,Tryz.ntmps94
  go_wp2_with fail
  go_ret
  exact⟨rfl,Below.refl _ _⟩
theorem qjn(u v:Value)(xs ys:List Iv)(w:World)(hx:Ivs w u xs)(hy:Ivs w v ys)(hsx:∀x∈xs,x.short)(hsy:∀x∈ys,x.short)(hex:qbj xs=0)(hey:qbj ys=0)(hnx:xs.length≤256)(hny:ys.length≤256):
  Calls Tryz.prog 37 #[u,v] w (RetP (qjz (fun a b=>a&&b) xs ys) w):=by
 have H:=hI (qlx 94 (fun a b=>a&&b) (fun p q W=>qg7 p q W) (enters_of Tryz.func94 (by kernel_rfl) rfl) u v xs ys w hx hy hsx hsy hex hey hnx hny);clear hx hy hsx hsy hex hey hnx hny
 go_enter Tryz.func37,Tryz.ntmps37
 go_wp2_with (go_at_call 91;refine(H.out).mono ?_;rintro e w1 ⟨r,rfl,hc,hb⟩;obtain⟨a1,n1,c1,e1,rfl⟩:=hc.tup;have Hc:=hI hc;have Hb:=hI hb;clear hc hb)
 go_ret2
 exact⟨_,rfl,Hc.out,Hb.out⟩
theorem qgv(p q:Bool)(W:World):Calls Tryz.prog 92 #[.bool p,.bool q] W (Ret (.bool ((fun a _=>!a) p q)) W):=by
 cases p<;>cases q
 all_goals
  go_enter Tryz.func92,Tryz.ntmps92
  go_wp2_with fail
  go_ret
  exact⟨rfl,Below.refl _ _⟩
theorem qid(u:Value)(xs:List Iv)(w:World)(hx:Ivs w u xs)(hsx:∀x∈xs,x.short)(hex:qbj xs=0)(hnx:xs.length≤256):
  Calls Tryz.prog 35 #[u] w (RetP (qjz (fun a _=>!a) xs []) w):=by
 have H:=hI (qlx 92 (fun a _=>!a) (fun p q W=>qgv p q W) (enters_of Tryz.func92 (by kernel_rfl) rfl) u (.slice none 0 0) xs [] w hx (Sl.nil w 4) hsx (fun x h=>by cases h) hex rfl hnx (Nat.zero_le _));clear hx hsx hex hnx
 go_enter Tryz.func35,Tryz.ntmps35
 go_wp2_with (go_at_call 91;refine(H.out).mono ?_;rintro e w1 ⟨r,rfl,hc,hb⟩;obtain⟨a1,n1,c1,e1,rfl⟩:=hc.tup;have Hc:=hI hc;have Hb:=hI hb;clear hc hb)
 go_ret2
 exact⟨_,rfl,Hc.out,Hb.out⟩
theorem qmu(p q:Bool)(W:World):Calls Tryz.prog 103 #[.bool p,.bool q] W (Ret (.bool ((fun a b=>a&&!b) p q)) W):=by
 cases p<;>cases q
 all_goals
  go_enter Tryz.func103,Tryz.ntmps103
  go_wp2_with fail
  go_ret
  exact⟨rfl,Below.refl _ _⟩
theorem qq4(u v:Value)(xs ys:List Iv)(w:World)(hx:Ivs w u xs)(hy:Ivs w v ys)(hsx:∀x∈xs,x.short)(hsy:∀x∈ys,x.short)(hex:qbj xs=0)(hey:qbj ys=0)(hnx:xs.length≤256)(hny:ys.length≤256):
  Calls Tryz.prog 45 #[u,v] w (RetP (qjz (fun a b=>a&&!b) xs ys) w):=by
 have H:=hI (qlx 103 (fun a b=>a&&!b) (fun p q W=>qmu p q W) (enters_of Tryz.func103 (by kernel_rfl) rfl) u v xs ys w hx hy hsx hsy hex hey hnx hny);clear hx hy hsx hsy hex hey hnx hny
 go_enter Tryz.func45,Tryz.ntmps45
 go_wp2_with (go_at_call 91;refine(H.out).mono ?_;rintro e w1 ⟨r,rfl,hc,hb⟩;obtain⟨a1,n1,c1,e1,rfl⟩:=hc.tup;have Hc:=hI hc;have Hb:=hI hb;clear hc hb)
 go_ret2
 exact⟨_,rfl,Hc.out,Hb.out⟩
theorem qdh(v:Value)(rs:List RP)(w:World)(h:Rgs w v rs)(hn:rs.length<100000):Calls Tryz.prog 100 #[v] w (RetP (SetP (rs.map ivR)) w):=by
 obtain⟨a,c,rfl,hc1,hc2⟩:=h.open;have H:=hI (qet _ rs w h hn);have Hl:=hI (show(rs.map ivR).length=rs.length by simp);clear h;unfold SetP;rcases Nat.lt_or_ge 256 rs.length with hb|hb
 ·have h2:(256:Int)<(rs.length:Int):=by omega
  simp only[Hl.out,if_pos hb]
  go_enter Tryz.func100,Tryz.ntmps100
  go_wp2_with fail
  go_ret2
  exact⟨_,rfl,⟨none,0,rfl,Sl.nil w 4⟩,Below.refl _ _⟩
 ·have h2:¬(256:Int)<(rs.length:Int):=by omega
  simp only[Hl.out,if_neg (show ¬256<rs.length by omega)]
  go_enter Tryz.func100,Tryz.ntmps100
  go_wp2_with (go_at_call 78;refine(H.out).mono ?_;rintro e w1 ⟨v1,rfl,⟨a1,c1,rfl,hiv⟩,hb1⟩;have Hiv:=hI hiv;have Hb1:=hI hb1;clear hiv hb1)
  go_ret2
  exact⟨_,rfl,⟨a1,c1,rfl,Hiv.out⟩,Hb1.out⟩
theorem SetP.tup{L:List Iv}{r:Value}{w':World}(h:SetP L r w'):∃a n c e,r=.tuple #[.slice a n c,.int .i64 e]:=by
 obtain⟨a,c,rfl,-⟩:=h;exact⟨a,_,c,_,rfl⟩
theorem qt1{ops:Array Oper}{rest:List Oper}{o:Oper}{a:Act}{Q:Exit→Act→World→Prop}{W:World}(hgd:o.guard=none)(s x:Operand)(ho:o.op=.call { callee:=.builtin .append,args:=#[s,x],argTypes:=#[104,104] })
  (B n:Nat) (v:Value) (ps qs:List RP) (ad:Option Addr) (m c:Nat) (hs:a.eval s=v) (hx:a.eval x=.slice ad m c) (hown:W.ownsRow B 119 6 v n (qbo ps)) (hq:Sl W 6 (.slice ad m c) (qs.map rrow)) (hn:n+m<1000000) (hB:B≤W.heap.size)
  (h:∀v' w',w'.ownsRow B 119 6 v' (n+m) (qbo (ps++qs))→W.grownBy w' v.ownBlock→wpList Tryz.prog ops Q rest (a.put o.dst v') w'):wpList Tryz.prog ops Q (o::rest) a W:=by
 have hi:=ER.info;simp only[Option.map_eq_some_iff,Prod.mk.injEq]at hi;obtain⟨i,hi,⟨z,hz,hzs⟩,hsize,hby⟩:=hi;have hrl:∀r∈qs.map rrow,r.length=6:=fun r hr=>by obtain⟨p,_,rfl⟩:=List.mem_map.1 hr;rfl
 have hm:qs.length=m:=by
  obtain⟨_,_,hv,_⟩:=hq.open;cases hv
  rw[List.length_map]
 rcases Nat.eq_zero_or_pos m with h0|h0
 ·subst h0
  obtain rfl:=List.length_eq_zero_iff.1 hm;obtain⟨av,cv,hv,hcv,-⟩:=qam hown
  have hr:(Builtin.append_ #[104,104] o.type #[.slice av n cv,.slice ad 0 c]).run Tryz.prog W=.ok (.slice av n cv) W:=by
   cases av<;>cases ad<;>simp[Builtin.append_,run_underlying ER.und,sizeOf,typeInfo,hi,Builtin.lenOf,Builtin.firstCells,loadCells,loadCellsFrom,hcv,storeCells]
  refine wpList_plain hgd fun _ hK=>?_
  unfold Oper.wp execOp;simp only[ho,resolve,invoke,builtin,Sem.run_bind,Sem.run_pure,Result.andThen_ok,List.map_toArray,List.map_cons,List.map_nil,hs,hv,hx,hr];refine hK _ _ (h _ _ ?_ ⟨rfl,rfl,rfl,Nat.le_refl _,fun _ _ _=>rfl⟩)
  rw[List.append_nil,Nat.add_zero,←hv];exact hown
 ·obtain⟨b,off,rfl⟩:∃b off,ad=some ⟨b,off,none⟩:=by
   obtain⟨_,_,hv,hcc,_,h2⟩:=id hq;cases hv
   rcases h2 with h2|⟨b,off,rfl,-,-⟩
   ·omega
   ·exact⟨b,off,rfl⟩
  have he:qbo (ps++qs)=qbo ps++(qs.map rrow).flatten:=by
   unfold qbo;rw[List.map_append,List.flatten_append]
  rw[he]at h;refine wpList_append_own _ hgd s x 104 ho B 119 i z 6 64 ER.und hi hz hsize hby hzs (by decide) v n _ hs hown ⟨b,off,none⟩ m c ((qs.map rrow).flatten) hx (by rw[qcg hrl,List.length_map,hm]) (hq.flat hrl (by decide)) ?_ (by unfold maxLen;omega) (by omega) hB (fun v' w' a1 a2 _=>h v' w' a1 a2)
  intro u hu;obtain⟨r,hr,hu⟩:=List.mem_flatten.1 hu;obtain⟨p,_,rfl⟩:=List.mem_map.1 hr;exact one6 p u hu
theorem qp6(u v:Value)(xs ys:List Iv)(w:World)(hx:Ivs w u xs)(hy:Ivs w v ys)(hox:∀r∈xs.map rgOf,OkR r)(hoy:∀r∈ys.map rgOf,OkR r)(hn:xs.length≤20)(hm:ys.length≤20):Calls Tryz.prog 42 #[u,v] w (RetP (SetP ((qaq (xs.map rgOf++ys.map rgOf)).map ivR)) w):=by
 have HX:=hI (qb4 u xs w hx (by omega));have HY:=hI (fun w' (hb:Below w.heap.size w w')=>qb4 v ys w' (hy.mono hb) (by omega));have Hox:=hI hox;have Hoy:=hI hoy;have Hlx:=hI (show(xs.map rgOf).length=xs.length by simp);have Hly:=hI (show(ys.map rgOf).length=ys.length by simp);clear hx hy hox hoy;have hok2:∀r∈xs.map rgOf++ys.map rgOf,OkR r:=fun r hr=>(List.mem_append.1 hr).elim (Hox.out r) (Hoy.out r)
 have Hok2:=hI hok2;have Hl2:=hI (show(xs.map rgOf++ys.map rgOf).length≤1000 by rw[List.length_append,Hlx.out,Hly.out];omega);have Hjl:=hI (show(qaq (xs.map rgOf++ys.map rgOf)).length<100000 by have:=qbv (xs.map rgOf++ys.map rgOf);have:=Hl2.out;omega);clear hok2
 go_enter Tryz.func42,Tryz.ntmps42
 go_wp2_with (first
  |(at_builtin;obtain⟨ad,cd,rfl,-,-⟩:=qam Hown2.out;refine qt1 rfl _ _ rfl w.heap.size xs.length _ (xs.map rgOf) (ys.map rgOf) ad ys.length cd rfl rfl Hown1'.out (qa8 Hown2.out) (by omega) Hb2.out.size ?_;intro v' w3 hown' hg';have Hb3:=hI (Below.grown Hb2.out hg' Hb2.out.size (fun q hq=>(Hown1'.out.lt q hq).1));have Hown3:=hI hown';clear hown' hg')
  |(go_at_call 79;refine(qeq _ _ _ (qa8 Hown3.out) Hok2.out Hl2.out).mono ?_;rintro e w4 ⟨v4,rfl,hown4,hb4⟩;have Hb4:=hI (qab Hb3.out hb4);have Hown4:=hI hown4;clear hown4 hb4)
  |(go_at_call 100;refine(qdh _ _ _ (qa8 Hown4.out) (by exact Hjl.out)).mono ?_;rintro e w9 ⟨r9,rfl,hs9,hb9⟩;obtain⟨a9,n9,c9,e9,rfl⟩:=hs9.tup;have Hs9:=hI hs9;have Hb9:=hI (qab Hb4.out hb9);clear hs9 hb9)
  |(have _t:=Hb1;clear _t;go_at_call 80;refine(HY.out _ Hb1.out).mono ?_;rintro e w2 ⟨v2,rfl,hown2,hb2⟩;have Hown1':=hI (qae Hown1.out hb2);have Hb2:=hI (qab Hb1.out hb2);have Hown2:=hI hown2;clear hown2 hb2)
  |(go_at_call 80;refine(HX.out).mono ?_;rintro e w1 ⟨v1,rfl,hown1,hb1⟩;have Hb1:=hI hb1;have Hown1:=hI hown1;clear hown1 hb1))
 go_ret2
 exact⟨_,rfl,Hs9.out,Hb9.out⟩
theorem qi2(u v:Value)(xs ys:List Iv)(w:World)(hx:Ivs w u xs)(hy:Ivs w v ys)(hox:∀r∈xs.map rgOf,OkR r)(hoy:∀r∈ys.map rgOf,OkR r)(hn:xs.length≤20)(hm:ys.length≤20):Calls Tryz.prog 43 #[u,v] w (RetP (SetP ((qaq (qb1 ltR (xs.map rgOf) (ys.map rgOf))).map ivR)) w):=by
 have HX:=hI (qb4 u xs w hx (by omega));have HY:=hI (fun w' (hb:Below w.heap.size w w')=>qb4 v ys w' (hy.mono hb) (by omega));have Hox:=hI hox;have Hoy:=hI hoy;have Hlx:=hI (show(xs.map rgOf).length=xs.length by simp);have Hly:=hI (show(ys.map rgOf).length=ys.length by simp);clear hx hy hox hoy
 have Hjl:=hI (show(qaq (qb1 ltR (xs.map rgOf) (ys.map rgOf))).length<100000 by
  have h1:=qbv (qb1 ltR (xs.map rgOf) (ys.map rgOf));rw[qdr,Hlx.out,Hly.out]at h1;have:=Nat.mul_le_mul hn hm
  omega)
 go_enter Tryz.func43,Tryz.ntmps43
 go_wp2_with (first
  |(go_at_call 101;refine(qgj _ _ _ _ _ (qa8 Hown1'.out) (qa8 Hown2.out) Hox.out Hoy.out (by rw[Hlx.out];omega) (by rw[Hly.out];omega)).mono ?_;rintro e w4 ⟨v4,rfl,hown4,hb4⟩;have Hb4:=hI (qab Hb2.out hb4);have Hown4:=hI hown4;clear hown4 hb4)
  |(go_at_call 100;refine(qdh _ _ _ (qa8 Hown4.out) (by exact Hjl.out)).mono ?_;rintro e w9 ⟨r9,rfl,hs9,hb9⟩;obtain⟨a9,n9,c9,e9,rfl⟩:=hs9.tup;have Hs9:=hI hs9;have Hb9:=hI (qab Hb4.out hb9);clear hs9 hb9)
  |(have _t:=Hb1;clear _t;go_at_call 80;refine(HY.out _ Hb1.out).mono ?_;rintro e w2 ⟨v2,rfl,hown2,hb2⟩;have Hown1':=hI (qae Hown1.out hb2);have Hb2:=hI (qab Hb1.out hb2);have Hown2:=hI hown2;clear hown2 hb2)
  |(go_at_call 80;refine(HX.out).mono ?_;rintro e w1 ⟨v1,rfl,hown1,hb1⟩;have Hb1:=hI hb1;have Hown1:=hI hown1;clear hown1 hb1))
 go_ret2
 exact⟨_,rfl,Hs9.out,Hb9.out⟩
theorem qh4(u:Value)(xs:List Iv)(w:World)(hx:Ivs w u xs)(hox:∀r∈xs.map rgOf,OkR r)(hn:xs.length≤20):Calls Tryz.prog 44 #[u] w (RetP (SetP ((qaq (qbd lowR qaz (xs.map rgOf))).map ivR)) w):=by
 have HX:=hI (qb4 u xs w hx (by omega));have Hox:=hI hox;have Hlx:=hI (show(xs.map rgOf).length=xs.length by simp);clear hx hox
 have Hjl:=hI (show(qaq (qbd lowR qaz (xs.map rgOf))).length<100000 by
  have h1:=qbv (qbd lowR qaz (xs.map rgOf));rw[qdw,Hlx.out]at h1
  omega)
 go_enter Tryz.func44,Tryz.ntmps44
 go_wp2_with (first
  |(go_at_call 102;refine(qgk _ _ _ (qa8 Hown1.out) Hox.out (by rw[Hlx.out];omega)).mono ?_;rintro e w4 ⟨v4,rfl,hown4,hb4⟩;have Hb4:=hI (qab Hb1.out hb4);have Hown4:=hI hown4;clear hown4 hb4)
  |(go_at_call 100;refine(qdh _ _ _ (qa8 Hown4.out) (by exact Hjl.out)).mono ?_;rintro e w9 ⟨r9,rfl,hs9,hb9⟩;obtain⟨a9,n9,c9,e9,rfl⟩:=hs9.tup;have Hs9:=hI hs9;have Hb9:=hI (qab Hb4.out hb9);clear hs9 hb9)
  |(go_at_call 80;refine(HX.out).mono ?_;rintro e w1 ⟨v1,rfl,hown1,hb1⟩;have Hb1:=hI hb1;have Hown1:=hI hown1;clear hown1 hb1))
 go_ret2
 exact⟨_,rfl,Hs9.out,Hb9.out⟩
theorem qj8(u v:Value)(xs ys:List Iv)(w:World)(hx:Ivs w u xs)(hy:Ivs w v ys)(hox:∀r∈xs.map rgOf,OkR r)(hoy:∀r∈ys.map rgOf,OkR r)(hn:xs.length≤20)(hm:ys.length≤20):Calls Tryz.prog 46 #[u,v] w (RetP (SetP ((qaq (qb1 ltR (xs.map rgOf) (qaq (qbd lowR qaz (ys.map rgOf))))).map ivR)) w):=by
 have HX:=hI (qb4 u xs w hx (by omega));have HY:=hI (fun w' (hb:Below w.heap.size w w')=>qb4 v ys w' (hy.mono hb) (by omega));have Hox:=hI hox;have Hoy:=hI hoy;have Hlx:=hI (show(xs.map rgOf).length=xs.length by simp);have Hly:=hI (show(ys.map rgOf).length=ys.length by simp);clear hx hy hox hoy;have Hog:=hI (show ∀r∈qaq (qbd lowR qaz (ys.map rgOf)),OkR r from qde (P:=RokC) (qe9 qaz qel _ _ qfj Hoy.out))
 have Hgl:=hI (show(qaq (qbd lowR qaz (ys.map rgOf))).length≤30 by
  have h1:=qbv (qbd lowR qaz (ys.map rgOf));rw[qdw,Hly.out]at h1
  omega)
 have Hjl:=hI (show(qaq (qb1 ltR (xs.map rgOf) (qaq (qbd lowR qaz (ys.map rgOf))))).length<100000 by
  have h1:=qbv (qb1 ltR (xs.map rgOf) (qaq (qbd lowR qaz (ys.map rgOf))));rw[qdr,Hlx.out]at h1;have:=Nat.mul_le_mul hn Hgl.out
  omega)
 go_enter Tryz.func46,Tryz.ntmps46
 go_wp2_with (first
  |(go_at_call 101;refine(qgj _ _ _ _ _ (qa8 Hown1q.out) (qa8 Hown3.out) Hox.out Hog.out (by rw[Hlx.out];omega) Hgl.out).mono ?_;rintro e w4 ⟨v4,rfl,hown4,hb4⟩;have Hb4:=hI (qab Hb3.out hb4);have Hown4:=hI hown4;clear hown4 hb4)
  |(go_at_call 102;refine(qgk _ _ _ (qa8 Hown2.out) Hoy.out (by rw[Hly.out];omega)).mono ?_;rintro e w3 ⟨v3,rfl,hown3,hb3⟩;have Hown1q:=hI (qae Hown1'.out hb3);have Hb3:=hI (qab Hb2.out hb3);have Hown3:=hI hown3;clear hown3 hb3)
  |(go_at_call 100;refine(qdh _ _ _ (qa8 Hown4.out) (by exact Hjl.out)).mono ?_;rintro e w9 ⟨r9,rfl,hs9,hb9⟩;obtain⟨a9,n9,c9,e9,rfl⟩:=hs9.tup;have Hs9:=hI hs9;have Hb9:=hI (qab Hb4.out hb9);clear hs9 hb9)
  |(have _t:=Hb1;clear _t;go_at_call 80;refine(HY.out _ Hb1.out).mono ?_;rintro e w2 ⟨v2,rfl,hown2,hb2⟩;have Hown1':=hI (qae Hown1.out hb2);have Hb2:=hI (qab Hb1.out hb2);have Hown2:=hI hown2;clear hown2 hb2)
  |(go_at_call 80;refine(HX.out).mono ?_;rintro e w1 ⟨v1,rfl,hown1,hb1⟩;have Hb1:=hI hb1;have Hown1:=hI hown1;clear hown1 hb1))
 go_ret2
 exact⟨_,rfl,Hs9.out,Hb9.out⟩
theorem qns(u v:Value)(xs ys:List Iv)(w:World)(hx:Ivs w u xs)(hy:Ivs w v ys)(hox:∀r∈xs.map rgOf,OkR r)(hoy:∀r∈ys.map rgOf,OkR r)(hn:xs.length≤20)(hm:ys.length≤20):Calls Tryz.prog 47 #[u,v] w (Ret (.bool (decide ((qaq (qb1 ltR (xs.map rgOf) (qaq (qbd lowR qaz (ys.map rgOf))))).length=0))) w):=by
 have HX:=hI (qb4 u xs w hx (by omega));have HY:=hI (fun w' (hb:Below w.heap.size w w')=>qb4 v ys w' (hy.mono hb) (by omega));have Hox:=hI hox;have Hoy:=hI hoy;have Hlx:=hI (show(xs.map rgOf).length=xs.length by simp);have Hly:=hI (show(ys.map rgOf).length=ys.length by simp);clear hx hy hox hoy;have Hog:=hI (show ∀r∈qaq (qbd lowR qaz (ys.map rgOf)),OkR r from qde (P:=RokC) (qe9 qaz qel _ _ qfj Hoy.out))
 have Hgl:=hI (show(qaq (qbd lowR qaz (ys.map rgOf))).length≤30 by
  have h1:=qbv (qbd lowR qaz (ys.map rgOf));rw[qdw,Hly.out]at h1
  omega)
 have Hjl:=hI (show(qaq (qb1 ltR (xs.map rgOf) (qaq (qbd lowR qaz (ys.map rgOf))))).length<100000 by
  have h1:=qbv (qb1 ltR (xs.map rgOf) (qaq (qbd lowR qaz (ys.map rgOf))));rw[qdr,Hlx.out]at h1;have:=Nat.mul_le_mul hn Hgl.out
  omega)
 generalize hjj:(qaq (qb1 ltR (xs.map rgOf) (qaq (qbd lowR qaz (ys.map rgOf))))).length=jl at*;have Hjj:=hI hjj;clear hjj
 go_enter Tryz.func47,Tryz.ntmps47
 go_wp2_with (first
  |(go_at_call 101;refine(qgj _ _ _ _ _ (qa8 Hown1q.out) (qa8 Hown3.out) Hox.out Hog.out (by rw[Hlx.out];omega) Hgl.out).mono ?_;rintro e w4 ⟨v4,rfl,hown4,hb4⟩;rw[Hjj.out]at hown4;have Hb4:=hI (qab Hb3.out hb4);obtain⟨a4,c4,rfl,-,-⟩:=qam hown4;clear hown4 hb4)
  |(go_at_call 102;refine(qgk _ _ _ (qa8 Hown2.out) Hoy.out (by rw[Hly.out];omega)).mono ?_;rintro e w3 ⟨v3,rfl,hown3,hb3⟩;have Hown1q:=hI (qae Hown1'.out hb3);have Hb3:=hI (qab Hb2.out hb3);have Hown3:=hI hown3;clear hown3 hb3)
  |(have _t:=Hb1;clear _t;go_at_call 80;refine(HY.out _ Hb1.out).mono ?_;rintro e w2 ⟨v2,rfl,hown2,hb2⟩;have Hown1':=hI (qae Hown1.out hb2);have Hb2:=hI (qab Hb1.out hb2);have Hown2:=hI hown2;clear hown2 hb2)
  |(go_at_call 80;refine(HX.out).mono ?_;rintro e w1 ⟨v1,rfl,hown1,hb1⟩;have Hb1:=hI hb1;have Hown1:=hI hown1;clear hown1 hb1))
 go_ret
 refine⟨?_,Hb4.out⟩
 by_cases h:jl=0
 ·subst h;rfl
 ·have h2:¬(jl:Int)=0:=by omega
  simp[h]
theorem qqc{r:RP}(h:OkR r)(hl:ltR r.1 r.2):rgOf (ivR r)=r:=by
 obtain⟨h1,h2⟩:=h;obtain⟨n1,n2⟩:=quk h1 h2 hl;obtain⟨⟨b1,s1,d1⟩,b2,s2,d2⟩:=r;unfold rgOf ivR loC upC;dsimp only at h1 h2 n1 n2⊢
 congr 1
 ·rcases h1 with⟨hb,-,-,h0,h1⟩|⟨hb|hb,hs,hd⟩
  ·dsimp only at hb h0 h1
   subst hb;rcases(show d1=0∨d1=1 by omega)with rfl|rfl<;>simp
  ·exact absurd hb n1
  ·dsimp only at hb hs hd
   subst hb hs hd;simp
 ·rcases h2 with⟨hb,-,-,h0,h1⟩|⟨hb|hb,hs,hd⟩
  ·dsimp only at hb h0 h1
   subst hb;rcases(show d2=0∨d2=1 by omega)with rfl|rfl<;>simp
  ·dsimp only at hb hs hd
   subst hb hs hd;simp
  ·exact absurd hb n2
theorem SetI.rg{xs:List Iv}{J:List RP}(h:SetI xs J):xs.map rgOf=J:=by
 rw[h.eq,List.map_map]
 conv=>rhs;rw[←List.map_id J]
 exact List.map_congr_left fun r hr=>qqc (h.ok r hr) (h.set.ne r hr)
theorem SetI.mem{xs:List Iv}{J:List RP}(h:SetI xs J)(r:Cut):memB CG (xs.map Iv.cuts) (toP r)=true↔Mem ltR J r:=by
 rw[qe7,h.tp,qgt]
theorem qib{J:List RP}(hJ:∀r∈J,OkR r){r:Cut}(h:Mem ltR J r):CG (toP r) highest:=by
 obtain⟨p,hp,-,h2⟩:=h;exact qcn.lt_le h2 (qli ⟨_,(hJ p hp).2,rfl⟩)
theorem qgb{a b:Bool}{p q:Prop}(h1:a=true↔p)(h2:b=true↔q):((a||b)=true↔p∨q)∧((a&&b)=true↔p∧q)∧((!a)=true↔¬p)∧((a&&!b)=true↔p∧¬q):=by
 cases a<;>cases b<;>simp_all
section
variable {xs ys:List Iv} {Jx Jy:List RP} (hx:SetI xs Jx) (hy:SetI ys Jy)
include hx hy
theorem qod(c:Cut)(hc:qb7 c):Mem CG ((qaq (Jx++Jy)).map tpR) c↔CG c highest∧(memB CG (xs.map Iv.cuts) c||memB CG (ys.map Iv.cuts) c)=true:=by
 obtain⟨r,hr,rfl⟩:=hc;rw[qgt,(qcy _).2,Mem.app,(qgb (hx.mem r) (hy.mem r)).1];exact⟨fun h=>⟨h.elim (qib hx.ok) (qib hy.ok),h⟩,fun h=>h.2⟩
theorem qoe(c:Cut)(hc:qb7 c):Mem CG ((qaq (qb1 ltR Jx Jy)).map tpR) c↔CG c highest∧(memB CG (xs.map Iv.cuts) c&&memB CG (ys.map Iv.cuts) c)=true:=by
 obtain⟨r,hr,rfl⟩:=hc;rw[qgt,(qcy _).2,qll qdd,(qgb (hx.mem r) (hy.mem r)).2.1];exact⟨fun h=>⟨qib hx.ok h.1,h⟩,fun h=>h.2⟩
end
theorem qln{r:Cut}(h:RokC r):¬ltR r lowR:=qkg ⟨r,h,rfl⟩
theorem qtf{r:Cut}(h:RokC r):¬ltR qaz r:=qli ⟨r,h,rfl⟩
theorem qof{J:List RP}(hs:IsSet ltR J)(hok:∀r∈J,OkR r){r:Cut}(hr:RokC r):Mem ltR (qbd lowR qaz J) r↔ltR r qaz∧¬Mem ltR J r:=by
 constructor
 ·intro h
  have hlt:ltR r qaz:=by
   obtain⟨p,hp,-,h2⟩:=h;have hp2:=(qe9 (P:=RokC) qaz qel J lowR qfj (fun q hq=>hok q hq) p hp).2;exact qdd.lt_le h2 (qtf hp2)
  exact⟨hlt,(qif qdd qaz J lowR hs (fun p hp=>qln (hok p hp).1) r (qln hr) hlt).1 h⟩
 ·rintro⟨h1,h2⟩
  exact(qif qdd qaz J lowR hs (fun p hp=>qln (hok p hp).1) r (qln hr) h1).2 h2
theorem qog{xs:List Iv}{Jx:List RP}(hx:SetI xs Jx)(c:Cut)(hc:qb7 c):Mem CG ((qaq (qbd lowR qaz Jx)).map tpR) c↔CG c highest∧(!memB CG (xs.map Iv.cuts) c)=true:=by
 obtain⟨r,hr,rfl⟩:=hc;rw[qgt,(qcy _).2,qof hx.set hx.ok hr,(qgb (hx.mem r) (hx.mem r)).2.2.1];exact Iff.rfl
theorem qji{xs ys:List Iv}{Jx Jy:List RP}(hx:SetI xs Jx)(hy:SetI ys Jy)(c:Cut)(hc:qb7 c):Mem CG ((qaq (qb1 ltR Jx (qaq (qbd lowR qaz Jy)))).map tpR) c↔CG c highest∧(memB CG (xs.map Iv.cuts) c&&!memB CG (ys.map Iv.cuts) c)=true:=by
 obtain⟨r,hr,rfl⟩:=hc;rw[qgt,(qcy _).2,qll qdd,(qcy _).2,qof hy.set hy.ok hr,(qgb (hx.mem r) (hy.mem r)).2.2.2];exact⟨fun h=>⟨h.2.1,h.1,h.2.2⟩,fun h=>⟨h.2.1,h.1,h.2.2⟩⟩
theorem qp9{J:List RP}(h:∀r∈J,OkR r):∀r∈qaq (qbd lowR qaz J),OkR r:=qde (P:=RokC) (qe9 qaz qel _ _ qfj h)
theorem qp8{X Y:List RP}(hX:∀r∈X,OkR r)(hY:∀r∈Y,OkR r):∀r∈qaq (qb1 ltR X Y),OkR r:=qde (P:=RokC) (qqw hX hY)
theorem qiz:∀(P:List Cut) (X Y O:List PC),runR CG (fun _ _=>false) P X Y O=O
 |[],_,_,_=>rfl
 |[_],_,_,_=>rfl
 |low::high::r,X,Y,O=>by
  rw[runR];exact qiz (high::r) _ _ _
theorem qs2(O:List PC)(p:PC):putT CG O p≠[]:=by
 unfold putT
 split
 ·simp
 ·split<;>simp
theorem qnn:∀(P:List Cut) (X Y O:List PC) (s:Bool),(s=true↔O≠[])→(runS CG (fun s p q=>s||(p&&!q)) P X Y s=true↔runR CG (fun p q=>p&&!q) P X Y O≠[])
 |[],_,_,_,_,h=>h
 |[_],_,_,_,_,h=>h
 |low::high::r,X,Y,O,s,h=>by
  rw[runS,runR];refine qnn (high::r) _ _ _ _ ?_
  generalize begR CG low (qa4 CG low X)=a;generalize begR CG low (qa4 CG low Y)=b
  show(s||(a&&!b))=true↔(if(a&&!b)=true then putT CG O (low,high)else O)≠[]
  by_cases hk:(a&&!b)=true
  ·rw[if_pos hk,hk,Bool.or_true]
   exact⟨fun _=>qs2 _ _,fun _=>rfl⟩
  ·have hk2:(a&&!b)=false:=by simpa using hk
   rw[if_neg hk,hk2,Bool.or_false];exact h
theorem qkj(F:Nat)(s p q:Bool)(W:World)(hB:BlkO (some F) s W):Calls Tryz.prog 95 #[.bool p,.bool q,.pointer (some ⟨F,0,none⟩)] W (fun e W'=>e=.returned (.bool false)∧Below W.heap.size (putO (some F) (s||(p&&!q)) W) W'):=by
 have hb:Blk W F #[.bool s] 4:=hB;have hc:W.cell? ⟨F,0,none⟩=some (.bool s):=by rw[hb.cell];rfl
 have hf:=hb.free 0;clear hb hB;cases s<;>cases p<;>cases q
 all_goals
  go_enter Tryz.func95,Tryz.ntmps95
  go_wp2_with fail
  go_ret
  exact⟨rfl,by unfold putO;exact Below.refl _ _⟩
theorem qop(u v:Value)(xs ys:List Iv)(w:World)(hx:Ivs w u xs)(hy:Ivs w v ys)(hsx:∀x∈xs,x.short)(hsy:∀x∈ys,x.short)(hex:qbj xs=0)(hey:qbj ys=0)(hnx:xs.length≤256)(hny:ys.length≤256):
  Calls Tryz.prog 38 #[u,v] w (RetP (fun r _=>∃P:List Cut,(P.Pairwise CG∧(∀c∈P,c∈qbb ((xs++ys).map Iv.cuts))∧∀c∈qbb ((xs++ys).map Iv.cuts),∃c'∈P,cmpG c c'=0)∧r=.tuple #[.bool (decide (runR CG (fun a b=>a&&!b) P (xs.map Iv.cuts) (ys.map Iv.cuts) []=[])),.int .i64 0]) w):=by
 have H:=hI (fun(W:World) (hb:Below w.heap.size w W) (F:Nat) (hF:BlkO (some F) false W)=>qr7 (some F) false (fun s p q=>s||(p&&!q)) #[.pointer (some ⟨F,0,none⟩)] 95 (fun _ _=>false) (fun s p q W hB=>qkj F s p q W hB) (enters_of Tryz.func95 (by kernel_rfl) rfl) u v xs ys W hF (hx.mono hb) (hy.mono hb) hsx hsy hex hey hnx hny);clear hx hy hsx hsy hex hey hnx hny
 go_enter Tryz.func38,Tryz.ntmps38
 go_wp2_with (go_at_call 91;go_loud (refine(H.out _ (qac w (.cells #[.bool false] 4)) w.heap.size (Blk.new w _ _)).mono ?_;rintro e w1 ⟨r,rfl,P,hP,⟨F,hF,hr⟩,hb⟩;rw[qiz]at hF;subst hF;rcases hr with⟨hr,-⟩|⟨-,a1,c1,rfl,-⟩;exact absurd hr (by simp);have HP:=hI hP;have hS:=qnn P (xs.map Iv.cuts) (ys.map Iv.cuts) [] false (by simp);generalize runS CG (fun s p q=>s||(p&&!q)) P (xs.map Iv.cuts) (ys.map Iv.cuts) false=sF at hS hb;have HS:=hI hS;have hblk:Blk w1 w.heap.size #[.bool sF] 4:=Blk.below (BlkO.put (o:=some w.heap.size) (s:=false) (Blk.new w #[.bool false] 4) sF) (qef hb);have hcell:w1.cell? ⟨w.heap.size,0,none⟩=some (.bool sF):=(by rw[hblk.cell];rfl);have Hb:=hI (((qac w (.cells #[.bool false] 4)).setCell (p:=⟨w.heap.size,0,none⟩) (Nat.le_refl _) (.bool sF)).via (qef (o:=some w.heap.size) hb) (Nat.le_trans (qac w _).size (Nat.le_of_eq (qc0 (o:=some w.heap.size) (s:=sF)).symm)));clear hP hS hb hblk;rw[List.length_nil]))
 go_ret2
 refine⟨_,rfl,⟨P,HP.out,?_⟩,Hb.out⟩
 have h:=HS.out;cases sF
 ·have h2:runR CG (fun p q=>p&&!q) P (xs.map Iv.cuts) (ys.map Iv.cuts) []=[]:=by
   by_cases h3:runR CG (fun p q=>p&&!q) P (xs.map Iv.cuts) (ys.map Iv.cuts) []=[]
   ·exact h3
   ·exact absurd (h.2 h3) (by simp)
  rw[decide_eq_true h2];rfl
 ·rw[decide_eq_false (h.1 rfl)];rfl
end Go.Proofs.YtacihodamichhaaGreatDoor
