/- Parts of the proof. -/
import Derived.Test.YtacihodamichhaaGreatDoorU33
set_option maxHeartbeats 1000000
namespace Go.Proofs.YtacihodamichhaaGreatDoor
open Go.RowKit
def SetQ(U:List Iv)(r:Value)(w':World):Prop:=∃a c,r=.tuple #[.slice a U.length c,.int .i64 0]∧Ivs w' (.slice a U.length c) U
theorem SetP.q{L:List Iv}{r:Value}{w':World}(h:SetP L r w')(hl:L.length≤256):SetQ L r w':=by
 unfold SetP at h;simp only[if_neg (show ¬256<L.length by omega)]at h;exact h
section
variable {xs ys:List Iv} {Jx Jy:List RP}
theorem SetI.n(hx:SetI xs Jx):xs.length≤256:=by rw[hx.length];exact hx.len
theorem qig(hx:SetI xs Jx)(hy:SetI ys Jy)(h:Jx.length+Jy.length≤256):SetI ((qa1 (Jx++Jy)).map ivR) (qa1 (Jx++Jy)):=
 ⟨rfl,qbv (P:=RokC) (fun r hr=>(List.mem_append.1 hr).elim (hx.ok r) (hy.ok r)),(qb0 _).1,Nat.le_trans (qd1 _) (by rw[List.length_append];exact h)⟩
theorem qih(hx:SetI xs Jx)(hy:SetI ys Jy)(h:Jx.length*Jy.length≤256):SetI ((qa1 (qdn ltR Jx Jy)).map ivR) (qa1 (qdn ltR Jx Jy)):=
 ⟨rfl,qsp hx.ok hy.ok,(qb0 _).1,Nat.le_trans (qd1 _) (by rw[qqz];exact h)⟩
theorem qn7(hx:SetI xs Jx)(h:Jx.length+1≤256):SetI ((qa1 (qf4 lowR qe6 Jx)).map ivR) (qa1 (qf4 lowR qe6 Jx)):=
 ⟨rfl,qsq hx.ok,(qb0 _).1,Nat.le_trans (qd1 _) (by rw[qkt];exact h)⟩
theorem qnh(hx:SetI xs Jx)(hy:SetI ys Jy)(h:Jx.length+Jy.length≤256)(u v:Value)(w:World)(hu:Ivs w u xs)(hv:Ivs w v ys):Calls Tryz.prog 36 #[u,v] w (RetP (SetQ ((qa1 (Jx++Jy)).map ivR)) w):=by
 have hJ:=qig hx hy h;refine(qtl u v xs ys w hu hv hx.short hy.short hx.err hy.err hx.n hy.n).mono ?_
 rintro e w' ⟨r,rfl,h,hb⟩;exact⟨r,rfl,(qjv hx hy hJ.set hJ.ok (fun c hc=>qqt hx hy c hc) h).q hJ.n,hb⟩
theorem qkq(hx:SetI xs Jx)(hy:SetI ys Jy)(h:Jx.length*Jy.length≤256)(u v:Value)(w:World)(hu:Ivs w u xs)(hv:Ivs w v ys):Calls Tryz.prog 37 #[u,v] w (RetP (SetQ ((qa1 (qdn ltR Jx Jy)).map ivR)) w):=by
 have hJ:=qih hx hy h;refine(qkr u v xs ys w hu hv hx.short hy.short hx.err hy.err hx.n hy.n).mono ?_
 rintro e w' ⟨r,rfl,h,hb⟩;exact⟨r,rfl,(qjv hx hy hJ.set hJ.ok (fun c hc=>qqu hx hy c hc) h).q hJ.n,hb⟩
theorem qji(hx:SetI xs Jx)(h:Jx.length+1≤256)(u:Value)(w:World)(hu:Ivs w u xs):Calls Tryz.prog 35 #[u] w (RetP (SetQ ((qa1 (qf4 lowR qe6 Jx)).map ivR)) w):=by
 have hJ:=qn7 hx h;refine(qjj u xs w hu hx.short hx.err hx.n).mono ?_
 rintro e w' ⟨r,rfl,h,hb⟩;exact⟨r,rfl,(qjv hx SetI.nil hJ.set hJ.ok (fun c hc=>qqv hx c hc) h).q hJ.n,hb⟩
end
theorem qnk(u v:Value)(xs ys:List Iv)(w:World)(hx:Ivs w u xs)(hy:Ivs w v ys)(hn:xs.length≤1000)(hm:ys.length≤1000):Calls Tryz.prog 39 #[u,v] w (EqP xs ys w):=by
 have H:=hI (qoa u v xs ys w hx hy hn hm);clear hx hy hn hm
 go_enter Tryz.func39,Tryz.ntmps39
 go_wp2_with (go_at_call 96;refine(H.out).mono ?_;rintro e w1 ⟨⟨B,hB,rfl⟩,hb⟩;have HB:=hI hB;have Hb:=hI hb;clear hB hb)
 go_ret
 exact⟨⟨B,HB.out,rfl⟩,Hb.out⟩
theorem EqP.one{xs ys:List Iv}{w w':World}{e:Ending}{b:Bool}(hb:b=true↔xs=ys)(h:EqP xs ys w e w'):Ret (.bool b) w e w':=by
 obtain⟨⟨B,hB,rfl⟩,hw⟩:=h
 have:B=b:=by
  rw[Bool.eq_iff_iff,hB,hb]
 rw[this];exact⟨rfl,hw⟩
end Go.Proofs.YtacihodamichhaaGreatDoor
