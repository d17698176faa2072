/- Parts of the proof. -/
import Derived.Test.YtacihodamichhaaGreatDoorC40
namespace Go.Proofs.YtacihodamichhaaGreatDoor
open Go.RowKit
set_option maxHeartbeats 4000000
def EqP(xs ys:List Iv)(w:World)(e:Ending)(w':World):Prop:=(∃B:Bool,(B=true↔xs=ys)∧e=.returned (.bool B))∧Below w.heap.size w w'
theorem qp4(u v:Value)(xs ys:List Iv)(w:World)(hx:Ivs w u xs)(hy:Ivs w v ys)(hn:xs.length≤1000)(hm:ys.length≤1000):Calls Tryz.prog 26 #[u,v] w (EqP xs ys w):=by
 obtain⟨a,c,rfl,hc1,hc2⟩:=hx.open;obtain⟨a',c',rfl,hc1',hc2'⟩:=hy.open;unfold maxLen at hc2 hc2';have HX:=hI hx;have HY:=hI hy;clear hx hy;generalize hln:xs.length=n at*;generalize hlm:ys.length=m at*;have Hln:=hI hln;have Hlm:=hI hlm;clear hln hlm
 by_cases hne:n=m
 ·subst hne
  go_enter Tryz.func26,Tryz.ntmps26
  go_wp2_with fail
  go_loopw [5] (fun i wr=>∃k:Nat,k≤n∧i=.int .i64 (k:Int)∧Below w.heap.size w wr∧Hid (xs.take k=ys.take k)) (fun i _=>n-(intOf i).toNat)
  case atStart=>exact⟨0,by omega,rfl,Below.refl _ _,rfl⟩
  case round=>
   obtain⟨k,hk,rfl,hbw,hpre⟩:=hrel;rcases Nat.lt_or_ge k n with hlt|hge
   ·obtain⟨b,off,x,rfl,hxk,c0,c1,c2,c3⟩:=HX.out.at hbw hlt
    obtain⟨b',off',y,rfl,hyk,d0,d1,d2,d3⟩:=HY.out.at hbw hlt;have hkn:(k:Int)<(n:Int):=by omega
    have hik:IntKind.i64.wrap ((k:Int)+1)=(k:Int)+1:=IntWalk.i64_in _ (by omega);have HSx:=hI (fun w' (hb:Below wr.heap.size wr w')=>show w'.cell? ⟨b,off+k*4,none⟩=some (.string x.lo)∧w'.cell? ⟨b,off+k*4+1,none⟩=some (.string x.hi)∧w'.cell? ⟨b,off+k*4+2,none⟩=some (.int .i64 x.le)∧w'.cell? ⟨b,off+k*4+3,none⟩=some (.int .i64 x.he)∧w'.cell? ⟨b',off'+k*4,none⟩=some (.string y.lo)∧w'.cell? ⟨b',off'+k*4+1,none⟩=some (.string y.hi)∧w'.cell? ⟨b',off'+k*4+2,none⟩=some (.int .i64 y.le)∧w'.cell? ⟨b',off'+k*4+3,none⟩=some (.int .i64 y.he)from⟨qaa hb c0,qaa hb c1,qaa hb c2,qaa hb c3,qaa hb d0,qaa hb d1,qaa hb d2,qaa hb d3⟩);have Hbw:=hI hbw;have Hxy:=hI (And.intro hxk hyk);clear hbw hxk hyk c0 c1 c2 c3 d0 d1 d2 d3
    by_cases hxy:x=y
    ·subst hxy
     go_upto_region 6 with fail
     refine wpRg HSx.out (bwD wr) (by kernel_rfl) (fun hHeld=>?_)
     refine' tk 0 ?_;(try simp only[tkS]);refine' tk 1 ?_;(try simp only[tkS]);refine' tk 2 ?_;(try simp only[tkS]);refine' tk 3 ?_;(try simp only[tkS]);refine' tk 4 ?_;(try simp only[tkS]);refine' tk 5 ?_;(try simp only[tkS]);refine' tk 6 ?_;(try simp only[tkS]);refine' tk 7 ?_;(try simp only[tkS]);refine' tk 8 ?_;(try simp only[tkS]);refine tkD ?_ _
     go_wp2_with fail
     go_roundw
     case rel=>exact⟨k+1,by omega,by go_num,Hbw.out.dn 1,by
      show xs.take (k+1)=ys.take (k+1)
      obtain⟨h1,h2⟩:=List.getElem?_eq_some_iff.1 Hxy.out.1;obtain⟨h3,h4⟩:=List.getElem?_eq_some_iff.1 Hxy.out.2
      rw[List.take_succ_eq_append_getElem h1,List.take_succ_eq_append_getElem h3,hpre.out,h2,h4]⟩
     case measure=>simp[intOf]<;>omega
    ·have Hne:=hI (show xs≠ys from fun e=>hxy (by have h1:=Hxy.out.1;rw[e,Hxy.out.2]at h1;exact(Option.some.inj h1).symm))
     by_cases h1:x.lo=y.lo
     ·by_cases h2:x.hi=y.hi
      ·by_cases h3:x.le=y.le
       ·have h4:¬x.he=y.he:=fun h4=>hxy (by cases x;cases y;simp_all)
        have e4:(x.he==y.he)=false:=by simpa using h4
        clear hxy h4;rw[h1,h2,h3]at HSx;go_upto_region 6 with fail
        refine wpRg HSx.out (bwD wr) (by kernel_rfl) (fun hHeld=>?_)
        refine' tk 0 ?_;(try simp only[tkS]);refine' tk 1 ?_;(try simp only[tkS]);refine' tk 2 ?_;(try simp only[tkS]);refine' tk 3 ?_;(try simp only[tkS]);refine' tk 4 ?_;(try simp only[tkS]);refine' tk 5 ?_;(try simp only[tkS]);refine' tk 6 ?_;(try simp only[tkS]);refine' tk 7 ?_;(try simp only[tkS]);refine' tk 8 ?_;(try simp only[tkS]);refine tkD ?_ _
        go_wp2_with fail
        go_ret
        exact⟨⟨false,⟨fun h=>(by cases h),fun h=>absurd h Hne.out⟩,rfl⟩,Hbw.out.dn 1⟩
       ·have e3:(x.le==y.le)=false:=by simpa using h3
        clear hxy h3;rw[h1,h2]at HSx;go_upto_region 6 with fail
        refine wpRg HSx.out (bwD wr) (by kernel_rfl) (fun hHeld=>?_)
        refine' tk 0 ?_;(try simp only[tkS]);refine' tk 1 ?_;(try simp only[tkS]);refine' tk 2 ?_;(try simp only[tkS]);refine' tk 3 ?_;(try simp only[tkS]);refine' tk 4 ?_;(try simp only[tkS]);refine' tk 5 ?_;(try simp only[tkS]);refine' tk 6 ?_;(try simp only[tkS]);refine' tk 7 ?_;(try simp only[tkS]);refine' tk 8 ?_;(try simp only[tkS]);refine tkD ?_ _
        go_wp2_with fail
        go_ret
        exact⟨⟨false,⟨fun h=>(by cases h),fun h=>absurd h Hne.out⟩,rfl⟩,Hbw.out.dn 1⟩
      ·have e2:(x.hi.toList==y.hi.toList)=false:=qf9 h2
       clear hxy h2;rw[h1]at HSx;go_upto_region 6 with fail
       refine wpRg HSx.out (bwD wr) (by kernel_rfl) (fun hHeld=>?_)
       refine' tk 0 ?_;(try simp only[tkS]);refine' tk 1 ?_;(try simp only[tkS]);refine' tk 2 ?_;(try simp only[tkS]);refine' tk 3 ?_;(try simp only[tkS]);refine' tk 4 ?_;(try simp only[tkS]);refine' tk 5 ?_;(try simp only[tkS]);refine' tk 6 ?_;(try simp only[tkS]);refine' tk 7 ?_;(try simp only[tkS]);refine' tk 8 ?_;(try simp only[tkS]);refine tkD ?_ _
       go_wp2_with fail
       go_ret
       exact⟨⟨false,⟨fun h=>(by cases h),fun h=>absurd h Hne.out⟩,rfl⟩,Hbw.out.dn 1⟩
     ·have e1:(x.lo.toList==y.lo.toList)=false:=qf9 h1
      clear hxy h1;go_upto_region 6 with fail
      refine wpRg HSx.out (bwD wr) (by kernel_rfl) (fun hHeld=>?_)
      refine' tk 0 ?_;(try simp only[tkS]);refine' tk 1 ?_;(try simp only[tkS]);refine' tk 2 ?_;(try simp only[tkS]);refine' tk 3 ?_;(try simp only[tkS]);refine' tk 4 ?_;(try simp only[tkS]);refine' tk 5 ?_;(try simp only[tkS]);refine' tk 6 ?_;(try simp only[tkS]);refine' tk 7 ?_;(try simp only[tkS]);refine' tk 8 ?_;(try simp only[tkS]);refine tkD ?_ _
      go_wp2_with fail
      go_ret
      exact⟨⟨false,⟨fun h=>(by cases h),fun h=>absurd h Hne.out⟩,rfl⟩,Hbw.out.dn 1⟩
   ·obtain rfl:k=n:=by omega
    have hkn:¬(k:Int)<(k:Int):=by omega
    have Heq:=hI (show xs=ys by
     have:=hpre.out
     rwa [List.take_of_length_le (by rw[Hln.out];exact Nat.le_refl _),List.take_of_length_le (by rw[Hlm.out];exact Nat.le_refl _)]at this)
    have Hbw:=hI hbw;clear hbw hpre
    go_wp2_with fail
    go_ret
    exact⟨⟨true,⟨fun _=>Heq.out,fun _=>rfl⟩,rfl⟩,Hbw.out⟩
 ·have hne2:((n:Int)==(m:Int))=false:=by
   rw[beq_eq_false_iff_ne];omega
  go_enter Tryz.func26,Tryz.ntmps26
  go_wp2_with fail
  go_ret
  exact⟨⟨false,⟨fun h=>(by cases h),fun h=>absurd (by rw[←Hln.out,←Hlm.out,h]) hne⟩,rfl⟩,Below.refl _ _⟩
theorem qmb(u v:Value)(xs ys:List Iv)(w:World)(hx:Ivs w u xs)(hy:Ivs w v ys)(hn:xs.length≤1000)(hm:ys.length≤1000):Calls Tryz.prog 96 #[u,v] w (EqP xs ys w):=by
 obtain⟨a,c,rfl,hc1,hc2⟩:=hx.open;obtain⟨a',c',rfl,hc1',hc2'⟩:=hy.open;unfold maxLen at hc2 hc2';have HX:=hI hx;have HY:=hI hy;clear hx hy;generalize hln:xs.length=n at*;generalize hlm:ys.length=m at*;have Hln:=hI hln;have Hlm:=hI hlm;clear hln hlm
 by_cases hne:n=m
 ·subst hne
  go_enter Tryz.func96,Tryz.ntmps96
  go_wp2_with fail
  go_loopw [13] (fun i wr=>∃k:Nat,k≤n∧i=.int .i64 (k:Int)∧Below w.heap.size w wr∧Hid (xs.take k=ys.take k)) (fun i _=>n-(intOf i).toNat)
  case atStart=>exact⟨0,by omega,rfl,Below.refl _ _,rfl⟩
  case round=>
   obtain⟨k,hk,rfl,hbw,hpre⟩:=hrel;rcases Nat.lt_or_ge k n with hlt|hge
   ·obtain⟨b,off,x,rfl,hxk,c0,c1,c2,c3⟩:=HX.out.at hbw hlt
    obtain⟨b',off',y,rfl,hyk,d0,d1,d2,d3⟩:=HY.out.at hbw hlt;have hkn:(k:Int)<(n:Int):=by omega
    have hik:IntKind.i64.wrap ((k:Int)+1)=(k:Int)+1:=IntWalk.i64_in _ (by omega);have HSx:=hI (fun w' (hb:Below wr.heap.size wr w')=>show w'.cell? ⟨b,off+k*4,none⟩=some (.string x.lo)∧w'.cell? ⟨b,off+k*4+1,none⟩=some (.string x.hi)∧w'.cell? ⟨b,off+k*4+2,none⟩=some (.int .i64 x.le)∧w'.cell? ⟨b,off+k*4+3,none⟩=some (.int .i64 x.he)∧w'.cell? ⟨b',off'+k*4,none⟩=some (.string y.lo)∧w'.cell? ⟨b',off'+k*4+1,none⟩=some (.string y.hi)∧w'.cell? ⟨b',off'+k*4+2,none⟩=some (.int .i64 y.le)∧w'.cell? ⟨b',off'+k*4+3,none⟩=some (.int .i64 y.he)from⟨qaa hb c0,qaa hb c1,qaa hb c2,qaa hb c3,qaa hb d0,qaa hb d1,qaa hb d2,qaa hb d3⟩);have Hbw:=hI hbw;have Hxy:=hI (And.intro hxk hyk);clear hbw hxk hyk c0 c1 c2 c3 d0 d1 d2 d3
    by_cases hxy:x=y
    ·subst hxy
     go_upto_region 6 with fail
     refine wpRg HSx.out (bwD wr) (by kernel_rfl) (fun hHeld=>?_)
     refine' tk 0 ?_;(try simp only[tkS]);refine' tk 1 ?_;(try simp only[tkS]);refine' tk 2 ?_;(try simp only[tkS]);refine' tk 3 ?_;(try simp only[tkS]);refine' tk 4 ?_;(try simp only[tkS]);refine' tk 5 ?_;(try simp only[tkS]);refine' tk 6 ?_;(try simp only[tkS]);refine' tk 7 ?_;(try simp only[tkS]);refine' tk 8 ?_;(try simp only[tkS]);refine tkD ?_ _
     go_wp2_with fail
     go_roundw
     case rel=>exact⟨k+1,by omega,by go_num,Hbw.out.dn 1,by
      show xs.take (k+1)=ys.take (k+1)
      obtain⟨h1,h2⟩:=List.getElem?_eq_some_iff.1 Hxy.out.1;obtain⟨h3,h4⟩:=List.getElem?_eq_some_iff.1 Hxy.out.2
      rw[List.take_succ_eq_append_getElem h1,List.take_succ_eq_append_getElem h3,hpre.out,h2,h4]⟩
     case measure=>simp[intOf]<;>omega
    ·have Hne:=hI (show xs≠ys from fun e=>hxy (by have h1:=Hxy.out.1;rw[e,Hxy.out.2]at h1;exact(Option.some.inj h1).symm))
     by_cases h1:x.lo=y.lo
     ·by_cases h2:x.hi=y.hi
      ·by_cases h3:x.le=y.le
       ·have h4:¬x.he=y.he:=fun h4=>hxy (by cases x;cases y;simp_all)
        have e4:(x.he==y.he)=false:=by simpa using h4
        clear hxy h4;rw[h1,h2,h3]at HSx;go_upto_region 6 with fail
        refine wpRg HSx.out (bwD wr) (by kernel_rfl) (fun hHeld=>?_)
        refine' tk 0 ?_;(try simp only[tkS]);refine' tk 1 ?_;(try simp only[tkS]);refine' tk 2 ?_;(try simp only[tkS]);refine' tk 3 ?_;(try simp only[tkS]);refine' tk 4 ?_;(try simp only[tkS]);refine' tk 5 ?_;(try simp only[tkS]);refine' tk 6 ?_;(try simp only[tkS]);refine' tk 7 ?_;(try simp only[tkS]);refine' tk 8 ?_;(try simp only[tkS]);refine tkD ?_ _
        go_wp2_with fail
        go_ret
        exact⟨⟨false,⟨fun h=>(by cases h),fun h=>absurd h Hne.out⟩,rfl⟩,Hbw.out.dn 1⟩
       ·have e3:(x.le==y.le)=false:=by simpa using h3
        clear hxy h3;rw[h1,h2]at HSx;go_upto_region 6 with fail
        refine wpRg HSx.out (bwD wr) (by kernel_rfl) (fun hHeld=>?_)
        refine' tk 0 ?_;(try simp only[tkS]);refine' tk 1 ?_;(try simp only[tkS]);refine' tk 2 ?_;(try simp only[tkS]);refine' tk 3 ?_;(try simp only[tkS]);refine' tk 4 ?_;(try simp only[tkS]);refine' tk 5 ?_;(try simp only[tkS]);refine' tk 6 ?_;(try simp only[tkS]);refine' tk 7 ?_;(try simp only[tkS]);refine' tk 8 ?_;(try simp only[tkS]);refine tkD ?_ _
        go_wp2_with fail
        go_ret
        exact⟨⟨false,⟨fun h=>(by cases h),fun h=>absurd h Hne.out⟩,rfl⟩,Hbw.out.dn 1⟩
      ·have e2:(x.hi.toList==y.hi.toList)=false:=qf9 h2
       clear hxy h2;rw[h1]at HSx;go_upto_region 6 with fail
       refine wpRg HSx.out (bwD wr) (by kernel_rfl) (fun hHeld=>?_)
       refine' tk 0 ?_;(try simp only[tkS]);refine' tk 1 ?_;(try simp only[tkS]);refine' tk 2 ?_;(try simp only[tkS]);refine' tk 3 ?_;(try simp only[tkS]);refine' tk 4 ?_;(try simp only[tkS]);refine' tk 5 ?_;(try simp only[tkS]);refine' tk 6 ?_;(try simp only[tkS]);refine' tk 7 ?_;(try simp only[tkS]);refine' tk 8 ?_;(try simp only[tkS]);refine tkD ?_ _
       go_wp2_with fail
       go_ret
       exact⟨⟨false,⟨fun h=>(by cases h),fun h=>absurd h Hne.out⟩,rfl⟩,Hbw.out.dn 1⟩
     ·have e1:(x.lo.toList==y.lo.toList)=false:=qf9 h1
      clear hxy h1;go_upto_region 6 with fail
      refine wpRg HSx.out (bwD wr) (by kernel_rfl) (fun hHeld=>?_)
      refine' tk 0 ?_;(try simp only[tkS]);refine' tk 1 ?_;(try simp only[tkS]);refine' tk 2 ?_;(try simp only[tkS]);refine' tk 3 ?_;(try simp only[tkS]);refine' tk 4 ?_;(try simp only[tkS]);refine' tk 5 ?_;(try simp only[tkS]);refine' tk 6 ?_;(try simp only[tkS]);refine' tk 7 ?_;(try simp only[tkS]);refine' tk 8 ?_;(try simp only[tkS]);refine tkD ?_ _
      go_wp2_with fail
      go_ret
      exact⟨⟨false,⟨fun h=>(by cases h),fun h=>absurd h Hne.out⟩,rfl⟩,Hbw.out.dn 1⟩
   ·obtain rfl:k=n:=by omega
    have hkn:¬(k:Int)<(k:Int):=by omega
    have Heq:=hI (show xs=ys by
     have:=hpre.out
     rwa [List.take_of_length_le (by rw[Hln.out];exact Nat.le_refl _),List.take_of_length_le (by rw[Hlm.out];exact Nat.le_refl _)]at this)
    have Hbw:=hI hbw;clear hbw hpre
    go_wp2_with fail
    go_ret
    exact⟨⟨true,⟨fun _=>Heq.out,fun _=>rfl⟩,rfl⟩,Hbw.out⟩
 ·have hne2:((n:Int)==(m:Int))=false:=by
   rw[beq_eq_false_iff_ne];omega
  go_enter Tryz.func96,Tryz.ntmps96
  go_wp2_with fail
  go_ret
  exact⟨⟨false,⟨fun h=>(by cases h),fun h=>absurd (by rw[←Hln.out,←Hlm.out,h]) hne⟩,rfl⟩,Below.refl _ _⟩
def SetQ(U:List Iv)(r:Value)(w':World):Prop:=∃a c,r=.tuple #[.slice a U.length c,.int .i64 0]∧Ivs w' (.slice a U.length c) U
theorem SetP.q{L:List Iv}{r:Value}{w':World}(h:SetP L r w')(hl:L.length≤256):SetQ L r w':=by
 unfold SetP at h;simp only[if_neg (show ¬256<L.length by omega)]at h;exact h
section
variable {xs ys:List Iv} {Jx Jy:List RP}
theorem SetI.n(hx:SetI xs Jx):xs.length≤256:=by rw[hx.length];exact hx.len
theorem SetI.rok(hx:SetI xs Jx):∀r∈xs.map rgOf,OkR r:=by rw[hx.rg];exact hx.ok
theorem qfi(hx:SetI xs Jx)(hy:SetI ys Jy)(h:Jx.length+Jy.length≤256):SetI ((qaq (Jx++Jy)).map ivR) (qaq (Jx++Jy)):=
 ⟨rfl,qde (P:=RokC) (fun r hr=>(List.mem_append.1 hr).elim (hx.ok r) (hy.ok r)),(qcy _).1,Nat.le_trans (qbv _) (by rw[List.length_append];exact h)⟩
theorem qej(hx:SetI xs Jx)(hy:SetI ys Jy)(h:Jx.length*Jy.length≤256):SetI ((qaq (qb1 ltR Jx Jy)).map ivR) (qaq (qb1 ltR Jx Jy)):=
 ⟨rfl,qp8 hx.ok hy.ok,(qcy _).1,Nat.le_trans (qbv _) (by rw[qdr];exact h)⟩
theorem qek(hx:SetI xs Jx)(h:Jx.length+1≤256):SetI ((qaq (qbd lowR qaz Jx)).map ivR) (qaq (qbd lowR qaz Jx)):=
 ⟨rfl,qp9 hx.ok,(qcy _).1,Nat.le_trans (qbv _) (by rw[qdw];exact h)⟩
theorem qth(J:List RP):(qaq (qbd lowR qaz J)).length≤J.length+1:=by
 have h:=qbv (qbd lowR qaz J)
 rwa [qdw]at h
theorem qei(hx:SetI xs Jx)(hy:SetI ys Jy)(h:Jx.length*(Jy.length+1)≤256)(h2:Jy.length+1≤256):SetI ((qaq (qb1 ltR Jx (qaq (qbd lowR qaz Jy)))).map ivR) (qaq (qb1 ltR Jx (qaq (qbd lowR qaz Jy)))):=
 qej hx (qek hy h2) (Nat.le_trans (Nat.mul_le_mul (Nat.le_refl _) (qth Jy)) h)
theorem qq1(hx:SetI xs Jx)(hy:SetI ys Jy)(h:Jx.length+Jy.length≤256)(u v:Value)(w:World)(hu:Ivs w u xs)(hv:Ivs w v ys):Calls Tryz.prog 36 #[u,v] w (RetP (SetQ ((qaq (Jx++Jy)).map ivR)) w):=by
 have hJ:=qfi hx hy h;refine(qq2 u v xs ys w hu hv hx.short hy.short hx.err hy.err hx.n hy.n).mono ?_
 rintro e w' ⟨r,rfl,h,hb⟩;exact⟨r,rfl,(qf8 hx hy hJ.set hJ.ok (fun c hc=>qod hx hy c hc) h).q hJ.n,hb⟩
theorem qjm(hx:SetI xs Jx)(hy:SetI ys Jy)(h:Jx.length*Jy.length≤256)(u v:Value)(w:World)(hu:Ivs w u xs)(hv:Ivs w v ys):Calls Tryz.prog 37 #[u,v] w (RetP (SetQ ((qaq (qb1 ltR Jx Jy)).map ivR)) w):=by
 have hJ:=qej hx hy h;refine(qjn u v xs ys w hu hv hx.short hy.short hx.err hy.err hx.n hy.n).mono ?_
 rintro e w' ⟨r,rfl,h,hb⟩;exact⟨r,rfl,(qf8 hx hy hJ.set hJ.ok (fun c hc=>qoe hx hy c hc) h).q hJ.n,hb⟩
theorem qe8(hx:SetI xs Jx)(h:Jx.length+1≤256)(u:Value)(w:World)(hu:Ivs w u xs):Calls Tryz.prog 35 #[u] w (RetP (SetQ ((qaq (qbd lowR qaz Jx)).map ivR)) w):=by
 have hJ:=qek hx h;refine(qid u xs w hu hx.short hx.err hx.n).mono ?_
 rintro e w' ⟨r,rfl,h,hb⟩;exact⟨r,rfl,(qf8 hx SetI.nil hJ.set hJ.ok (fun c hc=>qog hx c hc) h).q hJ.n,hb⟩
theorem qq3(hx:SetI xs Jx)(hy:SetI ys Jy)(h:Jx.length*(Jy.length+1)≤256)(h2:Jy.length+1≤256)(u v:Value)(w:World)(hu:Ivs w u xs)(hv:Ivs w v ys):Calls Tryz.prog 45 #[u,v] w (RetP (SetQ ((qaq (qb1 ltR Jx (qaq (qbd lowR qaz Jy)))).map ivR)) w):=by
 have hJ:=qei hx hy h h2;refine(qq4 u v xs ys w hu hv hx.short hy.short hx.err hy.err hx.n hy.n).mono ?_
 rintro e w' ⟨r,rfl,h,hb⟩;exact⟨r,rfl,(qf8 hx hy hJ.set hJ.ok (fun c hc=>qji hx hy c hc) h).q hJ.n,hb⟩
def subB(Jx Jy:List RP):Bool:=decide (qaq (qb1 ltR Jx (qaq (qbd lowR qaz Jy)))=[])
theorem qoo(hx:SetI xs Jx)(hy:SetI ys Jy)(h:Jx.length*(Jy.length+1)≤256)(h2:Jy.length+1≤256)(u v:Value)(w:World)(hu:Ivs w u xs)(hv:Ivs w v ys):Calls Tryz.prog 38 #[u,v] w (Ret (.tuple #[.bool (subB Jx Jy),.int .i64 0]) w):=by
 have hJ:=qei hx hy h h2;refine(qop u v xs ys w hu hv hx.short hy.short hx.err hy.err hx.n hy.n).mono ?_
 rintro e w' ⟨r,rfl,⟨P,⟨h1,h2,h3⟩,rfl⟩,hb⟩;have hp:=qht (keep:=fun a b=>a&&!b) hx hy h1 h2 h3 hJ.set hJ.ok (fun c hc=>qji hx hy c hc);refine⟨?_,hb⟩
 rw[hp];unfold subB;have hi:(List.map tpR (qaq (qb1 ltR Jx (qaq (qbd lowR qaz Jy))))=[])↔qaq (qb1 ltR Jx (qaq (qbd lowR qaz Jy)))=[]:=List.map_eq_nil_iff;rw[decide_eq_decide.2 hi]
theorem qp5(hx:SetI xs Jx)(hy:SetI ys Jy)(lx:Jx.length≤20)(ly:Jy.length≤20)(u v:Value)(w:World)(hu:Ivs w u xs)(hv:Ivs w v ys):Calls Tryz.prog 42 #[u,v] w (RetP (SetQ ((qaq (Jx++Jy)).map ivR)) w):=by
 have hJ:=qfi hx hy (by omega);have H:=qp6 u v xs ys w hu hv hx.rok hy.rok (by rw[hx.length];exact lx) (by rw[hy.length];exact ly);rw[hx.rg,hy.rg]at H;refine H.mono ?_
 rintro e w' ⟨r,rfl,h,hb⟩;exact⟨r,rfl,h.q hJ.n,hb⟩
theorem qi1(hx:SetI xs Jx)(hy:SetI ys Jy)(h:Jx.length*Jy.length≤256)(lx:Jx.length≤20)(ly:Jy.length≤20)(u v:Value)(w:World)(hu:Ivs w u xs)(hv:Ivs w v ys):Calls Tryz.prog 43 #[u,v] w (RetP (SetQ ((qaq (qb1 ltR Jx Jy)).map ivR)) w):=by
 have hJ:=qej hx hy h;have H:=qi2 u v xs ys w hu hv hx.rok hy.rok (by rw[hx.length];exact lx) (by rw[hy.length];exact ly);rw[hx.rg,hy.rg]at H;refine H.mono ?_
 rintro e w' ⟨r,rfl,h,hb⟩;exact⟨r,rfl,h.q hJ.n,hb⟩
theorem qh3(hx:SetI xs Jx)(lx:Jx.length≤20)(u:Value)(w:World)(hu:Ivs w u xs):Calls Tryz.prog 44 #[u] w (RetP (SetQ ((qaq (qbd lowR qaz Jx)).map ivR)) w):=by
 have hJ:=qek hx (by omega);have H:=qh4 u xs w hu hx.rok (by rw[hx.length];exact lx);rw[hx.rg]at H;refine H.mono ?_
 rintro e w' ⟨r,rfl,h,hb⟩;exact⟨r,rfl,h.q hJ.n,hb⟩
theorem qj7(hx:SetI xs Jx)(hy:SetI ys Jy)(h:Jx.length*(Jy.length+1)≤256)(lx:Jx.length≤20)(ly:Jy.length≤20)(u v:Value)(w:World)(hu:Ivs w u xs)(hv:Ivs w v ys):Calls Tryz.prog 46 #[u,v] w (RetP (SetQ ((qaq (qb1 ltR Jx (qaq (qbd lowR qaz Jy)))).map ivR)) w):=by
 have hJ:=qei hx hy h (by omega);have H:=qj8 u v xs ys w hu hv hx.rok hy.rok (by rw[hx.length];exact lx) (by rw[hy.length];exact ly);rw[hx.rg,hy.rg]at H;refine H.mono ?_
 rintro e w' ⟨r,rfl,h,hb⟩;exact⟨r,rfl,h.q hJ.n,hb⟩
theorem qnr(hx:SetI xs Jx)(hy:SetI ys Jy)(lx:Jx.length≤20)(ly:Jy.length≤20)(u v:Value)(w:World)(hu:Ivs w u xs)(hv:Ivs w v ys):Calls Tryz.prog 47 #[u,v] w (Ret (.bool (subB Jx Jy)) w):=by
 have H:=qns u v xs ys w hu hv hx.rok hy.rok (by rw[hx.length];exact lx) (by rw[hy.length];exact ly);rw[hx.rg,hy.rg,decide_eq_decide.2 List.length_eq_zero_iff]at H;exact H
end
theorem qq5(u v:Value)(xs ys:List Iv)(w:World)(hx:Ivs w u xs)(hy:Ivs w v ys)(hn:xs.length≤1000)(hm:ys.length≤1000):Calls Tryz.prog 39 #[u,v] w (EqP xs ys w):=by
 have H:=hI (qmb u v xs ys w hx hy hn hm);clear hx hy hn hm
 go_enter Tryz.func39,Tryz.ntmps39
 go_wp2_with (go_at_call 96;refine(H.out).mono ?_;rintro e w1 ⟨⟨B,hB,rfl⟩,hb⟩;have HB:=hI hB;have Hb:=hI hb;clear hB hb)
 go_ret
 exact⟨⟨B,HB.out,rfl⟩,Hb.out⟩
theorem EqP.one{xs ys:List Iv}{w w':World}{e:Ending}{b:Bool}(hb:b=true↔xs=ys)(h:EqP xs ys w e w'):Ret (.bool b) w e w':=by
 obtain⟨⟨B,hB,rfl⟩,hw⟩:=h
 have:B=b:=by
  rw[Bool.eq_iff_iff,hB,hb]
 rw[this];exact⟨rfl,hw⟩
theorem qtl(xs ys:List Iv):∃b:Bool,(b=true↔xs=ys):=by
 by_cases h:xs=ys
 ·exact⟨true,fun _=>h,fun _=>rfl⟩
 ·exact⟨false,fun k=>(by cases k),fun k=>absurd k h⟩
end Go.Proofs.YtacihodamichhaaGreatDoor
