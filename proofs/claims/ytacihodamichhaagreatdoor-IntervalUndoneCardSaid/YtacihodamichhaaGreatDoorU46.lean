/- Parts of the proof. -/
import Derived.Test.YtacihodamichhaaGreatDoorU34
import Derived.Test.YtacihodamichhaaGreatDoorU44
import Derived.Test.YtacihodamichhaaGreatDoorU45
set_option maxHeartbeats 16000000
namespace Go.Proofs.YtacihodamichhaaGreatDoor
open Go.RowKit
theorem ne_N:qa6 xsN=0:=by kernel_rfl
theorem nl_N:qec xsN=[⟨⟨#[48]⟩,⟨#[51]⟩,0,0⟩]:=by kernel_rfl
theorem qu6:∀x∈xsN,x.short:=fun x hx=>by
 simp only[xsN,List.mem_cons,List.not_mem_nil,or_false]at hx;rcases hx with rfl|rfl|rfl<;>exact⟨by decide,by decide⟩
theorem qxa(b:Nat)(W:World)(hB:Blk W b #[.string ⟨#[50]⟩,.string ⟨#[51]⟩,.int .i64 1,.int .i64 0,.string ⟨#[48]⟩,.string ⟨#[49]⟩,.int .i64 0,.int .i64 1,.string ⟨#[49]⟩,.string ⟨#[50]⟩,.int .i64 0,.int .i64 0] 46):Calls Tryz.prog 23 #[.slice (some ⟨b,0,none⟩) 3 3] W (RetP (fun v w'=>∃a c,v=.tuple #[.slice a 1 c,.int .i64 0]∧Ivs w' (.slice a 1 c) [⟨⟨#[48]⟩,⟨#[51]⟩,0,0⟩]) W):=by
 refine(qow (.slice (some ⟨b,0,none⟩) 3 3) xsN W (Ivs.blk xsN hB rfl rfl (by decide)) qu6).mono ?_
 rintro e w' ⟨v,rfl,⟨a,c,rfl,hiv⟩,hb⟩;rw[nl_N]at hiv;exact⟨_,rfl,⟨a,c,by rw[nl_N,ne_N];rfl,hiv⟩,hb⟩
theorem nl_1:qec xs1=xs1:=by kernel_rfl
theorem qu7:∀x∈xs1,x.short:=fun x hx=>by
 simp only[xs1,List.mem_cons,List.not_mem_nil,or_false]at hx;subst hx;exact⟨by decide,by decide⟩
theorem qya:(qa1 (qf4 lowR qe6 (xs1.map rgOf))).map ivR=xsC:=by kernel_rfl
theorem qju(u:Value)(w:World)(hx:Ivs w u xs1):Calls Tryz.prog 35 #[u] w (RetP (fun r w'=>∃a c,r=.tuple #[.slice a 2 c,.int .i64 0]∧Ivs w' (.slice a 2 c) xsC) w):=by
 obtain⟨J,hJ,hl⟩:=qm0 (xs:=xs1) qu7 (by decide);rw[nl_1]at hJ;have hg:=hJ.rg;subst hg;refine(qji hJ (by decide) _ _ hx).mono ?_
 rintro e w' ⟨r,rfl,⟨a,c,rfl,hi⟩,hb⟩;rw[qya]at hi⊢;exact⟨_,rfl,⟨a,c,rfl,hi⟩,hb⟩
theorem qwi(b:Nat)(W:World)(hB:Blk W b #[.string ⟨#[48]⟩,.string ⟨#[49]⟩,.int .i64 0,.int .i64 1] 46):Calls Tryz.prog 35 #[.slice (some ⟨b,0,none⟩) 1 1] W (RetP (fun r w'=>∃a c,r=.tuple #[.slice a 2 c,.int .i64 0]∧Ivs w' (.slice a 2 c) xsC) W):=
 qju _ W (Ivs.blk xs1 hB rfl rfl (by decide))
theorem qx0:(⟨(txtR ((ratS ⟨#[49]⟩+ratS ⟨#[50]⟩)/2)).toArray⟩:ByteArray)=⟨#[51,47,50]⟩:=by decide+kernel
theorem qw7(b:Nat)(W:World)(hB:Blk W b #[.string ⟨#[49]⟩,.string ⟨#[50]⟩,.int .i64 0,.int .i64 0] 46)(hT:Tab W):Calls Tryz.prog 18 #[.slice (some ⟨b,0,none⟩) 1 1] W (Ret (.tuple #[.string ⟨#[51,47,50]⟩,.bool true,.int .i64 0]) W):=by
 have h:=qq8 (.slice (some ⟨b,0,none⟩) 1 1) ⟨#[49]⟩ ⟨#[50]⟩ 0 0 [] W rfl rfl (Ivs.blk [⟨⟨#[49]⟩,⟨#[50]⟩,0,0⟩] hB rfl rfl (by decide)) (fun x hx=>by
  cases List.mem_singleton.1 hx
  exact⟨by decide,by decide⟩) (by kernel_rfl) (by decide) hT
 rw[qx0]at h;exact h
theorem nx_C:qv0 (qlp (qgi (xsC.map Iv.cuts)) ⟨#[48]⟩)=.tuple #[.string ⟨#[49]⟩,.bool true,.int .i64 0]:=by kernel_rfl
theorem qop(u:Value)(W:World)(h:Ivs W u xsC):Calls Tryz.prog 20 #[u,.string ⟨#[48]⟩] W (Ret (.tuple #[.string ⟨#[49]⟩,.bool true,.int .i64 0]) W):=by
 have h:=qwb u xsC ⟨#[48]⟩ W h (fun x hx=>by
  simp only[xsC,List.mem_cons,List.not_mem_nil,or_false]at hx
  rcases hx with rfl|rfl<;>exact⟨by decide,by decide⟩) (by kernel_rfl) (by decide) (by decide) (by kernel_rfl)
 rw[nx_C]at h;exact h
theorem mw_1:movS (ratS ⟨#[45,50]⟩) (ratS ⟨#[49]⟩) ⟨#[49]⟩=⟨#[45,49]⟩:=by decide+kernel
theorem mw_3:movS (ratS ⟨#[45,50]⟩) (ratS ⟨#[49]⟩) ⟨#[50]⟩=⟨#[45,51]⟩:=by decide+kernel
theorem mw_n:ratS ⟨#[45,50]⟩<0:=by decide+kernel
theorem mw_l:mapL (ratS ⟨#[45,50]⟩) (ratS ⟨#[49]⟩) [⟨⟨#[49]⟩,⟨#[50]⟩,0,1⟩]=[⟨⟨#[45,51]⟩,⟨#[45,49]⟩,1,0⟩]:=by
 unfold mapL mapI;rw[if_pos mw_n,List.map_cons,List.map_nil,List.reverse_singleton,if_pos mw_n];dsimp only;rw[mw_1,mw_3]
theorem qx1(b:Nat)(W:World)(hB:Blk W b #[.string ⟨#[49]⟩,.string ⟨#[50]⟩,.int .i64 0,.int .i64 1] 46)(hT:Tab W):Calls Tryz.prog 33 #[.slice (some ⟨b,0,none⟩) 1 1,.string ⟨#[45,50]⟩,.string ⟨#[49]⟩] W (RetP (fun v w'=>∃a c,v=.tuple #[.slice a 1 c,.int .i64 0]∧Ivs w' (.slice a 1 c) [⟨⟨#[45,51]⟩,⟨#[45,49]⟩,1,0⟩]) W):=by
 have h:=qni _ [⟨⟨#[49]⟩,⟨#[50]⟩,0,1⟩] ⟨#[45,50]⟩ ⟨#[49]⟩ W (Ivs.blk [⟨⟨#[49]⟩,⟨#[50]⟩,0,1⟩] hB rfl rfl (by decide)) (fun x hx=>by
  cases List.mem_singleton.1 hx
  exact⟨by decide,by decide⟩) (by kernel_rfl) (by decide) 60 (by decide) (by decide) (fun x hx=>by
  cases List.mem_singleton.1 hx
  exact⟨by decide,by decide⟩) (by decide) (by decide) (by kernel_rfl) (by kernel_rfl) mw_n hT
 rw[mw_l]at h;exact h
set_option maxRecDepth 10000 in
theorem qos(w:World)(hT:Tab w):Calls Tryz.prog 13 #[] w (Ret (.bool true) w):=by
 have HBt:=hI (fun lo hi le he w'=>ql9 lo hi le he w');have HNo:=hI (fun b W hB=>qxa b W hB);have HCo:=hI (fun b W hB=>qwi b W hB);have HNx:=hI (fun u W h=>qop u W h);have HPi:=hI (fun b W hB hT'=>qw7 b W hB hT');have HT:=hI hT;clear hT;have HMa:=hI (fun b W hB hT'=>qx1 b W hB hT');have HSa:=hI (fun u v xs W hx hy hn=>qpr u v xs W hx hy hn)
 go_enter Tryz.func13,Tryz.ntmps13
 go_wp2_with (first
  |(go_at_call 26;have _t:=H17;clear _t;refine(HSa.out _ _ [⟨⟨#[45,51]⟩,⟨#[45,49]⟩,1,0⟩] _ (I11.out.mono (qac w17 (.cells #[.string ⟨#[45,51]⟩,.string ⟨#[45,49]⟩,.int .i64 1,.int .i64 0] 46))) (Ivs.blk [⟨⟨#[45,51]⟩,⟨#[45,49]⟩,1,0⟩] (Blk.new w17 _ _) rfl rfl (by decide)) (by decide)).mono ?_;rintro e w18 ⟨rfl,hb⟩;have st:=qaa (qac w17 (.cells #[.string ⟨#[45,51]⟩,.string ⟨#[45,49]⟩,.int .i64 1,.int .i64 0] 46)) hb;have H18:=hI (qaa H17.out st);have I4:=hI (I4.out.mono st);have I6:=hI (I6.out.mono st);have I11:=hI (I11.out.mono st);clear st hb)
  |(go_at_call 29;have _t:=H16;clear _t;refine(HBt.out _ _ _ _ _).mono ?_;rintro e w17 ⟨rfl,hb⟩;have st:=hb;have H17:=hI (qaa H16.out st);have I4:=hI (I4.out.mono st);have I6:=hI (I6.out.mono st);have I11:=hI (I11.out.mono st);clear st hb)
  |(go_at_call 26;have _t:=H15;clear _t;refine(HSa.out _ _ xsC _ (I6.out.mono (qac w15 (.cells #[.string ⟨#[]⟩,.string ⟨#[48]⟩,.int .i64 2,.int .i64 1,.string ⟨#[49]⟩,.string ⟨#[]⟩,.int .i64 0,.int .i64 2] 46))) (Ivs.blk xsC (Blk.new w15 _ _) rfl rfl (by decide)) (by decide)).mono ?_;rintro e w16 ⟨rfl,hb⟩;have st:=qaa (qac w15 (.cells #[.string ⟨#[]⟩,.string ⟨#[48]⟩,.int .i64 2,.int .i64 1,.string ⟨#[49]⟩,.string ⟨#[]⟩,.int .i64 0,.int .i64 2] 46)) hb;have H16:=hI (qaa H15.out st);have I4:=hI (I4.out.mono st);have I6:=hI (I6.out.mono st);have I11:=hI (I11.out.mono st);clear st hb)
  |(go_at_call 29;have _t:=H14;clear _t;refine(HBt.out _ _ _ _ _).mono ?_;rintro e w15 ⟨rfl,hb⟩;have st:=hb;have H15:=hI (qaa H14.out st);have I4:=hI (I4.out.mono st);have I6:=hI (I6.out.mono st);have I11:=hI (I11.out.mono st);clear st hb)
  |(go_at_call 29;have _t:=H13;clear _t;refine(HBt.out _ _ _ _ _).mono ?_;rintro e w14 ⟨rfl,hb⟩;have st:=hb;have H14:=hI (qaa H13.out st);have I4:=hI (I4.out.mono st);have I6:=hI (I6.out.mono st);have I11:=hI (I11.out.mono st);clear st hb)
  |(go_at_call 26;have _t:=H12;clear _t;refine(HSa.out _ _ [⟨⟨#[48]⟩,⟨#[51]⟩,0,0⟩] _ (I4.out.mono (qac w12 (.cells #[.string ⟨#[48]⟩,.string ⟨#[51]⟩,.int .i64 0,.int .i64 0] 46))) (Ivs.blk [⟨⟨#[48]⟩,⟨#[51]⟩,0,0⟩] (Blk.new w12 _ _) rfl rfl (by decide)) (by decide)).mono ?_;rintro e w13 ⟨rfl,hb⟩;have st:=qaa (qac w12 (.cells #[.string ⟨#[48]⟩,.string ⟨#[51]⟩,.int .i64 0,.int .i64 0] 46)) hb;have H13:=hI (qaa H12.out st);have I4:=hI (I4.out.mono st);have I6:=hI (I6.out.mono st);have I11:=hI (I11.out.mono st);clear st hb)
  |(go_at_call 29;have _t:=H11;clear _t;refine(HBt.out _ _ _ _ _).mono ?_;rintro e w12 ⟨rfl,hb⟩;have st:=hb;have H12:=hI (qaa H11.out st);have I4:=hI (I4.out.mono st);have I6:=hI (I6.out.mono st);have I11:=hI (I11.out.mono st);clear st hb)
  |(go_at_call 33;refine(HMa.out _ _ (Blk.new w10 _ _) (HT.out.mono (qaa H10.out (qac w10 (.cells #[.string ⟨#[49]⟩,.string ⟨#[50]⟩,.int .i64 0,.int .i64 1] 46))))).mono ?_;rintro e w11 ⟨v,rfl,⟨a11,c11,rfl,hi⟩,hb⟩;have st:=qaa (qac w10 (.cells #[.string ⟨#[49]⟩,.string ⟨#[50]⟩,.int .i64 0,.int .i64 1] 46)) hb;have H11:=hI (qaa H10.out st);have I4:=hI (I4.out.mono st);have I6:=hI (I6.out.mono st);have I11:=hI hi;clear hi;clear st hb)
  |(go_at_call 29;have _t:=H9;clear _t;refine(HBt.out _ _ _ _ _).mono ?_;rintro e w10 ⟨rfl,hb⟩;have st:=hb;have H10:=hI (qaa H9.out st);have I4:=hI (I4.out.mono st);have I6:=hI (I6.out.mono st);clear st hb)
  |(go_at_call 18;refine(HPi.out _ _ (Blk.new w8 _ _) (HT.out.mono (qaa H8.out (qac w8 (.cells #[.string ⟨#[49]⟩,.string ⟨#[50]⟩,.int .i64 0,.int .i64 0] 46))))).mono ?_;rintro e w9 ⟨rfl,hb⟩;have st:=qaa (qac w8 (.cells #[.string ⟨#[49]⟩,.string ⟨#[50]⟩,.int .i64 0,.int .i64 0] 46)) hb;have H9:=hI (qaa H8.out st);have I4:=hI (I4.out.mono st);have I6:=hI (I6.out.mono st);clear st hb)
  |(go_at_call 29;have _t:=H7;clear _t;refine(HBt.out _ _ _ _ _).mono ?_;rintro e w8 ⟨rfl,hb⟩;have st:=hb;have H8:=hI (qaa H7.out st);have I4:=hI (I4.out.mono st);have I6:=hI (I6.out.mono st);clear st hb)
  |(go_at_call 20;refine(HNx.out _ _ I6.out).mono ?_;rintro e w7 ⟨rfl,hb⟩;have st:=hb;have H7:=hI (qaa H6.out st);have I4:=hI (I4.out.mono st);have I6:=hI (I6.out.mono st);clear st hb)
  |(go_at_call 35;refine(HCo.out _ _ (Blk.new w5 _ _)).mono ?_;rintro e w6 ⟨v,rfl,⟨a6,c6,rfl,hi⟩,hb⟩;have st:=qaa (qac w5 (.cells #[.string ⟨#[48]⟩,.string ⟨#[49]⟩,.int .i64 0,.int .i64 1] 46)) hb;have H6:=hI (qaa H5.out st);have I4:=hI (I4.out.mono st);have I6:=hI hi;clear hi;clear st hb)
  |(go_at_call 29;have _t:=H4;clear _t;refine(HBt.out _ _ _ _ _).mono ?_;rintro e w5 ⟨rfl,hb⟩;have st:=hb;have H5:=hI (qaa H4.out st);have I4:=hI (I4.out.mono st);clear st hb)
  |(go_at_call 23;refine(HNo.out _ _ (Blk.new w3 _ _)).mono ?_;rintro e w4 ⟨v,rfl,⟨a4,c4,rfl,hi⟩,hb⟩;have st:=qaa (qac w3 (.cells #[.string ⟨#[50]⟩,.string ⟨#[51]⟩,.int .i64 1,.int .i64 0,.string ⟨#[48]⟩,.string ⟨#[49]⟩,.int .i64 0,.int .i64 1,.string ⟨#[49]⟩,.string ⟨#[50]⟩,.int .i64 0,.int .i64 0] 46)) hb;have H4:=hI (qaa H3.out st);have I4:=hI hi;clear hi;clear st hb)
  |(go_at_call 29;have _t:=H2;clear _t;refine(HBt.out _ _ _ _ _).mono ?_;rintro e w3 ⟨rfl,hb⟩;have st:=hb;have H3:=hI (qaa H2.out st);clear st hb)
  |(go_at_call 29;have _t:=H1;clear _t;refine(HBt.out _ _ _ _ _).mono ?_;rintro e w2 ⟨rfl,hb⟩;have st:=hb;have H2:=hI (qaa H1.out st);clear st hb)
  |(go_at_call 29;refine(HBt.out _ _ _ _ _).mono ?_;rintro e w1 ⟨rfl,hb⟩;have st:=hb;have H1:=hI (hb);clear st hb))
 go_ret
 exact⟨rfl,H18.out⟩
def shB(x:Iv):Bool:=decide (x.lo.size≤60)&&decide (x.hi.size≤60)
def fewB(xs:List Iv):Bool:=!(decide (260<xs.length)||(decide (8<xs.length)&&decide (xs.length<257)))&&xs.all shB
theorem qkv{xs:List Iv}(h:fewB xs=true):∀x∈xs,x.short:=by
 unfold fewB at h;rw[Bool.and_eq_true]at h;intro x hx;have:=List.all_eq_true.1 h.2 x hx;unfold shB at this;simp at this;exact⟨Nat.le_trans this.1 (by decide),Nat.le_trans this.2 (by decide)⟩
theorem qwd(v:Value)(xs:List Iv)(w:World)(h:Ivs w v xs)(hln:xs.length<1000000):Calls Tryz.prog 14 #[v] w (Ret (.bool (fewB xs)) w):=by
 obtain⟨a,c,rfl,hc1,hc2⟩:=h.open;have HX:=hI h;obtain⟨T,hT⟩:∃T,fewB xs=T:=⟨_,rfl⟩
 rw[hT];have HT0:=hI (show T=(!(decide (260<xs.length)||(decide (8<xs.length)&&decide (xs.length<257)))&&xs.all shB)from hT.symm);generalize hn:xs.length=n at*;have Hn:=hI hn;clear h hn hT
 by_cases h1:260<n
 ·have Hfin:=hI (show T=false by rw[HT0.out,decide_eq_true h1];rfl)
  have g1:(260:Int)<(n:Int):=by omega
  go_enter Tryz.func14,Tryz.ntmps14
  go_wp2_with fail
  go_ret
  exact⟨by rw[Hfin.out];rfl,Below.refl _ _⟩
 ·have g1:¬(260:Int)<(n:Int):=by omega
  by_cases h2:8<n
  ·have g2:(8:Int)<(n:Int):=by omega
   by_cases h3:n<257
   ·have Hfin:=hI (show T=false by rw[HT0.out,decide_eq_true h2,decide_eq_true h3,Bool.true_and,Bool.or_true];rfl)
    have g3:(n:Int)<257:=by omega
    go_enter Tryz.func14,Tryz.ntmps14
    go_wp2_with fail
    go_ret
    exact⟨by rw[Hfin.out];rfl,Below.refl _ _⟩
   ·have HT:=hI (show T=(true&&xs.all shB)by rw[HT0.out,decide_eq_false h1,decide_eq_false h3,Bool.and_false,Bool.or_false];rfl)
    have g3:¬(n:Int)<257:=by omega
    clear h1 h2 h3 HT0
    go_enter Tryz.func14,Tryz.ntmps14
    go_wp2_with fail
    go_loopw [3] (fun i wr=>wr=w∧∃k:Nat,k≤n∧i=.int .i64 (k:Int)∧Hid (xs.all shB=(xs.drop k).all shB)) (fun i _=>n-(intOf i).toNat)
    case atStart=>exact⟨rfl,0,Nat.zero_le _,rfl,by unfold Hid;rw[List.drop_zero]⟩
    case round=>
     obtain⟨rfl,k,hk,rfl,hpre⟩:=hrel;rcases Nat.lt_or_ge k n with hlt|hge
     ·obtain⟨b,off,x,rfl,hx,c0,c1,c2,c3⟩:=HX.out.at (Below.refl _ _) hlt
      have hkn:(k:Int)<(n:Int):=by omega
      have hk0:(0:Int)≤(k:Int):=Int.natCast_nonneg _;have hkw:IntKind.i64.wrap ((k:Int)+1)=(k:Int)+1:=IntWalk.i64_in _ (by omega);have hpr:=hpre.out;rw[qd3 hx,List.all_cons]at hpr
      by_cases h1:60<x.lo.size
      ·have hf:xs.all shB=false:=by rw[hpr];simp[shB];omega
       have Hfin:=hI (show T=false by rw[HT.out,hf,Bool.and_false]);have g1:(60:Int)<(x.lo.size:Int):=by omega
       clear hpr hx hf
       go_wp2_with fail
       go_ret
       exact⟨by rw[Hfin.out];rfl,Below.refl _ _⟩
      ·have g1:¬(60:Int)<(x.lo.size:Int):=by omega
       by_cases h2:60<x.hi.size
       ·have hf:xs.all shB=false:=by rw[hpr];simp[shB];omega
        have Hfin:=hI (show T=false by rw[HT.out,hf,Bool.and_false]);have g2:(60:Int)<(x.hi.size:Int):=by omega
        clear hpr hx hf
        go_wp2_with fail
        go_ret
        exact⟨by rw[Hfin.out];rfl,Below.refl _ _⟩
       ·have g2:¬(60:Int)<(x.hi.size:Int):=by omega
        have Hnx:=hI (show xs.all shB=(xs.drop (k+1)).all shB by
         rw[hpr,show shB x=true by unfold shB;rw[decide_eq_true (by omega),decide_eq_true (by omega)];rfl,Bool.true_and])
        clear hpr hx h1 h2
        go_wp2_with fail
        go_roundw
        case rel=>exact⟨trivial,k+1,by omega,by go_num,Hnx.out⟩
        case measure=>simp[intOf]<;>omega
     ·obtain rfl:k=n:=by omega
      have hkn:¬(k:Int)<(k:Int):=by omega
      have Hfin:=hI (show T=true by rw[HT.out,hpre.out,List.drop_of_length_le (by rw[Hn.out];exact Nat.le_refl _)];rfl)
      go_wp2_with fail
      go_ret
      exact⟨by rw[Hfin.out];rfl,Below.refl _ _⟩
  ·have g2:¬(8:Int)<(n:Int):=by omega
   have HT:=hI (show T=(true&&xs.all shB)by rw[HT0.out,decide_eq_false h1,decide_eq_false h2,Bool.false_and,Bool.or_false];rfl);clear h1 h2 HT0
   go_enter Tryz.func14,Tryz.ntmps14
   go_wp2_with fail
   go_loopw [3] (fun i wr=>wr=w∧∃k:Nat,k≤n∧i=.int .i64 (k:Int)∧Hid (xs.all shB=(xs.drop k).all shB)) (fun i _=>n-(intOf i).toNat)
   case atStart=>exact⟨rfl,0,Nat.zero_le _,rfl,by unfold Hid;rw[List.drop_zero]⟩
   case round=>
    obtain⟨rfl,k,hk,rfl,hpre⟩:=hrel;rcases Nat.lt_or_ge k n with hlt|hge
    ·obtain⟨b,off,x,rfl,hx,c0,c1,c2,c3⟩:=HX.out.at (Below.refl _ _) hlt
     have hkn:(k:Int)<(n:Int):=by omega
     have hk0:(0:Int)≤(k:Int):=Int.natCast_nonneg _;have hkw:IntKind.i64.wrap ((k:Int)+1)=(k:Int)+1:=IntWalk.i64_in _ (by omega);have hpr:=hpre.out;rw[qd3 hx,List.all_cons]at hpr
     by_cases h1:60<x.lo.size
     ·have hf:xs.all shB=false:=by rw[hpr];simp[shB];omega
      have Hfin:=hI (show T=false by rw[HT.out,hf,Bool.and_false]);have g1:(60:Int)<(x.lo.size:Int):=by omega
      clear hpr hx hf
      go_wp2_with fail
      go_ret
      exact⟨by rw[Hfin.out];rfl,Below.refl _ _⟩
     ·have g1:¬(60:Int)<(x.lo.size:Int):=by omega
      by_cases h2:60<x.hi.size
      ·have hf:xs.all shB=false:=by rw[hpr];simp[shB];omega
       have Hfin:=hI (show T=false by rw[HT.out,hf,Bool.and_false]);have g2:(60:Int)<(x.hi.size:Int):=by omega
       clear hpr hx hf
       go_wp2_with fail
       go_ret
       exact⟨by rw[Hfin.out];rfl,Below.refl _ _⟩
      ·have g2:¬(60:Int)<(x.hi.size:Int):=by omega
       have Hnx:=hI (show xs.all shB=(xs.drop (k+1)).all shB by
        rw[hpr,show shB x=true by unfold shB;rw[decide_eq_true (by omega),decide_eq_true (by omega)];rfl,Bool.true_and])
       clear hpr hx h1 h2
       go_wp2_with fail
       go_roundw
       case rel=>exact⟨trivial,k+1,by omega,by go_num,Hnx.out⟩
       case measure=>simp[intOf]<;>omega
    ·obtain rfl:k=n:=by omega
     have hkn:¬(k:Int)<(k:Int):=by omega
     have Hfin:=hI (show T=true by rw[HT.out,hpre.out,List.drop_of_length_le (by rw[Hn.out];exact Nat.le_refl _)];rfl)
     go_wp2_with fail
     go_ret
     exact⟨by rw[Hfin.out];rfl,Below.refl _ _⟩
theorem qun{xs:List Iv}(h:fewB xs=true):∀x∈xs,x.lo.size≤60∧x.hi.size≤60:=by
 unfold fewB at h;rw[Bool.and_eq_true]at h;intro x hx;have:=List.all_eq_true.1 h.2 x hx;unfold shB at this
 simpa using this
theorem qth(n:ByteArray)(k:Int):(loC n k).s.size≤n.size:=by
 unfold loC
 split
 ·exact Nat.zero_le _
 ·split<;>exact Nat.le_refl _
theorem qsj(n:ByteArray)(k:Int):(upC n k).s.size≤n.size:=by
 unfold upC
 split
 ·exact Nat.zero_le _
 ·split<;>exact Nat.le_refl _
theorem qqj{xs:List Iv}{k:Nat}(h:∀x∈xs,x.lo.size≤k∧x.hi.size≤k):∀x∈qec xs,x.lo.size≤k∧x.hi.size≤k:=fun x hx=>by
 unfold qec at hx
 split at hx
 ·obtain⟨r,hr,rfl⟩:=List.mem_map.1 hx
  have:=qbv (rs:=xs.map rgOf) (P:=fun c=>c.s.size≤k) (fun r hr=>by
   obtain⟨y,hy,rfl⟩:=List.mem_map.1 hr
   exact⟨Nat.le_trans (qth _ _) (h y hy).1,Nat.le_trans (qsj _ _) (h y hy).2⟩) r hr
  unfold ivR;dsimp only
  constructor
  ·split
   ·exact this.1
   ·exact Nat.zero_le _
  ·split
   ·exact this.2
   ·exact Nat.zero_le _
 ·cases hx
theorem qmi{xs:List Iv}{k:Nat}(h:∀x∈xs,x.lo.size≤k∧x.hi.size≤k):∀x∈setL xs,x.lo.size≤k∧x.hi.size≤k:=
 qqj fun x hx=>h x (List.mem_of_mem_take hx)
theorem Sl.takeC{w:World}{sz n cap k:Nat}{a:Option Addr}{rows:List (List Value)}(h:Sl w sz (.slice a n cap) rows)(hk:k≤n):Sl w sz (.slice a k cap) (rows.take k):=by
 obtain⟨a',cap',hv,hc,hm,h⟩:=h;simp only[Value.slice.injEq]at hv;obtain⟨rfl,rfl,rfl⟩:=hv;refine⟨a,cap,by rw[List.length_take,Nat.min_eq_left hk],by rw[List.length_take];omega,hm,?_⟩
 rcases h with h|⟨b,off,rfl,hb,h⟩
 ·exact .inl h
 ·refine .inr ⟨b,off,rfl,hb,fun i j hi hj=>?_⟩
  rw[List.length_take]at hi;rw[h i j (by omega) hj];simp only[List.getD_eq_getElem?_getD];rw[List.getElem?_take_of_lt (by omega)]
theorem qpo(v:Value)(xs:List Iv)(w:World)(h:Ivs w v xs)(hs:∀x∈xs,x.short):Calls Tryz.prog 15 #[v] w (RetP (fun r w'=>∃a c,r=.slice a (setL xs).length c∧Ivs w' (.slice a (setL xs).length c) (setL xs)) w):=by
 obtain⟨a,c,rfl,hc1,hc2⟩:=h.open;unfold maxLen at hc2;obtain⟨m,hm⟩:∃m,min xs.length 8=m:=⟨_,rfl⟩
 have hmin:min ((xs.length:Nat):Int) 8=(m:Int):=by omega
 have hm8:m≤8:=by omega
 have hml:m≤xs.length:=by omega
 have htk:xs.take 8=xs.take m:=by
  rcases Nat.lt_or_ge xs.length 8 with h8|h8
  ·rw[List.take_of_length_le (by omega),List.take_of_length_le (by omega)]
  ·rw[show m=8 by omega]
 have hIv:Ivs w (.slice a m c) (xs.take m):=by
  have:=Sl.takeC h hml;rw[←List.map_take]at this;exact this
 have hlen:(xs.take m).length=m:=by rw[List.length_take];omega
 have HN:=hI (qkg (.slice a m c) (xs.take m) w hIv (fun x hx=>hs x (List.mem_of_mem_take hx)) (by omega));have Hse:=hI (show setL xs=qec (xs.take m)by unfold setL;rw[htk]);have hmc:(m:Int)≤(c:Int):=by omega
 have hm0:(0:Int)≤(m:Int):=Int.natCast_nonneg _;have hmt:((m:Int)).toNat=m:=by omega
 clear h hs hm hIv hlen htk hm8;generalize xs.length=n at*;unfold qwm at HN
 go_enter Tryz.func15,Tryz.ntmps15
 go_wp2_with (go_at_call 24;refine(HN.out).mono ?_;rintro e w1 ⟨v1,rfl,⟨a1,c1,rfl,hiv⟩,hb1⟩;have Hiv:=hI hiv;have Hb1:=hI hb1;clear hiv hb1)
 go_ret
 exact⟨_,rfl,⟨a1,c1,by rw[Hse.out];rfl,by rw[Hse.out];exact Hiv.out⟩,Hb1.out⟩
theorem qtw(v:Value)(xs:List Iv)(w:World)(h:Ivs w v xs)(hn:260<xs.length):Calls Tryz.prog 14 #[v] w (Ret (.bool false) w):=by
 obtain⟨a,c,rfl,hc1,hc2⟩:=h.open;clear h;generalize xs.length=n at*;have g1:(260:Int)<(n:Int):=by omega
 go_enter Tryz.func14,Tryz.ntmps14
 go_wp2_with fail
 go_ret
 exact⟨rfl,Below.refl _ _⟩
theorem qrj(v:Value)(xs:List Iv)(w:World)(h:Ivs w v xs):Calls Tryz.prog 14 #[v] w (Ret (.bool (fewB xs)) w):=by
 rcases Nat.lt_or_ge 260 xs.length with hn|hn
 ·rw[show fewB xs=false by unfold fewB;rw[decide_eq_true hn];rfl]
  exact qtw v xs w h hn
 ·exact qwd v xs w h (by omega)
theorem qu1{x y:Cut}(hx:RokC x)(hy:RokC y)(h:toP x=toP y):x=y:=by
 obtain⟨b,s,d⟩:=x;obtain⟨b',s',d'⟩:=y;unfold toP at h;dsimp only at h
 injection h with h1 h2 h3
 subst h1 h2;rcases hx with⟨hb,-,-,-,-⟩|⟨hb,-,hd⟩
 ·dsimp only at hb
  subst hb;simp only[if_true]at h3;rw[show d=d' by omega]
 ·rcases hy with⟨hb',-,-,-,-⟩|⟨-,-,hd'⟩
  ·dsimp only at hb hb'
   omega
  ·dsimp only at hd hd'
   rw[hd,hd']
theorem qsr(x y:Cut)(hx:RokC x)(hy:RokC y)(h1:¬ltR x y)(h2:¬ltR y x):x=y:=
 qu1 hx hy (qe3 _ _ ⟨x,hx,rfl⟩ ⟨y,hy,rfl⟩ h1 h2)
theorem qmg{X Y:List RP}(hX:IsSet ltR X)(hY:IsSet ltR Y)(oX:∀r∈X,OkR r)(oY:∀r∈Y,OkR r)(h:∀c,RokC c→(Mem ltR X c↔Mem ltR Y c)):X=Y:=
 IsSet.uniq qcd RokC qsr hX hY oX oY h
theorem qed{rs:List RP}{c:Cut}:Mem ltR (qa1 rs) c↔Mem ltR rs c:=(qb0 rs).2 c
theorem qoe{s:ByteArray}(h:errL s.data.toList=0):∃r,s=⟨(txtR r).toArray⟩∧ratS s=r:=by
 obtain⟨r,hr⟩:=qjo h;exact⟨r,qdm (by rw[ByteArray.toList_eq,ByteArray.toList_eq];exact hr),qc8 hr⟩
theorem qxg{x:Iv}(h:qba x=0):(x.le≠2→errL x.lo.data.toList=0)∧(x.he≠2→errL x.hi.data.toList=0):=by
 unfold qba at h
 by_cases h1:x.le<0∨2<x.le∨x.he<0∨2<x.he
 ·rw[if_pos h1]at h
  exact absurd h (by decide)
 ·rw[if_neg h1]at h
  by_cases h2:qa2 x.lo x.le=0
  ·rw[if_neg (by simpa using h2)]at h
   exact⟨fun hk=>by unfold qa2 at h2;rw[if_neg hk]at h2;exact h2,fun hk=>by unfold qa2 at h;rw[if_neg hk]at h;exact h⟩
  ·rw[if_pos h2]at h
   exact absurd h h2
theorem qwt:txtR 1=[49]:=by rw[qce rfl];exact qfn
end Go.Proofs.YtacihodamichhaaGreatDoor
