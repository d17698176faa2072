/- Parts of the proof. -/
import Derived.Test.YtacihodamichhaaGreatDoorC41
import Derived.Test.YtacihodamichhaaGreatDoorC43
import Derived.Test.YtacihodamichhaaGreatDoorC44
namespace Go.Proofs.YtacihodamichhaaGreatDoor
open Go.RowKit
set_option maxHeartbeats 16000000
theorem qt5:(⟨(qc4 (-1)).toArray⟩:ByteArray)=⟨#[45,49]⟩:=by decide+kernel
theorem qt4:(⟨(qc4 (-3)).toArray⟩:ByteArray)=⟨#[45,51]⟩:=by decide+kernel
theorem qt6:(⟨(qc4 3).toArray⟩++⟨#[47]⟩++⟨(qc4 2).toArray⟩:ByteArray)=⟨#[51,47,50]⟩:=by decide+kernel
theorem v_m2:val ⟨#[45,50]⟩=-2:=by decide
theorem ne_N:qa9 xsN=0:=by kernel_rfl
theorem nl_N:qec xsN=[⟨⟨#[48]⟩,⟨#[51]⟩,0,0⟩]:=by kernel_rfl
theorem qsk:∀x∈xsN,x.short:=fun x hx=>by
 simp only[xsN,List.mem_cons,List.not_mem_nil,or_false]at hx;rcases hx with rfl|rfl|rfl<;>exact⟨by decide,by decide⟩
theorem quh(b:Nat)(W:World)(hB:Blk W b #[.string ⟨#[50]⟩,.string ⟨#[51]⟩,.int .i64 1,.int .i64 0,.string ⟨#[48]⟩,.string ⟨#[49]⟩,.int .i64 0,.int .i64 1,.string ⟨#[49]⟩,.string ⟨#[50]⟩,.int .i64 0,.int .i64 0] 46):Calls Tryz.prog 23 #[.slice (some ⟨b,0,none⟩) 3 3] W (RetP (fun v w'=>∃a c,v=.tuple #[.slice a 1 c,.int .i64 0]∧Ivs w' (.slice a 1 c) [⟨⟨#[48]⟩,⟨#[51]⟩,0,0⟩]) W):=by
 refine(qmv (.slice (some ⟨b,0,none⟩) 3 3) xsN W (Ivs.blk xsN hB rfl rfl (by decide)) qsk).mono ?_
 rintro e w' ⟨v,rfl,⟨a,c,rfl,hiv⟩,hb⟩;rw[nl_N]at hiv;exact⟨_,rfl,⟨a,c,by rw[nl_N,ne_N];rfl,hiv⟩,hb⟩
theorem nl_1:qec xs1=xs1:=by kernel_rfl
theorem qsl:∀x∈xs1,x.short:=fun x hx=>by
 simp only[xs1,List.mem_cons,List.not_mem_nil,or_false]at hx;subst hx;exact⟨by decide,by decide⟩
theorem qva:(qaq (qbd lowR qaz (xs1.map rgOf))).map ivR=xsC:=by kernel_rfl
theorem qij(u:Value)(w:World)(hx:Ivs w u xs1):Calls Tryz.prog 35 #[u] w (RetP (fun r w'=>∃a c,r=.tuple #[.slice a 2 c,.int .i64 0]∧Ivs w' (.slice a 2 c) xsC) w):=by
 obtain⟨J,hJ,hl⟩:=qlj (xs:=xs1) qsl (by decide);rw[nl_1]at hJ;have hg:=hJ.rg;subst hg;refine(qe8 hJ (by decide) _ _ hx).mono ?_
 rintro e w' ⟨r,rfl,⟨a,c,rfl,hi⟩,hb⟩;rw[qva]at hi⊢;exact⟨_,rfl,⟨a,c,rfl,hi⟩,hb⟩
theorem qtr(b:Nat)(W:World)(hB:Blk W b #[.string ⟨#[48]⟩,.string ⟨#[49]⟩,.int .i64 0,.int .i64 1] 46):Calls Tryz.prog 35 #[.slice (some ⟨b,0,none⟩) 1 1] W (RetP (fun r w'=>∃a c,r=.tuple #[.slice a 2 c,.int .i64 0]∧Ivs w' (.slice a 2 c) xsC) W):=
 qij _ W (Ivs.blk xs1 hB rfl rfl (by decide))
theorem qud(b:Nat)(W:World)(hB:Blk W b #[.string ⟨#[49]⟩,.string ⟨#[50]⟩,.int .i64 0,.int .i64 0] 46):Calls Tryz.prog 18 #[.slice (some ⟨b,0,none⟩) 1 1] W (Ret (.tuple #[.string ⟨#[51,47,50]⟩,.bool true,.int .i64 0]) W):=by
 have:=qn1 _ ⟨#[49]⟩ ⟨#[50]⟩ W (Ivs.blk [⟨⟨#[49]⟩,⟨#[50]⟩,0,0⟩] hB rfl rfl (by decide)) wt_1 wt_2 v_1 v_2;rw[qt6]at this;exact this
theorem qu1(b:Nat)(W:World)(hB:Blk W b #[.string ⟨#[49]⟩,.string ⟨#[50]⟩,.int .i64 0,.int .i64 1] 46):Calls Tryz.prog 33 #[.slice (some ⟨b,0,none⟩) 1 1,.string ⟨#[45,50]⟩,.string ⟨#[49]⟩] W (RetP (fun v w'=>∃a c,v=.tuple #[.slice a 1 c,.int .i64 0]∧Ivs w' (.slice a 1 c) [⟨⟨#[45,51]⟩,⟨#[45,49]⟩,1,0⟩]) W):=by
 have h1:=wt_1;have h2:=wt_2;have hm:=quz;rw[v_1]at h1;rw[v_2]at h2;rw[v_m2]at hm;have:=qoi _ W (Ivs.blk [⟨⟨#[49]⟩,⟨#[50]⟩,0,1⟩] hB rfl rfl (by decide)) h1 h2 hm v_1 v_2;rw[qt5,qt4]at this;exact this
set_option maxRecDepth 10000 in
theorem qmr(w:World):Calls Tryz.prog 13 #[] w (Ret (.bool true) w):=by
 have HBt:=hI (fun lo hi le he w'=>qky lo hi le he w');have HNo:=hI (fun b W hB=>quh b W hB);have HCo:=hI (fun b W hB=>qtr b W hB);have HNx:=hI (fun u W h=>qmo u W h);have HPi:=hI (fun b W hB=>qud b W hB);have HMa:=hI (fun b W hB=>qu1 b W hB);have HSa:=hI (fun u v xs W hx hy hn=>qd9 u v xs W hx hy hn)
 go_enter Tryz.func13,Tryz.ntmps13
 go_wp2_with (first
  |(go_at_call 26;have _t:=H17;clear _t;refine(HSa.out _ _ [⟨⟨#[45,51]⟩,⟨#[45,49]⟩,1,0⟩] _ (I11.out.mono (qac w17 (.cells #[.string ⟨#[45,51]⟩,.string ⟨#[45,49]⟩,.int .i64 1,.int .i64 0] 46))) (Ivs.blk [⟨⟨#[45,51]⟩,⟨#[45,49]⟩,1,0⟩] (Blk.new w17 _ _) rfl rfl (by decide)) (by decide)).mono ?_;rintro e w18 ⟨rfl,hb⟩;have st:=qab (qac w17 (.cells #[.string ⟨#[45,51]⟩,.string ⟨#[45,49]⟩,.int .i64 1,.int .i64 0] 46)) hb;have H18:=hI (qab H17.out st);have I4:=hI (I4.out.mono st);have I6:=hI (I6.out.mono st);have I11:=hI (I11.out.mono st);clear st hb)
  |(go_at_call 29;have _t:=H16;clear _t;refine(HBt.out _ _ _ _ _).mono ?_;rintro e w17 ⟨rfl,hb⟩;have st:=hb;have H17:=hI (qab H16.out st);have I4:=hI (I4.out.mono st);have I6:=hI (I6.out.mono st);have I11:=hI (I11.out.mono st);clear st hb)
  |(go_at_call 26;have _t:=H15;clear _t;refine(HSa.out _ _ xsC _ (I6.out.mono (qac w15 (.cells #[.string ⟨#[]⟩,.string ⟨#[48]⟩,.int .i64 2,.int .i64 1,.string ⟨#[49]⟩,.string ⟨#[]⟩,.int .i64 0,.int .i64 2] 46))) (Ivs.blk xsC (Blk.new w15 _ _) rfl rfl (by decide)) (by decide)).mono ?_;rintro e w16 ⟨rfl,hb⟩;have st:=qab (qac w15 (.cells #[.string ⟨#[]⟩,.string ⟨#[48]⟩,.int .i64 2,.int .i64 1,.string ⟨#[49]⟩,.string ⟨#[]⟩,.int .i64 0,.int .i64 2] 46)) hb;have H16:=hI (qab H15.out st);have I4:=hI (I4.out.mono st);have I6:=hI (I6.out.mono st);have I11:=hI (I11.out.mono st);clear st hb)
  |(go_at_call 29;have _t:=H14;clear _t;refine(HBt.out _ _ _ _ _).mono ?_;rintro e w15 ⟨rfl,hb⟩;have st:=hb;have H15:=hI (qab H14.out st);have I4:=hI (I4.out.mono st);have I6:=hI (I6.out.mono st);have I11:=hI (I11.out.mono st);clear st hb)
  |(go_at_call 29;have _t:=H13;clear _t;refine(HBt.out _ _ _ _ _).mono ?_;rintro e w14 ⟨rfl,hb⟩;have st:=hb;have H14:=hI (qab H13.out st);have I4:=hI (I4.out.mono st);have I6:=hI (I6.out.mono st);have I11:=hI (I11.out.mono st);clear st hb)
  |(go_at_call 26;have _t:=H12;clear _t;refine(HSa.out _ _ [⟨⟨#[48]⟩,⟨#[51]⟩,0,0⟩] _ (I4.out.mono (qac w12 (.cells #[.string ⟨#[48]⟩,.string ⟨#[51]⟩,.int .i64 0,.int .i64 0] 46))) (Ivs.blk [⟨⟨#[48]⟩,⟨#[51]⟩,0,0⟩] (Blk.new w12 _ _) rfl rfl (by decide)) (by decide)).mono ?_;rintro e w13 ⟨rfl,hb⟩;have st:=qab (qac w12 (.cells #[.string ⟨#[48]⟩,.string ⟨#[51]⟩,.int .i64 0,.int .i64 0] 46)) hb;have H13:=hI (qab H12.out st);have I4:=hI (I4.out.mono st);have I6:=hI (I6.out.mono st);have I11:=hI (I11.out.mono st);clear st hb)
  |(go_at_call 29;have _t:=H11;clear _t;refine(HBt.out _ _ _ _ _).mono ?_;rintro e w12 ⟨rfl,hb⟩;have st:=hb;have H12:=hI (qab H11.out st);have I4:=hI (I4.out.mono st);have I6:=hI (I6.out.mono st);have I11:=hI (I11.out.mono st);clear st hb)
  |(go_at_call 33;refine(HMa.out _ _ (Blk.new w10 _ _)).mono ?_;rintro e w11 ⟨v,rfl,⟨a11,c11,rfl,hi⟩,hb⟩;have st:=qab (qac w10 (.cells #[.string ⟨#[49]⟩,.string ⟨#[50]⟩,.int .i64 0,.int .i64 1] 46)) hb;have H11:=hI (qab H10.out st);have I4:=hI (I4.out.mono st);have I6:=hI (I6.out.mono st);have I11:=hI hi;clear hi;clear st hb)
  |(go_at_call 29;have _t:=H9;clear _t;refine(HBt.out _ _ _ _ _).mono ?_;rintro e w10 ⟨rfl,hb⟩;have st:=hb;have H10:=hI (qab H9.out st);have I4:=hI (I4.out.mono st);have I6:=hI (I6.out.mono st);clear st hb)
  |(go_at_call 18;refine(HPi.out _ _ (Blk.new w8 _ _)).mono ?_;rintro e w9 ⟨rfl,hb⟩;have st:=qab (qac w8 (.cells #[.string ⟨#[49]⟩,.string ⟨#[50]⟩,.int .i64 0,.int .i64 0] 46)) hb;have H9:=hI (qab H8.out st);have I4:=hI (I4.out.mono st);have I6:=hI (I6.out.mono st);clear st hb)
  |(go_at_call 29;have _t:=H7;clear _t;refine(HBt.out _ _ _ _ _).mono ?_;rintro e w8 ⟨rfl,hb⟩;have st:=hb;have H8:=hI (qab H7.out st);have I4:=hI (I4.out.mono st);have I6:=hI (I6.out.mono st);clear st hb)
  |(go_at_call 20;refine(HNx.out _ _ I6.out).mono ?_;rintro e w7 ⟨rfl,hb⟩;have st:=hb;have H7:=hI (qab H6.out st);have I4:=hI (I4.out.mono st);have I6:=hI (I6.out.mono st);clear st hb)
  |(go_at_call 35;refine(HCo.out _ _ (Blk.new w5 _ _)).mono ?_;rintro e w6 ⟨v,rfl,⟨a6,c6,rfl,hi⟩,hb⟩;have st:=qab (qac w5 (.cells #[.string ⟨#[48]⟩,.string ⟨#[49]⟩,.int .i64 0,.int .i64 1] 46)) hb;have H6:=hI (qab H5.out st);have I4:=hI (I4.out.mono st);have I6:=hI hi;clear hi;clear st hb)
  |(go_at_call 29;have _t:=H4;clear _t;refine(HBt.out _ _ _ _ _).mono ?_;rintro e w5 ⟨rfl,hb⟩;have st:=hb;have H5:=hI (qab H4.out st);have I4:=hI (I4.out.mono st);clear st hb)
  |(go_at_call 23;refine(HNo.out _ _ (Blk.new w3 _ _)).mono ?_;rintro e w4 ⟨v,rfl,⟨a4,c4,rfl,hi⟩,hb⟩;have st:=qab (qac w3 (.cells #[.string ⟨#[50]⟩,.string ⟨#[51]⟩,.int .i64 1,.int .i64 0,.string ⟨#[48]⟩,.string ⟨#[49]⟩,.int .i64 0,.int .i64 1,.string ⟨#[49]⟩,.string ⟨#[50]⟩,.int .i64 0,.int .i64 0] 46)) hb;have H4:=hI (qab H3.out st);have I4:=hI hi;clear hi;clear st hb)
  |(go_at_call 29;have _t:=H2;clear _t;refine(HBt.out _ _ _ _ _).mono ?_;rintro e w3 ⟨rfl,hb⟩;have st:=hb;have H3:=hI (qab H2.out st);clear st hb)
  |(go_at_call 29;have _t:=H1;clear _t;refine(HBt.out _ _ _ _ _).mono ?_;rintro e w2 ⟨rfl,hb⟩;have st:=hb;have H2:=hI (qab H1.out st);clear st hb)
  |(go_at_call 29;refine(HBt.out _ _ _ _ _).mono ?_;rintro e w1 ⟨rfl,hb⟩;have st:=hb;have H1:=hI (hb);clear st hb))
 go_ret
 exact⟨rfl,H18.out⟩
theorem Sl.takeC{w:World}{sz n cap k:Nat}{a:Option Addr}{rows:List (List Value)}(h:Sl w sz (.slice a n cap) rows)(hk:k≤n):Sl w sz (.slice a k cap) (rows.take k):=by
 obtain⟨a',cap',hv,hc,hm,h⟩:=h;simp only[Value.slice.injEq]at hv;obtain⟨rfl,rfl,rfl⟩:=hv;refine⟨a,cap,by rw[List.length_take,Nat.min_eq_left hk],by rw[List.length_take];omega,hm,?_⟩
 rcases h with h|⟨b,off,rfl,hb,h⟩
 ·exact .inl h
 ·refine .inr ⟨b,off,rfl,hb,fun i j hi hj=>?_⟩
  rw[List.length_take]at hi;rw[h i j (by omega) hj];simp only[List.getD_eq_getElem?_getD];rw[List.getElem?_take_of_lt (by omega)]
theorem qnk(v:Value)(xs:List Iv)(w:World)(h:Ivs w v xs)(hs:∀x∈xs,x.short):Calls Tryz.prog 15 #[v] w (RetP (fun r w'=>∃a c,r=.slice a (setL xs).length c∧Ivs w' (.slice a (setL xs).length c) (setL xs)) w):=by
 obtain⟨a,c,rfl,hc1,hc2⟩:=h.open;unfold maxLen at hc2;obtain⟨m,hm⟩:∃m,min xs.length 8=m:=⟨_,rfl⟩
 have hmin:min ((xs.length:Nat):Int) 8=(m:Int):=by omega
 have hm8:m≤8:=by omega
 have hml:m≤xs.length:=by omega
 have htk:xs.take 8=xs.take m:=by
  rcases Nat.lt_or_ge xs.length 8 with h8|h8
  ·rw[List.take_of_length_le (by omega),List.take_of_length_le (by omega)]
  ·rw[show m=8 by omega]
 have hIv:Ivs w (.slice a m c) (xs.take m):=by
  have:=Sl.takeC h hml;rw[←List.map_take]at this;exact this
 have hlen:(xs.take m).length=m:=by rw[List.length_take];omega
 have HN:=hI (qje (.slice a m c) (xs.take m) w hIv (fun x hx=>hs x (List.mem_of_mem_take hx)) (by omega));have Hse:=hI (show setL xs=qec (xs.take m)by unfold setL;rw[htk]);have hmc:(m:Int)≤(c:Int):=by omega
 have hm0:(0:Int)≤(m:Int):=Int.natCast_nonneg _;have hmt:((m:Int)).toNat=m:=by omega
 clear h hs hm hIv hlen htk hm8;generalize xs.length=n at*;unfold qtx at HN
 go_enter Tryz.func15,Tryz.ntmps15
 go_wp2_with (go_at_call 24;refine(HN.out).mono ?_;rintro e w1 ⟨v1,rfl,⟨a1,c1,rfl,hiv⟩,hb1⟩;have Hiv:=hI hiv;have Hb1:=hI hb1;clear hiv hb1)
 go_ret
 exact⟨_,rfl,⟨a1,c1,by rw[Hse.out];rfl,by rw[Hse.out];exact Hiv.out⟩,Hb1.out⟩
def shB(x:Iv):Bool:=decide (x.lo.size≤60)&&decide (x.hi.size≤60)
def fewB(xs:List Iv):Bool:=!(decide (260<xs.length)||(decide (8<xs.length)&&decide (xs.length<257)))&&xs.all shB
theorem qjp{xs:List Iv}(h:fewB xs=true):∀x∈xs,x.short:=by
 unfold fewB at h;rw[Bool.and_eq_true]at h;intro x hx;have:=List.all_eq_true.1 h.2 x hx;unfold shB at this;simp at this;exact⟨Nat.le_trans this.1 (by decide),Nat.le_trans this.2 (by decide)⟩
theorem qtj(v:Value)(xs:List Iv)(w:World)(h:Ivs w v xs)(hln:xs.length<1000000):Calls Tryz.prog 14 #[v] w (Ret (.bool (fewB xs)) w):=by
 obtain⟨a,c,rfl,hc1,hc2⟩:=h.open;have HX:=hI h;obtain⟨T,hT⟩:∃T,fewB xs=T:=⟨_,rfl⟩
 rw[hT];have HT0:=hI (show T=(!(decide (260<xs.length)||(decide (8<xs.length)&&decide (xs.length<257)))&&xs.all shB)from hT.symm);generalize hn:xs.length=n at*;have Hn:=hI hn;clear h hn hT
 by_cases h1:260<n
 ·have Hfin:=hI (show T=false by rw[HT0.out,decide_eq_true h1];rfl)
  have g1:(260:Int)<(n:Int):=by omega
  go_enter Tryz.func14,Tryz.ntmps14
  go_wp2_with fail
  go_ret
  exact⟨by rw[Hfin.out];rfl,Below.refl _ _⟩
 ·have g1:¬(260:Int)<(n:Int):=by omega
  by_cases h2:8<n
  ·have g2:(8:Int)<(n:Int):=by omega
   by_cases h3:n<257
   ·have Hfin:=hI (show T=false by rw[HT0.out,decide_eq_true h2,decide_eq_true h3,Bool.true_and,Bool.or_true];rfl)
    have g3:(n:Int)<257:=by omega
    go_enter Tryz.func14,Tryz.ntmps14
    go_wp2_with fail
    go_ret
    exact⟨by rw[Hfin.out];rfl,Below.refl _ _⟩
   ·have HT:=hI (show T=(true&&xs.all shB)by rw[HT0.out,decide_eq_false h1,decide_eq_false h3,Bool.and_false,Bool.or_false];rfl)
    have g3:¬(n:Int)<257:=by omega
    clear h1 h2 h3 HT0
    go_enter Tryz.func14,Tryz.ntmps14
    go_wp2_with fail
    go_loopw [3] (fun i wr=>wr=w∧∃k:Nat,k≤n∧i=.int .i64 (k:Int)∧Hid (xs.all shB=(xs.drop k).all shB)) (fun i _=>n-(intOf i).toNat)
    case atStart=>exact⟨rfl,0,Nat.zero_le _,rfl,by unfold Hid;rw[List.drop_zero]⟩
    case round=>
     obtain⟨rfl,k,hk,rfl,hpre⟩:=hrel;rcases Nat.lt_or_ge k n with hlt|hge
     ·obtain⟨b,off,x,rfl,hx,c0,c1,c2,c3⟩:=HX.out.at (Below.refl _ _) hlt
      have hkn:(k:Int)<(n:Int):=by omega
      have hk0:(0:Int)≤(k:Int):=Int.natCast_nonneg _;have hkw:IntKind.i64.wrap ((k:Int)+1)=(k:Int)+1:=IntWalk.i64_in _ (by omega);have hpr:=hpre.out;rw[qdx hx,List.all_cons]at hpr
      by_cases h1:60<x.lo.size
      ·have hf:xs.all shB=false:=by rw[hpr];simp[shB];omega
       have Hfin:=hI (show T=false by rw[HT.out,hf,Bool.and_false]);have g1:(60:Int)<(x.lo.size:Int):=by omega
       clear hpr hx hf
       go_wp2_with fail
       go_ret
       exact⟨by rw[Hfin.out];rfl,Below.refl _ _⟩
      ·have g1:¬(60:Int)<(x.lo.size:Int):=by omega
       by_cases h2:60<x.hi.size
       ·have hf:xs.all shB=false:=by rw[hpr];simp[shB];omega
        have Hfin:=hI (show T=false by rw[HT.out,hf,Bool.and_false]);have g2:(60:Int)<(x.hi.size:Int):=by omega
        clear hpr hx hf
        go_wp2_with fail
        go_ret
        exact⟨by rw[Hfin.out];rfl,Below.refl _ _⟩
       ·have g2:¬(60:Int)<(x.hi.size:Int):=by omega
        have Hnx:=hI (show xs.all shB=(xs.drop (k+1)).all shB by
         rw[hpr,show shB x=true by unfold shB;rw[decide_eq_true (by omega),decide_eq_true (by omega)];rfl,Bool.true_and])
        clear hpr hx h1 h2
        go_wp2_with fail
        go_roundw
        case rel=>exact⟨trivial,k+1,by omega,by go_num,Hnx.out⟩
        case measure=>simp[intOf]<;>omega
     ·obtain rfl:k=n:=by omega
      have hkn:¬(k:Int)<(k:Int):=by omega
      have Hfin:=hI (show T=true by rw[HT.out,hpre.out,List.drop_of_length_le (by rw[Hn.out];exact Nat.le_refl _)];rfl)
      go_wp2_with fail
      go_ret
      exact⟨by rw[Hfin.out];rfl,Below.refl _ _⟩
  ·have g2:¬(8:Int)<(n:Int):=by omega
   have HT:=hI (show T=(true&&xs.all shB)by rw[HT0.out,decide_eq_false h1,decide_eq_false h2,Bool.false_and,Bool.or_false];rfl);clear h1 h2 HT0
   go_enter Tryz.func14,Tryz.ntmps14
   go_wp2_with fail
   go_loopw [3] (fun i wr=>wr=w∧∃k:Nat,k≤n∧i=.int .i64 (k:Int)∧Hid (xs.all shB=(xs.drop k).all shB)) (fun i _=>n-(intOf i).toNat)
   case atStart=>exact⟨rfl,0,Nat.zero_le _,rfl,by unfold Hid;rw[List.drop_zero]⟩
   case round=>
    obtain⟨rfl,k,hk,rfl,hpre⟩:=hrel;rcases Nat.lt_or_ge k n with hlt|hge
    ·obtain⟨b,off,x,rfl,hx,c0,c1,c2,c3⟩:=HX.out.at (Below.refl _ _) hlt
     have hkn:(k:Int)<(n:Int):=by omega
     have hk0:(0:Int)≤(k:Int):=Int.natCast_nonneg _;have hkw:IntKind.i64.wrap ((k:Int)+1)=(k:Int)+1:=IntWalk.i64_in _ (by omega);have hpr:=hpre.out;rw[qdx hx,List.all_cons]at hpr
     by_cases h1:60<x.lo.size
     ·have hf:xs.all shB=false:=by rw[hpr];simp[shB];omega
      have Hfin:=hI (show T=false by rw[HT.out,hf,Bool.and_false]);have g1:(60:Int)<(x.lo.size:Int):=by omega
      clear hpr hx hf
      go_wp2_with fail
      go_ret
      exact⟨by rw[Hfin.out];rfl,Below.refl _ _⟩
     ·have g1:¬(60:Int)<(x.lo.size:Int):=by omega
      by_cases h2:60<x.hi.size
      ·have hf:xs.all shB=false:=by rw[hpr];simp[shB];omega
       have Hfin:=hI (show T=false by rw[HT.out,hf,Bool.and_false]);have g2:(60:Int)<(x.hi.size:Int):=by omega
       clear hpr hx hf
       go_wp2_with fail
       go_ret
       exact⟨by rw[Hfin.out];rfl,Below.refl _ _⟩
      ·have g2:¬(60:Int)<(x.hi.size:Int):=by omega
       have Hnx:=hI (show xs.all shB=(xs.drop (k+1)).all shB by
        rw[hpr,show shB x=true by unfold shB;rw[decide_eq_true (by omega),decide_eq_true (by omega)];rfl,Bool.true_and])
       clear hpr hx h1 h2
       go_wp2_with fail
       go_roundw
       case rel=>exact⟨trivial,k+1,by omega,by go_num,Hnx.out⟩
       case measure=>simp[intOf]<;>omega
    ·obtain rfl:k=n:=by omega
     have hkn:¬(k:Int)<(k:Int):=by omega
     have Hfin:=hI (show T=true by rw[HT.out,hpre.out,List.drop_of_length_le (by rw[Hn.out];exact Nat.le_refl _)];rfl)
     go_wp2_with fail
     go_ret
     exact⟨by rw[Hfin.out];rfl,Below.refl _ _⟩
theorem qrb(v:Value)(xs:List Iv)(w:World)(h:Ivs w v xs)(hn:260<xs.length):Calls Tryz.prog 14 #[v] w (Ret (.bool false) w):=by
 obtain⟨a,c,rfl,hc1,hc2⟩:=h.open;clear h;generalize xs.length=n at*;have g1:(260:Int)<(n:Int):=by omega
 go_enter Tryz.func14,Tryz.ntmps14
 go_wp2_with fail
 go_ret
 exact⟨rfl,Below.refl _ _⟩
theorem qo1(v:Value)(xs:List Iv)(w:World)(h:Ivs w v xs):Calls Tryz.prog 14 #[v] w (Ret (.bool (fewB xs)) w):=by
 rcases Nat.lt_or_ge 260 xs.length with hn|hn
 ·rw[show fewB xs=false by unfold fewB;rw[decide_eq_true hn];rfl]
  exact qrb v xs w h hn
 ·exact qtj v xs w h (by omega)
set_option maxRecDepth 10000 in
theorem qjt(v:Value)(xs:List Iv)(u:Value)(ys:List Iv)(w:World)(h:Ivs w v xs)(h':Ivs w u ys):Calls Tryz.prog 8 #[v,u] w (Ret (.bool true) w):=by
 have HK:=hI (fun w'=>qmr w');have HF:=hI (fun w' (hb:Below w.heap.size w w')=>qo1 v xs w' (h.mono hb));have HG:=hI (fun w' (hb:Below w.heap.size w w')=>qo1 u ys w' (h'.mono hb));obtain⟨a,c,rfl,hc1,hc2⟩:=h.open;obtain⟨a',c',rfl,hc1',hc2'⟩:=h'.open;cases hf:fewB xs with
 |false=>
  rw[hf]at HF;clear h h' hf HG;generalize xs.length=m at*;generalize ys.length=m' at*
  go_enter Tryz.func8,Tryz.ntmps8
  go_wp2_with (first
   |(have _t:=Hb2;clear _t;go_at_call 13;refine(HK.out _).mono ?_;rintro e w3 ⟨rfl,hb3⟩;have Hb3:=hI (qab Hb2.out hb3);clear hb3)
   |(have _t:=Hb1;clear _t;go_at_call 14;refine(HF.out _ (Hb1.out)).mono ?_;rintro e w2 ⟨rfl,hb2⟩;have Hb2:=hI (qab Hb1.out hb2);clear hb2)
   |(go_at_call 13;refine(HK.out _).mono ?_;rintro e w1 ⟨rfl,hb1⟩;have Hb1:=hI (hb1);clear hb1))
  go_ret
  exact⟨rfl,Hb3.out⟩
 |true=>
  have hs:=qjp hf;rw[hf]at HF;cases hg:fewB ys with
  |false=>
   rw[hg]at HG;clear h h' hf hs hg;generalize xs.length=m at*;generalize ys.length=m' at*
   go_enter Tryz.func8,Tryz.ntmps8
   go_wp2_with (first
    |(have _t:=Hb3;clear _t;go_at_call 13;refine(HK.out _).mono ?_;rintro e w4 ⟨rfl,hb4⟩;have Hb4:=hI (qab Hb3.out hb4);clear hb4)
    |(have _t:=Hb2;clear _t;go_at_call 14;refine(HG.out _ (Hb2.out)).mono ?_;rintro e w3 ⟨rfl,hb3⟩;have Hb3:=hI (qab Hb2.out hb3);clear hb3)
    |(have _t:=Hb1;clear _t;go_at_call 14;refine(HF.out _ (Hb1.out)).mono ?_;rintro e w2 ⟨rfl,hb2⟩;have Hb2:=hI (qab Hb1.out hb2);clear hb2)
    |(go_at_call 13;refine(HK.out _).mono ?_;rintro e w1 ⟨rfl,hb1⟩;have Hb1:=hI (hb1);clear hb1))
   go_ret
   exact⟨rfl,Hb4.out⟩
  |true=>
   have hs':=qjp hg;rw[hg]at HG;have HS:=hI (fun w' (hb:Below w.heap.size w w')=>qnk _ xs w' (h.mono hb) hs);have HT:=hI (fun w' (hb:Below w.heap.size w w')=>qnk _ ys w' (h'.mono hb) hs');obtain⟨JA,hA,lA⟩:=qnj hs;obtain⟨JB,hB,lB⟩:=qnj hs';have lAB:JA.length*(JB.length+1)≤256:=Nat.le_trans (Nat.mul_le_mul lA (show JB.length+1≤9 by omega)) (by omega);have lBA:JB.length*(JA.length+1)≤256:=Nat.le_trans (Nat.mul_le_mul lB (show JA.length+1≤9 by omega)) (by omega);have lAB0:JA.length*JB.length≤256:=Nat.le_trans (Nat.mul_le_mul lA lB) (by omega);have HU:=hI (fun u v w' hu hv=>qq1 hA hB (by omega) u v w' hu hv);have HV:=hI (fun u v w' hu hv=>qp5 hA hB (by omega) (by omega) u v w' hu hv);have HI:=hI (fun u v w' hu hv=>qjm hA hB lAB0 u v w' hu hv);have HJ:=hI (fun u v w' hu hv=>qi1 hA hB lAB0 (by omega) (by omega) u v w' hu hv);have HC:=hI (fun u w' hu=>qe8 hA (by omega) u w' hu);have HD:=hI (fun u w' hu=>qh3 hA (by omega) u w' hu);have HM:=hI (fun u v w' hu hv=>qq3 hA hB lAB (by omega) u v w' hu hv);have HN:=hI (fun u v w' hu hv=>qj7 hA hB lAB (by omega) (by omega) u v w' hu hv);have HX:=hI (fun u v w' hu hv=>qoo hA hB lAB (by omega) u v w' hu hv);have HY:=hI (fun u v w' hu hv=>qnr hA hB (by omega) (by omega) u v w' hu hv);have lSU:=Nat.le_trans (qfi hA hB (by omega)).n (show 256≤1000 by omega);have lSI:=Nat.le_trans (qej hA hB lAB0).n (show 256≤1000 by omega);have lSC:=Nat.le_trans (qek hA (by omega)).n (show 256≤1000 by omega);have lSM:=Nat.le_trans (qei hA hB lAB (by omega)).n (show 256≤1000 by omega);have HSU:=hI (fun u v w' hx hy=>qd9 u v _ w' hx hy lSU);have HSI:=hI (fun u v w' hx hy=>qd9 u v _ w' hx hy lSI);have HSC:=hI (fun u v w' hx hy=>qd9 u v _ w' hx hy lSC);have HSM:=hI (fun u v w' hx hy=>qd9 u v _ w' hx hy lSM)
   have nA:(setL xs).length≤1000:=Nat.le_trans hA.n (by omega);have nB:(setL ys).length≤1000:=Nat.le_trans hB.n (by omega);obtain⟨E,hE⟩:=qtl (setL xs) (setL ys);have HE:=hI (fun u v w' hx hy=>(qq5 u v _ _ w' hx hy nA nB).mono fun e w2 k=>EqP.one hE k);have HQ:=hI (fun u v w' hx hy=>(qp4 u v _ _ w' hx hy nA nB).mono fun e w2 k=>EqP.one hE k);clear hE nA nB lSU lSI lSC lSM lAB lBA lAB0 lA lB h h' hs hs' hf hg;generalize(qaq (JA++JB)).map ivR=U at*;generalize(qaq (qb1 ltR JA JB)).map ivR=I at*;generalize(qaq (qbd lowR qaz JA)).map ivR=C at*;generalize(qaq (qb1 ltR JA (qaq (qbd lowR qaz JB)))).map ivR=M at*;generalize subB JA JB=sB at*;clear hA hB;generalize setL xs=A at*;generalize setL ys=B at*;generalize xs.length=m at*;generalize ys.length=m' at*;have hsB:(sB==sB)=true:=by simp
   have hEE:(E==E)=true:=by simp
   go_enter Tryz.func8,Tryz.ntmps8
   go_wp2_with (first
    |(have _t:=Hb20;clear _t;go_at_call 26;refine(HQ.out _ _ _ (HiA20.out) (HiB20.out)).mono ?_;rintro e w21 ⟨rfl,hb21⟩;have Hb21:=hI (qab Hb20.out hb21);clear hb21)
    |(have _t:=Hb19;clear _t;go_at_call 39;refine(HE.out _ _ _ (HiA19.out) (HiB19.out)).mono ?_;rintro e w20 ⟨rfl,hb20⟩;have Hb20:=hI (qab Hb19.out hb20);have HiA20:=hI (HiA19.out.mono hb20);have HiB20:=hI (HiB19.out.mono hb20);clear hb20)
    |(have _t:=Hb18;clear _t;go_at_call 47;refine(HY.out _ _ _ (HiA18.out) (HiB18.out)).mono ?_;rintro e w19 ⟨rfl,hb19⟩;have Hb19:=hI (qab Hb18.out hb19);have HiA19:=hI (HiA18.out.mono hb19);have HiB19:=hI (HiB18.out.mono hb19);clear hb19)
    |(have _t:=Hb17;clear _t;go_at_call 26;refine(HSM.out _ _ _ (HiM17.out) (HiN17.out)).mono ?_;rintro e w18 ⟨rfl,hb18⟩;have Hb18:=hI (qab Hb17.out hb18);have HiA18:=hI (HiA17.out.mono hb18);have HiB18:=hI (HiB17.out.mono hb18);clear hb18)
    |(have _t:=Hb16;clear _t;go_at_call 26;refine(HSC.out _ _ _ (HiC16.out) (HiD16.out)).mono ?_;rintro e w17 ⟨rfl,hb17⟩;have Hb17:=hI (qab Hb16.out hb17);have HiA17:=hI (HiA16.out.mono hb17);have HiB17:=hI (HiB16.out.mono hb17);have HiM17:=hI (HiM16.out.mono hb17);have HiN17:=hI (HiN16.out.mono hb17);clear hb17)
    |(have _t:=Hb15;clear _t;go_at_call 26;refine(HSI.out _ _ _ (HiI15.out) (HiJ15.out)).mono ?_;rintro e w16 ⟨rfl,hb16⟩;have Hb16:=hI (qab Hb15.out hb16);have HiA16:=hI (HiA15.out.mono hb16);have HiB16:=hI (HiB15.out.mono hb16);have HiC16:=hI (HiC15.out.mono hb16);have HiD16:=hI (HiD15.out.mono hb16);have HiM16:=hI (HiM15.out.mono hb16);have HiN16:=hI (HiN15.out.mono hb16);clear hb16)
    |(have _t:=Hb14;clear _t;go_at_call 26;refine(HSU.out _ _ _ (HiU14.out) (HiV14.out)).mono ?_;rintro e w15 ⟨rfl,hb15⟩;have Hb15:=hI (qab Hb14.out hb15);have HiA15:=hI (HiA14.out.mono hb15);have HiB15:=hI (HiB14.out.mono hb15);have HiI15:=hI (HiI14.out.mono hb15);have HiJ15:=hI (HiJ14.out.mono hb15);have HiC15:=hI (HiC14.out.mono hb15);have HiD15:=hI (HiD14.out.mono hb15);have HiM15:=hI (HiM14.out.mono hb15);have HiN15:=hI (HiN14.out.mono hb15);clear hb15)
    |(have _t:=Hb13;clear _t;go_at_call 38;refine(HX.out _ _ _ (HiA13.out) (HiB13.out)).mono ?_;rintro e w14 ⟨rfl,hb14⟩;have Hb14:=hI (qab Hb13.out hb14);have HiA14:=hI (HiA13.out.mono hb14);have HiB14:=hI (HiB13.out.mono hb14);have HiU14:=hI (HiU13.out.mono hb14);have HiV14:=hI (HiV13.out.mono hb14);have HiI14:=hI (HiI13.out.mono hb14);have HiJ14:=hI (HiJ13.out.mono hb14);have HiC14:=hI (HiC13.out.mono hb14);have HiD14:=hI (HiD13.out.mono hb14);have HiM14:=hI (HiM13.out.mono hb14);have HiN14:=hI (HiN13.out.mono hb14);clear hb14)
    |(have _t:=Hb12;clear _t;go_at_call 46;refine(HN.out _ _ _ (HiA12.out) (HiB12.out)).mono ?_;rintro e w13 ⟨v13,rfl,⟨a13,c13,rfl,hi13⟩,hb13⟩;have Hb13:=hI (qab Hb12.out hb13);have HiA13:=hI (HiA12.out.mono hb13);have HiB13:=hI (HiB12.out.mono hb13);have HiU13:=hI (HiU12.out.mono hb13);have HiV13:=hI (HiV12.out.mono hb13);have HiI13:=hI (HiI12.out.mono hb13);have HiJ13:=hI (HiJ12.out.mono hb13);have HiC13:=hI (HiC12.out.mono hb13);have HiD13:=hI (HiD12.out.mono hb13);have HiM13:=hI (HiM12.out.mono hb13);have HiN13:=hI hi13;clear hb13 hi13)
    |(have _t:=Hb11;clear _t;go_at_call 45;refine(HM.out _ _ _ (HiA11.out) (HiB11.out)).mono ?_;rintro e w12 ⟨v12,rfl,⟨a12,c12,rfl,hi12⟩,hb12⟩;have Hb12:=hI (qab Hb11.out hb12);have HiA12:=hI (HiA11.out.mono hb12);have HiB12:=hI (HiB11.out.mono hb12);have HiU12:=hI (HiU11.out.mono hb12);have HiV12:=hI (HiV11.out.mono hb12);have HiI12:=hI (HiI11.out.mono hb12);have HiJ12:=hI (HiJ11.out.mono hb12);have HiC12:=hI (HiC11.out.mono hb12);have HiD12:=hI (HiD11.out.mono hb12);have HiM12:=hI hi12;clear hb12 hi12)
    |(have _t:=Hb10;clear _t;go_at_call 44;refine(HD.out _ _ (HiA10.out)).mono ?_;rintro e w11 ⟨v11,rfl,⟨a11,c11,rfl,hi11⟩,hb11⟩;have Hb11:=hI (qab Hb10.out hb11);have HiA11:=hI (HiA10.out.mono hb11);have HiB11:=hI (HiB10.out.mono hb11);have HiU11:=hI (HiU10.out.mono hb11);have HiV11:=hI (HiV10.out.mono hb11);have HiI11:=hI (HiI10.out.mono hb11);have HiJ11:=hI (HiJ10.out.mono hb11);have HiC11:=hI (HiC10.out.mono hb11);have HiD11:=hI hi11;clear hb11 hi11)
    |(have _t:=Hb9;clear _t;go_at_call 35;refine(HC.out _ _ (HiA9.out)).mono ?_;rintro e w10 ⟨v10,rfl,⟨a10,c10,rfl,hi10⟩,hb10⟩;have Hb10:=hI (qab Hb9.out hb10);have HiA10:=hI (HiA9.out.mono hb10);have HiB10:=hI (HiB9.out.mono hb10);have HiU10:=hI (HiU9.out.mono hb10);have HiV10:=hI (HiV9.out.mono hb10);have HiI10:=hI (HiI9.out.mono hb10);have HiJ10:=hI (HiJ9.out.mono hb10);have HiC10:=hI hi10;clear hb10 hi10)
    |(have _t:=Hb8;clear _t;go_at_call 43;refine(HJ.out _ _ _ (HiA8.out) (HiB8.out)).mono ?_;rintro e w9 ⟨v9,rfl,⟨a9,c9,rfl,hi9⟩,hb9⟩;have Hb9:=hI (qab Hb8.out hb9);have HiA9:=hI (HiA8.out.mono hb9);have HiB9:=hI (HiB8.out.mono hb9);have HiU9:=hI (HiU8.out.mono hb9);have HiV9:=hI (HiV8.out.mono hb9);have HiI9:=hI (HiI8.out.mono hb9);have HiJ9:=hI hi9;clear hb9 hi9)
    |(have _t:=Hb7;clear _t;go_at_call 37;refine(HI.out _ _ _ (HiA7.out) (HiB7.out)).mono ?_;rintro e w8 ⟨v8,rfl,⟨a8,c8,rfl,hi8⟩,hb8⟩;have Hb8:=hI (qab Hb7.out hb8);have HiA8:=hI (HiA7.out.mono hb8);have HiB8:=hI (HiB7.out.mono hb8);have HiU8:=hI (HiU7.out.mono hb8);have HiV8:=hI (HiV7.out.mono hb8);have HiI8:=hI hi8;clear hb8 hi8)
    |(have _t:=Hb6;clear _t;go_at_call 42;refine(HV.out _ _ _ (HiA6.out) (HiB6.out)).mono ?_;rintro e w7 ⟨v7,rfl,⟨a7,c7,rfl,hi7⟩,hb7⟩;have Hb7:=hI (qab Hb6.out hb7);have HiA7:=hI (HiA6.out.mono hb7);have HiB7:=hI (HiB6.out.mono hb7);have HiU7:=hI (HiU6.out.mono hb7);have HiV7:=hI hi7;clear hb7 hi7)
    |(have _t:=Hb5;clear _t;go_at_call 36;refine(HU.out _ _ _ (HiA5.out) (HiB5.out)).mono ?_;rintro e w6 ⟨v6,rfl,⟨a6,c6,rfl,hi6⟩,hb6⟩;have Hb6:=hI (qab Hb5.out hb6);have HiA6:=hI (HiA5.out.mono hb6);have HiB6:=hI (HiB5.out.mono hb6);have HiU6:=hI hi6;clear hb6 hi6)
    |(have _t:=Hb4;clear _t;go_at_call 15;refine(HT.out _ (Hb4.out)).mono ?_;rintro e w5 ⟨v5,rfl,⟨a5,c5,rfl,hi5⟩,hb5⟩;have Hb5:=hI (qab Hb4.out hb5);have HiA5:=hI (HiA4.out.mono hb5);have HiB5:=hI hi5;clear hb5 hi5)
    |(have _t:=Hb3;clear _t;go_at_call 15;refine(HS.out _ (Hb3.out)).mono ?_;rintro e w4 ⟨v4,rfl,⟨a4,c4,rfl,hi4⟩,hb4⟩;have Hb4:=hI (qab Hb3.out hb4);have HiA4:=hI hi4;clear hb4 hi4)
    |(have _t:=Hb2;clear _t;go_at_call 14;refine(HG.out _ (Hb2.out)).mono ?_;rintro e w3 ⟨rfl,hb3⟩;have Hb3:=hI (qab Hb2.out hb3);clear hb3)
    |(have _t:=Hb1;clear _t;go_at_call 14;refine(HF.out _ (Hb1.out)).mono ?_;rintro e w2 ⟨rfl,hb2⟩;have Hb2:=hI (qab Hb1.out hb2);clear hb2)
    |(go_at_call 13;refine(HK.out _).mono ?_;rintro e w1 ⟨rfl,hb1⟩;have Hb1:=hI (hb1);clear hb1))
   go_ret
   exact⟨rfl,Hb21.out⟩
end Go.Proofs.YtacihodamichhaaGreatDoor
