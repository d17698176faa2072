/- Parts of the proof. -/
import Derived.Test.YtacihodamichhaaGreatDoorL45
import Derived.Test.YtacihodamichhaaGreatDoorL48
import Derived.Test.YtacihodamichhaaGreatDoorL49
namespace Go.Proofs.YtacihodamichhaaGreatDoor
open Go.RowKit
set_option maxHeartbeats 16000000
theorem qtn:(⟨(qcv (-1)).toArray⟩:ByteArray)=⟨#[45,49]⟩:=by decide+kernel
theorem qtm:(⟨(qcv (-3)).toArray⟩:ByteArray)=⟨#[45,51]⟩:=by decide+kernel
theorem qto:(⟨(qcv 3).toArray⟩++⟨#[47]⟩++⟨(qcv 2).toArray⟩:ByteArray)=⟨#[51,47,50]⟩:=by decide+kernel
theorem v_m2:val ⟨#[45,50]⟩=-2:=by decide
theorem ne_N:qa6 xsN=0:=by kernel_rfl
theorem nl_N:qd7 xsN=[⟨⟨#[48]⟩,⟨#[51]⟩,0,0⟩]:=by kernel_rfl
theorem qr4:∀x∈xsN,x.short:=fun x hx=>by
 simp only[xsN,List.mem_cons,List.not_mem_nil,or_false]at hx;rcases hx with rfl|rfl|rfl<;>exact⟨by decide,by decide⟩
theorem qt0(b:Nat)(W:World)(hB:Blk W b #[.string ⟨#[50]⟩,.string ⟨#[51]⟩,.int .i64 1,.int .i64 0,.string ⟨#[48]⟩,.string ⟨#[49]⟩,.int .i64 0,.int .i64 1,.string ⟨#[49]⟩,.string ⟨#[50]⟩,.int .i64 0,.int .i64 0] 46):Calls Tryz.prog 23 #[.slice (some ⟨b,0,none⟩) 3 3] W (RetP (fun v w'=>∃a c,v=.tuple #[.slice a 1 c,.int .i64 0]∧Ivs w' (.slice a 1 c) [⟨⟨#[48]⟩,⟨#[51]⟩,0,0⟩]) W):=by
 refine(qmk (.slice (some ⟨b,0,none⟩) 3 3) xsN W (Ivs.blk xsN hB rfl rfl (by decide)) qr4).mono ?_
 rintro e w' ⟨v,rfl,⟨a,c,rfl,hiv⟩,hb⟩;rw[nl_N]at hiv;exact⟨_,rfl,⟨a,c,by rw[nl_N,ne_N];rfl,hiv⟩,hb⟩
theorem nl_1:qd7 xs1=xs1:=by kernel_rfl
theorem qr5:∀x∈xs1,x.short:=fun x hx=>by
 simp only[xs1,List.mem_cons,List.not_mem_nil,or_false]at hx;subst hx;exact⟨by decide,by decide⟩
theorem quu:(qax (qb6 lowR qbx (xs1.map rgOf))).map ivR=xsC:=by kernel_rfl
theorem qia(u:Value)(w:World)(hx:Ivs w u xs1):Calls Tryz.prog 35 #[u] w (RetP (fun r w'=>∃a c,r=.tuple #[.slice a 2 c,.int .i64 0]∧Ivs w' (.slice a 2 c) xsC) w):=by
 obtain⟨J,hJ,hl⟩:=qk8 (xs:=xs1) qr5 (by decide);rw[nl_1]at hJ;have hg:=hJ.rg;subst hg;refine(qch hJ (by decide) _ _ hx).mono ?_
 rintro e w' ⟨r,rfl,⟨a,c,rfl,hi⟩,hb⟩;rw[quu]at hi⊢;exact⟨_,rfl,⟨a,c,rfl,hi⟩,hb⟩
theorem qta(b:Nat)(W:World)(hB:Blk W b #[.string ⟨#[48]⟩,.string ⟨#[49]⟩,.int .i64 0,.int .i64 1] 46):Calls Tryz.prog 35 #[.slice (some ⟨b,0,none⟩) 1 1] W (RetP (fun r w'=>∃a c,r=.tuple #[.slice a 2 c,.int .i64 0]∧Ivs w' (.slice a 2 c) xsC) W):=
 qia _ W (Ivs.blk xs1 hB rfl rfl (by decide))
theorem qtv(b:Nat)(W:World)(hB:Blk W b #[.string ⟨#[49]⟩,.string ⟨#[50]⟩,.int .i64 0,.int .i64 0] 46):Calls Tryz.prog 18 #[.slice (some ⟨b,0,none⟩) 1 1] W (Ret (.tuple #[.string ⟨#[51,47,50]⟩,.bool true,.int .i64 0]) W):=by
 have:=qno _ ⟨#[49]⟩ ⟨#[50]⟩ W (Ivs.blk [⟨⟨#[49]⟩,⟨#[50]⟩,0,0⟩] hB rfl rfl (by decide)) wt_1 wt_2 v_1 v_2;rw[qto]at this;exact this
theorem qul(b:Nat)(W:World)(hB:Blk W b #[.string ⟨#[49]⟩,.string ⟨#[50]⟩,.int .i64 0,.int .i64 1] 46):Calls Tryz.prog 33 #[.slice (some ⟨b,0,none⟩) 1 1,.string ⟨#[45,50]⟩,.string ⟨#[49]⟩] W (RetP (fun v w'=>∃a c,v=.tuple #[.slice a 1 c,.int .i64 0]∧Ivs w' (.slice a 1 c) [⟨⟨#[45,51]⟩,⟨#[45,49]⟩,1,0⟩]) W):=by
 have h1:=wt_1;have h2:=wt_2;have hm:=quj;rw[v_1]at h1;rw[v_2]at h2;rw[v_m2]at hm;have:=qn5 _ W (Ivs.blk [⟨⟨#[49]⟩,⟨#[50]⟩,0,1⟩] hB rfl rfl (by decide)) h1 h2 hm v_1 v_2;rw[qtn,qtm]at this;exact this
set_option maxRecDepth 10000 in
theorem qmg(w:World):Calls Tryz.prog 13 #[] w (Ret (.bool true) w):=by
 have HBt:=hI (fun lo hi le he w'=>qkm lo hi le he w');have HNo:=hI (fun b W hB=>qt0 b W hB);have HCo:=hI (fun b W hB=>qta b W hB);have HNx:=hI (fun u W h=>qmd u W h);have HPi:=hI (fun b W hB=>qtv b W hB);have HMa:=hI (fun b W hB=>qul b W hB);have HSa:=hI (fun u v xs W hx hy hn=>qnb u v xs W hx hy hn)
 go_enter Tryz.func13,Tryz.ntmps13
 go_wp2_with (first
  |(go_at_call 26;have _t:=H17;clear _t;refine(HSa.out _ _ [⟨⟨#[45,51]⟩,⟨#[45,49]⟩,1,0⟩] _ (I11.out.mono (qac w17 (.cells #[.string ⟨#[45,51]⟩,.string ⟨#[45,49]⟩,.int .i64 1,.int .i64 0] 46))) (Ivs.blk [⟨⟨#[45,51]⟩,⟨#[45,49]⟩,1,0⟩] (Blk.new w17 _ _) rfl rfl (by decide)) (by decide)).mono ?_;rintro e w18 ⟨rfl,hb⟩;have st:=qaa (qac w17 (.cells #[.string ⟨#[45,51]⟩,.string ⟨#[45,49]⟩,.int .i64 1,.int .i64 0] 46)) hb;have H18:=hI (qaa H17.out st);have I4:=hI (I4.out.mono st);have I6:=hI (I6.out.mono st);have I11:=hI (I11.out.mono st);clear st hb)
  |(go_at_call 29;have _t:=H16;clear _t;refine(HBt.out _ _ _ _ _).mono ?_;rintro e w17 ⟨rfl,hb⟩;have st:=hb;have H17:=hI (qaa H16.out st);have I4:=hI (I4.out.mono st);have I6:=hI (I6.out.mono st);have I11:=hI (I11.out.mono st);clear st hb)
  |(go_at_call 26;have _t:=H15;clear _t;refine(HSa.out _ _ xsC _ (I6.out.mono (qac w15 (.cells #[.string ⟨#[]⟩,.string ⟨#[48]⟩,.int .i64 2,.int .i64 1,.string ⟨#[49]⟩,.string ⟨#[]⟩,.int .i64 0,.int .i64 2] 46))) (Ivs.blk xsC (Blk.new w15 _ _) rfl rfl (by decide)) (by decide)).mono ?_;rintro e w16 ⟨rfl,hb⟩;have st:=qaa (qac w15 (.cells #[.string ⟨#[]⟩,.string ⟨#[48]⟩,.int .i64 2,.int .i64 1,.string ⟨#[49]⟩,.string ⟨#[]⟩,.int .i64 0,.int .i64 2] 46)) hb;have H16:=hI (qaa H15.out st);have I4:=hI (I4.out.mono st);have I6:=hI (I6.out.mono st);have I11:=hI (I11.out.mono st);clear st hb)
  |(go_at_call 29;have _t:=H14;clear _t;refine(HBt.out _ _ _ _ _).mono ?_;rintro e w15 ⟨rfl,hb⟩;have st:=hb;have H15:=hI (qaa H14.out st);have I4:=hI (I4.out.mono st);have I6:=hI (I6.out.mono st);have I11:=hI (I11.out.mono st);clear st hb)
  |(go_at_call 29;have _t:=H13;clear _t;refine(HBt.out _ _ _ _ _).mono ?_;rintro e w14 ⟨rfl,hb⟩;have st:=hb;have H14:=hI (qaa H13.out st);have I4:=hI (I4.out.mono st);have I6:=hI (I6.out.mono st);have I11:=hI (I11.out.mono st);clear st hb)
  |(go_at_call 26;have _t:=H12;clear _t;refine(HSa.out _ _ [⟨⟨#[48]⟩,⟨#[51]⟩,0,0⟩] _ (I4.out.mono (qac w12 (.cells #[.string ⟨#[48]⟩,.string ⟨#[51]⟩,.int .i64 0,.int .i64 0] 46))) (Ivs.blk [⟨⟨#[48]⟩,⟨#[51]⟩,0,0⟩] (Blk.new w12 _ _) rfl rfl (by decide)) (by decide)).mono ?_;rintro e w13 ⟨rfl,hb⟩;have st:=qaa (qac w12 (.cells #[.string ⟨#[48]⟩,.string ⟨#[51]⟩,.int .i64 0,.int .i64 0] 46)) hb;have H13:=hI (qaa H12.out st);have I4:=hI (I4.out.mono st);have I6:=hI (I6.out.mono st);have I11:=hI (I11.out.mono st);clear st hb)
  |(go_at_call 29;have _t:=H11;clear _t;refine(HBt.out _ _ _ _ _).mono ?_;rintro e w12 ⟨rfl,hb⟩;have st:=hb;have H12:=hI (qaa H11.out st);have I4:=hI (I4.out.mono st);have I6:=hI (I6.out.mono st);have I11:=hI (I11.out.mono st);clear st hb)
  |(go_at_call 33;refine(HMa.out _ _ (Blk.new w10 _ _)).mono ?_;rintro e w11 ⟨v,rfl,⟨a11,c11,rfl,hi⟩,hb⟩;have st:=qaa (qac w10 (.cells #[.string ⟨#[49]⟩,.string ⟨#[50]⟩,.int .i64 0,.int .i64 1] 46)) hb;have H11:=hI (qaa H10.out st);have I4:=hI (I4.out.mono st);have I6:=hI (I6.out.mono st);have I11:=hI hi;clear hi;clear st hb)
  |(go_at_call 29;have _t:=H9;clear _t;refine(HBt.out _ _ _ _ _).mono ?_;rintro e w10 ⟨rfl,hb⟩;have st:=hb;have H10:=hI (qaa H9.out st);have I4:=hI (I4.out.mono st);have I6:=hI (I6.out.mono st);clear st hb)
  |(go_at_call 18;refine(HPi.out _ _ (Blk.new w8 _ _)).mono ?_;rintro e w9 ⟨rfl,hb⟩;have st:=qaa (qac w8 (.cells #[.string ⟨#[49]⟩,.string ⟨#[50]⟩,.int .i64 0,.int .i64 0] 46)) hb;have H9:=hI (qaa H8.out st);have I4:=hI (I4.out.mono st);have I6:=hI (I6.out.mono st);clear st hb)
  |(go_at_call 29;have _t:=H7;clear _t;refine(HBt.out _ _ _ _ _).mono ?_;rintro e w8 ⟨rfl,hb⟩;have st:=hb;have H8:=hI (qaa H7.out st);have I4:=hI (I4.out.mono st);have I6:=hI (I6.out.mono st);clear st hb)
  |(go_at_call 20;refine(HNx.out _ _ I6.out).mono ?_;rintro e w7 ⟨rfl,hb⟩;have st:=hb;have H7:=hI (qaa H6.out st);have I4:=hI (I4.out.mono st);have I6:=hI (I6.out.mono st);clear st hb)
  |(go_at_call 35;refine(HCo.out _ _ (Blk.new w5 _ _)).mono ?_;rintro e w6 ⟨v,rfl,⟨a6,c6,rfl,hi⟩,hb⟩;have st:=qaa (qac w5 (.cells #[.string ⟨#[48]⟩,.string ⟨#[49]⟩,.int .i64 0,.int .i64 1] 46)) hb;have H6:=hI (qaa H5.out st);have I4:=hI (I4.out.mono st);have I6:=hI hi;clear hi;clear st hb)
  |(go_at_call 29;have _t:=H4;clear _t;refine(HBt.out _ _ _ _ _).mono ?_;rintro e w5 ⟨rfl,hb⟩;have st:=hb;have H5:=hI (qaa H4.out st);have I4:=hI (I4.out.mono st);clear st hb)
  |(go_at_call 23;refine(HNo.out _ _ (Blk.new w3 _ _)).mono ?_;rintro e w4 ⟨v,rfl,⟨a4,c4,rfl,hi⟩,hb⟩;have st:=qaa (qac w3 (.cells #[.string ⟨#[50]⟩,.string ⟨#[51]⟩,.int .i64 1,.int .i64 0,.string ⟨#[48]⟩,.string ⟨#[49]⟩,.int .i64 0,.int .i64 1,.string ⟨#[49]⟩,.string ⟨#[50]⟩,.int .i64 0,.int .i64 0] 46)) hb;have H4:=hI (qaa H3.out st);have I4:=hI hi;clear hi;clear st hb)
  |(go_at_call 29;have _t:=H2;clear _t;refine(HBt.out _ _ _ _ _).mono ?_;rintro e w3 ⟨rfl,hb⟩;have st:=hb;have H3:=hI (qaa H2.out st);clear st hb)
  |(go_at_call 29;have _t:=H1;clear _t;refine(HBt.out _ _ _ _ _).mono ?_;rintro e w2 ⟨rfl,hb⟩;have st:=hb;have H2:=hI (qaa H1.out st);clear st hb)
  |(go_at_call 29;refine(HBt.out _ _ _ _ _).mono ?_;rintro e w1 ⟨rfl,hb⟩;have st:=hb;have H1:=hI (hb);clear st hb))
 go_ret
 exact⟨rfl,H18.out⟩
theorem qr0{x y:Cut}(hx:RokC x)(hy:RokC y)(h:toP x=toP y):x=y:=by
 obtain⟨b,s,d⟩:=x;obtain⟨b',s',d'⟩:=y;unfold toP at h;dsimp only at h
 injection h with h1 h2 h3
 subst h1 h2;rcases hx with⟨hb,-,-,-,-⟩|⟨hb,-,hd⟩
 ·dsimp only at hb
  subst hb;simp only[if_true]at h3;rw[show d=d' by omega]
 ·rcases hy with⟨hb',-,-,-,-⟩|⟨-,-,hd'⟩
  ·dsimp only at hb hb'
   omega
  ·dsimp only at hd hd'
   rw[hd,hd']
theorem qpt(x y:Cut)(hx:RokC x)(hy:RokC y)(h1:¬ltR x y)(h2:¬ltR y x):x=y:=
 qr0 hx hy (qeh _ _ ⟨x,hx,rfl⟩ ⟨y,hy,rfl⟩ h1 h2)
theorem qhp{X Y:List RP}(hX:IsSet ltR X)(hY:IsSet ltR Y)(oX:∀r∈X,OkR r)(oY:∀r∈Y,OkR r)(h:∀c,RokC c→(Mem ltR X c↔Mem ltR Y c)):X=Y:=
 IsSet.uniq qb5 RokC qpt hX hY oX oY h
theorem qey{rs:List RP}{c:Cut}:Mem ltR (qax rs) c↔Mem ltR rs c:=(qbi rs).2 c
theorem qel{J:List RP}(hs:IsSet ltR J)(hok:∀r∈J,OkR r){r:Cut}(hr:RokC r):Mem ltR (qax (qb6 lowR qbx J)) r↔ltR r qbx∧¬Mem ltR J r:=by
 rw[qey,qj2 hs hok hr]
theorem qtz{J:List RP}(hJ:∀r∈J,OkR r){r:Cut}(h:Mem ltR J r):ltR r qbx:=qfs hJ h
theorem qrk{X Y:List RP}(hX:∀r∈X,OkR r)(hY:∀r∈Y,OkR r):∀r∈qax (X++Y),OkR r:=
 qdp (P:=RokC) (fun r hr=>(List.mem_append.1 hr).elim (hX r) (hY r))
theorem qkg{J:List RP}(hJ:IsSet ltR J)(oJ:∀r∈J,OkR r):qax (qb6 lowR qbx (qax (qb6 lowR qbx J)))=J:=by
 refine qhp (qbi _).1 hJ (qdb (qdb oJ)) oJ fun c hc=>?_
 rw[qel (qbi _).1 (qdb oJ) hc,qel hJ oJ hc];exact⟨fun⟨h1,h2⟩=>Classical.byContradiction fun k=>h2 ⟨h1,k⟩,fun h=>⟨qtz oJ h,fun k=>k.2 h⟩⟩
theorem qo6{X Y:List RP}(hX:IsSet ltR X)(oX:∀r∈X,OkR r)(hY:IsSet ltR Y)(oY:∀r∈Y,OkR r):
  qax (qej ltR (qax (qb6 lowR qbx X)) (qax (qb6 lowR qbx Y)))=qax (qb6 lowR qbx (qax (X++Y))):=by
 refine qhp (qbi _).1 (qbi _).1 (qhr (qdb oX) (qdb oY)) (qdb (qrk oX oY)) fun c hc=>?_
 rw[qel (qbi _).1 (qrk oX oY) hc,qey (rs:=X++Y),Mem.app,qey,qe0 qb5,qel hX oX hc,qel hY oY hc];exact⟨fun⟨⟨h1,h2⟩,_,h3⟩=>⟨h1,fun k=>k.elim h2 h3⟩,fun⟨h1,h2⟩=>⟨⟨h1,fun k=>h2 (.inl k)⟩,h1,fun k=>h2 (.inr k)⟩⟩
theorem qox{J:List RP}(hJ:IsSet ltR J)(oJ:∀r∈J,OkR r):J=[]↔∀c,RokC c→¬Mem ltR J c:=by
 constructor
 ·rintro rfl c -
  exact Mem.nil
 ·intro h
  cases J with
  |nil=>rfl
  |cons p r=>exact absurd (Mem.cons.2 (.inl ⟨qb5.irr _,hJ.ne p (List.mem_cons_self ..)⟩)) (h p.1 (oJ p (List.mem_cons_self ..)).1)
theorem qmy{X Y:List RP}(oX:∀r∈X,OkR r)(hY:IsSet ltR Y)(oY:∀r∈Y,OkR r):subB X Y=true↔∀c,RokC c→Mem ltR X c→Mem ltR Y c:=by
 unfold subB;rw[decide_eq_true_iff,qox (qbi _).1 (qhr oX (qdb oY))];refine⟨fun h c hc hm=>Classical.byContradiction fun k=>h c hc ?_,fun h c hc hm=>?_⟩
 ·rw[qey,qe0 qb5,qel hY oY hc]
  exact⟨hm,qtz oX hm,k⟩
 ·rw[qey,qe0 qb5,qel hY oY hc]at hm
  exact hm.2.2 (h c hc hm.1)
theorem qpp{X Y:List RP}(hX:IsSet ltR X)(oX:∀r∈X,OkR r)(hY:IsSet ltR Y)(oY:∀r∈Y,OkR r):(subB X Y&&subB Y X)=true↔X=Y:=by
 rw[Bool.and_eq_true,qmy oX hY oY,qmy oY hX oX];refine⟨fun⟨h1,h2⟩=>qhp hX hY oX oY fun c hc=>⟨h1 c hc,h2 c hc⟩,?_⟩
 rintro rfl;exact⟨fun _ _ h=>h,fun _ _ h=>h⟩
theorem SetI.same{xs ys:List Iv}{X Y:List RP}(hx:SetI xs X)(hy:SetI ys Y):xs=ys↔X=Y:=by
 refine⟨fun h=>?_,fun h=>?_⟩
 ·rw[←hx.rg,←hy.rg,h]
 ·rw[hx.eq,hy.eq,h]
theorem Sl.takeC{w:World}{sz n cap k:Nat}{a:Option Addr}{rows:List (List Value)}(h:Sl w sz (.slice a n cap) rows)(hk:k≤n):Sl w sz (.slice a k cap) (rows.take k):=by
 obtain⟨a',cap',hv,hc,hm,h⟩:=h;simp only[Value.slice.injEq]at hv;obtain⟨rfl,rfl,rfl⟩:=hv;refine⟨a,cap,by rw[List.length_take,Nat.min_eq_left hk],by rw[List.length_take];omega,hm,?_⟩
 rcases h with h|⟨b,off,rfl,hb,h⟩
 ·exact .inl h
 ·refine .inr ⟨b,off,rfl,hb,fun i j hi hj=>?_⟩
  rw[List.length_take]at hi;rw[h i j (by omega) hj];simp only[List.getD_eq_getElem?_getD];rw[List.getElem?_take_of_lt (by omega)]
theorem qm8(v:Value)(xs:List Iv)(w:World)(h:Ivs w v xs)(hs:∀x∈xs,x.short):Calls Tryz.prog 15 #[v] w (RetP (fun r w'=>∃a c,r=.slice a (setL xs).length c∧Ivs w' (.slice a (setL xs).length c) (setL xs)) w):=by
 obtain⟨a,c,rfl,hc1,hc2⟩:=h.open;unfold maxLen at hc2;obtain⟨m,hm⟩:∃m,min xs.length 8=m:=⟨_,rfl⟩
 have hmin:min ((xs.length:Nat):Int) 8=(m:Int):=by omega
 have hm8:m≤8:=by omega
 have hml:m≤xs.length:=by omega
 have htk:xs.take 8=xs.take m:=by
  rcases Nat.lt_or_ge xs.length 8 with h8|h8
  ·rw[List.take_of_length_le (by omega),List.take_of_length_le (by omega)]
  ·rw[show m=8 by omega]
 have hIv:Ivs w (.slice a m c) (xs.take m):=by
  have:=Sl.takeC h hml;rw[←List.map_take]at this;exact this
 have hlen:(xs.take m).length=m:=by rw[List.length_take];omega
 have HN:=hI (qi4 (.slice a m c) (xs.take m) w hIv (fun x hx=>hs x (List.mem_of_mem_take hx)) (by omega));have Hse:=hI (show setL xs=qd7 (xs.take m)by unfold setL;rw[htk]);have hmc:(m:Int)≤(c:Int):=by omega
 have hm0:(0:Int)≤(m:Int):=Int.natCast_nonneg _;have hmt:((m:Int)).toNat=m:=by omega
 clear h hs hm hIv hlen htk hm8;generalize xs.length=n at*;unfold qtg at HN
 go_enter Tryz.func15,Tryz.ntmps15
 go_wp2_with (go_at_call 24;refine(HN.out).mono ?_;rintro e w1 ⟨v1,rfl,⟨a1,c1,rfl,hiv⟩,hb1⟩;have Hiv:=hI hiv;have Hb1:=hI hb1;clear hiv hb1)
 go_ret
 exact⟨_,rfl,⟨a1,c1,by rw[Hse.out];rfl,by rw[Hse.out];exact Hiv.out⟩,Hb1.out⟩
def shB(x:Iv):Bool:=decide (x.lo.size≤60)&&decide (x.hi.size≤60)
def fewB(xs:List Iv):Bool:=!(decide (260<xs.length)||(decide (8<xs.length)&&decide (xs.length<257)))&&xs.all shB
theorem qjf{xs:List Iv}(h:fewB xs=true):∀x∈xs,x.short:=by
 unfold fewB at h;rw[Bool.and_eq_true]at h;intro x hx;have:=List.all_eq_true.1 h.2 x hx;unfold shB at this;simp at this;exact⟨Nat.le_trans this.1 (by decide),Nat.le_trans this.2 (by decide)⟩
theorem qs3(v:Value)(xs:List Iv)(w:World)(h:Ivs w v xs)(hln:xs.length<1000000):Calls Tryz.prog 14 #[v] w (Ret (.bool (fewB xs)) w):=by
 obtain⟨a,c,rfl,hc1,hc2⟩:=h.open;have HX:=hI h;obtain⟨T,hT⟩:∃T,fewB xs=T:=⟨_,rfl⟩
 rw[hT];have HT0:=hI (show T=(!(decide (260<xs.length)||(decide (8<xs.length)&&decide (xs.length<257)))&&xs.all shB)from hT.symm);generalize hn:xs.length=n at*;have Hn:=hI hn;clear h hn hT
 by_cases h1:260<n
 ·have Hfin:=hI (show T=false by rw[HT0.out,decide_eq_true h1];rfl)
  have g1:(260:Int)<(n:Int):=by omega
  go_enter Tryz.func14,Tryz.ntmps14
  go_wp2_with fail
  go_ret
  exact⟨by rw[Hfin.out];rfl,Below.refl _ _⟩
 ·have g1:¬(260:Int)<(n:Int):=by omega
  by_cases h2:8<n
  ·have g2:(8:Int)<(n:Int):=by omega
   by_cases h3:n<257
   ·have Hfin:=hI (show T=false by rw[HT0.out,decide_eq_true h2,decide_eq_true h3,Bool.true_and,Bool.or_true];rfl)
    have g3:(n:Int)<257:=by omega
    go_enter Tryz.func14,Tryz.ntmps14
    go_wp2_with fail
    go_ret
    exact⟨by rw[Hfin.out];rfl,Below.refl _ _⟩
   ·have HT:=hI (show T=(true&&xs.all shB)by rw[HT0.out,decide_eq_false h1,decide_eq_false h3,Bool.and_false,Bool.or_false];rfl)
    have g3:¬(n:Int)<257:=by omega
    clear h1 h2 h3 HT0
    go_enter Tryz.func14,Tryz.ntmps14
    go_wp2_with fail
    go_loopw [3] (fun i wr=>wr=w∧∃k:Nat,k≤n∧i=.int .i64 (k:Int)∧Hid (xs.all shB=(xs.drop k).all shB)) (fun i _=>n-(intOf i).toNat)
    case atStart=>exact⟨rfl,0,Nat.zero_le _,rfl,by unfold Hid;rw[List.drop_zero]⟩
    case round=>
     obtain⟨rfl,k,hk,rfl,hpre⟩:=hrel;rcases Nat.lt_or_ge k n with hlt|hge
     ·obtain⟨b,off,x,rfl,hx,c0,c1,c2,c3⟩:=HX.out.at (Below.refl _ _) hlt
      have hkn:(k:Int)<(n:Int):=by omega
      have hk0:(0:Int)≤(k:Int):=Int.natCast_nonneg _;have hkw:IntKind.i64.wrap ((k:Int)+1)=(k:Int)+1:=IntWalk.i64_in _ (by omega);have hpr:=hpre.out;rw[qds hx,List.all_cons]at hpr
      by_cases h1:60<x.lo.size
      ·have hf:xs.all shB=false:=by rw[hpr];simp[shB];omega
       have Hfin:=hI (show T=false by rw[HT.out,hf,Bool.and_false]);have g1:(60:Int)<(x.lo.size:Int):=by omega
       clear hpr hx hf
       go_wp2_with fail
       go_ret
       exact⟨by rw[Hfin.out];rfl,Below.refl _ _⟩
      ·have g1:¬(60:Int)<(x.lo.size:Int):=by omega
       by_cases h2:60<x.hi.size
       ·have hf:xs.all shB=false:=by rw[hpr];simp[shB];omega
        have Hfin:=hI (show T=false by rw[HT.out,hf,Bool.and_false]);have g2:(60:Int)<(x.hi.size:Int):=by omega
        clear hpr hx hf
        go_wp2_with fail
        go_ret
        exact⟨by rw[Hfin.out];rfl,Below.refl _ _⟩
       ·have g2:¬(60:Int)<(x.hi.size:Int):=by omega
        have Hnx:=hI (show xs.all shB=(xs.drop (k+1)).all shB by
         rw[hpr,show shB x=true by unfold shB;rw[decide_eq_true (by omega),decide_eq_true (by omega)];rfl,Bool.true_and])
        clear hpr hx h1 h2
        go_wp2_with fail
        go_roundw
        case rel=>exact⟨trivial,k+1,by omega,by go_num,Hnx.out⟩
        case measure=>simp[intOf]<;>omega
     ·obtain rfl:k=n:=by omega
      have hkn:¬(k:Int)<(k:Int):=by omega
      have Hfin:=hI (show T=true by rw[HT.out,hpre.out,List.drop_of_length_le (by rw[Hn.out];exact Nat.le_refl _)];rfl)
      go_wp2_with fail
      go_ret
      exact⟨by rw[Hfin.out];rfl,Below.refl _ _⟩
  ·have g2:¬(8:Int)<(n:Int):=by omega
   have HT:=hI (show T=(true&&xs.all shB)by rw[HT0.out,decide_eq_false h1,decide_eq_false h2,Bool.false_and,Bool.or_false];rfl);clear h1 h2 HT0
   go_enter Tryz.func14,Tryz.ntmps14
   go_wp2_with fail
   go_loopw [3] (fun i wr=>wr=w∧∃k:Nat,k≤n∧i=.int .i64 (k:Int)∧Hid (xs.all shB=(xs.drop k).all shB)) (fun i _=>n-(intOf i).toNat)
   case atStart=>exact⟨rfl,0,Nat.zero_le _,rfl,by unfold Hid;rw[List.drop_zero]⟩
   case round=>
    obtain⟨rfl,k,hk,rfl,hpre⟩:=hrel;rcases Nat.lt_or_ge k n with hlt|hge
    ·obtain⟨b,off,x,rfl,hx,c0,c1,c2,c3⟩:=HX.out.at (Below.refl _ _) hlt
     have hkn:(k:Int)<(n:Int):=by omega
     have hk0:(0:Int)≤(k:Int):=Int.natCast_nonneg _;have hkw:IntKind.i64.wrap ((k:Int)+1)=(k:Int)+1:=IntWalk.i64_in _ (by omega);have hpr:=hpre.out;rw[qds hx,List.all_cons]at hpr
     by_cases h1:60<x.lo.size
     ·have hf:xs.all shB=false:=by rw[hpr];simp[shB];omega
      have Hfin:=hI (show T=false by rw[HT.out,hf,Bool.and_false]);have g1:(60:Int)<(x.lo.size:Int):=by omega
      clear hpr hx hf
      go_wp2_with fail
      go_ret
      exact⟨by rw[Hfin.out];rfl,Below.refl _ _⟩
     ·have g1:¬(60:Int)<(x.lo.size:Int):=by omega
      by_cases h2:60<x.hi.size
      ·have hf:xs.all shB=false:=by rw[hpr];simp[shB];omega
       have Hfin:=hI (show T=false by rw[HT.out,hf,Bool.and_false]);have g2:(60:Int)<(x.hi.size:Int):=by omega
       clear hpr hx hf
       go_wp2_with fail
       go_ret
       exact⟨by rw[Hfin.out];rfl,Below.refl _ _⟩
      ·have g2:¬(60:Int)<(x.hi.size:Int):=by omega
       have Hnx:=hI (show xs.all shB=(xs.drop (k+1)).all shB by
        rw[hpr,show shB x=true by unfold shB;rw[decide_eq_true (by omega),decide_eq_true (by omega)];rfl,Bool.true_and])
       clear hpr hx h1 h2
       go_wp2_with fail
       go_roundw
       case rel=>exact⟨trivial,k+1,by omega,by go_num,Hnx.out⟩
       case measure=>simp[intOf]<;>omega
    ·obtain rfl:k=n:=by omega
     have hkn:¬(k:Int)<(k:Int):=by omega
     have Hfin:=hI (show T=true by rw[HT.out,hpre.out,List.drop_of_length_le (by rw[Hn.out];exact Nat.le_refl _)];rfl)
     go_wp2_with fail
     go_ret
     exact⟨by rw[Hfin.out];rfl,Below.refl _ _⟩
theorem qqt(v:Value)(xs:List Iv)(w:World)(h:Ivs w v xs)(hn:260<xs.length):Calls Tryz.prog 14 #[v] w (Ret (.bool false) w):=by
 obtain⟨a,c,rfl,hc1,hc2⟩:=h.open;clear h;generalize xs.length=n at*;have g1:(260:Int)<(n:Int):=by omega
 go_enter Tryz.func14,Tryz.ntmps14
 go_wp2_with fail
 go_ret
 exact⟨rfl,Below.refl _ _⟩
theorem qon(v:Value)(xs:List Iv)(w:World)(h:Ivs w v xs):Calls Tryz.prog 14 #[v] w (Ret (.bool (fewB xs)) w):=by
 rcases Nat.lt_or_ge 260 xs.length with hn|hn
 ·rw[show fewB xs=false by unfold fewB;rw[decide_eq_true hn];rfl]
  exact qqt v xs w h hn
 ·exact qs3 v xs w h (by omega)
end Go.Proofs.YtacihodamichhaaGreatDoor
