/- Parts of the proof. -/
import Derived.Test.YtacihodamichhaaGreatDoorE46
set_option maxHeartbeats 16000000
namespace Go.Proofs.YtacihodamichhaaGreatDoor
open Go.RowKit
theorem qui(n:ByteArray)(w:World)(hn:n.size≤60):Calls Tryz.prog 21 #[.string n,.int .i64 65536] w (Ret (.int .i64 (errL n.data.toList)) w):=by
 have H:=qh1 n.data.toList w (by rw[←Lib.size_eq];exact Nat.le_trans hn (by decide))
 rwa [←qbz (s:=n) rfl]at H
theorem qv6(s n:ByteArray)(w:World)(hs:s.size≤5000)(hn:n.size≤60)(h:errL s.data.toList=0)(h':errL n.data.toList=0):Calls Tryz.prog 22 #[.string s,.string n] w (Ret (.int .i64 (cqS s n)) w):=by
 have H:=qlu s.data.toList n.data.toList w (by rw[←Lib.size_eq];exact hs) (by rw[←Lib.size_eq];exact Nat.le_trans hn (by decide)) h h'
 rwa [←qbz (s:=s) rfl,←qbz (s:=n) rfl]at H
theorem qha(O:List ByteArray)(c:Cut):(qax O c).length≤O.length+1:=by
 unfold qax
 split
 ·rw[List.length_append];exact Nat.le_refl _
 ·omega
theorem qf6:∀(cs:List (Cut × Cut)) (O:List ByteArray),(qfq O cs).length≤O.length+2*cs.length
 |[],O=>Nat.le_refl _
 |p::cs,O=>by
  have h:=qf6 cs (qax (qax O p.1) p.2);have h1:=qha O p.1;have h2:=qha (qax O p.1) p.2
  show(qfq (qax (qax O p.1) p.2) cs).length≤_
  rw[List.length_cons]
  omega
theorem qpf{E:List ByteArray}{n:ByteArray}{k:Nat}{s:ByteArray}(hq:E[k]?=some s)(h1:0<cqS s n)(h2:∀s'∈E.take k,cqS s' n≤0):qfu E n=some s:=by
 unfold qfu;obtain⟨hi,he⟩:=List.getElem?_eq_some_iff.1 hq
 have hs:E=E.take k++s::E.drop (k+1):=by
  rw[←he,←List.drop_eq_getElem_cons hi,List.take_append_drop]
 rw[hs,List.find?_append,List.find?_eq_none.2 (fun s hs=>by have:=h2 s hs;simp;omega),List.find?_cons,decide_eq_true h1]
 rfl
theorem qub{E:List ByteArray}{n:ByteArray}(h2:∀s∈E,cqS s n≤0):qfu E n=none:=by
 unfold qfu;exact List.find?_eq_none.2 (fun s hs=>by have:=h2 s hs;simp;omega)
set_option maxRecDepth 10000 in
theorem qrs(v:Value)(xs:List Iv)(n:ByteArray)(w:World)(h:Ivs w v xs)(hT:Tab w):Calls Tryz.prog 3 #[v,.string n] w (Ret (.bool true) w):=by
 have HK:=hI (fun w' (hT':Tab w')=>qna w' hT');have HF:=hI (fun w' (hb:Below w.heap.size w w')=>qud v xs w' (h.mono hb));have HT:=hI hT;clear hT;obtain⟨a,c,rfl,hc1,hc2⟩:=h.open;cases hf:fewB xs with
 |false=>
  rw[hf]at HF;clear h hf;generalize xs.length=m at*
  go_enter Tryz.func3,Tryz.ntmps3
  go_wp2_with (first
   |(have _t:=Hb2;clear _t;go_at_call 13;refine(HK.out _ (HT.out.mono (Hb2.out))).mono ?_;rintro e w3 ⟨rfl,hb3⟩;have Hb3:=hI (qaa Hb2.out hb3);clear hb3)
   |(have _t:=Hb1;clear _t;go_at_call 14;refine(HF.out _ (Hb1.out)).mono ?_;rintro e w2 ⟨rfl,hb2⟩;have Hb2:=hI (qaa Hb1.out hb2);clear hb2)
   |(go_at_call 13;refine(HK.out _ (HT.out.mono (Below.refl _ _))).mono ?_;rintro e w1 ⟨rfl,hb1⟩;have Hb1:=hI (hb1);clear hb1))
  go_ret
  exact⟨rfl,Hb3.out⟩
 |true=>
  have hs:=qph hf;have hz:=qqm (qvh hf);rw[hf]at HF;rcases Nat.lt_or_ge 60 n.size with hn|hn
  ·have hn2:(60:Int)<(n.size:Int):=by omega
   clear h hf hs hn hz;generalize xs.length=m at*
   go_enter Tryz.func3,Tryz.ntmps3
   go_wp2_with (first
    |(have _t:=Hb2;clear _t;go_at_call 13;refine(HK.out _ (HT.out.mono (Hb2.out))).mono ?_;rintro e w3 ⟨rfl,hb3⟩;have Hb3:=hI (qaa Hb2.out hb3);clear hb3)
    |(have _t:=Hb1;clear _t;go_at_call 14;refine(HF.out _ (Hb1.out)).mono ?_;rintro e w2 ⟨rfl,hb2⟩;have Hb2:=hI (qaa Hb1.out hb2);clear hb2)
    |(go_at_call 13;refine(HK.out _ (HT.out.mono (Below.refl _ _))).mono ?_;rintro e w1 ⟨rfl,hb1⟩;have Hb1:=hI (hb1);clear hb1))
   go_ret
   exact⟨rfl,Hb3.out⟩
  ·have hn2:¬(60:Int)<(n.size:Int):=by omega
   have HS:=hI (fun w' (hb:Below w.heap.size w w')=>qtb _ xs w' (h.mono hb) hs);have HCk:=hI (fun w'=>qui n w' hn);obtain⟨J,hJ,hJ8⟩:=qta hs;have hl8:(setL xs).length≤8:=by rw[hJ.length];exact hJ8
   have hl256:(setL xs).length≤256:=by omega
   have hEl:=qf6 ((setL xs).map Iv.cuts) []
   change (qca ((setL xs).map Iv.cuts)).length≤_ at hEl
   rw[List.length_map,List.length_nil]at hEl
   have HE:=hI (fun v' w' (h':Ivs w' v' (setL xs))=>(qt9 v' (setL xs) w' h' hJ.short hJ.err hl256).mono (R':=RetP (fun r w2=>∃a c,r=.tuple #[.slice a (qca ((setL xs).map Iv.cuts)).length c,.int .i64 0]∧Strs w2 (.slice a (qca ((setL xs).map Iv.cuts)).length c) (qca ((setL xs).map Iv.cuts))) w') (by
    rintro e w2 ⟨r,rfl,⟨a,c,L,rfl,hL,hLE,-⟩,hb⟩;rw[←hLE]
    exact⟨_,rfl,⟨a,c,rfl,hL⟩,hb⟩))
   have HRE:=hI (fun v' w' (h':Ivs w' v' (setL xs))=>(qn9 v' (setL xs) w' h' hl256).mono (R':=RetP (fun r w2=>∃a c,r=.slice a (qca ((setL xs).map Iv.cuts)).length c∧Strs w2 (.slice a (qca ((setL xs).map Iv.cuts)).length c) (qca ((setL xs).map Iv.cuts))) w') (by
    rintro e w2 ⟨r,rfl,⟨a,c,L,rfl,hL,hLE,-⟩,hb⟩;rw[←hLE]
    exact⟨_,rfl,⟨a,c,rfl,hL⟩,hb⟩))
   have HP:=hI (fun v' w' (h':Ivs w' v' (setL xs)) (hT':Tab w')=>qo4 v' (setL xs) w' h' hJ.short hJ.err hl256 hT');obtain⟨m2,hm2⟩:∃m2,(setL xs).length=m2:=⟨_,rfl⟩
   obtain⟨pv,B,hpv,hB,hB0,HRP⟩:∃(pv:ByteArray) (B:Bool),qq4 (setL xs)=.tuple #[.string pv,.bool B,.int .i64 0]∧(B=true→0<m2)∧(B=false→m2=0∧pv=⟨#[48]⟩)∧Hid (B=true→∀v' w',Ivs w' v' (setL xs)→Calls Tryz.prog 19 #[v'] w' (Ret (.string pv) w')):=by
    cases hS:setL xs with
    |nil=>exact⟨⟨#[48]⟩,false,rfl,fun h=>(by cases h),fun _=>⟨by rw[←hm2,hS];rfl,rfl⟩,hI (fun h=>by cases h)⟩
    |cons x xr=>exact⟨_,true,rfl,fun _=>(by rw[←hm2,hS];exact Nat.succ_pos _),fun h=>(by cases h),hI (fun _ v' w' h'=>qn7 v' x xr 60 w' h' (hJ.iv x (by rw[hS];exact List.mem_cons_self ..)) (qd2 (hz x (by rw[hS];exact List.mem_cons_self ..)).1 (by decide)) (qd2 (hz x (by rw[hS];exact List.mem_cons_self ..)).2 (by decide)) (by decide) (by decide))⟩
   rw[hpv]at HP;have hE1:((⟨#[]⟩:ByteArray).toList==(⟨#[]⟩:ByteArray).toList)=true:=by simp
   have hE2:((⟨#[48]⟩:ByteArray).toList==(⟨#[48]⟩:ByteArray).toList)=true:=by simp
   by_cases hr:errL n.data.toList=0
   ·have HN:=hI (fun v' w' (h':Ivs w' v' (setL xs))=>qo5 v' (setL xs) n w' h' hJ.short hJ.err hl256 (Nat.le_trans hn (by decide)) hr)
    have HQ:=hI (fun s (hs:s∈qca ((setL xs).map Iv.cuts)) w'=>(show Calls Tryz.prog 22 #[.string s,.string n] w' (Ret (.int .i64 (cqS s n)) w')from by
     obtain⟨e1,e2⟩:=qrr hJ s hs
     exact qv6 s n w' e1 hn e2 hr))
    rw[hr]at HCk;clear h hs hf hJ hJ8 hn hr hl8 hz;generalize xs.length=m at*;obtain⟨N,hN⟩:∃N,(qca ((setL xs).map Iv.cuts)).length=N:=⟨_,rfl⟩
    have HEN:=hI hN;rw[hm2]at hEl hl256;rw[hN]at HE HRE hEl;clear hN;generalize qca ((setL xs).map Iv.cuts)=E at*
    obtain⟨nx,nb,hnx,HFd,HFn⟩:∃(nx:ByteArray) (nb:Bool),qq9 (qfu E n)=.tuple #[.string nx,.bool nb,.int .i64 0]∧Hid (∀q s,E[q]?=some s→0<cqS s n→(∀s'∈E.take q,cqS s' n≤0)→s=nx∧nb=true)∧Hid ((∀s∈E,cqS s n≤0)→nx=⟨#[48]⟩∧nb=false):=by
     cases hX:qfu E n with
     |some t=>exact⟨t,true,rfl,hI (fun q s h1 h2 h3=>⟨Option.some.inj ((qpf h1 h2 h3).symm.trans hX),rfl⟩),hI (fun h=>by rw[qub h]at hX;cases hX)⟩
     |none=>exact⟨⟨#[48]⟩,false,rfl,hI (fun q s h1 h2 h3=>by rw[qpf h1 h2 h3]at hX;cases hX),hI (fun _=>⟨rfl,rfl⟩)⟩
    rw[hnx]at HN;clear hnx hpv;rw[hm2]at HS;generalize setL xs=A at*;clear hm2;have hNN:(((N:Nat):Int)!=(N:Int))=false:=by simp
    have hN5:N≤512:=by omega
    clear hEl hl256;cases B with
    |true=>
     have HRQ:=hI (HRP.out rfl);have hm3:=hB rfl;have hm4:(0:Int)<(m2:Int):=by omega
     have hpp:(pv.toList !=pv.toList)=false:=by simp
     clear hB hB0 HRP
     go_enter Tryz.func3,Tryz.ntmps3
     go_wp2_with (first
      |(have _t:=Hb4;clear _t;go_at_call 17;refine(HRE.out _ _ (HiS4.out)).mono ?_;rintro e w5 ⟨v5,rfl,⟨a5,c5,rfl,hi5⟩,hb5⟩;have Hb5:=hI (qaa Hb4.out hb5);have HiS5:=hI (HiS4.out.mono hb5);have HiL5:=hI (HiL4.out.mono hb5);have HiR5:=hI hi5;clear hb5 hi5)
      |(have _t:=Hb3;clear _t;go_at_call 16;refine(HE.out _ _ (HiS3.out)).mono ?_;rintro e w4 ⟨v4,rfl,⟨a4,c4,rfl,hi4⟩,hb4⟩;have Hb4:=hI (qaa Hb3.out hb4);have HiS4:=hI (HiS3.out.mono hb4);have HiL4:=hI hi4;clear hb4 hi4)
      |(have _t:=Hb2;clear _t;go_at_call 15;refine(HS.out _ (Hb2.out)).mono ?_;rintro e w3 ⟨v3,rfl,⟨a3,c3,rfl,hi3⟩,hb3⟩;have Hb3:=hI (qaa Hb2.out hb3);have HiS3:=hI hi3;clear hb3 hi3)
      |(have _t:=Hb1;clear _t;go_at_call 14;refine(HF.out _ (Hb1.out)).mono ?_;rintro e w2 ⟨rfl,hb2⟩;have Hb2:=hI (qaa Hb1.out hb2);clear hb2)
      |(go_at_call 13;refine(HK.out _ (HT.out.mono (Below.refl _ _))).mono ?_;rintro e w1 ⟨rfl,hb1⟩;have Hb1:=hI (hb1);clear hb1))
     go_loopw [9] (fun i wr=>∃k:Nat,k≤N∧i=.int .i64 (k:Int)∧Below w5.heap.size w5 wr) (fun i _=>N-(intOf i).toNat)
     case atStart=>exact⟨0,by omega,rfl,Below.refl _ _⟩
     case round=>
      obtain⟨k,hk,rfl,hbw⟩:=hrel;have Hbw:=hI hbw;have hkw:IntKind.i64.wrap ((k:Int)+1)=(k:Int)+1:=IntWalk.i64_in _ (by omega);rcases Nat.lt_or_ge k N with hlt|hge
      ·obtain⟨b1,o1,s,rfl,hx1,c0⟩:=HiL5.out.at hbw hlt
       obtain⟨b2,o2,s2,rfl,hx2,c1'⟩:=HiR5.out.at hbw hlt;obtain rfl:s=s2:=Option.some.inj (hx1.symm.trans hx2);have hss:(s.toList==s.toList)=true:=by simp
       have hss2:(s.toList !=s.toList)=false:=by simp
       have hkn:(k:Int)<(N:Int):=by omega
       have hk0:(0:Int)≤(k:Int):=Int.natCast_nonneg _;have Hc0:=hI c0;have Hc1:=hI c1';have HcS:=hI (fun w' (hb:Below wr.heap.size wr w')=>And.intro ((hb.cell (p:=⟨b1,o1+k,none⟩) (World.block_lt_of_cell? _ _ Hc0.out)).trans Hc0.out) ((hb.cell (p:=⟨b2,o2+k,none⟩) (World.block_lt_of_cell? _ _ Hc1.out)).trans Hc1.out));clear hx1 hx2 hbw c0 c1';go_upto_region 11 with fail
       refine wp_region_held_drew (S:=(fun w'=>w'.cell? ⟨b1,o1+k,none⟩=some (.string s)∧w'.cell? ⟨b2,o2+k,none⟩=some (.string s))) (by kernel_rfl) (by exact HcS.out _ (bwD wr)) (fun hHeld=>?_)
       refine' tk 0 ?_;(try simp only[tkS]);refine' tk 1 ?_;(try simp only[tkS]);refine' tk 2 ?_;(try simp only[tkS]);refine' tk 3 ?_;(try simp only[tkS]);refine' tk 4 ?_;(try simp only[tkS]);refine' tk 5 ?_;(try simp only[tkS]);refine' tk 6 ?_;(try simp only[tkS]);refine' tk 7 ?_;(try simp only[tkS]);refine' tk 8 ?_;(try simp only[tkS]);refine tkD ?_ _
       go_wp2_with fail
       go_roundw
       case rel=>exact⟨k+1,by omega,by go_num,Hbw.out.via (bwD wr) Hbw.out.size⟩
       case measure=>simp[intOf]<;>omega
      ·obtain rfl:k=N:=by omega
       have hkn:¬(k:Int)<(k:Int):=by omega
       have Hb6:=hI (qaa Hb5.out Hbw.out);have HiS6:=hI (HiS5.out.mono Hbw.out);have HiR6:=hI (HiR5.out.mono Hbw.out);clear hbw
       go_wp2_with (first
        |(have _t:=Hb9;clear _t;go_at_call 21;refine(HCk.out _).mono ?_;rintro e w10 ⟨rfl,hb10⟩;have Hb10:=hI (qaa Hb9.out hb10);have HiR10:=hI (HiR9.out.mono hb10);clear hb10)
        |(have _t:=Hb8;clear _t;go_at_call 20;refine(HN.out _ _ (HiS8.out)).mono ?_;rintro e w9 ⟨rfl,hb9⟩;have Hb9:=hI (qaa Hb8.out hb9);have HiR9:=hI (HiR8.out.mono hb9);clear hb9)
        |(have _t:=Hb7;clear _t;go_at_call 19;refine(HRQ.out _ _ (HiS7.out)).mono ?_;rintro e w8 ⟨rfl,hb8⟩;have Hb8:=hI (qaa Hb7.out hb8);have HiS8:=hI (HiS7.out.mono hb8);have HiR8:=hI (HiR7.out.mono hb8);clear hb8)
        |(have _t:=Hb6;clear _t;go_at_call 18;refine(HP.out _ _ (HiS6.out) (HT.out.mono (Hb6.out))).mono ?_;rintro e w7 ⟨rfl,hb7⟩;have Hb7:=hI (qaa Hb6.out hb7);have HiS7:=hI (HiS6.out.mono hb7);have HiR7:=hI (HiR6.out.mono hb7);clear hb7))
       go_loopw [17] (fun i wr=>∃q:Nat,q≤k∧i=.int .i64 (q:Int)∧Below w10.heap.size w10 wr∧Hid (∀s∈E.take q,cqS s n≤0)) (fun i _=>k-(intOf i).toNat)
       case atStart=>exact⟨0,by omega,rfl,Below.refl _ _,fun s hs=>by cases hs⟩
       case round=>
        rename World=>wq
        obtain⟨q,hq,rfl,hbq,hpre⟩:=hrel;have Hbq:=hI hbq;have Hpre:=hI hpre.out;have hqw:IntKind.i64.wrap ((q:Int)+1)=(q:Int)+1:=IntWalk.i64_in _ (by omega);rcases Nat.lt_or_ge q k with hlt|hge
        ·obtain⟨b3,o3,s,rfl,hx,c0⟩:=HiR10.out.at hbq hlt
         have hqn:(q:Int)<(k:Int):=by omega
         have hq0:(0:Int)≤(q:Int):=Int.natCast_nonneg _;have Hc0:=hI c0;have HQs:=hI (fun w'=>HQ.out s (List.mem_of_getElem? hx) w');have Hx:=hI hx;have hss:(s.toList==s.toList)=true:=by simp
         clear hx hbq hpre
         by_cases hX:0<cqS s n
         ·have hf:=HFd.out q s Hx.out hX Hpre.out
          obtain⟨rfl,rfl⟩:=hf;generalize hXX:cqS s n=X at*;clear hXX
          go_wp2_with (go_at_call 22;refine(HQs.out _).mono ?_;rintro e wz ⟨rfl,hbz⟩;have c0:=(hbz.cell (p:=⟨b3,o3+q,none⟩) (World.block_lt_of_cell? _ _ Hc0.out)).trans Hc0.out;have Hbz:=hI hbz;clear hbz)
          go_ret
          exact⟨rfl,qaa (qaa Hb10.out Hbq.out) Hbz.out⟩
         ·have Hnx:=hI (show ∀s'∈E.take (q+1),cqS s' n≤0 from fun s' hs'=>by
           rw[qbn Hx.out]at hs';rcases List.mem_append.1 hs' with h|h
           ·exact Hpre.out s' h
           ·cases List.mem_singleton.1 h;omega)
          clear Hx Hpre;generalize hXX:cqS s n=X at*;clear hXX
          go_wp2_with (go_at_call 22;refine(HQs.out _).mono ?_;rintro e wz ⟨rfl,hbz⟩;have Hbz:=hI hbz;clear hbz)
          go_roundw
          case rel=>exact⟨q+1,by omega,by go_num,Hbq.out.via Hbz.out Hbq.out.size,Hnx.out⟩
          case measure=>simp[intOf]<;>omega
        ·obtain rfl:q=k:=by omega
         have hqn:¬(q:Int)<(q:Int):=by omega
         have hf:=HFn.out (by have:=Hpre.out;rwa [List.take_of_length_le (by rw[HEN.out];exact Nat.le_refl _)]at this);obtain⟨rfl,rfl⟩:=hf
         go_wp2_with fail
         go_ret
         exact⟨rfl,qaa Hb10.out Hbq.out⟩
    |false=>
     obtain⟨rfl,rfl⟩:=hB0 rfl;clear hB hB0 HRP
     go_enter Tryz.func3,Tryz.ntmps3
     go_wp2_with (first
      |(have _t:=Hb4;clear _t;go_at_call 17;refine(HRE.out _ _ (HiS4.out)).mono ?_;rintro e w5 ⟨v5,rfl,⟨a5,c5,rfl,hi5⟩,hb5⟩;have Hb5:=hI (qaa Hb4.out hb5);have HiS5:=hI (HiS4.out.mono hb5);have HiL5:=hI (HiL4.out.mono hb5);have HiR5:=hI hi5;clear hb5 hi5)
      |(have _t:=Hb3;clear _t;go_at_call 16;refine(HE.out _ _ (HiS3.out)).mono ?_;rintro e w4 ⟨v4,rfl,⟨a4,c4,rfl,hi4⟩,hb4⟩;have Hb4:=hI (qaa Hb3.out hb4);have HiS4:=hI (HiS3.out.mono hb4);have HiL4:=hI hi4;clear hb4 hi4)
      |(have _t:=Hb2;clear _t;go_at_call 15;refine(HS.out _ (Hb2.out)).mono ?_;rintro e w3 ⟨v3,rfl,⟨a3,c3,rfl,hi3⟩,hb3⟩;have Hb3:=hI (qaa Hb2.out hb3);have HiS3:=hI hi3;clear hb3 hi3)
      |(have _t:=Hb1;clear _t;go_at_call 14;refine(HF.out _ (Hb1.out)).mono ?_;rintro e w2 ⟨rfl,hb2⟩;have Hb2:=hI (qaa Hb1.out hb2);clear hb2)
      |(go_at_call 13;refine(HK.out _ (HT.out.mono (Below.refl _ _))).mono ?_;rintro e w1 ⟨rfl,hb1⟩;have Hb1:=hI (hb1);clear hb1))
     go_loopw [9] (fun i wr=>∃k:Nat,k≤N∧i=.int .i64 (k:Int)∧Below w5.heap.size w5 wr) (fun i _=>N-(intOf i).toNat)
     case atStart=>exact⟨0,by omega,rfl,Below.refl _ _⟩
     case round=>
      obtain⟨k,hk,rfl,hbw⟩:=hrel;have Hbw:=hI hbw;have hkw:IntKind.i64.wrap ((k:Int)+1)=(k:Int)+1:=IntWalk.i64_in _ (by omega);rcases Nat.lt_or_ge k N with hlt|hge
      ·obtain⟨b1,o1,s,rfl,hx1,c0⟩:=HiL5.out.at hbw hlt
       obtain⟨b2,o2,s2,rfl,hx2,c1'⟩:=HiR5.out.at hbw hlt;obtain rfl:s=s2:=Option.some.inj (hx1.symm.trans hx2);have hss:(s.toList==s.toList)=true:=by simp
       have hss2:(s.toList !=s.toList)=false:=by simp
       have hkn:(k:Int)<(N:Int):=by omega
       have hk0:(0:Int)≤(k:Int):=Int.natCast_nonneg _;have Hc0:=hI c0;have Hc1:=hI c1';have HcS:=hI (fun w' (hb:Below wr.heap.size wr w')=>And.intro ((hb.cell (p:=⟨b1,o1+k,none⟩) (World.block_lt_of_cell? _ _ Hc0.out)).trans Hc0.out) ((hb.cell (p:=⟨b2,o2+k,none⟩) (World.block_lt_of_cell? _ _ Hc1.out)).trans Hc1.out));clear hx1 hx2 hbw c0 c1';go_upto_region 11 with fail
       refine wp_region_held_drew (S:=(fun w'=>w'.cell? ⟨b1,o1+k,none⟩=some (.string s)∧w'.cell? ⟨b2,o2+k,none⟩=some (.string s))) (by kernel_rfl) (by exact HcS.out _ (bwD wr)) (fun hHeld=>?_)
       refine' tk 0 ?_;(try simp only[tkS]);refine' tk 1 ?_;(try simp only[tkS]);refine' tk 2 ?_;(try simp only[tkS]);refine' tk 3 ?_;(try simp only[tkS]);refine' tk 4 ?_;(try simp only[tkS]);refine' tk 5 ?_;(try simp only[tkS]);refine' tk 6 ?_;(try simp only[tkS]);refine' tk 7 ?_;(try simp only[tkS]);refine' tk 8 ?_;(try simp only[tkS]);refine tkD ?_ _
       go_wp2_with fail
       go_roundw
       case rel=>exact⟨k+1,by omega,by go_num,Hbw.out.via (bwD wr) Hbw.out.size⟩
       case measure=>simp[intOf]<;>omega
      ·obtain rfl:k=N:=by omega
       have hkn:¬(k:Int)<(k:Int):=by omega
       have Hb6:=hI (qaa Hb5.out Hbw.out);have HiS6:=hI (HiS5.out.mono Hbw.out);have HiR6:=hI (HiR5.out.mono Hbw.out);clear hbw
       go_wp2_with (first
        |(have _t:=Hb8;clear _t;go_at_call 21;refine(HCk.out _).mono ?_;rintro e w9 ⟨rfl,hb9⟩;have Hb9:=hI (qaa Hb8.out hb9);have HiR9:=hI (HiR8.out.mono hb9);clear hb9)
        |(have _t:=Hb7;clear _t;go_at_call 20;refine(HN.out _ _ (HiS7.out)).mono ?_;rintro e w8 ⟨rfl,hb8⟩;have Hb8:=hI (qaa Hb7.out hb8);have HiR8:=hI (HiR7.out.mono hb8);clear hb8)
        |(have _t:=Hb6;clear _t;go_at_call 18;refine(HP.out _ _ (HiS6.out) (HT.out.mono (Hb6.out))).mono ?_;rintro e w7 ⟨rfl,hb7⟩;have Hb7:=hI (qaa Hb6.out hb7);have HiS7:=hI (HiS6.out.mono hb7);have HiR7:=hI (HiR6.out.mono hb7);clear hb7))
       go_loopw [17] (fun i wr=>∃q:Nat,q≤k∧i=.int .i64 (q:Int)∧Below w9.heap.size w9 wr∧Hid (∀s∈E.take q,cqS s n≤0)) (fun i _=>k-(intOf i).toNat)
       case atStart=>exact⟨0,by omega,rfl,Below.refl _ _,fun s hs=>by cases hs⟩
       case round=>
        rename World=>wq
        obtain⟨q,hq,rfl,hbq,hpre⟩:=hrel;have Hbq:=hI hbq;have Hpre:=hI hpre.out;have hqw:IntKind.i64.wrap ((q:Int)+1)=(q:Int)+1:=IntWalk.i64_in _ (by omega);rcases Nat.lt_or_ge q k with hlt|hge
        ·obtain⟨b3,o3,s,rfl,hx,c0⟩:=HiR9.out.at hbq hlt
         have hqn:(q:Int)<(k:Int):=by omega
         have hq0:(0:Int)≤(q:Int):=Int.natCast_nonneg _;have Hc0:=hI c0;have HQs:=hI (fun w'=>HQ.out s (List.mem_of_getElem? hx) w');have Hx:=hI hx;have hss:(s.toList==s.toList)=true:=by simp
         clear hx hbq hpre
         by_cases hX:0<cqS s n
         ·have hf:=HFd.out q s Hx.out hX Hpre.out
          obtain⟨rfl,rfl⟩:=hf;generalize hXX:cqS s n=X at*;clear hXX
          go_wp2_with (go_at_call 22;refine(HQs.out _).mono ?_;rintro e wz ⟨rfl,hbz⟩;have c0:=(hbz.cell (p:=⟨b3,o3+q,none⟩) (World.block_lt_of_cell? _ _ Hc0.out)).trans Hc0.out;have Hbz:=hI hbz;clear hbz)
          go_ret
          exact⟨rfl,qaa (qaa Hb9.out Hbq.out) Hbz.out⟩
         ·have Hnx:=hI (show ∀s'∈E.take (q+1),cqS s' n≤0 from fun s' hs'=>by
           rw[qbn Hx.out]at hs';rcases List.mem_append.1 hs' with h|h
           ·exact Hpre.out s' h
           ·cases List.mem_singleton.1 h;omega)
          clear Hx Hpre;generalize hXX:cqS s n=X at*;clear hXX
          go_wp2_with (go_at_call 22;refine(HQs.out _).mono ?_;rintro e wz ⟨rfl,hbz⟩;have Hbz:=hI hbz;clear hbz)
          go_roundw
          case rel=>exact⟨q+1,by omega,by go_num,Hbq.out.via Hbz.out Hbq.out.size,Hnx.out⟩
          case measure=>simp[intOf]<;>omega
        ·obtain rfl:q=k:=by omega
         have hqn:¬(q:Int)<(q:Int):=by omega
         have hf:=HFn.out (by have:=Hpre.out;rwa [List.take_of_length_le (by rw[HEN.out];exact Nat.le_refl _)]at this);obtain⟨rfl,rfl⟩:=hf
         go_wp2_with fail
         go_ret
         exact⟨rfl,qaa Hb9.out Hbq.out⟩
   ·have HN:=hI (fun v' w' (h':Ivs w' v' (setL xs))=>qo6 v' (setL xs) n w' h' hJ.short hJ.err hl256 (Nat.le_trans hn (by decide)) hr)
    have hc0:(errL n.data.toList !=0)=true:=by rw[bne_iff_ne];exact hr
    have hcc:(errL n.data.toList==errL n.data.toList)=true:=by simp
    generalize errL n.data.toList=code at*;clear h hs hf hJ hJ8 hn hr hl8 hz;generalize xs.length=m at*;obtain⟨N,hN⟩:∃N,(qca ((setL xs).map Iv.cuts)).length=N:=⟨_,rfl⟩
    rw[hm2]at hEl hl256;rw[hN]at HE HRE hEl;clear hN;generalize qca ((setL xs).map Iv.cuts)=E at*;clear hpv;rw[hm2]at HS;generalize setL xs=A at*;clear hm2;have hNN:(((N:Nat):Int)!=(N:Int))=false:=by simp
    have hN5:N≤512:=by omega
    clear hEl hl256;cases B with
    |true=>
     have HRQ:=hI (HRP.out rfl);have hm3:=hB rfl;have hm4:(0:Int)<(m2:Int):=by omega
     have hpp:(pv.toList !=pv.toList)=false:=by simp
     clear hB hB0 HRP
     go_enter Tryz.func3,Tryz.ntmps3
     go_wp2_with (first
      |(have _t:=Hb4;clear _t;go_at_call 17;refine(HRE.out _ _ (HiS4.out)).mono ?_;rintro e w5 ⟨v5,rfl,⟨a5,c5,rfl,hi5⟩,hb5⟩;have Hb5:=hI (qaa Hb4.out hb5);have HiS5:=hI (HiS4.out.mono hb5);have HiL5:=hI (HiL4.out.mono hb5);have HiR5:=hI hi5;clear hb5 hi5)
      |(have _t:=Hb3;clear _t;go_at_call 16;refine(HE.out _ _ (HiS3.out)).mono ?_;rintro e w4 ⟨v4,rfl,⟨a4,c4,rfl,hi4⟩,hb4⟩;have Hb4:=hI (qaa Hb3.out hb4);have HiS4:=hI (HiS3.out.mono hb4);have HiL4:=hI hi4;clear hb4 hi4)
      |(have _t:=Hb2;clear _t;go_at_call 15;refine(HS.out _ (Hb2.out)).mono ?_;rintro e w3 ⟨v3,rfl,⟨a3,c3,rfl,hi3⟩,hb3⟩;have Hb3:=hI (qaa Hb2.out hb3);have HiS3:=hI hi3;clear hb3 hi3)
      |(have _t:=Hb1;clear _t;go_at_call 14;refine(HF.out _ (Hb1.out)).mono ?_;rintro e w2 ⟨rfl,hb2⟩;have Hb2:=hI (qaa Hb1.out hb2);clear hb2)
      |(go_at_call 13;refine(HK.out _ (HT.out.mono (Below.refl _ _))).mono ?_;rintro e w1 ⟨rfl,hb1⟩;have Hb1:=hI (hb1);clear hb1))
     go_loopw [9] (fun i wr=>∃k:Nat,k≤N∧i=.int .i64 (k:Int)∧Below w5.heap.size w5 wr) (fun i _=>N-(intOf i).toNat)
     case atStart=>exact⟨0,by omega,rfl,Below.refl _ _⟩
     case round=>
      obtain⟨k,hk,rfl,hbw⟩:=hrel;have Hbw:=hI hbw;have hkw:IntKind.i64.wrap ((k:Int)+1)=(k:Int)+1:=IntWalk.i64_in _ (by omega);rcases Nat.lt_or_ge k N with hlt|hge
      ·obtain⟨b1,o1,s,rfl,hx1,c0⟩:=HiL5.out.at hbw hlt
       obtain⟨b2,o2,s2,rfl,hx2,c1'⟩:=HiR5.out.at hbw hlt;obtain rfl:s=s2:=Option.some.inj (hx1.symm.trans hx2);have hss:(s.toList==s.toList)=true:=by simp
       have hss2:(s.toList !=s.toList)=false:=by simp
       have hkn:(k:Int)<(N:Int):=by omega
       have hk0:(0:Int)≤(k:Int):=Int.natCast_nonneg _;have Hc0:=hI c0;have Hc1:=hI c1';have HcS:=hI (fun w' (hb:Below wr.heap.size wr w')=>And.intro ((hb.cell (p:=⟨b1,o1+k,none⟩) (World.block_lt_of_cell? _ _ Hc0.out)).trans Hc0.out) ((hb.cell (p:=⟨b2,o2+k,none⟩) (World.block_lt_of_cell? _ _ Hc1.out)).trans Hc1.out));clear hx1 hx2 hbw c0 c1';go_upto_region 11 with fail
       refine wp_region_held_drew (S:=(fun w'=>w'.cell? ⟨b1,o1+k,none⟩=some (.string s)∧w'.cell? ⟨b2,o2+k,none⟩=some (.string s))) (by kernel_rfl) (by exact HcS.out _ (bwD wr)) (fun hHeld=>?_)
       refine' tk 0 ?_;(try simp only[tkS]);refine' tk 1 ?_;(try simp only[tkS]);refine' tk 2 ?_;(try simp only[tkS]);refine' tk 3 ?_;(try simp only[tkS]);refine' tk 4 ?_;(try simp only[tkS]);refine' tk 5 ?_;(try simp only[tkS]);refine' tk 6 ?_;(try simp only[tkS]);refine' tk 7 ?_;(try simp only[tkS]);refine' tk 8 ?_;(try simp only[tkS]);refine tkD ?_ _
       go_wp2_with fail
       go_roundw
       case rel=>exact⟨k+1,by omega,by go_num,Hbw.out.via (bwD wr) Hbw.out.size⟩
       case measure=>simp[intOf]<;>omega
      ·obtain rfl:k=N:=by omega
       have hkn:¬(k:Int)<(k:Int):=by omega
       have Hb6:=hI (qaa Hb5.out Hbw.out);have HiS6:=hI (HiS5.out.mono Hbw.out);have HiR6:=hI (HiR5.out.mono Hbw.out);clear hbw
       go_wp2_with (first
        |(have _t:=Hb9;clear _t;go_at_call 21;refine(HCk.out _).mono ?_;rintro e w10 ⟨rfl,hb10⟩;have Hb10:=hI (qaa Hb9.out hb10);clear hb10)
        |(have _t:=Hb8;clear _t;go_at_call 20;refine(HN.out _ _ (HiS8.out)).mono ?_;rintro e w9 ⟨rfl,hb9⟩;have Hb9:=hI (qaa Hb8.out hb9);clear hb9)
        |(have _t:=Hb7;clear _t;go_at_call 19;refine(HRQ.out _ _ (HiS7.out)).mono ?_;rintro e w8 ⟨rfl,hb8⟩;have Hb8:=hI (qaa Hb7.out hb8);have HiS8:=hI (HiS7.out.mono hb8);have HiR8:=hI (HiR7.out.mono hb8);clear hb8)
        |(have _t:=Hb6;clear _t;go_at_call 18;refine(HP.out _ _ (HiS6.out) (HT.out.mono (Hb6.out))).mono ?_;rintro e w7 ⟨rfl,hb7⟩;have Hb7:=hI (qaa Hb6.out hb7);have HiS7:=hI (HiS6.out.mono hb7);have HiR7:=hI (HiR6.out.mono hb7);clear hb7))
       go_ret
       exact⟨rfl,Hb10.out⟩
    |false=>
     obtain⟨rfl,rfl⟩:=hB0 rfl;clear hB hB0 HRP
     go_enter Tryz.func3,Tryz.ntmps3
     go_wp2_with (first
      |(have _t:=Hb4;clear _t;go_at_call 17;refine(HRE.out _ _ (HiS4.out)).mono ?_;rintro e w5 ⟨v5,rfl,⟨a5,c5,rfl,hi5⟩,hb5⟩;have Hb5:=hI (qaa Hb4.out hb5);have HiS5:=hI (HiS4.out.mono hb5);have HiL5:=hI (HiL4.out.mono hb5);have HiR5:=hI hi5;clear hb5 hi5)
      |(have _t:=Hb3;clear _t;go_at_call 16;refine(HE.out _ _ (HiS3.out)).mono ?_;rintro e w4 ⟨v4,rfl,⟨a4,c4,rfl,hi4⟩,hb4⟩;have Hb4:=hI (qaa Hb3.out hb4);have HiS4:=hI (HiS3.out.mono hb4);have HiL4:=hI hi4;clear hb4 hi4)
      |(have _t:=Hb2;clear _t;go_at_call 15;refine(HS.out _ (Hb2.out)).mono ?_;rintro e w3 ⟨v3,rfl,⟨a3,c3,rfl,hi3⟩,hb3⟩;have Hb3:=hI (qaa Hb2.out hb3);have HiS3:=hI hi3;clear hb3 hi3)
      |(have _t:=Hb1;clear _t;go_at_call 14;refine(HF.out _ (Hb1.out)).mono ?_;rintro e w2 ⟨rfl,hb2⟩;have Hb2:=hI (qaa Hb1.out hb2);clear hb2)
      |(go_at_call 13;refine(HK.out _ (HT.out.mono (Below.refl _ _))).mono ?_;rintro e w1 ⟨rfl,hb1⟩;have Hb1:=hI (hb1);clear hb1))
     go_loopw [9] (fun i wr=>∃k:Nat,k≤N∧i=.int .i64 (k:Int)∧Below w5.heap.size w5 wr) (fun i _=>N-(intOf i).toNat)
     case atStart=>exact⟨0,by omega,rfl,Below.refl _ _⟩
     case round=>
      obtain⟨k,hk,rfl,hbw⟩:=hrel;have Hbw:=hI hbw;have hkw:IntKind.i64.wrap ((k:Int)+1)=(k:Int)+1:=IntWalk.i64_in _ (by omega);rcases Nat.lt_or_ge k N with hlt|hge
      ·obtain⟨b1,o1,s,rfl,hx1,c0⟩:=HiL5.out.at hbw hlt
       obtain⟨b2,o2,s2,rfl,hx2,c1'⟩:=HiR5.out.at hbw hlt;obtain rfl:s=s2:=Option.some.inj (hx1.symm.trans hx2);have hss:(s.toList==s.toList)=true:=by simp
       have hss2:(s.toList !=s.toList)=false:=by simp
       have hkn:(k:Int)<(N:Int):=by omega
       have hk0:(0:Int)≤(k:Int):=Int.natCast_nonneg _;have Hc0:=hI c0;have Hc1:=hI c1';have HcS:=hI (fun w' (hb:Below wr.heap.size wr w')=>And.intro ((hb.cell (p:=⟨b1,o1+k,none⟩) (World.block_lt_of_cell? _ _ Hc0.out)).trans Hc0.out) ((hb.cell (p:=⟨b2,o2+k,none⟩) (World.block_lt_of_cell? _ _ Hc1.out)).trans Hc1.out));clear hx1 hx2 hbw c0 c1';go_upto_region 11 with fail
       refine wp_region_held_drew (S:=(fun w'=>w'.cell? ⟨b1,o1+k,none⟩=some (.string s)∧w'.cell? ⟨b2,o2+k,none⟩=some (.string s))) (by kernel_rfl) (by exact HcS.out _ (bwD wr)) (fun hHeld=>?_)
       refine' tk 0 ?_;(try simp only[tkS]);refine' tk 1 ?_;(try simp only[tkS]);refine' tk 2 ?_;(try simp only[tkS]);refine' tk 3 ?_;(try simp only[tkS]);refine' tk 4 ?_;(try simp only[tkS]);refine' tk 5 ?_;(try simp only[tkS]);refine' tk 6 ?_;(try simp only[tkS]);refine' tk 7 ?_;(try simp only[tkS]);refine' tk 8 ?_;(try simp only[tkS]);refine tkD ?_ _
       go_wp2_with fail
       go_roundw
       case rel=>exact⟨k+1,by omega,by go_num,Hbw.out.via (bwD wr) Hbw.out.size⟩
       case measure=>simp[intOf]<;>omega
      ·obtain rfl:k=N:=by omega
       have hkn:¬(k:Int)<(k:Int):=by omega
       have Hb6:=hI (qaa Hb5.out Hbw.out);have HiS6:=hI (HiS5.out.mono Hbw.out);have HiR6:=hI (HiR5.out.mono Hbw.out);clear hbw
       go_wp2_with (first
        |(have _t:=Hb8;clear _t;go_at_call 21;refine(HCk.out _).mono ?_;rintro e w9 ⟨rfl,hb9⟩;have Hb9:=hI (qaa Hb8.out hb9);clear hb9)
        |(have _t:=Hb7;clear _t;go_at_call 20;refine(HN.out _ _ (HiS7.out)).mono ?_;rintro e w8 ⟨rfl,hb8⟩;have Hb8:=hI (qaa Hb7.out hb8);clear hb8)
        |(have _t:=Hb6;clear _t;go_at_call 18;refine(HP.out _ _ (HiS6.out) (HT.out.mono (Hb6.out))).mono ?_;rintro e w7 ⟨rfl,hb7⟩;have Hb7:=hI (qaa Hb6.out hb7);have HiS7:=hI (HiS6.out.mono hb7);have HiR7:=hI (HiR6.out.mono hb7);clear hb7))
       go_ret
       exact⟨rfl,Hb9.out⟩
end Go.Proofs.YtacihodamichhaaGreatDoor
