/- Parts of the proof. -/
import Derived.Test.YtacihodamichhaaGreatDoorL11
namespace Go.Proofs.YtacihodamichhaaGreatDoor
open Go.RowKit
set_option maxHeartbeats 4000000
theorem ES:ElemTy 164 9 1 16:=⟨Tryz.underlying164,by kernel_rfl⟩
theorem qkz(a:Option Addr)(c:Nat)(w:World):Calls Tryz.prog 150 #[.slice a 1 c] w (fun e w'=>e=.returned (.tuple #[])∧Below w.heap.size w w'):=by
 go_enter Tryz.func150,Tryz.ntmps150
 go_wp2_with fail
 go_loopw [2,3] (fun i j wr=>i=.int .i64 0∧j=.int .i64 0∧wr=w) (fun _ _ _=>0)
 case atStart=>exact⟨rfl,rfl,rfl⟩
 case round=>
  obtain⟨rfl,rfl,rfl⟩:=hrel
  go_wp2_with fail
  go_end0
  exact⟨rfl,Below.refl _ _⟩
def qcv(z:Int):List UInt8:=if z<0 then 45::Lib.decDigits z.natAbs else Lib.decDigits z.natAbs
theorem qph(c:UInt8)(l:List UInt8):(⟨#[c]⟩:ByteArray)++⟨l.toArray⟩=⟨(c::l).toArray⟩:=by
 apply qe5
 simp[ByteArray.toList_eq]
theorem qmx(v:Value)(z:Int)(w:World)(h:IntV w v z)(hz:z.natAbs<100)(h0:z≠0):Calls Tryz.prog 114 #[v] w (Ret (.string ⟨(qcv z).toArray⟩) w):=by
 obtain⟨a,c,rfl,h⟩:=h;have hl1:(limbs z.natAbs).length=1:=qam (by omega) (by omega);obtain⟨M,hM⟩:∃M,z.natAbs=M:=⟨_,rfl⟩
 have hB:=Blk.new w #[.bool (decide (z<0)),.slice a (limbs z.natAbs).length c] 75;rw[hM]at h hl1 hB⊢;have HS:=hI (fun w' (hb:Below (w.alloc (.cells #[.bool (decide (z<0)),.slice a (limbs M).length c] 75)).heap.size (w.alloc (.cells #[.bool (decide (z<0)),.slice a (limbs M).length c] 75)) w')=>(qak (hB.below hb)).1);have H1:=hI (fun w' (hb:Below w.heap.size w w')=>qiq a _ c (limbs M) 1000000000 w' (h.mono hb) (qal M) (by rw[hl1];decide) (by decide) (by decide));have e1:natL (limbs M)%1000000000=M:=by rw[qah];omega
 have e2:natL (limbs M)/1000000000=0:=by rw[qah];omega
 rw[e1,e2]at H1;have H2:=hI (fun w'=>Tryz.strconv_Itoa_small M (by omega) w');have ht:qcv z=if decide (z<0)=true then 45::Lib.decDigits M else Lib.decDigits M:=by unfold qcv;rw[hM];simp
 rw[ht];rw[hl1]at HS H1 hB h⊢;have HK:=hI (qac w (.cells #[.bool (decide (z<0)),.slice a 1 c] 75));generalize decide (z<0)=sg at*;generalize hD:(⟨(Lib.decDigits M).toArray⟩:ByteArray)=D at*;have HD:=hI hD
 have hL:D.data.toList.length≤20:=by
  rw[←hD]
  have:∀M<100,(Lib.decDigits M).length≤20:=by
   intro M hM;rw[Lib.decDigits]
   split
   ·simp
   ·rw[Lib.decDigits,dif_pos (by omega)];simp
  exact this M (by omega)
 have HL:=hI hL;have hcat:¬9223372036854775807<1+D.size:=by rw[Lib.size_eq];omega
 clear hL;have hm0:IntKind.i64.wrap (M:Int)=M:=IntWalk.i64_in _ (by omega);clear h hB hl1 hM e1 e2 ht hz h0 hD;cases sg
 ·have HN:=hI (fun W:World=>World.ownsRow_nil W (w.alloc (.cells #[.bool false,.slice a 1 c] 75)).heap.size 9 1)
  go_enter Tryz.func114,Tryz.ntmps114
  go_wp2_with fail
  go_loopw [4,3] (fun m g wr=>Below (w.alloc (.cells #[.bool false,.slice a 1 c] 75)).heap.size (w.alloc (.cells #[.bool false,.slice a 1 c] 75)) wr∧((m=.slice a 1 c∧g=.slice none 0 0)∨(∃b cc,m=.slice b 0 cc∧wr.ownsRow (w.alloc (.cells #[.bool false,.slice a 1 c] 75)).heap.size 9 1 g 1 [.string D]))) (fun m _ _=>match m with|.slice _ k _=>k|_=>0)
  case atStart=>exact⟨Below.refl _ _,.inl ⟨rfl,rfl⟩⟩
  case round=>
   obtain⟨hbw,⟨rfl,rfl⟩|⟨b,cc,rfl,hown⟩⟩:=hrel
   ·have Hbw:=hI hbw
    clear hbw
    go_wp2_with (first
     |(go_at_call 147;refine(H1.out _ (HK.out.via Hbw.out HK.out.size)).mono ?_;rintro e w1 ⟨v1,rfl,⟨a1,c1',rfl,-⟩,hb1⟩;have Hb1:=hI (qaa Hbw.out hb1);clear hb1;rw[show(limbs 0).length=0 by rw[qag];rfl])
     |(go_at_call 148;refine(H2.out _).mono ?_;rintro e w2 ⟨rfl,rfl⟩)
     |(at_builtin;refine qc9 ES (by decide) [.string D] rfl _ _ rfl (w.alloc (.cells #[.bool false,.slice a 1 c] 75)).heap.size _ _ _ rfl rfl (HN.out _) rfl (one1 _ rfl) (by omega) (by decide) Hb1.out.size ?_;intro v' w1 hown' hg';have hbw3:=qau Hb1.out (HN.out _) hg' Hb1.out.size))
    go_roundw
    case rel=>exact⟨hbw3,.inr ⟨_,_,rfl,hown'⟩⟩
    case measure=>simp
   ·obtain⟨ga,gc,rfl,hc1,-⟩:=qan hown
    obtain⟨gb,rfl⟩:=qbc hown (by decide)
    have HJ:=hI (fun w' (hb:Below wr.heap.size wr w')=>Tryz.strings_Join gb 0 gc [D] ⟨#[]⟩ w' (fun j x hx=>by
     obtain⟨b',off,y,ha,hy,c0⟩:=Sl.at1 (Sl.own1 hown) hb (show 0<1 by decide);cases ha
     cases hy
     rcases j with _|j
     ·cases hx;exact c0
     ·simp at hx) (Nat.lt_of_lt_of_le (hown.lt gb rfl).2 hb.size) (by simp) (by simpa using hc1) (by simp[Lib.join_one];have:D.data.toList.length≤20:=HL.out;simpa using Nat.le_trans this (by decide)))
    have hj:(⟨(Lib.join ([D].map (·.data.toList)) (⟨#[]⟩:ByteArray).data.toList).toArray⟩:ByteArray)=D:=by simp[Lib.join_one]
    rw[hj]at HJ;have Hbw:=hI hbw;have HC:=hI (HS.out _ hbw);clear hown hbw hc1 hj
    go_wp2_with (first
     |(go_at_call 150;refine(qkz _ _ _).mono ?_;rintro e w3 ⟨rfl,hb3⟩;have Hb3:=hI hb3;clear hb3)
     |(go_at_call 151;refine(HJ.out _ Hb3.out).mono ?_;rintro e w4 ⟨rfl,hb4⟩;have Hb34:=hI (qaa Hb3.out hb4);obtain⟨s0,s1⟩:=HS.out _ (qaa Hbw.out Hb34.out);clear hb4))
    go_ret
    exact⟨by rw[←HD.out];simp,HK.out.via (qaa Hbw.out Hb34.out) HK.out.size⟩
 ·have HN:=hI (fun W:World=>World.ownsRow_nil W (w.alloc (.cells #[.bool true,.slice a 1 c] 75)).heap.size 9 1)
  go_enter Tryz.func114,Tryz.ntmps114
  go_wp2_with fail
  go_loopw [4,3] (fun m g wr=>Below (w.alloc (.cells #[.bool true,.slice a 1 c] 75)).heap.size (w.alloc (.cells #[.bool true,.slice a 1 c] 75)) wr∧((m=.slice a 1 c∧g=.slice none 0 0)∨(∃b cc,m=.slice b 0 cc∧wr.ownsRow (w.alloc (.cells #[.bool true,.slice a 1 c] 75)).heap.size 9 1 g 1 [.string D]))) (fun m _ _=>match m with|.slice _ k _=>k|_=>0)
  case atStart=>exact⟨Below.refl _ _,.inl ⟨rfl,rfl⟩⟩
  case round=>
   obtain⟨hbw,⟨rfl,rfl⟩|⟨b,cc,rfl,hown⟩⟩:=hrel
   ·have Hbw:=hI hbw
    clear hbw
    go_wp2_with (first
     |(go_at_call 147;refine(H1.out _ (HK.out.via Hbw.out HK.out.size)).mono ?_;rintro e w1 ⟨v1,rfl,⟨a1,c1',rfl,-⟩,hb1⟩;have Hb1:=hI (qaa Hbw.out hb1);clear hb1;rw[show(limbs 0).length=0 by rw[qag];rfl])
     |(go_at_call 148;refine(H2.out _).mono ?_;rintro e w2 ⟨rfl,rfl⟩)
     |(at_builtin;refine qc9 ES (by decide) [.string D] rfl _ _ rfl (w.alloc (.cells #[.bool true,.slice a 1 c] 75)).heap.size _ _ _ rfl rfl (HN.out _) rfl (one1 _ rfl) (by omega) (by decide) Hb1.out.size ?_;intro v' w1 hown' hg';have hbw3:=qau Hb1.out (HN.out _) hg' Hb1.out.size))
    go_roundw
    case rel=>exact⟨hbw3,.inr ⟨_,_,rfl,hown'⟩⟩
    case measure=>simp
   ·obtain⟨ga,gc,rfl,hc1,-⟩:=qan hown
    obtain⟨gb,rfl⟩:=qbc hown (by decide)
    have HJ:=hI (fun w' (hb:Below wr.heap.size wr w')=>Tryz.strings_Join gb 0 gc [D] ⟨#[]⟩ w' (fun j x hx=>by
     obtain⟨b',off,y,ha,hy,c0⟩:=Sl.at1 (Sl.own1 hown) hb (show 0<1 by decide);cases ha
     cases hy
     rcases j with _|j
     ·cases hx;exact c0
     ·simp at hx) (Nat.lt_of_lt_of_le (hown.lt gb rfl).2 hb.size) (by simp) (by simpa using hc1) (by simp[Lib.join_one];have:D.data.toList.length≤20:=HL.out;simpa using Nat.le_trans this (by decide)))
    have hj:(⟨(Lib.join ([D].map (·.data.toList)) (⟨#[]⟩:ByteArray).data.toList).toArray⟩:ByteArray)=D:=by simp[Lib.join_one]
    rw[hj]at HJ;have Hbw:=hI hbw;have HC:=hI (HS.out _ hbw);clear hown hbw hc1 hj
    go_wp2_with (first
     |(go_at_call 150;refine(qkz _ _ _).mono ?_;rintro e w3 ⟨rfl,hb3⟩;have Hb3:=hI hb3;clear hb3)
     |(go_at_call 151;refine(HJ.out _ Hb3.out).mono ?_;rintro e w4 ⟨rfl,hb4⟩;have Hb34:=hI (qaa Hb3.out hb4);obtain⟨s0,s1⟩:=HS.out _ (qaa Hbw.out Hb34.out);clear hb4))
    go_ret
    exact⟨by rw[←HD.out];simp[qph],HK.out.via (qaa Hbw.out Hb34.out) HK.out.size⟩
theorem qqb(v:Value)(p:Int)(w:World)(h:RatV w v p 0)(hz:p.natAbs<100)(h0:p≠0):Calls Tryz.prog 61 #[v] w (Ret (.string ⟨(qcv p).toArray⟩) w):=by
 obtain⟨x,a,n,c,x',a',n',c',rfl,h⟩:=h.open;have hB:=Blk.new w #[.bool x,.slice a n c,.bool x',.slice a' n' c'] 77;have HS:=hI (fun w' (hb:Below (w.alloc (.cells #[.bool x,.slice a n c,.bool x',.slice a' n' c'] 77)).heap.size (w.alloc (.cells #[.bool x,.slice a n c,.bool x',.slice a' n' c'] 77)) w')=>qcm hB hb);have HK:=hI (qac w (.cells #[.bool x,.slice a n c,.bool x',.slice a' n' c'] 77));have H1:=hI (fun w' (hb:Below w.heap.size w w')=>(qd1 _ p w' (h.mono hb)).mono fun _ _ h=>h.ret);have H2:=hI (fun w' (hb:Below w.heap.size w w')=>qmx _ p w' (h.parts.1.mono hb) hz h0);generalize(⟨(qcv p).toArray⟩:ByteArray)=D at*;clear h hB hz h0
 go_enter Tryz.func61,Tryz.ntmps61
 go_wp2_with (first
  |(go_at_call 109;refine(H1.out _ HK.out).mono ?_;rintro e1 w1 ⟨rfl,hb1⟩;obtain⟨c0,c1,c2,c3⟩:=HS.out _ hb1)
  |(go_at_call 114;refine(H2.out _ (HK.out.via hb1 HK.out.size)).mono ?_;rintro e2 w2 ⟨rfl,hb2⟩))
 go_ret
 exact⟨rfl,HK.out.via (qaa hb1 hb2) HK.out.size⟩
theorem qin(z:Int)(h:z.natAbs<100):(qcv z).length≤20:=by
 have:∀M<100,(Lib.decDigits M).length≤2:=by
  intro M hM;rw[Lib.decDigits]
  split
  ·simp
  ·rw[Lib.decDigits,dif_pos (by omega)];simp
 have:=this _ h;unfold qcv
 split<;>simp<;>omega
theorem qqc(v:Value)(p q:Int)(w:World)(h:RatV w v p q)(hz:p.natAbs<100)(h0:p≠0)(hq:q.natAbs<100)(hq1:1<q):Calls Tryz.prog 61 #[v] w (Ret (.string (⟨(qcv p).toArray⟩++⟨#[47]⟩++⟨(qcv q).toArray⟩)) w):=by
 obtain⟨x,a,n,c,x',a',n',c',rfl,h⟩:=h.open;have hB:=Blk.new w #[.bool x,.slice a n c,.bool x',.slice a' n' c'] 77;have HS:=hI (fun w' (hb:Below (w.alloc (.cells #[.bool x,.slice a n c,.bool x',.slice a' n' c'] 77)).heap.size (w.alloc (.cells #[.bool x,.slice a n c,.bool x',.slice a' n' c'] 77)) w')=>qcm hB hb);have HK:=hI (qac w (.cells #[.bool x,.slice a n c,.bool x',.slice a' n' c'] 77));have H1:=hI (fun w' (hb:Below w.heap.size w w')=>qhl _ p q w' (h.mono hb) (by omega));rw[decide_eq_false (show ¬q=1 by omega)]at H1;have H2:=hI (fun w' (hb:Below w.heap.size w w')=>qmx _ p w' (h.parts.1.mono hb) hz h0);have H3:=hI (fun w' (hb:Below w.heap.size w w')=>qmx _ q w' (h.parts.2.mono hb) hq (by omega));have hs1:(⟨(qcv p).toArray⟩:ByteArray).size≤20:=by rw[Lib.size_eq];exact qin p hz
 have hs2:(⟨(qcv q).toArray⟩:ByteArray).size≤20:=by rw[Lib.size_eq];exact qin q hq
 generalize(⟨(qcv p).toArray⟩:ByteArray)=D at*;generalize(⟨(qcv q).toArray⟩:ByteArray)=E at*;have hcat:¬9223372036854775807<D.size+1:=by omega
 have hcat2:¬9223372036854775807<D.size+1+E.size:=by omega
 clear h hB hz h0 hq hq1 hs1 hs2
 go_enter Tryz.func61,Tryz.ntmps61
 go_wp2_with (go_at_call 109;refine(H1.out _ HK.out).mono ?_;rintro e1 w1 ⟨rfl,hb1⟩;have Hb1:=hI hb1;clear hb1)
 refine wp_region_held_drew (S:=(fun w'=>w'.cell? ⟨w.heap.size,0,none⟩=some (.bool x)∧w'.cell? ⟨w.heap.size,1,none⟩=some (.slice a n c)∧w'.cell? ⟨w.heap.size,2,none⟩=some (.bool x')∧w'.cell? ⟨w.heap.size,3,none⟩=some (.slice a' n' c'))) (by kernel_rfl) (by exact HS.out _ (qaa Hb1.out ((Below.refl _ _).dn 1))) (fun hHeld=>?_)
 refine wpAnyH_take (i:=0) (v:=?v1) rfl (by kernel_rfl) (by kernel_rfl) (by kernel_rfl) (fun _ _ _ h=>h) (Or.inl ⟨by rfl,?hy1⟩) (by assumption) ?rest1
 case hy1=>(intro w hSw;(try dsimp only at hSw);go_simp;try(with_reducible rfl))
 try simp only[Act.put,List.getElem_toArray,List.getElem_cons_zero,List.setIfInBounds_toArray,List.set_cons_zero,List.set_cons_succ]
 refine' tk 1 ?_;(try simp only[tkS]);refine' tk 4 ?_;(try simp only[tkS]);refine' tk 5 ?_;(try simp only[tkS]);refine tk1 2 (fun K hK=>?_)
 go_simp;go_at_call 114;refine(H2.out _ (HK.out.via (qaa Hb1.out ((Below.refl _ _).dn 1)) HK.out.size)).mono ?_
 rintro e5 w2 ⟨rfl,hb2⟩;have Hb2:=hI (qaa ((Below.refl _ _).dn 1) hb2);clear hb2;refine hK.out _ _ (by exact HS.out _ (qaa Hb1.out (Hb2.out))) (fun hHeld=>?_)
 clear hK K;(try simp only[tkS]);refine' tk 3 ?_;(try simp only[tkS]);refine tk1 6 (fun K hK=>?_)
 go_simp;go_at_call 114;refine(H3.out _ (HK.out.via (qaa Hb1.out (Hb2.out)) HK.out.size)).mono ?_
 rintro e5 w6 ⟨rfl,hb6⟩;have Hb6:=hI (qaa (Hb2.out) hb6);clear hb6;refine hK.out _ _ (by exact HS.out _ (qaa Hb1.out (Hb6.out))) (fun hHeld=>?_)
 clear hK K;(try simp only[tkS]);refine' tk 7 ?_;(try simp only[tkS]);refine' tk 8 ?_;(try simp only[tkS]);refine tkD ?_ _
 go_wp2_with fail
 go_ret
 exact⟨rfl,HK.out.via (qaa Hb1.out Hb6.out) HK.out.size⟩
end Go.Proofs.YtacihodamichhaaGreatDoor
