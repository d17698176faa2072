/- Parts of the proof. -/
import Derived.Test.YtacihodamichhaaGreatDoorU03
set_option maxHeartbeats 8000000
namespace Go.Proofs.YtacihodamichhaaGreatDoor
open Go.RowKit
theorem qqr{N A C D bo:Nat}(h:A+N*bo=D+C)(hD:D<N)(hle:C≤A)(hb:bo≤1):D=A-C:=by
 rcases bo with _|bo
 ·rw[Nat.mul_zero]at h;omega
 ·obtain rfl:bo=0:=by omega
  rw[Nat.zero_add,Nat.mul_one]at h;omega
theorem qki(a b:Option Addr)(n m c c':Nat)(l l':List Nat)(w:World)(hL:Ls w (.slice a n c) l)(hM:Ls w (.slice b m c') l')(hd:Dg l)(hd':Dg l')(hn1:l.length<1000000)(hm1:l'.length≤l.length)(hle:natL l'≤natL l):
  Calls Tryz.prog 144 #[.slice a n c,.slice b m c'] w (RetP (fun v w'=>RawV w' v (natL l-natL l') l.length) w):=by
 obtain⟨_,_,hq,hc1,hc2⟩:=hL.open;cases hq
 obtain⟨_,_,hq,hc3,hc4⟩:=hM.open;cases hq
 unfold maxLen at hc2 hc4;have hi:(Tryz.prog.info? 62).map (fun i=>(i.zero,i.size,i.bytes))=some (some (.int .u32 0),1,4):=by kernel_rfl
 obtain⟨i4,hi4,hz0,hz1,hz2⟩:=info_parts hi;clear hi;have HL:=hI hL;have HM:=hI hM;have Hd:=hI hd;have Hd':=hI hd';have Hle:=hI hle;clear hL hM hd hd' hle;generalize hn:l.length=n at*;generalize hm:l'.length=m at*;have Hn:=hI hn;have Hm:=hI hm;clear hn hm
 go_enter Tryz.func144,Tryz.ntmps144
 go_wp2_with (at_make;refine wpList_make_full _ rfl _ _ 73 rfl (w.heap.size) 62 i4 (.int .u32 0) 1 Tryz.underlying73 hi4 hz0 hz1 .i64 .i64 _ _ n rfl rfl (by omega) (by omega) (by rw[hz2];omega) (by unfold maxLen;omega) (by simp) ?_;intro w1 hown hg)
 have hO:=Out.made hown;have hb1:Below w.heap.size w w1:=(Below.refl _ _).grown hg (Nat.le_refl _) (fun b hb=>by cases hb);clear hown hg hi4 hz0 hz1 hz2
 go_loopw [6,7,8,9,15] (fun bv _ _ _ i wr=>∃(k bo:Nat) (done:List Nat),k≤n∧i=.int .i64 k∧bv=.int .i64 (bo:Int)∧bo≤1∧Below w.heap.size w wr∧Out w.heap.size wr w.heap.size (done++List.replicate (n-k) 0)∧Hid (done.length=k∧Dg done∧natL (l.take k)+4294967296^k*bo=natL done+natL (l'.take k))) (fun _ _ _ _ i _=>n-(intOf i).toNat)
 case atStart=>exact⟨0,0,[],Nat.zero_le _,rfl,rfl,by decide,hb1,hO,rfl,(fun d hd=>by simp at hd),by simp[natL]⟩
 case round=>
  clear hO hb1;obtain⟨k,bo,done,hk,rfl,rfl,hbo,hbw,hO,hpre⟩:=hrel
  by_cases hlt:k<n
  ·obtain⟨b1,off,d,rfl,hdk,c0⟩:=HL.out.at hbw hlt
   have Hdk:=hI hdk;have hdlt:=Hd.out d (List.mem_of_getElem? hdk);have hO2:=hO;rw[show n-k=(n-(k+1))+1 by omega]at hO2;obtain⟨g0,g1⟩:=hO2.next;rw[hpre.out.1]at g0 g1;have hkk0:(0:Int)≤(k:Int):=Int.natCast_nonneg _;have hkk1:(k:Int)<(n:Int):=by omega
   clear hdk
   by_cases hkm:k<m
   ·obtain⟨b2,off2,e,rfl,hek,d0⟩:=HM.out.at hbw hkm
    have Hek:=hI hek;have helt:=Hd'.out e (List.mem_of_getElem? hek);have hkk2:(k:Int)<(m:Int):=by omega
    have Htk:=hI (show natL (l'.take (k+1))=natL (l'.take k)+4294967296^k*e from qaj Hek.out);clear hek
    by_cases hX0:((d:Int)-(bo:Int)-(e:Int))<0
    ·have hng:((d:Int)-(bo:Int)-(e:Int))<0:=by omega
     obtain⟨y,hy⟩:∃y:Nat,((d:Int)-(bo:Int)-(e:Int))+4294967296=(y:Int):=⟨(((d:Int)-(bo:Int)-(e:Int))+4294967296).toNat,by omega⟩
     have Hy:=hI hy;have hylt:y<4294967296:=by omega
     have hmod:((d:Int)-(bo:Int)-(e:Int))%4294967296=(y:Int):=by omega
     have Hst:=hI (qb3 (done:=done) (i:=k) (d:=d) (y:=e) (x:=y) (bo:=bo) (bo':=1) hpre.out.1 hpre.out.2.2 (by have:=Hy.out;omega));have hwr:=hO2.write y;rw[hpre.out.1]at hwr;have Hwr:=hI hwr;have Hbw:=hI (hbw.setCell (p:=⟨w.heap.size,k,none⟩) (Nat.le_refl _) (.int .u32 (y:Int)));clear hO2 hwr hO hy
     go_wp2_with fail
     go_roundw
     case rel=>
      refine⟨k+1,1,done++[y],by omega,by go_num,by rfl,by decide,Hbw.out,Hwr.out,by rw[List.length_append,hpre.out.1];rfl,hpre.out.2.1.append (Dg.one hylt),?_⟩
      rw[qaj Hdk.out,Htk.out];exact Hst.out
     case measure=>simp[intOf];omega
    ·have hng:¬((d:Int)-(bo:Int)-(e:Int))<0:=by omega
     obtain⟨y,hy⟩:∃y:Nat,((d:Int)-(bo:Int)-(e:Int))+0=(y:Int):=⟨(((d:Int)-(bo:Int)-(e:Int))+0).toNat,by omega⟩
     have Hy:=hI hy;have hylt:y<4294967296:=by omega
     have hmod:((d:Int)-(bo:Int)-(e:Int))=(y:Int):=by omega
     have Hst:=hI (qb3 (done:=done) (i:=k) (d:=d) (y:=e) (x:=y) (bo:=bo) (bo':=0) hpre.out.1 hpre.out.2.2 (by have:=Hy.out;omega));have hwr:=hO2.write y;rw[hpre.out.1]at hwr;have Hwr:=hI hwr;have Hbw:=hI (hbw.setCell (p:=⟨w.heap.size,k,none⟩) (Nat.le_refl _) (.int .u32 (y:Int)));clear hO2 hwr hO hy
     go_wp2_with fail
     go_roundw
     case rel=>
      refine⟨k+1,0,done++[y],by omega,by go_num,by rfl,by decide,Hbw.out,Hwr.out,by rw[List.length_append,hpre.out.1];rfl,hpre.out.2.1.append (Dg.one hylt),?_⟩
      rw[qaj Hdk.out,Htk.out];exact Hst.out
     case measure=>simp[intOf];omega
   ·have hkk2:¬(k:Int)<(m:Int):=by omega
    have Htk:=hI (show natL (l'.take (k+1))=natL (l'.take k)+4294967296^k*0 by rw[List.take_of_length_le (l:=l') (by rw[Hm.out];omega),List.take_of_length_le (l:=l') (by rw[Hm.out];omega)];simp)
    by_cases hX0:((d:Int)-(bo:Int))<0
    ·have hng:((d:Int)-(bo:Int))<0:=by omega
     obtain⟨y,hy⟩:∃y:Nat,((d:Int)-(bo:Int))+4294967296=(y:Int):=⟨(((d:Int)-(bo:Int))+4294967296).toNat,by omega⟩
     have Hy:=hI hy;have hylt:y<4294967296:=by omega
     have hmod:((d:Int)-(bo:Int))%4294967296=(y:Int):=by omega
     have Hst:=hI (qb3 (done:=done) (i:=k) (d:=d) (y:=0) (x:=y) (bo:=bo) (bo':=1) hpre.out.1 hpre.out.2.2 (by have:=Hy.out;omega));have hwr:=hO2.write y;rw[hpre.out.1]at hwr;have Hwr:=hI hwr;have Hbw:=hI (hbw.setCell (p:=⟨w.heap.size,k,none⟩) (Nat.le_refl _) (.int .u32 (y:Int)));clear hO2 hwr hO hy
     go_wp2_with fail
     go_roundw
     case rel=>
      refine⟨k+1,1,done++[y],by omega,by go_num,by rfl,by decide,Hbw.out,Hwr.out,by rw[List.length_append,hpre.out.1];rfl,hpre.out.2.1.append (Dg.one hylt),?_⟩
      rw[qaj Hdk.out,Htk.out];exact Hst.out
     case measure=>simp[intOf];omega
    ·have hng:¬((d:Int)-(bo:Int))<0:=by omega
     obtain⟨y,hy⟩:∃y:Nat,((d:Int)-(bo:Int))+0=(y:Int):=⟨(((d:Int)-(bo:Int))+0).toNat,by omega⟩
     have Hy:=hI hy;have hylt:y<4294967296:=by omega
     have hmod:((d:Int)-(bo:Int))=(y:Int):=by omega
     have Hst:=hI (qb3 (done:=done) (i:=k) (d:=d) (y:=0) (x:=y) (bo:=bo) (bo':=0) hpre.out.1 hpre.out.2.2 (by have:=Hy.out;omega));have hwr:=hO2.write y;rw[hpre.out.1]at hwr;have Hwr:=hI hwr;have Hbw:=hI (hbw.setCell (p:=⟨w.heap.size,k,none⟩) (Nat.le_refl _) (.int .u32 (y:Int)));clear hO2 hwr hO hy
     go_wp2_with fail
     go_roundw
     case rel=>
      refine⟨k+1,0,done++[y],by omega,by go_num,by rfl,by decide,Hbw.out,Hwr.out,by rw[List.length_append,hpre.out.1];rfl,hpre.out.2.1.append (Dg.one hylt),?_⟩
      rw[qaj Hdk.out,Htk.out];exact Hst.out
     case measure=>simp[intOf];omega
  ·obtain rfl:k=n:=by omega
   rw[Nat.sub_self,List.replicate_zero,List.append_nil]at hO;have hls:=hO.ls;have Hls:=hI hls
   have hnat:natL done=natL l-natL l':=by
    have h:=hpre.out.2.2;rw[List.take_of_length_le (l:=l) (by rw[Hn.out];omega),List.take_of_length_le (l:=l') (by rw[Hm.out];omega)]at h;have hlt:=qa7 hpre.out.2.1;rw[hpre.out.1]at hlt;exact qqr h hlt Hle.out hbo
   have Hnat:=hI hnat;clear hO hls hnat
   go_wp2_with fail
   go_ret
   exact⟨_,by rw[←hpre.out.1];rfl,⟨done,_,_,rfl,Hls.out,hpre.out.2.1,Hnat.out,by rw[hpre.out.1];exact Nat.le_refl _⟩,hbw⟩
theorem qag{w:World}{b:Nat}{x y:Value}{T:TypeId}(h:Blk w b #[x,y] T):(w.cell? ⟨b,0,none⟩=some x∧w.cell? ⟨b,1,none⟩=some y)∧w.frozen? ⟨b,0,none⟩=false∧w.frozen? ⟨b,1,none⟩=false:=
 ⟨⟨h.cell 0,h.cell 1⟩,h.free 0,h.free 1⟩
theorem qfh{a b:Nat}(h:b≤a):0≤cmpN a b:=by unfold cmpN;split<;>first|omega|(split<;>omega)
theorem qh1{a b:Nat}(h:a<b):¬0≤cmpN a b:=by unfold cmpN;rw[if_pos h];decide
set_option maxRecDepth 100000 in
theorem qjy(u v:Value)(y z:Int)(w:World)(h:IntV w u y)(h':IntV w v z)(hl1:(limbs y.natAbs).length<1000000)(hl2:(limbs z.natAbs).length<1000000):
  Calls Tryz.prog 110 #[u,v] w (RetP (fun r w'=>IntV w' r (y+z)) w):=by
 obtain⟨a,c,rfl,hl⟩:=h;obtain⟨a',c',rfl,hl'⟩:=h';have hK:=qes w (.cells #[.bool (decide (y<0)),.slice a (limbs y.natAbs).length c] 75) (.cells #[.bool (decide (z<0)),.slice a' (limbs z.natAbs).length c'] 75) (.cells #[.bool false,.slice none 0 0] 75);have hA:Blk (((w.alloc (.cells #[.bool (decide (y<0)),.slice a (limbs y.natAbs).length c] 75)).alloc (.cells #[.bool (decide (z<0)),.slice a' (limbs z.natAbs).length c'] 75)).alloc (.cells #[.bool false,.slice none 0 0] 75)) w.heap.size #[.bool (decide (y<0)),.slice a (limbs y.natAbs).length c] 75:=((Blk.new w _ _).old _).old _
 have hB:Blk (((w.alloc (.cells #[.bool (decide (y<0)),.slice a (limbs y.natAbs).length c] 75)).alloc (.cells #[.bool (decide (z<0)),.slice a' (limbs z.natAbs).length c'] 75)).alloc (.cells #[.bool false,.slice none 0 0] 75)) (w.heap.size+1) #[.bool (decide (z<0)),.slice a' (limbs z.natAbs).length c'] 75:=by
  have h:=(Blk.new (w.alloc (.cells #[.bool (decide (y<0)),.slice a (limbs y.natAbs).length c] 75)) #[.bool (decide (z<0)),.slice a' (limbs z.natAbs).length c'] 75).old (.cells #[.bool false,.slice none 0 0] 75)
  simpa using h
 have hR:Blk (((w.alloc (.cells #[.bool (decide (y<0)),.slice a (limbs y.natAbs).length c] 75)).alloc (.cells #[.bool (decide (z<0)),.slice a' (limbs z.natAbs).length c'] 75)).alloc (.cells #[.bool false,.slice none 0 0] 75)) (w.heap.size+1+1) #[.bool false,.slice none 0 0] 75:=by
  have h:=Blk.new ((w.alloc (.cells #[.bool (decide (y<0)),.slice a (limbs y.natAbs).length c] 75)).alloc (.cells #[.bool (decide (z<0)),.slice a' (limbs z.natAbs).length c'] 75)) #[.bool false,.slice none 0 0] 75
  simpa using h
 have HL:=hI (fun w' (h:Below w.heap.size w w')=>hl.mono h);have HL':=hI (fun w' (h:Below w.heap.size w w')=>hl'.mono h);have HK:=hI hK;have HA:=hI hA;have HB:=hI hB;have HR:=hI hR;have HO:=hI (fun w' (h:Below w.heap.size w w')=>qfv _ _ _ _ _ _ _ _ w' (hl.mono h) (hl'.mono h));obtain⟨Y,hY⟩:∃Y,y.natAbs=Y:=⟨_,rfl⟩
 obtain⟨Zn,hZ⟩:∃Zn,z.natAbs=Zn:=⟨_,rfl⟩
 rw[hY]at hl1 HL HA HB HR HO HK;rw[hZ]at hl2 HL' HA HB HR HO HK;have HP:=hI (fun w' (h:Below w.heap.size w w')=>qs5 _ _ _ _ _ _ _ _ w' (HL.out w' h) (HL'.out w' h) (qal Y) (qal Zn) hl1 hl2);have HM1:=hI (fun w' (h:Below w.heap.size w w') (hle:Zn≤Y)=>qki _ _ _ _ _ _ _ _ w' (HL.out w' h) (HL'.out w' h) (qal Y) (qal Zn) hl1 (qbx hle) (by rw[qai,qai];exact hle));have HM2:=hI (fun w' (h:Below w.heap.size w w') (hle:Y≤Zn)=>qki _ _ _ _ _ _ _ _ w' (HL'.out w' h) (HL.out w' h) (qal Zn) (qal Y) hl2 (qbx hle) (by rw[qai,qai];exact hle));rw[qai,qai]at HP HM1 HM2;rw[hY,hZ];have HY:=hI hY;have HZ:=hI hZ;have hkk1:(limbs Y).length=(limbs Y).length:=rfl;clear hl hl' hK hA hB hR HL HL' hY hZ hkk1;generalize(limbs Y).length=k at*;generalize(limbs Zn).length=k' at*
 by_cases hy:y<0<;>by_cases hz:z<0
 ·rw[decide_eq_true hy,decide_eq_true hz]at*
  have HSc:=hI (fun w' (h:Below (((w.alloc (.cells #[.bool true,.slice a k c] 75)).alloc (.cells #[.bool true,.slice a' k' c'] 75)).alloc (.cells #[.bool false,.slice none 0 0] 75)).heap.size (((w.alloc (.cells #[.bool true,.slice a k c] 75)).alloc (.cells #[.bool true,.slice a' k' c'] 75)).alloc (.cells #[.bool false,.slice none 0 0] 75)) w')=>And.intro (HA.out.below h |> qag).1.1 (And.intro (HA.out.below h |> qag).1.2 (And.intro (HB.out.below h |> qag).1.1 (HB.out.below h |> qag).1.2)))
  go_enter Tryz.func110,Tryz.ntmps110
  have hbs:Below (((w.alloc (.cells #[.bool true,.slice a k c] 75)).alloc (.cells #[.bool true,.slice a' k' c'] 75)).alloc (.cells #[.bool false,.slice none 0 0] 75)).heap.size (((w.alloc (.cells #[.bool true,.slice a k c] 75)).alloc (.cells #[.bool true,.slice a' k' c'] 75)).alloc (.cells #[.bool false,.slice none 0 0] 75)) (((w.alloc (.cells #[.bool true,.slice a k c] 75)).alloc (.cells #[.bool true,.slice a' k' c'] 75)).alloc (.cells #[.bool false,.slice none 0 0] 75)):=Below.refl _ _
  go_wp2_with fail
  refine qar (S:=(fun w'=>w'.cell? ⟨w.heap.size,0,none⟩=some (.bool true)∧w'.cell? ⟨w.heap.size,1,none⟩=some (.slice a k c)∧w'.cell? ⟨w.heap.size+1,0,none⟩=some (.bool true)∧w'.cell? ⟨w.heap.size+1,1,none⟩=some (.slice a' k' c'))) 8 (by kernel_rfl) (by kernel_rfl) (by exact HSc.out _ (hbs.dn 1)) (fun hHeld=>?_)
  simp only[List.take_succ_cons,List.take_zero,List.drop_succ_cons,List.drop_zero];refine wpAnyH_take (i:=0) (v:=?v1) rfl (by kernel_rfl) (by kernel_rfl) (by kernel_rfl) (fun _ _ _ h=>h) (Or.inl ⟨by rfl,?hy1⟩) (by assumption) ?rest1
  case hy1=>(intro w hSw;(try dsimp only at hSw);go_simp;try(with_reducible rfl))
  try simp only[Act.put,List.getElem_toArray,List.getElem_cons_zero,List.setIfInBounds_toArray,List.set_cons_zero,List.set_cons_succ]
  refine' tk 1 ?_;(try simp only[tkS]);refine' tk 2 ?_;(try simp only[tkS]);refine' tk 3 ?_;(try simp only[tkS]);refine' tk 4 ?_;(try simp only[tkS]);refine' tk 5 ?_;(try simp only[tkS]);refine tk1 6 (fun K hK=>?_)
  go_simp;go_at_call 142;refine(HP.out _ (HK.out.via (hbs.dn 1) HK.out.size)).mono ?_
  rintro e2 w4 ⟨v4,rfl,⟨xs,xa,xc,rfl,hxl,hxd,hxn,-⟩,hb4⟩;have Hxl:=hI hxl;have Hxd:=hI hxd;have Hxn:=hI hxn;have Hb4:=hI (hbs.via (undrew hb4) hbs.size);clear hxl hxd hxn hb4;refine hK.out _ _ (by exact HSc.out _ Hb4.out) (fun hHeld=>?_)
  clear hK K;(try simp only[tkS]);refine tk1 7 (fun K hK=>?_)
  go_simp;go_at_call 140;refine(qbp _ _ _ _ xs _ Hxl.out Hxd.out).mono ?_
  rintro e2 w5 ⟨v5,rfl,hv5,hb5⟩;rw[Hxn.out]at hv5;obtain⟨x5,a5,k5,c5,rfl,hv5⟩:=hv5.open;have Hv5:=hI hv5;have Hb5:=hI (Hb4.out.via hb5 Hb4.out.size);clear hv5 hb5;refine hK.out _ _ (by exact HSc.out _ Hb5.out) (fun hHeld=>?_)
  clear hK K;(try simp only[tkS]);refine tkD ?_ _
  simp only[Exit.then];have hr:=HR.out.below Hb5.out;obtain⟨⟨r0,r1⟩,f0,f1⟩:=qag hr;obtain⟨hv6,hb6⟩:=IntV.put2 Hv5.out hr;have Hv6:=hI hv6;have Hb6:=hI hb6;have hbel:=((HK.out.via Hb5.out HK.out.size).setCell (p:=⟨w.heap.size+1+1,0,none⟩) (by show w.heap.size≤w.heap.size+1+1;omega) (.bool x5)).setCell (p:=⟨w.heap.size+1+1,1,none⟩) (by show w.heap.size≤w.heap.size+1+1;omega) (.slice a5 k5 c5);have Hbel:=hI hbel;clear hr hv6 hb6 hbel
  go_wp2_with fail
  obtain⟨⟨q0,q1⟩,-⟩:=qag Hb6.out;refine bodyPost_ret (v:=.agg #[.bool x5,.slice a5 k5 c5]) (by simp[results,Tryz.results110,go_sem,q0,q1]) rfl ⟨_,rfl,?_,Hbel.out⟩
  have hfin:sgn true (Y+Zn)=y+z:=by have:=HY.out;have:=HZ.out;simp only[sgn,if_true];omega
  rw[←hfin];exact Hv6.out
 ·rw[decide_eq_true hy,decide_eq_false hz]at*
  have HSc:=hI (fun w' (h:Below (((w.alloc (.cells #[.bool true,.slice a k c] 75)).alloc (.cells #[.bool false,.slice a' k' c'] 75)).alloc (.cells #[.bool false,.slice none 0 0] 75)).heap.size (((w.alloc (.cells #[.bool true,.slice a k c] 75)).alloc (.cells #[.bool false,.slice a' k' c'] 75)).alloc (.cells #[.bool false,.slice none 0 0] 75)) w')=>And.intro (HA.out.below h |> qag).1.1 (And.intro (HA.out.below h |> qag).1.2 (And.intro (HB.out.below h |> qag).1.1 (HB.out.below h |> qag).1.2)))
  go_enter Tryz.func110,Tryz.ntmps110
  by_cases hle:Zn≤Y
  ·have hcp:=qfh hle
   go_wp2_with (go_at_call 143;refine(HO.out _ HK.out).mono ?_;rintro e w3 ⟨rfl,hbs⟩;obtain⟨a0,a1,b0,b1⟩:=HSc.out w3 hbs)
   refine qar (S:=(fun w'=>w'.cell? ⟨w.heap.size,0,none⟩=some (.bool true)∧w'.cell? ⟨w.heap.size,1,none⟩=some (.slice a k c)∧w'.cell? ⟨w.heap.size+1,0,none⟩=some (.bool false)∧w'.cell? ⟨w.heap.size+1,1,none⟩=some (.slice a' k' c'))) 8 (by kernel_rfl) (by kernel_rfl) (by exact HSc.out _ (hbs.dn 1)) (fun hHeld=>?_)
   simp only[List.take_succ_cons,List.take_zero,List.drop_succ_cons,List.drop_zero];refine wpAnyH_take (i:=0) (v:=?v7) rfl (by kernel_rfl) (by kernel_rfl) (by kernel_rfl) (fun _ _ _ h=>h) (Or.inl ⟨by rfl,?hy7⟩) (by assumption) ?rest7
   case hy7=>(intro w hSw;(try dsimp only at hSw);go_simp;try(with_reducible rfl))
   try simp only[Act.put,List.getElem_toArray,List.getElem_cons_zero,List.setIfInBounds_toArray,List.set_cons_zero,List.set_cons_succ]
   refine' tk 1 ?_;(try simp only[tkS]);refine' tk 2 ?_;(try simp only[tkS]);refine' tk 3 ?_;(try simp only[tkS]);refine' tk 4 ?_;(try simp only[tkS]);refine' tk 5 ?_;(try simp only[tkS]);refine tk1 6 (fun K hK=>?_)
   go_simp;go_at_call 144;refine(HM1.out _ (HK.out.via (hbs.dn 1) HK.out.size) hle).mono ?_
   rintro e2 w4 ⟨v4,rfl,⟨xs,xa,xc,rfl,hxl,hxd,hxn,-⟩,hb4⟩;have Hxl:=hI hxl;have Hxd:=hI hxd;have Hxn:=hI hxn;have Hb4:=hI (hbs.via (undrew hb4) hbs.size);clear hxl hxd hxn hb4;refine hK.out _ _ (by exact HSc.out _ Hb4.out) (fun hHeld=>?_)
   clear hK K;(try simp only[tkS]);refine tk1 7 (fun K hK=>?_)
   go_simp;go_at_call 140;refine(qbp _ _ _ _ xs _ Hxl.out Hxd.out).mono ?_
   rintro e2 w5 ⟨v5,rfl,hv5,hb5⟩;rw[Hxn.out]at hv5;obtain⟨x5,a5,k5,c5,rfl,hv5⟩:=hv5.open;have Hv5:=hI hv5;have Hb5:=hI (Hb4.out.via hb5 Hb4.out.size);clear hv5 hb5;refine hK.out _ _ (by exact HSc.out _ Hb5.out) (fun hHeld=>?_)
   clear hK K;(try simp only[tkS]);refine tkD ?_ _
   simp only[Exit.then];have hr:=HR.out.below Hb5.out;obtain⟨⟨r0,r1⟩,f0,f1⟩:=qag hr;obtain⟨hv6,hb6⟩:=IntV.put2 Hv5.out hr;have Hv6:=hI hv6;have Hb6:=hI hb6;have hbel:=((HK.out.via Hb5.out HK.out.size).setCell (p:=⟨w.heap.size+1+1,0,none⟩) (by show w.heap.size≤w.heap.size+1+1;omega) (.bool x5)).setCell (p:=⟨w.heap.size+1+1,1,none⟩) (by show w.heap.size≤w.heap.size+1+1;omega) (.slice a5 k5 c5);have Hbel:=hI hbel;clear hr hv6 hb6 hbel
   go_wp2_with fail
   obtain⟨⟨q0,q1⟩,-⟩:=qag Hb6.out;refine bodyPost_ret (v:=.agg #[.bool x5,.slice a5 k5 c5]) (by simp[results,Tryz.results110,go_sem,q0,q1]) rfl ⟨_,rfl,?_,Hbel.out⟩
   have hfin:sgn true (Y-Zn)=y+z:=by have:=HY.out;have:=HZ.out;simp only[sgn,if_true];omega
   rw[←hfin];exact Hv6.out
  ·have hcp:=qh1 (Nat.lt_of_not_le hle)
   go_wp2_with (go_at_call 143;refine(HO.out _ HK.out).mono ?_;rintro e w3 ⟨rfl,hbs⟩;obtain⟨a0,a1,b0,b1⟩:=HSc.out w3 hbs)
   refine qar (S:=(fun w'=>w'.cell? ⟨w.heap.size,0,none⟩=some (.bool true)∧w'.cell? ⟨w.heap.size,1,none⟩=some (.slice a k c)∧w'.cell? ⟨w.heap.size+1,0,none⟩=some (.bool false)∧w'.cell? ⟨w.heap.size+1,1,none⟩=some (.slice a' k' c'))) 8 (by kernel_rfl) (by kernel_rfl) (by exact HSc.out _ (hbs.dn 1)) (fun hHeld=>?_)
   simp only[List.take_succ_cons,List.take_zero,List.drop_succ_cons,List.drop_zero];refine wpAnyH_take (i:=0) (v:=?v13) rfl (by kernel_rfl) (by kernel_rfl) (by kernel_rfl) (fun _ _ _ h=>h) (Or.inl ⟨by rfl,?hy13⟩) (by assumption) ?rest13
   case hy13=>(intro w hSw;(try dsimp only at hSw);go_simp;try(with_reducible rfl))
   try simp only[Act.put,List.getElem_toArray,List.getElem_cons_zero,List.setIfInBounds_toArray,List.set_cons_zero,List.set_cons_succ]
   refine' tk 1 ?_;(try simp only[tkS]);refine' tk 2 ?_;(try simp only[tkS]);refine' tk 3 ?_;(try simp only[tkS]);refine' tk 4 ?_;(try simp only[tkS]);refine' tk 5 ?_;(try simp only[tkS]);refine tk1 6 (fun K hK=>?_)
   go_simp;go_at_call 144;refine(HM2.out _ (HK.out.via (hbs.dn 1) HK.out.size) (by omega)).mono ?_
   rintro e2 w4 ⟨v4,rfl,⟨xs,xa,xc,rfl,hxl,hxd,hxn,-⟩,hb4⟩;have Hxl:=hI hxl;have Hxd:=hI hxd;have Hxn:=hI hxn;have Hb4:=hI (hbs.via (undrew hb4) hbs.size);clear hxl hxd hxn hb4;refine hK.out _ _ (by exact HSc.out _ Hb4.out) (fun hHeld=>?_)
   clear hK K;(try simp only[tkS]);refine tk1 7 (fun K hK=>?_)
   go_simp;go_at_call 140;refine(qbp _ _ _ _ xs _ Hxl.out Hxd.out).mono ?_
   rintro e2 w5 ⟨v5,rfl,hv5,hb5⟩;rw[Hxn.out]at hv5;obtain⟨x5,a5,k5,c5,rfl,hv5⟩:=hv5.open;have Hv5:=hI hv5;have Hb5:=hI (Hb4.out.via hb5 Hb4.out.size);clear hv5 hb5;refine hK.out _ _ (by exact HSc.out _ Hb5.out) (fun hHeld=>?_)
   clear hK K;(try simp only[tkS]);refine tkD ?_ _
   simp only[Exit.then];have hr:=HR.out.below Hb5.out;obtain⟨⟨r0,r1⟩,f0,f1⟩:=qag hr;obtain⟨hv6,hb6⟩:=IntV.put2 Hv5.out hr;have Hv6:=hI hv6;have Hb6:=hI hb6;have hbel:=((HK.out.via Hb5.out HK.out.size).setCell (p:=⟨w.heap.size+1+1,0,none⟩) (by show w.heap.size≤w.heap.size+1+1;omega) (.bool x5)).setCell (p:=⟨w.heap.size+1+1,1,none⟩) (by show w.heap.size≤w.heap.size+1+1;omega) (.slice a5 k5 c5);have Hbel:=hI hbel;clear hr hv6 hb6 hbel
   go_wp2_with fail
   obtain⟨⟨q0,q1⟩,-⟩:=qag Hb6.out;refine bodyPost_ret (v:=.agg #[.bool x5,.slice a5 k5 c5]) (by simp[results,Tryz.results110,go_sem,q0,q1]) rfl ⟨_,rfl,?_,Hbel.out⟩
   have hfin:sgn false (Zn-Y)=y+z:=by have:=HY.out;have:=HZ.out;simp only[sgn,Bool.false_eq_true,if_false];omega
   rw[←hfin];exact Hv6.out
 ·rw[decide_eq_false hy,decide_eq_true hz]at*
  have HSc:=hI (fun w' (h:Below (((w.alloc (.cells #[.bool false,.slice a k c] 75)).alloc (.cells #[.bool true,.slice a' k' c'] 75)).alloc (.cells #[.bool false,.slice none 0 0] 75)).heap.size (((w.alloc (.cells #[.bool false,.slice a k c] 75)).alloc (.cells #[.bool true,.slice a' k' c'] 75)).alloc (.cells #[.bool false,.slice none 0 0] 75)) w')=>And.intro (HA.out.below h |> qag).1.1 (And.intro (HA.out.below h |> qag).1.2 (And.intro (HB.out.below h |> qag).1.1 (HB.out.below h |> qag).1.2)))
  go_enter Tryz.func110,Tryz.ntmps110
  by_cases hle:Zn≤Y
  ·have hcp:=qfh hle
   go_wp2_with (go_at_call 143;refine(HO.out _ HK.out).mono ?_;rintro e w3 ⟨rfl,hbs⟩;obtain⟨a0,a1,b0,b1⟩:=HSc.out w3 hbs)
   refine qar (S:=(fun w'=>w'.cell? ⟨w.heap.size,0,none⟩=some (.bool false)∧w'.cell? ⟨w.heap.size,1,none⟩=some (.slice a k c)∧w'.cell? ⟨w.heap.size+1,0,none⟩=some (.bool true)∧w'.cell? ⟨w.heap.size+1,1,none⟩=some (.slice a' k' c'))) 8 (by kernel_rfl) (by kernel_rfl) (by exact HSc.out _ (hbs.dn 1)) (fun hHeld=>?_)
   simp only[List.take_succ_cons,List.take_zero,List.drop_succ_cons,List.drop_zero];refine wpAnyH_take (i:=0) (v:=?v19) rfl (by kernel_rfl) (by kernel_rfl) (by kernel_rfl) (fun _ _ _ h=>h) (Or.inl ⟨by rfl,?hy19⟩) (by assumption) ?rest19
   case hy19=>(intro w hSw;(try dsimp only at hSw);go_simp;try(with_reducible rfl))
   try simp only[Act.put,List.getElem_toArray,List.getElem_cons_zero,List.setIfInBounds_toArray,List.set_cons_zero,List.set_cons_succ]
   refine' tk 1 ?_;(try simp only[tkS]);refine' tk 2 ?_;(try simp only[tkS]);refine' tk 3 ?_;(try simp only[tkS]);refine' tk 4 ?_;(try simp only[tkS]);refine' tk 5 ?_;(try simp only[tkS]);refine tk1 6 (fun K hK=>?_)
   go_simp;go_at_call 144;refine(HM1.out _ (HK.out.via (hbs.dn 1) HK.out.size) hle).mono ?_
   rintro e2 w4 ⟨v4,rfl,⟨xs,xa,xc,rfl,hxl,hxd,hxn,-⟩,hb4⟩;have Hxl:=hI hxl;have Hxd:=hI hxd;have Hxn:=hI hxn;have Hb4:=hI (hbs.via (undrew hb4) hbs.size);clear hxl hxd hxn hb4;refine hK.out _ _ (by exact HSc.out _ Hb4.out) (fun hHeld=>?_)
   clear hK K;(try simp only[tkS]);refine tk1 7 (fun K hK=>?_)
   go_simp;go_at_call 140;refine(qbp _ _ _ _ xs _ Hxl.out Hxd.out).mono ?_
   rintro e2 w5 ⟨v5,rfl,hv5,hb5⟩;rw[Hxn.out]at hv5;obtain⟨x5,a5,k5,c5,rfl,hv5⟩:=hv5.open;have Hv5:=hI hv5;have Hb5:=hI (Hb4.out.via hb5 Hb4.out.size);clear hv5 hb5;refine hK.out _ _ (by exact HSc.out _ Hb5.out) (fun hHeld=>?_)
   clear hK K;(try simp only[tkS]);refine tkD ?_ _
   simp only[Exit.then];have hr:=HR.out.below Hb5.out;obtain⟨⟨r0,r1⟩,f0,f1⟩:=qag hr;obtain⟨hv6,hb6⟩:=IntV.put2 Hv5.out hr;have Hv6:=hI hv6;have Hb6:=hI hb6;have hbel:=((HK.out.via Hb5.out HK.out.size).setCell (p:=⟨w.heap.size+1+1,0,none⟩) (by show w.heap.size≤w.heap.size+1+1;omega) (.bool x5)).setCell (p:=⟨w.heap.size+1+1,1,none⟩) (by show w.heap.size≤w.heap.size+1+1;omega) (.slice a5 k5 c5);have Hbel:=hI hbel;clear hr hv6 hb6 hbel
   go_wp2_with fail
   obtain⟨⟨q0,q1⟩,-⟩:=qag Hb6.out;refine bodyPost_ret (v:=.agg #[.bool x5,.slice a5 k5 c5]) (by simp[results,Tryz.results110,go_sem,q0,q1]) rfl ⟨_,rfl,?_,Hbel.out⟩
   have hfin:sgn false (Y-Zn)=y+z:=by have:=HY.out;have:=HZ.out;simp only[sgn,Bool.false_eq_true,if_false];omega
   rw[←hfin];exact Hv6.out
  ·have hcp:=qh1 (Nat.lt_of_not_le hle)
   go_wp2_with (go_at_call 143;refine(HO.out _ HK.out).mono ?_;rintro e w3 ⟨rfl,hbs⟩;obtain⟨a0,a1,b0,b1⟩:=HSc.out w3 hbs)
   refine qar (S:=(fun w'=>w'.cell? ⟨w.heap.size,0,none⟩=some (.bool false)∧w'.cell? ⟨w.heap.size,1,none⟩=some (.slice a k c)∧w'.cell? ⟨w.heap.size+1,0,none⟩=some (.bool true)∧w'.cell? ⟨w.heap.size+1,1,none⟩=some (.slice a' k' c'))) 8 (by kernel_rfl) (by kernel_rfl) (by exact HSc.out _ (hbs.dn 1)) (fun hHeld=>?_)
   simp only[List.take_succ_cons,List.take_zero,List.drop_succ_cons,List.drop_zero];refine wpAnyH_take (i:=0) (v:=?v25) rfl (by kernel_rfl) (by kernel_rfl) (by kernel_rfl) (fun _ _ _ h=>h) (Or.inl ⟨by rfl,?hy25⟩) (by assumption) ?rest25
   case hy25=>(intro w hSw;(try dsimp only at hSw);go_simp;try(with_reducible rfl))
   try simp only[Act.put,List.getElem_toArray,List.getElem_cons_zero,List.setIfInBounds_toArray,List.set_cons_zero,List.set_cons_succ]
   refine' tk 1 ?_;(try simp only[tkS]);refine' tk 2 ?_;(try simp only[tkS]);refine' tk 3 ?_;(try simp only[tkS]);refine' tk 4 ?_;(try simp only[tkS]);refine' tk 5 ?_;(try simp only[tkS]);refine tk1 6 (fun K hK=>?_)
   go_simp;go_at_call 144;refine(HM2.out _ (HK.out.via (hbs.dn 1) HK.out.size) (by omega)).mono ?_
   rintro e2 w4 ⟨v4,rfl,⟨xs,xa,xc,rfl,hxl,hxd,hxn,-⟩,hb4⟩;have Hxl:=hI hxl;have Hxd:=hI hxd;have Hxn:=hI hxn;have Hb4:=hI (hbs.via (undrew hb4) hbs.size);clear hxl hxd hxn hb4;refine hK.out _ _ (by exact HSc.out _ Hb4.out) (fun hHeld=>?_)
   clear hK K;(try simp only[tkS]);refine tk1 7 (fun K hK=>?_)
   go_simp;go_at_call 140;refine(qbp _ _ _ _ xs _ Hxl.out Hxd.out).mono ?_
   rintro e2 w5 ⟨v5,rfl,hv5,hb5⟩;rw[Hxn.out]at hv5;obtain⟨x5,a5,k5,c5,rfl,hv5⟩:=hv5.open;have Hv5:=hI hv5;have Hb5:=hI (Hb4.out.via hb5 Hb4.out.size);clear hv5 hb5;refine hK.out _ _ (by exact HSc.out _ Hb5.out) (fun hHeld=>?_)
   clear hK K;(try simp only[tkS]);refine tkD ?_ _
   simp only[Exit.then];have hr:=HR.out.below Hb5.out;obtain⟨⟨r0,r1⟩,f0,f1⟩:=qag hr;obtain⟨hv6,hb6⟩:=IntV.put2 Hv5.out hr;have Hv6:=hI hv6;have Hb6:=hI hb6;have hbel:=((HK.out.via Hb5.out HK.out.size).setCell (p:=⟨w.heap.size+1+1,0,none⟩) (by show w.heap.size≤w.heap.size+1+1;omega) (.bool x5)).setCell (p:=⟨w.heap.size+1+1,1,none⟩) (by show w.heap.size≤w.heap.size+1+1;omega) (.slice a5 k5 c5);have Hbel:=hI hbel;clear hr hv6 hb6 hbel
   go_wp2_with fail
   obtain⟨⟨q0,q1⟩,-⟩:=qag Hb6.out;refine bodyPost_ret (v:=.agg #[.bool x5,.slice a5 k5 c5]) (by simp[results,Tryz.results110,go_sem,q0,q1]) rfl ⟨_,rfl,?_,Hbel.out⟩
   have hfin:sgn true (Zn-Y)=y+z:=by have:=HY.out;have:=HZ.out;simp only[sgn,if_true];omega
   rw[←hfin];exact Hv6.out
 ·rw[decide_eq_false hy,decide_eq_false hz]at*
  have HSc:=hI (fun w' (h:Below (((w.alloc (.cells #[.bool false,.slice a k c] 75)).alloc (.cells #[.bool false,.slice a' k' c'] 75)).alloc (.cells #[.bool false,.slice none 0 0] 75)).heap.size (((w.alloc (.cells #[.bool false,.slice a k c] 75)).alloc (.cells #[.bool false,.slice a' k' c'] 75)).alloc (.cells #[.bool false,.slice none 0 0] 75)) w')=>And.intro (HA.out.below h |> qag).1.1 (And.intro (HA.out.below h |> qag).1.2 (And.intro (HB.out.below h |> qag).1.1 (HB.out.below h |> qag).1.2)))
  go_enter Tryz.func110,Tryz.ntmps110
  have hbs:Below (((w.alloc (.cells #[.bool false,.slice a k c] 75)).alloc (.cells #[.bool false,.slice a' k' c'] 75)).alloc (.cells #[.bool false,.slice none 0 0] 75)).heap.size (((w.alloc (.cells #[.bool false,.slice a k c] 75)).alloc (.cells #[.bool false,.slice a' k' c'] 75)).alloc (.cells #[.bool false,.slice none 0 0] 75)) (((w.alloc (.cells #[.bool false,.slice a k c] 75)).alloc (.cells #[.bool false,.slice a' k' c'] 75)).alloc (.cells #[.bool false,.slice none 0 0] 75)):=Below.refl _ _
  go_wp2_with fail
  refine qar (S:=(fun w'=>w'.cell? ⟨w.heap.size,0,none⟩=some (.bool false)∧w'.cell? ⟨w.heap.size,1,none⟩=some (.slice a k c)∧w'.cell? ⟨w.heap.size+1,0,none⟩=some (.bool false)∧w'.cell? ⟨w.heap.size+1,1,none⟩=some (.slice a' k' c'))) 8 (by kernel_rfl) (by kernel_rfl) (by exact HSc.out _ (hbs.dn 1)) (fun hHeld=>?_)
  simp only[List.take_succ_cons,List.take_zero,List.drop_succ_cons,List.drop_zero];refine wpAnyH_take (i:=0) (v:=?v31) rfl (by kernel_rfl) (by kernel_rfl) (by kernel_rfl) (fun _ _ _ h=>h) (Or.inl ⟨by rfl,?hy31⟩) (by assumption) ?rest31
  case hy31=>(intro w hSw;(try dsimp only at hSw);go_simp;try(with_reducible rfl))
  try simp only[Act.put,List.getElem_toArray,List.getElem_cons_zero,List.setIfInBounds_toArray,List.set_cons_zero,List.set_cons_succ]
  refine' tk 1 ?_;(try simp only[tkS]);refine' tk 2 ?_;(try simp only[tkS]);refine' tk 3 ?_;(try simp only[tkS]);refine' tk 4 ?_;(try simp only[tkS]);refine' tk 5 ?_;(try simp only[tkS]);refine tk1 6 (fun K hK=>?_)
  go_simp;go_at_call 142;refine(HP.out _ (HK.out.via (hbs.dn 1) HK.out.size)).mono ?_
  rintro e2 w4 ⟨v4,rfl,⟨xs,xa,xc,rfl,hxl,hxd,hxn,-⟩,hb4⟩;have Hxl:=hI hxl;have Hxd:=hI hxd;have Hxn:=hI hxn;have Hb4:=hI (hbs.via (undrew hb4) hbs.size);clear hxl hxd hxn hb4;refine hK.out _ _ (by exact HSc.out _ Hb4.out) (fun hHeld=>?_)
  clear hK K;(try simp only[tkS]);refine tk1 7 (fun K hK=>?_)
  go_simp;go_at_call 140;refine(qbp _ _ _ _ xs _ Hxl.out Hxd.out).mono ?_
  rintro e2 w5 ⟨v5,rfl,hv5,hb5⟩;rw[Hxn.out]at hv5;obtain⟨x5,a5,k5,c5,rfl,hv5⟩:=hv5.open;have Hv5:=hI hv5;have Hb5:=hI (Hb4.out.via hb5 Hb4.out.size);clear hv5 hb5;refine hK.out _ _ (by exact HSc.out _ Hb5.out) (fun hHeld=>?_)
  clear hK K;(try simp only[tkS]);refine tkD ?_ _
  simp only[Exit.then];have hr:=HR.out.below Hb5.out;obtain⟨⟨r0,r1⟩,f0,f1⟩:=qag hr;obtain⟨hv6,hb6⟩:=IntV.put2 Hv5.out hr;have Hv6:=hI hv6;have Hb6:=hI hb6;have hbel:=((HK.out.via Hb5.out HK.out.size).setCell (p:=⟨w.heap.size+1+1,0,none⟩) (by show w.heap.size≤w.heap.size+1+1;omega) (.bool x5)).setCell (p:=⟨w.heap.size+1+1,1,none⟩) (by show w.heap.size≤w.heap.size+1+1;omega) (.slice a5 k5 c5);have Hbel:=hI hbel;clear hr hv6 hb6 hbel
  go_wp2_with fail
  obtain⟨⟨q0,q1⟩,-⟩:=qag Hb6.out;refine bodyPost_ret (v:=.agg #[.bool x5,.slice a5 k5 c5]) (by simp[results,Tryz.results110,go_sem,q0,q1]) rfl ⟨_,rfl,?_,Hbel.out⟩
  have hfin:sgn false (Y+Zn)=y+z:=by have:=HY.out;have:=HZ.out;simp only[sgn,Bool.false_eq_true,if_false];omega
  rw[←hfin];exact Hv6.out
end Go.Proofs.YtacihodamichhaaGreatDoor
