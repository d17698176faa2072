/- Parts of the proof. -/
import Derived.Test.YtacihodamichhaaGreatDoorL05
namespace Go.Proofs.YtacihodamichhaaGreatDoor
open Go.RowKit
set_option maxHeartbeats 8000000
theorem qnt(r d:Nat)(hd:d<4294967296):r*4294967296 ||| d=r*4294967296+d:=by
 have h:=Nat.two_pow_add_eq_or_of_lt (i:=32) (b:=d) (show d<2^32 from hd) r;rw[Nat.mul_comm r];exact h.symm
theorem qts{r d b:Nat}(hr:r<b)(hd:d<4294967296):(r*4294967296+d)/b<4294967296:=by
 rw[Nat.div_lt_iff_lt_mul (by omega),Nat.mul_comm 4294967296];have:(r+1)*4294967296≤b*4294967296:=Nat.mul_le_mul_right _ hr
 omega
theorem quc{r b d:Nat}(hr:r<b)(hb:b<4294967296)(hd:d<4294967296):r*4294967296+d<18446744073709551616:=by
 have:r*4294967296≤4294967294*4294967296:=Nat.mul_le_mul_right _ (by omega)
 omega
theorem Out.low{M:Nat}{w:World}{g n:Nat}{done:List Nat}(h:Out M w g (List.replicate (n+1) 0++done)):w.cell? ⟨g,n,none⟩=some (.int .u32 0)∧w.frozen? ⟨g,n,none⟩=false:=
 h.cell (i:=n) (d:=0) (by rw[List.getElem?_append_left (by simp)];simp)
theorem Out.writeLow{M:Nat}{w:World}{g n:Nat}{done:List Nat}(h:Out M w g (List.replicate (n+1) 0++done))(d:Nat):Out M (w.setCell ⟨g,n,none⟩ (.int .u32 (d:Int))) g (List.replicate n 0++(d::done)):=by
 have:=h.set (i:=n) (by simp;omega) d
 rwa [qk3]at this
theorem qpr(a:Option Addr)(n c:Nat)(l:List Nat)(by':Nat)(w:World)(hL:Ls w (.slice a n c) l)(hd:Dg l)(hn1:l.length<1000000)(hby:by'<4294967296)(hby0:0<by'):
  Calls Tryz.prog 147 #[.slice a n c,.int .u32 (by':Int)] w (fun e w'=>∃v,e=.returned (.tuple #[v,.int .u32 ((natL l%by':Nat):Int)])∧MagA w' v (natL l/by')∧Below w.heap.size w w'):=by
 obtain⟨_,_,hq,hc1,hc2⟩:=hL.open;cases hq
 unfold maxLen at hc2;have hi:(Tryz.prog.info? 62).map (fun i=>(i.zero,i.size,i.bytes))=some (some (.int .u32 0),1,4):=by kernel_rfl
 obtain⟨i4,hi4,hz0,hz1,hz2⟩:=info_parts hi;clear hi;have HL:=hI hL;have Hd:=hI hd;clear hL hd;generalize hn:l.length=n at*;have Hn:=hI hn;clear hn
 go_enter Tryz.func147,Tryz.ntmps147
 go_wp2_with (at_make;refine wpList_make_full _ rfl _ _ 73 rfl (w.heap.size) 62 i4 (.int .u32 0) 1 Tryz.underlying73 hi4 hz0 hz1 .i64 .i64 _ _ n rfl rfl (by omega) (by omega) (by rw[hz2];omega) (by unfold maxLen;omega) (by simp) ?_;intro w1 hown hg)
 have hO:=Out.made hown;have hb1:Below w.heap.size w w1:=(Below.refl _ _).grown hg (Nat.le_refl _) (fun b hb=>by cases hb);clear hown hg hi4 hz0 hz1 hz2
 go_loopw [7,8] (fun rv i wr=>∃(k r:Nat) (done:List Nat),k≤n∧i=.int .i64 ((k:Int)-1)∧rv=.int .u64 (r:Int)∧r<by'∧Below w.heap.size w wr∧Out w.heap.size wr w.heap.size (List.replicate k 0++done)∧Hid (done.length=n-k∧Dg done∧natL done*by'+r=natL (l.drop k))) (fun _ i _=>(intOf i+1).toNat)
 case atStart=>exact⟨n,0,[],Nat.le_refl _,rfl,rfl,hby0,hb1,by rw[List.append_nil];exact hO,by rw[Nat.sub_self];rfl,(fun d hd=>by simp at hd),by rw[List.drop_eq_nil_of_le (by rw[Hn.out];exact Nat.le_refl _)];simp[natL]⟩
 case round=>
  clear hO hb1;obtain⟨k,r,done,hk,rfl,rfl,hr,hbw,hO,hpre⟩:=hrel;rcases k with _|j
  ·rw[List.replicate_zero,List.nil_append]at hO
   have HAu:=hI hO.au;have hls:=hO.ls;have hlen:done.length=n:=hpre.out.1;rw[hlen]at hls;have heq:natL done*by'+r=natL l:=by have:=hpre.out.2.2;rwa [List.drop_zero]at this
   have hq1:natL done=natL l/by':=by
    rw[←heq,Nat.mul_comm,Nat.mul_add_div hby0,Nat.div_eq_of_lt hr,Nat.add_zero]
   have hr1:r=natL l%by':=by
    rw[←heq,Nat.mul_comm,Nat.mul_add_mod,Nat.mod_eq_of_lt hr]
   have H:=qcp _ _ _ _ _ hls hpre.out.2.1;rw[hq1]at H;have HT:=hI H;have Hr1:=hI hr1;have hrm:(r:Int)%4294967296=r:=by omega
   have Hbw:=hI hbw;clear hO hls hlen heq hq1 hr1 H hbw
   go_wp2_with (go_at_call 172;refine(HT.out).mono ?_;rintro e w2 ⟨rfl,hl2,hb2⟩)
   go_ret2
   exact⟨_,by rw[←Hr1.out];rfl,⟨_,_,rfl,hl2.mono hb2,HAu.out.mono (hb2)⟩,Hbw.out.via hb2 Hbw.out.size⟩
  ·obtain⟨b1,off,d,rfl,hdk,c0⟩:=HL.out.at hbw (show j<n by omega)
   have Hdk:=hI hdk;have hdlt:=Hd.out d (List.mem_of_getElem? hdk);have hij:((((j+1:Nat):Int)-1))=(j:Int):=by omega
   rw[hij];have hi64:IntKind.i64.wrap (j:Int)=j:=IntWalk.i64_in _ (by omega);have hj0:(0:Int)≤(j:Int):=Int.natCast_nonneg _;have hjn:(j:Int)<(n:Int):=by omega
   obtain⟨g0,g1⟩:=hO.low;have hm:=quc hr hby hdlt;obtain⟨t,ht⟩:∃t,r*4294967296+d=t:=⟨_,rfl⟩
   have hor:bits .or .u64 ((r:Int)*4294967296) (d:Int)=(t:Int):=by
    have h:=u64_or_nat (r*4294967296) d (Nat.lt_of_le_of_lt (Nat.le_add_right _ d) hm) (Nat.lt_trans hdlt (by decide));rw[qnt r d hdlt,ht]at h;have e:((r*4294967296:Nat):Int)=(r:Int)*4294967296:=by omega
    rw[←e];exact h
   obtain⟨q,hq⟩:∃q,t/by'=q:=⟨_,rfl⟩
   obtain⟨s,hs⟩:∃s,t%by'=s:=⟨_,rfl⟩
   have hqlt:q<4294967296:=by rw[←hq,←ht];exact qts hr hdlt
   have hslt:s<by':=by rw[←hs];exact Nat.mod_lt _ hby0
   have hqi:(t:Int)/(by':Int)=(q:Int):=by rw[←hq];rfl
   have hsi:(t:Int)%(by':Int)=(s:Int):=by rw[←hs];rfl
   have hqw:IntKind.u64.wrap ((t:Int)/(by':Int))=(q:Int):=by rw[hqi];exact IntWalk.u64_in _ (by omega)
   have hqm:(q:Int)%4294967296=(q:Int):=by omega
   have hby0':(by':Int)≠0:=by omega
   have Hst:=hI (qg8 (d:=d) hpre.out.2.2);rw[ht,hq,hs]at Hst;have hwr:=hO.writeLow q;have Hwr:=hI hwr;have Hbw:=hI (hbw.setCell (p:=⟨w.heap.size,j,none⟩) (Nat.le_refl _) (.int .u32 (q:Int)));have Hhm:=hI hm;clear hwr hO hqi hq hs ht hm hdk
   go_wp2_with fail
   go_roundw
   case rel=>
    refine⟨j,s,q::done,by omega,by go_num,by rw[hsi],hslt,Hbw.out,Hwr.out,by rw[List.length_cons,hpre.out.1];omega,?_,?_⟩
    ·intro x hx
     rcases List.mem_cons.1 hx with rfl|hx
     ·exact hqlt
     ·exact hpre.out.2.1 x hx
    ·rw[Hst.out,qgb Hdk.out]
   case measure=>simp[intOf]<;>omega
theorem qiq(a:Option Addr)(n c:Nat)(l:List Nat)(by':Nat)(w:World)(hL:Ls w (.slice a n c) l)(hd:Dg l)(hn1:l.length<1000000)(hby:by'<4294967296)(hby0:0<by'):
  Calls Tryz.prog 147 #[.slice a n c,.int .u32 (by':Int)] w (fun e w'=>∃v,e=.returned (.tuple #[v,.int .u32 ((natL l%by':Nat):Int)])∧MagV w' v (natL l/by')∧Below w.heap.size w w'):=
 (qpr a n c l by' w hL hd hn1 hby hby0).mono fun _ _ ⟨v,he,h,hb⟩=>⟨v,he,h.mag,hb⟩
end Go.Proofs.YtacihodamichhaaGreatDoor
namespace Go.Proofs.YtacihodamichhaaGreatDoor
open Go.RowKit
theorem qqf{ys:List Nat}{j o t cr p S:Nat}(hj:ys[j]?=some o)(h:natL ys+4294967296^j*cr=S)(ht:cr+(p+o)=t):natL (ys.set j (t%4294967296))+4294967296^(j+1)*(t/4294967296)=S+4294967296^j*p:=by
 have h1:=qhz (qbs hj) (t%4294967296);rw[qfc hj]at h1;have h2:4294967296^j*(t%4294967296)+4294967296^j*(4294967296*(t/4294967296))=4294967296^j*t:=by rw[←Nat.mul_add,Nat.mod_add_div]
 have h3:4294967296^j*t=4294967296^j*cr+(4294967296^j*p+4294967296^j*o):=by rw[←ht,Nat.mul_add,Nat.mul_add]
 rw[Nat.pow_succ,Nat.mul_assoc]
 omega
theorem qrm{i k n m j:Nat}(h1:i<n)(h2:k≤m)(hn:n<1000000)(hm:m<1000000)(hj:i+k=j):IntKind.i64.wrap ((i:Int)+(k:Int))=(j:Int)∧wrap64 ((i:Int)+(k:Int))=(j:Int)∧(0:Int)≤(j:Int)∧(j:Int)<(n:Int)+(m:Int):=by
 subst hj;exact⟨(IntWalk.i64_in _ (by omega)).trans (by omega),(IntWalk.wrap64_in _ (by omega)).trans (by omega),by omega,by omega⟩
theorem qt1{x y o cr:Nat}(hx:x<4294967296)(hy:y<4294967296)(ho:o<4294967296)(hc:cr<4294967296):x*y+o+cr<18446744073709551616:=by
 have:x*y≤4294967295*4294967295:=Nat.mul_le_mul (by omega) (by omega)
 omega
theorem Dg.set{l:List Nat}(h:Dg l){j v:Nat}(hv:v<4294967296):Dg (l.set j v):=fun d hd=>by
 rcases List.mem_or_eq_of_mem_set hd with hd|rfl
 ·exact h d hd
 ·exact hv
theorem Out.setl{M:Nat}{w:World}{g:Nat}{ys zs:List Nat}(h:Out M w g (ys++zs)){j:Nat}(hj:j<ys.length)(d:Nat):Out M (w.setCell ⟨g,j,none⟩ (.int .u32 (d:Int))) g (ys.set j d++zs):=by
 have:=h.set (i:=j) (by rw[List.length_append];omega) d
 rwa [List.set_append_left _ _ hj]at this
namespace Dr
set_option maxRecDepth 100000 in
theorem qdx(u v:Value)(y z:Int)(w:World)(h:IntV w u y)(h':IntV w v z)(hl1:(limbs y.natAbs).length<1000000)(hl2:(limbs z.natAbs).length<1000000):
  Calls Tryz.prog 112 #[u,v] w (RetP (fun r w'=>IntV w' r (y*z)) w):=by
 obtain⟨a,c,rfl,hl⟩:=h;obtain⟨a',c',rfl,hl'⟩:=h'
 have hsg:sgn (decide (y<0)!=decide (z<0)) (y.natAbs*z.natAbs)=y*z:=by
  have e1:=qm6 y;have e2:=qm6 z
  by_cases hy:y<0<;>by_cases hz:z<0
  ·rw[decide_eq_true hy,decide_eq_true hz];simp only[sgn,bne_self_eq_false,Bool.false_eq_true,if_false]
   rw[Int.natCast_mul,show(y.natAbs:Int)=-y by omega,show(z.natAbs:Int)=-z by omega,Int.neg_mul_neg]
  ·rw[decide_eq_true hy,decide_eq_false hz];simp only[sgn]
   rw[Int.natCast_mul,show(y.natAbs:Int)=-y by omega,show(z.natAbs:Int)=z by omega,Int.neg_mul];simp
  ·rw[decide_eq_false hy,decide_eq_true hz];simp only[sgn]
   rw[Int.natCast_mul,show(y.natAbs:Int)=y by omega,show(z.natAbs:Int)=-z by omega,Int.mul_neg];simp
  ·rw[decide_eq_false hy,decide_eq_false hz];simp only[sgn,bne_self_eq_false,Bool.false_eq_true,if_false]
   rw[Int.natCast_mul,show(y.natAbs:Int)=y by omega,show(z.natAbs:Int)=z by omega]
 have HSg:=hI hsg;clear hsg;obtain⟨_,_,hq,hc1,hc2⟩:=hl.open;cases hq
 obtain⟨_,_,hq,hc3,hc4⟩:=hl'.open;cases hq
 unfold maxLen at hc2 hc4;have hi:(Tryz.prog.info? 62).map (fun i=>(i.zero,i.size,i.bytes))=some (some (.int .u32 0),1,4):=by kernel_rfl
 obtain⟨i4,hi4,hz0,hz1,hz2⟩:=info_parts hi;clear hi;have Hd:=hI (qal y.natAbs);have Hd':=hI (qal z.natAbs);have HN:=hI (qah y.natAbs);have HN':=hI (qah z.natAbs);have HL:=hI hl;have HL':=hI hl';clear hl hl';generalize limbs y.natAbs=l at*;generalize limbs z.natAbs=l' at*;generalize hn:l.length=n at*;generalize hm:l'.length=m at*;have Hn:=hI hn;have Hm:=hI hm;clear hn hm;generalize decide (y<0)=x at*;generalize decide (z<0)=x' at*;have hK:=qe6 w (.cells #[.bool x,.slice a n c] 75) (.cells #[.bool x',.slice a' m c'] 75) (.cells #[.bool false,.slice none 0 0] 75);have hA:Blk (((w.alloc (.cells #[.bool x,.slice a n c] 75)).alloc (.cells #[.bool x',.slice a' m c'] 75)).alloc (.cells #[.bool false,.slice none 0 0] 75)) w.heap.size #[.bool x,.slice a n c] 75:=((Blk.new w _ _).old _).old _
 have hB:Blk (((w.alloc (.cells #[.bool x,.slice a n c] 75)).alloc (.cells #[.bool x',.slice a' m c'] 75)).alloc (.cells #[.bool false,.slice none 0 0] 75)) (w.heap.size+1) #[.bool x',.slice a' m c'] 75:=by
  have h:=(Blk.new (w.alloc (.cells #[.bool x,.slice a n c] 75)) #[.bool x',.slice a' m c'] 75).old (.cells #[.bool false,.slice none 0 0] 75)
  simpa using h
 have hR:Blk (((w.alloc (.cells #[.bool x,.slice a n c] 75)).alloc (.cells #[.bool x',.slice a' m c'] 75)).alloc (.cells #[.bool false,.slice none 0 0] 75)) (w.heap.size+1+1) #[.bool false,.slice none 0 0] 75:=by
  have h:=Blk.new ((w.alloc (.cells #[.bool x,.slice a n c] 75)).alloc (.cells #[.bool x',.slice a' m c'] 75)) #[.bool false,.slice none 0 0] 75
  simpa using h
 have HK:=hI hK;have HA:=hI hA;have HB:=hI hB;have HR:=hI hR;clear hK hA hB hR
 go_enter Tryz.func112,Tryz.ntmps112
 have hW3:(((w.alloc (.cells #[.bool x,.slice a n c] 75)).alloc (.cells #[.bool x',.slice a' m c'] 75)).alloc (.cells #[.bool false,.slice none 0 0] 75)).heap.size=w.heap.size+1+1+1:=by simp
 go_wp2_with (at_make;refine wpList_make_full _ rfl _ _ 73 rfl (w.heap.size+1+1+1) 62 i4 (.int .u32 0) 1 Tryz.underlying73 hi4 hz0 hz1 .i64 .i64 _ _ (n+m) rfl rfl (by omega) (by omega) (by rw[hz2];omega) (by unfold maxLen;omega) (by simp) ?_;intro w1 hown hg;obtain⟨⟨p0,p1⟩,-⟩:=qak (HA.out.below ((Below.refl _ _).grown hg (Nat.le_refl _) (fun b hb=>by cases hb)).b);obtain⟨⟨q0,q1⟩,-⟩:=qak (HB.out.below ((Below.refl _ _).grown hg (Nat.le_refl _) (fun b hb=>by cases hb)).b))
 rw[hW3]at hown;have hO:=Out.made hown;have hb1:Below (((w.alloc (.cells #[.bool x,.slice a n c] 75)).alloc (.cells #[.bool x',.slice a' m c'] 75)).alloc (.cells #[.bool false,.slice none 0 0] 75)).heap.size (((w.alloc (.cells #[.bool x,.slice a n c] 75)).alloc (.cells #[.bool x',.slice a' m c'] 75)).alloc (.cells #[.bool false,.slice none 0 0] 75)) w1:=(Below.refl _ _).grown hg (Nat.le_refl _) (fun b hb=>by cases hb);clear hown hg hi4 hz0 hz1 hz2 q0 q1 p0 p1;generalize(((w.alloc (.cells #[.bool x,.slice a n c] 75)).alloc (.cells #[.bool x',.slice a' m c'] 75)).alloc (.cells #[.bool false,.slice none 0 0] 75))=W3 at*
 have hO1:Out (w.heap.size+1+1+1) w1 (w.heap.size+1+1+1) (List.replicate m 0++List.replicate n 0):=by
  rw[List.replicate_append_replicate,Nat.add_comm m n];exact hO
 have hMle:W3.heap.size≤w.heap.size+1+1+1:=Nat.le_of_eq hW3;have HM:=hI hMle;generalize hMM:w.heap.size+1+1+1=M at*;have HMM:=hI hMM;clear hO hW3 hMM hMle
 go_loopw [6,7,8,9,10,22] (fun _ _ _ _ _ i wr=>∃(k:Nat) (ys:List Nat),k≤n∧i=.int .i64 k∧Below W3.heap.size W3 wr∧Out M wr M (ys++List.replicate (n-k) 0)∧Hid (ys.length=k+m∧Dg ys∧natL ys=natL (l.take k)*natL l')) (fun _ _ _ _ _ i _=>n-(intOf i).toNat)
 case atStart=>exact⟨0,List.replicate m 0,Nat.zero_le _,rfl,hb1,hO1,by simp,Dg.zeros m,by rw[qcc];simp[natL]⟩
 case round=>
  clear hO1 hb1;obtain⟨i,ys,hi,rfl,hbw,hO,hpre⟩:=hrel;obtain⟨⟨p0,p1⟩,-⟩:=qak (HA.out.below hbw.b);obtain⟨⟨q0,q1⟩,-⟩:=qak (HB.out.below hbw.b)
  by_cases hlt:i<n
  ·obtain⟨b1,off,d,rfl,hdk,c0⟩:=HL.out.at (HK.out.via hbw HK.out.size).b hlt
   have Hdk:=hI hdk;have hdlt:=Hd.out d (List.mem_of_getElem? hdk);have hii0:(0:Int)≤(i:Int):=Int.natCast_nonneg _;have hii1:(i:Int)<(n:Int):=by omega
   clear hdk
   go_wp2_with fail
   go_loopw [8,9,10,30] (fun cv _ _ kk wz=>∃(k cr:Nat) (ys:List Nat),k≤m∧kk=.int .i64 k∧cv=.int .u64 (cr:Int)∧cr<4294967296∧Below W3.heap.size W3 wz∧Out M wz M (ys++List.replicate (n-i) 0)∧Hid (ys.length=i+m∧Dg ys∧natL ys+4294967296^(i+k)*cr=natL (l.take i)*natL l'+4294967296^i*(d*natL (l'.take k)))) (fun _ _ _ kk _=>m-(intOf kk).toNat)
   case atStart=>exact⟨0,0,ys,Nat.zero_le _,rfl,rfl,by decide,hbw,hO,hpre.out.1,hpre.out.2.1,by rw[hpre.out.2.2];simp[natL]⟩
   case round=>
    clear hO hbw p0 p1 q0 q1 c0
    rename World=>wz
    obtain⟨k,cr,ys,hk,rfl,rfl,hcr,hbw,hO,hpre⟩:=hrel;obtain⟨⟨p0,p1⟩,-⟩:=qak (HA.out.below hbw.b);obtain⟨⟨q0,q1⟩,-⟩:=qak (HB.out.below hbw.b)
    by_cases hltk:k<m
    ·obtain⟨b2,off2,e,rfl,hek,d0⟩:=HL'.out.at (HK.out.via hbw HK.out.size).b hltk
     have Hek:=hI hek;have helt:=Hd'.out e (List.mem_of_getElem? hek);obtain⟨o,ho⟩:∃o,ys[i+k]?=some o:=⟨ys[i+k]'(by rw[hpre.out.1];omega),by simp⟩
     have holt:=hpre.out.2.1 o (List.mem_of_getElem? ho);obtain⟨g0,g1⟩:=hO.cell (i:=i+k) (d:=o) (by rw[List.getElem?_append_left (qbs ho)];exact ho);have hb:=qt1 hdlt helt holt hcr;obtain⟨p,hp⟩:∃p,d*e=p:=⟨_,rfl⟩
     obtain⟨s,hs⟩:∃s,p+o=s:=⟨_,rfl⟩
     obtain⟨t,ht⟩:∃t,cr+s=t:=⟨_,rfl⟩
     rw[hp]at hb;have hpi:(d:Int)*(e:Int)=(p:Int):=by rw[←hp];push_cast;rfl
     have hw1:IntKind.u64.wrap ((d:Int)*(e:Int))=(p:Int):=by rw[hpi];exact IntWalk.u64_in _ (by omega)
     have hw2:IntKind.u64.wrap ((p:Int)+(o:Int))=(s:Int):=by rw[←hs];exact(IntWalk.u64_in _ (by omega)).trans (by omega)
     have hw3:IntKind.u64.wrap ((cr:Int)+(s:Int))=(t:Int):=by rw[←ht];exact(IntWalk.u64_in _ (by omega)).trans (by omega)
     have Hst:=hI (qqf (t:=t) (p:=p) ho hpre.out.2.2 (by omega));have e1:((t%4294967296:Nat):Int)=(t:Int)%4294967296:=by omega
     have e2:((t/4294967296:Nat):Int)=(t:Int)/4294967296:=by omega
     have htlt:t/4294967296<4294967296:=by omega
     have hwr:=hO.setl (qbs ho) (t%4294967296);rw[e1]at hwr;have Hwr:=hI hwr;have Hbw:=hI (hbw.setCell (p:=⟨M,i+k,none⟩) HM.out (.int .u32 ((t:Int)%4294967296)));have hkk0:(0:Int)≤(k:Int):=Int.natCast_nonneg _;have hkk1:(k:Int)<(m:Int):=by omega
     obtain⟨j,hj⟩:∃j,i+k=j:=⟨_,rfl⟩
     obtain⟨hA1,hA2,hj0,hj1⟩:=qrm hlt (Nat.le_of_lt hltk) hl1 hl2 hj;have Hj:=hI hj;rw[hj]at g0 g1 Hwr Hbw;clear hj;have Hp:=hI hp;clear hO hwr hp hs ht hpi ho hek hb
     go_wp2_with fail
     go_roundw
     case rel=>
      refine⟨k+1,t/4294967296,ys.set (i+k) (t%4294967296),by omega,by go_num,by rw[e2],htlt,Hbw.out,by rw[Hj.out];exact Hwr.out,by rw[List.length_set];exact hpre.out.1,hpre.out.2.1.set (Nat.mod_lt _ (by decide)),?_⟩
      rw[←Nat.add_assoc,Hst.out,qai Hek.out,←Hp.out,Nat.pow_add,Nat.mul_add,Nat.mul_add,Nat.mul_assoc,Nat.add_assoc,Nat.mul_left_comm d]
     case measure=>simp[intOf];omega
    ·obtain rfl:k=m:=by omega
     have hO2:Out M wz M (ys++List.replicate ((n-(i+1))+1) 0):=by rw[show n-(i+1)+1=n-i by omega];exact hO
     obtain⟨g0,g1⟩:=hO2.next;have hwr:=hO2.write cr;obtain⟨j,hj⟩:∃j,i+k=j:=⟨_,rfl⟩
     have hyl:ys.length=j:=by rw[hpre.out.1,hj]
     rw[hyl]at g0 g1 hwr;obtain⟨hA1,hA2,hj0,hj1⟩:=qrm hlt (Nat.le_refl k) hl1 hl2 hj;have Hwr:=hI hwr;have Hbel:=hI (hbw.setCell (p:=⟨M,j,none⟩) HM.out (.int .u32 (cr:Int)));have hcm:(cr:Int)%4294967296=cr:=by omega
     have hnat:natL (ys++[cr])=natL (l.take (i+1))*natL l':=by
      rw[qaq,hpre.out.1,hpre.out.2.2,List.take_of_length_le (l:=l') (by rw[Hm.out];omega),qai Hdk.out,Nat.add_mul,Nat.mul_assoc]
     have Hnat:=hI hnat;have Hyl:=hI (show(ys++[cr]).length=i+1+k by rw[List.length_append,hpre.out.1];simp;omega);clear hO hO2 hwr hj hyl hnat
     go_wp2_with fail
     go_roundw
     case rel=>exact⟨i+1,ys++[cr],by omega,by go_num,Hbel.out,Hwr.out,Hyl.out,hpre.out.2.1.append (Dg.one hcr),Hnat.out⟩
     case measure=>simp[intOf];omega
  ·obtain rfl:i=n:=by omega
   rw[Nat.sub_self,List.replicate_zero,List.append_nil]at hO;have hls:=hO.ls;rw[hpre.out.1]at hls;have H:=qbv (x !=x') _ _ _ ys wr hls hpre.out.2.1;have hnat:natL ys=y.natAbs*z.natAbs:=by rw[hpre.out.2.2,List.take_of_length_le (l:=l) (by rw[Hn.out];omega),HN.out,HN'.out]
   rw[hnat,HSg.out]at H;have HS:=hI H;have Hbw:=hI hbw;clear hO hls H hnat
   go_wp2_with (go_at_call 140;refine(HS.out).mono ?_;rintro e w5 ⟨v5,rfl,hv5,hb5⟩;obtain⟨x5,a5,k5,c5,rfl,hv5⟩:=hv5.open;have hr:=(HR.out.below Hbw.out.b).below hb5.b;obtain⟨⟨r0,r1⟩,f0,f1⟩:=qak hr)
   obtain⟨hv6,hb6⟩:=IntV.put2 hv5 hr;have hbel:=((HK.out.via (Hbw.out.via hb5 Hbw.out.size) HK.out.size).setCell (p:=⟨w.heap.size+1+1,0,none⟩) (by show w.heap.size≤w.heap.size+1+1;omega) (.bool x5)).setCell (p:=⟨w.heap.size+1+1,1,none⟩) (by show w.heap.size≤w.heap.size+1+1;omega) (.slice a5 k5 c5);obtain⟨⟨s0,s1⟩,-⟩:=qak hb6;exact bodyPost_ret (v:=.agg #[.bool x5,.slice a5 k5 c5]) (by simp[results,Tryz.results112,go_sem,s0,s1]) rfl ⟨_,rfl,hv6,hbel⟩
end Dr
theorem qdx(u v:Value)(y z:Int)(w:World)(h:IntV w u y)(h':IntV w v z)(hl1:(limbs y.natAbs).length<1000000)(hl2:(limbs z.natAbs).length<1000000):
  Calls Tryz.prog 112 #[u,v] w (RetP (fun r w'=>IntV w' r (y*z)) w):=(Dr.qdx u v y z w h h' hl1 hl2).mono fun _ _ h=>h.n
end Go.Proofs.YtacihodamichhaaGreatDoor
namespace Go.Proofs.YtacihodamichhaaGreatDoor
open Go.RowKit
theorem qn7{y:Nat}(h:(limbs y).length=1):limbs y=[y]∧y<4294967296:=by
 have h0:y≠0:=fun e=>by subst e;rw[qag]at h;simp at h
 rw[qbo h0]at h⊢
 have h1:limbs (y/4294967296)=[]:=by
  rw[List.length_cons]at h;exact List.length_eq_zero_iff.1 (by omega)
 have h2:=qb1.1 h1;have h3:y<4294967296:=by omega
 rw[h1,Nat.mod_eq_of_lt h3];exact⟨rfl,h3⟩
theorem MagV.zero(w:World):MagV w (.slice none 0 0) 0:=⟨none,0,by rw[qag];rfl,by rw[qag];exact Ls.nil w⟩
theorem qfi(a b:Option Addr)(n m c c':Nat)(x y:Nat)(w:World)(hA:Ls w (.slice a n c) (limbs x))(hB:Ls w (.slice b m c') (limbs y))(hlt:x<y):
  Calls Tryz.prog 173 #[.slice a n c,.slice b m c'] w (fun e w'=>∃q r,e=.returned (.tuple #[q,r])∧MagV w' q (x/y)∧MagV w' r (x%y)∧Below w.heap.size w w'):=by
 have H:=hI (qes _ _ _ _ _ _ _ _ w hA hB);have hc:cmpN x y=-1:=by unfold cmpN;rw[if_pos hlt]
 rw[hc]at H;have hq:x/y=0:=Nat.div_eq_of_lt hlt;have hr:x%y=x:=Nat.mod_eq_of_lt hlt;rw[hq,hr];obtain⟨_,_,hv,_,_⟩:=hA.open;cases hv
 have HA:=hI hA;clear hA hB hc hq hr
 go_enter Tryz.func173,Tryz.ntmps173
 go_wp2_with (go_at_call 143;refine(H.out).mono ?_;rintro e w1 ⟨rfl,hb1⟩)
 go_ret2
 exact⟨_,_,rfl,MagV.zero _,⟨a,c,rfl,HA.out.mono hb1⟩,hb1⟩
end Go.Proofs.YtacihodamichhaaGreatDoor
