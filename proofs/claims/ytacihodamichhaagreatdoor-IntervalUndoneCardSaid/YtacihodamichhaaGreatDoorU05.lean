/- Parts of the proof. -/
import Derived.Deep.LoopGhost
import Derived.Test.YtacihodamichhaaGreatDoorU04
set_option maxHeartbeats 8000000
namespace Go.Proofs.YtacihodamichhaaGreatDoor
open Go.RowKit
theorem qqg(r d:Nat)(hd:d<4294967296):r*4294967296 ||| d=r*4294967296+d:=by
 have h:=Nat.two_pow_add_eq_or_of_lt (i:=32) (b:=d) (show d<2^32 from hd) r;rw[Nat.mul_comm r];exact h.symm
theorem qw4{r d b:Nat}(hr:r<b)(hd:d<4294967296):(r*4294967296+d)/b<4294967296:=by
 rw[Nat.div_lt_iff_lt_mul (by omega),Nat.mul_comm 4294967296];have:(r+1)*4294967296≤b*4294967296:=Nat.mul_le_mul_right _ hr
 omega
theorem qxt{r b d:Nat}(hr:r<b)(hb:b<4294967296)(hd:d<4294967296):r*4294967296+d<18446744073709551616:=by
 have:r*4294967296≤4294967294*4294967296:=Nat.mul_le_mul_right _ (by omega)
 omega
theorem Out.low{M:Nat}{w:World}{g n:Nat}{done:List Nat}(h:Out M w g (List.replicate (n+1) 0++done)):w.cell? ⟨g,n,none⟩=some (.int .u32 0)∧w.frozen? ⟨g,n,none⟩=false:=
 h.cell (i:=n) (d:=0) (by rw[List.getElem?_append_left (by simp)];simp)
theorem Out.writeLow{M:Nat}{w:World}{g n:Nat}{done:List Nat}(h:Out M w g (List.replicate (n+1) 0++done))(d:Nat):Out M (w.setCell ⟨g,n,none⟩ (.int .u32 (d:Int))) g (List.replicate n 0++(d::done)):=by
 have:=h.set (i:=n) (by simp;omega) d
 rwa [qmv]at this
theorem qmf(a:Option Addr)(n c:Nat)(l:List Nat)(by':Nat)(w:World)(hL:Ls w (.slice a n c) l)(hd:Dg l)(hn1:l.length<1000000)(hby:by'<4294967296)(hby0:0<by'):
  Calls Tryz.prog 147 #[.slice a n c,.int .u32 (by':Int)] w (fun e w'=>∃v,e=.returned (.tuple #[v,.int .u32 ((natL l%by':Nat):Int)])∧MagA w' v (natL l/by')∧Below w.heap.size w w'):=by
 obtain⟨_,_,hq,hc1,hc2⟩:=hL.open;cases hq
 unfold maxLen at hc2;have hi:(Tryz.prog.info? 62).map (fun i=>(i.zero,i.size,i.bytes))=some (some (.int .u32 0),1,4):=by kernel_rfl
 obtain⟨i4,hi4,hz0,hz1,hz2⟩:=info_parts hi;clear hi;have HL:=hI hL;have Hd:=hI hd;clear hL hd;generalize hn:l.length=n at*;have Hn:=hI hn;clear hn
 go_enter Tryz.func147,Tryz.ntmps147
 go_wp2_with (at_make;refine wpList_make_full _ rfl _ _ 73 rfl (w.heap.size) 62 i4 (.int .u32 0) 1 Tryz.underlying73 hi4 hz0 hz1 .i64 .i64 _ _ n rfl rfl (by omega) (by omega) (by rw[hz2];omega) (by unfold maxLen;omega) (by simp) ?_;intro w1 hown hg)
 have hO:=Out.made hown;have hb1:Below w.heap.size w w1:=(Below.refl _ _).grown hg (Nat.le_refl _) (fun b hb=>by cases hb);clear hown hg hi4 hz0 hz1 hz2
 go_loopw [7,8] (fun rv i wr=>∃(k r:Nat) (done:List Nat),k≤n∧i=.int .i64 ((k:Int)-1)∧rv=.int .u64 (r:Int)∧r<by'∧Below w.heap.size w wr∧Out w.heap.size wr w.heap.size (List.replicate k 0++done)∧Hid (done.length=n-k∧Dg done∧natL done*by'+r=natL (l.drop k))) (fun _ i _=>(intOf i+1).toNat)
 case atStart=>exact⟨n,0,[],Nat.le_refl _,rfl,rfl,hby0,hb1,by rw[List.append_nil];exact hO,by rw[Nat.sub_self];rfl,(fun d hd=>by simp at hd),by rw[List.drop_eq_nil_of_le (by rw[Hn.out];exact Nat.le_refl _)];simp[natL]⟩
 case round=>
  clear hO hb1;obtain⟨k,r,done,hk,rfl,rfl,hr,hbw,hO,hpre⟩:=hrel;rcases k with _|j
  ·rw[List.replicate_zero,List.nil_append]at hO
   have HAu:=hI hO.au;have hls:=hO.ls;have hlen:done.length=n:=hpre.out.1;rw[hlen]at hls;have heq:natL done*by'+r=natL l:=by have:=hpre.out.2.2;rwa [List.drop_zero]at this
   have hq1:natL done=natL l/by':=by
    rw[←heq,Nat.mul_comm,Nat.mul_add_div hby0,Nat.div_eq_of_lt hr,Nat.add_zero]
   have hr1:r=natL l%by':=by
    rw[←heq,Nat.mul_comm,Nat.mul_add_mod,Nat.mod_eq_of_lt hr]
   have H:=qc0 _ _ _ _ _ hls hpre.out.2.1;rw[hq1]at H;have HT:=hI H;have Hr1:=hI hr1;have hrm:(r:Int)%4294967296=r:=by omega
   have Hbw:=hI hbw;clear hO hls hlen heq hq1 hr1 H hbw
   go_wp2_with (go_at_call 172;refine(HT.out).mono ?_;rintro e w2 ⟨rfl,hl2,hb2⟩)
   go_ret2
   exact⟨_,by rw[←Hr1.out];rfl,⟨_,_,rfl,hl2.mono hb2,HAu.out.mono (hb2)⟩,Hbw.out.via hb2 Hbw.out.size⟩
  ·obtain⟨b1,off,d,rfl,hdk,c0⟩:=HL.out.at hbw (show j<n by omega)
   have Hdk:=hI hdk;have hdlt:=Hd.out d (List.mem_of_getElem? hdk);have hij:((((j+1:Nat):Int)-1))=(j:Int):=by omega
   rw[hij];have hi64:IntKind.i64.wrap (j:Int)=j:=IntWalk.i64_in _ (by omega);have hj0:(0:Int)≤(j:Int):=Int.natCast_nonneg _;have hjn:(j:Int)<(n:Int):=by omega
   obtain⟨g0,g1⟩:=hO.low;have hm:=qxt hr hby hdlt;obtain⟨t,ht⟩:∃t,r*4294967296+d=t:=⟨_,rfl⟩
   have hor:bits .or .u64 ((r:Int)*4294967296) (d:Int)=(t:Int):=by
    have h:=u64_or_nat (r*4294967296) d (Nat.lt_of_le_of_lt (Nat.le_add_right _ d) hm) (Nat.lt_trans hdlt (by decide));rw[qqg r d hdlt,ht]at h;have e:((r*4294967296:Nat):Int)=(r:Int)*4294967296:=by omega
    rw[←e];exact h
   obtain⟨q,hq⟩:∃q,t/by'=q:=⟨_,rfl⟩
   obtain⟨s,hs⟩:∃s,t%by'=s:=⟨_,rfl⟩
   have hqlt:q<4294967296:=by rw[←hq,←ht];exact qw4 hr hdlt
   have hslt:s<by':=by rw[←hs];exact Nat.mod_lt _ hby0
   have hqi:(t:Int)/(by':Int)=(q:Int):=by rw[←hq];rfl
   have hsi:(t:Int)%(by':Int)=(s:Int):=by rw[←hs];rfl
   have hqw:IntKind.u64.wrap ((t:Int)/(by':Int))=(q:Int):=by rw[hqi];exact IntWalk.u64_in _ (by omega)
   have hqm:(q:Int)%4294967296=(q:Int):=by omega
   have hby0':(by':Int)≠0:=by omega
   have Hst:=hI (qif (d:=d) hpre.out.2.2);rw[ht,hq,hs]at Hst;have hwr:=hO.writeLow q;have Hwr:=hI hwr;have Hbw:=hI (hbw.setCell (p:=⟨w.heap.size,j,none⟩) (Nat.le_refl _) (.int .u32 (q:Int)));have Hhm:=hI hm;clear hwr hO hqi hq hs ht hm hdk
   go_wp2_with fail
   go_roundw
   case rel=>
    refine⟨j,s,q::done,by omega,by go_num,by rw[hsi],hslt,Hbw.out,Hwr.out,by rw[List.length_cons,hpre.out.1];omega,?_,?_⟩
    ·intro x hx
     rcases List.mem_cons.1 hx with rfl|hx
     ·exact hqlt
     ·exact hpre.out.2.1 x hx
    ·rw[Hst.out,qhm Hdk.out]
   case measure=>simp[intOf]<;>omega
theorem qpj(a:Option Addr)(n c:Nat)(l:List Nat)(by':Nat)(w:World)(hL:Ls w (.slice a n c) l)(hd:Dg l)(hn1:l.length<1000000)(hby:by'<4294967296)(hby0:0<by'):
  Calls Tryz.prog 147 #[.slice a n c,.int .u32 (by':Int)] w (fun e w'=>∃v,e=.returned (.tuple #[v,.int .u32 ((natL l%by':Nat):Int)])∧MagV w' v (natL l/by')∧Below w.heap.size w w'):=
 (qmf a n c l by' w hL hd hn1 hby hby0).mono fun _ _ ⟨v,he,h,hb⟩=>⟨v,he,h.mag,hb⟩
end Go.Proofs.YtacihodamichhaaGreatDoor
namespace Go.Proofs.YtacihodamichhaaGreatDoor
open Go.RowKit
theorem qta{ys:List Nat}{j o t cr p S:Nat}(hj:ys[j]?=some o)(h:natL ys+4294967296^j*cr=S)(ht:cr+(p+o)=t):natL (ys.set j (t%4294967296))+4294967296^(j+1)*(t/4294967296)=S+4294967296^j*p:=by
 have h1:=qjc (qbw hj) (t%4294967296);rw[qgh hj]at h1;have h2:4294967296^j*(t%4294967296)+4294967296^j*(4294967296*(t/4294967296))=4294967296^j*t:=by rw[←Nat.mul_add,Nat.mod_add_div]
 have h3:4294967296^j*t=4294967296^j*cr+(4294967296^j*p+4294967296^j*o):=by rw[←ht,Nat.mul_add,Nat.mul_add]
 rw[Nat.pow_succ,Nat.mul_assoc]
 omega
theorem qui{i k n m j:Nat}(h1:i<n)(h2:k≤m)(hn:n<1000000)(hm:m<1000000)(hj:i+k=j):IntKind.i64.wrap ((i:Int)+(k:Int))=(j:Int)∧wrap64 ((i:Int)+(k:Int))=(j:Int)∧(0:Int)≤(j:Int)∧(j:Int)<(n:Int)+(m:Int):=by
 subst hj;exact⟨(IntWalk.i64_in _ (by omega)).trans (by omega),(IntWalk.wrap64_in _ (by omega)).trans (by omega),by omega,by omega⟩
theorem qxc{x y o cr:Nat}(hx:x<4294967296)(hy:y<4294967296)(ho:o<4294967296)(hc:cr<4294967296):x*y+o+cr<18446744073709551616:=by
 have:x*y≤4294967295*4294967295:=Nat.mul_le_mul (by omega) (by omega)
 omega
theorem Dg.set{l:List Nat}(h:Dg l){j v:Nat}(hv:v<4294967296):Dg (l.set j v):=fun d hd=>by
 rcases List.mem_or_eq_of_mem_set hd with hd|rfl
 ·exact h d hd
 ·exact hv
theorem Out.setl{M:Nat}{w:World}{g:Nat}{ys zs:List Nat}(h:Out M w g (ys++zs)){j:Nat}(hj:j<ys.length)(d:Nat):Out M (w.setCell ⟨g,j,none⟩ (.int .u32 (d:Int))) g (ys.set j d++zs):=by
 have:=h.set (i:=j) (by rw[List.length_append];omega) d
 rwa [List.set_append_left _ _ hj]at this
namespace Dr
set_option maxRecDepth 100000 in
theorem qbz(u v:Value)(y z:Int)(w:World)(h:IntV w u y)(h':IntV w v z)(hl1:(limbs y.natAbs).length<1000000)(hl2:(limbs z.natAbs).length<1000000):
  Calls Tryz.prog 112 #[u,v] w (RetP (fun r w'=>IntV w' r (y*z)) w):=by
 obtain⟨a,c,rfl,hl⟩:=h;obtain⟨a',c',rfl,hl'⟩:=h'
 have hsg:sgn (decide (y<0)!=decide (z<0)) (y.natAbs*z.natAbs)=y*z:=by
  have e1:=qj6 y;have e2:=qj6 z
  by_cases hy:y<0<;>by_cases hz:z<0
  ·rw[decide_eq_true hy,decide_eq_true hz];simp only[sgn,bne_self_eq_false,Bool.false_eq_true,if_false]
   rw[Int.natCast_mul,show(y.natAbs:Int)=-y by omega,show(z.natAbs:Int)=-z by omega,Int.neg_mul_neg]
  ·rw[decide_eq_true hy,decide_eq_false hz];simp only[sgn]
   rw[Int.natCast_mul,show(y.natAbs:Int)=-y by omega,show(z.natAbs:Int)=z by omega,Int.neg_mul];simp
  ·rw[decide_eq_false hy,decide_eq_true hz];simp only[sgn]
   rw[Int.natCast_mul,show(y.natAbs:Int)=y by omega,show(z.natAbs:Int)=-z by omega,Int.mul_neg];simp
  ·rw[decide_eq_false hy,decide_eq_false hz];simp only[sgn,bne_self_eq_false,Bool.false_eq_true,if_false]
   rw[Int.natCast_mul,show(y.natAbs:Int)=y by omega,show(z.natAbs:Int)=z by omega]
 have HSg:=hI hsg;clear hsg;obtain⟨_,_,hq,hc1,hc2⟩:=hl.open;cases hq
 obtain⟨_,_,hq,hc3,hc4⟩:=hl'.open;cases hq
 unfold maxLen at hc2 hc4;have hi:(Tryz.prog.info? 62).map (fun i=>(i.zero,i.size,i.bytes))=some (some (.int .u32 0),1,4):=by kernel_rfl
 obtain⟨i4,hi4,hz0,hz1,hz2⟩:=info_parts hi;clear hi;have Hd:=hI (qal y.natAbs);have Hd':=hI (qal z.natAbs);have HN:=hI (qai y.natAbs);have HN':=hI (qai z.natAbs);have HL:=hI hl;have HL':=hI hl';clear hl hl';generalize limbs y.natAbs=l at*;generalize limbs z.natAbs=l' at*;generalize hn:l.length=n at*;generalize hm:l'.length=m at*;have Hn:=hI hn;have Hm:=hI hm;clear hn hm;generalize decide (y<0)=x at*;generalize decide (z<0)=x' at*;have hK:=qes w (.cells #[.bool x,.slice a n c] 75) (.cells #[.bool x',.slice a' m c'] 75) (.cells #[.bool false,.slice none 0 0] 75);have hA:Blk (((w.alloc (.cells #[.bool x,.slice a n c] 75)).alloc (.cells #[.bool x',.slice a' m c'] 75)).alloc (.cells #[.bool false,.slice none 0 0] 75)) w.heap.size #[.bool x,.slice a n c] 75:=((Blk.new w _ _).old _).old _
 have hB:Blk (((w.alloc (.cells #[.bool x,.slice a n c] 75)).alloc (.cells #[.bool x',.slice a' m c'] 75)).alloc (.cells #[.bool false,.slice none 0 0] 75)) (w.heap.size+1) #[.bool x',.slice a' m c'] 75:=by
  have h:=(Blk.new (w.alloc (.cells #[.bool x,.slice a n c] 75)) #[.bool x',.slice a' m c'] 75).old (.cells #[.bool false,.slice none 0 0] 75)
  simpa using h
 have hR:Blk (((w.alloc (.cells #[.bool x,.slice a n c] 75)).alloc (.cells #[.bool x',.slice a' m c'] 75)).alloc (.cells #[.bool false,.slice none 0 0] 75)) (w.heap.size+1+1) #[.bool false,.slice none 0 0] 75:=by
  have h:=Blk.new ((w.alloc (.cells #[.bool x,.slice a n c] 75)).alloc (.cells #[.bool x',.slice a' m c'] 75)) #[.bool false,.slice none 0 0] 75
  simpa using h
 have HK:=hI hK;have HA:=hI hA;have HB:=hI hB;have HR:=hI hR;clear hK hA hB hR
 go_enter Tryz.func112,Tryz.ntmps112
 have hW3:(((w.alloc (.cells #[.bool x,.slice a n c] 75)).alloc (.cells #[.bool x',.slice a' m c'] 75)).alloc (.cells #[.bool false,.slice none 0 0] 75)).heap.size=w.heap.size+1+1+1:=by simp
 go_wp2_with (at_make;refine wpList_make_full _ rfl _ _ 73 rfl (w.heap.size+1+1+1) 62 i4 (.int .u32 0) 1 Tryz.underlying73 hi4 hz0 hz1 .i64 .i64 _ _ (n+m) rfl rfl (by omega) (by omega) (by rw[hz2];omega) (by unfold maxLen;omega) (by simp) ?_;intro w1 hown hg;obtain⟨⟨p0,p1⟩,-⟩:=qag (HA.out.below ((Below.refl _ _).grown hg (Nat.le_refl _) (fun b hb=>by cases hb)).b);obtain⟨⟨q0,q1⟩,-⟩:=qag (HB.out.below ((Below.refl _ _).grown hg (Nat.le_refl _) (fun b hb=>by cases hb)).b))
 rw[hW3]at hown;have hO:=Out.made hown;have hb1:Below (((w.alloc (.cells #[.bool x,.slice a n c] 75)).alloc (.cells #[.bool x',.slice a' m c'] 75)).alloc (.cells #[.bool false,.slice none 0 0] 75)).heap.size (((w.alloc (.cells #[.bool x,.slice a n c] 75)).alloc (.cells #[.bool x',.slice a' m c'] 75)).alloc (.cells #[.bool false,.slice none 0 0] 75)) w1:=(Below.refl _ _).grown hg (Nat.le_refl _) (fun b hb=>by cases hb);clear hown hg hi4 hz0 hz1 hz2 q0 q1 p0 p1;generalize(((w.alloc (.cells #[.bool x,.slice a n c] 75)).alloc (.cells #[.bool x',.slice a' m c'] 75)).alloc (.cells #[.bool false,.slice none 0 0] 75))=W3 at*
 have hO1:Out (w.heap.size+1+1+1) w1 (w.heap.size+1+1+1) (List.replicate m 0++List.replicate n 0):=by
  rw[List.replicate_append_replicate,Nat.add_comm m n];exact hO
 have hMle:W3.heap.size≤w.heap.size+1+1+1:=Nat.le_of_eq hW3;have HM:=hI hMle;generalize hMM:w.heap.size+1+1+1=M at*;have HMM:=hI hMM;clear hO hW3 hMM hMle
 go_loopw [6,7,8,9,10,22] (fun _ _ _ _ _ i wr=>∃(k:Nat) (ys:List Nat),k≤n∧i=.int .i64 k∧Below W3.heap.size W3 wr∧Out M wr M (ys++List.replicate (n-k) 0)∧Hid (ys.length=k+m∧Dg ys∧natL ys=natL (l.take k)*natL l')) (fun _ _ _ _ _ i _=>n-(intOf i).toNat)
 case atStart=>exact⟨0,List.replicate m 0,Nat.zero_le _,rfl,hb1,hO1,by simp,Dg.zeros m,by rw[qcl];simp[natL]⟩
 case round=>
  clear hO1 hb1;obtain⟨i,ys,hi,rfl,hbw,hO,hpre⟩:=hrel;obtain⟨⟨p0,p1⟩,-⟩:=qag (HA.out.below hbw.b);obtain⟨⟨q0,q1⟩,-⟩:=qag (HB.out.below hbw.b)
  by_cases hlt:i<n
  ·obtain⟨b1,off,d,rfl,hdk,c0⟩:=HL.out.at (HK.out.via hbw HK.out.size).b hlt
   have Hdk:=hI hdk;have hdlt:=Hd.out d (List.mem_of_getElem? hdk);have hii0:(0:Int)≤(i:Int):=Int.natCast_nonneg _;have hii1:(i:Int)<(n:Int):=by omega
   clear hdk
   go_wp2_with fail
   go_loopw [8,9,10,30] (fun cv _ _ kk wz=>∃(k cr:Nat) (ys:List Nat),k≤m∧kk=.int .i64 k∧cv=.int .u64 (cr:Int)∧cr<4294967296∧Below W3.heap.size W3 wz∧Out M wz M (ys++List.replicate (n-i) 0)∧Hid (ys.length=i+m∧Dg ys∧natL ys+4294967296^(i+k)*cr=natL (l.take i)*natL l'+4294967296^i*(d*natL (l'.take k)))) (fun _ _ _ kk _=>m-(intOf kk).toNat)
   case atStart=>exact⟨0,0,ys,Nat.zero_le _,rfl,rfl,by decide,hbw,hO,hpre.out.1,hpre.out.2.1,by rw[hpre.out.2.2];simp[natL]⟩
   case round=>
    clear hO hbw p0 p1 q0 q1 c0
    rename World=>wz
    obtain⟨k,cr,ys,hk,rfl,rfl,hcr,hbw,hO,hpre⟩:=hrel;obtain⟨⟨p0,p1⟩,-⟩:=qag (HA.out.below hbw.b);obtain⟨⟨q0,q1⟩,-⟩:=qag (HB.out.below hbw.b)
    by_cases hltk:k<m
    ·obtain⟨b2,off2,e,rfl,hek,d0⟩:=HL'.out.at (HK.out.via hbw HK.out.size).b hltk
     have Hek:=hI hek;have helt:=Hd'.out e (List.mem_of_getElem? hek);obtain⟨o,ho⟩:∃o,ys[i+k]?=some o:=⟨ys[i+k]'(by rw[hpre.out.1];omega),by simp⟩
     have holt:=hpre.out.2.1 o (List.mem_of_getElem? ho);obtain⟨g0,g1⟩:=hO.cell (i:=i+k) (d:=o) (by rw[List.getElem?_append_left (qbw ho)];exact ho);have hb:=qxc hdlt helt holt hcr;obtain⟨p,hp⟩:∃p,d*e=p:=⟨_,rfl⟩
     obtain⟨s,hs⟩:∃s,p+o=s:=⟨_,rfl⟩
     obtain⟨t,ht⟩:∃t,cr+s=t:=⟨_,rfl⟩
     rw[hp]at hb;have hpi:(d:Int)*(e:Int)=(p:Int):=by rw[←hp];push_cast;rfl
     have hw1:IntKind.u64.wrap ((d:Int)*(e:Int))=(p:Int):=by rw[hpi];exact IntWalk.u64_in _ (by omega)
     have hw2:IntKind.u64.wrap ((p:Int)+(o:Int))=(s:Int):=by rw[←hs];exact(IntWalk.u64_in _ (by omega)).trans (by omega)
     have hw3:IntKind.u64.wrap ((cr:Int)+(s:Int))=(t:Int):=by rw[←ht];exact(IntWalk.u64_in _ (by omega)).trans (by omega)
     have Hst:=hI (qta (t:=t) (p:=p) ho hpre.out.2.2 (by omega));have e1:((t%4294967296:Nat):Int)=(t:Int)%4294967296:=by omega
     have e2:((t/4294967296:Nat):Int)=(t:Int)/4294967296:=by omega
     have htlt:t/4294967296<4294967296:=by omega
     have hwr:=hO.setl (qbw ho) (t%4294967296);rw[e1]at hwr;have Hwr:=hI hwr;have Hbw:=hI (hbw.setCell (p:=⟨M,i+k,none⟩) HM.out (.int .u32 ((t:Int)%4294967296)));have hkk0:(0:Int)≤(k:Int):=Int.natCast_nonneg _;have hkk1:(k:Int)<(m:Int):=by omega
     obtain⟨j,hj⟩:∃j,i+k=j:=⟨_,rfl⟩
     obtain⟨hA1,hA2,hj0,hj1⟩:=qui hlt (Nat.le_of_lt hltk) hl1 hl2 hj;have Hj:=hI hj;rw[hj]at g0 g1 Hwr Hbw;clear hj;have Hp:=hI hp;clear hO hwr hp hs ht hpi ho hek hb
     go_wp2_with fail
     go_roundw
     case rel=>
      refine⟨k+1,t/4294967296,ys.set (i+k) (t%4294967296),by omega,by go_num,by rw[e2],htlt,Hbw.out,by rw[Hj.out];exact Hwr.out,by rw[List.length_set];exact hpre.out.1,hpre.out.2.1.set (Nat.mod_lt _ (by decide)),?_⟩
      rw[←Nat.add_assoc,Hst.out,qaj Hek.out,←Hp.out,Nat.pow_add,Nat.mul_add,Nat.mul_add,Nat.mul_assoc,Nat.add_assoc,Nat.mul_left_comm d]
     case measure=>simp[intOf];omega
    ·obtain rfl:k=m:=by omega
     have hO2:Out M wz M (ys++List.replicate ((n-(i+1))+1) 0):=by rw[show n-(i+1)+1=n-i by omega];exact hO
     obtain⟨g0,g1⟩:=hO2.next;have hwr:=hO2.write cr;obtain⟨j,hj⟩:∃j,i+k=j:=⟨_,rfl⟩
     have hyl:ys.length=j:=by rw[hpre.out.1,hj]
     rw[hyl]at g0 g1 hwr;obtain⟨hA1,hA2,hj0,hj1⟩:=qui hlt (Nat.le_refl k) hl1 hl2 hj;have Hwr:=hI hwr;have Hbel:=hI (hbw.setCell (p:=⟨M,j,none⟩) HM.out (.int .u32 (cr:Int)));have hcm:(cr:Int)%4294967296=cr:=by omega
     have hnat:natL (ys++[cr])=natL (l.take (i+1))*natL l':=by
      rw[qaw,hpre.out.1,hpre.out.2.2,List.take_of_length_le (l:=l') (by rw[Hm.out];omega),qaj Hdk.out,Nat.add_mul,Nat.mul_assoc]
     have Hnat:=hI hnat;have Hyl:=hI (show(ys++[cr]).length=i+1+k by rw[List.length_append,hpre.out.1];simp;omega);clear hO hO2 hwr hj hyl hnat
     go_wp2_with fail
     go_roundw
     case rel=>exact⟨i+1,ys++[cr],by omega,by go_num,Hbel.out,Hwr.out,Hyl.out,hpre.out.2.1.append (Dg.one hcr),Hnat.out⟩
     case measure=>simp[intOf];omega
  ·obtain rfl:i=n:=by omega
   rw[Nat.sub_self,List.replicate_zero,List.append_nil]at hO;have hls:=hO.ls;rw[hpre.out.1]at hls;have H:=qbp (x !=x') _ _ _ ys wr hls hpre.out.2.1;have hnat:natL ys=y.natAbs*z.natAbs:=by rw[hpre.out.2.2,List.take_of_length_le (l:=l) (by rw[Hn.out];omega),HN.out,HN'.out]
   rw[hnat,HSg.out]at H;have HS:=hI H;have Hbw:=hI hbw;clear hO hls H hnat
   go_wp2_with (go_at_call 140;refine(HS.out).mono ?_;rintro e w5 ⟨v5,rfl,hv5,hb5⟩;obtain⟨x5,a5,k5,c5,rfl,hv5⟩:=hv5.open;have hr:=(HR.out.below Hbw.out.b).below hb5.b;obtain⟨⟨r0,r1⟩,f0,f1⟩:=qag hr)
   obtain⟨hv6,hb6⟩:=IntV.put2 hv5 hr;have hbel:=((HK.out.via (Hbw.out.via hb5 Hbw.out.size) HK.out.size).setCell (p:=⟨w.heap.size+1+1,0,none⟩) (by show w.heap.size≤w.heap.size+1+1;omega) (.bool x5)).setCell (p:=⟨w.heap.size+1+1,1,none⟩) (by show w.heap.size≤w.heap.size+1+1;omega) (.slice a5 k5 c5);obtain⟨⟨s0,s1⟩,-⟩:=qag hb6;exact bodyPost_ret (v:=.agg #[.bool x5,.slice a5 k5 c5]) (by simp[results,Tryz.results112,go_sem,s0,s1]) rfl ⟨_,rfl,hv6,hbel⟩
end Dr
theorem qbz(u v:Value)(y z:Int)(w:World)(h:IntV w u y)(h':IntV w v z)(hl1:(limbs y.natAbs).length<1000000)(hl2:(limbs z.natAbs).length<1000000):
  Calls Tryz.prog 112 #[u,v] w (RetP (fun r w'=>IntV w' r (y*z)) w):=(Dr.qbz u v y z w h h' hl1 hl2).mono fun _ _ h=>h.n
end Go.Proofs.YtacihodamichhaaGreatDoor
namespace Go.Proofs.YtacihodamichhaaGreatDoor
open Go.RowKit
theorem qq4{y:Nat}(h:(limbs y).length=1):limbs y=[y]∧y<4294967296:=by
 have h0:y≠0:=fun e=>by subst e;rw[qah]at h;simp at h
 rw[qbg h0]at h⊢
 have h1:limbs (y/4294967296)=[]:=by
  rw[List.length_cons]at h;exact List.length_eq_zero_iff.1 (by omega)
 have h2:=qbs.1 h1;have h3:y<4294967296:=by omega
 rw[h1,Nat.mod_eq_of_lt h3];exact⟨rfl,h3⟩
theorem MagV.zero(w:World):MagV w (.slice none 0 0) 0:=⟨none,0,by rw[qah];rfl,by rw[qah];exact Ls.nil w⟩
theorem qky(a b:Option Addr)(n m c c':Nat)(x y:Nat)(w:World)(hA:Ls w (.slice a n c) (limbs x))(hB:Ls w (.slice b m c') (limbs y))(hlt:x<y):
  Calls Tryz.prog 173 #[.slice a n c,.slice b m c'] w (fun e w'=>∃q r,e=.returned (.tuple #[q,r])∧MagV w' q (x/y)∧MagV w' r (x%y)∧Below w.heap.size w w'):=by
 have H:=hI (qfv _ _ _ _ _ _ _ _ w hA hB);have hc:cmpN x y=-1:=by unfold cmpN;rw[if_pos hlt]
 rw[hc]at H;have hq:x/y=0:=Nat.div_eq_of_lt hlt;have hr:x%y=x:=Nat.mod_eq_of_lt hlt;rw[hq,hr];obtain⟨_,_,hv,_,_⟩:=hA.open;cases hv
 have HA:=hI hA;clear hA hB hc hq hr
 go_enter Tryz.func173,Tryz.ntmps173
 go_wp2_with (go_at_call 143;refine(H.out).mono ?_;rintro e w1 ⟨rfl,hb1⟩)
 go_ret2
 exact⟨_,_,rfl,MagV.zero _,⟨a,c,rfl,HA.out.mono hb1⟩,hb1⟩
end Go.Proofs.YtacihodamichhaaGreatDoor
namespace Go.Proofs.YtacihodamichhaaGreatDoor
open Go.RowKit
theorem Ls.one{w:World}{b d:Nat}{T:TypeId}(h:Blk w b #[.int .u32 (d:Int)] T):Ls w (.slice (some ⟨b,0,none⟩) 1 1) [d]:=by
 refine⟨_,_,rfl,by simp[u32s],by unfold maxLen;omega,.inr ⟨b,0,rfl,h.lt,fun i j hi hj=>?_⟩⟩
 rw[h.cell];simp only[u32s,List.map_cons,List.map_nil,List.length_cons,List.length_nil]at hi;obtain rfl:j=0:=by omega
 obtain rfl:i=0:=by omega
 rfl
def Few(N:Nat):Prop:=(limbs N).length<1000000
theorem qo1(a b:Option Addr)(n m c c':Nat)(x y:Nat)(w:World)(hA:Ls w (.slice a n c) (limbs x))(hB:Ls w (.slice b m c') (limbs y))(hle:y≤x)(h1:(limbs y).length=1)(hn:(limbs x).length<1000000):
  Calls Tryz.prog 173 #[.slice a n c,.slice b m c'] w (fun e w'=>∃q r,e=.returned (.tuple #[q,r])∧MagV w' q (x/y)∧MagV w' r (x%y)∧Below w.heap.size w w'):=by
 have H:=hI (qfv _ _ _ _ _ _ _ _ w hA hB);have hc:=qfh hle;obtain⟨hl1,hy32⟩:=qq4 h1
 have hy0:0<y:=by
  rcases Nat.eq_zero_or_pos y with h|h
  ·subst h;rw[qah]at h1;simp at h1
  ·exact h
 generalize cmpN x y=R at*;have hc2:¬R<0:=by omega
 clear hc hle h1;obtain⟨r,hr⟩:∃r,x%y=r:=⟨_,rfl⟩
 obtain⟨q,hq⟩:∃q,x/y=q:=⟨_,rfl⟩
 have hrlt:r<4294967296:=by have:=Nat.mod_lt x hy0;omega
 have HS:=hI (fun w1 (hb1:Below w.heap.size w w1)=>qpj a n c (limbs x) y w1 (hA.mono hb1) (qal x) hn hy32 hy0);rw[qai,hr,hq]at HS;rw[hr,hq];have HT:=hI (fun w2:World=>qc0 (some ⟨w2.heap.size,0,none⟩) 1 1 [r] (w2.alloc (.cells #[.int .u32 (r:Int)] 62)) (Ls.one (Blk.new _ _ _)) (Dg.one hrlt));have hnr:natL [r]=r:=by simp[natL]
 rw[hnr]at HT;obtain⟨_,_,hv,_,_⟩:=hA.open;cases hv
 rw[hl1]at hB;obtain⟨_,_,hv,_,_⟩:=hB.open;cases hv
 have HB:=hI hB;clear hA hB hl1 hy32 hrlt hnr hr hq;simp only[List.length_cons,List.length_nil,Nat.zero_add]at H HB⊢
 go_enter Tryz.func173,Tryz.ntmps173
 go_wp2_with (first
  |(go_at_call 143;refine(H.out).mono ?_;rintro e w1 ⟨rfl,hb1⟩;obtain⟨bb,off,d,rfl,hd,c0⟩:=HB.out.at hb1 (show 0<1 by decide);cases hd;rw[Nat.add_zero]at c0)
  |(go_at_call 147;refine(HS.out _ hb1).mono ?_;rintro e w2 ⟨v,rfl,hv,hb2⟩)
  |(go_at_call 172;refine(HT.out _).mono ?_;rintro e w3 ⟨rfl,hl3,hb3⟩))
 have hb23:=((Below.refl w2.heap.size w2).alloc (Nat.le_refl _) _).via hb3 (by simp)
 go_ret2
 exact⟨_,_,rfl,hv.mono hb23,⟨_,_,rfl,hl3.mono hb3⟩,(hb1.via hb2 hb1.size).via hb23 (Nat.le_trans hb1.size hb2.size)⟩
end Go.Proofs.YtacihodamichhaaGreatDoor
namespace Go.Proofs.YtacihodamichhaaGreatDoor
open Go.RowKit
def natS(l:List UInt8):Nat:=l.foldl (fun n c=>n*10+(c.toNat-48)) 0
def valS:List UInt8→Int
 |[]=>0
 |c::r=>if c=45 then -(natS r:Int)else natS (c::r)
def val(s:ByteArray):Int:=valS s.data.toList
structure Cut where
 b:Int
 s:ByteArray
 d:Int
def or3(x y z:Int):Int:=if x≠0 then x else if y≠0 then y else z
theorem ql6{a b:Int}:cmpZ a b<0↔a<b:=by
 unfold cmpZ;split
 ·simp[*]
 ·split<;>simp<;>omega
theorem qdk{a b:Int}:cmpZ a b=0↔a=b:=by
 unfold cmpZ;split
 ·simp;omega
 ·split<;>simp<;>omega
theorem qjw(a b:Int):cmpZ b a=-cmpZ a b:=by
 unfold cmpZ;split<;>split<;>first|rfl|omega|(split<;>first|rfl|omega)
def CLt(x y:Cut):Prop:=x.b<y.b∨(x.b=y.b∧(val x.s<val y.s∨(val x.s=val y.s∧x.d<y.d)))
instance (x y:Cut):Decidable (CLt x y):=by unfold CLt;infer_instance
end Go.Proofs.YtacihodamichhaaGreatDoor
namespace Go.Proofs.YtacihodamichhaaGreatDoor
open Go.RowKit
def RatV(w:World)(v:Value)(p q:Int):Prop:=∃x a n c x' a' n' c',v=.agg #[.bool x,.slice a n c,.bool x',.slice a' n' c']∧IntV w (.agg #[.bool x,.slice a n c]) p∧IntV w (.agg #[.bool x',.slice a' n' c']) q
theorem RatV.mono{w w':World}{v:Value}{p q:Int}(h:RatV w v p q)(hb:Below w.heap.size w w'):RatV w' v p q:=by
 obtain⟨x,a,n,c,x',a',n',c',hv,h1,h2⟩:=h;exact⟨x,a,n,c,x',a',n',c',hv,h1.mono hb,h2.mono hb⟩
theorem IntV.zero(w:World):IntV w (.agg #[.bool false,.slice none 0 0]) 0:=by
 have h0:limbs (Int.natAbs 0)=[]:=qah;exact⟨none,0,by rw[h0];rfl,by rw[h0];exact Ls.nil w⟩
theorem qdf{B b:Nat}{w w1:World}(x:Bool)(a:Option Addr)(k c:Nat)(h:Below B w w1)(hB:B≤b):Below B w ((w1.setCell ⟨b,0,none⟩ (.bool x)).setCell ⟨b,1,none⟩ (.slice a k c)):=
 (h.setCell (p:=⟨b,0,none⟩) hB _).setCell (p:=⟨b,1,none⟩) hB _
theorem qaa{a b c:World}(h:Below a.heap.size a b)(k:Below b.heap.size b c):Below a.heap.size a c:=h.via k h.size
theorem qeq{w w':World}{b:Nat}{x0 x1 x2 x3:Value}{T:TypeId}(h:Blk w b #[x0,x1,x2,x3] T)(hb:Below w.heap.size w w'):
  w'.cell? ⟨b,0,none⟩=some x0∧w'.cell? ⟨b,1,none⟩=some x1∧w'.cell? ⟨b,2,none⟩=some x2∧w'.cell? ⟨b,3,none⟩=some x3:=by
 have h':=h.below hb;exact⟨by rw[h'.cell];rfl,by rw[h'.cell];rfl,by rw[h'.cell];rfl,by rw[h'.cell];rfl⟩
theorem qab{W W':World}{p:Addr}{v:Value}(hb:Below W.heap.size W W')(h:W.cell? p=some v):W'.cell? p=some v:=by
 rcases p with⟨b,o,x⟩
 have hlt:b<W.heap.size:=World.block_lt_of_cell? W _ h;have:=hb.block b hlt;unfold World.cell? at*;simp only[this];exact h
namespace Dr
theorem qdt(w:World):Calls Tryz.prog 141 #[] w (RetP (fun v w'=>IntV w' v 1) w):=by
 have H:=hI (fun w'=>qg5 1 w' (by decide) (by decide));have hR:=Blk.new w #[.bool false,.slice none 0 0] 75;have HR:=hI hR;clear hR
 go_enter Tryz.func141,Tryz.ntmps141
 go_wp2_with (go_at_call 108;refine(H.out _).mono ?_;rintro e w1 ⟨v,rfl,hv,hb⟩;obtain⟨x,a,k,c,rfl,hv⟩:=hv.open;have hr:=HR.out.below hb.b;obtain⟨⟨r0,r1⟩,f0,f1⟩:=qag hr;obtain⟨hv6,hb6⟩:=IntV.put2 hv hr;have Hv6:=hI hv6;have Hb6:=hI hb6;have Hbel:=hI (qdf x a k c ((qac w (.cells #[.bool false,.slice none 0 0] 75)).via hb (qac w _).size) (Nat.le_refl w.heap.size));clear hr hv6 hb6 hb hv)
 obtain⟨⟨q0,q1⟩,-⟩:=qag Hb6.out;exact bodyPost_ret (v:=.agg #[.bool x,.slice a k c]) (by simp[results,Tryz.results141,go_sem,q0,q1]) rfl ⟨_,rfl,Hv6.out,Hbel.out⟩
end Dr
theorem qdt(w:World):Calls Tryz.prog 141 #[] w (RetP (fun v w'=>IntV w' v 1) w):=(Dr.qdt w).mono fun _ _ h=>h.n
theorem qk7(v:Value)(p:Int)(w:World)(h:RatV w v p 0):Calls Tryz.prog 109 #[v] w (RetD (.bool true) w):=by
 obtain⟨x,a,n,c,x',a',n',c',rfl,h1,h2⟩:=h;have hB:=Blk.new w #[.bool x,.slice a n c,.bool x',.slice a' n' c'] 77;have HS:=hI (fun w' (hb:Below (w.alloc (.cells #[.bool x,.slice a n c,.bool x',.slice a' n' c'] 77)).heap.size (w.alloc (.cells #[.bool x,.slice a n c,.bool x',.slice a' n' c'] 77)) w')=>qeq hB hb);have HV:=hI (fun w' (hb:Below (w.alloc (.cells #[.bool x,.slice a n c,.bool x',.slice a' n' c'] 77)).heap.size (w.alloc (.cells #[.bool x,.slice a n c,.bool x',.slice a' n' c'] 77)) w')=>h2.mono ((qac w _).via hb (qac w _).size));have H1:=hI (fun w' (hb:BD (w.alloc (.cells #[.bool x,.slice a n c,.bool x',.slice a' n' c'] 77)) w')=>qpi _ 0 w' (HV.out _ hb.1));rw[show Int.sign 0=0 from rfl]at H1;clear h1 h2 hB
 go_enter Tryz.func109,Tryz.ntmps109
 go_wp2_with fail
 refine wp_region_held_drew (S:=(fun w'=>w'.cell? ⟨w.heap.size,0,none⟩=some (.bool x)∧w'.cell? ⟨w.heap.size,1,none⟩=some (.slice a n c)∧w'.cell? ⟨w.heap.size,2,none⟩=some (.bool x')∧w'.cell? ⟨w.heap.size,3,none⟩=some (.slice a' n' c'))) (by kernel_rfl) (by exact HS.out _ ((BD.refl _).dn 1).1) (fun hHeld=>?_)
 refine wpAnyH_take (i:=0) (v:=?v1) rfl (by kernel_rfl) (by kernel_rfl) (by kernel_rfl) (fun _ _ _ h=>h) (Or.inl ⟨by rfl,?hy1⟩) (by assumption) ?rest1
 case hy1=>(intro w hSw;(try dsimp only at hSw);go_simp;try(with_reducible rfl))
 try simp only[Act.put,List.getElem_toArray,List.getElem_cons_zero,List.setIfInBounds_toArray,List.set_cons_zero,List.set_cons_succ]
 refine' tk 1 ?_;(try simp only[tkS]);refine tk1 2 (fun K hK=>?_)
 go_simp;go_at_call 131;refine(H1.out _ ((BD.refl _).dn 1)).mono ?_
 rintro e5 w2 ⟨rfl,hb2⟩;have Hb2:=hI (((BD.refl _).dn 1).via hb2);clear hb2;refine hK.out _ _ (by exact HS.out _ (Hb2.out).1) (fun hHeld=>?_)
 clear hK K;(try simp only[tkS]);refine' tk 3 ?_;(try simp only[tkS]);refine' tk 4 ?_;(try simp only[tkS]);refine' tkU 5 ?_;(try simp only[tkS]);refine' tkU 6 ?_;(try simp only[tkS]);refine' tkU 7 ?_;(try simp only[tkS]);refine' tkU 8 ?_;(try simp only[tkS]);refine' tkU 9 ?_;(try simp only[tkS]);refine' tk 10 ?_;(try simp only[tkS]);refine' tk 11 ?_;(try simp only[tkS]);refine tkD ?_ _
 go_wp2_with fail
 go_ret
 exact⟨rfl,(bd1 w _).via Hb2.out⟩
namespace Dr
theorem qk6(v:Value)(p q:Int)(w:World)(h:RatV w v p q)(h0:q≠0):Calls Tryz.prog 109 #[v] w (Ret (.bool (decide (q=1))) w):=by
 obtain⟨x,a,n,c,x',a',n',c',rfl,h1,h2⟩:=h;have hB:=Blk.new w #[.bool x,.slice a n c,.bool x',.slice a' n' c'] 77;have HS:=hI (fun w' (hb:Below (w.alloc (.cells #[.bool x,.slice a n c,.bool x',.slice a' n' c'] 77)).heap.size (w.alloc (.cells #[.bool x,.slice a n c,.bool x',.slice a' n' c'] 77)) w')=>qeq hB hb.b);have HV:=hI (fun w' (hb:Below (w.alloc (.cells #[.bool x,.slice a n c,.bool x',.slice a' n' c'] 77)).heap.size (w.alloc (.cells #[.bool x,.slice a n c,.bool x',.slice a' n' c'] 77)) w')=>h2.mono ((qac w _).via hb (qac w _).size).b);have hsg:((q.sign:Int)==0)=false:=by simpa using h0
 have H1:=hI (fun w' (hb:Below (w.alloc (.cells #[.bool x,.slice a n c,.bool x',.slice a' n' c'] 77)).heap.size (w.alloc (.cells #[.bool x,.slice a n c,.bool x',.slice a' n' c'] 77)) w')=>qdo _ q w' (HV.out _ hb));have H2:=hI (fun w'=>qdt w');have H3:=hI (fun w' u (hb:Below (w.alloc (.cells #[.bool x,.slice a n c,.bool x',.slice a' n' c'] 77)).heap.size (w.alloc (.cells #[.bool x,.slice a n c,.bool x',.slice a' n' c'] 77)) w') (hu:IntV w' u 1)=>qbh _ _ q 1 w' (HV.out _ hb) hu)
 have hc:(cmpZ q 1==0)=decide (q=1):=by
  have:=@qdk q 1;rw[Bool.eq_iff_iff];simp[this]
 rw[←hc];generalize q.sign=sg at*;generalize cmpZ q 1=cz at*;clear h1 h2 hB hc h0
 go_enter Tryz.func109,Tryz.ntmps109
 go_wp2_with fail
 refine wp_region_held_drew (S:=(fun w'=>w'.cell? ⟨w.heap.size,0,none⟩=some (.bool x)∧w'.cell? ⟨w.heap.size,1,none⟩=some (.slice a n c)∧w'.cell? ⟨w.heap.size,2,none⟩=some (.bool x')∧w'.cell? ⟨w.heap.size,3,none⟩=some (.slice a' n' c'))) (by kernel_rfl) (by exact HS.out _ ((Below.refl _ _).dn 1)) (fun hHeld=>?_)
 refine wpAnyH_take (i:=0) (v:=?v12) rfl (by kernel_rfl) (by kernel_rfl) (by kernel_rfl) (fun _ _ _ h=>h) (Or.inl ⟨by rfl,?hy12⟩) (by assumption) ?rest12
 case hy12=>(intro w hSw;(try dsimp only at hSw);go_simp;try(with_reducible rfl))
 try simp only[Act.put,List.getElem_toArray,List.getElem_cons_zero,List.setIfInBounds_toArray,List.set_cons_zero,List.set_cons_succ]
 refine' tk 1 ?_;(try simp only[tkS]);refine tk1 2 (fun K hK=>?_)
 go_simp;go_at_call 131;refine(H1.out _ ((Below.refl _ _).dn 1)).mono ?_
 rintro e5 w2 ⟨rfl,hb2⟩;have Hb2:=hI (qaa ((Below.refl _ _).dn 1) hb2);clear hb2;refine hK.out _ _ (by exact HS.out _ (Hb2.out)) (fun hHeld=>?_)
 clear hK K;(try simp only[tkS]);refine' tk 3 ?_;(try simp only[tkS]);refine' tk 4 ?_;(try simp only[tkS]);refine' tk 5 ?_;(try simp only[tkS]);refine' tk 6 ?_;(try simp only[tkS]);refine tk1 7 (fun K hK=>?_)
 go_simp;go_at_call 141;refine(H2.out _).mono ?_
 rintro e5 w7 ⟨v7,rfl,hv7,hb7⟩;have Hb7:=hI (qaa (Hb2.out) hb7);have Hv7:=hI hv7;clear hv7;clear hb7;refine hK.out _ _ (by exact HS.out _ (Hb7.out)) (fun hHeld=>?_)
 clear hK K;(try simp only[tkS]);refine tk1 8 (fun K hK=>?_)
 go_simp;go_at_call 116;refine(H3.out _ _ (Hb7.out) Hv7.out).mono ?_
 rintro e5 w8 ⟨rfl,hb8⟩;have Hv7:=hI (Hv7.out.mono hb8.b);have Hb8:=hI (qaa (Hb7.out) hb8);clear hb8;refine hK.out _ _ (by exact HS.out _ (Hb8.out)) (fun hHeld=>?_)
 clear hK K;(try simp only[tkS]);refine' tk 9 ?_;(try simp only[tkS]);refine' tk 10 ?_;(try simp only[tkS]);refine' tk 11 ?_;(try simp only[tkS]);refine tkD ?_ _
 go_wp2_with fail
 go_ret
 exact⟨rfl,(qac w _).via Hb8.out (qac w _).size⟩
end Dr
theorem qk6(v:Value)(p q:Int)(w:World)(h:RatV w v p q)(h0:q≠0):Calls Tryz.prog 109 #[v] w (Ret (.bool (decide (q=1))) w):=(Dr.qk6 v p q w h h0).mono fun _ _ h=>h.n
end Go.Proofs.YtacihodamichhaaGreatDoor
