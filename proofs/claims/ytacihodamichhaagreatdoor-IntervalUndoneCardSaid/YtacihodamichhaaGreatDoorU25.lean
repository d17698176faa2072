/- Parts of the proof. -/
import Derived.Test.YtacihodamichhaaGreatDoorU20
set_option maxHeartbeats 16000000
namespace Go.Proofs.YtacihodamichhaaGreatDoor
open Go.RowKit
theorem qim{ys:List Nat}{j o t cr p S:Nat}(hj:ys[j]?=some o)(h:D10.natL ys+10^j*cr=S)(ht:cr+(p+o)=t):D10.natL (ys.set j (t%10))+10^(j+1)*(t/10)=S+10^j*p:=by
 have h1:=D10.qjc (qbw hj) (t%10);rw[qgh hj]at h1;have h2:10^j*(t%10)+10^j*(10*(t/10))=10^j*t:=by rw[←Nat.mul_add,Nat.mod_add_div]
 have h3:10^j*t=10^j*cr+(10^j*p+10^j*o):=by rw[←ht,Nat.mul_add,Nat.mul_add]
 rw[Nat.pow_succ,Nat.mul_assoc];generalize 10^j=K at*
 omega
theorem qsb{Z K cr i m k A B:Nat}(h:Z+10^(i+k)*cr=A*B)(hA:A<10^(i+1))(hB:B≤10^m)(hc:0<cr)(_:K=0):k≤m:=by
 have h1:A*B<10^(i+1)*10^m:=Nat.lt_of_le_of_lt (Nat.mul_le_mul_left A hB) (Nat.mul_lt_mul_of_pos_right hA (Nat.pow_pos (by decide)));rw[←Nat.pow_add]at h1;have h2:10^(i+k)*1≤10^(i+k)*cr:=Nat.mul_le_mul_left _ hc;have h3:(10:Nat)^(i+k)<10^(i+1+m):=by omega
 have:=(Nat.pow_lt_pow_iff_right (by decide)).1 h3
 omega
theorem qns{l:List Nat}(h:D10.Dg l){j v:Nat}(hv:v<10):D10.Dg (l.set j v):=fun d hd=>by
 rcases List.mem_or_eq_of_mem_set hd with hd|rfl
 ·exact h d hd
 ·exact hv
theorem qu9(y z:Int):(y.sign*z.sign<0↔y*z<0):=by
 rw[←Int.sign_mul]
 constructor
 ·intro h;exact Int.sign_neg_iff.1 (by have:=qd8 (y*z);omega)
 ·intro h;rw[Int.sign_eq_neg_one_of_neg h];decide
set_option maxRecDepth 100000 in
theorem qcq(y z:Int)(w:World)(hy:(D10.limbs y.natAbs).length≤10000)(hz:(D10.limbs z.natAbs).length≤10000):Calls Tryz.prog 71 #[.string ⟨(txtZ y).toArray⟩,.string ⟨(txtZ z).toArray⟩] w (Ret (.string ⟨(txtZ (y*z)).toArray⟩) w):=by
 have HD1:=hI (fun w'=>qbf (decide (y<0)) y.natAbs w' (Nat.le_trans hy (by decide)));have HD2:=hI (fun w'=>qbf (decide (z<0)) z.natAbs w' (Nat.le_trans hz (by decide)))
 change Hid (∀w',Calls Tryz.prog 118 #[.string ⟨(txtZ y).toArray⟩] w' _)at HD1
 change Hid (∀w',Calls Tryz.prog 118 #[.string ⟨(txtZ z).toArray⟩] w' _)at HD2
 have HS1:=hI (fun w'=>qbu y w');have HS2:=hI (fun w'=>qbu z w')
 have HR:=hI (show txtZ (y*z)=txtN (decide (y.sign*z.sign<0)) (y.natAbs*z.natAbs)from by
  unfold txtZ;rw[Int.natAbs_mul]
  congr 1
  rw[decide_eq_decide]
  exact(qu9 y z).symm)
 have hsg:y.sign*z.sign=-1∨y.sign*z.sign=0∨y.sign*z.sign=1:=by
  rcases qd8 y with a|a|a<;>rcases qd8 z with b|b|b<;>rw[a.2,b.2]<;>decide
 have Hsg:=hI hsg;have HT:=hI (fun(neg:Bool) w' (a:Option Addr) n c (d:List Nat) (h:Ds w' (.slice a n c) d) (hd:D10.Dg d) (hl:d.length≤30000)=>qfs neg a n c d w' h hd hl);have Hdx:=hI (And.intro (D10.qal y.natAbs) (D10.qai y.natAbs));have Hdy:=hI (And.intro (D10.qal z.natAbs) (D10.qai z.natAbs));generalize(⟨(txtZ y).toArray⟩:ByteArray)=SY at*;generalize(⟨(txtZ z).toArray⟩:ByteArray)=SZ at*;generalize y.sign=sy at*;generalize z.sign=sz at*;have hi:(Tryz.prog.info? 3).map (fun i=>(i.zero,i.size,i.bytes))=some (some (.int .i64 0),1,8):=by kernel_rfl
 obtain⟨i4,hi4,hz0,hz1,hz2⟩:=info_parts hi;generalize hla:D10.limbs y.natAbs=la at*;generalize hlb:D10.limbs z.natAbs=lb at*;generalize hn:la.length=n at*;generalize hm:lb.length=m at*;have Hla:=hI (And.intro hla hn);have Hlb:=hI (And.intro hlb hm);have hw1:IntKind.i64.wrap ((n:Int)+(m:Int))=((n+m:Nat):Int):=(IntWalk.i64_in _ (by omega)).trans (by omega);have hw2:IntKind.i64.wrap (((n+m:Nat):Int)+1)=((n+m:Nat):Int)+1:=IntWalk.i64_in _ (by omega);clear hi hsg hla hlb hn hm
 go_enter Tryz.func71,Tryz.ntmps71
 go_wp2_with (first
  |(have _t:=HVA;clear _t;go_at_call 118;refine(HD2.out _).mono ?_;rintro e w2 ⟨v2,rfl,hv2,hb2⟩;obtain⟨a2,c2,rfl,hv2⟩:=hv2;rw[Hlb.out.1,Hlb.out.2]at hv2;rw[Hlb.out.1,Hlb.out.2];have HVB:=hI hv2;have HVA2:=hI (HVA.out.mono hb2);have Hb2:=hI (qaa Hb1.out hb2);clear hv2 hb2)
  |(go_at_call 118;refine(HD1.out _).mono ?_;rintro e w1 ⟨v1,rfl,hv1,hb1⟩;obtain⟨a1,c1,rfl,hv1⟩:=hv1;rw[Hla.out.1,Hla.out.2]at hv1;rw[Hla.out.1,Hla.out.2];have HVA:=hI hv1;have Hb1:=hI hb1;clear hv1 hb1)
  |(at_make;refine wpList_make_full _ rfl _ _ 135 rfl (w2.heap.size) 3 i4 (.int .i64 0) 1 Tryz.underlying135 hi4 hz0 hz1 .i64 .i64 _ _ (n+m+1) rfl rfl (by omega) (by omega) (by rw[hz2];omega) (by unfold maxLen;omega) (by simp) ?_;intro w3 hown hg))
 have hO:=(show OI w.heap.size w3 w2.heap.size (List.replicate (n+m+1) 0)from qda (OI.made hown) Hb2.out.size)
 have hb3:Below w2.heap.size w2 w3:=(Below.refl _ _).grown hg (Nat.le_refl _) (fun b hb=>by cases hb);have HGe:=hI (show w.heap.size≤w2.heap.size from Hb2.out.size);generalize hgq:w2.heap.size=gq at hO;have Hgq:=hI hgq;clear hown hg hi4 hz0 hz1 hz2 hgq HD1 HD2 HVA
 go_wp2_with fail
 go_loopw [8,9,10,11] (fun ii _ _ _ wr=>∃(i:Nat) (os:List Nat),i≤n∧ii=.int .i64 (i:Int)∧Below w2.heap.size w2 wr∧OI w.heap.size wr gq os∧Hid (os.length=n+m+1∧D10.Dg os∧D10.natL os=D10.natL (la.take i)*D10.natL lb)) (fun ii _ _ _ _=>n-(intOf ii).toNat)
 case atStart=>exact⟨0,List.replicate (n+m+1) 0,Nat.zero_le _,rfl,hb3,hO,by simp,D10.Dg.zeros _,by rw[D10.qcl];simp[D10.natL]⟩
 case round=>
  clear hO hb3;obtain⟨i,os,hi,rfl,hbw,hO,hpre⟩:=hrel;rcases Nat.lt_or_ge i n with hlt|hge
  ·obtain⟨d,hdk⟩:∃d,la[i]?=some d:=⟨la[i]'(by have:=Hla.out.2;omega),by simp⟩
   have hd10:=Hdx.out.1 d (List.mem_of_getElem? hdk);have Hdk:=hI hdk;have hin:(i:Int)<(n:Int):=by omega
   have hi0:(0:Int)≤(i:Int):=Int.natCast_nonneg _;have hiw:IntKind.i64.wrap ((i:Int)+1)=(i:Int)+1:=IntWalk.i64_in _ (by omega)
   have HtA:=hI (show D10.natL (la.take (i+1))<10^(i+1)from by
    have h:=D10.qa7 (Hdx.out.1.take (i+1))
    rwa [List.length_take,Hla.out.2,Nat.min_eq_left (by omega)]at h)
   have HtB:=hI (show D10.natL lb≤10^m from by
    have h:=D10.qa7 Hdy.out.1;rw[Hlb.out.2]at h
    omega)
   have HtE:=hI (show D10.natL (la.take (i+1))*D10.natL lb=D10.natL (la.take i)*D10.natL lb+10^i*(d*D10.natL lb)from by rw[D10.qaj hdk,Nat.add_mul,Nat.mul_assoc]);clear hdk
   go_wp2_with fail
   go_loopw [9,10,11] (fun cv kk _ wz=>∃(k cr:Nat) (os:List Nat),k≤m+1∧kk=.int .i64 (k:Int)∧cv=.int .i64 (cr:Int)∧cr≤9∧Below w2.heap.size w2 wz∧OI w.heap.size wz gq os∧Hid (os.length=n+m+1∧D10.Dg os∧D10.natL os+10^(i+k)*cr=D10.natL (la.take i)*D10.natL lb+10^i*(d*D10.natL (lb.take k)))) (fun _ kk _ _=>m+2-(intOf kk).toNat)
   case atStart=>exact⟨0,0,os,Nat.zero_le _,rfl,rfl,by decide,hbw,hO,hpre.out.1,hpre.out.2.1,by rw[hpre.out.2.2];simp[D10.natL]⟩
   case round=>
    clear hO hbw
    rename World=>wz
    obtain⟨k,cr,os,hk,rfl,rfl,hcr,hbw,hO,hpre⟩:=hrel;have hk0:(0:Int)≤(k:Int):=Int.natCast_nonneg _;have hkw:IntKind.i64.wrap ((k:Int)+1)=(k:Int)+1:=IntWalk.i64_in _ (by omega);obtain⟨j,hj⟩:∃j,i+k=j:=⟨_,rfl⟩
    have hjw:IntKind.i64.wrap ((i:Int)+(k:Int))=(j:Int):=(IntWalk.i64_in _ (by omega)).trans (by omega);have hj0:(0:Int)≤(j:Int):=Int.natCast_nonneg _;rcases Nat.lt_or_ge k m with hkm|hkm
    ·obtain⟨o,ho⟩:∃o,os[j]?=some o:=⟨os[j]'(by rw[hpre.out.1];omega),by simp⟩
     have ho10:=hpre.out.2.1 o (List.mem_of_getElem? ho);obtain⟨b2,off2,e,rfl,hek,d0⟩:=HVB.out.at hbw hkm;obtain⟨b1,off1,d',rfl,hdk',c0⟩:=HVA2.out.at hbw hlt;have hdd:d'=d:=by have:=Hdk.out;rw[hdk']at this;exact Option.some.inj this
     subst hdd;have he10:=Hdy.out.1 e (List.mem_of_getElem? hek);have Htk:=hI (show D10.natL (lb.take (k+1))=D10.natL (lb.take k)+10^k*e from D10.qaj hek);obtain⟨g0,g1⟩:=hO.cell ho;obtain⟨p,hp⟩:∃p,d'*e=p:=⟨_,rfl⟩
     have hp81:p≤81:=by rw[←hp];exact Nat.mul_le_mul (show d'≤9 by omega) (show e≤9 by omega)
     obtain⟨u,hu⟩:∃u,o+cr=u:=⟨_,rfl⟩
     obtain⟨t,ht⟩:∃t,u+p=t:=⟨_,rfl⟩
     have hkmi:(k:Int)<(m:Int):=by omega
     have hjb:(j:Int)<(n:Int)+(m:Int)+1:=by omega
     have q1:IntKind.i64.wrap ((o:Int)+(cr:Int))=(u:Int):=(IntWalk.i64_in _ (by omega)).trans (by omega);have q2:(d':Int)*(e:Int)=(p:Int):=by rw[←hp];push_cast;rfl
     have q3:IntKind.i64.wrap (p:Int)=(p:Int):=IntWalk.i64_in _ (by omega);have q4:IntKind.i64.wrap ((u:Int)+(p:Int))=(t:Int):=(IntWalk.i64_in _ (by omega)).trans (by omega);have q5:(t:Int).tmod 10=((t%10:Nat):Int):=by rw[Int.tmod_eq_emod_of_nonneg (by omega)];first|rfl|omega
     have q6:(t:Int).tdiv 10=((t/10:Nat):Int):=by rw[Int.tdiv_eq_ediv_of_nonneg (by omega)];first|rfl|omega
     have hIh:=hpre.out.2.2;rw[hj]at hIh;have Hst:=hI (qim (t:=t) (p:=p) ho hIh (by omega));clear hIh;have Hset:=hI (hO.set (i:=j) (qbw ho) (t%10));have Hb:=hI hbw;have Hm:=hI (And.intro hj hp);have hmod:(t:Int)%10=((t%10:Nat):Int):=by omega
     have hdiv:(t:Int)/10=((t/10:Nat):Int):=by omega
     obtain⟨tm,htm⟩:∃tm,t%10=tm:=⟨_,rfl⟩
     obtain⟨td,htd⟩:∃td,t/10=td:=⟨_,rfl⟩
     rw[htm]at q5 Hset Hst hmod;rw[htd]at q6 Hst hdiv;have htm10:tm<10:=by omega
     have htd9:td≤9:=by omega
     have q7:IntKind.i64.wrap (tm:Int)=(tm:Int):=IntWalk.i64_in _ (by omega);have q8:IntKind.i64.wrap (td:Int)=(td:Int):=IntWalk.i64_in _ (by omega);clear hbw hO hp hu ht htm htd hek hdk' ho hj
     go_wp2_with fail
     refine wp_region_held_drew (S:=(fun w'=>w'.cell? ⟨b1,off1+i,none⟩=some (.int .i64 (d':Int))∧w'.cell? ⟨b2,off2+k,none⟩=some (.int .i64 (e:Int)))) (by kernel_rfl) (by exact⟨c0,d0⟩) (fun hHeld=>?_)
     refine wpAnyH_take (i:=0) (v:=?v1) rfl (by kernel_rfl) (by kernel_rfl) (by kernel_rfl) (fun _ _ _ h=>h) (Or.inl ⟨by rfl,?hy1⟩) (by assumption) ?rest1
     case hy1=>(intro w hSw;(try dsimp only at hSw);go_simp;try(with_reducible rfl))
     try simp only[Act.put,List.getElem_toArray,List.getElem_cons_zero,List.setIfInBounds_toArray,List.set_cons_zero,List.set_cons_succ]
     refine' tk 1 ?_;(try simp only[tkS]);refine' tk 2 ?_;(try simp only[tkS]);refine' tk 3 ?_;(try simp only[tkS]);refine' tk 4 ?_;(try simp only[tkS]);refine' tk 5 ?_;(try simp only[tkS]);refine' tk 6 ?_;(try simp only[tkS]);refine' tk 7 ?_;(try simp only[tkS]);refine' tk 8 ?_;(try simp only[tkS]);refine' tk 9 ?_;(try simp only[tkS]);refine' tk 10 ?_;(try simp only[tkS]);refine' tk 11 ?_;(try simp only[tkS]);refine tkD ?_ _
     go_wp2_with fail
     go_roundw
     case rel=>
      refine⟨k+1,td,os.set j tm,by omega,by go_num,rfl,htd9,(Hb.out.setCell (p:=⟨gq,j,none⟩) (Nat.le_of_eq Hgq.out) _).dn 1,Hset.out.below ((Below.refl _ _).dn 1),by rw[List.length_set];exact hpre.out.1,qns hpre.out.2.1 htm10,?_⟩
      rw[Htk.out,show i+(k+1)=j+1 by have:=Hm.out.1;omega,Hst.out,←Hm.out.2,←Hm.out.1,Nat.pow_add,Nat.mul_add,Nat.mul_add,Nat.mul_assoc,Nat.add_assoc,Nat.mul_left_comm d']
     case measure=>simp[intOf]<;>omega
    ·have hkmi:¬(k:Int)<(m:Int):=by omega
     have hfull:lb.take k=lb:=List.take_of_length_le (by rw[Hlb.out.2];exact hkm)
     by_cases hc0:cr=0
     ·subst hc0
      have hfin:=hpre.out.2.2;rw[hfull,Nat.mul_zero,Nat.add_zero,←HtE.out]at hfin;have Hfin:=hI hfin;have Hb:=hI hbw;have Ho:=hI hO;clear hfin hfull hbw hO
      go_wp2_with fail
      go_roundw
      case rel=>exact⟨i+1,os,by omega,by go_num,Hb.out,Ho.out,hpre.out.1,hpre.out.2.1,Hfin.out⟩
      case measure=>simp[intOf]<;>omega
     ·have hcp:(0:Int)<(cr:Int):=by omega
      have hkm2:k≤m:=by
       have h:=hpre.out.2.2;rw[hfull,←HtE.out]at h;exact qsb (K:=0) h HtA.out HtB.out (by omega) rfl
      obtain⟨o,ho⟩:∃o,os[j]?=some o:=⟨os[j]'(by rw[hpre.out.1];omega),by simp⟩
      have ho10:=hpre.out.2.1 o (List.mem_of_getElem? ho);obtain⟨g0,g1⟩:=hO.cell ho;obtain⟨t,ht⟩:∃t,o+cr=t:=⟨_,rfl⟩
      have hjb:(j:Int)<(n:Int)+(m:Int)+1:=by omega
      have q1:IntKind.i64.wrap ((o:Int)+(cr:Int))=(t:Int):=(IntWalk.i64_in _ (by omega)).trans (by omega);have hIh:=hpre.out.2.2;rw[hj]at hIh;have Hst:=hI (qim (t:=t) (p:=0) ho hIh (by omega));clear hIh;have Hset:=hI (hO.set (i:=j) (qbw ho) (t%10));have Hb:=hI hbw;have Hm:=hI hj;have Hfu:=hI hfull;obtain⟨tm,htm⟩:∃tm,t%10=tm:=⟨_,rfl⟩
      obtain⟨td,htd⟩:∃td,t/10=td:=⟨_,rfl⟩
      rw[htm]at Hset Hst;rw[htd]at Hst;have q5:(t:Int).tmod 10=(tm:Int):=by rw[Int.tmod_eq_emod_of_nonneg (by omega)];omega
      have q6:(t:Int).tdiv 10=(td:Int):=by rw[Int.tdiv_eq_ediv_of_nonneg (by omega)];omega
      have hmod:(t:Int)%10=(tm:Int):=by omega
      have hdiv:(t:Int)/10=(td:Int):=by omega
      have htm10:tm<10:=by omega
      have htd9:td≤9:=by omega
      have q7:IntKind.i64.wrap (tm:Int)=(tm:Int):=IntWalk.i64_in _ (by omega);have q8:IntKind.i64.wrap (td:Int)=(td:Int):=IntWalk.i64_in _ (by omega);clear hbw hO ht htm htd ho hj hfull
      go_wp2_with fail
      go_roundw
      case rel=>
       refine⟨k+1,td,os.set j tm,by omega,by go_num,rfl,htd9,Hb.out.setCell (p:=⟨gq,j,none⟩) (Nat.le_of_eq Hgq.out) _,Hset.out,by rw[List.length_set];exact hpre.out.1,qns hpre.out.2.1 htm10,?_⟩
       rw[show i+(k+1)=j+1 by have:=Hm.out;omega,Hst.out,Nat.mul_zero,Nat.add_zero,Hfu.out,List.take_of_length_le (l:=lb) (by rw[Hlb.out.2];omega)]
      case measure=>simp[intOf]<;>omega
  ·obtain rfl:i=n:=by omega
   have hin:¬(i:Int)<(i:Int):=by omega
   have hfin:=hpre.out.2.2;rw[List.take_of_length_le (by rw[Hla.out.2];exact Nat.le_refl _),Hdx.out.2,Hdy.out.2]at hfin;have hls:=hO.ls;rw[hpre.out.1]at hls;have HQ:=hI (fun(neg:Bool) w' (hb:Below wr.heap.size wr w')=>HT.out neg w' (some ⟨gq,0,none⟩) (i+m+1) (i+m+1) os (hls.mono hb) hpre.out.2.1 (by rw[hpre.out.1];omega));rw[hfin]at HQ;have Hbz:=hI (Below.refl wr.heap.size wr);have Hbw:=hI (Hb2.out.via hbw HGe.out);clear hfin hls hO hbw hpre;rcases Hsg.out with hs|hs|hs
   ·have hsw:IntKind.i64.wrap (sy*sz)=-1:=by rw[hs];rfl
    have HR2:=HR.out;rw[hs]at HR2;have HR3:=hI HR2;clear HR2
    go_wp2_with (first
     |(have _t:=Hz1;clear _t;go_at_call 120;refine(HS2.out _).mono ?_;rintro e wz ⟨rfl,hbz⟩;have Hz2:=hI (qaa Hz1.out hbz);clear hbz)
     |(go_at_call 120;refine(HS1.out _).mono ?_;rintro e wz ⟨rfl,hbz⟩;have Hz1:=hI (qaa Hbz.out hbz);clear hbz)
     |(go_at_call 117;refine(HQ.out _ _ Hz2.out).mono ?_;rintro e wz ⟨rfl,hbz⟩;have Hz3:=hI (qaa Hz2.out hbz);clear hbz))
    go_ret
    exact⟨by rw[HR3.out];rfl,Hbw.out.via Hz3.out Hbw.out.size⟩
   ·have hsw:IntKind.i64.wrap (sy*sz)=0:=by rw[hs];rfl
    have HR2:=HR.out;rw[hs]at HR2;have HR3:=hI HR2;clear HR2
    go_wp2_with (first
     |(have _t:=Hz1;clear _t;go_at_call 120;refine(HS2.out _).mono ?_;rintro e wz ⟨rfl,hbz⟩;have Hz2:=hI (qaa Hz1.out hbz);clear hbz)
     |(go_at_call 120;refine(HS1.out _).mono ?_;rintro e wz ⟨rfl,hbz⟩;have Hz1:=hI (qaa Hbz.out hbz);clear hbz)
     |(go_at_call 117;refine(HQ.out _ _ Hz2.out).mono ?_;rintro e wz ⟨rfl,hbz⟩;have Hz3:=hI (qaa Hz2.out hbz);clear hbz))
    go_ret
    exact⟨by rw[HR3.out];rfl,Hbw.out.via Hz3.out Hbw.out.size⟩
   ·have hsw:IntKind.i64.wrap (sy*sz)=1:=by rw[hs];rfl
    have HR2:=HR.out;rw[hs]at HR2;have HR3:=hI HR2;clear HR2
    go_wp2_with (first
     |(have _t:=Hz1;clear _t;go_at_call 120;refine(HS2.out _).mono ?_;rintro e wz ⟨rfl,hbz⟩;have Hz2:=hI (qaa Hz1.out hbz);clear hbz)
     |(go_at_call 120;refine(HS1.out _).mono ?_;rintro e wz ⟨rfl,hbz⟩;have Hz1:=hI (qaa Hbz.out hbz);clear hbz)
     |(go_at_call 117;refine(HQ.out _ _ Hz2.out).mono ?_;rintro e wz ⟨rfl,hbz⟩;have Hz3:=hI (qaa Hz2.out hbz);clear hbz))
    go_ret
    exact⟨by rw[HR3.out];rfl,Hbw.out.via Hz3.out Hbw.out.size⟩
theorem qgx:txtN false 1=[49]:=canon (p:=[49]) (by intro c hc;obtain rfl:=List.mem_singleton.1 hc;decide) (by simp) (.inl (by decide))
theorem quy{n:Nat}(h:n≠1):((⟨(txtN false n).toArray⟩:ByteArray).toList==[49])=false:=by
 rw[ByteArray.toList_eq,beq_eq_false_iff_ne]
 show ¬txtN false n=[49]
 intro e;obtain⟨p,-,-,hv,hp,-⟩:=qfo false n;rcases hp with hp|hp
 ·rw[←hp,e]at hv
  exact h (hv.symm.trans rfl)
 ·rw[e]at hp
  cases hp
theorem qi1(l:List UInt8):(⟨l.toArray⟩:ByteArray).size=l.length:=by rw[Lib.size_eq]
theorem toL(l:List UInt8):(⟨l.toArray⟩:ByteArray).toList=l:=by rw[ByteArray.toList_eq]
def qku(t b p:List UInt8):Bool:=(decide (1<p.length)&&p.head?==some 48)||t==[45,48]||b.head?==some 48
theorem quk{b:List UInt8}(hbz:0<(⟨b.toArray⟩:ByteArray).size):((((⟨b.toArray⟩:ByteArray)[0]'hbz).toNat:Int)==48)=(b.head?==some 48):=by
 cases b with
 |nil=>exact absurd hbz (by decide)
 |cons c r=>
  rw[qfa (c:=c) rfl hbz,Bool.eq_iff_iff,beq_iff_eq,beq_iff_eq,List.head?_cons,Option.some.injEq];exact⟨fun e=>UInt8.toNat_inj.1 (by have:(48:UInt8).toNat=48:=rfl;omega),fun e=>by rw[e];rfl⟩
theorem qxi{b:List UInt8}(hbz:0<(⟨b.toArray⟩:ByteArray).size):((((⟨b.toArray⟩:ByteArray)[0]'hbz).toNat:Int)==45)=negB b:=by
 cases b with
 |nil=>exact absurd hbz (by decide)
 |cons c r=>
  rw[qfa (c:=c) rfl hbz,Bool.eq_iff_iff,beq_iff_eq];unfold negB Lib.hasPrefix;simp only[List.isPrefixOf,Bool.and_true,beq_iff_eq];exact⟨fun e=>(UInt8.toNat_inj.1 (by have:(45:UInt8).toNat=45:=rfl;omega)).symm,fun e=>by rw[←e];rfl⟩
theorem qtv{t b p:List UInt8}(hP:absL t=p)(h:qku t b p=false):badI p (negB t)=false∧b.head?≠some 48:=by
 unfold qku at h;rw[Bool.or_eq_false_iff,Bool.or_eq_false_iff]at h;obtain⟨⟨h1,h2⟩,h3⟩:=h;rw[qua,hP]at h2;refine⟨?_,fun e=>by rw[e]at h3;exact absurd h3 (by decide)⟩
 rw[←qse,h1,h2]
 rfl
theorem qtr{t b p:List UInt8}(w:World)(hP:absL t=p)(h1:digB p=true)(h2:digB b=true)(hf:qku t b p=false)(hp:p.length≤5000)(hb:b.length≤5000):Calls Tryz.prog 69 #[.string ⟨t.toArray⟩,.string ⟨b.toArray⟩] w (Ret (.string ⟨(txtN false (Nat.gcd (valD p) (valD b))).toArray⟩) w):=by
 obtain⟨h6,h7⟩:=qtv hP hf;have hpv:=qby (qan.1 h1).2;have hbv:=qby (qan.1 h2).2
 have et:txtN (decide (sgn (negB t) (valD p)<0)) (valD p)=t:=by
  have h:=qer (t:=t) (by rw[hP];exact h1) (by rw[hP];exact h6);rw[hP]at h;unfold txtZ at h;rw[qcc]at h;exact h.symm
 have eb:txtN false (valD b)=b:=(qdl h2 h7).symm;have H7:=qit (decide (sgn (negB t) (valD p)<0)) false (valD p) (valD b) w (qb1 hpv (by omega)) (qb1 (k:=b.length+1) (by rw[Nat.pow_succ];omega) (by omega))
 rwa [et,eb]at H7
set_option maxRecDepth 100000 in
theorem qij(l:List UInt8)(w:World)(hl:l.length≤5000):Calls Tryz.prog 21 #[.string ⟨l.toArray⟩,.int .i64 65536] w (Ret (.int .i64 (errL l)) w):=by
 rw[←qrk];obtain⟨t,hT⟩:∃t,topL l=t:=⟨_,rfl⟩
 obtain⟨b,hB⟩:∃b,denT l=b:=⟨_,rfl⟩
 obtain⟨p,hP⟩:∃p,absL t=p:=⟨_,rfl⟩
 obtain⟨dv,hD⟩:∃dv,divB l=dv:=⟨_,rfl⟩
 obtain⟨E,hE⟩:∃E,errR l=E:=⟨_,rfl⟩
 have HE:=hI (show E=(if(!digB p||!digB b)=true then 14 else if zerB b=true then 19 else if qku t b p=true then 3 else if(dv&&(b==[49]||Nat.gcd (valD p) (valD b)!=1))=true then 3 else 0)from by
  rw[←hE];unfold errR qku
  rw[hT,hB,hP,hD])
 have ht60:t.length≤5000:=by rw[←hT];exact Nat.le_trans (qew l) hl
 have hb60:b.length≤5000:=by
  rw[←hB];unfold denT
  split
  ·exact Nat.le_trans (qg6 l) hl
  ·decide
 have hp60:p.length≤5000:=by rw[←hP];exact Nat.le_trans (qdr t) ht60
 have H1:=hI (fun w'=>qez l w' (by omega));rw[hT,hB]at H1;have H3:=hI (fun w'=>qhh p w' (by omega));have H4:=hI (fun w'=>qhh b w' (by omega));have H5:=hI (fun w'=>qog b w' (by omega));have H6:=hI (fun w'=>qj5 l w' (by omega));rw[hT]at H6;have H7:=hI (fun(h1:digB p=true) (h2:digB b=true) (hf:qku t b p=false) w'=>qtr w' hP h1 h2 hf hp60 hb60);have hls:=qi1 l;have hlm:¬(65536:Int)<(l.length:Int):=by omega
 have hts:=qi1 t;have hbs:=qi1 b;have hps:=qi1 p
 have HDv:=hI (show(dv=true→(t.length:Int)<(l.length:Int))∧(dv=false→¬(t.length:Int)<(l.length:Int))from by
  rcases qox l with⟨-,h,h',-⟩|⟨i,-,hi,h',h,-⟩
  ·rw[hD]at h
   subst h;refine⟨fun k=>(by cases k),fun _=>?_⟩
   rw[←hT,h']
   omega
  ·rw[hT]at h
   refine⟨fun _=>by rw[h,List.length_take];omega,fun k=>?_⟩
   rw[hD,k]at h'
   exact absurd h' (by decide))
 have HBn:=hI (show digB b=true→0<b.length from fun h=>List.length_pos_iff.2 fun e=>by rw[e]at h;exact absurd h (by decide));have H45:=hI (fun(htz:0<(⟨t.toArray⟩:ByteArray).size)=>qxi htz);have H48:=hI (fun(hbz:0<(⟨b.toArray⟩:ByteArray).size)=>quk hbz);have H48p:=hI (fun(hqz:0<(⟨p.toArray⟩:ByteArray).size)=>quk hqz);have Hm0:=hI (show((⟨t.toArray⟩:ByteArray).toList==[45,48])=(t==[45,48])by rw[toL]);have Hb1':=hI (show((⟨b.toArray⟩:ByteArray).toList==[49])=(b==[49])by rw[toL])
 have HTx:=hI (show negB t=true→(⟨t.toArray⟩:ByteArray).extract 1 t.length=⟨p.toArray⟩∧0<t.length from fun k=>by
  have ht:t=45::p:=by have h:=qfd t;rwa [hP,k,if_pos rfl]at h
  exact⟨qch (by rw[qbt rfl,List.take_of_length_le (Nat.le_refl _),ht];rfl),by rw[ht];simp⟩)
 have HTe:=hI (show negB t=false→(⟨t.toArray⟩:ByteArray)=⟨p.toArray⟩from fun k=>by
  have ht:t=p:=by have h:=qfd t;rwa [hP,k,if_neg (by decide)]at h
  rw[ht])
 have HF:=hI (show qku t b p=((decide (1<p.length)&&p.head?==some 48)||t==[45,48]||b.head?==some 48)from rfl)
 have HGG:=hI (show((⟨(txtN false (Nat.gcd (valD p) (valD b))).toArray⟩:ByteArray).toList !=[49])=(Nat.gcd (valD p) (valD b)!=1)from by
  by_cases h9:Nat.gcd (valD p) (valD b)=1
  ·rw[h9,qgx,bne,toL];rfl
  ·rw[bne,quy h9,bne_iff_ne.2 h9];rfl)
 rw[hE];clear hE hT hB hD hP hl ht60 hb60 hp60;generalize(⟨(txtN false (Nat.gcd (valD p) (valD b))).toArray⟩:ByteArray)=GG at*;generalize(Nat.gcd (valD p) (valD b)!=1)=G0 at*;generalize qku t b p=FB at*;generalize(⟨l.toArray⟩:ByteArray)=L at*;generalize(⟨t.toArray⟩:ByteArray)=T at*;generalize(⟨p.toArray⟩:ByteArray)=P at*;generalize(⟨b.toArray⟩:ByteArray)=B at*;generalize l.length=nl at*;generalize t.length=nt at*;generalize p.length=np at*;generalize b.length=nb at*;generalize(t==[45,48])=B2 at*;generalize(b==[49])=B4 at*;generalize(b.head?==some 48)=B3 at*;generalize(p.head?==some 48)=B1 at*;generalize negB t=ng at*;generalize digB p=d1 at*;generalize digB b=d2 at*;generalize zerB b=z at*
 go_enter Tryz.func21,Tryz.ntmps21
 go_upto_region 5 with(go_at_call 65;refine(H1.out _).mono ?_;rintro e w1 ⟨rfl,hb1⟩;have Hb1:=hI (hb1);clear hb1)
 go_cut [25]from 8 to 24 (fun s25 wx=>s25=.bool ng∧w1=wx)
 case first=>
  clear H1 H3 H4 H5 H6 H7 HE HDv HBn H48 H48p Hm0 Hb1' HF HGG hbs hls;rcases Nat.eq_zero_or_pos nt with k|hpos
  ·have htl:¬(0:Int)<(nt:Int):=by omega
   obtain rfl:ng=false:=by
    cases ng with
    |true=>have:=(HTx.out rfl).2;omega
    |false=>rfl
   clear HTx HTe H45 k
   go_wp2_with fail
   go_meet;exact⟨rfl,rfl⟩
  ·have htl:(0:Int)<(nt:Int):=by omega
   have htz:0<T.size:=by omega
   have ht0:=H45.out htz;clear HTx HTe H45 hpos;cases ng<;>(go_wp2_with fail;go_meet;exact⟨rfl,rfl⟩)
 case rest=>
 obtain⟨rfl,rfl⟩:=hcut
 go_upto_if 25 with fail
 go_cut [7]from 8 to 69 (fun s7 wx=>s7=.string P∧w1=wx)
 case first=>
  clear H1 H3 H4 H5 H6 H7 HE HDv HBn H48 H48p Hm0 Hb1' HF HGG hbs hls H45;cases ng with
  |true=>
   obtain⟨htx,htn⟩:=HTx.out rfl;have htx1:(1:Int)≤(nt:Int):=by omega
   have htn1:1≤nt:=by omega
   clear HTx HTe
   go_wp2_with fail
   go_meet;exact⟨rfl,rfl⟩
  |false=>
   obtain rfl:=HTe.out rfl;clear HTx HTe
   go_wp2_with fail
   go_meet;exact⟨rfl,rfl⟩
 case rest=>
  obtain⟨rfl,rfl⟩:=hcut;clear HTx HTe H45 H1;cases d1 with
  |false=>
   obtain rfl:E=14:=by rw[HE.out];rfl
   clear HE H7 HDv HBn H4 H5 H6 H48 H48p Hm0 Hb1' HF HGG
   go_wp2_with (go_at_call 66;refine(H3.out _).mono ?_;rintro e w2 ⟨rfl,hb2⟩;have Hb2:=hI (qaa Hb1.out hb2);clear hb2)
   go_ret
   exact⟨rfl,Hb2.out⟩
  |true=>
   cases d2 with
   |false=>
    obtain rfl:E=14:=by rw[HE.out];rfl
    clear HE H7 HDv HBn H5 H6 H48 H48p Hm0 Hb1' HF HGG
    go_wp2_with (first
     |(have _t:=Hb2;clear _t;go_at_call 66;refine(H4.out _).mono ?_;rintro e w3 ⟨rfl,hb3⟩;have Hb3:=hI (qaa Hb2.out hb3);clear hb3)
     |(go_at_call 66;refine(H3.out _).mono ?_;rintro e w2 ⟨rfl,hb2⟩;have Hb2:=hI (qaa Hb1.out hb2);clear hb2))
    go_ret
    exact⟨rfl,Hb3.out⟩
   |true=>
    cases z with
    |true=>
     obtain rfl:E=19:=by rw[HE.out];rfl
     clear HE H7 HDv HBn H6 H48 H48p Hm0 Hb1' HF HGG
     go_wp2_with (first
      |(go_at_call 67;refine(H5.out _).mono ?_;rintro e w4 ⟨rfl,hb4⟩;have Hb4:=hI (qaa Hb3.out hb4);clear hb4)
      |(have _t:=Hb2;clear _t;go_at_call 66;refine(H4.out _).mono ?_;rintro e w3 ⟨rfl,hb3⟩;have Hb3:=hI (qaa Hb2.out hb3);clear hb3)
      |(go_at_call 66;refine(H3.out _).mono ?_;rintro e w2 ⟨rfl,hb2⟩;have Hb2:=hI (qaa Hb1.out hb2);clear hb2))
     go_ret
     exact⟨rfl,Hb4.out⟩
    |false=>
     have H8:=hI (H7.out rfl rfl);have hbn:=HBn.out rfl;have HE2:=hI (show E=(if FB=true then 3 else if(dv&&(B4||G0))=true then 3 else 0)from HE.out);clear H7 HE HBn
     go_upto_region 11 with(first
      |(go_at_call 67;refine(H5.out _).mono ?_;rintro e w4 ⟨rfl,hb4⟩;have Hb4:=hI (qaa Hb3.out hb4);clear hb4)
      |(have _t:=Hb2;clear _t;go_at_call 66;refine(H4.out _).mono ?_;rintro e w3 ⟨rfl,hb3⟩;have Hb3:=hI (qaa Hb2.out hb3);clear hb3)
      |(go_at_call 66;refine(H3.out _).mono ?_;rintro e w2 ⟨rfl,hb2⟩;have Hb2:=hI (qaa Hb1.out hb2);clear hb2))
     go_cut [54]from 36 to 53 (fun s54 wx=>s54=.bool FB∧w4=wx)
     case first=>
      have hbz:0<B.size:=by omega
      have hb0:=H48.out hbz;have hm0:=Hm0.out;clear H3 H4 H5 H6 H8 HE2 HDv H48 Hm0 Hb1' HGG;rcases Nat.lt_or_ge 1 np with hL|hL
      ·have hq:(1:Int)<(np:Int):=by omega
       have hqz:0<P.size:=by omega
       have hq0:=H48p.out hqz;rw[decide_eq_true hL]at HF;clear H48p hL hbn;cases B1<;>cases B2<;>cases B3<;>(go_wp2_with fail;go_meet;exact⟨by rw[HF.out];rfl,rfl⟩)
      ·have hq:¬(1:Int)<(np:Int):=by omega
       rw[decide_eq_false (by omega)]at HF;clear H48p hL hbn;cases B2<;>cases B3<;>(go_wp2_with fail;go_meet;exact⟨by rw[HF.out];rfl,rfl⟩)
     case rest=>
      obtain⟨rfl,rfl⟩:=hcut;clear H3 H4 H5 H48 H48p Hm0 HF hbn;cases FB with
      |true=>
       obtain rfl:E=3:=by rw[HE2.out];rfl
       clear H8 HE2 HDv Hb1' HGG H6
       go_wp2_with fail
       go_ret
       exact⟨rfl,Hb4.out⟩
      |false=>
       have H9:=hI (H8.out rfl);have HE3:=hI (show E=(if(dv&&(B4||G0))=true then 3 else 0)from HE2.out);have hb1:=Hb1'.out;have hg1:=HGG.out;clear H8 HE2 Hb1' HGG;cases dv with
       |false=>
        obtain rfl:E=0:=by rw[HE3.out];rfl
        have hdv:=HDv.out.2 rfl;clear HE3 HDv H9
        go_wp2_with (go_at_call 68;refine(H6.out _).mono ?_;rintro e w5 ⟨rfl,hb5⟩;have Hb5:=hI (qaa Hb4.out hb5);clear hb5)
        go_ret
        exact⟨rfl,Hb5.out⟩
       |true=>
        have hdv:=HDv.out.1 rfl;clear HDv;cases B4 with
        |true=>
         obtain rfl:E=3:=by rw[HE3.out];rfl
         clear HE3 H9
         go_wp2_with (go_at_call 68;refine(H6.out _).mono ?_;rintro e w5 ⟨rfl,hb5⟩;have Hb5:=hI (qaa Hb4.out hb5);clear hb5)
         go_ret
         exact⟨rfl,Hb5.out⟩
        |false=>
         cases G0 with
         |true=>
          obtain rfl:E=3:=by rw[HE3.out];rfl
          clear HE3;have hg2:(GG.toList==[49])=false:=by rw[bne,Bool.not_eq_true']at hg1;exact hg1
          go_wp2_with (first
           |(go_at_call 69;refine(H9.out _).mono ?_;rintro e w6 ⟨rfl,hb6⟩;have Hb6:=hI (qaa Hb5.out hb6);clear hb6)
           |(go_at_call 68;refine(H6.out _).mono ?_;rintro e w5 ⟨rfl,hb5⟩;have Hb5:=hI (qaa Hb4.out hb5);clear hb5))
          go_ret
          exact⟨rfl,Hb6.out⟩
         |false=>
          obtain rfl:E=0:=by rw[HE3.out];rfl
          clear HE3;have hg2:(GG.toList==[49])=true:=by rw[bne,Bool.not_eq_false']at hg1;exact hg1
          go_wp2_with (first
           |(go_at_call 69;refine(H9.out _).mono ?_;rintro e w6 ⟨rfl,hb6⟩;have Hb6:=hI (qaa Hb5.out hb6);clear hb6)
           |(go_at_call 68;refine(H6.out _).mono ?_;rintro e w5 ⟨rfl,hb5⟩;have Hb5:=hI (qaa Hb4.out hb5);clear hb5))
          go_ret
          exact⟨rfl,Hb6.out⟩
end Go.Proofs.YtacihodamichhaaGreatDoor
