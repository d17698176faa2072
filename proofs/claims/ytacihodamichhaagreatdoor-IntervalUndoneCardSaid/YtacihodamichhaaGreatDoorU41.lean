/- Parts of the proof. -/
import Derived.RegionTactic
import Derived.Lib.LaidTab
import Derived.Test.YtacihodamichhaaGreatDoorU40
set_option maxHeartbeats 8000000
namespace Go.Proofs.YtacihodamichhaaGreatDoor
open Go.RowKit
def Tab(w:World):Prop:=Lib.TabIs Tryz.prog w "internal/strconv.uint64pow10" .u64 Lib.pow10Tab
theorem Tab.mono{w w':World}(h:Tab w)(hb:Below w.heap.size w w'):Tab w':=by
 unfold Tab Lib.TabIs World.var? at*;cases hg:Tryz.prog.globalNamed "internal/strconv.uint64pow10" with
 |none=>rw[hg]at h;cases h
 |some k=>
  rw[hg]at h;simp only[Option.bind_some]at h⊢
  have hlt:k<w.heap.size:=by
   rcases Nat.lt_or_ge k w.heap.size with h'|h'
   ·exact h'
   ·rw[Array.getElem?_eq_none h']at h;cases h
  rw[hb.block k hlt];exact h
theorem qi9{w:World}{M n g cap:Nat}{xs:List ByteArray}(h:w.ownsRow M 9 1 (.slice (some ⟨g,0,none⟩) n cap) n (xs.map Value.string)){i:Nat}{s:ByteArray}(hs:xs[i]?=some s):
  w.cell? ⟨g,i,none⟩=some (.string s)∧w.frozen? ⟨g,i,none⟩=false:=by
 have hn:xs.length=n:=by have:=h.1;rw[List.length_map]at this;omega
 constructor
 ·obtain⟨b',off,y,ha,hy,c0⟩:=Sl.at1 (Sl.own1 h) (Below.refl _ _) (show i<n by rw[←hn];exact qhr hs)
  cases ha
  rw[List.getElem?_map,hs]at hy;cases hy
  rw[Nat.zero_add]at c0;exact c0
 ·rcases h.2 with⟨h1,h0⟩|⟨g',cap',cur,h1,hb,hg,_⟩
  ·cases h1
  ·cases h1
   exact frozen_of_row w g _ _ _ hg
theorem qve{xs L:List ByteArray}{k:Nat}(hl:L.length=xs.length)(hk:¬(k:Int)<(xs.length:Int)-1-(k:Int))(hk2:k≤xs.length)(h:∀p,p<xs.length→L[p]?=if p<k∨xs.length-k≤p then xs[xs.length-1-p]? else xs[p]?):L=xs.reverse:=by
 apply List.ext_getElem?
 intro p;rcases Nat.lt_or_ge p xs.length with hp|hp
 ·rw[h p hp,List.getElem?_reverse hp]
  split
  ·rfl
  ·congr 1
   omega
 ·rw[List.getElem?_eq_none (by omega),List.getElem?_eq_none (by rw[List.length_reverse];omega)]
theorem qst{xs L:List ByteArray}{k j:Nat}{x y:ByteArray}(hl:L.length=xs.length)(hj:j=xs.length-1-k)(hkj:k<j)(hx:L[k]?=some x)(hy:L[j]?=some y)(h:∀p,p<xs.length→L[p]?=if p<k∨xs.length-k≤p then xs[xs.length-1-p]? else xs[p]?):
  ∀p,p<xs.length→((L.set k y).set j x)[p]?=if p<k+1∨xs.length-(k+1)≤p then xs[xs.length-1-p]? else xs[p]?:=by
 intro p hp;have hk0:=h k (by omega);have hj0:=h j (by omega);rw[if_neg (by omega),hx]at hk0;rw[if_neg (by omega),hy]at hj0;rw[List.getElem?_set]
 by_cases e1:j=p
 ·subst e1
  rw[if_pos rfl,if_pos (by rw[List.length_set];omega),if_pos (by omega),show xs.length-1-j=k by omega,←hk0]
 ·rw[if_neg e1,List.getElem?_set]
  by_cases e2:k=p
  ·subst e2
   rw[if_pos rfl,if_pos (by omega),if_pos (by omega),←hj,←hj0]
  ·rw[if_neg e2,h p hp]
   by_cases e3:p<k∨xs.length-k≤p
   ·rw[if_pos e3,if_pos (by omega)]
   ·rw[if_neg e3,if_neg (by omega)]
theorem qpy(xs:List ByteArray)(a:Option Addr)(n c M:Nat)(w:World)(hown:w.ownsRow M 9 1 (.slice a n c) n (xs.map Value.string))(hM:M≤w.heap.size)(hn1:n<1000000):
  Calls Tryz.prog 150 #[.slice a n c] w (fun e w'=>e=.returned (.tuple #[])∧w'.ownsRow M 9 1 (.slice a n c) n (xs.reverse.map Value.string)∧Below M w w'):=by
 have hn:xs.length=n:=by have:=hown.1;rw[List.length_map]at this;omega
 have hw0:IntKind.i64.wrap ((n:Int)-1)=(n:Int)-1:=IntWalk.i64_in _ (by omega);have Hn:=hI hn;have HM:=hI hM;clear hn hM
 go_enter Tryz.func150,Tryz.ntmps150
 go_wp2_with fail
 go_loopw [2,3] (fun i j wr=>∃(k:Nat) (L:List ByteArray),k≤n∧i=.int .i64 (k:Int)∧j=.int .i64 ((n:Int)-1-(k:Int))∧wr.ownsRow M 9 1 (.slice a n c) n (L.map Value.string)∧Below M w wr∧Hid (L.length=n∧∀p,p<n→L[p]?=if p<k∨n-k≤p then xs[n-1-p]? else xs[p]?)) (fun i _ _=>n-(intOf i).toNat)
 case atStart=>exact⟨0,xs,Nat.zero_le _,rfl,by simp,hown,Below.refl _ _,Hn.out,fun p hp=>by rw[if_neg (by omega)]⟩
 case round=>
  clear hown;obtain⟨k,L,hk,rfl,rfl,hown,hbw,hpre⟩:=hrel
  by_cases hlt:(k:Int)<(n:Int)-1-(k:Int)
  ·obtain⟨g,rfl⟩:=qbk hown (by omega)
   obtain⟨j,hj⟩:∃j:Nat,(n:Int)-1-(k:Int)=(j:Int):=⟨n-1-k,by omega⟩
   rw[hj]at hlt⊢;obtain⟨x,hx⟩:∃x,L[k]?=some x:=⟨L[k]'(by have:=hpre.out.1;omega),by simp⟩
   obtain⟨y,hy⟩:∃y,L[j]?=some y:=⟨L[j]'(by have:=hpre.out.1;omega),by simp⟩
   obtain⟨ck,fk⟩:=qi9 hown hx;obtain⟨cj,fj⟩:=qi9 hown hy;have hkn:(k:Int)<(n:Int):=by omega
   have hjn:(j:Int)<(n:Int):=by omega
   have hk0:(0:Int)≤(k:Int):=Int.natCast_nonneg _;have hj0:(0:Int)≤(j:Int):=Int.natCast_nonneg _;have hkw:IntKind.i64.wrap ((k:Int)+1)=(k:Int)+1:=IntWalk.i64_in _ (by omega);have hjw:IntKind.i64.wrap ((j:Int)-1)=(j:Int)-1:=IntWalk.i64_in _ (by omega);have hge:=(hown.lt g rfl).1;have Hs:=hI (qst (j:=j) (hpre.out.1.trans Hn.out.symm) (by rw[Hn.out];omega) (by omega) hx hy (by rw[Hn.out];exact hpre.out.2));have h1:=qak hown (i:=k) (by omega) (.string y);have h2:=qak h1 (i:=j) (by omega) (.string x);rw[show((L.map Value.string).set k (.string y)).set j (.string x)=(((L.set k y).set j x)).map Value.string by rw[List.map_set,List.map_set]]at h2;have Hown:=hI h2;have Hbw:=hI ((hbw.setCell (p:=⟨g,k,none⟩) hge (.string y)).setCell (p:=⟨g,j,none⟩) hge (.string x));have Hj:=hI hj;have Hl:=hI (show((L.set k y).set j x).length=n by rw[List.length_set,List.length_set];exact hpre.out.1);clear h1 h2 hown hbw hpre hx hy hj
   go_wp2_with fail
   go_region
   all_goals(go_wp2_with fail)
   go_roundw
   case rel=>
    refine⟨k+1,(L.set k y).set j x,by omega,by go_num,by have:=Hj.out;rw[show(n:Int)-1-((k+1:Nat):Int)=(j:Int)-1 by omega],?_,?_,Hl.out,by have h:=Hs.out;rw[Hn.out]at h;exact h⟩
    ·exact qaf Hown.out ((Below.refl _ _).dn 1)
    ·exact(Hbw.out).dn 1
   case measure=>simp[intOf]<;>omega
  ·have hfin:=qve (xs:=xs) (hpre.out.1.trans Hn.out.symm) (by rw[Hn.out];exact hlt) (by rw[Hn.out];exact hk) (by rw[Hn.out];exact hpre.out.2)
   subst hfin
   go_wp2_with fail
   go_end0
   exact⟨rfl,by rw[←List.map_reverse];exact hown,hbw⟩
theorem qoz{l:List (List UInt8)}(h:∀x∈l,x.length≤9):l.flatten.length≤9*l.length:=by
 induction l with
 |nil=>simp
 |cons x l ih=>
  rw[List.flatten_cons,List.length_append,List.length_cons];have:=h x (by simp);have:=ih (fun y hy=>h y (by simp[hy]))
  omega
theorem qtj(l:List (List UInt8)):Lib.join l []=l.flatten:=by
 induction l with
 |nil=>rfl
 |cons x l ih=>
  rw[Lib.join_cons];unfold Lib.joinTail;simp
def mkB(l:List UInt8):ByteArray:=⟨l.toArray⟩
theorem qw2(k:Nat):Lib.repeatL [48] k=List.replicate k 48:=by
 induction k with
 |zero=>rfl
 |succ k ih=>rw[Lib.repeatL,ih];rfl
theorem qxs(x y:List UInt8):(⟨x.toArray⟩++⟨y.toArray⟩:ByteArray)=mkB (x++y):=by
 apply qdm
 simp[ByteArray.toList_eq,mkB]
theorem qm6{w w5:World}{o:Obj}{B n N:Nat}{v gv:Value}{xs:List Value}(h:MagA w v N)(hown:w.ownsRow B 9 1 gv n xs)(hg:(w.alloc o).grownBy w5 gv.ownBlock):MagV w5 v N:=by
 obtain⟨a,c,rfl,hl,ha⟩:=h;exact⟨a,c,rfl,Ls.grown (hl.mono (qac w o)) (ha.mono (qac w o)) (qaf hown (qac w o)) (by decide) hg⟩
theorem qrb(w:World)(k:Nat)(os:Array Obj):Below w.heap.size w (Go.Sort.grow (w.drewN k) os):=⟨rfl,rfl,rfl,by show w.heap.size≤(w.heap++os).size;rw[Array.size_append];omega,fun b hb=>by show(w.heap++os)[b]?=w.heap[b]?;rw[Array.getElem?_append_left hb]⟩
set_option maxRecDepth 10000 in
theorem qub(v:Value)(z:Int)(K:Nat)(w:World)(h:IntV w v z)(hK:z.natAbs<10^(9*K))(hK1:K≤10000)(hT:Tab w):Calls Tryz.prog 114 #[v] w (Ret (.string ⟨(txtZ z).toArray⟩) w):=by
 obtain⟨a,c,rfl,h⟩:=h;have hfew:Few z.natAbs:=qaq hK (by omega)
 by_cases h0:z=0
 ·subst h0
  rw[qc2];have hB:=Blk.new w #[.bool (decide ((0:Int)<0)),.slice a (limbs (Int.natAbs 0)).length c] 75;have hn:(limbs (Int.natAbs 0)).length=0:=by rw[show Int.natAbs 0=0 from rfl,qah];rfl
  rw[hn]at hB⊢;obtain⟨⟨c0,c1⟩,-⟩:=qag hB;clear hB h hT
  go_enter Tryz.func114,Tryz.ntmps114
  go_wp2_with fail
  go_ret
  exact⟨rfl,qac w _⟩
 ·have hN0:z.natAbs≠0:=by omega
  have HTx:=hI (show txtZ z=if decide (z<0)=true then 45::qao (D10.limbs z.natAbs)else qao (D10.limbs z.natAbs)from by
   unfold txtZ txtN txtD
   rw[if_neg (fun e=>hN0 (D10.qbs.1 e))])
  generalize txtZ z=R at*;generalize decide (z<0)=sg at*;have Hfew:=hI hfew;have HK0:=hI hK;have HN0:=hI hN0;have hM:MagV w (.slice a (limbs z.natAbs).length c) z.natAbs:=⟨a,c,rfl,h⟩
  have hnn:(limbs z.natAbs).length≠0:=fun e=>hN0 (qcm.1 e)
  generalize z.natAbs=N at*;generalize(limbs N).length=n at*;have hn1:((n:Int)==0)=false:=by rw[beq_eq_false_iff_ne];omega
  have hB:=Blk.new w #[.bool sg,.slice a n c] 75;have HB:=hI hB;have HK:=hI (qac w (.cells #[.bool sg,.slice a n c] 75));have HM:=hI (hM.mono HK.out);have HT:=hI (hT.mono HK.out);have HN:=hI (fun W:World=>World.ownsRow_nil W (w.alloc (.cells #[.bool sg,.slice a n c] 75)).heap.size 9 1);obtain⟨⟨c0,c1⟩,-⟩:=qag hB;clear h0 h hfew hK hN0 hM hnn hT hB
  go_enter Tryz.func114,Tryz.ntmps114
  go_wp2_with fail
  go_loopg [4,3] N (fun gk m g wr=>∃gs:List (List UInt8),MagV wr m gk∧Below (w.alloc (.cells #[.bool sg,.slice a n c] 75)).heap.size (w.alloc (.cells #[.bool sg,.slice a n c] 75)) wr∧wr.ownsRow (w.alloc (.cells #[.bool sg,.slice a n c] 75)).heap.size 9 1 g gs.length ((gs.map mkB).map Value.string)∧gs.length≤K∧gk≤N∧Hid (gk<10^(9*(K-gs.length))∧(∀l∈gs,l.length≤9)∧qao (D10.limbs N)=qao (D10.limbs gk)++gs.reverse.flatten))
  case atStart=>exact⟨[],HM.out,Below.refl _ _,HN.out _,Nat.zero_le _,Nat.le_refl _,HK0.out,(fun l hl=>by simp at hl),by simp⟩
  case round=>
   obtain⟨gs,hm,hbw,hown,hgl,hgN,hpre⟩:=hrel;obtain⟨am,cm,rfl,hm⟩:=hm;have Hbw:=hI hbw;have Hown:=hI hown;rcases Nat.eq_zero_or_pos gk with rfl|hpos
   ·have hz:(limbs 0).length=0:=by rw[qah];rfl
    rw[hz];have hfl:=hpre.out.2.2;rw[D10.qah,show qao []=[]from rfl,List.nil_append]at hfl
    have hgs0:0<gs.length:=by
     rcases Nat.eq_zero_or_pos gs.length with h|h
     ·rw[List.length_eq_zero_iff.1 h]at hfl
      exact absurd (qfj HN0.out) (by rw[hfl];simp)
     ·exact h
    obtain⟨ga,gc,rfl,hc1,-⟩:=qas hown;obtain⟨gb,rfl⟩:=qbk hown hgs0;obtain⟨q,hq⟩:∃q,gs.length=q:=⟨_,rfl⟩
    have hxl:((gs.map mkB).reverse).length=q:=by simp[hq]
    have hjoin:Lib.join (((gs.map mkB).reverse).map (·.data.toList)) (⟨#[]⟩:ByteArray).data.toList=gs.reverse.flatten:=by
     rw[show(⟨#[]⟩:ByteArray).data.toList=[]from rfl,qtj,List.map_reverse,List.map_map]
     congr 2
     conv=>rhs;rw[←List.map_id gs]
     exact List.map_congr_left (fun x _=>by simp[mkB])
    have hbnd:gs.reverse.flatten.length≤140737488355328:=by
     have:=qoz (l:=gs.reverse) (fun x hx=>hpre.out.2.1 x (List.mem_reverse.1 hx));rw[List.length_reverse]at this
     omega
    rw[hq]at hown hgs0 hc1;rw[hq];have HRv:=hI (qpy (gs.map mkB) _ q gc (w.alloc (.cells #[.bool sg,.slice a n c] 75)).heap.size wr hown Hbw.out.size (by omega));have HJ:=hI (fun w' (ho:w'.ownsRow (w.alloc (.cells #[.bool sg,.slice a n c] 75)).heap.size 9 1 (.slice (some ⟨gb,0,none⟩) q gc) q ((gs.map mkB).reverse.map Value.string))=>Tryz.strings_Join gb 0 gc ((gs.map mkB).reverse) ⟨#[]⟩ w' (fun j x hx=>by rw[Nat.zero_add];exact(qi9 ho hx).1) (ho.lt gb rfl).2 (by rw[hxl];omega) (by rw[hxl];exact hc1) (by rw[hjoin];exact hbnd));rw[hxl,hjoin,←hfl]at HJ;have Hsz:=hI (show(⟨(qao (D10.limbs N)).toArray⟩:ByteArray).size≤140737488355328 from by rw[Lib.size_eq,hfl];exact hbnd);clear hown hbw hpre hfl hjoin hbnd hxl hq hc1 hm hz;have hsz:=Hsz.out;have hcat:¬9223372036854775807<1+(⟨(qao (D10.limbs N)).toArray⟩:ByteArray).size:=by omega
    have HTx2:=HTx.out;cases sg
    ·rw[if_neg (by decide)]at HTx2
     subst HTx2;generalize(⟨(qao (D10.limbs N)).toArray⟩:ByteArray)=RB at*
     go_wp2_with (first
      |(go_at_call 150;refine(HRv.out).mono ?_;rintro e w3 ⟨rfl,ho3,hb3⟩;have Ho3:=hI ho3;have Hb3:=hI (Hbw.out.trans hb3);clear ho3 hb3)
      |(go_at_call 151;refine(HJ.out _ Ho3.out).mono ?_;rintro e w4 ⟨rfl,hb4⟩;have Hb4:=hI (Hb3.out.via hb4 Hb3.out.size);obtain⟨⟨s0,s1⟩,-⟩:=qag (HB.out.below Hb4.out);clear hb4))
     go_ret
     exact⟨rfl,HK.out.via Hb4.out HK.out.size⟩
    ·rw[if_pos rfl]at HTx2
     subst HTx2;have hRB:=qsc 45 (qao (D10.limbs N));have HRB:=hI hRB;clear hRB;generalize(⟨(qao (D10.limbs N)).toArray⟩:ByteArray)=RB at*
     go_wp2_with (first
      |(go_at_call 150;refine(HRv.out).mono ?_;rintro e w3 ⟨rfl,ho3,hb3⟩;have Ho3:=hI ho3;have Hb3:=hI (Hbw.out.trans hb3);clear ho3 hb3)
      |(go_at_call 151;refine(HJ.out _ Ho3.out).mono ?_;rintro e w4 ⟨rfl,hb4⟩;have Hb4:=hI (Hb3.out.via hb4 Hb3.out.size);obtain⟨⟨s0,s1⟩,-⟩:=qag (HB.out.below Hb4.out);clear hb4))
     go_ret
     exact⟨by rw[←HRB.out];rfl,HK.out.via Hb4.out HK.out.size⟩
   ·have hg0:gk≠0:=by omega
    have hpow:=hpre.out.1
    have hglK:gs.length<K:=by
     rcases Nat.lt_or_ge gs.length K with h|h
     ·exact h
     ·rw[show K-gs.length=0 by omega,Nat.mul_zero,Nat.pow_zero]at hpow
      omega
    have hq2:gk/1000000000<10^(9*(K-(gs.length+1))):=by
     refine Nat.div_lt_of_lt_mul ?_
     rw[show K-gs.length=(K-(gs.length+1))+1 by omega,Nat.mul_add,Nat.pow_add]at hpow;rw[Nat.mul_comm];exact hpow
    have Hq2:=hI hq2;have Hst:=hI (qto hg0 hpre.out.2.2);have HS:=hI (qmf am _ cm (limbs gk) 1000000000 wr hm (qal gk) (qum hgN Hfew.out) (by decide) (by decide));rw[qai]at HS
    have hlen:0<(limbs gk).length:=by
     rcases Nat.eq_zero_or_pos (limbs gk).length with h|h
     ·rw[qcm]at h;omega
     ·exact h
    have hlen2:(0:Int)<((limbs gk).length:Int):=by omega
    have hr:gk%1000000000<1000000000:=Nat.mod_lt _ (by decide);have hqd:gk/1000000000<gk:=by omega
    have hdl:=qr0 (k:=8) (r:=gk%1000000000) (by omega);have hdl1:1≤(Lib.decDigits (gk%1000000000)).length:=by rw[Lib.decDigits_length];exact Lib.nDigits_pos _
    have hpl:=qvv (k:=8) (r:=gk%1000000000) (by omega)
    have hit:Lib.itoa ((gk%1000000000:Nat):Int)=Lib.decDigits (gk%1000000000):=by
     unfold Lib.itoa;rw[if_neg (by omega),Int.toNat_natCast]
    have HI:=hI (fun w' (ht:Tab w')=>Tryz.strconv_Itoa ((gk%1000000000:Nat):Int) (by omega) (by omega) w' ht);rw[hit]at HI;have hwr:IntKind.i64.wrap ((gk%1000000000:Nat):Int)=((gk%1000000000:Nat):Int):=IntWalk.i64_in _ (by omega);have hpd:pad 9 (gk%1000000000)=List.replicate (9-(Lib.decDigits (gk%1000000000)).length) 48++Lib.decDigits (gk%1000000000):=rfl;obtain⟨rc,hrc⟩:∃rc,9-(Lib.decDigits (gk%1000000000)).length=rc:=⟨_,rfl⟩
    have HRp:=hI (fun w'=>Tryz.strings_Repeat ⟨#[48]⟩ rc w' (by omega) (by rw[show(⟨#[48]⟩:ByteArray).size=1 from rfl];omega));rw[show(⟨#[48]⟩:ByteArray).data.toList=[48]from rfl,qw2]at HRp;rw[hrc]at hpd;have hDs:(⟨(Lib.decDigits (gk%1000000000)).toArray⟩:ByteArray).size=(Lib.decDigits (gk%1000000000)).length:=Lib.size_eq _;have hRs:(⟨(List.replicate rc (48:UInt8)).toArray⟩:ByteArray).size=rc:=by rw[Lib.size_eq];simp
    have hcat:=qxs (List.replicate rc 48) (Lib.decDigits (gk%1000000000));rw[←hpd]at hcat;have hdm:(⟨(Lib.decDigits (gk%1000000000)).toArray⟩:ByteArray)=mkB (Lib.decDigits (gk%1000000000)):=rfl;obtain⟨kq,hkq⟩:∃k,(limbs (gk/1000000000)).length=k:=⟨_,rfl⟩
    have hkz:=qcm (n:=gk/1000000000);rw[hkq]at hkz;have Hkq:=hI hkq;generalize Lib.decDigits (gk%1000000000)=dd at*;generalize pad 9 (gk%1000000000)=pp at*;generalize gk%1000000000=r at*;generalize gk/1000000000=qq at*;generalize(limbs gk).length=kl at*;unfold MagA at HS;rw[hkq]at HS;have Hqd:=hI hqd;have Hgl:=hI (And.intro hglK hgN);have Hdl:=hI (And.intro hdl hpl);have Hdm:=hI hdm;have Hcat:=hI hcat;have hcs:¬9223372036854775807<rc+(⟨dd.toArray⟩:ByteArray).size:=by omega
    have hsub:IntKind.i64.wrap ((9:Int)-((⟨dd.toArray⟩:ByteArray).size:Int))=(rc:Int):=(IntWalk.i64_in _ (by omega)).trans (by omega);clear hdm hcat hpd hit;generalize hD:(⟨dd.toArray⟩:ByteArray)=D at*;generalize hR0:(⟨(List.replicate rc (48:UInt8)).toArray⟩:ByteArray)=RP at*;have hcs2:¬9223372036854775807<RP.size+D.size:=by omega
    have Hpre2:=hI hpre.out.2.1;have HD0:=hI hD;have HR0:=hI hR0;clear hD hR0 hDs hRs
    by_cases hq0:qq=0
    ·subst hq0
     have hk0:kq=0:=hkz.2 rfl;subst hk0;have Hst2:=hI (show qao (D10.limbs N)=qao (D10.limbs 0)++(gs++[dd]).reverse.flatten from by have h:=Hst.out;rw[if_pos rfl]at h;exact h);clear hq2 hpow hm hbw hown hlen hr hqd hdl hdl1 hpl hg0 hpre hgl hgN hkz hkq Hst
     go_wp2_with (first
      |(go_at_call 147;refine(HS.out).mono ?_;rintro e w1 ⟨v1,rfl,⟨a1,c1,rfl,hl1,ha1⟩,hb1⟩;have Hv1:=hI (And.intro hl1 ha1);have Hb1:=hI (qaa Hbw.out hb1);have Hbw1:=hI hb1;clear hl1 ha1 hb1)
      |(go_at_call 148;refine(HI.out _ (HT.out.mono Hb1.out)).mono ?_;rintro e w2 ⟨rfl,kk,os,hw2⟩;have hb2:=qrb w1 kk os;rw[←hw2]at hb2;have Hb2:=hI (qaa Hb1.out hb2);have Hbw2:=hI (qaa Hbw1.out hb2);have Hv2:=hI (And.intro (Hv1.out.1.mono hb2) (Hv1.out.2.mono hb2));clear hw2 hb2)
      |(at_builtin;refine qcv ES (by decide) [.string (D)] rfl _ _ rfl (w.alloc (.cells #[.bool sg,.slice a n c] 75)).heap.size _ _ _ rfl rfl (qaf Hown.out Hbw2.out) rfl (one1 _ rfl) (by omega) (by decide) Hb2.out.size ?_;intro v' w5 hown' hg';have Hb5:=hI (qau Hb2.out (qaf Hown.out Hbw2.out) hg' Hb2.out.size);have Hown5:=hI hown';have Hm5:=hI (qm6 (N:=0) ⟨a1,c1,by rw[Hkq.out],by rw[Hkq.out];exact Hv2.out.1,Hv2.out.2⟩ (qaf Hown.out Hbw2.out) hg');clear hown' hg'))
     go_roundg 0
     case measure=>exact Hqd.out
     case rel=>
      refine⟨gs++[dd],Hm5.out,Hb5.out,?_,?_,?_,?_,?_,Hst2.out⟩
      ·have h:=Hown5.out
       rw[Hdm.out]at h;rw[List.length_append,List.map_append,List.map_append];exact h
      ·rw[List.length_append];exact Hgl.out.1
      ·exact Nat.zero_le _
      ·rw[List.length_append];exact Hq2.out
      ·intro y hy
       rcases List.mem_append.1 hy with hy|hy
       ·exact Hpre2.out y hy
       ·rw[List.mem_singleton.1 hy]
        exact Hdl.out.1
    ·have hk0:kq≠0:=fun e=>hq0 (hkz.1 e)
     have hk1:(0:Int)<(kq:Int):=by omega
     have Hst2:=hI (show qao (D10.limbs N)=qao (D10.limbs qq)++(gs++[pp]).reverse.flatten from by have h:=Hst.out;rw[if_neg hq0]at h;exact h);clear hq2 hpow hm hbw hown hlen hr hqd hdl hdl1 hpl hg0 hpre hgl hgN hkz hkq Hst
     go_wp2_with (first
      |(go_at_call 147;refine(HS.out).mono ?_;rintro e w1 ⟨v1,rfl,⟨a1,c1,rfl,hl1,ha1⟩,hb1⟩;have Hv1:=hI (And.intro hl1 ha1);have Hb1:=hI (qaa Hbw.out hb1);have Hbw1:=hI hb1;clear hl1 ha1 hb1)
      |(go_at_call 148;refine(HI.out _ (HT.out.mono Hb1.out)).mono ?_;rintro e w2 ⟨rfl,kk,os,hw2⟩;have hb2:=qrb w1 kk os;rw[←hw2]at hb2;have Hb2:=hI (qaa Hb1.out hb2);have Hbw2:=hI (qaa Hbw1.out hb2);have Hv2:=hI (And.intro (Hv1.out.1.mono hb2) (Hv1.out.2.mono hb2));clear hw2 hb2)
      |(go_at_call 149;refine(HRp.out _).mono ?_;rintro e w3 ⟨rfl,hb3⟩;have Hb3:=hI (qaa Hb2.out hb3);have Hbw3:=hI (qaa Hbw2.out hb3);have Hv3:=hI (And.intro (Hv2.out.1.mono hb3) (Hv2.out.2.mono hb3));clear hb3)
      |(at_builtin;refine qcv ES (by decide) [.string (RP++D)] rfl _ _ rfl (w.alloc (.cells #[.bool sg,.slice a n c] 75)).heap.size _ _ _ rfl rfl (qaf Hown.out Hbw3.out) rfl (one1 _ rfl) (by omega) (by decide) Hb3.out.size ?_;intro v' w5 hown' hg';have Hb5:=hI (qau Hb3.out (qaf Hown.out Hbw3.out) hg' Hb3.out.size);have Hown5:=hI hown';have Hm5:=hI (qm6 (N:=qq) ⟨a1,c1,by rw[Hkq.out],by rw[Hkq.out];exact Hv3.out.1,Hv3.out.2⟩ (qaf Hown.out Hbw3.out) hg');clear hown' hg'))
     go_roundg qq
     case measure=>exact Hqd.out
     case rel=>
      refine⟨gs++[pp],Hm5.out,Hb5.out,?_,?_,?_,?_,?_,Hst2.out⟩
      ·have h:=Hown5.out
       rw[Hcat.out]at h;rw[List.length_append,List.map_append,List.map_append];exact h
      ·rw[List.length_append];exact Hgl.out.1
      ·exact Nat.le_trans (Nat.le_of_lt Hqd.out) Hgl.out.2
      ·rw[List.length_append];exact Hq2.out
      ·intro y hy
       rcases List.mem_append.1 hy with hy|hy
       ·exact Hpre2.out y hy
       ·rw[List.mem_singleton.1 hy]
        exact(by rw[Hdl.out.2];exact Nat.le_refl _)
theorem qpx{X Y D K c:Nat}(h:D+K*c=X+Y)(hc:c=0):D=X+Y:=by subst hc;omega
set_option maxRecDepth 20000 in
theorem qvd(u v:Value)(x y:Nat)(w:World)(h:DgV w u x)(h':DgV w v y)(hf:qbe x)(hf':qbe y):Calls Tryz.prog 138 #[u,v] w (RetP (fun r w'=>∃a c,∃l:List Nat,r=.slice a l.length c∧Ds w' (.slice a l.length c) l∧D10.Dg l∧D10.natL l=x+y∧l.length≤20001) w):=by
 obtain⟨a,c,rfl,hA⟩:=h;obtain⟨b,c',rfl,hB⟩:=h';obtain⟨_,_,hq,ha1,ha2⟩:=hA.open;cases hq
 obtain⟨_,_,hq,hb1,hb2⟩:=hB.open;cases hq
 unfold maxLen at ha2 hb2;unfold qbe at hf hf';have HA:=hI hA;have HB:=hI hB;have Hx:=hI (D10.qai x);have Hy:=hI (D10.qai y);have Hdx:=hI (D10.qal x);have Hdy:=hI (D10.qal y);clear hA hB;generalize D10.limbs x=la at*;generalize D10.limbs y=lb at*;generalize hn:la.length=n at*;generalize hm:lb.length=m at*;have Hn:=hI hn;have Hm:=hI hm;clear hn hm;obtain⟨mx,hmx1,hmx2,hmx3⟩:∃mx,n≤mx∧m≤mx∧mx≤20000:=⟨max n m,by omega,by omega,by omega⟩
 have HN:=hI (fun W:World=>World.ownsRow_nil W w.heap.size 3 1)
 go_enter Tryz.func138,Tryz.ntmps138
 go_wp2_with fail
 go_loopw [7,6,5,8] (fun i bv out _ wr=>∃(k cr:Nat) (done:List Nat),k≤mx+1∧(k=mx+1→cr=0)∧i=.int .i64 (k:Int)∧bv=.int .i64 (cr:Int)∧cr≤1∧Below w.heap.size w wr∧wr.ownsRow w.heap.size 3 1 out k ((qb4 done).map (Value.int .i64))∧Hid (done.length=k∧D10.Dg done∧D10.natL done+10^k*cr=D10.natL (la.take k)+D10.natL (lb.take k))) (fun i _ _ _ _=>mx+2-(intOf i).toNat)
 case atStart=>exact⟨0,0,[],Nat.zero_le _,fun _=>rfl,rfl,rfl,by decide,Below.refl _ _,HN.out _,rfl,(fun d hd=>by simp at hd),by simp[D10.natL]⟩
 case round=>
  obtain⟨k,cr,done,hk,hkc,rfl,rfl,hcr,hbw,hown,hpre⟩:=hrel;have hkw:IntKind.i64.wrap ((k:Int)+1)=(k:Int)+1:=IntWalk.i64_in _ (by omega);have Hown:=hI hown;have Hbw:=hI hbw;rcases Nat.lt_or_ge k n with hlt|hge
  ·have hkn:(k:Int)<(n:Int):=by omega
   obtain⟨b1,off,d,rfl,hdk,c0⟩:=HA.out.at hbw hlt;have hd10:=Hdx.out d (List.mem_of_getElem? hdk);have Htka:=hI (show D10.natL (la.take (k+1))=D10.natL (la.take k)+10^k*d from D10.qaj hdk);clear hdk
   by_cases hkm:k<m
   ·have hkm2:(k:Int)<(m:Int):=by omega
    obtain⟨b2,off2,e,rfl,hek,d0⟩:=HB.out.at hbw hkm;have he10:=Hdy.out e (List.mem_of_getElem? hek);have Htkb:=hI (show D10.natL (lb.take (k+1))=D10.natL (lb.take k)+10^k*e from D10.qaj hek);clear hek;obtain⟨t,ht⟩:∃t,cr+(d+e)=t:=⟨_,rfl⟩
    obtain⟨u,hu⟩:∃u,cr+d=u:=⟨_,rfl⟩
    have q1:IntKind.i64.wrap ((cr:Int)+(d:Int))=(u:Int):=(IntWalk.i64_in _ (by omega)).trans (by omega);have q4:IntKind.i64.wrap ((u:Int)+(e:Int))=(t:Int):=(IntWalk.i64_in _ (by omega)).trans (by omega);obtain⟨tm,htm⟩:∃tm,t%10=tm:=⟨_,rfl⟩
    obtain⟨td,htd⟩:∃td,t/10=td:=⟨_,rfl⟩
    have Hst:=hI (D10.qbr (done:=done) (i:=k) (t:=t) (c:=cr) (T:=d+e) hpre.out.1 hpre.out.2.2 (by omega));rw[htm,htd]at Hst;have htm10:tm<10:=by omega
    have htd1:td≤1:=by omega
    have hend:k+1=mx+1→td=0:=by omega
    have q5:(t:Int).tmod 10=(tm:Int):=by rw[Int.tmod_eq_emod_of_nonneg (by omega)];omega
    have q6:(t:Int).tdiv 10=(td:Int):=by rw[Int.tdiv_eq_ediv_of_nonneg (by omega)];omega
    have hmod:(t:Int)%10=(tm:Int):=by omega
    have hdiv:(t:Int)/10=(td:Int):=by omega
    have q7:IntKind.i64.wrap (tm:Int)=(tm:Int):=IntWalk.i64_in _ (by omega);have q8:IntKind.i64.wrap (td:Int)=(td:Int):=IntWalk.i64_in _ (by omega);clear hbw hown ht htm htd hu
    go_wp2_with (at_builtin;refine qcv ED (by decide) [.int .i64 (tm:Int)] rfl _ _ rfl w.heap.size _ _ _ rfl rfl Hown.out rfl (one1 _ rfl) (by omega) (by decide) Hbw.out.size ?_;intro v' w5 hown' hg';have Hbw3:=hI (qau Hbw.out Hown.out hg' Hbw.out.size);have Hown5:=hI hown';clear hown' hg')
    go_roundw
    case rel=>
     refine⟨k+1,td,done++[tm],by omega,hend,by go_num,rfl,htd1,Hbw3.out,by have h:=Hown5.out;rw[qck]at h;exact h,by rw[List.length_append,hpre.out.1];rfl,hpre.out.2.1.append (D10.Dg.one htm10),?_⟩
     rw[Htka.out,Htkb.out,Hst.out,Nat.mul_add]
     omega
    case measure=>simp[intOf]<;>omega
   ·have hkm2:¬(k:Int)<(m:Int):=by omega
    have Htkb:=hI (show D10.natL (lb.take (k+1))=D10.natL (lb.take k)+10^k*0 from by rw[List.take_of_length_le (by rw[Hm.out];omega),List.take_of_length_le (by rw[Hm.out];omega),Nat.mul_zero,Nat.add_zero]);obtain⟨t,ht⟩:∃t,cr+(d+0)=t:=⟨_,rfl⟩
    have q4:IntKind.i64.wrap ((cr:Int)+(d:Int))=(t:Int):=(IntWalk.i64_in _ (by omega)).trans (by omega);obtain⟨tm,htm⟩:∃tm,t%10=tm:=⟨_,rfl⟩
    obtain⟨td,htd⟩:∃td,t/10=td:=⟨_,rfl⟩
    have Hst:=hI (D10.qbr (done:=done) (i:=k) (t:=t) (c:=cr) (T:=d+0) hpre.out.1 hpre.out.2.2 (by omega));rw[htm,htd]at Hst;have htm10:tm<10:=by omega
    have htd1:td≤1:=by omega
    have hend:k+1=mx+1→td=0:=by omega
    have q5:(t:Int).tmod 10=(tm:Int):=by rw[Int.tmod_eq_emod_of_nonneg (by omega)];omega
    have q6:(t:Int).tdiv 10=(td:Int):=by rw[Int.tdiv_eq_ediv_of_nonneg (by omega)];omega
    have hmod:(t:Int)%10=(tm:Int):=by omega
    have hdiv:(t:Int)/10=(td:Int):=by omega
    have q7:IntKind.i64.wrap (tm:Int)=(tm:Int):=IntWalk.i64_in _ (by omega);have q8:IntKind.i64.wrap (td:Int)=(td:Int):=IntWalk.i64_in _ (by omega);clear hbw hown ht htm htd
    go_wp2_with (at_builtin;refine qcv ED (by decide) [.int .i64 (tm:Int)] rfl _ _ rfl w.heap.size _ _ _ rfl rfl Hown.out rfl (one1 _ rfl) (by omega) (by decide) Hbw.out.size ?_;intro v' w5 hown' hg';have Hbw3:=hI (qau Hbw.out Hown.out hg' Hbw.out.size);have Hown5:=hI hown';clear hown' hg')
    go_roundw
    case rel=>
     refine⟨k+1,td,done++[tm],by omega,hend,by go_num,rfl,htd1,Hbw3.out,by have h:=Hown5.out;rw[qck]at h;exact h,by rw[List.length_append,hpre.out.1];rfl,hpre.out.2.1.append (D10.Dg.one htm10),?_⟩
     rw[Htka.out,Htkb.out,Hst.out,Nat.mul_add]
     omega
    case measure=>simp[intOf]<;>omega
  ·have hkn:¬(k:Int)<(n:Int):=by omega
   have Htka:=hI (show D10.natL (la.take (k+1))=D10.natL (la.take k)+10^k*0 from by rw[List.take_of_length_le (by rw[Hn.out];omega),List.take_of_length_le (by rw[Hn.out];omega),Nat.mul_zero,Nat.add_zero])
   by_cases hkm:k<m
   ·have hkm2:(k:Int)<(m:Int):=by omega
    obtain⟨b2,off2,e,rfl,hek,d0⟩:=HB.out.at hbw hkm;have he10:=Hdy.out e (List.mem_of_getElem? hek);have Htkb:=hI (show D10.natL (lb.take (k+1))=D10.natL (lb.take k)+10^k*e from D10.qaj hek);clear hek;obtain⟨t,ht⟩:∃t,cr+(0+e)=t:=⟨_,rfl⟩
    have q4:IntKind.i64.wrap ((cr:Int)+(e:Int))=(t:Int):=(IntWalk.i64_in _ (by omega)).trans (by omega);obtain⟨tm,htm⟩:∃tm,t%10=tm:=⟨_,rfl⟩
    obtain⟨td,htd⟩:∃td,t/10=td:=⟨_,rfl⟩
    have Hst:=hI (D10.qbr (done:=done) (i:=k) (t:=t) (c:=cr) (T:=0+e) hpre.out.1 hpre.out.2.2 (by omega));rw[htm,htd]at Hst;have htm10:tm<10:=by omega
    have htd1:td≤1:=by omega
    have hend:k+1=mx+1→td=0:=by omega
    have q5:(t:Int).tmod 10=(tm:Int):=by rw[Int.tmod_eq_emod_of_nonneg (by omega)];omega
    have q6:(t:Int).tdiv 10=(td:Int):=by rw[Int.tdiv_eq_ediv_of_nonneg (by omega)];omega
    have hmod:(t:Int)%10=(tm:Int):=by omega
    have hdiv:(t:Int)/10=(td:Int):=by omega
    have q7:IntKind.i64.wrap (tm:Int)=(tm:Int):=IntWalk.i64_in _ (by omega);have q8:IntKind.i64.wrap (td:Int)=(td:Int):=IntWalk.i64_in _ (by omega);clear hbw hown ht htm htd
    go_wp2_with (at_builtin;refine qcv ED (by decide) [.int .i64 (tm:Int)] rfl _ _ rfl w.heap.size _ _ _ rfl rfl Hown.out rfl (one1 _ rfl) (by omega) (by decide) Hbw.out.size ?_;intro v' w5 hown' hg';have Hbw3:=hI (qau Hbw.out Hown.out hg' Hbw.out.size);have Hown5:=hI hown';clear hown' hg')
    go_roundw
    case rel=>
     refine⟨k+1,td,done++[tm],by omega,hend,by go_num,rfl,htd1,Hbw3.out,by have h:=Hown5.out;rw[qck]at h;exact h,by rw[List.length_append,hpre.out.1];rfl,hpre.out.2.1.append (D10.Dg.one htm10),?_⟩
     rw[Htka.out,Htkb.out,Hst.out,Nat.mul_add]
     omega
    case measure=>simp[intOf]<;>omega
   ·have hkm2:¬(k:Int)<(m:Int):=by omega
    have Htkb:=hI (show D10.natL (lb.take (k+1))=D10.natL (lb.take k)+10^k*0 from by rw[List.take_of_length_le (by rw[Hm.out];omega),List.take_of_length_le (by rw[Hm.out];omega),Nat.mul_zero,Nat.add_zero])
    by_cases hc0:cr=0
    ·have hS:=hpre.out.2.2
     rw[List.take_of_length_le (by rw[Hn.out];omega),List.take_of_length_le (by rw[Hm.out];omega),Hx.out,Hy.out]at hS;have HS:=hI (qpx hS hc0);obtain⟨ao,co,rfl,hco,-⟩:=qas hown;have HD:=hI (show Ds wr (.slice ao k co) done from Ds.own hown);have hc1:¬(0:Int)<(cr:Int):=by omega
     clear hown hbw hS hc0
     go_wp2_with fail
     go_ret
     exact⟨_,rfl,⟨ao,co,done,by rw[hpre.out.1];rfl,by rw[hpre.out.1];exact HD.out,hpre.out.2.1,HS.out,by rw[hpre.out.1];omega⟩,Hbw.out⟩
    ·have hc1:(0:Int)<(cr:Int):=by omega
     have hk1:k≤mx:=by omega
     obtain⟨t,ht⟩:∃t,cr+(0+0)=t:=⟨_,rfl⟩
     obtain rfl:cr=t:=by omega
     obtain⟨tm,htm⟩:∃tm,cr%10=tm:=⟨_,rfl⟩
     obtain⟨td,htd⟩:∃td,cr/10=td:=⟨_,rfl⟩
     have Hst:=hI (D10.qbr (done:=done) (i:=k) (t:=cr) (c:=cr) (T:=0+0) hpre.out.1 hpre.out.2.2 (by omega));rw[htm,htd]at Hst;have htm10:tm<10:=by omega
     have htd1:td≤1:=by omega
     have hend:k+1=mx+1→td=0:=by omega
     have q5:(cr:Int).tmod 10=(tm:Int):=by rw[Int.tmod_eq_emod_of_nonneg (by omega)];omega
     have q6:(cr:Int).tdiv 10=(td:Int):=by rw[Int.tdiv_eq_ediv_of_nonneg (by omega)];omega
     have hmod:(cr:Int)%10=(tm:Int):=by omega
     have hdiv:(cr:Int)/10=(td:Int):=by omega
     have q7:IntKind.i64.wrap (tm:Int)=(tm:Int):=IntWalk.i64_in _ (by omega);have q8:IntKind.i64.wrap (td:Int)=(td:Int):=IntWalk.i64_in _ (by omega);clear hbw hown htm htd
     go_wp2_with (at_builtin;refine qcv ED (by decide) [.int .i64 (tm:Int)] rfl _ _ rfl w.heap.size _ _ _ rfl rfl Hown.out rfl (one1 _ rfl) (by omega) (by decide) Hbw.out.size ?_;intro v' w5 hown' hg';have Hbw3:=hI (qau Hbw.out Hown.out hg' Hbw.out.size);have Hown5:=hI hown';clear hown' hg')
     go_roundw
     case rel=>
      refine⟨k+1,td,done++[tm],by omega,hend,by go_num,rfl,htd1,Hbw3.out,by have h:=Hown5.out;rw[qck]at h;exact h,by rw[List.length_append,hpre.out.1];rfl,hpre.out.2.1.append (D10.Dg.one htm10),?_⟩
      rw[Htka.out,Htkb.out,Hst.out,Nat.mul_add]
      omega
     case measure=>simp[intOf]<;>omega
end Go.Proofs.YtacihodamichhaaGreatDoor
