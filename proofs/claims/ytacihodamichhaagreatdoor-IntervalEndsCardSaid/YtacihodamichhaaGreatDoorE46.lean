/- Parts of the proof. -/
import Derived.Test.YtacihodamichhaaGreatDoorE45
set_option maxHeartbeats 16000000
namespace Go.Proofs.YtacihodamichhaaGreatDoor
open Go.RowKit
theorem qlz{w:World}{e:TypeId}{M n g cap:Nat}{xs:List ByteArray}(h:w.ownsRow M e 1 (.slice (some ⟨g,0,none⟩) n cap) n (xs.map Value.string)){i:Nat}{s:ByteArray}(hs:xs[i]?=some s)(hi:i<n):w.cell? ⟨g,i,none⟩=some (.string s):=by
 obtain⟨b',off,y,ha,hy,c0⟩:=Sl.at1 (Sl.own1 h) (Below.refl _ _) hi;cases ha
 rw[List.getElem?_map,hs]at hy;cases hy
 rw[Nat.zero_add]at c0;exact c0
def innE(E:List ByteArray)(x:Iv):Nat→List ByteArray
 |0=>E
 |1=>qax E x.low
 |_=>qax (qax E x.low) x.high
theorem qoz{n:ByteArray}{s:Int}(hs:s=1∨s=-1):(qec n 2 s).b≠0:=by
 unfold qec;rw[if_pos rfl]
 show -s≠0
 omega
theorem ql6{n:ByteArray}{k s:Int}(hk:k≠2):(qec n k s).b=0∧(qec n k s).s=n:=by
 unfold qec;rw[if_neg hk];exact⟨rfl,rfl⟩
set_option maxRecDepth 10000 in
theorem qn9(v:Value)(xs:List Iv)(w:World)(h:Ivs w v xs)(hn:xs.length≤256):
  Calls Tryz.prog 17 #[v] w (RetP (fun r w'=>∃a c,∃L:List ByteArray,r=.slice a L.length c∧Strs w' (.slice a L.length c) L∧L=qca (xs.map Iv.cuts)∧L.length≤1000) w):=by
 obtain⟨a,c,rfl,hc1,hc2⟩:=h.open;have HX:=hI h;generalize hN:xs.length=N at*;have HNl:=hI hN;have HN:=hI (World.ownsRow_nil w w.heap.size 23 1);clear h hN
 go_enter Tryz.func17,Tryz.ntmps17
 go_wp2_with fail
 go_loopw [4,3,5,6,7] (fun i out _ _ _ wr=>∃(k:Nat) (E:List ByteArray),k≤N∧i=.int .i64 (k:Int)∧Below w.heap.size w wr∧wr.ownsRow w.heap.size 23 1 out E.length (E.map Value.string)∧E.length≤2*k∧Hid (E=qca ((xs.take k).map Iv.cuts))) (fun i _ _ _ _ _=>N-(intOf i).toNat)
 case atStart=>exact⟨0,[],Nat.zero_le _,rfl,Below.refl _ _,HN.out,Nat.le_refl _,rfl⟩
 case round=>
  obtain⟨k,E,hk,rfl,hbw,hown,hEl,hpre⟩:=hrel;have Hbw:=hI hbw;have Hpre:=hI hpre.out;have Hown:=hI hown;have hkw:IntKind.i64.wrap ((k:Int)+1)=(k:Int)+1:=IntWalk.i64_in _ (by omega);rcases Nat.lt_or_ge k N with hlt|hge
  ·obtain⟨b,off,x,rfl,hx,c0,c1,c2,c3⟩:=HX.out.at (Below.refl _ _) hlt
   obtain⟨lo,hi,le,he⟩:=x;dsimp only at c0 c1 c2 c3;have hkn:(k:Int)<(N:Int):=by omega
   have hk0:(0:Int)≤(k:Int):=Int.natCast_nonneg _;have HC:=hI (fun w' (hb:Below w.heap.size w w')=>show w'.cell? ⟨b,off+k*4,none⟩=some (.string lo)∧w'.cell? ⟨b,off+k*4+1,none⟩=some (.string hi)∧w'.cell? ⟨b,off+k*4+2,none⟩=some (.int .i64 le)∧w'.cell? ⟨b,off+k*4+3,none⟩=some (.int .i64 he)from⟨qab hb c0,qab hb c1,qab hb c2,qab hb c3⟩);have Hsn:=hI (show qca ((xs.take (k+1)).map Iv.cuts)=innE E ⟨lo,hi,le,he⟩ 2 from by rw[qbn hx,List.map_append,Hpre.out];exact qh7 _ _);clear hx c0 c1 c2 c3 hbw hown hpre Hpre
   go_wp2_with fail
   go_loopw [5,3,6,7] (fun kv out _ _ wz=>∃(q:Nat) (O:List ByteArray),q≤2∧kv=.int .i64 (q:Int)∧Below w.heap.size w wz∧wz.ownsRow w.heap.size 23 1 out O.length (O.map Value.string)∧O.length≤2*k+q∧Hid (O=innE E ⟨lo,hi,le,he⟩ q)) (fun kv _ _ _ _=>2-(intOf kv).toNat)
   case atStart=>exact⟨0,E,by decide,rfl,Hbw.out,Hown.out,by omega,rfl⟩
   case round=>
    clear Hown
    rename World=>wz
    obtain⟨q,O,hq,rfl,hbz,hown,hOl,hin⟩:=hrel;have Hbz:=hI hbz;have Hown2:=hI hown;have Hin:=hI hin.out;have Hol:=hI hOl;clear hbz hown hin;rcases q with _|_|q
    ·have hq0:((0:Nat):Int)=0:=rfl
     go_upto_region 8 with fail
     refine wp_region_held_drew (S:=(fun w'=>w'.cell? ⟨b,off+k*4,none⟩=some (.string lo)∧w'.cell? ⟨b,off+k*4+1,none⟩=some (.string hi)∧w'.cell? ⟨b,off+k*4+2,none⟩=some (.int .i64 le)∧w'.cell? ⟨b,off+k*4+3,none⟩=some (.int .i64 he))) (by kernel_rfl) (by exact HC.out _ (Hbz.out.dn 1)) (fun hHeld=>?_)
     refine' tk 0 ?_;(try simp only[tkS]);refine' tk 1 ?_;(try simp only[tkS]);refine' tk 2 ?_;(try simp only[tkS]);refine' tk 3 ?_;(try simp only[tkS]);refine' tk 4 ?_;(try simp only[tkS]);refine' tk 5 ?_;(try simp only[tkS]);refine' tk 6 ?_;(try simp only[tkS]);refine' tk 7 ?_;(try simp only[tkS]);refine' tk 8 ?_;(try simp only[tkS]);refine' tk 9 ?_;(try simp only[tkS]);refine' tk 10 ?_;(try simp only[tkS]);refine' tk 11 ?_;(try simp only[tkS]);refine tkD ?_ _
     skip
     have Hb3:=hI (Hbz.out.dn 1);have hw3:=qaf Hown2.out ((Below.refl _ _).dn 1);obtain⟨ga,gc,rfl,hgc1,hgc2⟩:=qas hw3;have Hown3:=hI hw3;clear hw3
     by_cases hle:le=2
     ·subst hle
      have hR:O=innE E ⟨lo,hi,2,he⟩ 1:=Hin.out.trans (qex (O:=innE E ⟨lo,hi,2,he⟩ 0) (c:=Iv.low ⟨lo,hi,2,he⟩) (qoz (Or.inl rfl))).symm;have HR:=hI hR;clear hR
      go_wp2_with fail
      go_roundw
      case rel=>exact⟨1,O,by decide,by go_num,Hb3.out,Hown3.out,by have:=Hol.out;omega,HR.out⟩
      case measure=>simp[intOf]<;>omega
     ·have hb1:(le !=2)=true:=bne_iff_ne.2 hle
      obtain⟨hcb,hcs⟩:=ql6 (n:=lo) (s:=1) hle
      by_cases hO0:O=[]
      ·have HR:=hI (show O++[lo]=innE E ⟨lo,hi,le,he⟩ 1 from by rw[Hin.out]at hO0⊢;have h:=qd8 (O:=innE E ⟨lo,hi,le,he⟩ 0) (c:=Iv.low ⟨lo,hi,le,he⟩) hcb hO0;rw[show(Iv.low ⟨lo,hi,le,he⟩).s=lo from hcs]at h;exact h.symm)
       have hl0:O.length=0:=by rw[hO0];rfl
       have Hlen:=hI (show(O++[lo]).length=O.length+1 by simp);have Hol2:=hI Hol.out;rw[hl0]at Hown3 hgc1⊢;clear hcb hcs hO0 hle
       go_wp2_with (at_builtin;refine qcr ENm (by decide) [.string lo] rfl _ _ rfl w.heap.size _ _ _ rfl rfl Hown3.out rfl (one1 _ rfl) (by omega) (by decide) (Hb3.out).size ?_;intro v' w5 hown' hg';have Hb5:=hI (qat Hb3.out Hown3.out hg' (Hb3.out).size);have Hown5:=hI hown';clear hown' hg')
       go_roundw
       case rel=>exact⟨1,O++[lo],by decide,by go_num,Hb5.out,by rw[Hlen.out,hl0,List.map_append];exact Hown5.out,by rw[Hlen.out,hl0];omega,HR.out⟩
       case measure=>simp[intOf]<;>omega
      ·obtain⟨j,hj⟩:∃j,O.length=j+1:=⟨O.length-1,by have:O.length≠0:=fun e=>hO0 (List.length_eq_zero_iff.1 e);omega⟩
       obtain⟨s,hsj⟩:∃s,O[j]?=some s:=⟨O[j]'(by omega),by simp⟩
       have hlast:O.getLast?=some s:=by rw[List.getLast?_eq_getElem?,hj];exact hsj
       obtain⟨g,rfl⟩:=qbe Hown3.out (by omega);have ec:=qlz Hown2.out hsj (by omega);have hjw:IntKind.i64.wrap (((j+1:Nat):Int)-1)=(j:Int):=(IntWalk.i64_in _ (by omega)).trans (by omega);have hj0:(0:Int)≤(j:Int):=Int.natCast_nonneg _;have hj1:(j:Int)<((j+1:Nat):Int):=by omega
       have hj2:(((j+1:Nat):Int)==0)=false:=by rw[beq_eq_false_iff_ne];omega
       have Hj:=hI hj;rw[hj]at Hown3 hgc1⊢
       by_cases hs:s=lo
       ·have hcm:(s.toList==lo.toList)=true:=by rw[hs];simp
        have HR:=hI (show O=innE E ⟨lo,hi,le,he⟩ 1 from by rw[Hin.out]at hlast;have h:=qej (c:=Iv.low ⟨lo,hi,le,he⟩) hlast (hs.trans hcs.symm);exact Hin.out.trans h.symm);have Hol2:=hI Hol.out;clear hcb hcs hO0 hle hs hsj hlast;generalize hjj:j+1=jj at*
        skip
        go_wp2_with fail
        go_roundw
        case rel=>exact⟨1,O,by decide,by go_num,Hb3.out,by rw[Hj.out];exact Hown3.out,by have:=Hol2.out;omega,HR.out⟩
        case measure=>simp[intOf]<;>omega
       ·have hcm:(s.toList==lo.toList)=false:=qje hs
        have HR:=hI (show O++[lo]=innE E ⟨lo,hi,le,he⟩ 1 from by rw[Hin.out]at hlast;have h:=qew (c:=Iv.low ⟨lo,hi,le,he⟩) hcb hlast (fun e=>hs (e.trans hcs));rw[show(Iv.low ⟨lo,hi,le,he⟩).s=lo from hcs]at h;rw[Hin.out];exact h.symm);have Hlen:=hI (show(O++[lo]).length=O.length+1 by simp);have Hol2:=hI Hol.out;clear hcb hcs hO0 hle hs hsj hlast
        go_wp2_with (at_builtin;refine qcr ENm (by decide) [.string lo] rfl _ _ rfl w.heap.size _ _ _ rfl rfl Hown3.out rfl (one1 _ rfl) (by omega) (by decide) (Hb3.out).size ?_;intro v' w5 hown' hg';have Hb5:=hI (qat Hb3.out Hown3.out hg' (Hb3.out).size);have Hown5:=hI hown';clear hown' hg')
        go_roundw
        case rel=>exact⟨1,O++[lo],by decide,by go_num,Hb5.out,by rw[Hlen.out,Hj.out,List.map_append];exact Hown5.out,by rw[Hlen.out];have:=Hol2.out;omega,HR.out⟩
        case measure=>simp[intOf]<;>omega
    ·go_upto_region 8 with fail
     refine wp_region_held_drew (S:=(fun w'=>w'.cell? ⟨b,off+k*4,none⟩=some (.string lo)∧w'.cell? ⟨b,off+k*4+1,none⟩=some (.string hi)∧w'.cell? ⟨b,off+k*4+2,none⟩=some (.int .i64 le)∧w'.cell? ⟨b,off+k*4+3,none⟩=some (.int .i64 he))) (by kernel_rfl) (by exact HC.out _ (Hbz.out.dn 1)) (fun hHeld=>?_)
     refine' tk 0 ?_;(try simp only[tkS]);refine' tk 1 ?_;(try simp only[tkS]);refine' tk 2 ?_;(try simp only[tkS]);refine' tk 3 ?_;(try simp only[tkS]);refine' tk 4 ?_;(try simp only[tkS]);refine' tk 5 ?_;(try simp only[tkS]);refine' tk 6 ?_;(try simp only[tkS]);refine' tk 7 ?_;(try simp only[tkS]);refine' tk 8 ?_;(try simp only[tkS]);refine' tk 9 ?_;(try simp only[tkS]);refine' tk 10 ?_;(try simp only[tkS]);refine' tk 11 ?_;(try simp only[tkS]);refine tkD ?_ _
     go_upto_region 10 with fail
     refine wp_region_held_drew (S:=(fun w'=>w'.cell? ⟨b,off+k*4,none⟩=some (.string lo)∧w'.cell? ⟨b,off+k*4+1,none⟩=some (.string hi)∧w'.cell? ⟨b,off+k*4+2,none⟩=some (.int .i64 le)∧w'.cell? ⟨b,off+k*4+3,none⟩=some (.int .i64 he))) (by kernel_rfl) (by exact HC.out _ ((Hbz.out.dn 1).dn 1)) (fun hHeld=>?_)
     refine' tk 0 ?_;(try simp only[tkS]);refine' tk 1 ?_;(try simp only[tkS]);refine' tk 2 ?_;(try simp only[tkS]);refine' tk 3 ?_;(try simp only[tkS]);refine' tk 4 ?_;(try simp only[tkS]);refine' tk 5 ?_;(try simp only[tkS]);refine' tk 6 ?_;(try simp only[tkS]);refine' tk 7 ?_;(try simp only[tkS]);refine' tk 8 ?_;(try simp only[tkS]);refine' tk 9 ?_;(try simp only[tkS]);refine' tk 10 ?_;(try simp only[tkS]);refine' tk 11 ?_;(try simp only[tkS]);refine tkD ?_ _
     have Hb3:=hI ((Hbz.out.dn 1).dn 1);have hw3:=qaf Hown2.out (((Below.refl _ _).dn 1).dn 1);obtain⟨ga,gc,rfl,hgc1,hgc2⟩:=qas hw3;have Hown3:=hI hw3;clear hw3
     by_cases hle:he=2
     ·subst hle
      have hR:O=innE E ⟨lo,hi,le,2⟩ 2:=Hin.out.trans (qex (O:=innE E ⟨lo,hi,le,2⟩ 1) (c:=Iv.high ⟨lo,hi,le,2⟩) (qoz (Or.inr rfl))).symm;have HR:=hI hR;clear hR
      go_wp2_with fail
      go_roundw
      case rel=>exact⟨2,O,by decide,by go_num,Hb3.out,Hown3.out,by have:=Hol.out;omega,HR.out⟩
      case measure=>simp[intOf]<;>omega
     ·have hb1:(he !=2)=true:=bne_iff_ne.2 hle
      obtain⟨hcb,hcs⟩:=ql6 (n:=hi) (s:=(-1)) hle
      by_cases hO0:O=[]
      ·have HR:=hI (show O++[hi]=innE E ⟨lo,hi,le,he⟩ 2 from by rw[Hin.out]at hO0⊢;have h:=qd8 (O:=innE E ⟨lo,hi,le,he⟩ 1) (c:=Iv.high ⟨lo,hi,le,he⟩) hcb hO0;rw[show(Iv.high ⟨lo,hi,le,he⟩).s=hi from hcs]at h;exact h.symm)
       have hl0:O.length=0:=by rw[hO0];rfl
       have Hlen:=hI (show(O++[hi]).length=O.length+1 by simp);have Hol2:=hI Hol.out;rw[hl0]at Hown3 hgc1⊢;clear hcb hcs hO0 hle
       go_wp2_with (at_builtin;refine qcr ENm (by decide) [.string hi] rfl _ _ rfl w.heap.size _ _ _ rfl rfl Hown3.out rfl (one1 _ rfl) (by omega) (by decide) (Hb3.out).size ?_;intro v' w5 hown' hg';have Hb5:=hI (qat Hb3.out Hown3.out hg' (Hb3.out).size);have Hown5:=hI hown';clear hown' hg')
       go_roundw
       case rel=>exact⟨2,O++[hi],by decide,by go_num,Hb5.out,by rw[Hlen.out,hl0,List.map_append];exact Hown5.out,by rw[Hlen.out,hl0];omega,HR.out⟩
       case measure=>simp[intOf]<;>omega
      ·obtain⟨j,hj⟩:∃j,O.length=j+1:=⟨O.length-1,by have:O.length≠0:=fun e=>hO0 (List.length_eq_zero_iff.1 e);omega⟩
       obtain⟨s,hsj⟩:∃s,O[j]?=some s:=⟨O[j]'(by omega),by simp⟩
       have hlast:O.getLast?=some s:=by rw[List.getLast?_eq_getElem?,hj];exact hsj
       obtain⟨g,rfl⟩:=qbe Hown3.out (by omega);have ec:=qlz Hown2.out hsj (by omega);have hjw:IntKind.i64.wrap (((j+1:Nat):Int)-1)=(j:Int):=(IntWalk.i64_in _ (by omega)).trans (by omega);have hj0:(0:Int)≤(j:Int):=Int.natCast_nonneg _;have hj1:(j:Int)<((j+1:Nat):Int):=by omega
       have hj2:(((j+1:Nat):Int)==0)=false:=by rw[beq_eq_false_iff_ne];omega
       have Hj:=hI hj;rw[hj]at Hown3 hgc1⊢
       by_cases hs:s=hi
       ·have hcm:(s.toList==hi.toList)=true:=by rw[hs];simp
        have HR:=hI (show O=innE E ⟨lo,hi,le,he⟩ 2 from by rw[Hin.out]at hlast;have h:=qej (c:=Iv.high ⟨lo,hi,le,he⟩) hlast (hs.trans hcs.symm);exact Hin.out.trans h.symm);have Hol2:=hI Hol.out;clear hcb hcs hO0 hle hs hsj hlast;generalize hjj:j+1=jj at*
        skip
        go_wp2_with fail
        go_roundw
        case rel=>exact⟨2,O,by decide,by go_num,Hb3.out,by rw[Hj.out];exact Hown3.out,by have:=Hol2.out;omega,HR.out⟩
        case measure=>simp[intOf]<;>omega
       ·have hcm:(s.toList==hi.toList)=false:=qje hs
        have HR:=hI (show O++[hi]=innE E ⟨lo,hi,le,he⟩ 2 from by rw[Hin.out]at hlast;have h:=qew (c:=Iv.high ⟨lo,hi,le,he⟩) hcb hlast (fun e=>hs (e.trans hcs));rw[show(Iv.high ⟨lo,hi,le,he⟩).s=hi from hcs]at h;rw[Hin.out];exact h.symm);have Hlen:=hI (show(O++[hi]).length=O.length+1 by simp);have Hol2:=hI Hol.out;clear hcb hcs hO0 hle hs hsj hlast
        go_wp2_with (at_builtin;refine qcr ENm (by decide) [.string hi] rfl _ _ rfl w.heap.size _ _ _ rfl rfl Hown3.out rfl (one1 _ rfl) (by omega) (by decide) (Hb3.out).size ?_;intro v' w5 hown' hg';have Hb5:=hI (qat Hb3.out Hown3.out hg' (Hb3.out).size);have Hown5:=hI hown';clear hown' hg')
        go_roundw
        case rel=>exact⟨2,O++[hi],by decide,by go_num,Hb5.out,by rw[Hlen.out,Hj.out,List.map_append];exact Hown5.out,by rw[Hlen.out];have:=Hol2.out;omega,HR.out⟩
        case measure=>simp[intOf]<;>omega
    ·obtain rfl:q=0:=by omega
     go_wp2_with fail
     go_roundw
     case rel=>exact⟨k+1,O,by omega,by go_num,Hbz.out,Hown2.out,by have:=Hol.out;omega,by rw[Hsn.out];exact Hin.out⟩
     case measure=>simp[intOf]<;>omega
  ·obtain rfl:k=N:=by omega
   have hkn:¬(k:Int)<(k:Int):=by omega
   obtain⟨ga,gc,rfl,hgc1,hgc2⟩:=qas Hown.out;have HSt:=hI (ql0 Hown.out);have Hfin:=hI (show E=qca (xs.map Iv.cuts)from by rw[Hpre.out,List.take_of_length_le (by rw[HNl.out];exact Nat.le_refl _)]);have Hl:=hI hEl;have Hk:=hI hn;clear hbw hpre hown
   go_wp2_with fail
   go_ret
   exact⟨_,rfl,⟨ga,gc,E,rfl,HSt.out,Hfin.out,by have:=Hl.out;omega⟩,Hbw.out⟩
theorem qcs{s:ByteArray}(h:errL s.data.toList=0):∃r,s=⟨(txtR r).toArray⟩∧ratS s=r:=by
 obtain⟨r,hr⟩:=qk6 h;exact⟨r,qdg (by rw[ByteArray.toList_eq,ByteArray.toList_eq];exact hr),qij hr⟩
theorem qve{x:Iv}(h:qbc x=0):(x.le≠2→errL x.lo.data.toList=0)∧(x.he≠2→errL x.hi.data.toList=0):=by
 unfold qbc at h
 by_cases h1:x.le<0∨2<x.le∨x.he<0∨2<x.he
 ·rw[if_pos h1]at h
  exact absurd h (by decide)
 ·rw[if_neg h1]at h
  by_cases h2:qa2 x.lo x.le=0
  ·rw[if_neg (by simpa using h2)]at h
   exact⟨fun hk=>by unfold qa2 at h2;rw[if_neg hk]at h2;exact h2,fun hk=>by unfold qa2 at h;rw[if_neg hk]at h;exact h⟩
  ·rw[if_pos h2]at h
   exact absurd h h2
theorem qsg:txtR 1=[49]:=by rw[qcc rfl];exact qib
theorem qus:txtR 2=[50]:=by
 rw[qcc rfl]
 show txtZ ((2:Nat):Int)=[50]
 rw[qgc (by decide),D10.qbq (by decide),show 2/10=0 from rfl,D10.qah]
 rfl
theorem qut:txtR 0=[48]:=by rw[qcc rfl];exact qcl
set_option maxRecDepth 10000 in
theorem qn7(u:Value)(x:Iv)(xr:List Iv)(k:Nat)(w:World)(h:Ivs w u (x::xr))(hie:qbc x=0)(hz:Sz k (ratS x.lo))(hz':Sz k (ratS x.hi))(hk:k≤4000)(hk1:1≤k):
  Calls Tryz.prog 19 #[u] w (Ret (.string ⟨(txtR (qb9 x)).toArray⟩) w):=by
 obtain⟨lo,hi,le,he⟩:=x;have HKd:=hI (ql8 hie);have HNm:=hI (show(le≠2→errL lo.data.toList=0)∧(he≠2→errL hi.data.toList=0)from qve hie);obtain⟨a,c,rfl,hc1,hc2⟩:=h.open;obtain⟨b,off,x,rfl,hx,c0,c1,c2,c3⟩:=h.at (Below.refl _ _) (show 0<(⟨lo,hi,le,he⟩::xr:List Iv).length by simp);cases hx
 rw[Nat.zero_mul,Nat.add_zero]at c0 c1 c2 c3;dsimp only at c0 c1 c2 c3 hz hz';have hNN:0<(⟨lo,hi,le,he⟩::xr:List Iv).length:=by simp
 generalize(⟨lo,hi,le,he⟩::xr:List Iv).length=NN at*;have HK:=hI (qac w (.cells #[.string lo,.string hi,.int .i64 le,.int .i64 he] 46));have HB:=hI (Blk.new w #[.string lo,.string hi,.int .i64 le,.int .i64 he] 46);have HS:=hI (fun w' (hb:Below (w.alloc (.cells #[.string lo,.string hi,.int .i64 le,.int .i64 he] 46)).heap.size (w.alloc (.cells #[.string lo,.string hi,.int .i64 le,.int .i64 he] 46)) w')=>qea HB.out hb);have Hz:=hI (And.intro hz (And.intro hz' (And.intro hk hk1)));clear h hie hc1 hc2 hz hz' hk hk1;obtain⟨hle,hhe⟩:=HKd.out;dsimp only at hle hhe;rcases hle with rfl|rfl|rfl
 ·rcases hhe with rfl|rfl|rfl
  ·have HRes:=hI (show txtR (qb9 ⟨lo,hi,0,0⟩)=txtR ((ratS lo+ratS hi)/2)from by unfold qb9;dsimp only;rw[if_neg (by decide),if_neg (by decide),if_neg (by decide),if_neg (by decide),if_neg (by decide)])
   obtain⟨r,hr,hrs⟩:=qcs (HNm.out.1 (by decide));rw[hrs]at Hz HRes;obtain⟨s,hs,hss⟩:=qcs (HNm.out.2 (by decide));rw[hss]at Hz HRes;have H1:=hI (fun w'=>qik r s k k w' Hz.out.1 Hz.out.2.1 (by have:=Hz.out.2.2.1;omega));have H2:=hI (fun w'=>qqw (r+s) 2 (k+k+1) 1 w' (Hz.out.1.add Hz.out.2.1) qsj (by have:=Hz.out.2.2.1;omega) (by decide));rw[←hr,←hs]at H1;rw[qus]at H2;generalize(⟨(txtR (r+s)).toArray⟩:ByteArray)=SM at*;clear hr hrs hs hss
   go_enter Tryz.func19,Tryz.ntmps19
   obtain⟨k0,k1,k2,k3⟩:=HS.out _ (Below.refl _ _)
   go_wp2_with fail
   refine wp_region_held_drew (S:=(fun w'=>w'.cell? ⟨w.heap.size,0,none⟩=some (.string lo)∧w'.cell? ⟨w.heap.size,1,none⟩=some (.string hi))) (by kernel_rfl) (by exact(fun h=>⟨h.1,h.2.1⟩) (HS.out _ ((Below.refl _ _).dn 1))) (fun hHeld=>?_)
   refine' tk 0 ?_;(try simp only[tkS]);refine' tk 1 ?_;(try simp only[tkS]);refine' tk 2 ?_;(try simp only[tkS]);refine' tk 3 ?_;(try simp only[tkS]);refine' tk 4 ?_;(try simp only[tkS]);refine' tk 5 ?_;(try simp only[tkS]);refine tkD ?_ _
   obtain⟨k0,k1,k2,k3⟩:=HS.out _ ((Below.refl _ _).dn 1)
   go_wp2_with (first
    |(go_at_call 53;refine(H1.out _).mono ?_;rintro e w3 ⟨rfl,hb3⟩;have Hb3:=hI hb3;clear hb3)
    |(go_at_call 48;refine(H2.out _).mono ?_;rintro e w4 ⟨rfl,hb4⟩))
   go_ret
   exact⟨by rw[HRes.out];rfl,HK.out.via (qaa ((Below.refl _ _).dn 1) (qaa Hb3.out hb4)) HK.out.size⟩
  ·have HRes:=hI (show txtR (qb9 ⟨lo,hi,0,1⟩)=txtR (ratS hi)from by unfold qb9;dsimp only;rw[if_neg (by decide),if_neg (by decide),if_pos (by decide)])
   obtain⟨s,hs,hss⟩:=qcs (HNm.out.2 (by decide));rw[hss]at Hz HRes;have Hs:=hI hs;clear hs hss
   go_enter Tryz.func19,Tryz.ntmps19
   obtain⟨k0,k1,k2,k3⟩:=HS.out _ (Below.refl _ _)
   go_wp2_with fail
   refine wp_region_held_drew (S:=(fun w'=>w'.cell? ⟨w.heap.size,0,none⟩=some (.string lo)∧w'.cell? ⟨w.heap.size,1,none⟩=some (.string hi))) (by kernel_rfl) (by exact(fun h=>⟨h.1,h.2.1⟩) (HS.out _ ((Below.refl _ _).dn 1))) (fun hHeld=>?_)
   refine' tk 0 ?_;(try simp only[tkS]);refine' tk 1 ?_;(try simp only[tkS]);refine' tk 2 ?_;(try simp only[tkS]);refine' tk 3 ?_;(try simp only[tkS]);refine' tk 4 ?_;(try simp only[tkS]);refine' tk 5 ?_;(try simp only[tkS]);refine tkD ?_ _
   obtain⟨k0,k1,k2,k3⟩:=HS.out _ ((Below.refl _ _).dn 1)
   go_wp2_with fail
   go_ret
   exact⟨by rw[HRes.out,←Hs.out];rfl,HK.out.dn 1⟩
  ·have HRes:=hI (show txtR (qb9 ⟨lo,hi,0,2⟩)=txtR (ratS lo+1)from by unfold qb9;dsimp only;rw[if_neg (by decide),if_neg (by decide),if_neg (by decide),if_pos (by decide)])
   obtain⟨r,hr,hrs⟩:=qcs (HNm.out.1 (by decide));rw[hrs]at Hz HRes;have H1:=hI (fun w'=>qik r 1 k 1 w' Hz.out.1 qhy (by have:=Hz.out.2.2.1;omega));rw[qsg,←hr]at H1;clear hr hrs
   go_enter Tryz.func19,Tryz.ntmps19
   obtain⟨k0,k1,k2,k3⟩:=HS.out _ (Below.refl _ _)
   go_wp2_with fail
   refine wp_region_held_drew (S:=(fun w'=>w'.cell? ⟨w.heap.size,0,none⟩=some (.string lo)∧w'.cell? ⟨w.heap.size,1,none⟩=some (.string hi))) (by kernel_rfl) (by exact(fun h=>⟨h.1,h.2.1⟩) (HS.out _ ((Below.refl _ _).dn 1))) (fun hHeld=>?_)
   refine' tk 0 ?_;(try simp only[tkS]);refine' tk 1 ?_;(try simp only[tkS]);refine' tk 2 ?_;(try simp only[tkS]);refine' tk 3 ?_;(try simp only[tkS]);refine' tk 4 ?_;(try simp only[tkS]);refine' tk 5 ?_;(try simp only[tkS]);refine tkD ?_ _
   obtain⟨k0,k1,k2,k3⟩:=HS.out _ ((Below.refl _ _).dn 1)
   go_wp2_with (first
    |(go_at_call 53;refine(H1.out _).mono ?_;rintro e w3 ⟨rfl,hb3⟩))
   go_ret
   exact⟨by rw[HRes.out];rfl,HK.out.via (qaa ((Below.refl _ _).dn 1) hb3) HK.out.size⟩
 ·have HRes:=hI (show txtR (qb9 ⟨lo,hi,1,he⟩)=txtR (ratS lo)from by unfold qb9;dsimp only;rw[if_neg (fun h=>absurd h.1 (by decide)),if_pos rfl])
  obtain⟨r,hr,hrs⟩:=qcs (HNm.out.1 (by decide));rw[hrs]at Hz HRes;have Hr:=hI hr;clear hr hrs
  go_enter Tryz.func19,Tryz.ntmps19
  obtain⟨k0,k1,k2,k3⟩:=HS.out _ (Below.refl _ _)
  go_wp2_with fail
  refine wp_region_held_drew (S:=(fun w'=>w'.cell? ⟨w.heap.size,0,none⟩=some (.string lo)∧w'.cell? ⟨w.heap.size,1,none⟩=some (.string hi))) (by kernel_rfl) (by exact(fun h=>⟨h.1,h.2.1⟩) (HS.out _ ((Below.refl _ _).dn 1))) (fun hHeld=>?_)
  refine' tk 0 ?_;(try simp only[tkS]);refine' tk 1 ?_;(try simp only[tkS]);refine' tk 2 ?_;(try simp only[tkS]);refine' tk 3 ?_;(try simp only[tkS]);refine' tk 4 ?_;(try simp only[tkS]);refine' tk 5 ?_;(try simp only[tkS]);refine tkD ?_ _
  obtain⟨k0,k1,k2,k3⟩:=HS.out _ ((Below.refl _ _).dn 1)
  go_wp2_with fail
  go_ret
  exact⟨by rw[HRes.out,←Hr.out];rfl,HK.out.dn 1⟩
 ·rcases hhe with rfl|rfl|rfl
  ·have HRes:=hI (show txtR (qb9 ⟨lo,hi,2,0⟩)=txtR (ratS hi-1)from by unfold qb9;dsimp only;rw[if_neg (by decide),if_neg (by decide),if_neg (by decide),if_neg (by decide),if_pos (by decide)])
   obtain⟨s,hs,hss⟩:=qcs (HNm.out.2 (by decide));rw[hss]at Hz HRes;have H1:=hI (fun w'=>qqu s 1 k 1 w' Hz.out.2.1 qhy (by have:=Hz.out.2.2.1;omega));rw[qsg,←hs]at H1;clear hs hss
   go_enter Tryz.func19,Tryz.ntmps19
   obtain⟨k0,k1,k2,k3⟩:=HS.out _ (Below.refl _ _)
   go_wp2_with fail
   refine wp_region_held_drew (S:=(fun w'=>w'.cell? ⟨w.heap.size,0,none⟩=some (.string lo)∧w'.cell? ⟨w.heap.size,1,none⟩=some (.string hi))) (by kernel_rfl) (by exact(fun h=>⟨h.1,h.2.1⟩) (HS.out _ ((Below.refl _ _).dn 1))) (fun hHeld=>?_)
   refine' tk 0 ?_;(try simp only[tkS]);refine' tk 1 ?_;(try simp only[tkS]);refine' tk 2 ?_;(try simp only[tkS]);refine' tk 3 ?_;(try simp only[tkS]);refine' tk 4 ?_;(try simp only[tkS]);refine' tk 5 ?_;(try simp only[tkS]);refine tkD ?_ _
   obtain⟨k0,k1,k2,k3⟩:=HS.out _ ((Below.refl _ _).dn 1)
   go_wp2_with (first
    |(go_at_call 62;refine(H1.out _).mono ?_;rintro e w3 ⟨rfl,hb3⟩))
   go_ret
   exact⟨by rw[HRes.out];rfl,HK.out.via (qaa ((Below.refl _ _).dn 1) hb3) HK.out.size⟩
  ·have HRes:=hI (show txtR (qb9 ⟨lo,hi,2,1⟩)=txtR (ratS hi)from by unfold qb9;dsimp only;rw[if_neg (by decide),if_neg (by decide),if_pos (by decide)])
   obtain⟨s,hs,hss⟩:=qcs (HNm.out.2 (by decide));rw[hss]at Hz HRes;have Hs:=hI hs;clear hs hss
   go_enter Tryz.func19,Tryz.ntmps19
   obtain⟨k0,k1,k2,k3⟩:=HS.out _ (Below.refl _ _)
   go_wp2_with fail
   refine wp_region_held_drew (S:=(fun w'=>w'.cell? ⟨w.heap.size,0,none⟩=some (.string lo)∧w'.cell? ⟨w.heap.size,1,none⟩=some (.string hi))) (by kernel_rfl) (by exact(fun h=>⟨h.1,h.2.1⟩) (HS.out _ ((Below.refl _ _).dn 1))) (fun hHeld=>?_)
   refine' tk 0 ?_;(try simp only[tkS]);refine' tk 1 ?_;(try simp only[tkS]);refine' tk 2 ?_;(try simp only[tkS]);refine' tk 3 ?_;(try simp only[tkS]);refine' tk 4 ?_;(try simp only[tkS]);refine' tk 5 ?_;(try simp only[tkS]);refine tkD ?_ _
   obtain⟨k0,k1,k2,k3⟩:=HS.out _ ((Below.refl _ _).dn 1)
   go_wp2_with fail
   go_ret
   exact⟨by rw[HRes.out,←Hs.out];rfl,HK.out.dn 1⟩
  ·have HRes:=hI (show txtR (qb9 ⟨lo,hi,2,2⟩)=txtR (0)from by unfold qb9;dsimp only;rw[if_pos (by decide)])
   go_enter Tryz.func19,Tryz.ntmps19
   obtain⟨k0,k1,k2,k3⟩:=HS.out _ (Below.refl _ _)
   go_wp2_with fail
   refine wp_region_held_drew (S:=(fun w'=>w'.cell? ⟨w.heap.size,0,none⟩=some (.string lo)∧w'.cell? ⟨w.heap.size,1,none⟩=some (.string hi))) (by kernel_rfl) (by exact(fun h=>⟨h.1,h.2.1⟩) (HS.out _ ((Below.refl _ _).dn 1))) (fun hHeld=>?_)
   refine' tk 0 ?_;(try simp only[tkS]);refine' tk 1 ?_;(try simp only[tkS]);refine' tk 2 ?_;(try simp only[tkS]);refine' tk 3 ?_;(try simp only[tkS]);refine' tk 4 ?_;(try simp only[tkS]);refine' tk 5 ?_;(try simp only[tkS]);refine tkD ?_ _
   obtain⟨k0,k1,k2,k3⟩:=HS.out _ ((Below.refl _ _).dn 1)
   go_wp2_with fail
   go_ret
   exact⟨by rw[HRes.out,qut];rfl,HK.out.dn 1⟩
theorem Sl.takeC{w:World}{sz n cap k:Nat}{a:Option Addr}{rows:List (List Value)}(h:Sl w sz (.slice a n cap) rows)(hk:k≤n):Sl w sz (.slice a k cap) (rows.take k):=by
 obtain⟨a',cap',hv,hc,hm,h⟩:=h;simp only[Value.slice.injEq]at hv;obtain⟨rfl,rfl,rfl⟩:=hv;refine⟨a,cap,by rw[List.length_take,Nat.min_eq_left hk],by rw[List.length_take];omega,hm,?_⟩
 rcases h with h|⟨b,off,rfl,hb,h⟩
 ·exact .inl h
 ·refine .inr ⟨b,off,rfl,hb,fun i j hi hj=>?_⟩
  rw[List.length_take]at hi;rw[h i j (by omega) hj];simp only[List.getD_eq_getElem?_getD];rw[List.getElem?_take_of_lt (by omega)]
theorem qtb(v:Value)(xs:List Iv)(w:World)(h:Ivs w v xs)(hs:∀x∈xs,x.short):Calls Tryz.prog 15 #[v] w (RetP (fun r w'=>∃a c,r=.slice a (setL xs).length c∧Ivs w' (.slice a (setL xs).length c) (setL xs)) w):=by
 obtain⟨a,c,rfl,hc1,hc2⟩:=h.open;unfold maxLen at hc2;obtain⟨m,hm⟩:∃m,min xs.length 8=m:=⟨_,rfl⟩
 have hmin:min ((xs.length:Nat):Int) 8=(m:Int):=by omega
 have hm8:m≤8:=by omega
 have hml:m≤xs.length:=by omega
 have htk:xs.take 8=xs.take m:=by
  rcases Nat.lt_or_ge xs.length 8 with h8|h8
  ·rw[List.take_of_length_le (by omega),List.take_of_length_le (by omega)]
  ·rw[show m=8 by omega]
 have hIv:Ivs w (.slice a m c) (xs.take m):=by
  have:=Sl.takeC h hml;rw[←List.map_take]at this;exact this
 have hlen:(xs.take m).length=m:=by rw[List.length_take];omega
 have HN:=hI (qjy (.slice a m c) (xs.take m) w hIv (fun x hx=>hs x (List.mem_of_mem_take hx)) (by omega));have Hse:=hI (show setL xs=qd5 (xs.take m)by unfold setL;rw[htk]);have hmc:(m:Int)≤(c:Int):=by omega
 have hm0:(0:Int)≤(m:Int):=Int.natCast_nonneg _;have hmt:((m:Int)).toNat=m:=by omega
 clear h hs hm hIv hlen htk hm8;generalize xs.length=n at*;unfold qum at HN
 go_enter Tryz.func15,Tryz.ntmps15
 go_wp2_with (go_at_call 24;refine(HN.out).mono ?_;rintro e w1 ⟨v1,rfl,⟨a1,c1,rfl,hiv⟩,hb1⟩;have Hiv:=hI hiv;have Hb1:=hI hb1;clear hiv hb1)
 go_ret
 exact⟨_,rfl,⟨a1,c1,by rw[Hse.out];rfl,by rw[Hse.out];exact Hiv.out⟩,Hb1.out⟩
theorem qrp(v:Value)(xs:List Iv)(w:World)(h:Ivs w v xs)(hn:260<xs.length):Calls Tryz.prog 14 #[v] w (Ret (.bool false) w):=by
 obtain⟨a,c,rfl,hc1,hc2⟩:=h.open;clear h;generalize xs.length=n at*;have g1:(260:Int)<(n:Int):=by omega
 go_enter Tryz.func14,Tryz.ntmps14
 go_wp2_with fail
 go_ret
 exact⟨rfl,Below.refl _ _⟩
theorem qud(v:Value)(xs:List Iv)(w:World)(h:Ivs w v xs):Calls Tryz.prog 14 #[v] w (Ret (.bool (fewB xs)) w):=by
 rcases Nat.lt_or_ge 260 xs.length with hn|hn
 ·rw[show fewB xs=false by unfold fewB;rw[decide_eq_true hn];rfl]
  exact qrp v xs w h hn
 ·exact quc v xs w h (by omega)
theorem qf7{O:List ByteArray}{c:Cut}{s:ByteArray}(h:s∈qax O c):s∈O∨(c.b=0∧c.s=s):=by
 unfold qax at h
 split at h
 ·next hc=>
  rcases List.mem_append.1 h with h|h
  ·exact .inl h
  ·exact .inr ⟨hc.1,(List.mem_singleton.1 h).symm⟩
 ·exact .inl h
theorem qfp:∀(cs:List (Cut × Cut)) (O:List ByteArray) {s:ByteArray},s∈qfq O cs→s∈O∨∃p∈cs,(p.1.b=0∧p.1.s=s)∨(p.2.b=0∧p.2.s=s)
 |[],_,_,h=>.inl h
 |q::cs,O,s,h=>by
  rcases qfp cs (qax (qax O q.1) q.2) h with h|⟨p,hp,h⟩
  ·rcases qf7 h with h|h
   ·rcases qf7 h with h|h
    ·exact .inl h
    ·exact .inr ⟨q,List.mem_cons_self,.inl h⟩
   ·exact .inr ⟨q,List.mem_cons_self,.inr h⟩
  ·exact .inr ⟨p,List.mem_cons_of_mem _ hp,h⟩
theorem qrr{xs:List Iv}{J:List RP}(h:SetI xs J):∀s∈qca (xs.map Iv.cuts),s.size≤5000∧errL s.data.toList=0:=fun s hs=>by
 have key:∀c:Cut,RokC c→(toP c).b=0→(toP c).s=s→s.size≤5000∧errL s.data.toList=0:=fun c hc hb hcs=>by
  rcases hc with⟨h1,h2,h3,_⟩|⟨h1,_⟩
  ·have:(toP c).s=c.s:=rfl
   rw[←hcs,this];exact⟨h2,h3⟩
  ·have:(toP c).b=c.b:=rfl
   omega
 rcases qfp _ _ hs with h'|⟨p,hp,h'⟩
 ·cases h'
 ·rw[h.cuts]at hp
  obtain⟨r,hr,rfl⟩:=List.mem_map.1 hp;rcases h' with⟨h1,h2⟩|⟨h1,h2⟩
  ·exact key _ (h.ok r hr).1 h1 h2
  ·exact key _ (h.ok r hr).2 h1 h2
end Go.Proofs.YtacihodamichhaaGreatDoor
