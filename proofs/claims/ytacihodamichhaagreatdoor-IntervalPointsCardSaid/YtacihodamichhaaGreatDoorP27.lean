/- Parts of the proof. -/
import Derived.Test.YtacihodamichhaaGreatDoorP16
import Derived.Test.YtacihodamichhaaGreatDoorP23
import Derived.Test.YtacihodamichhaaGreatDoorP25
import Derived.Test.YtacihodamichhaaGreatDoorP26
set_option maxHeartbeats 4000000
namespace Go.Proofs.YtacihodamichhaaGreatDoor
open Go.RowKit
theorem qno(l:List UInt8)(w:World)(hl:l.length≤5000):Calls Tryz.prog 21 #[.string ⟨l.toArray⟩,.int .i64 65536] w (Ret (.int .i64 (errL l)) w):=by
 rw[←qqu]
 by_cases h1:digB (absL (topL l))=true
 ·have hne:topL l≠[]:=by
   intro e;rw[e]at h1;exact absurd h1 (by decide)
  by_cases h2:digB (denT l)=true
  ·by_cases h3:zerB (denT l)=true
   ·have e:errR l=19:=by unfold errR;simp[h1,h2,h3]
    rw[e];cases hneg:negB (topL l)
    ·exact qtk l _ _ _ (divB l) w hl rfl rfl rfl rfl hneg hne h1 h2 h3
    ·exact qtl l _ _ _ (divB l) w hl rfl rfl rfl rfl hneg h1 h2 h3
   ·simp only[Bool.not_eq_true]at h3
    by_cases hL:1<(absL (topL l)).length
    ·by_cases hp0:(absL (topL l)).head?=some 48
     ·have e:errR l=3:=by unfold errR;simp[h1,h2,h3,hL,hp0]
      rw[e];cases hneg:negB (topL l)
      ·exact qti l _ _ _ (divB l) w hl rfl rfl rfl rfl hneg hne h1 h2 h3 hL hp0
      ·exact qtj l _ _ _ (divB l) w hl rfl rfl rfl rfl hneg h1 h2 h3 hL hp0
     ·have hm:(topL l==[45,48])=false:=by
       rw[ql6];cases hn:negB (topL l)
       ·rfl
       ·rw[Bool.true_and,beq_eq_false_iff_ne]
        intro e;rw[e]at hL;exact absurd hL (by decide)
      have h6:badI (absL (topL l)) (negB (topL l))=false:=by
       unfold badI;rw[Bool.and_eq_false_iff];exact .inl (by rw[beq_eq_false_iff_ne];exact hp0)
      by_cases hb:(denT l).head?=some 48
      ·have e:errR l=3:=by unfold errR;simp[h1,h2,h3,hb]
       rw[e];cases hneg:negB (topL l)
       ·exact qju l _ _ _ (divB l) w hl rfl rfl rfl rfl hneg hne h1 h2 h3 hL hp0 hm hb
       ·exact qjv l _ _ _ (divB l) w hl rfl rfl rfl rfl hneg h1 h2 h3 hL hp0 hm hb
      ·cases h7:divB l
       ·have e:errR l=0:=by unfold errR;simp[h1,h2,h3,hp0,hm,hb,h7]
        rw[e];cases hneg:negB (topL l)
        ·exact qjs l _ _ _ false w hl rfl rfl h7 rfl hneg hne h1 h2 h3 hL hp0 hm hb rfl
        ·exact qjt l _ _ _ false w hl rfl rfl h7 rfl hneg h1 h2 h3 hL hp0 hm hb rfl
       ·cases h8:(denT l==[49])
        ·by_cases h9:Nat.gcd (valD (absL (topL l))) (valD (denT l))=1
         ·have e:errR l=0:=by unfold errR;simp[h1,h2,h3,hp0,hm,hb,h7,h8,h9]
          rw[e];cases hneg:negB (topL l)
          ·exact qia l _ _ _ true w hl rfl rfl h7 rfl hneg hne h1 h2 h3 hL hp0 hm hb (hneg▸h6) rfl h8 h9
          ·exact qib l _ _ _ true w hl rfl rfl h7 rfl hneg h1 h2 h3 hL hp0 hm hb (hneg▸h6) rfl h8 h9
         ·have e:errR l=3:=by unfold errR;simp[h1,h2,h3,hp0,hm,hb,h7,h8,h9]
          rw[e];cases hneg:negB (topL l)
          ·exact qjo l _ _ _ true w hl rfl rfl h7 rfl hneg hne h1 h2 h3 hL hp0 hm hb (hneg▸h6) rfl h8 h9
          ·exact qjp l _ _ _ true w hl rfl rfl h7 rfl hneg h1 h2 h3 hL hp0 hm hb (hneg▸h6) rfl h8 h9
        ·have e:errR l=3:=by unfold errR;simp[h1,h2,h3,hp0,hm,hb,h7,h8]
         rw[e];cases hneg:negB (topL l)
         ·exact qjq l _ _ _ true w hl rfl rfl h7 rfl hneg hne h1 h2 h3 hL hp0 hm hb rfl h8
         ·exact qjr l _ _ _ true w hl rfl rfl h7 rfl hneg h1 h2 h3 hL hp0 hm hb rfl h8
    ·cases hm:(topL l==[45,48])
     ·have h6:badI (absL (topL l)) (negB (topL l))=false:=by
       rw[←qrl,←ql6,hm,decide_eq_false hL]
       rfl
      by_cases hb:(denT l).head?=some 48
      ·have e:errR l=3:=by unfold errR;simp[h1,h2,h3,hb]
       rw[e];cases hneg:negB (topL l)
       ·exact qh8 l _ _ _ (divB l) w hl rfl rfl rfl rfl hneg hne h1 h2 h3 hL hm hb
       ·exact qh9 l _ _ _ (divB l) w hl rfl rfl rfl rfl hneg h1 h2 h3 hL hm hb
      ·cases h7:divB l
       ·have e:errR l=0:=by unfold errR;simp[h1,h2,h3,hL,hm,hb,h7]
        rw[e];cases hneg:negB (topL l)
        ·exact qh6 l _ _ _ false w hl rfl rfl h7 rfl hneg hne h1 h2 h3 hL hm hb rfl
        ·exact qh7 l _ _ _ false w hl rfl rfl h7 rfl hneg h1 h2 h3 hL hm hb rfl
       ·cases h8:(denT l==[49])
        ·by_cases h9:Nat.gcd (valD (absL (topL l))) (valD (denT l))=1
         ·have e:errR l=0:=by unfold errR;simp[h1,h2,h3,hL,hm,hb,h7,h8,h9]
          rw[e];cases hneg:negB (topL l)
          ·exact qht l _ _ _ true w hl rfl rfl h7 rfl hneg hne h1 h2 h3 hL hm hb (hneg▸h6) rfl h8 h9
          ·exact qhu l _ _ _ true w hl rfl rfl h7 rfl hneg h1 h2 h3 hL hm hb (hneg▸h6) rfl h8 h9
         ·have e:errR l=3:=by unfold errR;simp[h1,h2,h3,hL,hm,hb,h7,h8,h9]
          rw[e];cases hneg:negB (topL l)
          ·exact qh2 l _ _ _ true w hl rfl rfl h7 rfl hneg hne h1 h2 h3 hL hm hb (hneg▸h6) rfl h8 h9
          ·exact qh3 l _ _ _ true w hl rfl rfl h7 rfl hneg h1 h2 h3 hL hm hb (hneg▸h6) rfl h8 h9
        ·have e:errR l=3:=by unfold errR;simp[h1,h2,h3,hL,hm,hb,h7,h8]
         rw[e];cases hneg:negB (topL l)
         ·exact qh4 l _ _ _ true w hl rfl rfl h7 rfl hneg hne h1 h2 h3 hL hm hb rfl h8
         ·exact qh5 l _ _ _ true w hl rfl rfl h7 rfl hneg h1 h2 h3 hL hm hb rfl h8
     ·have e:errR l=3:=by unfold errR;simp[h1,h2,h3,hm]
      rw[e]
      have hneg:negB (topL l)=true:=by
       rw[ql6,Bool.and_eq_true]at hm;exact hm.1
      exact qth l _ _ _ (divB l) w hl rfl rfl rfl rfl hneg h1 h2 h3 hL hm
  ·simp only[Bool.not_eq_true]at h2
   have e:errR l=14:=by unfold errR;simp[h1,h2]
   rw[e];cases hneg:negB (topL l)
   ·exact qtm l _ _ _ (divB l) w hl rfl rfl rfl rfl hneg hne h1 h2
   ·exact qtn l _ _ _ (divB l) w hl rfl rfl rfl rfl hneg h1 h2
 ·simp only[Bool.not_eq_true]at h1
  have e:errR l=14:=by unfold errR;simp[h1]
  rw[e];cases hneg:negB (topL l)
  ·by_cases hne:topL l=[]
   ·exact qtp l _ _ _ (divB l) w hl rfl rfl rfl rfl hne h1
   ·exact qto l _ _ _ (divB l) w hl rfl rfl rfl rfl hneg hne h1
  ·exact qtq l _ _ _ (divB l) w hl rfl rfl rfl rfl hneg h1
theorem qa4{N k:Nat}(h:N<10^k):(D10.limbs N).length≤k:=by
 rcases Nat.lt_or_ge k (D10.limbs N).length with h3|h3
 ·exfalso
  have h0:N≠0:=fun e=>by rw[e,D10.qah]at h3;simp at h3
  have h4:=D10.qc2 h0;have h5:(D10.limbs N).length-1<k:=(Nat.pow_lt_pow_iff_right (by decide)).1 (Nat.lt_of_le_of_lt h4 h)
  omega
 ·exact h3
theorem qkp{l:List UInt8}(h:errL l=0):topL l=txtZ (numL l)∧(numL l).natAbs<10^l.length∧∃D:Nat,denT l=txtZ (D:Int)∧dn (denL l:Int)=(D:Int)∧D<10^l.length:=by
 have hr:=qqu l;rw[h]at hr;unfold errL at h
 by_cases h1:digB (absL (topL l))=true
 ·by_cases h6:badI (absL (topL l)) (negB (topL l))=true
  ·exfalso
   by_cases h2:divB l=true
   ·by_cases h3:digB (botL l)=true
    ·by_cases h4:zerB (botL l)=true
     ·simp[h1,h2,h3,h4]at h
     ·simp[h1,h2,h3,h4,h6]at h
    ·simp[h1,h2,h3]at h
   ·simp[h1,h2,h6]at h
  ·simp only[Bool.not_eq_true]at h6
   have hd:=(qak.1 h1).2;have ht:(absL (topL l)).length≤l.length:=Nat.le_trans (qdr _) (qew l);refine⟨qb2 h1 h6,?_,?_⟩
   ·unfold numL
    rw[qbg];exact Nat.lt_of_lt_of_le (qa0 hd) (Nat.pow_le_pow_right (by decide) ht)
   ·by_cases h2:divB l=true
    ·unfold denT denL
     rw[if_pos h2,if_pos h2]
     by_cases h3:digB (botL l)=true
     ·by_cases h7:badI (botL l) false=true
      ·exfalso
       by_cases h4:zerB (botL l)=true
       ·simp[h1,h2,h3,h4]at h
       ·simp[h1,h2,h3,h4,h6,h7]at h
      ·simp only[Bool.not_eq_true]at h7
       have h4:zerB (botL l)=false:=by
        cases h4:zerB (botL l)with
        |false=>rfl
        |true=>simp[h1,h2,h3,h4]at h
       have hh:(botL l).head?≠some 48:=by
        have:=qfz h3 h4;rw[h7,beq_eq_false_iff_ne]at this;exact this
       have hb:(botL l).length≤l.length:=qgz l;refine⟨valD (botL l),by rw[qa6];exact qbs h3 hh,?_,Nat.lt_of_lt_of_le (qa0 (qak.1 h3).2) (Nat.pow_le_pow_right (by decide) hb)⟩
       have hne:valD (botL l)≠0:=by
        intro e;have hc:=qbs h3 hh;rw[e,qdw]at hc;exact hh (by rw[hc];rfl)
       unfold dn;rw[if_neg (by omega)]
     ·exfalso
      simp[h1,h2,h3]at h
    ·unfold denT denL
     rw[if_neg h2,if_neg h2]
     exact⟨1,by rw[qa6,qd9],rfl,Nat.one_lt_pow (by
      intro e;have h8:(absL (topL l)).length≠0:=fun e=>(qak.1 h1).1 (List.length_eq_zero_iff.1 e)
      have h9:=qdr (topL l);have h10:=qew l
      omega) (by decide)⟩
 ·exfalso
  simp[h1]at h
theorem qe8{l:List UInt8}(h:errL l=0):numR l=numL l∧denR l=(denL l:Int):=by
 unfold numR denR;rw[if_pos h,if_pos h];exact⟨rfl,rfl⟩
theorem qpv{x:Int}{D a b:Nat}(h:x.natAbs<10^a)(hD:D<10^b)(ha:a≤5000)(hb:b≤5000):qa5 (x*(D:Int)).natAbs:=by
 rw[Int.natAbs_mul,Int.natAbs_natCast];refine qa1 (k:=a+b) ?_ (by omega)
 rw[Nat.pow_add];exact Nat.mul_lt_mul'' h hD
theorem qr7(l m:List UInt8)(w:World)(hl:l.length≤5000)(hm:m.length≤5000)(h:errL l=0)(h':errL m=0):Calls Tryz.prog 22 #[.string ⟨l.toArray⟩,.string ⟨m.toArray⟩] w (Ret (.int .i64 (cmpQ (numR l) (denR l) (numR m) (denR m))) w):=by
 obtain⟨t1,f1,D,b1,e1,g1⟩:=qkp h;obtain⟨t2,f2,E,b2,e2,g2⟩:=qkp h';rw[(qe8 h).1,(qe8 h).2,(qe8 h').1,(qe8 h').2];unfold cmpQ;rw[e1,e2];have H1:=hI (fun w'=>qe3 l w' (by omega));have H2:=hI (fun w'=>qe3 m w' (by omega));rw[t1,b1]at H1;rw[t2,b2]at H2;have H3:=hI (fun w'=>qd6 (numL l) (E:Int) w' (Nat.le_trans (qa4 f1) (by omega)) (Nat.le_trans (qa4 (by rw[Int.natAbs_natCast];exact g2)) (by omega)));have H4:=hI (fun w'=>qd6 (numL m) (D:Int) w' (Nat.le_trans (qa4 f2) (by omega)) (Nat.le_trans (qa4 (by rw[Int.natAbs_natCast];exact g1)) (by omega)));have H5:=hI (fun w'=>qro (numL l*(E:Int)) (numL m*(D:Int)) w' (qpv f1 g2 hl hm) (qpv f2 g1 hm hl));generalize cmpZ (numL l*(E:Int)) (numL m*(D:Int))=R at*;generalize(⟨(txtZ (numL l*(E:Int))).toArray⟩:ByteArray)=P1 at*;generalize(⟨(txtZ (numL m*(D:Int))).toArray⟩:ByteArray)=P2 at*;generalize(⟨(txtZ (numL l)).toArray⟩:ByteArray)=N1 at*;generalize(⟨(txtZ (numL m)).toArray⟩:ByteArray)=N2 at*;generalize(⟨(txtZ (D:Int)).toArray⟩:ByteArray)=S1 at*;generalize(⟨(txtZ (E:Int)).toArray⟩:ByteArray)=S2 at*;generalize(⟨l.toArray⟩:ByteArray)=L at*;generalize(⟨m.toArray⟩:ByteArray)=M at*;clear t1 t2 b1 b2 e1 e2 f1 f2 g1 g2 h h' hl hm
 go_enter Tryz.func22,Tryz.ntmps22
 go_wp2_with (first
  |(have _t:=Hb1;clear _t;go_at_call 65;refine(H2.out _).mono ?_;rintro e w2 ⟨rfl,hb2⟩;have Hb2:=hI (qaa Hb1.out hb2);clear hb2)
  |(go_at_call 65;refine(H1.out _).mono ?_;rintro e w1 ⟨rfl,hb1⟩;have Hb1:=hI hb1;clear hb1)
  |(have _t:=Hb3;clear _t;go_at_call 71;refine(H4.out _).mono ?_;rintro e w4 ⟨rfl,hb4⟩;have Hb4:=hI (qaa Hb3.out hb4);clear hb4)
  |(go_at_call 71;refine(H3.out _).mono ?_;rintro e w3 ⟨rfl,hb3⟩;have Hb3:=hI (qaa Hb2.out hb3);clear hb3)
  |(go_at_call 70;refine(H5.out _).mono ?_;rintro e w5 ⟨rfl,hb5⟩))
 go_ret
 exact⟨rfl,qaa Hb4.out hb5⟩
theorem qmi(n:ByteArray)(kind:Int)(w:World)(hn:n.size≤5000):Calls Tryz.prog 128 #[.string n,.int .i64 kind] w (Ret (.int .i64 (qa2 n kind)) w):=by
 unfold qa2
 by_cases hk:kind=2
 ·subst hk
  rw[if_pos rfl]
  by_cases he:n.data.toList=[]
  ·rw[if_pos he]
   obtain rfl:=qt3 he;clear hn he
   go_enter Tryz.func128,Tryz.ntmps128
   go_wp2_with fail
   go_ret
   exact⟨rfl,Below.refl _ _⟩
  ·rw[if_neg he]
   have h2:=qwt he;clear hn he
   go_enter Tryz.func128,Tryz.ntmps128
   go_wp2_with fail
   go_ret
   exact⟨rfl,Below.refl _ _⟩
 ·rw[if_neg hk]
  have hk2:(kind==2)=false:=by rw[beq_eq_false_iff_ne];exact hk
  have H:=hI (fun w'=>qno n.data.toList w' (by rw[←Lib.size_eq];exact hn));rw[←qcf (s:=n) rfl]at H;generalize errL n.data.toList=code at*;clear hn hk
  go_enter Tryz.func128,Tryz.ntmps128
  go_wp2_with (go_at_call 21;refine(H.out _).mono ?_;rintro e w1 ⟨rfl,hb1⟩)
  go_ret
  exact⟨rfl,hb1⟩
theorem qnn(x:Iv)(w:World)(hs:x.short):Calls Tryz.prog 77 #[x.agg] w (Ret (.int .i64 (qbf x)) w):=by
 obtain⟨lo,hi,le,he⟩:=x;obtain⟨h1,h2⟩:=hs;unfold Iv.agg qbf;dsimp only at h1 h2⊢;have HA:=hI (fun w' (hb:Below (w.alloc (.cells #[.string lo,.string hi,.int .i64 le,.int .i64 he] 46)).heap.size (w.alloc (.cells #[.string lo,.string hi,.int .i64 le,.int .i64 he] 46)) w')=>(qam ((Blk.new w #[.string lo,.string hi,.int .i64 le,.int .i64 he] 46).below hb)).1)
 by_cases hk:le<0∨2<le∨he<0∨2<he
 ·rw[if_pos hk]
  have hcase:le<0∨(¬le<0∧2<le)∨(¬le<0∧¬2<le∧he<0)∨(¬le<0∧¬2<le∧¬he<0∧2<he):=by omega
  clear hk h1 h2;rcases hcase with g1|⟨g1,g2⟩|⟨g1,g2,g3⟩|⟨g1,g2,g3,g4⟩
  all_goals go_enter Tryz.func77,Tryz.ntmps77
  all_goals go_wp2_with fail
  all_goals go_ret
  all_goals exact⟨rfl,qac w _⟩
 ·rw[if_neg hk]
  have g1:¬le<0:=by omega
  have g2:¬2<le:=by omega
  have g3:¬he<0:=by omega
  have g4:¬2<he:=by omega
  have H1:=hI (fun w'=>qmi lo le w' h1);have H2:=hI (fun w'=>qmi hi he w' h2);clear h1 h2 hk
  by_cases hl:qa2 lo le=0
  ·rw[if_neg (by simpa using hl)]
   rw[hl]at H1;generalize qa2 hi he=code at*;clear hl
   go_enter Tryz.func77,Tryz.ntmps77
   go_wp2_with (first
    |(have _t:=Hb1;clear _t;go_at_call 128;refine(H2.out _).mono ?_;rintro e w2 ⟨rfl,hb2⟩)
    |(go_at_call 128;refine(H1.out _).mono ?_;rintro e w1 ⟨rfl,hb1⟩;have Hb1:=hI hb1;obtain⟨e0,e1,e2,e3⟩:=HA.out _ hb1;clear hb1))
   go_ret
   exact⟨rfl,(qac w _).via (qaa Hb1.out hb2) (qac w _).size⟩
  ·rw[if_pos hl]
   have hc:(qa2 lo le !=0)=true:=by rw[bne_iff_ne];exact hl
   generalize qa2 lo le=code at*;clear hl
   go_enter Tryz.func77,Tryz.ntmps77
   go_wp2_with (go_at_call 128;refine(H1.out _).mono ?_;rintro e w1 ⟨rfl,hb1⟩)
   go_ret
   exact⟨rfl,(qac w _).via hb1 (qac w _).size⟩
def rcut(b:Int)(s:ByteArray)(d:Int):Value:=.agg #[.int .i64 b,.string s,.int .i64 d]
def loR(n:ByteArray)(kind:Int):Value:=if kind=2 then rcut (-1) ⟨#[]⟩ 0 else if kind=0 then rcut 0 n 1 else rcut 0 n 0
def upR(n:ByteArray)(kind:Int):Value:=if kind=2 then rcut 1 ⟨#[]⟩ 0 else if kind=0 then rcut 0 n 0 else rcut 0 n 1
theorem qnk(n:ByteArray)(kind:Int)(w:World):Calls Tryz.prog 89 #[.string n,.int .i64 kind] w (Ret (loR n kind) w):=by
 unfold loR
 by_cases h2:kind=2
 ·subst h2
  rw[if_pos rfl]
  go_enter Tryz.func89,Tryz.ntmps89
  go_wp2_with fail
  exact bodyPost_ret (v:=rcut (-1) ⟨#[]⟩ 0) (by simp[results,Tryz.results89,go_sem,rcut]) rfl ⟨rfl,qac w _⟩
 ·rw[if_neg h2]
  have h2b:(kind==2)=false:=by rw[beq_eq_false_iff_ne];exact h2
  by_cases h0:kind=0
  ·subst h0
   rw[if_pos rfl];clear h2 h2b
   go_enter Tryz.func89,Tryz.ntmps89
   go_wp2_with fail
   exact bodyPost_ret (v:=rcut 0 n 1) (by simp[results,Tryz.results89,go_sem,rcut]) rfl ⟨rfl,qac w _⟩
  ·rw[if_neg h0]
   have h0b:(kind==0)=false:=by rw[beq_eq_false_iff_ne];exact h0
   clear h2 h0
   go_enter Tryz.func89,Tryz.ntmps89
   go_wp2_with fail
   exact bodyPost_ret (v:=rcut 0 n 0) (by simp[results,Tryz.results89,go_sem,rcut]) rfl ⟨rfl,qac w _⟩
theorem qni(n:ByteArray)(kind:Int)(w:World):Calls Tryz.prog 90 #[.string n,.int .i64 kind] w (Ret (upR n kind) w):=by
 unfold upR
 by_cases h2:kind=2
 ·subst h2
  rw[if_pos rfl]
  go_enter Tryz.func90,Tryz.ntmps90
  go_wp2_with fail
  exact bodyPost_ret (v:=rcut 1 ⟨#[]⟩ 0) (by simp[results,Tryz.results90,go_sem,rcut]) rfl ⟨rfl,qac w _⟩
 ·rw[if_neg h2]
  have h2b:(kind==2)=false:=by rw[beq_eq_false_iff_ne];exact h2
  by_cases h0:kind=0
  ·subst h0
   rw[if_pos rfl];clear h2 h2b
   go_enter Tryz.func90,Tryz.ntmps90
   go_wp2_with fail
   exact bodyPost_ret (v:=rcut 0 n 0) (by simp[results,Tryz.results90,go_sem,rcut]) rfl ⟨rfl,qac w _⟩
  ·rw[if_neg h0]
   have h0b:(kind==0)=false:=by rw[beq_eq_false_iff_ne];exact h0
   clear h2 h0
   go_enter Tryz.func90,Tryz.ntmps90
   go_wp2_with fail
   exact bodyPost_ret (v:=rcut 0 n 1) (by simp[results,Tryz.results90,go_sem,rcut]) rfl ⟨rfl,qac w _⟩
theorem qou(n:Int)(w:World):Calls Tryz.prog 137 #[.int .i64 n] w (Ret (.int .i64 n.sign) w):=by
 rcases qei n with⟨h,hs⟩|⟨h,hs⟩|⟨h,hs⟩
 ·rw[hs]
  clear hs
  go_enter Tryz.func137,Tryz.ntmps137
  go_wp2_with fail
  go_ret
  exact⟨rfl,Below.refl _ _⟩
 ·subst h
  rw[hs];clear hs
  go_enter Tryz.func137,Tryz.ntmps137
  go_wp2_with fail
  go_ret
  exact⟨rfl,Below.refl _ _⟩
 ·rw[hs]
  have h1:¬n<0:=by omega
  have h2:min n 1=1:=by omega
  clear hs h
  go_enter Tryz.func137,Tryz.ntmps137
  go_wp2_with fail
  go_ret
  exact⟨rfl,Below.refl _ _⟩
def ordR(b:Int)(s:ByteArray)(d:Int)(b':Int)(s':ByteArray)(d':Int):Int:=
 if b≠b' then(b-b').sign else if b≠0 then 0 else
  if cmpQ (numR s.data.toList) (denR s.data.toList) (numR s'.data.toList) (denR s'.data.toList)≠0 then cmpQ (numR s.data.toList) (denR s.data.toList) (numR s'.data.toList) (denR s'.data.toList)else(d-d').sign
theorem qnv(b d b' d':Int)(s s':ByteArray)(w:World)(hb:-10≤b∧b≤10)(hb':-10≤b'∧b'≤10)(hd:0≤d∧d≤1)(hd':0≤d'∧d'≤1)
  (hs:b=0→b'=0→s.size≤5000∧s'.size≤5000∧errL s.data.toList=0∧errL s'.data.toList=0):
  Calls Tryz.prog 99 #[rcut b s d,rcut b' s' d'] w (Ret (.int .i64 (ordR b s d b' s' d')) w):=by
 unfold rcut ordR;have hk:=qar w (.cells #[.int .i64 b,.string s,.int .i64 d] 116) (.cells #[.int .i64 b',.string s',.int .i64 d'] 116);have HK:=hI hk;have HS:=hI (fun n w'=>qou n w');have hA:Blk ((w.alloc (.cells #[.int .i64 b,.string s,.int .i64 d] 116)).alloc (.cells #[.int .i64 b',.string s',.int .i64 d'] 116)) w.heap.size #[.int .i64 b,.string s,.int .i64 d] 116:=(Blk.new w _ _).old _
 have hB:Blk ((w.alloc (.cells #[.int .i64 b,.string s,.int .i64 d] 116)).alloc (.cells #[.int .i64 b',.string s',.int .i64 d'] 116)) (w.heap.size+1) #[.int .i64 b',.string s',.int .i64 d'] 116:=by
  have h:=Blk.new (w.alloc (.cells #[.int .i64 b,.string s,.int .i64 d] 116)) #[.int .i64 b',.string s',.int .i64 d'] 116
  simpa using h
 have HC:=hI (fun w' (hx:Below ((w.alloc (.cells #[.int .i64 b,.string s,.int .i64 d] 116)).alloc (.cells #[.int .i64 b',.string s',.int .i64 d'] 116)).heap.size ((w.alloc (.cells #[.int .i64 b,.string s,.int .i64 d] 116)).alloc (.cells #[.int .i64 b',.string s',.int .i64 d'] 116)) w')=>And.intro (show w'.cell? ⟨w.heap.size,2,none⟩=some (.int .i64 d)by rw[(hA.below hx).cell];rfl) (show w'.cell? ⟨w.heap.size+1,2,none⟩=some (.int .i64 d')by rw[(hB.below hx).cell];rfl));clear hA hB hk
 by_cases h1:b=b'
 ·subst h1
  rw[if_neg (by simp)];have e1:(b !=b)=false:=by simp
  by_cases h2:b=0
  ·subst h2
   rw[if_neg (by simp)];obtain⟨z1,z2,z3,z4⟩:=hs rfl rfl;have HQ:=hI (fun w'=>qr7 s.data.toList s'.data.toList w' (by rw[←Lib.size_eq];exact z1) (by rw[←Lib.size_eq];exact z2) z3 z4);rw[←qcf (s:=s) rfl,←qcf (s:=s') rfl]at HQ;generalize cmpQ (numR s.data.toList) (denR s.data.toList) (numR s'.data.toList) (denR s'.data.toList)=R at*;have e3:IntKind.i64.wrap (d-d')=d-d':=IntWalk.i64_in _ (by omega);clear hs z1 z2 z3 z4
   by_cases hR:R=0
   ·rw[if_neg (by simpa using hR)]
    have e4:(R !=0)=false:=by simpa using hR
    clear hR
    go_enter Tryz.func99,Tryz.ntmps99
    go_wp2_with (first
     |(go_at_call 22;refine(HQ.out _).mono ?_;rintro e w1 ⟨rfl,hb1⟩;have Hb1:=hI hb1;obtain⟨c0,c1⟩:=HC.out _ hb1;clear hb1)
     |(go_at_call 137;refine(HS.out _ _).mono ?_;rintro e w2 ⟨rfl,hb2⟩))
    go_ret
    exact⟨rfl,HK.out.via (qaa Hb1.out hb2) HK.out.size⟩
   ·rw[if_pos (by simpa using hR)]
    have e4:(R !=0)=true:=by simpa using hR
    clear hR
    go_enter Tryz.func99,Tryz.ntmps99
    go_wp2_with (go_at_call 22;refine(HQ.out _).mono ?_;rintro e w1 ⟨rfl,hb1⟩)
    go_ret
    exact⟨rfl,HK.out.via hb1 HK.out.size⟩
  ·rw[if_pos h2]
   have e2:(b !=0)=true:=by simpa using h2
   clear hs h2
   go_enter Tryz.func99,Tryz.ntmps99
   go_wp2_with fail
   go_ret
   exact⟨rfl,HK.out⟩
 ·rw[if_pos h1]
  have e1:(b !=b')=true:=by simpa using h1
  have e2:IntKind.i64.wrap (b-b')=b-b':=IntWalk.i64_in _ (by omega);clear hs h1
  go_enter Tryz.func99,Tryz.ntmps99
  go_wp2_with (go_at_call 137;refine(HS.out _ _).mono ?_;rintro e w1 ⟨rfl,hb1⟩)
  go_ret
  exact⟨rfl,HK.out.via hb1 HK.out.size⟩
end Go.Proofs.YtacihodamichhaaGreatDoor
namespace Go.Proofs.YtacihodamichhaaGreatDoor
open Go.RowKit
def qrm(b:Int)(s:ByteArray)(d:Int)(c:Cut):Prop:=c.b=b∧c.s=s∧(b=0→c.d=2*d-1)∧(b≠0→s=⟨#[]⟩∧c.d=0)
theorem ql8(a b:Int):(a-b).sign=cmpZ a b:=by
 have h:=qei (a-b);unfold cmpZ
 split
 ·omega
 ·split<;>omega
theorem qvh{b d b' d':Int}{s s':ByteArray}{c c':Cut}(h:qrm b s d c)(h':qrm b' s' d' c'):ordR b s d b' s' d'=cmpG c c':=by
 obtain⟨rfl,rfl,h3,h4⟩:=h;obtain⟨rfl,rfl,h3',h4'⟩:=h';unfold ordR cmpG or3
 by_cases hb:c.b=c'.b
 ·have e0:cmpZ c.b c'.b=0:=qdn.2 hb
  rw[if_neg (show ¬c.b≠c'.b from fun h=>h hb),e0,if_neg (show ¬(0:Int)≠0 from fun h=>h rfl)]
  by_cases h0:c.b=0
  ·have h0':c'.b=0:=by omega
   rw[if_neg (show ¬c.b≠0 from fun h=>h h0)]
   split
   ·rfl
   ·rw[h3 h0,h3' h0',←ql8]
    have a:=qei (d-d');have b:=qei (2*d-1-(2*d'-1))
    omega
  ·have h0':c'.b≠0:=by omega
   rw[if_pos (show c.b≠0 from h0),(h4 h0).1,(h4' h0').1,(h4 h0).2,(h4' h0').2]
   rfl
 ·rw[if_pos hb,ql8,if_pos (fun e=>hb (qdn.1 e))]
def loC(n:ByteArray)(kind:Int):Cut:=if kind=2 then⟨-1,⟨#[]⟩,0⟩else if kind=0 then⟨0,n,1⟩else⟨0,n,0⟩
def upC(n:ByteArray)(kind:Int):Cut:=if kind=2 then⟨1,⟨#[]⟩,0⟩else if kind=0 then⟨0,n,0⟩else⟨0,n,1⟩
def rcA(c:Cut):Value:=rcut c.b c.s c.d
theorem qwr(n:ByteArray)(kind:Int):loR n kind=rcA (loC n kind):=by
 unfold loR loC rcA
 split
 ·rfl
 ·split<;>rfl
theorem qv7(n:ByteArray)(kind:Int):upR n kind=rcA (upC n kind):=by
 unfold upR upC rcA
 split
 ·rfl
 ·split<;>rfl
theorem qvn(n:ByteArray)(kind:Int)(w:World):Calls Tryz.prog 89 #[.string n,.int .i64 kind] w (Ret (rcA (loC n kind)) w):=by
 have:=qnk n kind w
 rwa [qwr]at this
theorem quf(n:ByteArray)(kind:Int)(w:World):Calls Tryz.prog 90 #[.string n,.int .i64 kind] w (Ret (rcA (upC n kind)) w):=by
 have:=qni n kind w
 rwa [qv7]at this
def toP(r:Cut):Cut:=⟨r.b,r.s,if r.b=0 then 2*r.d-1 else 0⟩
def RokC(r:Cut):Prop:=(r.b=0∧r.s.size≤5000∧errL r.s.data.toList=0∧0≤r.d∧r.d≤1)∨((r.b=1∨r.b=-1)∧r.s=⟨#[]⟩∧r.d=0)
def ordC(x y:Cut):Int:=ordR x.b x.s x.d y.b y.s y.d
theorem qmc{r:Cut}(h:RokC r):qrm r.b r.s r.d (toP r):=by
 refine⟨rfl,rfl,fun h0=>?_,fun h0=>?_⟩
 ·unfold toP;dsimp only;rw[if_pos h0]
 ·rcases h with⟨h1,_⟩|⟨_,h2,_⟩
  ·exact absurd h1 h0
  ·refine⟨h2,?_⟩
   unfold toP;dsimp only;rw[if_neg h0]
theorem qvg{x y:Cut}(h:RokC x)(k:RokC y):ordC x y=cmpG (toP x) (toP y):=qvh (qmc h) (qmc k)
theorem qi6(x y:Cut)(w:World)(h:RokC x)(k:RokC y):Calls Tryz.prog 99 #[rcA x,rcA y] w (Ret (.int .i64 (cmpG (toP x) (toP y))) w):=by
 rw[←qvg h k];refine qnv x.b x.d y.b y.d x.s y.s w ?_ ?_ ?_ ?_ ?_
 ·rcases h with h|h<;>omega
 ·rcases k with h|h<;>omega
 ·rcases h with h|h<;>omega
 ·rcases k with h|h<;>omega
 ·intro h0 k0
  rcases h with⟨_,h1,h2,_⟩|h
  ·rcases k with⟨_,k1,k2,_⟩|k
   ·exact⟨h1,k1,h2,k2⟩
   ·omega
  ·omega
theorem qq0{n:ByteArray}{kind:Int}(hk:0≤kind∧kind≤2)(hn:n.size≤5000)(h:qa2 n kind=0):RokC (loC n kind)∧RokC (upC n kind)∧toP (loC n kind)=qgc n kind 1∧toP (upC n kind)=qgc n kind (-1):=by
 unfold qa2 at h;unfold loC upC qgc toP
 by_cases h2:kind=2
 ·subst h2
  exact⟨.inr ⟨.inr rfl,rfl,rfl⟩,.inr ⟨.inl rfl,rfl,rfl⟩,rfl,rfl⟩
 ·rw[if_neg h2]at h
  rw[if_neg h2,if_neg h2,if_neg h2,if_neg h2]
  by_cases h0:kind=0
  ·subst h0
   exact⟨.inl ⟨rfl,hn,h,(by show(0:Int)≤1;decide),(by show(1:Int)≤1;decide)⟩,.inl ⟨rfl,hn,h,(by show(0:Int)≤0;decide),(by show(0:Int)≤1;decide)⟩,rfl,rfl⟩
  ·rw[if_neg h0,if_neg h0]
   obtain rfl:kind=1:=by omega
   exact⟨.inl ⟨rfl,hn,h,(by show(0:Int)≤0;decide),(by show(0:Int)≤1;decide)⟩,.inl ⟨rfl,hn,h,(by show(0:Int)≤1;decide),(by show(1:Int)≤1;decide)⟩,rfl,rfl⟩
theorem qqb{x:Iv}(hs:x.short)(h:qbf x=0):RokC (loC x.lo x.le)∧RokC (upC x.hi x.he)∧toP (loC x.lo x.le)=x.low∧toP (upC x.hi x.he)=x.high:=by
 unfold qbf at h
 split at h
 ·cases h
 rename_i hk
 split at h
 ·rename_i h1;exact absurd h h1
 rename_i h1
 obtain⟨a,_,b,_⟩:=qq0 (kind:=x.le) (by omega) hs.1 (by simpa using h1);obtain⟨_,c,_,d⟩:=qq0 (kind:=x.he) (by omega) hs.2 h;exact⟨a,c,b,d⟩
end Go.Proofs.YtacihodamichhaaGreatDoor
