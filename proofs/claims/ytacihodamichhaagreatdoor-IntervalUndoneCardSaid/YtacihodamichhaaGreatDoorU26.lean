/- Parts of the proof. -/
import Derived.Test.YtacihodamichhaaGreatDoorU16
import Derived.Test.YtacihodamichhaaGreatDoorU23
import Derived.Test.YtacihodamichhaaGreatDoorU25
set_option maxHeartbeats 8000000
namespace Go.Proofs.YtacihodamichhaaGreatDoor
open Go.RowKit
theorem qat{N k:Nat}(h:N<10^k):(D10.limbs N).length≤k:=by
 rcases Nat.lt_or_ge k (D10.limbs N).length with h3|h3
 ·exfalso
  have h0:N≠0:=fun e=>by rw[e,D10.qah]at h3;simp at h3
  have h4:=D10.qc3 h0;have h5:(D10.limbs N).length-1<k:=(Nat.pow_lt_pow_iff_right (by decide)).1 (Nat.lt_of_le_of_lt h4 h)
  omega
 ·exact h3
theorem qkw{l:List UInt8}(h:errL l=0):topL l=txtZ (numL l)∧(numL l).natAbs<10^l.length∧∃D:Nat,denT l=txtZ (D:Int)∧dn (denL l:Int)=(D:Int)∧D<10^l.length:=by
 have hr:=qrk l;rw[h]at hr;unfold errL at h
 by_cases h1:digB (absL (topL l))=true
 ·by_cases h6:badI (absL (topL l)) (negB (topL l))=true
  ·exfalso
   by_cases h2:divB l=true
   ·by_cases h3:digB (botL l)=true
    ·by_cases h4:zerB (botL l)=true
     ·simp[h1,h2,h3,h4]at h
     ·simp[h1,h2,h3,h4,h6]at h
    ·simp[h1,h2,h3]at h
   ·simp[h1,h2,h6]at h
  ·simp only[Bool.not_eq_true]at h6
   have hd:=(qan.1 h1).2;have ht:(absL (topL l)).length≤l.length:=Nat.le_trans (qdr _) (qew l);refine⟨qer h1 h6,?_,?_⟩
   ·unfold numL
    rw[qcc];exact Nat.lt_of_lt_of_le (qby hd) (Nat.pow_le_pow_right (by decide) ht)
   ·by_cases h2:divB l=true
    ·unfold denT denL
     rw[if_pos h2,if_pos h2]
     by_cases h3:digB (botL l)=true
     ·by_cases h7:badI (botL l) false=true
      ·exfalso
       by_cases h4:zerB (botL l)=true
       ·simp[h1,h2,h3,h4]at h
       ·simp[h1,h2,h3,h4,h6,h7]at h
      ·simp only[Bool.not_eq_true]at h7
       have h4:zerB (botL l)=false:=by
        cases h4:zerB (botL l)with
        |false=>rfl
        |true=>simp[h1,h2,h3,h4]at h
       have hh:(botL l).head?≠some 48:=by
        have:=qf3 h3 h4;rw[h7,beq_eq_false_iff_ne]at this;exact this
       have hb:(botL l).length≤l.length:=qg6 l;refine⟨valD (botL l),by rw[qa3];exact qdl h3 hh,?_,Nat.lt_of_lt_of_le (qby (qan.1 h3).2) (Nat.pow_le_pow_right (by decide) hb)⟩
       have hne:valD (botL l)≠0:=by
        intro e;have hc:=qdl h3 hh;rw[e,qdv]at hc;exact hh (by rw[hc];rfl)
       unfold dn;rw[if_neg (by omega)]
     ·exfalso
      simp[h1,h2,h3]at h
    ·unfold denT denL
     rw[if_neg h2,if_neg h2]
     exact⟨1,by rw[qa3,qgx],rfl,Nat.one_lt_pow (by
      intro e;have h8:(absL (topL l)).length≠0:=fun e=>(qan.1 h1).1 (List.length_eq_zero_iff.1 e)
      have h9:=qdr (topL l);have h10:=qew l
      omega) (by decide)⟩
 ·exfalso
  simp[h1]at h
theorem qe7{l:List UInt8}(h:errL l=0):numR l=numL l∧denR l=(denL l:Int):=by
 unfold numR denR;rw[if_pos h,if_pos h];exact⟨rfl,rfl⟩
theorem qqn{x:Int}{D a b:Nat}(h:x.natAbs<10^a)(hD:D<10^b)(ha:a≤5000)(hb:b≤5000):qbe (x*(D:Int)).natAbs:=by
 rw[Int.natAbs_mul,Int.natAbs_natCast];refine qb1 (k:=a+b) ?_ (by omega)
 rw[Nat.pow_add];exact Nat.mul_lt_mul'' h hD
theorem qsx(l m:List UInt8)(w:World)(hl:l.length≤5000)(hm:m.length≤5000)(h:errL l=0)(h':errL m=0):Calls Tryz.prog 22 #[.string ⟨l.toArray⟩,.string ⟨m.toArray⟩] w (Ret (.int .i64 (cmpQ (numR l) (denR l) (numR m) (denR m))) w):=by
 obtain⟨t1,f1,D,b1,e1,g1⟩:=qkw h;obtain⟨t2,f2,E,b2,e2,g2⟩:=qkw h';rw[(qe7 h).1,(qe7 h).2,(qe7 h').1,(qe7 h').2];unfold cmpQ;rw[e1,e2];have H1:=hI (fun w'=>qez l w' (by omega));have H2:=hI (fun w'=>qez m w' (by omega));rw[t1,b1]at H1;rw[t2,b2]at H2;have H3:=hI (fun w'=>qcq (numL l) (E:Int) w' (Nat.le_trans (qat f1) (by omega)) (Nat.le_trans (qat (by rw[Int.natAbs_natCast];exact g2)) (by omega)));have H4:=hI (fun w'=>qcq (numL m) (D:Int) w' (Nat.le_trans (qat f2) (by omega)) (Nat.le_trans (qat (by rw[Int.natAbs_natCast];exact g1)) (by omega)));have H5:=hI (fun w'=>qsh (numL l*(E:Int)) (numL m*(D:Int)) w' (qqn f1 g2 hl hm) (qqn f2 g1 hm hl));generalize cmpZ (numL l*(E:Int)) (numL m*(D:Int))=R at*;generalize(⟨(txtZ (numL l*(E:Int))).toArray⟩:ByteArray)=P1 at*;generalize(⟨(txtZ (numL m*(D:Int))).toArray⟩:ByteArray)=P2 at*;generalize(⟨(txtZ (numL l)).toArray⟩:ByteArray)=N1 at*;generalize(⟨(txtZ (numL m)).toArray⟩:ByteArray)=N2 at*;generalize(⟨(txtZ (D:Int)).toArray⟩:ByteArray)=S1 at*;generalize(⟨(txtZ (E:Int)).toArray⟩:ByteArray)=S2 at*;generalize(⟨l.toArray⟩:ByteArray)=L at*;generalize(⟨m.toArray⟩:ByteArray)=M at*;clear t1 t2 b1 b2 e1 e2 f1 f2 g1 g2 h h' hl hm
 go_enter Tryz.func22,Tryz.ntmps22
 go_wp2_with (first
  |(have _t:=Hb1;clear _t;go_at_call 65;refine(H2.out _).mono ?_;rintro e w2 ⟨rfl,hb2⟩;have Hb2:=hI (qaa Hb1.out hb2);clear hb2)
  |(go_at_call 65;refine(H1.out _).mono ?_;rintro e w1 ⟨rfl,hb1⟩;have Hb1:=hI hb1;clear hb1)
  |(have _t:=Hb3;clear _t;go_at_call 71;refine(H4.out _).mono ?_;rintro e w4 ⟨rfl,hb4⟩;have Hb4:=hI (qaa Hb3.out hb4);clear hb4)
  |(go_at_call 71;refine(H3.out _).mono ?_;rintro e w3 ⟨rfl,hb3⟩;have Hb3:=hI (qaa Hb2.out hb3);clear hb3)
  |(go_at_call 70;refine(H5.out _).mono ?_;rintro e w5 ⟨rfl,hb5⟩))
 go_ret
 exact⟨rfl,qaa Hb4.out hb5⟩
theorem qmq(n:ByteArray)(kind:Int)(w:World)(hn:n.size≤5000):Calls Tryz.prog 128 #[.string n,.int .i64 kind] w (Ret (.int .i64 (qa2 n kind)) w):=by
 unfold qa2
 by_cases hk:kind=2
 ·subst hk
  rw[if_pos rfl]
  by_cases he:n.data.toList=[]
  ·rw[if_pos he]
   obtain rfl:=quj he;clear hn he
   go_enter Tryz.func128,Tryz.ntmps128
   go_wp2_with fail
   go_ret
   exact⟨rfl,Below.refl _ _⟩
  ·rw[if_neg he]
   have h2:=qxh he;clear hn he
   go_enter Tryz.func128,Tryz.ntmps128
   go_wp2_with fail
   go_ret
   exact⟨rfl,Below.refl _ _⟩
 ·rw[if_neg hk]
  have hk2:(kind==2)=false:=by rw[beq_eq_false_iff_ne];exact hk
  have H:=hI (fun w'=>qij n.data.toList w' (by rw[←Lib.size_eq];exact hn));rw[←qch (s:=n) rfl]at H;generalize errL n.data.toList=code at*;clear hn hk
  go_enter Tryz.func128,Tryz.ntmps128
  go_wp2_with (go_at_call 21;refine(H.out _).mono ?_;rintro e w1 ⟨rfl,hb1⟩)
  go_ret
  exact⟨rfl,hb1⟩
theorem qoi(x:Iv)(w:World)(hs:x.short):Calls Tryz.prog 77 #[x.agg] w (Ret (.int .i64 (qba x)) w):=by
 obtain⟨lo,hi,le,he⟩:=x;obtain⟨h1,h2⟩:=hs;unfold Iv.agg qba;dsimp only at h1 h2⊢;have HA:=hI (fun w' (hb:Below (w.alloc (.cells #[.string lo,.string hi,.int .i64 le,.int .i64 he] 46)).heap.size (w.alloc (.cells #[.string lo,.string hi,.int .i64 le,.int .i64 he] 46)) w')=>(qam ((Blk.new w #[.string lo,.string hi,.int .i64 le,.int .i64 he] 46).below hb)).1)
 by_cases hk:le<0∨2<le∨he<0∨2<he
 ·rw[if_pos hk]
  have hcase:le<0∨(¬le<0∧2<le)∨(¬le<0∧¬2<le∧he<0)∨(¬le<0∧¬2<le∧¬he<0∧2<he):=by omega
  clear hk h1 h2;rcases hcase with g1|⟨g1,g2⟩|⟨g1,g2,g3⟩|⟨g1,g2,g3,g4⟩
  all_goals go_enter Tryz.func77,Tryz.ntmps77
  all_goals go_wp2_with fail
  all_goals go_ret
  all_goals exact⟨rfl,qac w _⟩
 ·rw[if_neg hk]
  have g1:¬le<0:=by omega
  have g2:¬2<le:=by omega
  have g3:¬he<0:=by omega
  have g4:¬2<he:=by omega
  have H1:=hI (fun w'=>qmq lo le w' h1);have H2:=hI (fun w'=>qmq hi he w' h2);clear h1 h2 hk
  by_cases hl:qa2 lo le=0
  ·rw[if_neg (by simpa using hl)]
   rw[hl]at H1;generalize qa2 hi he=code at*;clear hl
   go_enter Tryz.func77,Tryz.ntmps77
   go_wp2_with (first
    |(have _t:=Hb1;clear _t;go_at_call 128;refine(H2.out _).mono ?_;rintro e w2 ⟨rfl,hb2⟩)
    |(go_at_call 128;refine(H1.out _).mono ?_;rintro e w1 ⟨rfl,hb1⟩;have Hb1:=hI hb1;obtain⟨e0,e1,e2,e3⟩:=HA.out _ hb1;clear hb1))
   go_ret
   exact⟨rfl,(qac w _).via (qaa Hb1.out hb2) (qac w _).size⟩
  ·rw[if_pos hl]
   have hc:(qa2 lo le !=0)=true:=by rw[bne_iff_ne];exact hl
   generalize qa2 lo le=code at*;clear hl
   go_enter Tryz.func77,Tryz.ntmps77
   go_wp2_with (go_at_call 128;refine(H1.out _).mono ?_;rintro e w1 ⟨rfl,hb1⟩)
   go_ret
   exact⟨rfl,(qac w _).via hb1 (qac w _).size⟩
def rcut(b:Int)(s:ByteArray)(d:Int):Value:=.agg #[.int .i64 b,.string s,.int .i64 d]
def loR(n:ByteArray)(kind:Int):Value:=if kind=2 then rcut (-1) ⟨#[]⟩ 0 else if kind=0 then rcut 0 n 1 else rcut 0 n 0
def upR(n:ByteArray)(kind:Int):Value:=if kind=2 then rcut 1 ⟨#[]⟩ 0 else if kind=0 then rcut 0 n 0 else rcut 0 n 1
theorem qod(n:ByteArray)(kind:Int)(w:World):Calls Tryz.prog 89 #[.string n,.int .i64 kind] w (Ret (loR n kind) w):=by
 unfold loR
 by_cases h2:kind=2
 ·subst h2
  rw[if_pos rfl]
  go_enter Tryz.func89,Tryz.ntmps89
  go_wp2_with fail
  exact bodyPost_ret (v:=rcut (-1) ⟨#[]⟩ 0) (by simp[results,Tryz.results89,go_sem,rcut]) rfl ⟨rfl,qac w _⟩
 ·rw[if_neg h2]
  have h2b:(kind==2)=false:=by rw[beq_eq_false_iff_ne];exact h2
  by_cases h0:kind=0
  ·subst h0
   rw[if_pos rfl];clear h2 h2b
   go_enter Tryz.func89,Tryz.ntmps89
   go_wp2_with fail
   exact bodyPost_ret (v:=rcut 0 n 1) (by simp[results,Tryz.results89,go_sem,rcut]) rfl ⟨rfl,qac w _⟩
  ·rw[if_neg h0]
   have h0b:(kind==0)=false:=by rw[beq_eq_false_iff_ne];exact h0
   clear h2 h0
   go_enter Tryz.func89,Tryz.ntmps89
   go_wp2_with fail
   exact bodyPost_ret (v:=rcut 0 n 0) (by simp[results,Tryz.results89,go_sem,rcut]) rfl ⟨rfl,qac w _⟩
theorem qob(n:ByteArray)(kind:Int)(w:World):Calls Tryz.prog 90 #[.string n,.int .i64 kind] w (Ret (upR n kind) w):=by
 unfold upR
 by_cases h2:kind=2
 ·subst h2
  rw[if_pos rfl]
  go_enter Tryz.func90,Tryz.ntmps90
  go_wp2_with fail
  exact bodyPost_ret (v:=rcut 1 ⟨#[]⟩ 0) (by simp[results,Tryz.results90,go_sem,rcut]) rfl ⟨rfl,qac w _⟩
 ·rw[if_neg h2]
  have h2b:(kind==2)=false:=by rw[beq_eq_false_iff_ne];exact h2
  by_cases h0:kind=0
  ·subst h0
   rw[if_pos rfl];clear h2 h2b
   go_enter Tryz.func90,Tryz.ntmps90
   go_wp2_with fail
   exact bodyPost_ret (v:=rcut 0 n 0) (by simp[results,Tryz.results90,go_sem,rcut]) rfl ⟨rfl,qac w _⟩
  ·rw[if_neg h0]
   have h0b:(kind==0)=false:=by rw[beq_eq_false_iff_ne];exact h0
   clear h2 h0
   go_enter Tryz.func90,Tryz.ntmps90
   go_wp2_with fail
   exact bodyPost_ret (v:=rcut 0 n 1) (by simp[results,Tryz.results90,go_sem,rcut]) rfl ⟨rfl,qac w _⟩
theorem qpf(n:Int)(w:World):Calls Tryz.prog 137 #[.int .i64 n] w (Ret (.int .i64 n.sign) w):=by
 rcases qd8 n with⟨h,hs⟩|⟨h,hs⟩|⟨h,hs⟩
 ·rw[hs]
  clear hs
  go_enter Tryz.func137,Tryz.ntmps137
  go_wp2_with fail
  go_ret
  exact⟨rfl,Below.refl _ _⟩
 ·subst h
  rw[hs];clear hs
  go_enter Tryz.func137,Tryz.ntmps137
  go_wp2_with fail
  go_ret
  exact⟨rfl,Below.refl _ _⟩
 ·rw[hs]
  have h1:¬n<0:=by omega
  have h2:min n 1=1:=by omega
  clear hs h
  go_enter Tryz.func137,Tryz.ntmps137
  go_wp2_with fail
  go_ret
  exact⟨rfl,Below.refl _ _⟩
def ordR(b:Int)(s:ByteArray)(d:Int)(b':Int)(s':ByteArray)(d':Int):Int:=
 if b≠b' then(b-b').sign else if b≠0 then 0 else
  if cmpQ (numR s.data.toList) (denR s.data.toList) (numR s'.data.toList) (denR s'.data.toList)≠0 then cmpQ (numR s.data.toList) (denR s.data.toList) (numR s'.data.toList) (denR s'.data.toList)else(d-d').sign
theorem qoo(b d b' d':Int)(s s':ByteArray)(w:World)(hb:-10≤b∧b≤10)(hb':-10≤b'∧b'≤10)(hd:0≤d∧d≤1)(hd':0≤d'∧d'≤1)
  (hs:b=0→b'=0→s.size≤5000∧s'.size≤5000∧errL s.data.toList=0∧errL s'.data.toList=0):
  Calls Tryz.prog 99 #[rcut b s d,rcut b' s' d'] w (Ret (.int .i64 (ordR b s d b' s' d')) w):=by
 unfold rcut ordR;have hk:=qaz w (.cells #[.int .i64 b,.string s,.int .i64 d] 116) (.cells #[.int .i64 b',.string s',.int .i64 d'] 116);have HK:=hI hk;have HS:=hI (fun n w'=>qpf n w');have hA:Blk ((w.alloc (.cells #[.int .i64 b,.string s,.int .i64 d] 116)).alloc (.cells #[.int .i64 b',.string s',.int .i64 d'] 116)) w.heap.size #[.int .i64 b,.string s,.int .i64 d] 116:=(Blk.new w _ _).old _
 have hB:Blk ((w.alloc (.cells #[.int .i64 b,.string s,.int .i64 d] 116)).alloc (.cells #[.int .i64 b',.string s',.int .i64 d'] 116)) (w.heap.size+1) #[.int .i64 b',.string s',.int .i64 d'] 116:=by
  have h:=Blk.new (w.alloc (.cells #[.int .i64 b,.string s,.int .i64 d] 116)) #[.int .i64 b',.string s',.int .i64 d'] 116
  simpa using h
 have HC:=hI (fun w' (hx:Below ((w.alloc (.cells #[.int .i64 b,.string s,.int .i64 d] 116)).alloc (.cells #[.int .i64 b',.string s',.int .i64 d'] 116)).heap.size ((w.alloc (.cells #[.int .i64 b,.string s,.int .i64 d] 116)).alloc (.cells #[.int .i64 b',.string s',.int .i64 d'] 116)) w')=>And.intro (show w'.cell? ⟨w.heap.size,2,none⟩=some (.int .i64 d)by rw[(hA.below hx).cell];rfl) (show w'.cell? ⟨w.heap.size+1,2,none⟩=some (.int .i64 d')by rw[(hB.below hx).cell];rfl));clear hA hB hk
 by_cases h1:b=b'
 ·subst h1
  rw[if_neg (by simp)];have e1:(b !=b)=false:=by simp
  by_cases h2:b=0
  ·subst h2
   rw[if_neg (by simp)];obtain⟨z1,z2,z3,z4⟩:=hs rfl rfl;have HQ:=hI (fun w'=>qsx s.data.toList s'.data.toList w' (by rw[←Lib.size_eq];exact z1) (by rw[←Lib.size_eq];exact z2) z3 z4);rw[←qch (s:=s) rfl,←qch (s:=s') rfl]at HQ;generalize cmpQ (numR s.data.toList) (denR s.data.toList) (numR s'.data.toList) (denR s'.data.toList)=R at*;have e3:IntKind.i64.wrap (d-d')=d-d':=IntWalk.i64_in _ (by omega);clear hs z1 z2 z3 z4
   by_cases hR:R=0
   ·rw[if_neg (by simpa using hR)]
    have e4:(R !=0)=false:=by simpa using hR
    clear hR
    go_enter Tryz.func99,Tryz.ntmps99
    go_wp2_with (first
     |(go_at_call 22;refine(HQ.out _).mono ?_;rintro e w1 ⟨rfl,hb1⟩;have Hb1:=hI hb1;obtain⟨c0,c1⟩:=HC.out _ hb1;clear hb1)
     |(go_at_call 137;refine(HS.out _ _).mono ?_;rintro e w2 ⟨rfl,hb2⟩))
    go_ret
    exact⟨rfl,HK.out.via (qaa Hb1.out hb2) HK.out.size⟩
   ·rw[if_pos (by simpa using hR)]
    have e4:(R !=0)=true:=by simpa using hR
    clear hR
    go_enter Tryz.func99,Tryz.ntmps99
    go_wp2_with (go_at_call 22;refine(HQ.out _).mono ?_;rintro e w1 ⟨rfl,hb1⟩)
    go_ret
    exact⟨rfl,HK.out.via hb1 HK.out.size⟩
  ·rw[if_pos h2]
   have e2:(b !=0)=true:=by simpa using h2
   clear hs h2
   go_enter Tryz.func99,Tryz.ntmps99
   go_wp2_with fail
   go_ret
   exact⟨rfl,HK.out⟩
 ·rw[if_pos h1]
  have e1:(b !=b')=true:=by simpa using h1
  have e2:IntKind.i64.wrap (b-b')=b-b':=IntWalk.i64_in _ (by omega);clear hs h1
  go_enter Tryz.func99,Tryz.ntmps99
  go_wp2_with (go_at_call 137;refine(HS.out _ _).mono ?_;rintro e w1 ⟨rfl,hb1⟩)
  go_ret
  exact⟨rfl,HK.out.via hb1 HK.out.size⟩
end Go.Proofs.YtacihodamichhaaGreatDoor
namespace Go.Proofs.YtacihodamichhaaGreatDoor
open Go.RowKit
def qsf(b:Int)(s:ByteArray)(d:Int)(c:Cut):Prop:=c.b=b∧c.s=s∧(b=0→c.d=2*d-1)∧(b≠0→s=⟨#[]⟩∧c.d=0)
theorem qme(a b:Int):(a-b).sign=cmpZ a b:=by
 have h:=qd8 (a-b);unfold cmpZ
 split
 ·omega
 ·split<;>omega
theorem qvz{b d b' d':Int}{s s':ByteArray}{c c':Cut}(h:qsf b s d c)(h':qsf b' s' d' c'):ordR b s d b' s' d'=cmpG c c':=by
 obtain⟨rfl,rfl,h3,h4⟩:=h;obtain⟨rfl,rfl,h3',h4'⟩:=h';unfold ordR cmpG or3
 by_cases hb:c.b=c'.b
 ·have e0:cmpZ c.b c'.b=0:=qdk.2 hb
  rw[if_neg (show ¬c.b≠c'.b from fun h=>h hb),e0,if_neg (show ¬(0:Int)≠0 from fun h=>h rfl)]
  by_cases h0:c.b=0
  ·have h0':c'.b=0:=by omega
   rw[if_neg (show ¬c.b≠0 from fun h=>h h0)]
   split
   ·rfl
   ·rw[h3 h0,h3' h0',←qme]
    have a:=qd8 (d-d');have b:=qd8 (2*d-1-(2*d'-1))
    omega
  ·have h0':c'.b≠0:=by omega
   rw[if_pos (show c.b≠0 from h0),(h4 h0).1,(h4' h0').1,(h4 h0).2,(h4' h0').2]
   rfl
 ·rw[if_pos hb,qme,if_pos (fun e=>hb (qdk.1 e))]
def loC(n:ByteArray)(kind:Int):Cut:=if kind=2 then⟨-1,⟨#[]⟩,0⟩else if kind=0 then⟨0,n,1⟩else⟨0,n,0⟩
def upC(n:ByteArray)(kind:Int):Cut:=if kind=2 then⟨1,⟨#[]⟩,0⟩else if kind=0 then⟨0,n,0⟩else⟨0,n,1⟩
def rcA(c:Cut):Value:=rcut c.b c.s c.d
theorem qxe(n:ByteArray)(kind:Int):loR n kind=rcA (loC n kind):=by
 unfold loR loC rcA
 split
 ·rfl
 ·split<;>rfl
theorem qwr(n:ByteArray)(kind:Int):upR n kind=rcA (upC n kind):=by
 unfold upR upC rcA
 split
 ·rfl
 ·split<;>rfl
theorem qv6(n:ByteArray)(kind:Int)(w:World):Calls Tryz.prog 89 #[.string n,.int .i64 kind] w (Ret (rcA (loC n kind)) w):=by
 have:=qod n kind w
 rwa [qxe]at this
theorem quw(n:ByteArray)(kind:Int)(w:World):Calls Tryz.prog 90 #[.string n,.int .i64 kind] w (Ret (rcA (upC n kind)) w):=by
 have:=qob n kind w
 rwa [qwr]at this
def toP(r:Cut):Cut:=⟨r.b,r.s,if r.b=0 then 2*r.d-1 else 0⟩
def RokC(r:Cut):Prop:=(r.b=0∧r.s.size≤5000∧errL r.s.data.toList=0∧0≤r.d∧r.d≤1)∨((r.b=1∨r.b=-1)∧r.s=⟨#[]⟩∧r.d=0)
def ordC(x y:Cut):Int:=ordR x.b x.s x.d y.b y.s y.d
theorem qmk{r:Cut}(h:RokC r):qsf r.b r.s r.d (toP r):=by
 refine⟨rfl,rfl,fun h0=>?_,fun h0=>?_⟩
 ·unfold toP;dsimp only;rw[if_pos h0]
 ·rcases h with⟨h1,_⟩|⟨_,h2,_⟩
  ·exact absurd h1 h0
  ·refine⟨h2,?_⟩
   unfold toP;dsimp only;rw[if_neg h0]
theorem qvy{x y:Cut}(h:RokC x)(k:RokC y):ordC x y=cmpG (toP x) (toP y):=qvz (qmk h) (qmk k)
theorem qja(x y:Cut)(w:World)(h:RokC x)(k:RokC y):Calls Tryz.prog 99 #[rcA x,rcA y] w (Ret (.int .i64 (cmpG (toP x) (toP y))) w):=by
 rw[←qvy h k];refine qoo x.b x.d y.b y.d x.s y.s w ?_ ?_ ?_ ?_ ?_
 ·rcases h with h|h<;>omega
 ·rcases k with h|h<;>omega
 ·rcases h with h|h<;>omega
 ·rcases k with h|h<;>omega
 ·intro h0 k0
  rcases h with⟨_,h1,h2,_⟩|h
  ·rcases k with⟨_,k1,k2,_⟩|k
   ·exact⟨h1,k1,h2,k2⟩
   ·omega
  ·omega
theorem qrq{n:ByteArray}{kind:Int}(hk:0≤kind∧kind≤2)(hn:n.size≤5000)(h:qa2 n kind=0):RokC (loC n kind)∧RokC (upC n kind)∧toP (loC n kind)=qd5 n kind 1∧toP (upC n kind)=qd5 n kind (-1):=by
 unfold qa2 at h;unfold loC upC qd5 toP
 by_cases h2:kind=2
 ·subst h2
  exact⟨.inr ⟨.inr rfl,rfl,rfl⟩,.inr ⟨.inl rfl,rfl,rfl⟩,rfl,rfl⟩
 ·rw[if_neg h2]at h
  rw[if_neg h2,if_neg h2,if_neg h2,if_neg h2]
  by_cases h0:kind=0
  ·subst h0
   exact⟨.inl ⟨rfl,hn,h,(by show(0:Int)≤1;decide),(by show(1:Int)≤1;decide)⟩,.inl ⟨rfl,hn,h,(by show(0:Int)≤0;decide),(by show(0:Int)≤1;decide)⟩,rfl,rfl⟩
  ·rw[if_neg h0,if_neg h0]
   obtain rfl:kind=1:=by omega
   exact⟨.inl ⟨rfl,hn,h,(by show(0:Int)≤0;decide),(by show(0:Int)≤1;decide)⟩,.inl ⟨rfl,hn,h,(by show(0:Int)≤1;decide),(by show(1:Int)≤1;decide)⟩,rfl,rfl⟩
theorem qq7{x:Iv}(hs:x.short)(h:qba x=0):RokC (loC x.lo x.le)∧RokC (upC x.hi x.he)∧toP (loC x.lo x.le)=x.low∧toP (upC x.hi x.he)=x.high:=by
 unfold qba at h
 split at h
 ·cases h
 rename_i hk
 split at h
 ·rename_i h1;exact absurd h h1
 rename_i h1
 obtain⟨a,_,b,_⟩:=qrq (kind:=x.le) (by omega) hs.1 (by simpa using h1);obtain⟨_,c,_,d⟩:=qrq (kind:=x.he) (by omega) hs.2 h;exact⟨a,c,b,d⟩
abbrev RP:=Cut × Cut
def rrow(r:RP):List Value:=[.int .i64 r.1.b,.string r.1.s,.int .i64 r.1.d,.int .i64 r.2.b,.string r.2.s,.int .i64 r.2.d]
def Rgs(w:World)(v:Value)(rs:List RP):Prop:=Sl w 6 v (rs.map rrow)
theorem Rgs.open{w:World}{v:Value}{rs:List RP}(h:Rgs w v rs):∃a cap,v=.slice a rs.length cap∧rs.length≤cap∧cap≤maxLen:=by
 have:=Sl.open h;simpa using this
def qur(w:World)(b o:Nat)(r:RP):Prop:=w.cell? ⟨b,o,none⟩=some (.int .i64 r.1.b)∧w.cell? ⟨b,o+1,none⟩=some (.string r.1.s)∧w.cell? ⟨b,o+2,none⟩=some (.int .i64 r.1.d)∧w.cell? ⟨b,o+3,none⟩=some (.int .i64 r.2.b)∧w.cell? ⟨b,o+4,none⟩=some (.string r.2.s)∧w.cell? ⟨b,o+5,none⟩=some (.int .i64 r.2.d)
theorem Rgs.at{w wr:World}{n cap:Nat}{a:Option Addr}{rs:List RP}(h:Rgs w (.slice a n cap) rs)(hb:Below w.heap.size w wr){k:Nat}(hk:k<n):
  ∃b off r,a=some ⟨b,off,none⟩∧rs[k]?=some r∧qur wr b (off+k*6) r:=by
 obtain⟨b,off,ha,hlt,r,hr,hc⟩:=Sl.row h hb hk;simp only[List.getElem?_map,Option.map_eq_some_iff]at hr;obtain⟨l,hl,rfl⟩:=hr;exact⟨b,off,l,ha,hl,hc 0 (by decide),hc 1 (by decide),hc 2 (by decide),hc 3 (by decide),hc 4 (by decide),hc 5 (by decide)⟩
def qcp(rs:List RP):List Value:=(rs.map rrow).flatten
theorem qdx(rs:List RP)(r:RP):qcp (rs++[r])=qcp rs++rrow r:=by
 unfold qcp;rw[List.map_append,List.flatten_append,List.map_singleton,List.flatten_cons,List.flatten_nil,List.append_nil]
theorem qeb{w:World}{B n:Nat}{v:Value}{rs:List RP}(h:w.ownsRow B 119 6 v n (qcp rs)):Rgs w v rs:=
 Sl.own h (fun r hr=>by obtain⟨p,_,rfl⟩:=List.mem_map.1 hr;rfl) (by decide)
theorem ER:ElemTy 104 119 6 64:=⟨Tryz.underlying104,by kernel_rfl⟩
theorem one6(r:RP):∀u∈rrow r,u.oneCell'=true:=by
 intro u hu;simp[rrow]at hu;rcases hu with rfl|rfl|rfl|rfl|rfl|rfl<;>rfl
def rgOf(x:Iv):RP:=(loC x.lo x.le,upC x.hi x.he)
theorem qbd{α:Type}{l:List α}{k:Nat}{x:α}(h:l[k]?=some x):l.take (k+1)=l.take k++[x]:=by
 obtain⟨hi,rfl⟩:=List.getElem?_eq_some_iff.1 h;rw[List.take_succ_eq_append_getElem hi]
set_option maxRecDepth 10000 in
theorem qof(v:Value)(xs:List Iv)(w:World)(h:Ivs w v xs)(hn:xs.length<100000):
  Calls Tryz.prog 80 #[v] w (RetP (fun r w'=>w'.ownsRow w.heap.size 119 6 r xs.length (qcp (xs.map rgOf))) w):=by
 obtain⟨a,c,rfl,hc1,hc2⟩:=h.open;unfold maxLen at hc2;have HX:=hI h;clear h;generalize hln:xs.length=n at*;have Hln:=hI hln;clear hln;have HL:=hI (fun s k w'=>qv6 s k w');have HU:=hI (fun s k w'=>quw s k w');have HN:=hI (fun W:World=>World.ownsRow_nil W W.heap.size 119 6)
 go_enter Tryz.func80,Tryz.ntmps80
 go_wp2_with fail
 go_loopw [4,3] (fun i out wr=>∃(k:Nat),k≤n∧i=.int .i64 (k:Int)∧Below w.heap.size w wr∧wr.ownsRow w.heap.size 119 6 out k (qcp ((xs.take k).map rgOf))) (fun i _ _=>n-(intOf i).toNat)
 case atStart=>exact⟨0,by omega,rfl,Below.refl _ _,HN.out _⟩
 case round=>
  obtain⟨k,hk,rfl,hbw,hown⟩:=hrel;have Hbw:=hI hbw;have Hown:=hI hown;rcases Nat.lt_or_ge k n with hlt|hge
  ·obtain⟨b,off,x,rfl,hx,d0,d1,d2,d3⟩:=HX.out.at (Below.refl _ _) hlt
   have hkn:(k:Int)<(n:Int):=by omega
   have hk0:(0:Int)≤(k:Int):=Int.natCast_nonneg _;have hkw:IntKind.i64.wrap ((k:Int)+1)=(k:Int)+1:=IntWalk.i64_in _ (by omega);have Hxc:=hI (show qcp ((xs.take (k+1)).map rgOf)=qcp ((xs.take k).map rgOf)++rrow (loC x.lo x.le,upC x.hi x.he)by rw[qbd hx,List.map_append,←qdx];rfl);have Hcell:=hI (fun w' (hb:Below w.heap.size w w')=>And.intro ((hb.cell (p:=⟨b,off+k*4,none⟩) (World.block_lt_of_cell? _ _ d0)).trans d0) (And.intro ((hb.cell (p:=⟨b,off+k*4+1,none⟩) (World.block_lt_of_cell? _ _ d1)).trans d1) (And.intro ((hb.cell (p:=⟨b,off+k*4+2,none⟩) (World.block_lt_of_cell? _ _ d2)).trans d2) ((hb.cell (p:=⟨b,off+k*4+3,none⟩) (World.block_lt_of_cell? _ _ d3)).trans d3))));obtain⟨c0,c1,c2,c3⟩:=Hcell.out _ hbw;have HLx:=hI (fun w'=>HL.out x.lo x.le w');have HUx:=hI (fun w'=>HU.out x.hi x.he w');unfold rcA rcut at HLx HUx;clear hx hbw hown HL HU d0 d1 d2 d3;generalize loC x.lo x.le=lc at*;generalize upC x.hi x.he=uc at*;go_upto_region 5 with fail
   refine wp_region_held_drew (S:=(fun w'=>w'.cell? ⟨b,off+k*4,none⟩=some (.string x.lo)∧w'.cell? ⟨b,off+k*4+1,none⟩=some (.string x.hi)∧w'.cell? ⟨b,off+k*4+2,none⟩=some (.int .i64 x.le)∧w'.cell? ⟨b,off+k*4+3,none⟩=some (.int .i64 x.he))) (by kernel_rfl) (by exact Hcell.out _ (Below.via Hbw.out (bwD wr) Hbw.out.size)) (fun hHeld=>?_)
   refine' tk 0 ?_;(try simp only[tkS]);refine' tk 1 ?_;(try simp only[tkS]);refine' tk 2 ?_;(try simp only[tkS]);refine' tk 3 ?_;(try simp only[tkS]);refine' tk 4 ?_;(try simp only[tkS]);refine' tk 5 ?_;(try simp only[tkS]);refine' tk 6 ?_;(try simp only[tkS]);refine' tk 7 ?_;(try simp only[tkS]);refine' tk 8 ?_;(try simp only[tkS]);refine' tk 9 ?_;(try simp only[tkS]);refine' tk 10 ?_;(try simp only[tkS]);refine' tk 12 ?_;(try simp only[tkS]);refine' tk 13 ?_;(try simp only[tkS]);refine' tk 14 ?_;(try simp only[tkS]);refine' tk 15 ?_;(try simp only[tkS]);refine' tk 16 ?_;(try simp only[tkS]);refine' tk 17 ?_;(try simp only[tkS]);refine' tk 18 ?_;(try simp only[tkS]);refine' tk 19 ?_;(try simp only[tkS]);refine' tk 20 ?_;(try simp only[tkS]);refine' tk 21 ?_;(try simp only[tkS]);refine tk1 11 (fun K hK=>?_)
   go_simp;go_at_call 89;refine(HLx.out _).mono ?_
   rintro e5 w11 ⟨rfl,hb11⟩;have H11:=hI (Below.via (Below.via Hbw.out (bwD wr) Hbw.out.size) hb11 (Below.size (Below.via Hbw.out (bwD wr) Hbw.out.size)));have Hbo11:=hI hb11;clear hb11;refine hK.out _ _ (by exact Hcell.out _ (H11.out)) (fun hHeld=>?_)
   clear hK K;(try simp only[tkS]);refine tk1 22 (fun K hK=>?_)
   go_simp;go_at_call 90;refine(HUx.out _).mono ?_
   rintro e5 w22 ⟨rfl,hb22⟩;have H22:=hI (Below.via (H11.out) hb22 (Below.size (H11.out)));have Hbo22:=hI hb22;clear hb22;refine hK.out _ _ (by exact Hcell.out _ (H22.out)) (fun hHeld=>?_)
   clear hK K;(try simp only[tkS]);refine' tk 23 ?_;(try simp only[tkS]);refine tk1 24 (fun K hK=>?_)
   go_simp;refine hK.out _ _ (by exact Hcell.out _ (Below.alloc (H22.out) (Below.size (H22.out)) (.cells #[.int .i64 lc.b,.string lc.s,.int .i64 lc.d,.int .i64 uc.b,.string uc.s,.int .i64 uc.d] 119))) (fun hHeld=>?_)
   clear hK K;(try simp only[tkS]);refine tk1 25 (fun K hK=>?_)
   refine qu4 ER (by decide) (rrow (lc,uc)) (by rfl) _ _ (by rfl) w.heap.size k _ _ _ (by rfl) (by rfl) (by exact World.ownsRow.alloc (qaf (qaf (qaf Hown.out (bwD wr)) Hbo11.out) Hbo22.out) _) (by exact heap_alloc_new _ _) (by rfl) (one6 (lc,uc)) (by omega) (by decide) (by exact Below.size (Below.alloc (H22.out) (Below.size (H22.out)) (.cells #[.int .i64 lc.b,.string lc.s,.int .i64 lc.d,.int .i64 uc.b,.string uc.s,.int .i64 uc.d] 119))) ?_
   intro g5 cap5 w5 hown' hg' _ _;have Hb5:=hI (Below.grown (Below.alloc (H22.out) (Below.size (H22.out)) (.cells #[.int .i64 lc.b,.string lc.s,.int .i64 lc.d,.int .i64 uc.b,.string uc.s,.int .i64 uc.d] 119)) hg' (Below.size (Below.alloc (H22.out) (Below.size (H22.out)) (.cells #[.int .i64 lc.b,.string lc.s,.int .i64 lc.d,.int .i64 uc.b,.string uc.s,.int .i64 uc.d] 119))) (fun q hq=>(Hown.out.lt q hq).1));have Hown5:=hI hown';clear hown' hg';refine hK.out _ _ (by exact Hcell.out _ (Hb5.out)) (fun hHeld=>?_)
   clear hK K;(try simp only[tkS]);refine' tk 26 ?_;(try simp only[tkS]);refine tkD ?_ _
   go_wp2_with fail
   go_roundw
   case rel=>exact⟨k+1,by omega,by go_num,Hb5.out,by rw[Hxc.out];exact Hown5.out⟩
   case measure=>simp[intOf]<;>omega
  ·obtain rfl:k=n:=by omega
   have hkn:¬(k:Int)<(k:Int):=by omega
   go_wp2_with fail
   go_ret
   exact⟨_,rfl,by have:=Hown.out;rw[List.take_of_length_le (by rw[Hln.out];exact Nat.le_refl _)]at this;exact this,Hbw.out⟩
end Go.Proofs.YtacihodamichhaaGreatDoor
