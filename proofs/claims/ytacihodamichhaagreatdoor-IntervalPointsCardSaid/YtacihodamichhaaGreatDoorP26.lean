/- Parts of the proof. -/
import Derived.Test.YtacihodamichhaaGreatDoorP20
set_option maxHeartbeats 4000000
namespace Go.Proofs.YtacihodamichhaaGreatDoor
open Go.RowKit
theorem qff{l:List UInt8}{q v:Nat}{c:UInt8}(hc:l[q]?=some c)(hv:c.toNat=v)(hq:q<(⟨l.toArray⟩:ByteArray).size):(((⟨l.toArray⟩:ByteArray)[q]'hq).toNat:Int)=(v:Int):=by rw[qek hc hq,hv]
theorem qd9:txtN false 1=[49]:=canon (p:=[49]) (by intro c hc;obtain rfl:=List.mem_singleton.1 hc;decide) (by simp) (.inl (by decide))
theorem qiq{n:Nat}(h:n≠1):((⟨(txtN false n).toArray⟩:ByteArray).toList==[49])=false:=by
 rw[ByteArray.toList_eq,beq_eq_false_iff_ne]
 show ¬txtN false n=[49]
 intro e;obtain⟨p,-,-,hv,hp,-⟩:=qfh false n;rcases hp with hp|hp
 ·rw[←hp,e]at hv
  exact h (hv.symm.trans rfl)
 ·rw[e]at hp
  cases hp
theorem qiw(l:List UInt8):(⟨l.toArray⟩:ByteArray).size=l.length:=by rw[Lib.size_eq]
theorem toL(l:List UInt8):(⟨l.toArray⟩:ByteArray).toList=l:=by rw[ByteArray.toList_eq]
theorem pre0{l t b p:List UInt8}(hl:l.length≤5000)(hT:topL l=t)(hB:denT l=b)(hP:absL t=p):t.length≤5000∧b.length≤5000∧p.length≤5000∧Hid (∀w':World,Calls Tryz.prog 65 #[.string ⟨l.toArray⟩] w' (Ret (.tuple #[.string ⟨t.toArray⟩,.string ⟨b.toArray⟩]) w'))∧Hid (∀w':World,Calls Tryz.prog 66 #[.string ⟨p.toArray⟩] w' (Ret (.bool (digB p)) w'))∧Hid (∀w':World,Calls Tryz.prog 66 #[.string ⟨b.toArray⟩] w' (Ret (.bool (digB b)) w'))∧Hid (∀w':World,Calls Tryz.prog 67 #[.string ⟨b.toArray⟩] w' (Ret (.bool (zerB b)) w'))∧Hid (∀w':World,Calls Tryz.prog 68 #[.string ⟨l.toArray⟩] w' (Ret (.int .i64 (t.length:Int)) w'))∧(⟨l.toArray⟩:ByteArray).size=l.length∧¬(65536:Int)<(l.length:Int)∧(⟨t.toArray⟩:ByteArray).size=t.length∧(⟨b.toArray⟩:ByteArray).size=b.length∧(⟨p.toArray⟩:ByteArray).size=p.length:=by
 have ht60:t.length≤5000:=by rw[←hT];exact Nat.le_trans (qew l) hl
 have hb60:b.length≤5000:=by
  rw[←hB];unfold denT
  split
  ·exact Nat.le_trans (qgz l) hl
  ·decide
 have hp60:p.length≤5000:=by rw[←hP];exact Nat.le_trans (qdr t) ht60
 have H1:=hI (fun w'=>qe3 l w' (by omega));rw[hT,hB]at H1;have H6:=hI (fun w'=>qj3 l w' (by omega));rw[hT]at H6;exact⟨ht60,hb60,hp60,H1,hI (fun w'=>qha p w' (by omega)),hI (fun w'=>qha b w' (by omega)),hI (fun w'=>qnm b w' (by omega)),H6,qiw l,by omega,qiw t,qiw b,qiw p⟩
theorem preN{t p:List UInt8}(hneg:negB t=true)(hP:absL t=p)(hts:(⟨t.toArray⟩:ByteArray).size=t.length):t=45::p∧(0:Int)<(t.length:Int)∧(1:Int)≤(t.length:Int)∧∃htz:0<(⟨t.toArray⟩:ByteArray).size,(((⟨t.toArray⟩:ByteArray)[0]'htz).toNat:Int)=((45:Nat):Int)∧(⟨t.toArray⟩:ByteArray).extract 1 t.length=⟨p.toArray⟩∧1≤t.length:=by
 have ht:t=45::p:=by have h:=qbu t;rw[hneg,if_pos rfl,hP]at h;exact h
 have htl:(0:Int)<(t.length:Int):=by rw[ht];simp
 have htz:0<(⟨t.toArray⟩:ByteArray).size:=by omega
 exact⟨ht,htl,by omega,htz,qff (v:=45) (c:=45) (show t[0]?=some 45 by rw[ht];rfl) rfl htz,qcf (by rw[qbr rfl,List.take_of_length_le (Nat.le_refl _),ht];rfl),by omega⟩
theorem qc0{b:List UInt8}(hpos:0<b.length)(hb:b.head?≠some 48)(hbz:0<(⟨b.toArray⟩:ByteArray).size):((((⟨b.toArray⟩:ByteArray)[0]'hbz).toNat:Int)==48)=false:=by
 obtain⟨c2,hc2⟩:∃c2,b[0]?=some c2:=⟨b[0]'hpos,by simp⟩
 rw[qek hc2 hbz,beq_eq_false_iff_ne];intro e;refine hb ?_
 rw[List.head?_eq_getElem?,hc2]
 congr 1
 exact UInt8.toNat_inj.1 (by have:(48:UInt8).toNat=48:=rfl;omega)
theorem preP{t:List UInt8}(hneg:negB t=false)(hne:t≠[])(hts:(⟨t.toArray⟩:ByteArray).size=t.length):0<t.length∧(0:Int)<(t.length:Int)∧∃htz:0<(⟨t.toArray⟩:ByteArray).size,((((⟨t.toArray⟩:ByteArray)[0]'htz).toNat:Int)==45)=false:=by
 obtain⟨c0,hc0⟩:∃c0,t[0]?=some c0:=by cases t with|nil=>exact absurd rfl hne|cons a r=>exact⟨a,rfl⟩
 have hpos:0<t.length:=List.length_pos_iff.2 hne;have htz:0<(⟨t.toArray⟩:ByteArray).size:=by omega
 have hc45:c0≠45:=by
  intro e;unfold negB Lib.hasPrefix at hneg;cases t with
  |nil=>cases hc0
  |cons a r=>cases hc0;subst e;exact absurd hneg (by simp[List.isPrefixOf])
 refine⟨hpos,by omega,htz,?_⟩
 rw[qek hc0 htz,beq_eq_false_iff_ne];intro e;exact hc45 (UInt8.toNat_inj.1 (by have:(45:UInt8).toNat=45:=rfl;omega))
theorem preZ{b:List UInt8}(h2:digB b=true)(hbs:(⟨b.toArray⟩:ByteArray).size=b.length):0<b.length∧0<(⟨b.toArray⟩:ByteArray).size:=by
 cases b with
 |nil=>exact absurd h2 (by decide)
 |cons x r=>exact⟨Nat.succ_pos _,by rw[hbs];exact Nat.succ_pos _⟩
set_option maxRecDepth 100000 in
theorem qtq(l t b p:List UInt8)(dv:Bool)(w:World)(hl:l.length≤5000)(hT:topL l=t)(hB:denT l=b)(_hD:divB l=dv)(hP:absL t=p)(hneg:negB t=true)(h1:digB p=false):Calls Tryz.prog 21 #[.string ⟨l.toArray⟩,.int .i64 65536] w (Ret (.int .i64 14) w):=by
 obtain⟨ht60,hb60,hp60,H1,H3,H4,H5,H6,hls,hlm,hts,hbs,hps⟩:=pre0 hl hT hB hP;obtain⟨ht,htl,htl1,htz,ht0,htx,htn⟩:=preN hneg hP hts;rw[h1]at H3;clear hT hB hP hl ht60 hb60 hp60;clear ht;generalize(⟨l.toArray⟩:ByteArray)=L at*;generalize(⟨t.toArray⟩:ByteArray)=T at*;generalize(⟨p.toArray⟩:ByteArray)=P at*;generalize(⟨b.toArray⟩:ByteArray)=B at*;generalize l.length=nl at*;generalize t.length=nt at*;generalize p.length=np at*;generalize b.length=nb at*
 go_enter Tryz.func21,Tryz.ntmps21
 go_wp2_with (first
  |(go_at_call 65;refine(H1.out _).mono ?_;rintro e w1 ⟨rfl,hb1⟩;have Hb1:=hI hb1;clear hb1)
  |(go_at_call 66;refine(H3.out _).mono ?_;rintro e w2 ⟨rfl,hb2⟩;have Hb2:=hI (qaa Hb1.out hb2);clear hb2))
 go_ret
 exact⟨rfl,Hb2.out⟩
set_option maxRecDepth 100000 in
theorem qto(l t b p:List UInt8)(dv:Bool)(w:World)(hl:l.length≤5000)(hT:topL l=t)(hB:denT l=b)(_hD:divB l=dv)(hP:absL t=p)(hneg:negB t=false)(hne:t≠[])(h1:digB p=false):Calls Tryz.prog 21 #[.string ⟨l.toArray⟩,.int .i64 65536] w (Ret (.int .i64 14) w):=by
 obtain⟨ht60,hb60,hp60,H1,H3,H4,H5,H6,hls,hlm,hts,hbs,hps⟩:=pre0 hl hT hB hP;have ht:t=p:=by have h:=qbu t;rw[hneg,if_neg (by decide),hP]at h;exact h
 subst ht;obtain⟨hpos,htl,htz,ht0⟩:=preP hneg hne hts;rw[h1]at H3;clear hT hB hP hl ht60 hb60 hp60;generalize(⟨l.toArray⟩:ByteArray)=L at*;generalize(⟨t.toArray⟩:ByteArray)=T at*;generalize(⟨b.toArray⟩:ByteArray)=B at*;generalize l.length=nl at*;generalize t.length=nt at*;generalize b.length=nb at*
 go_enter Tryz.func21,Tryz.ntmps21
 go_wp2_with (first
  |(go_at_call 65;refine(H1.out _).mono ?_;rintro e w1 ⟨rfl,hb1⟩;have Hb1:=hI hb1;clear hb1)
  |(go_at_call 66;refine(H3.out _).mono ?_;rintro e w2 ⟨rfl,hb2⟩;have Hb2:=hI (qaa Hb1.out hb2);clear hb2))
 go_ret
 exact⟨rfl,Hb2.out⟩
set_option maxRecDepth 100000 in
theorem qtp(l t b p:List UInt8)(dv:Bool)(w:World)(hl:l.length≤5000)(hT:topL l=t)(hB:denT l=b)(_hD:divB l=dv)(hP:absL t=p)(hne:t=[])(h1:digB p=false):Calls Tryz.prog 21 #[.string ⟨l.toArray⟩,.int .i64 65536] w (Ret (.int .i64 14) w):=by
 obtain⟨ht60,hb60,hp60,H1,H3,H4,H5,H6,hls,hlm,hts,hbs,hps⟩:=pre0 hl hT hB hP;subst hne;have ht:p=[]:=by rw[←hP];rfl
 subst ht;have htl:¬(0:Int)<((([]:List UInt8)).length:Int):=by simp
 rw[h1]at H3;clear hT hB hP hl ht60 hb60 hp60;generalize(⟨l.toArray⟩:ByteArray)=L at*;generalize(⟨b.toArray⟩:ByteArray)=B at*;generalize l.length=nl at*;generalize b.length=nb at*
 go_enter Tryz.func21,Tryz.ntmps21
 go_wp2_with (first
  |(go_at_call 65;refine(H1.out _).mono ?_;rintro e w1 ⟨rfl,hb1⟩;have Hb1:=hI hb1;clear hb1)
  |(go_at_call 66;refine(H3.out _).mono ?_;rintro e w2 ⟨rfl,hb2⟩;have Hb2:=hI (qaa Hb1.out hb2);clear hb2))
 go_ret
 exact⟨rfl,Hb2.out⟩
set_option maxRecDepth 100000 in
theorem qtn(l t b p:List UInt8)(dv:Bool)(w:World)(hl:l.length≤5000)(hT:topL l=t)(hB:denT l=b)(_hD:divB l=dv)(hP:absL t=p)(hneg:negB t=true)(h1:digB p=true)(h2:digB b=false):Calls Tryz.prog 21 #[.string ⟨l.toArray⟩,.int .i64 65536] w (Ret (.int .i64 14) w):=by
 obtain⟨ht60,hb60,hp60,H1,H3,H4,H5,H6,hls,hlm,hts,hbs,hps⟩:=pre0 hl hT hB hP;obtain⟨ht,htl,htl1,htz,ht0,htx,htn⟩:=preN hneg hP hts;rw[h1]at H3;rw[h2]at H4;clear hT hB hP hl ht60 hb60 hp60;clear ht;generalize(⟨l.toArray⟩:ByteArray)=L at*;generalize(⟨t.toArray⟩:ByteArray)=T at*;generalize(⟨p.toArray⟩:ByteArray)=P at*;generalize(⟨b.toArray⟩:ByteArray)=B at*;generalize l.length=nl at*;generalize t.length=nt at*;generalize p.length=np at*;generalize b.length=nb at*
 go_enter Tryz.func21,Tryz.ntmps21
 go_wp2_with (first
  |(go_at_call 65;refine(H1.out _).mono ?_;rintro e w1 ⟨rfl,hb1⟩;have Hb1:=hI hb1;clear hb1)
  |(have _t:=Hb2;clear _t;go_at_call 66;refine(H4.out _).mono ?_;rintro e w3 ⟨rfl,hb3⟩;have Hb3:=hI (qaa Hb2.out hb3);clear hb3)
  |(go_at_call 66;refine(H3.out _).mono ?_;rintro e w2 ⟨rfl,hb2⟩;have Hb2:=hI (qaa Hb1.out hb2);clear hb2))
 go_ret
 exact⟨rfl,Hb3.out⟩
set_option maxRecDepth 100000 in
theorem qtl(l t b p:List UInt8)(dv:Bool)(w:World)(hl:l.length≤5000)(hT:topL l=t)(hB:denT l=b)(_hD:divB l=dv)(hP:absL t=p)(hneg:negB t=true)(h1:digB p=true)(h2:digB b=true)(h3:zerB b=true):Calls Tryz.prog 21 #[.string ⟨l.toArray⟩,.int .i64 65536] w (Ret (.int .i64 19) w):=by
 obtain⟨ht60,hb60,hp60,H1,H3,H4,H5,H6,hls,hlm,hts,hbs,hps⟩:=pre0 hl hT hB hP;obtain⟨ht,htl,htl1,htz,ht0,htx,htn⟩:=preN hneg hP hts;rw[h1]at H3;rw[h2]at H4;rw[h3]at H5;clear hT hB hP hl ht60 hb60 hp60;clear ht;generalize(⟨l.toArray⟩:ByteArray)=L at*;generalize(⟨t.toArray⟩:ByteArray)=T at*;generalize(⟨p.toArray⟩:ByteArray)=P at*;generalize(⟨b.toArray⟩:ByteArray)=B at*;generalize l.length=nl at*;generalize t.length=nt at*;generalize p.length=np at*;generalize b.length=nb at*
 go_enter Tryz.func21,Tryz.ntmps21
 go_wp2_with (first
  |(go_at_call 65;refine(H1.out _).mono ?_;rintro e w1 ⟨rfl,hb1⟩;have Hb1:=hI hb1;clear hb1)
  |(have _t:=Hb2;clear _t;go_at_call 66;refine(H4.out _).mono ?_;rintro e w3 ⟨rfl,hb3⟩;have Hb3:=hI (qaa Hb2.out hb3);clear hb3)
  |(go_at_call 66;refine(H3.out _).mono ?_;rintro e w2 ⟨rfl,hb2⟩;have Hb2:=hI (qaa Hb1.out hb2);clear hb2)
  |(go_at_call 67;refine(H5.out _).mono ?_;rintro e w4 ⟨rfl,hb4⟩;have Hb4:=hI (qaa Hb3.out hb4);clear hb4))
 go_ret
 exact⟨rfl,Hb4.out⟩
set_option maxRecDepth 100000 in
theorem qtm(l t b p:List UInt8)(dv:Bool)(w:World)(hl:l.length≤5000)(hT:topL l=t)(hB:denT l=b)(_hD:divB l=dv)(hP:absL t=p)(hneg:negB t=false)(hne:t≠[])(h1:digB p=true)(h2:digB b=false):Calls Tryz.prog 21 #[.string ⟨l.toArray⟩,.int .i64 65536] w (Ret (.int .i64 14) w):=by
 obtain⟨ht60,hb60,hp60,H1,H3,H4,H5,H6,hls,hlm,hts,hbs,hps⟩:=pre0 hl hT hB hP;have ht:t=p:=by have h:=qbu t;rw[hneg,if_neg (by decide),hP]at h;exact h
 subst ht;obtain⟨hpos,htl,htz,ht0⟩:=preP hneg hne hts;rw[h1]at H3;rw[h2]at H4;clear hT hB hP hl ht60 hb60 hp60;generalize(⟨l.toArray⟩:ByteArray)=L at*;generalize(⟨t.toArray⟩:ByteArray)=T at*;generalize(⟨b.toArray⟩:ByteArray)=B at*;generalize l.length=nl at*;generalize t.length=nt at*;generalize b.length=nb at*
 go_enter Tryz.func21,Tryz.ntmps21
 go_wp2_with (first
  |(go_at_call 65;refine(H1.out _).mono ?_;rintro e w1 ⟨rfl,hb1⟩;have Hb1:=hI hb1;clear hb1)
  |(have _t:=Hb2;clear _t;go_at_call 66;refine(H4.out _).mono ?_;rintro e w3 ⟨rfl,hb3⟩;have Hb3:=hI (qaa Hb2.out hb3);clear hb3)
  |(go_at_call 66;refine(H3.out _).mono ?_;rintro e w2 ⟨rfl,hb2⟩;have Hb2:=hI (qaa Hb1.out hb2);clear hb2))
 go_ret
 exact⟨rfl,Hb3.out⟩
set_option maxRecDepth 100000 in
theorem qtk(l t b p:List UInt8)(dv:Bool)(w:World)(hl:l.length≤5000)(hT:topL l=t)(hB:denT l=b)(_hD:divB l=dv)(hP:absL t=p)(hneg:negB t=false)(hne:t≠[])(h1:digB p=true)(h2:digB b=true)(h3:zerB b=true):Calls Tryz.prog 21 #[.string ⟨l.toArray⟩,.int .i64 65536] w (Ret (.int .i64 19) w):=by
 obtain⟨ht60,hb60,hp60,H1,H3,H4,H5,H6,hls,hlm,hts,hbs,hps⟩:=pre0 hl hT hB hP;have ht:t=p:=by have h:=qbu t;rw[hneg,if_neg (by decide),hP]at h;exact h
 subst ht;obtain⟨hpos,htl,htz,ht0⟩:=preP hneg hne hts;rw[h1]at H3;rw[h2]at H4;rw[h3]at H5;clear hT hB hP hl ht60 hb60 hp60;generalize(⟨l.toArray⟩:ByteArray)=L at*;generalize(⟨t.toArray⟩:ByteArray)=T at*;generalize(⟨b.toArray⟩:ByteArray)=B at*;generalize l.length=nl at*;generalize t.length=nt at*;generalize b.length=nb at*
 go_enter Tryz.func21,Tryz.ntmps21
 go_wp2_with (first
  |(go_at_call 65;refine(H1.out _).mono ?_;rintro e w1 ⟨rfl,hb1⟩;have Hb1:=hI hb1;clear hb1)
  |(have _t:=Hb2;clear _t;go_at_call 66;refine(H4.out _).mono ?_;rintro e w3 ⟨rfl,hb3⟩;have Hb3:=hI (qaa Hb2.out hb3);clear hb3)
  |(go_at_call 66;refine(H3.out _).mono ?_;rintro e w2 ⟨rfl,hb2⟩;have Hb2:=hI (qaa Hb1.out hb2);clear hb2)
  |(go_at_call 67;refine(H5.out _).mono ?_;rintro e w4 ⟨rfl,hb4⟩;have Hb4:=hI (qaa Hb3.out hb4);clear hb4))
 go_ret
 exact⟨rfl,Hb4.out⟩
set_option maxRecDepth 100000 in
theorem qtj(l t b p:List UInt8)(dv:Bool)(w:World)(hl:l.length≤5000)(hT:topL l=t)(hB:denT l=b)(_hD:divB l=dv)(hP:absL t=p)(hneg:negB t=true)(h1:digB p=true)(h2:digB b=true)(h3:zerB b=false)(hL:1<p.length)(hp0:p.head?=some 48):Calls Tryz.prog 21 #[.string ⟨l.toArray⟩,.int .i64 65536] w (Ret (.int .i64 3) w):=by
 obtain⟨ht60,hb60,hp60,H1,H3,H4,H5,H6,hls,hlm,hts,hbs,hps⟩:=pre0 hl hT hB hP;obtain⟨ht,htl,htl1,htz,ht0,htx,htn⟩:=preN hneg hP hts;rw[h1]at H3;rw[h2]at H4;rw[h3]at H5;have hq:(1:Int)<(p.length:Int):=by omega
 have hqz:0<(⟨p.toArray⟩:ByteArray).size:=by omega
 have hq0:=qff (v:=48) (c:=48) (show p[0]?=some 48 by rw[←List.head?_eq_getElem?];exact hp0) rfl hqz;clear hp0;clear hT hB hP hl ht60 hb60 hp60;clear ht;generalize(⟨l.toArray⟩:ByteArray)=L at*;generalize(⟨t.toArray⟩:ByteArray)=T at*;generalize(⟨p.toArray⟩:ByteArray)=P at*;generalize(⟨b.toArray⟩:ByteArray)=B at*;generalize l.length=nl at*;generalize t.length=nt at*;generalize p.length=np at*;generalize b.length=nb at*
 go_enter Tryz.func21,Tryz.ntmps21
 go_wp2_with (first
  |(go_at_call 65;refine(H1.out _).mono ?_;rintro e w1 ⟨rfl,hb1⟩;have Hb1:=hI hb1;clear hb1)
  |(have _t:=Hb2;clear _t;go_at_call 66;refine(H4.out _).mono ?_;rintro e w3 ⟨rfl,hb3⟩;have Hb3:=hI (qaa Hb2.out hb3);clear hb3)
  |(go_at_call 66;refine(H3.out _).mono ?_;rintro e w2 ⟨rfl,hb2⟩;have Hb2:=hI (qaa Hb1.out hb2);clear hb2)
  |(go_at_call 67;refine(H5.out _).mono ?_;rintro e w4 ⟨rfl,hb4⟩;have Hb4:=hI (qaa Hb3.out hb4);clear hb4))
 go_ret
 exact⟨rfl,Hb4.out⟩
set_option maxRecDepth 100000 in
theorem qth(l t b p:List UInt8)(dv:Bool)(w:World)(hl:l.length≤5000)(hT:topL l=t)(hB:denT l=b)(_hD:divB l=dv)(hP:absL t=p)(hneg:negB t=true)(h1:digB p=true)(h2:digB b=true)(h3:zerB b=false)(hL:¬1<p.length)(hm:(t==[45,48])=true):Calls Tryz.prog 21 #[.string ⟨l.toArray⟩,.int .i64 65536] w (Ret (.int .i64 3) w):=by
 obtain⟨ht60,hb60,hp60,H1,H3,H4,H5,H6,hls,hlm,hts,hbs,hps⟩:=pre0 hl hT hB hP;obtain⟨ht,htl,htl1,htz,ht0,htx,htn⟩:=preN hneg hP hts;rw[h1]at H3;rw[h2]at H4;rw[h3]at H5;have hq:¬(1:Int)<(p.length:Int):=by omega
 have hm0:((⟨t.toArray⟩:ByteArray).toList==[45,48])=true:=by rw[toL];exact hm
 clear hT hB hP hl ht60 hb60 hp60;clear ht;generalize(⟨l.toArray⟩:ByteArray)=L at*;generalize(⟨t.toArray⟩:ByteArray)=T at*;generalize(⟨p.toArray⟩:ByteArray)=P at*;generalize(⟨b.toArray⟩:ByteArray)=B at*;generalize l.length=nl at*;generalize t.length=nt at*;generalize p.length=np at*;generalize b.length=nb at*
 go_enter Tryz.func21,Tryz.ntmps21
 go_wp2_with (first
  |(go_at_call 65;refine(H1.out _).mono ?_;rintro e w1 ⟨rfl,hb1⟩;have Hb1:=hI hb1;clear hb1)
  |(have _t:=Hb2;clear _t;go_at_call 66;refine(H4.out _).mono ?_;rintro e w3 ⟨rfl,hb3⟩;have Hb3:=hI (qaa Hb2.out hb3);clear hb3)
  |(go_at_call 66;refine(H3.out _).mono ?_;rintro e w2 ⟨rfl,hb2⟩;have Hb2:=hI (qaa Hb1.out hb2);clear hb2)
  |(go_at_call 67;refine(H5.out _).mono ?_;rintro e w4 ⟨rfl,hb4⟩;have Hb4:=hI (qaa Hb3.out hb4);clear hb4))
 go_ret
 exact⟨rfl,Hb4.out⟩
set_option maxRecDepth 100000 in
theorem qjv(l t b p:List UInt8)(dv:Bool)(w:World)(hl:l.length≤5000)(hT:topL l=t)(hB:denT l=b)(_hD:divB l=dv)(hP:absL t=p)(hneg:negB t=true)(h1:digB p=true)(h2:digB b=true)(h3:zerB b=false)(hL:1<p.length)(hp0:p.head?≠some 48)(hm:(t==[45,48])=false)(hb:b.head?=some 48):Calls Tryz.prog 21 #[.string ⟨l.toArray⟩,.int .i64 65536] w (Ret (.int .i64 3) w):=by
 obtain⟨ht60,hb60,hp60,H1,H3,H4,H5,H6,hls,hlm,hts,hbs,hps⟩:=pre0 hl hT hB hP;obtain⟨ht,htl,htl1,htz,ht0,htx,htn⟩:=preN hneg hP hts;rw[h1]at H3;rw[h2]at H4;rw[h3]at H5;have hq:(1:Int)<(p.length:Int):=by omega
 have hqz:0<(⟨p.toArray⟩:ByteArray).size:=by omega
 have hq0:=qc0 (show 0<p.length by omega) hp0 hqz;have hm0:((⟨t.toArray⟩:ByteArray).toList==[45,48])=false:=by rw[toL];exact hm
 obtain⟨hbp,hbz⟩:=preZ h2 hbs;have hb0:=qff (v:=48) (c:=48) (show b[0]?=some 48 by rw[←List.head?_eq_getElem?];exact hb) rfl hbz;clear hbp;clear hT hB hP hl ht60 hb60 hp60;clear ht;generalize(⟨l.toArray⟩:ByteArray)=L at*;generalize(⟨t.toArray⟩:ByteArray)=T at*;generalize(⟨p.toArray⟩:ByteArray)=P at*;generalize(⟨b.toArray⟩:ByteArray)=B at*;generalize l.length=nl at*;generalize t.length=nt at*;generalize p.length=np at*;generalize b.length=nb at*
 go_enter Tryz.func21,Tryz.ntmps21
 go_wp2_with (first
  |(go_at_call 65;refine(H1.out _).mono ?_;rintro e w1 ⟨rfl,hb1⟩;have Hb1:=hI hb1;clear hb1)
  |(have _t:=Hb2;clear _t;go_at_call 66;refine(H4.out _).mono ?_;rintro e w3 ⟨rfl,hb3⟩;have Hb3:=hI (qaa Hb2.out hb3);clear hb3)
  |(go_at_call 66;refine(H3.out _).mono ?_;rintro e w2 ⟨rfl,hb2⟩;have Hb2:=hI (qaa Hb1.out hb2);clear hb2)
  |(go_at_call 67;refine(H5.out _).mono ?_;rintro e w4 ⟨rfl,hb4⟩;have Hb4:=hI (qaa Hb3.out hb4);clear hb4))
 go_ret
 exact⟨rfl,Hb4.out⟩
set_option maxRecDepth 100000 in
theorem qjt(l t b p:List UInt8)(dv:Bool)(w:World)(hl:l.length≤5000)(hT:topL l=t)(hB:denT l=b)(hD:divB l=dv)(hP:absL t=p)(hneg:negB t=true)(h1:digB p=true)(h2:digB b=true)(h3:zerB b=false)(hL:1<p.length)(hp0:p.head?≠some 48)(hm:(t==[45,48])=false)(hb:b.head?≠some 48)(h7:dv=false):Calls Tryz.prog 21 #[.string ⟨l.toArray⟩,.int .i64 65536] w (Ret (.int .i64 0) w):=by
 obtain⟨ht60,hb60,hp60,H1,H3,H4,H5,H6,hls,hlm,hts,hbs,hps⟩:=pre0 hl hT hB hP;obtain⟨ht,htl,htl1,htz,ht0,htx,htn⟩:=preN hneg hP hts;rw[h1]at H3;rw[h2]at H4;rw[h3]at H5;have hq:(1:Int)<(p.length:Int):=by omega
 have hqz:0<(⟨p.toArray⟩:ByteArray).size:=by omega
 have hq0:=qc0 (show 0<p.length by omega) hp0 hqz;have hm0:((⟨t.toArray⟩:ByteArray).toList==[45,48])=false:=by rw[toL];exact hm
 obtain⟨hbp,hbz⟩:=preZ h2 hbs;have hb0:=qc0 hbp hb hbz;clear hbp
 have hdv:¬(t.length:Int)<(l.length:Int):=by
  rcases qdu l with⟨-,-,h,-⟩|⟨i,-,-,h,-,-⟩
  ·rw[hT]at h;rw[h];omega
  ·rw[hD,h7]at h;cases h
 clear hT hB hP hl ht60 hb60 hp60;clear ht;generalize(⟨l.toArray⟩:ByteArray)=L at*;generalize(⟨t.toArray⟩:ByteArray)=T at*;generalize(⟨p.toArray⟩:ByteArray)=P at*;generalize(⟨b.toArray⟩:ByteArray)=B at*;generalize l.length=nl at*;generalize t.length=nt at*;generalize p.length=np at*;generalize b.length=nb at*
 go_enter Tryz.func21,Tryz.ntmps21
 go_wp2_with (first
  |(go_at_call 65;refine(H1.out _).mono ?_;rintro e w1 ⟨rfl,hb1⟩;have Hb1:=hI hb1;clear hb1)
  |(have _t:=Hb2;clear _t;go_at_call 66;refine(H4.out _).mono ?_;rintro e w3 ⟨rfl,hb3⟩;have Hb3:=hI (qaa Hb2.out hb3);clear hb3)
  |(go_at_call 66;refine(H3.out _).mono ?_;rintro e w2 ⟨rfl,hb2⟩;have Hb2:=hI (qaa Hb1.out hb2);clear hb2)
  |(go_at_call 67;refine(H5.out _).mono ?_;rintro e w4 ⟨rfl,hb4⟩;have Hb4:=hI (qaa Hb3.out hb4);clear hb4)
  |(go_at_call 68;refine(H6.out _).mono ?_;rintro e w5 ⟨rfl,hb5⟩;have Hb5:=hI (qaa Hb4.out hb5);clear hb5))
 go_ret
 exact⟨rfl,Hb5.out⟩
set_option maxRecDepth 100000 in
theorem qjr(l t b p:List UInt8)(dv:Bool)(w:World)(hl:l.length≤5000)(hT:topL l=t)(hB:denT l=b)(hD:divB l=dv)(hP:absL t=p)(hneg:negB t=true)(h1:digB p=true)(h2:digB b=true)(h3:zerB b=false)(hL:1<p.length)(hp0:p.head?≠some 48)(hm:(t==[45,48])=false)(hb:b.head?≠some 48)(h7:dv=true)(h8:(b==[49])=true):Calls Tryz.prog 21 #[.string ⟨l.toArray⟩,.int .i64 65536] w (Ret (.int .i64 3) w):=by
 obtain⟨ht60,hb60,hp60,H1,H3,H4,H5,H6,hls,hlm,hts,hbs,hps⟩:=pre0 hl hT hB hP;obtain⟨ht,htl,htl1,htz,ht0,htx,htn⟩:=preN hneg hP hts;rw[h1]at H3;rw[h2]at H4;rw[h3]at H5;have hq:(1:Int)<(p.length:Int):=by omega
 have hqz:0<(⟨p.toArray⟩:ByteArray).size:=by omega
 have hq0:=qc0 (show 0<p.length by omega) hp0 hqz;have hm0:((⟨t.toArray⟩:ByteArray).toList==[45,48])=false:=by rw[toL];exact hm
 obtain⟨hbp,hbz⟩:=preZ h2 hbs;have hb0:=qc0 hbp hb hbz;clear hbp
 have hdv:(t.length:Int)<(l.length:Int):=by
  rcases qdu l with⟨-,h,-,-⟩|⟨i,-,hi,-,h,-⟩
  ·rw[hD,h7]at h;cases h
  ·rw[hT]at h;rw[h,List.length_take];omega
 have hb1:((⟨b.toArray⟩:ByteArray).toList==[49])=true:=by rw[toL];exact h8
 clear hT hB hP hl ht60 hb60 hp60;clear ht;generalize(⟨l.toArray⟩:ByteArray)=L at*;generalize(⟨t.toArray⟩:ByteArray)=T at*;generalize(⟨p.toArray⟩:ByteArray)=P at*;generalize(⟨b.toArray⟩:ByteArray)=B at*;generalize l.length=nl at*;generalize t.length=nt at*;generalize p.length=np at*;generalize b.length=nb at*
 go_enter Tryz.func21,Tryz.ntmps21
 go_wp2_with (first
  |(go_at_call 65;refine(H1.out _).mono ?_;rintro e w1 ⟨rfl,hb1⟩;have Hb1:=hI hb1;clear hb1)
  |(have _t:=Hb2;clear _t;go_at_call 66;refine(H4.out _).mono ?_;rintro e w3 ⟨rfl,hb3⟩;have Hb3:=hI (qaa Hb2.out hb3);clear hb3)
  |(go_at_call 66;refine(H3.out _).mono ?_;rintro e w2 ⟨rfl,hb2⟩;have Hb2:=hI (qaa Hb1.out hb2);clear hb2)
  |(go_at_call 67;refine(H5.out _).mono ?_;rintro e w4 ⟨rfl,hb4⟩;have Hb4:=hI (qaa Hb3.out hb4);clear hb4)
  |(go_at_call 68;refine(H6.out _).mono ?_;rintro e w5 ⟨rfl,hb5⟩;have Hb5:=hI (qaa Hb4.out hb5);clear hb5))
 go_ret
 exact⟨rfl,Hb5.out⟩
set_option maxRecDepth 100000 in
theorem qjp(l t b p:List UInt8)(dv:Bool)(w:World)(hl:l.length≤5000)(hT:topL l=t)(hB:denT l=b)(hD:divB l=dv)(hP:absL t=p)(hneg:negB t=true)(h1:digB p=true)(h2:digB b=true)(h3:zerB b=false)(hL:1<p.length)(hp0:p.head?≠some 48)(hm:(t==[45,48])=false)(hb:b.head?≠some 48)(h6:badI p true=false)(h7:dv=true)(h8:(b==[49])=false)(h9:Nat.gcd (valD p) (valD b)≠1):Calls Tryz.prog 21 #[.string ⟨l.toArray⟩,.int .i64 65536] w (Ret (.int .i64 3) w):=by
 obtain⟨ht60,hb60,hp60,H1,H3,H4,H5,H6,hls,hlm,hts,hbs,hps⟩:=pre0 hl hT hB hP;obtain⟨ht,htl,htl1,htz,ht0,htx,htn⟩:=preN hneg hP hts;rw[h1]at H3;rw[h2]at H4;rw[h3]at H5;have hq:(1:Int)<(p.length:Int):=by omega
 have hqz:0<(⟨p.toArray⟩:ByteArray).size:=by omega
 have hq0:=qc0 (show 0<p.length by omega) hp0 hqz;have hm0:((⟨t.toArray⟩:ByteArray).toList==[45,48])=false:=by rw[toL];exact hm
 obtain⟨hbp,hbz⟩:=preZ h2 hbs;have hb0:=qc0 hbp hb hbz;clear hbp
 have hdv:(t.length:Int)<(l.length:Int):=by
  rcases qdu l with⟨-,h,-,-⟩|⟨i,-,hi,-,h,-⟩
  ·rw[hD,h7]at h;cases h
  ·rw[hT]at h;rw[h,List.length_take];omega
 have hb1:((⟨b.toArray⟩:ByteArray).toList==[49])=false:=by rw[toL];exact h8
 have hpv:=qa0 (qak.1 h1).2;have hbv:=qa0 (qak.1 h2).2;have hfp:qa5 (valD p):=qa1 hpv (by omega);have hfb:qa5 (10*valD b):=qa1 (k:=b.length+1) (by rw[Nat.pow_succ];omega) (by omega)
 have et:txtN (decide (sgn true (valD p)<0)) (valD p)=t:=by
  have h:=qb2 (t:=t) (by rw[hP];exact h1) (by rw[hP,hneg];exact h6);rw[hP,hneg]at h;unfold txtZ at h;rw[qbg]at h;exact h.symm
 have eb:txtN false (valD b)=b:=(qbs h2 hb).symm;have H7:=hI (fun w'=>qc9 (decide (sgn true (valD p)<0)) false (valD p) (valD b) w' hfp hfb);rw[et,eb]at H7;clear hpv hbv hfp hfb et eb;have hg:=qiq h9;have hg2:((⟨(txtN false (Nat.gcd (valD p) (valD b))).toArray⟩:ByteArray).toList !=[49])=true:=by rw[bne,hg];rfl
 generalize(⟨(txtN false (Nat.gcd (valD p) (valD b))).toArray⟩:ByteArray)=GG at*;clear hT hB hP hl ht60 hb60 hp60;clear ht;generalize(⟨l.toArray⟩:ByteArray)=L at*;generalize(⟨t.toArray⟩:ByteArray)=T at*;generalize(⟨p.toArray⟩:ByteArray)=P at*;generalize(⟨b.toArray⟩:ByteArray)=B at*;generalize l.length=nl at*;generalize t.length=nt at*;generalize p.length=np at*;generalize b.length=nb at*
 go_enter Tryz.func21,Tryz.ntmps21
 go_wp2_with (first
  |(go_at_call 65;refine(H1.out _).mono ?_;rintro e w1 ⟨rfl,hb1⟩;have Hb1:=hI hb1;clear hb1)
  |(have _t:=Hb2;clear _t;go_at_call 66;refine(H4.out _).mono ?_;rintro e w3 ⟨rfl,hb3⟩;have Hb3:=hI (qaa Hb2.out hb3);clear hb3)
  |(go_at_call 66;refine(H3.out _).mono ?_;rintro e w2 ⟨rfl,hb2⟩;have Hb2:=hI (qaa Hb1.out hb2);clear hb2)
  |(go_at_call 67;refine(H5.out _).mono ?_;rintro e w4 ⟨rfl,hb4⟩;have Hb4:=hI (qaa Hb3.out hb4);clear hb4)
  |(go_at_call 68;refine(H6.out _).mono ?_;rintro e w5 ⟨rfl,hb5⟩;have Hb5:=hI (qaa Hb4.out hb5);clear hb5)
  |(go_at_call 69;refine(H7.out _).mono ?_;rintro e w6 ⟨rfl,hb6⟩;have Hb6:=hI (qaa Hb5.out hb6);clear hb6))
 go_ret
 exact⟨rfl,Hb6.out⟩
set_option maxRecDepth 100000 in
theorem qib(l t b p:List UInt8)(dv:Bool)(w:World)(hl:l.length≤5000)(hT:topL l=t)(hB:denT l=b)(hD:divB l=dv)(hP:absL t=p)(hneg:negB t=true)(h1:digB p=true)(h2:digB b=true)(h3:zerB b=false)(hL:1<p.length)(hp0:p.head?≠some 48)(hm:(t==[45,48])=false)(hb:b.head?≠some 48)(h6:badI p true=false)(h7:dv=true)(h8:(b==[49])=false)(h9:Nat.gcd (valD p) (valD b)=1):Calls Tryz.prog 21 #[.string ⟨l.toArray⟩,.int .i64 65536] w (Ret (.int .i64 0) w):=by
 obtain⟨ht60,hb60,hp60,H1,H3,H4,H5,H6,hls,hlm,hts,hbs,hps⟩:=pre0 hl hT hB hP;obtain⟨ht,htl,htl1,htz,ht0,htx,htn⟩:=preN hneg hP hts;rw[h1]at H3;rw[h2]at H4;rw[h3]at H5;have hq:(1:Int)<(p.length:Int):=by omega
 have hqz:0<(⟨p.toArray⟩:ByteArray).size:=by omega
 have hq0:=qc0 (show 0<p.length by omega) hp0 hqz;have hm0:((⟨t.toArray⟩:ByteArray).toList==[45,48])=false:=by rw[toL];exact hm
 obtain⟨hbp,hbz⟩:=preZ h2 hbs;have hb0:=qc0 hbp hb hbz;clear hbp
 have hdv:(t.length:Int)<(l.length:Int):=by
  rcases qdu l with⟨-,h,-,-⟩|⟨i,-,hi,-,h,-⟩
  ·rw[hD,h7]at h;cases h
  ·rw[hT]at h;rw[h,List.length_take];omega
 have hb1:((⟨b.toArray⟩:ByteArray).toList==[49])=false:=by rw[toL];exact h8
 have hpv:=qa0 (qak.1 h1).2;have hbv:=qa0 (qak.1 h2).2;have hfp:qa5 (valD p):=qa1 hpv (by omega);have hfb:qa5 (10*valD b):=qa1 (k:=b.length+1) (by rw[Nat.pow_succ];omega) (by omega)
 have et:txtN (decide (sgn true (valD p)<0)) (valD p)=t:=by
  have h:=qb2 (t:=t) (by rw[hP];exact h1) (by rw[hP,hneg];exact h6);rw[hP,hneg]at h;unfold txtZ at h;rw[qbg]at h;exact h.symm
 have eb:txtN false (valD b)=b:=(qbs h2 hb).symm;have H7:=hI (fun w'=>qc9 (decide (sgn true (valD p)<0)) false (valD p) (valD b) w' hfp hfb);rw[et,eb]at H7;clear hpv hbv hfp hfb et eb;rw[h9,qd9]at H7;clear hT hB hP hl ht60 hb60 hp60;clear ht;generalize(⟨l.toArray⟩:ByteArray)=L at*;generalize(⟨t.toArray⟩:ByteArray)=T at*;generalize(⟨p.toArray⟩:ByteArray)=P at*;generalize(⟨b.toArray⟩:ByteArray)=B at*;generalize l.length=nl at*;generalize t.length=nt at*;generalize p.length=np at*;generalize b.length=nb at*
 go_enter Tryz.func21,Tryz.ntmps21
 go_wp2_with (first
  |(go_at_call 65;refine(H1.out _).mono ?_;rintro e w1 ⟨rfl,hb1⟩;have Hb1:=hI hb1;clear hb1)
  |(have _t:=Hb2;clear _t;go_at_call 66;refine(H4.out _).mono ?_;rintro e w3 ⟨rfl,hb3⟩;have Hb3:=hI (qaa Hb2.out hb3);clear hb3)
  |(go_at_call 66;refine(H3.out _).mono ?_;rintro e w2 ⟨rfl,hb2⟩;have Hb2:=hI (qaa Hb1.out hb2);clear hb2)
  |(go_at_call 67;refine(H5.out _).mono ?_;rintro e w4 ⟨rfl,hb4⟩;have Hb4:=hI (qaa Hb3.out hb4);clear hb4)
  |(go_at_call 68;refine(H6.out _).mono ?_;rintro e w5 ⟨rfl,hb5⟩;have Hb5:=hI (qaa Hb4.out hb5);clear hb5)
  |(go_at_call 69;refine(H7.out _).mono ?_;rintro e w6 ⟨rfl,hb6⟩;have Hb6:=hI (qaa Hb5.out hb6);clear hb6))
 go_ret
 exact⟨rfl,Hb6.out⟩
set_option maxRecDepth 100000 in
theorem qh9(l t b p:List UInt8)(dv:Bool)(w:World)(hl:l.length≤5000)(hT:topL l=t)(hB:denT l=b)(_hD:divB l=dv)(hP:absL t=p)(hneg:negB t=true)(h1:digB p=true)(h2:digB b=true)(h3:zerB b=false)(hL:¬1<p.length)(hm:(t==[45,48])=false)(hb:b.head?=some 48):Calls Tryz.prog 21 #[.string ⟨l.toArray⟩,.int .i64 65536] w (Ret (.int .i64 3) w):=by
 obtain⟨ht60,hb60,hp60,H1,H3,H4,H5,H6,hls,hlm,hts,hbs,hps⟩:=pre0 hl hT hB hP;obtain⟨ht,htl,htl1,htz,ht0,htx,htn⟩:=preN hneg hP hts;rw[h1]at H3;rw[h2]at H4;rw[h3]at H5;have hq:¬(1:Int)<(p.length:Int):=by omega
 have hm0:((⟨t.toArray⟩:ByteArray).toList==[45,48])=false:=by rw[toL];exact hm
 obtain⟨hbp,hbz⟩:=preZ h2 hbs;have hb0:=qff (v:=48) (c:=48) (show b[0]?=some 48 by rw[←List.head?_eq_getElem?];exact hb) rfl hbz;clear hbp;clear hT hB hP hl ht60 hb60 hp60;clear ht;generalize(⟨l.toArray⟩:ByteArray)=L at*;generalize(⟨t.toArray⟩:ByteArray)=T at*;generalize(⟨p.toArray⟩:ByteArray)=P at*;generalize(⟨b.toArray⟩:ByteArray)=B at*;generalize l.length=nl at*;generalize t.length=nt at*;generalize p.length=np at*;generalize b.length=nb at*
 go_enter Tryz.func21,Tryz.ntmps21
 go_wp2_with (first
  |(go_at_call 65;refine(H1.out _).mono ?_;rintro e w1 ⟨rfl,hb1⟩;have Hb1:=hI hb1;clear hb1)
  |(have _t:=Hb2;clear _t;go_at_call 66;refine(H4.out _).mono ?_;rintro e w3 ⟨rfl,hb3⟩;have Hb3:=hI (qaa Hb2.out hb3);clear hb3)
  |(go_at_call 66;refine(H3.out _).mono ?_;rintro e w2 ⟨rfl,hb2⟩;have Hb2:=hI (qaa Hb1.out hb2);clear hb2)
  |(go_at_call 67;refine(H5.out _).mono ?_;rintro e w4 ⟨rfl,hb4⟩;have Hb4:=hI (qaa Hb3.out hb4);clear hb4))
 go_ret
 exact⟨rfl,Hb4.out⟩
set_option maxRecDepth 100000 in
theorem qh7(l t b p:List UInt8)(dv:Bool)(w:World)(hl:l.length≤5000)(hT:topL l=t)(hB:denT l=b)(hD:divB l=dv)(hP:absL t=p)(hneg:negB t=true)(h1:digB p=true)(h2:digB b=true)(h3:zerB b=false)(hL:¬1<p.length)(hm:(t==[45,48])=false)(hb:b.head?≠some 48)(h7:dv=false):Calls Tryz.prog 21 #[.string ⟨l.toArray⟩,.int .i64 65536] w (Ret (.int .i64 0) w):=by
 obtain⟨ht60,hb60,hp60,H1,H3,H4,H5,H6,hls,hlm,hts,hbs,hps⟩:=pre0 hl hT hB hP;obtain⟨ht,htl,htl1,htz,ht0,htx,htn⟩:=preN hneg hP hts;rw[h1]at H3;rw[h2]at H4;rw[h3]at H5;have hq:¬(1:Int)<(p.length:Int):=by omega
 have hm0:((⟨t.toArray⟩:ByteArray).toList==[45,48])=false:=by rw[toL];exact hm
 obtain⟨hbp,hbz⟩:=preZ h2 hbs;have hb0:=qc0 hbp hb hbz;clear hbp
 have hdv:¬(t.length:Int)<(l.length:Int):=by
  rcases qdu l with⟨-,-,h,-⟩|⟨i,-,-,h,-,-⟩
  ·rw[hT]at h;rw[h];omega
  ·rw[hD,h7]at h;cases h
 clear hT hB hP hl ht60 hb60 hp60;clear ht;generalize(⟨l.toArray⟩:ByteArray)=L at*;generalize(⟨t.toArray⟩:ByteArray)=T at*;generalize(⟨p.toArray⟩:ByteArray)=P at*;generalize(⟨b.toArray⟩:ByteArray)=B at*;generalize l.length=nl at*;generalize t.length=nt at*;generalize p.length=np at*;generalize b.length=nb at*
 go_enter Tryz.func21,Tryz.ntmps21
 go_wp2_with (first
  |(go_at_call 65;refine(H1.out _).mono ?_;rintro e w1 ⟨rfl,hb1⟩;have Hb1:=hI hb1;clear hb1)
  |(have _t:=Hb2;clear _t;go_at_call 66;refine(H4.out _).mono ?_;rintro e w3 ⟨rfl,hb3⟩;have Hb3:=hI (qaa Hb2.out hb3);clear hb3)
  |(go_at_call 66;refine(H3.out _).mono ?_;rintro e w2 ⟨rfl,hb2⟩;have Hb2:=hI (qaa Hb1.out hb2);clear hb2)
  |(go_at_call 67;refine(H5.out _).mono ?_;rintro e w4 ⟨rfl,hb4⟩;have Hb4:=hI (qaa Hb3.out hb4);clear hb4)
  |(go_at_call 68;refine(H6.out _).mono ?_;rintro e w5 ⟨rfl,hb5⟩;have Hb5:=hI (qaa Hb4.out hb5);clear hb5))
 go_ret
 exact⟨rfl,Hb5.out⟩
set_option maxRecDepth 100000 in
theorem qh5(l t b p:List UInt8)(dv:Bool)(w:World)(hl:l.length≤5000)(hT:topL l=t)(hB:denT l=b)(hD:divB l=dv)(hP:absL t=p)(hneg:negB t=true)(h1:digB p=true)(h2:digB b=true)(h3:zerB b=false)(hL:¬1<p.length)(hm:(t==[45,48])=false)(hb:b.head?≠some 48)(h7:dv=true)(h8:(b==[49])=true):Calls Tryz.prog 21 #[.string ⟨l.toArray⟩,.int .i64 65536] w (Ret (.int .i64 3) w):=by
 obtain⟨ht60,hb60,hp60,H1,H3,H4,H5,H6,hls,hlm,hts,hbs,hps⟩:=pre0 hl hT hB hP;obtain⟨ht,htl,htl1,htz,ht0,htx,htn⟩:=preN hneg hP hts;rw[h1]at H3;rw[h2]at H4;rw[h3]at H5;have hq:¬(1:Int)<(p.length:Int):=by omega
 have hm0:((⟨t.toArray⟩:ByteArray).toList==[45,48])=false:=by rw[toL];exact hm
 obtain⟨hbp,hbz⟩:=preZ h2 hbs;have hb0:=qc0 hbp hb hbz;clear hbp
 have hdv:(t.length:Int)<(l.length:Int):=by
  rcases qdu l with⟨-,h,-,-⟩|⟨i,-,hi,-,h,-⟩
  ·rw[hD,h7]at h;cases h
  ·rw[hT]at h;rw[h,List.length_take];omega
 have hb1:((⟨b.toArray⟩:ByteArray).toList==[49])=true:=by rw[toL];exact h8
 clear hT hB hP hl ht60 hb60 hp60;clear ht;generalize(⟨l.toArray⟩:ByteArray)=L at*;generalize(⟨t.toArray⟩:ByteArray)=T at*;generalize(⟨p.toArray⟩:ByteArray)=P at*;generalize(⟨b.toArray⟩:ByteArray)=B at*;generalize l.length=nl at*;generalize t.length=nt at*;generalize p.length=np at*;generalize b.length=nb at*
 go_enter Tryz.func21,Tryz.ntmps21
 go_wp2_with (first
  |(go_at_call 65;refine(H1.out _).mono ?_;rintro e w1 ⟨rfl,hb1⟩;have Hb1:=hI hb1;clear hb1)
  |(have _t:=Hb2;clear _t;go_at_call 66;refine(H4.out _).mono ?_;rintro e w3 ⟨rfl,hb3⟩;have Hb3:=hI (qaa Hb2.out hb3);clear hb3)
  |(go_at_call 66;refine(H3.out _).mono ?_;rintro e w2 ⟨rfl,hb2⟩;have Hb2:=hI (qaa Hb1.out hb2);clear hb2)
  |(go_at_call 67;refine(H5.out _).mono ?_;rintro e w4 ⟨rfl,hb4⟩;have Hb4:=hI (qaa Hb3.out hb4);clear hb4)
  |(go_at_call 68;refine(H6.out _).mono ?_;rintro e w5 ⟨rfl,hb5⟩;have Hb5:=hI (qaa Hb4.out hb5);clear hb5))
 go_ret
 exact⟨rfl,Hb5.out⟩
set_option maxRecDepth 100000 in
theorem qh3(l t b p:List UInt8)(dv:Bool)(w:World)(hl:l.length≤5000)(hT:topL l=t)(hB:denT l=b)(hD:divB l=dv)(hP:absL t=p)(hneg:negB t=true)(h1:digB p=true)(h2:digB b=true)(h3:zerB b=false)(hL:¬1<p.length)(hm:(t==[45,48])=false)(hb:b.head?≠some 48)(h6:badI p true=false)(h7:dv=true)(h8:(b==[49])=false)(h9:Nat.gcd (valD p) (valD b)≠1):Calls Tryz.prog 21 #[.string ⟨l.toArray⟩,.int .i64 65536] w (Ret (.int .i64 3) w):=by
 obtain⟨ht60,hb60,hp60,H1,H3,H4,H5,H6,hls,hlm,hts,hbs,hps⟩:=pre0 hl hT hB hP;obtain⟨ht,htl,htl1,htz,ht0,htx,htn⟩:=preN hneg hP hts;rw[h1]at H3;rw[h2]at H4;rw[h3]at H5;have hq:¬(1:Int)<(p.length:Int):=by omega
 have hm0:((⟨t.toArray⟩:ByteArray).toList==[45,48])=false:=by rw[toL];exact hm
 obtain⟨hbp,hbz⟩:=preZ h2 hbs;have hb0:=qc0 hbp hb hbz;clear hbp
 have hdv:(t.length:Int)<(l.length:Int):=by
  rcases qdu l with⟨-,h,-,-⟩|⟨i,-,hi,-,h,-⟩
  ·rw[hD,h7]at h;cases h
  ·rw[hT]at h;rw[h,List.length_take];omega
 have hb1:((⟨b.toArray⟩:ByteArray).toList==[49])=false:=by rw[toL];exact h8
 have hpv:=qa0 (qak.1 h1).2;have hbv:=qa0 (qak.1 h2).2;have hfp:qa5 (valD p):=qa1 hpv (by omega);have hfb:qa5 (10*valD b):=qa1 (k:=b.length+1) (by rw[Nat.pow_succ];omega) (by omega)
 have et:txtN (decide (sgn true (valD p)<0)) (valD p)=t:=by
  have h:=qb2 (t:=t) (by rw[hP];exact h1) (by rw[hP,hneg];exact h6);rw[hP,hneg]at h;unfold txtZ at h;rw[qbg]at h;exact h.symm
 have eb:txtN false (valD b)=b:=(qbs h2 hb).symm;have H7:=hI (fun w'=>qc9 (decide (sgn true (valD p)<0)) false (valD p) (valD b) w' hfp hfb);rw[et,eb]at H7;clear hpv hbv hfp hfb et eb;have hg:=qiq h9;have hg2:((⟨(txtN false (Nat.gcd (valD p) (valD b))).toArray⟩:ByteArray).toList !=[49])=true:=by rw[bne,hg];rfl
 generalize(⟨(txtN false (Nat.gcd (valD p) (valD b))).toArray⟩:ByteArray)=GG at*;clear hT hB hP hl ht60 hb60 hp60;clear ht;generalize(⟨l.toArray⟩:ByteArray)=L at*;generalize(⟨t.toArray⟩:ByteArray)=T at*;generalize(⟨p.toArray⟩:ByteArray)=P at*;generalize(⟨b.toArray⟩:ByteArray)=B at*;generalize l.length=nl at*;generalize t.length=nt at*;generalize p.length=np at*;generalize b.length=nb at*
 go_enter Tryz.func21,Tryz.ntmps21
 go_wp2_with (first
  |(go_at_call 65;refine(H1.out _).mono ?_;rintro e w1 ⟨rfl,hb1⟩;have Hb1:=hI hb1;clear hb1)
  |(have _t:=Hb2;clear _t;go_at_call 66;refine(H4.out _).mono ?_;rintro e w3 ⟨rfl,hb3⟩;have Hb3:=hI (qaa Hb2.out hb3);clear hb3)
  |(go_at_call 66;refine(H3.out _).mono ?_;rintro e w2 ⟨rfl,hb2⟩;have Hb2:=hI (qaa Hb1.out hb2);clear hb2)
  |(go_at_call 67;refine(H5.out _).mono ?_;rintro e w4 ⟨rfl,hb4⟩;have Hb4:=hI (qaa Hb3.out hb4);clear hb4)
  |(go_at_call 68;refine(H6.out _).mono ?_;rintro e w5 ⟨rfl,hb5⟩;have Hb5:=hI (qaa Hb4.out hb5);clear hb5)
  |(go_at_call 69;refine(H7.out _).mono ?_;rintro e w6 ⟨rfl,hb6⟩;have Hb6:=hI (qaa Hb5.out hb6);clear hb6))
 go_ret
 exact⟨rfl,Hb6.out⟩
set_option maxRecDepth 100000 in
theorem qhu(l t b p:List UInt8)(dv:Bool)(w:World)(hl:l.length≤5000)(hT:topL l=t)(hB:denT l=b)(hD:divB l=dv)(hP:absL t=p)(hneg:negB t=true)(h1:digB p=true)(h2:digB b=true)(h3:zerB b=false)(hL:¬1<p.length)(hm:(t==[45,48])=false)(hb:b.head?≠some 48)(h6:badI p true=false)(h7:dv=true)(h8:(b==[49])=false)(h9:Nat.gcd (valD p) (valD b)=1):Calls Tryz.prog 21 #[.string ⟨l.toArray⟩,.int .i64 65536] w (Ret (.int .i64 0) w):=by
 obtain⟨ht60,hb60,hp60,H1,H3,H4,H5,H6,hls,hlm,hts,hbs,hps⟩:=pre0 hl hT hB hP;obtain⟨ht,htl,htl1,htz,ht0,htx,htn⟩:=preN hneg hP hts;rw[h1]at H3;rw[h2]at H4;rw[h3]at H5;have hq:¬(1:Int)<(p.length:Int):=by omega
 have hm0:((⟨t.toArray⟩:ByteArray).toList==[45,48])=false:=by rw[toL];exact hm
 obtain⟨hbp,hbz⟩:=preZ h2 hbs;have hb0:=qc0 hbp hb hbz;clear hbp
 have hdv:(t.length:Int)<(l.length:Int):=by
  rcases qdu l with⟨-,h,-,-⟩|⟨i,-,hi,-,h,-⟩
  ·rw[hD,h7]at h;cases h
  ·rw[hT]at h;rw[h,List.length_take];omega
 have hb1:((⟨b.toArray⟩:ByteArray).toList==[49])=false:=by rw[toL];exact h8
 have hpv:=qa0 (qak.1 h1).2;have hbv:=qa0 (qak.1 h2).2;have hfp:qa5 (valD p):=qa1 hpv (by omega);have hfb:qa5 (10*valD b):=qa1 (k:=b.length+1) (by rw[Nat.pow_succ];omega) (by omega)
 have et:txtN (decide (sgn true (valD p)<0)) (valD p)=t:=by
  have h:=qb2 (t:=t) (by rw[hP];exact h1) (by rw[hP,hneg];exact h6);rw[hP,hneg]at h;unfold txtZ at h;rw[qbg]at h;exact h.symm
 have eb:txtN false (valD b)=b:=(qbs h2 hb).symm;have H7:=hI (fun w'=>qc9 (decide (sgn true (valD p)<0)) false (valD p) (valD b) w' hfp hfb);rw[et,eb]at H7;clear hpv hbv hfp hfb et eb;rw[h9,qd9]at H7;clear hT hB hP hl ht60 hb60 hp60;clear ht;generalize(⟨l.toArray⟩:ByteArray)=L at*;generalize(⟨t.toArray⟩:ByteArray)=T at*;generalize(⟨p.toArray⟩:ByteArray)=P at*;generalize(⟨b.toArray⟩:ByteArray)=B at*;generalize l.length=nl at*;generalize t.length=nt at*;generalize p.length=np at*;generalize b.length=nb at*
 go_enter Tryz.func21,Tryz.ntmps21
 go_wp2_with (first
  |(go_at_call 65;refine(H1.out _).mono ?_;rintro e w1 ⟨rfl,hb1⟩;have Hb1:=hI hb1;clear hb1)
  |(have _t:=Hb2;clear _t;go_at_call 66;refine(H4.out _).mono ?_;rintro e w3 ⟨rfl,hb3⟩;have Hb3:=hI (qaa Hb2.out hb3);clear hb3)
  |(go_at_call 66;refine(H3.out _).mono ?_;rintro e w2 ⟨rfl,hb2⟩;have Hb2:=hI (qaa Hb1.out hb2);clear hb2)
  |(go_at_call 67;refine(H5.out _).mono ?_;rintro e w4 ⟨rfl,hb4⟩;have Hb4:=hI (qaa Hb3.out hb4);clear hb4)
  |(go_at_call 68;refine(H6.out _).mono ?_;rintro e w5 ⟨rfl,hb5⟩;have Hb5:=hI (qaa Hb4.out hb5);clear hb5)
  |(go_at_call 69;refine(H7.out _).mono ?_;rintro e w6 ⟨rfl,hb6⟩;have Hb6:=hI (qaa Hb5.out hb6);clear hb6))
 go_ret
 exact⟨rfl,Hb6.out⟩
set_option maxRecDepth 100000 in
theorem qti(l t b p:List UInt8)(dv:Bool)(w:World)(hl:l.length≤5000)(hT:topL l=t)(hB:denT l=b)(_hD:divB l=dv)(hP:absL t=p)(hneg:negB t=false)(hne:t≠[])(h1:digB p=true)(h2:digB b=true)(h3:zerB b=false)(hL:1<p.length)(hp0:p.head?=some 48):Calls Tryz.prog 21 #[.string ⟨l.toArray⟩,.int .i64 65536] w (Ret (.int .i64 3) w):=by
 obtain⟨ht60,hb60,hp60,H1,H3,H4,H5,H6,hls,hlm,hts,hbs,hps⟩:=pre0 hl hT hB hP;have ht:t=p:=by have h:=qbu t;rw[hneg,if_neg (by decide),hP]at h;exact h
 subst ht;obtain⟨hpos,htl,htz,ht0⟩:=preP hneg hne hts;rw[h1]at H3;rw[h2]at H4;rw[h3]at H5;have hq:(1:Int)<(t.length:Int):=by omega
 have hqz:0<(⟨t.toArray⟩:ByteArray).size:=by omega
 have hq0:=qff (v:=48) (c:=48) (show t[0]?=some 48 by rw[←List.head?_eq_getElem?];exact hp0) rfl hqz;clear hp0;clear hT hB hP hl ht60 hb60 hp60;generalize(⟨l.toArray⟩:ByteArray)=L at*;generalize(⟨t.toArray⟩:ByteArray)=T at*;generalize(⟨b.toArray⟩:ByteArray)=B at*;generalize l.length=nl at*;generalize t.length=nt at*;generalize b.length=nb at*
 go_enter Tryz.func21,Tryz.ntmps21
 go_wp2_with (first
  |(go_at_call 65;refine(H1.out _).mono ?_;rintro e w1 ⟨rfl,hb1⟩;have Hb1:=hI hb1;clear hb1)
  |(have _t:=Hb2;clear _t;go_at_call 66;refine(H4.out _).mono ?_;rintro e w3 ⟨rfl,hb3⟩;have Hb3:=hI (qaa Hb2.out hb3);clear hb3)
  |(go_at_call 66;refine(H3.out _).mono ?_;rintro e w2 ⟨rfl,hb2⟩;have Hb2:=hI (qaa Hb1.out hb2);clear hb2)
  |(go_at_call 67;refine(H5.out _).mono ?_;rintro e w4 ⟨rfl,hb4⟩;have Hb4:=hI (qaa Hb3.out hb4);clear hb4))
 go_ret
 exact⟨rfl,Hb4.out⟩
set_option maxRecDepth 100000 in
theorem qju(l t b p:List UInt8)(dv:Bool)(w:World)(hl:l.length≤5000)(hT:topL l=t)(hB:denT l=b)(_hD:divB l=dv)(hP:absL t=p)(hneg:negB t=false)(hne:t≠[])(h1:digB p=true)(h2:digB b=true)(h3:zerB b=false)(hL:1<p.length)(hp0:p.head?≠some 48)(hm:(t==[45,48])=false)(hb:b.head?=some 48):Calls Tryz.prog 21 #[.string ⟨l.toArray⟩,.int .i64 65536] w (Ret (.int .i64 3) w):=by
 obtain⟨ht60,hb60,hp60,H1,H3,H4,H5,H6,hls,hlm,hts,hbs,hps⟩:=pre0 hl hT hB hP;have ht:t=p:=by have h:=qbu t;rw[hneg,if_neg (by decide),hP]at h;exact h
 subst ht;obtain⟨hpos,htl,htz,ht0⟩:=preP hneg hne hts;rw[h1]at H3;rw[h2]at H4;rw[h3]at H5;have hq:(1:Int)<(t.length:Int):=by omega
 have hqz:0<(⟨t.toArray⟩:ByteArray).size:=by omega
 have hq0:=qc0 (show 0<t.length by omega) hp0 hqz;have hm0:((⟨t.toArray⟩:ByteArray).toList==[45,48])=false:=by rw[toL];exact hm
 obtain⟨hbp,hbz⟩:=preZ h2 hbs;have hb0:=qff (v:=48) (c:=48) (show b[0]?=some 48 by rw[←List.head?_eq_getElem?];exact hb) rfl hbz;clear hbp;clear hT hB hP hl ht60 hb60 hp60;generalize(⟨l.toArray⟩:ByteArray)=L at*;generalize(⟨t.toArray⟩:ByteArray)=T at*;generalize(⟨b.toArray⟩:ByteArray)=B at*;generalize l.length=nl at*;generalize t.length=nt at*;generalize b.length=nb at*
 go_enter Tryz.func21,Tryz.ntmps21
 go_wp2_with (first
  |(go_at_call 65;refine(H1.out _).mono ?_;rintro e w1 ⟨rfl,hb1⟩;have Hb1:=hI hb1;clear hb1)
  |(have _t:=Hb2;clear _t;go_at_call 66;refine(H4.out _).mono ?_;rintro e w3 ⟨rfl,hb3⟩;have Hb3:=hI (qaa Hb2.out hb3);clear hb3)
  |(go_at_call 66;refine(H3.out _).mono ?_;rintro e w2 ⟨rfl,hb2⟩;have Hb2:=hI (qaa Hb1.out hb2);clear hb2)
  |(go_at_call 67;refine(H5.out _).mono ?_;rintro e w4 ⟨rfl,hb4⟩;have Hb4:=hI (qaa Hb3.out hb4);clear hb4))
 go_ret
 exact⟨rfl,Hb4.out⟩
set_option maxRecDepth 100000 in
theorem qjs(l t b p:List UInt8)(dv:Bool)(w:World)(hl:l.length≤5000)(hT:topL l=t)(hB:denT l=b)(hD:divB l=dv)(hP:absL t=p)(hneg:negB t=false)(hne:t≠[])(h1:digB p=true)(h2:digB b=true)(h3:zerB b=false)(hL:1<p.length)(hp0:p.head?≠some 48)(hm:(t==[45,48])=false)(hb:b.head?≠some 48)(h7:dv=false):Calls Tryz.prog 21 #[.string ⟨l.toArray⟩,.int .i64 65536] w (Ret (.int .i64 0) w):=by
 obtain⟨ht60,hb60,hp60,H1,H3,H4,H5,H6,hls,hlm,hts,hbs,hps⟩:=pre0 hl hT hB hP;have ht:t=p:=by have h:=qbu t;rw[hneg,if_neg (by decide),hP]at h;exact h
 subst ht;obtain⟨hpos,htl,htz,ht0⟩:=preP hneg hne hts;rw[h1]at H3;rw[h2]at H4;rw[h3]at H5;have hq:(1:Int)<(t.length:Int):=by omega
 have hqz:0<(⟨t.toArray⟩:ByteArray).size:=by omega
 have hq0:=qc0 (show 0<t.length by omega) hp0 hqz;have hm0:((⟨t.toArray⟩:ByteArray).toList==[45,48])=false:=by rw[toL];exact hm
 obtain⟨hbp,hbz⟩:=preZ h2 hbs;have hb0:=qc0 hbp hb hbz;clear hbp
 have hdv:¬(t.length:Int)<(l.length:Int):=by
  rcases qdu l with⟨-,-,h,-⟩|⟨i,-,-,h,-,-⟩
  ·rw[hT]at h;rw[h];omega
  ·rw[hD,h7]at h;cases h
 clear hT hB hP hl ht60 hb60 hp60;generalize(⟨l.toArray⟩:ByteArray)=L at*;generalize(⟨t.toArray⟩:ByteArray)=T at*;generalize(⟨b.toArray⟩:ByteArray)=B at*;generalize l.length=nl at*;generalize t.length=nt at*;generalize b.length=nb at*
 go_enter Tryz.func21,Tryz.ntmps21
 go_wp2_with (first
  |(go_at_call 65;refine(H1.out _).mono ?_;rintro e w1 ⟨rfl,hb1⟩;have Hb1:=hI hb1;clear hb1)
  |(have _t:=Hb2;clear _t;go_at_call 66;refine(H4.out _).mono ?_;rintro e w3 ⟨rfl,hb3⟩;have Hb3:=hI (qaa Hb2.out hb3);clear hb3)
  |(go_at_call 66;refine(H3.out _).mono ?_;rintro e w2 ⟨rfl,hb2⟩;have Hb2:=hI (qaa Hb1.out hb2);clear hb2)
  |(go_at_call 67;refine(H5.out _).mono ?_;rintro e w4 ⟨rfl,hb4⟩;have Hb4:=hI (qaa Hb3.out hb4);clear hb4)
  |(go_at_call 68;refine(H6.out _).mono ?_;rintro e w5 ⟨rfl,hb5⟩;have Hb5:=hI (qaa Hb4.out hb5);clear hb5))
 go_ret
 exact⟨rfl,Hb5.out⟩
set_option maxRecDepth 100000 in
theorem qjq(l t b p:List UInt8)(dv:Bool)(w:World)(hl:l.length≤5000)(hT:topL l=t)(hB:denT l=b)(hD:divB l=dv)(hP:absL t=p)(hneg:negB t=false)(hne:t≠[])(h1:digB p=true)(h2:digB b=true)(h3:zerB b=false)(hL:1<p.length)(hp0:p.head?≠some 48)(hm:(t==[45,48])=false)(hb:b.head?≠some 48)(h7:dv=true)(h8:(b==[49])=true):Calls Tryz.prog 21 #[.string ⟨l.toArray⟩,.int .i64 65536] w (Ret (.int .i64 3) w):=by
 obtain⟨ht60,hb60,hp60,H1,H3,H4,H5,H6,hls,hlm,hts,hbs,hps⟩:=pre0 hl hT hB hP;have ht:t=p:=by have h:=qbu t;rw[hneg,if_neg (by decide),hP]at h;exact h
 subst ht;obtain⟨hpos,htl,htz,ht0⟩:=preP hneg hne hts;rw[h1]at H3;rw[h2]at H4;rw[h3]at H5;have hq:(1:Int)<(t.length:Int):=by omega
 have hqz:0<(⟨t.toArray⟩:ByteArray).size:=by omega
 have hq0:=qc0 (show 0<t.length by omega) hp0 hqz;have hm0:((⟨t.toArray⟩:ByteArray).toList==[45,48])=false:=by rw[toL];exact hm
 obtain⟨hbp,hbz⟩:=preZ h2 hbs;have hb0:=qc0 hbp hb hbz;clear hbp
 have hdv:(t.length:Int)<(l.length:Int):=by
  rcases qdu l with⟨-,h,-,-⟩|⟨i,-,hi,-,h,-⟩
  ·rw[hD,h7]at h;cases h
  ·rw[hT]at h;rw[h,List.length_take];omega
 have hb1:((⟨b.toArray⟩:ByteArray).toList==[49])=true:=by rw[toL];exact h8
 clear hT hB hP hl ht60 hb60 hp60;generalize(⟨l.toArray⟩:ByteArray)=L at*;generalize(⟨t.toArray⟩:ByteArray)=T at*;generalize(⟨b.toArray⟩:ByteArray)=B at*;generalize l.length=nl at*;generalize t.length=nt at*;generalize b.length=nb at*
 go_enter Tryz.func21,Tryz.ntmps21
 go_wp2_with (first
  |(go_at_call 65;refine(H1.out _).mono ?_;rintro e w1 ⟨rfl,hb1⟩;have Hb1:=hI hb1;clear hb1)
  |(have _t:=Hb2;clear _t;go_at_call 66;refine(H4.out _).mono ?_;rintro e w3 ⟨rfl,hb3⟩;have Hb3:=hI (qaa Hb2.out hb3);clear hb3)
  |(go_at_call 66;refine(H3.out _).mono ?_;rintro e w2 ⟨rfl,hb2⟩;have Hb2:=hI (qaa Hb1.out hb2);clear hb2)
  |(go_at_call 67;refine(H5.out _).mono ?_;rintro e w4 ⟨rfl,hb4⟩;have Hb4:=hI (qaa Hb3.out hb4);clear hb4)
  |(go_at_call 68;refine(H6.out _).mono ?_;rintro e w5 ⟨rfl,hb5⟩;have Hb5:=hI (qaa Hb4.out hb5);clear hb5))
 go_ret
 exact⟨rfl,Hb5.out⟩
set_option maxRecDepth 100000 in
theorem qjo(l t b p:List UInt8)(dv:Bool)(w:World)(hl:l.length≤5000)(hT:topL l=t)(hB:denT l=b)(hD:divB l=dv)(hP:absL t=p)(hneg:negB t=false)(hne:t≠[])(h1:digB p=true)(h2:digB b=true)(h3:zerB b=false)(hL:1<p.length)(hp0:p.head?≠some 48)(hm:(t==[45,48])=false)(hb:b.head?≠some 48)(h6:badI p false=false)(h7:dv=true)(h8:(b==[49])=false)(h9:Nat.gcd (valD p) (valD b)≠1):Calls Tryz.prog 21 #[.string ⟨l.toArray⟩,.int .i64 65536] w (Ret (.int .i64 3) w):=by
 obtain⟨ht60,hb60,hp60,H1,H3,H4,H5,H6,hls,hlm,hts,hbs,hps⟩:=pre0 hl hT hB hP;have ht:t=p:=by have h:=qbu t;rw[hneg,if_neg (by decide),hP]at h;exact h
 subst ht;obtain⟨hpos,htl,htz,ht0⟩:=preP hneg hne hts;rw[h1]at H3;rw[h2]at H4;rw[h3]at H5;have hq:(1:Int)<(t.length:Int):=by omega
 have hqz:0<(⟨t.toArray⟩:ByteArray).size:=by omega
 have hq0:=qc0 (show 0<t.length by omega) hp0 hqz;have hm0:((⟨t.toArray⟩:ByteArray).toList==[45,48])=false:=by rw[toL];exact hm
 obtain⟨hbp,hbz⟩:=preZ h2 hbs;have hb0:=qc0 hbp hb hbz;clear hbp
 have hdv:(t.length:Int)<(l.length:Int):=by
  rcases qdu l with⟨-,h,-,-⟩|⟨i,-,hi,-,h,-⟩
  ·rw[hD,h7]at h;cases h
  ·rw[hT]at h;rw[h,List.length_take];omega
 have hb1:((⟨b.toArray⟩:ByteArray).toList==[49])=false:=by rw[toL];exact h8
 have hpv:=qa0 (qak.1 h1).2;have hbv:=qa0 (qak.1 h2).2;have hfp:qa5 (valD t):=qa1 hpv (by omega);have hfb:qa5 (10*valD b):=qa1 (k:=b.length+1) (by rw[Nat.pow_succ];omega) (by omega)
 have et:txtN (decide (sgn false (valD t)<0)) (valD t)=t:=by
  have h:=qb2 (t:=t) (by rw[hP];exact h1) (by rw[hP,hneg];exact h6);rw[hP,hneg]at h;unfold txtZ at h;rw[qbg]at h;exact h.symm
 have eb:txtN false (valD b)=b:=(qbs h2 hb).symm;have H7:=hI (fun w'=>qc9 (decide (sgn false (valD t)<0)) false (valD t) (valD b) w' hfp hfb);rw[et,eb]at H7;clear hpv hbv hfp hfb et eb;have hg:=qiq h9;have hg2:((⟨(txtN false (Nat.gcd (valD t) (valD b))).toArray⟩:ByteArray).toList !=[49])=true:=by rw[bne,hg];rfl
 generalize(⟨(txtN false (Nat.gcd (valD t) (valD b))).toArray⟩:ByteArray)=GG at*;clear hT hB hP hl ht60 hb60 hp60;generalize(⟨l.toArray⟩:ByteArray)=L at*;generalize(⟨t.toArray⟩:ByteArray)=T at*;generalize(⟨b.toArray⟩:ByteArray)=B at*;generalize l.length=nl at*;generalize t.length=nt at*;generalize b.length=nb at*
 go_enter Tryz.func21,Tryz.ntmps21
 go_wp2_with (first
  |(go_at_call 65;refine(H1.out _).mono ?_;rintro e w1 ⟨rfl,hb1⟩;have Hb1:=hI hb1;clear hb1)
  |(have _t:=Hb2;clear _t;go_at_call 66;refine(H4.out _).mono ?_;rintro e w3 ⟨rfl,hb3⟩;have Hb3:=hI (qaa Hb2.out hb3);clear hb3)
  |(go_at_call 66;refine(H3.out _).mono ?_;rintro e w2 ⟨rfl,hb2⟩;have Hb2:=hI (qaa Hb1.out hb2);clear hb2)
  |(go_at_call 67;refine(H5.out _).mono ?_;rintro e w4 ⟨rfl,hb4⟩;have Hb4:=hI (qaa Hb3.out hb4);clear hb4)
  |(go_at_call 68;refine(H6.out _).mono ?_;rintro e w5 ⟨rfl,hb5⟩;have Hb5:=hI (qaa Hb4.out hb5);clear hb5)
  |(go_at_call 69;refine(H7.out _).mono ?_;rintro e w6 ⟨rfl,hb6⟩;have Hb6:=hI (qaa Hb5.out hb6);clear hb6))
 go_ret
 exact⟨rfl,Hb6.out⟩
set_option maxRecDepth 100000 in
theorem qia(l t b p:List UInt8)(dv:Bool)(w:World)(hl:l.length≤5000)(hT:topL l=t)(hB:denT l=b)(hD:divB l=dv)(hP:absL t=p)(hneg:negB t=false)(hne:t≠[])(h1:digB p=true)(h2:digB b=true)(h3:zerB b=false)(hL:1<p.length)(hp0:p.head?≠some 48)(hm:(t==[45,48])=false)(hb:b.head?≠some 48)(h6:badI p false=false)(h7:dv=true)(h8:(b==[49])=false)(h9:Nat.gcd (valD p) (valD b)=1):Calls Tryz.prog 21 #[.string ⟨l.toArray⟩,.int .i64 65536] w (Ret (.int .i64 0) w):=by
 obtain⟨ht60,hb60,hp60,H1,H3,H4,H5,H6,hls,hlm,hts,hbs,hps⟩:=pre0 hl hT hB hP;have ht:t=p:=by have h:=qbu t;rw[hneg,if_neg (by decide),hP]at h;exact h
 subst ht;obtain⟨hpos,htl,htz,ht0⟩:=preP hneg hne hts;rw[h1]at H3;rw[h2]at H4;rw[h3]at H5;have hq:(1:Int)<(t.length:Int):=by omega
 have hqz:0<(⟨t.toArray⟩:ByteArray).size:=by omega
 have hq0:=qc0 (show 0<t.length by omega) hp0 hqz;have hm0:((⟨t.toArray⟩:ByteArray).toList==[45,48])=false:=by rw[toL];exact hm
 obtain⟨hbp,hbz⟩:=preZ h2 hbs;have hb0:=qc0 hbp hb hbz;clear hbp
 have hdv:(t.length:Int)<(l.length:Int):=by
  rcases qdu l with⟨-,h,-,-⟩|⟨i,-,hi,-,h,-⟩
  ·rw[hD,h7]at h;cases h
  ·rw[hT]at h;rw[h,List.length_take];omega
 have hb1:((⟨b.toArray⟩:ByteArray).toList==[49])=false:=by rw[toL];exact h8
 have hpv:=qa0 (qak.1 h1).2;have hbv:=qa0 (qak.1 h2).2;have hfp:qa5 (valD t):=qa1 hpv (by omega);have hfb:qa5 (10*valD b):=qa1 (k:=b.length+1) (by rw[Nat.pow_succ];omega) (by omega)
 have et:txtN (decide (sgn false (valD t)<0)) (valD t)=t:=by
  have h:=qb2 (t:=t) (by rw[hP];exact h1) (by rw[hP,hneg];exact h6);rw[hP,hneg]at h;unfold txtZ at h;rw[qbg]at h;exact h.symm
 have eb:txtN false (valD b)=b:=(qbs h2 hb).symm;have H7:=hI (fun w'=>qc9 (decide (sgn false (valD t)<0)) false (valD t) (valD b) w' hfp hfb);rw[et,eb]at H7;clear hpv hbv hfp hfb et eb;rw[h9,qd9]at H7;clear hT hB hP hl ht60 hb60 hp60;generalize(⟨l.toArray⟩:ByteArray)=L at*;generalize(⟨t.toArray⟩:ByteArray)=T at*;generalize(⟨b.toArray⟩:ByteArray)=B at*;generalize l.length=nl at*;generalize t.length=nt at*;generalize b.length=nb at*
 go_enter Tryz.func21,Tryz.ntmps21
 go_wp2_with (first
  |(go_at_call 65;refine(H1.out _).mono ?_;rintro e w1 ⟨rfl,hb1⟩;have Hb1:=hI hb1;clear hb1)
  |(have _t:=Hb2;clear _t;go_at_call 66;refine(H4.out _).mono ?_;rintro e w3 ⟨rfl,hb3⟩;have Hb3:=hI (qaa Hb2.out hb3);clear hb3)
  |(go_at_call 66;refine(H3.out _).mono ?_;rintro e w2 ⟨rfl,hb2⟩;have Hb2:=hI (qaa Hb1.out hb2);clear hb2)
  |(go_at_call 67;refine(H5.out _).mono ?_;rintro e w4 ⟨rfl,hb4⟩;have Hb4:=hI (qaa Hb3.out hb4);clear hb4)
  |(go_at_call 68;refine(H6.out _).mono ?_;rintro e w5 ⟨rfl,hb5⟩;have Hb5:=hI (qaa Hb4.out hb5);clear hb5)
  |(go_at_call 69;refine(H7.out _).mono ?_;rintro e w6 ⟨rfl,hb6⟩;have Hb6:=hI (qaa Hb5.out hb6);clear hb6))
 go_ret
 exact⟨rfl,Hb6.out⟩
set_option maxRecDepth 100000 in
theorem qh8(l t b p:List UInt8)(dv:Bool)(w:World)(hl:l.length≤5000)(hT:topL l=t)(hB:denT l=b)(_hD:divB l=dv)(hP:absL t=p)(hneg:negB t=false)(hne:t≠[])(h1:digB p=true)(h2:digB b=true)(h3:zerB b=false)(hL:¬1<p.length)(hm:(t==[45,48])=false)(hb:b.head?=some 48):Calls Tryz.prog 21 #[.string ⟨l.toArray⟩,.int .i64 65536] w (Ret (.int .i64 3) w):=by
 obtain⟨ht60,hb60,hp60,H1,H3,H4,H5,H6,hls,hlm,hts,hbs,hps⟩:=pre0 hl hT hB hP;have ht:t=p:=by have h:=qbu t;rw[hneg,if_neg (by decide),hP]at h;exact h
 subst ht;obtain⟨hpos,htl,htz,ht0⟩:=preP hneg hne hts;rw[h1]at H3;rw[h2]at H4;rw[h3]at H5;have hq:¬(1:Int)<(t.length:Int):=by omega
 have hm0:((⟨t.toArray⟩:ByteArray).toList==[45,48])=false:=by rw[toL];exact hm
 obtain⟨hbp,hbz⟩:=preZ h2 hbs;have hb0:=qff (v:=48) (c:=48) (show b[0]?=some 48 by rw[←List.head?_eq_getElem?];exact hb) rfl hbz;clear hbp;clear hT hB hP hl ht60 hb60 hp60;generalize(⟨l.toArray⟩:ByteArray)=L at*;generalize(⟨t.toArray⟩:ByteArray)=T at*;generalize(⟨b.toArray⟩:ByteArray)=B at*;generalize l.length=nl at*;generalize t.length=nt at*;generalize b.length=nb at*
 go_enter Tryz.func21,Tryz.ntmps21
 go_wp2_with (first
  |(go_at_call 65;refine(H1.out _).mono ?_;rintro e w1 ⟨rfl,hb1⟩;have Hb1:=hI hb1;clear hb1)
  |(have _t:=Hb2;clear _t;go_at_call 66;refine(H4.out _).mono ?_;rintro e w3 ⟨rfl,hb3⟩;have Hb3:=hI (qaa Hb2.out hb3);clear hb3)
  |(go_at_call 66;refine(H3.out _).mono ?_;rintro e w2 ⟨rfl,hb2⟩;have Hb2:=hI (qaa Hb1.out hb2);clear hb2)
  |(go_at_call 67;refine(H5.out _).mono ?_;rintro e w4 ⟨rfl,hb4⟩;have Hb4:=hI (qaa Hb3.out hb4);clear hb4))
 go_ret
 exact⟨rfl,Hb4.out⟩
set_option maxRecDepth 100000 in
theorem qh6(l t b p:List UInt8)(dv:Bool)(w:World)(hl:l.length≤5000)(hT:topL l=t)(hB:denT l=b)(hD:divB l=dv)(hP:absL t=p)(hneg:negB t=false)(hne:t≠[])(h1:digB p=true)(h2:digB b=true)(h3:zerB b=false)(hL:¬1<p.length)(hm:(t==[45,48])=false)(hb:b.head?≠some 48)(h7:dv=false):Calls Tryz.prog 21 #[.string ⟨l.toArray⟩,.int .i64 65536] w (Ret (.int .i64 0) w):=by
 obtain⟨ht60,hb60,hp60,H1,H3,H4,H5,H6,hls,hlm,hts,hbs,hps⟩:=pre0 hl hT hB hP;have ht:t=p:=by have h:=qbu t;rw[hneg,if_neg (by decide),hP]at h;exact h
 subst ht;obtain⟨hpos,htl,htz,ht0⟩:=preP hneg hne hts;rw[h1]at H3;rw[h2]at H4;rw[h3]at H5;have hq:¬(1:Int)<(t.length:Int):=by omega
 have hm0:((⟨t.toArray⟩:ByteArray).toList==[45,48])=false:=by rw[toL];exact hm
 obtain⟨hbp,hbz⟩:=preZ h2 hbs;have hb0:=qc0 hbp hb hbz;clear hbp
 have hdv:¬(t.length:Int)<(l.length:Int):=by
  rcases qdu l with⟨-,-,h,-⟩|⟨i,-,-,h,-,-⟩
  ·rw[hT]at h;rw[h];omega
  ·rw[hD,h7]at h;cases h
 clear hT hB hP hl ht60 hb60 hp60;generalize(⟨l.toArray⟩:ByteArray)=L at*;generalize(⟨t.toArray⟩:ByteArray)=T at*;generalize(⟨b.toArray⟩:ByteArray)=B at*;generalize l.length=nl at*;generalize t.length=nt at*;generalize b.length=nb at*
 go_enter Tryz.func21,Tryz.ntmps21
 go_wp2_with (first
  |(go_at_call 65;refine(H1.out _).mono ?_;rintro e w1 ⟨rfl,hb1⟩;have Hb1:=hI hb1;clear hb1)
  |(have _t:=Hb2;clear _t;go_at_call 66;refine(H4.out _).mono ?_;rintro e w3 ⟨rfl,hb3⟩;have Hb3:=hI (qaa Hb2.out hb3);clear hb3)
  |(go_at_call 66;refine(H3.out _).mono ?_;rintro e w2 ⟨rfl,hb2⟩;have Hb2:=hI (qaa Hb1.out hb2);clear hb2)
  |(go_at_call 67;refine(H5.out _).mono ?_;rintro e w4 ⟨rfl,hb4⟩;have Hb4:=hI (qaa Hb3.out hb4);clear hb4)
  |(go_at_call 68;refine(H6.out _).mono ?_;rintro e w5 ⟨rfl,hb5⟩;have Hb5:=hI (qaa Hb4.out hb5);clear hb5))
 go_ret
 exact⟨rfl,Hb5.out⟩
set_option maxRecDepth 100000 in
theorem qh4(l t b p:List UInt8)(dv:Bool)(w:World)(hl:l.length≤5000)(hT:topL l=t)(hB:denT l=b)(hD:divB l=dv)(hP:absL t=p)(hneg:negB t=false)(hne:t≠[])(h1:digB p=true)(h2:digB b=true)(h3:zerB b=false)(hL:¬1<p.length)(hm:(t==[45,48])=false)(hb:b.head?≠some 48)(h7:dv=true)(h8:(b==[49])=true):Calls Tryz.prog 21 #[.string ⟨l.toArray⟩,.int .i64 65536] w (Ret (.int .i64 3) w):=by
 obtain⟨ht60,hb60,hp60,H1,H3,H4,H5,H6,hls,hlm,hts,hbs,hps⟩:=pre0 hl hT hB hP;have ht:t=p:=by have h:=qbu t;rw[hneg,if_neg (by decide),hP]at h;exact h
 subst ht;obtain⟨hpos,htl,htz,ht0⟩:=preP hneg hne hts;rw[h1]at H3;rw[h2]at H4;rw[h3]at H5;have hq:¬(1:Int)<(t.length:Int):=by omega
 have hm0:((⟨t.toArray⟩:ByteArray).toList==[45,48])=false:=by rw[toL];exact hm
 obtain⟨hbp,hbz⟩:=preZ h2 hbs;have hb0:=qc0 hbp hb hbz;clear hbp
 have hdv:(t.length:Int)<(l.length:Int):=by
  rcases qdu l with⟨-,h,-,-⟩|⟨i,-,hi,-,h,-⟩
  ·rw[hD,h7]at h;cases h
  ·rw[hT]at h;rw[h,List.length_take];omega
 have hb1:((⟨b.toArray⟩:ByteArray).toList==[49])=true:=by rw[toL];exact h8
 clear hT hB hP hl ht60 hb60 hp60;generalize(⟨l.toArray⟩:ByteArray)=L at*;generalize(⟨t.toArray⟩:ByteArray)=T at*;generalize(⟨b.toArray⟩:ByteArray)=B at*;generalize l.length=nl at*;generalize t.length=nt at*;generalize b.length=nb at*
 go_enter Tryz.func21,Tryz.ntmps21
 go_wp2_with (first
  |(go_at_call 65;refine(H1.out _).mono ?_;rintro e w1 ⟨rfl,hb1⟩;have Hb1:=hI hb1;clear hb1)
  |(have _t:=Hb2;clear _t;go_at_call 66;refine(H4.out _).mono ?_;rintro e w3 ⟨rfl,hb3⟩;have Hb3:=hI (qaa Hb2.out hb3);clear hb3)
  |(go_at_call 66;refine(H3.out _).mono ?_;rintro e w2 ⟨rfl,hb2⟩;have Hb2:=hI (qaa Hb1.out hb2);clear hb2)
  |(go_at_call 67;refine(H5.out _).mono ?_;rintro e w4 ⟨rfl,hb4⟩;have Hb4:=hI (qaa Hb3.out hb4);clear hb4)
  |(go_at_call 68;refine(H6.out _).mono ?_;rintro e w5 ⟨rfl,hb5⟩;have Hb5:=hI (qaa Hb4.out hb5);clear hb5))
 go_ret
 exact⟨rfl,Hb5.out⟩
set_option maxRecDepth 100000 in
theorem qh2(l t b p:List UInt8)(dv:Bool)(w:World)(hl:l.length≤5000)(hT:topL l=t)(hB:denT l=b)(hD:divB l=dv)(hP:absL t=p)(hneg:negB t=false)(hne:t≠[])(h1:digB p=true)(h2:digB b=true)(h3:zerB b=false)(hL:¬1<p.length)(hm:(t==[45,48])=false)(hb:b.head?≠some 48)(h6:badI p false=false)(h7:dv=true)(h8:(b==[49])=false)(h9:Nat.gcd (valD p) (valD b)≠1):Calls Tryz.prog 21 #[.string ⟨l.toArray⟩,.int .i64 65536] w (Ret (.int .i64 3) w):=by
 obtain⟨ht60,hb60,hp60,H1,H3,H4,H5,H6,hls,hlm,hts,hbs,hps⟩:=pre0 hl hT hB hP;have ht:t=p:=by have h:=qbu t;rw[hneg,if_neg (by decide),hP]at h;exact h
 subst ht;obtain⟨hpos,htl,htz,ht0⟩:=preP hneg hne hts;rw[h1]at H3;rw[h2]at H4;rw[h3]at H5;have hq:¬(1:Int)<(t.length:Int):=by omega
 have hm0:((⟨t.toArray⟩:ByteArray).toList==[45,48])=false:=by rw[toL];exact hm
 obtain⟨hbp,hbz⟩:=preZ h2 hbs;have hb0:=qc0 hbp hb hbz;clear hbp
 have hdv:(t.length:Int)<(l.length:Int):=by
  rcases qdu l with⟨-,h,-,-⟩|⟨i,-,hi,-,h,-⟩
  ·rw[hD,h7]at h;cases h
  ·rw[hT]at h;rw[h,List.length_take];omega
 have hb1:((⟨b.toArray⟩:ByteArray).toList==[49])=false:=by rw[toL];exact h8
 have hpv:=qa0 (qak.1 h1).2;have hbv:=qa0 (qak.1 h2).2;have hfp:qa5 (valD t):=qa1 hpv (by omega);have hfb:qa5 (10*valD b):=qa1 (k:=b.length+1) (by rw[Nat.pow_succ];omega) (by omega)
 have et:txtN (decide (sgn false (valD t)<0)) (valD t)=t:=by
  have h:=qb2 (t:=t) (by rw[hP];exact h1) (by rw[hP,hneg];exact h6);rw[hP,hneg]at h;unfold txtZ at h;rw[qbg]at h;exact h.symm
 have eb:txtN false (valD b)=b:=(qbs h2 hb).symm;have H7:=hI (fun w'=>qc9 (decide (sgn false (valD t)<0)) false (valD t) (valD b) w' hfp hfb);rw[et,eb]at H7;clear hpv hbv hfp hfb et eb;have hg:=qiq h9;have hg2:((⟨(txtN false (Nat.gcd (valD t) (valD b))).toArray⟩:ByteArray).toList !=[49])=true:=by rw[bne,hg];rfl
 generalize(⟨(txtN false (Nat.gcd (valD t) (valD b))).toArray⟩:ByteArray)=GG at*;clear hT hB hP hl ht60 hb60 hp60;generalize(⟨l.toArray⟩:ByteArray)=L at*;generalize(⟨t.toArray⟩:ByteArray)=T at*;generalize(⟨b.toArray⟩:ByteArray)=B at*;generalize l.length=nl at*;generalize t.length=nt at*;generalize b.length=nb at*
 go_enter Tryz.func21,Tryz.ntmps21
 go_wp2_with (first
  |(go_at_call 65;refine(H1.out _).mono ?_;rintro e w1 ⟨rfl,hb1⟩;have Hb1:=hI hb1;clear hb1)
  |(have _t:=Hb2;clear _t;go_at_call 66;refine(H4.out _).mono ?_;rintro e w3 ⟨rfl,hb3⟩;have Hb3:=hI (qaa Hb2.out hb3);clear hb3)
  |(go_at_call 66;refine(H3.out _).mono ?_;rintro e w2 ⟨rfl,hb2⟩;have Hb2:=hI (qaa Hb1.out hb2);clear hb2)
  |(go_at_call 67;refine(H5.out _).mono ?_;rintro e w4 ⟨rfl,hb4⟩;have Hb4:=hI (qaa Hb3.out hb4);clear hb4)
  |(go_at_call 68;refine(H6.out _).mono ?_;rintro e w5 ⟨rfl,hb5⟩;have Hb5:=hI (qaa Hb4.out hb5);clear hb5)
  |(go_at_call 69;refine(H7.out _).mono ?_;rintro e w6 ⟨rfl,hb6⟩;have Hb6:=hI (qaa Hb5.out hb6);clear hb6))
 go_ret
 exact⟨rfl,Hb6.out⟩
set_option maxRecDepth 100000 in
theorem qht(l t b p:List UInt8)(dv:Bool)(w:World)(hl:l.length≤5000)(hT:topL l=t)(hB:denT l=b)(hD:divB l=dv)(hP:absL t=p)(hneg:negB t=false)(hne:t≠[])(h1:digB p=true)(h2:digB b=true)(h3:zerB b=false)(hL:¬1<p.length)(hm:(t==[45,48])=false)(hb:b.head?≠some 48)(h6:badI p false=false)(h7:dv=true)(h8:(b==[49])=false)(h9:Nat.gcd (valD p) (valD b)=1):Calls Tryz.prog 21 #[.string ⟨l.toArray⟩,.int .i64 65536] w (Ret (.int .i64 0) w):=by
 obtain⟨ht60,hb60,hp60,H1,H3,H4,H5,H6,hls,hlm,hts,hbs,hps⟩:=pre0 hl hT hB hP;have ht:t=p:=by have h:=qbu t;rw[hneg,if_neg (by decide),hP]at h;exact h
 subst ht;obtain⟨hpos,htl,htz,ht0⟩:=preP hneg hne hts;rw[h1]at H3;rw[h2]at H4;rw[h3]at H5;have hq:¬(1:Int)<(t.length:Int):=by omega
 have hm0:((⟨t.toArray⟩:ByteArray).toList==[45,48])=false:=by rw[toL];exact hm
 obtain⟨hbp,hbz⟩:=preZ h2 hbs;have hb0:=qc0 hbp hb hbz;clear hbp
 have hdv:(t.length:Int)<(l.length:Int):=by
  rcases qdu l with⟨-,h,-,-⟩|⟨i,-,hi,-,h,-⟩
  ·rw[hD,h7]at h;cases h
  ·rw[hT]at h;rw[h,List.length_take];omega
 have hb1:((⟨b.toArray⟩:ByteArray).toList==[49])=false:=by rw[toL];exact h8
 have hpv:=qa0 (qak.1 h1).2;have hbv:=qa0 (qak.1 h2).2;have hfp:qa5 (valD t):=qa1 hpv (by omega);have hfb:qa5 (10*valD b):=qa1 (k:=b.length+1) (by rw[Nat.pow_succ];omega) (by omega)
 have et:txtN (decide (sgn false (valD t)<0)) (valD t)=t:=by
  have h:=qb2 (t:=t) (by rw[hP];exact h1) (by rw[hP,hneg];exact h6);rw[hP,hneg]at h;unfold txtZ at h;rw[qbg]at h;exact h.symm
 have eb:txtN false (valD b)=b:=(qbs h2 hb).symm;have H7:=hI (fun w'=>qc9 (decide (sgn false (valD t)<0)) false (valD t) (valD b) w' hfp hfb);rw[et,eb]at H7;clear hpv hbv hfp hfb et eb;rw[h9,qd9]at H7;clear hT hB hP hl ht60 hb60 hp60;generalize(⟨l.toArray⟩:ByteArray)=L at*;generalize(⟨t.toArray⟩:ByteArray)=T at*;generalize(⟨b.toArray⟩:ByteArray)=B at*;generalize l.length=nl at*;generalize t.length=nt at*;generalize b.length=nb at*
 go_enter Tryz.func21,Tryz.ntmps21
 go_wp2_with (first
  |(go_at_call 65;refine(H1.out _).mono ?_;rintro e w1 ⟨rfl,hb1⟩;have Hb1:=hI hb1;clear hb1)
  |(have _t:=Hb2;clear _t;go_at_call 66;refine(H4.out _).mono ?_;rintro e w3 ⟨rfl,hb3⟩;have Hb3:=hI (qaa Hb2.out hb3);clear hb3)
  |(go_at_call 66;refine(H3.out _).mono ?_;rintro e w2 ⟨rfl,hb2⟩;have Hb2:=hI (qaa Hb1.out hb2);clear hb2)
  |(go_at_call 67;refine(H5.out _).mono ?_;rintro e w4 ⟨rfl,hb4⟩;have Hb4:=hI (qaa Hb3.out hb4);clear hb4)
  |(go_at_call 68;refine(H6.out _).mono ?_;rintro e w5 ⟨rfl,hb5⟩;have Hb5:=hI (qaa Hb4.out hb5);clear hb5)
  |(go_at_call 69;refine(H7.out _).mono ?_;rintro e w6 ⟨rfl,hb6⟩;have Hb6:=hI (qaa Hb5.out hb6);clear hb6))
 go_ret
 exact⟨rfl,Hb6.out⟩
end Go.Proofs.YtacihodamichhaaGreatDoor
