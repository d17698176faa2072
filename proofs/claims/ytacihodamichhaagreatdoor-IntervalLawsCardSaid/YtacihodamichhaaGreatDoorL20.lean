/- Parts of the proof. -/
import Derived.Test.YtacihodamichhaaGreatDoorL18
namespace Go.Proofs.YtacihodamichhaaGreatDoor
open Go.RowKit
set_option maxHeartbeats 8000000
theorem qaz{w w':World}{b:Nat}{x0 x1 x2 x3 x4 x5 x6 x7 x8 x9 x10 x11 x12 x13:Value}{T:TypeId}(h:Blk w b #[x0,x1,x2,x3,x4,x5,x6,x7,x8,x9,x10,x11,x12,x13] T)(hb:Below w.heap.size w w'):
  w'.cell? ⟨b,0,none⟩=some x0∧w'.cell? ⟨b,1,none⟩=some x1∧w'.cell? ⟨b,2,none⟩=some x2∧w'.cell? ⟨b,3,none⟩=some x3∧w'.cell? ⟨b,4,none⟩=some x4∧w'.cell? ⟨b,5,none⟩=some x5∧w'.cell? ⟨b,6,none⟩=some x6∧w'.cell? ⟨b,7,none⟩=some x7∧w'.cell? ⟨b,8,none⟩=some x8∧w'.cell? ⟨b,9,none⟩=some x9∧w'.cell? ⟨b,10,none⟩=some x10∧w'.cell? ⟨b,11,none⟩=some x11∧w'.cell? ⟨b,12,none⟩=some x12∧w'.cell? ⟨b,13,none⟩=some x13:=by
 have h':=h.below hb;exact⟨by rw[h'.cell];rfl,by rw[h'.cell];rfl,by rw[h'.cell];rfl,by rw[h'.cell];rfl,by rw[h'.cell];rfl,by rw[h'.cell];rfl,by rw[h'.cell];rfl,by rw[h'.cell];rfl,by rw[h'.cell];rfl,by rw[h'.cell];rfl,by rw[h'.cell];rfl,by rw[h'.cell];rfl,by rw[h'.cell];rfl,by rw[h'.cell];rfl⟩
theorem qoj{w:World}{b:Nat}{cs:Array Value}{T:TypeId}(h:Blk w b cs T):
  w.frozen? ⟨b,0,none⟩=false∧w.frozen? ⟨b,1,none⟩=false∧w.frozen? ⟨b,2,none⟩=false∧w.frozen? ⟨b,3,none⟩=false∧w.frozen? ⟨b,4,none⟩=false∧w.frozen? ⟨b,5,none⟩=false∧w.frozen? ⟨b,6,none⟩=false∧w.frozen? ⟨b,7,none⟩=false∧w.frozen? ⟨b,8,none⟩=false∧w.frozen? ⟨b,9,none⟩=false∧w.frozen? ⟨b,10,none⟩=false∧w.frozen? ⟨b,11,none⟩=false∧w.frozen? ⟨b,12,none⟩=false∧w.frozen? ⟨b,13,none⟩=false:=
 ⟨h.free 0,h.free 1,h.free 2,h.free 3,h.free 4,h.free 5,h.free 6,h.free 7,h.free 8,h.free 9,h.free 10,h.free 11,h.free 12,h.free 13⟩
theorem qqd{b d b' d':Int}{s s':ByteArray}{x x' y y':Bool}{a a' e e':Option Addr}{n c n' c' m k m' k':Nat}:NoU #[.int .i64 b,.string s,.int .i64 d,.bool x,.slice a n c,.bool x',.slice a' n' c',.int .i64 b',.string s',.int .i64 d',.bool y,.slice e m k,.bool y',.slice e' m' k']:=by
 intro v hv d';simp at hv;rcases hv with rfl|rfl|rfl|rfl|rfl|rfl|rfl|rfl|rfl|rfl|rfl|rfl|rfl|rfl<;>simp
theorem qi3(k l:CC):∀x∈k.cells++l.cells,∀d:Int,x≠.int .u32 d:=fun x hx=>by
 rcases List.mem_append.1 hx with h|h
 ·exact qfr k x h
 ·exact qfr l x h
structure Iv where
 lo:ByteArray
 hi:ByteArray
 le:Int
 he:Int
def Iv.ok(x:Iv):Prop:=qpm x.lo x.le∧qpm x.hi x.he
def Iv.agg(x:Iv):Value:=.agg #[.string x.lo,.string x.hi,.int .i64 x.le,.int .i64 x.he]
def Iv.low(x:Iv):Cut:=qd0 x.lo x.le 1
def Iv.high(x:Iv):Cut:=qd0 x.hi x.he (-1)
def pagg(k l:CC):Value:=.agg #[.int .i64 k.c.b,.string k.c.s,.int .i64 k.c.d,.bool k.x,.slice k.a k.n k.cap,.bool false,.slice none 0 0,.int .i64 l.c.b,.string l.c.s,.int .i64 l.c.d,.bool l.x,.slice l.a l.n l.cap,.bool false,.slice none 0 0]
theorem qpm.range{n:ByteArray}{k:Int}(h:qpm n k):0≤k∧k≤2:=by
 rcases h with⟨rfl,_⟩|⟨rfl|rfl,_⟩<;>omega
theorem qp7(x:Iv)(w:World)(h:x.ok):Calls Tryz.prog 72 #[x.agg] w (RetP (fun v w'=>∃k l:CC,v=.tuple #[pagg k l,.int .i64 0]∧k.c=x.low∧l.c=x.high∧k.ok w'∧l.ok w') w):=by
 obtain⟨lo,hi,le,he⟩:=x;obtain⟨h1,h2⟩:=h;unfold Iv.agg Iv.low Iv.high;dsimp only at h1 h2⊢;obtain⟨r1,r2⟩:=h1.range;obtain⟨r3,r4⟩:=h2.range;have g1:¬le<0:=by omega
 have g2:¬2<le:=by omega
 have g3:¬he<0:=by omega
 have g4:¬2<he:=by omega
 have hA:Blk ((w.alloc (.cells #[.string lo,.string hi,.int .i64 le,.int .i64 he] 46)).alloc (.cells #[.int .i64 0,.string ⟨#[]⟩,.int .i64 0,.bool false,.slice none 0 0,.bool false,.slice none 0 0,.int .i64 0,.string ⟨#[]⟩,.int .i64 0,.bool false,.slice none 0 0,.bool false,.slice none 0 0] 84)) w.heap.size #[.string lo,.string hi,.int .i64 le,.int .i64 he] 46:=(Blk.new w _ _).old _
 have hR:Blk ((w.alloc (.cells #[.string lo,.string hi,.int .i64 le,.int .i64 he] 46)).alloc (.cells #[.int .i64 0,.string ⟨#[]⟩,.int .i64 0,.bool false,.slice none 0 0,.bool false,.slice none 0 0,.int .i64 0,.string ⟨#[]⟩,.int .i64 0,.bool false,.slice none 0 0,.bool false,.slice none 0 0] 84)) (w.heap.size+1) #[.int .i64 0,.string ⟨#[]⟩,.int .i64 0,.bool false,.slice none 0 0,.bool false,.slice none 0 0,.int .i64 0,.string ⟨#[]⟩,.int .i64 0,.bool false,.slice none 0 0,.bool false,.slice none 0 0] 84:=by
  have h:=Blk.new (w.alloc (.cells #[.string lo,.string hi,.int .i64 le,.int .i64 he] 46)) #[.int .i64 0,.string ⟨#[]⟩,.int .i64 0,.bool false,.slice none 0 0,.bool false,.slice none 0 0,.int .i64 0,.string ⟨#[]⟩,.int .i64 0,.bool false,.slice none 0 0,.bool false,.slice none 0 0] 84
  simpa using h
 have HA:=hI (fun w' (hb:Below ((w.alloc (.cells #[.string lo,.string hi,.int .i64 le,.int .i64 he] 46)).alloc (.cells #[.int .i64 0,.string ⟨#[]⟩,.int .i64 0,.bool false,.slice none 0 0,.bool false,.slice none 0 0,.int .i64 0,.string ⟨#[]⟩,.int .i64 0,.bool false,.slice none 0 0,.bool false,.slice none 0 0] 84)).heap.size ((w.alloc (.cells #[.string lo,.string hi,.int .i64 le,.int .i64 he] 46)).alloc (.cells #[.int .i64 0,.string ⟨#[]⟩,.int .i64 0,.bool false,.slice none 0 0,.bool false,.slice none 0 0,.int .i64 0,.string ⟨#[]⟩,.int .i64 0,.bool false,.slice none 0 0,.bool false,.slice none 0 0] 84)) w')=>qcm hA hb);have HR:=hI hR;have HK:=hI (qa1 w (.cells #[.string lo,.string hi,.int .i64 le,.int .i64 he] 46) (.cells #[.int .i64 0,.string ⟨#[]⟩,.int .i64 0,.bool false,.slice none 0 0,.bool false,.slice none 0 0,.int .i64 0,.string ⟨#[]⟩,.int .i64 0,.bool false,.slice none 0 0,.bool false,.slice none 0 0] 84));have H1:=hI (fun w'=>qow lo le 1 w' (.inl rfl) h1);have H2:=hI (fun w'=>qow hi he (-1) w' (.inr rfl) h2);generalize qd0 lo le 1=cl at*;generalize qd0 hi he (-1)=ch at*;clear h1 h2 r1 r2 r3 r4 hA hR
 go_enter Tryz.func72,Tryz.ntmps72
 go_wp2_with (first
  |(go_at_call 122;have _t:=Hb1;clear _t;refine(H2.out _).mono ?_;rintro e w2 ⟨v2,rfl,⟨k2,rfl,hc2,hk2⟩,hb2⟩;obtain⟨⟨b2,s2,d2⟩,x2,a2,n2,c2⟩:=k2;have Hc2:=hI hc2;have Hk2:=hI hk2;have Hb2:=hI hb2;unfold CC.agg;have hB4:=((Blk.new w1 #[.int .i64 b1,.string s1,.int .i64 d1,.bool x1,.slice a1 n1 c1,.bool false,.slice none 0 0] 79).below hb2).old (.cells #[.int .i64 b2,.string s2,.int .i64 d2,.bool x2,.slice a2 n2 c2,.bool false,.slice none 0 0] 79);obtain⟨p0,p1,p2,p3,p4,p5,p6⟩:=qa4 hB4 (Below.refl _ _);have hr:=HR.out.below (qaa Hb1.out (qaa (qac w1 (.cells #[.int .i64 b1,.string s1,.int .i64 d1,.bool x1,.slice a1 n1 c1,.bool false,.slice none 0 0] 79)) (qaa Hb2.out (qac w2 (.cells #[.int .i64 b2,.string s2,.int .i64 d2,.bool x2,.slice a2 n2 c2,.bool false,.slice none 0 0] 79)))));obtain⟨r0,r1,r2,r3,r4,r5,r6,r7,r8,r9,r10,r11,r12,r13⟩:=qaz hr (Below.refl _ _);obtain⟨f0,f1,f2,f3,f4,f5,f6,f7,f8,f9,f10,f11,f12,f13⟩:=qoj hr;have hk6:CC.ok w2 ⟨⟨b1,s1,d1⟩,x1,a1,n1,c1⟩:=(Hk1.out.mono (qac w1 (.cells #[.int .i64 b1,.string s1,.int .i64 d1,.bool x1,.slice a1 n1 c1,.bool false,.slice none 0 0] 79))).mono Hb2.out;have hk7:=(hk6.mono (qac w2 (.cells #[.int .i64 b2,.string s2,.int .i64 d2,.bool x2,.slice a2 n2 c2,.bool false,.slice none 0 0] 79))).setN hr qqd [.int .i64 b1,.string s1,.int .i64 d1,.bool x1,.slice a1 n1 c1,.bool false,.slice none 0 0,.int .i64 b2,.string s2,.int .i64 d2,.bool x2,.slice a2 n2 c2,.bool false,.slice none 0 0] (qi3 ⟨⟨b1,s1,d1⟩,x1,a1,n1,c1⟩ ⟨⟨b2,s2,d2⟩,x2,a2,n2,c2⟩);have hk8:=(Hk2.out.mono (qac w2 (.cells #[.int .i64 b2,.string s2,.int .i64 d2,.bool x2,.slice a2 n2 c2,.bool false,.slice none 0 0] 79))).setN hr qqd [.int .i64 b1,.string s1,.int .i64 d1,.bool x1,.slice a1 n1 c1,.bool false,.slice none 0 0,.int .i64 b2,.string s2,.int .i64 d2,.bool x2,.slice a2 n2 c2,.bool false,.slice none 0 0] (qi3 ⟨⟨b1,s1,d1⟩,x1,a1,n1,c1⟩ ⟨⟨b2,s2,d2⟩,x2,a2,n2,c2⟩);have hb7:=qcz hr [.int .i64 b1,.string s1,.int .i64 d1,.bool x1,.slice a1 n1 c1,.bool false,.slice none 0 0,.int .i64 b2,.string s2,.int .i64 d2,.bool x2,.slice a2 n2 c2,.bool false,.slice none 0 0] rfl;have hbel:=qbh (b:=w.heap.size+1) (Nat.le_add_right _ 1) [.int .i64 b1,.string s1,.int .i64 d1,.bool x1,.slice a1 n1 c1,.bool false,.slice none 0 0,.int .i64 b2,.string s2,.int .i64 d2,.bool x2,.slice a2 n2 c2,.bool false,.slice none 0 0] 0 _ (HK.out.via (qaa Hb1.out (qaa (qac w1 (.cells #[.int .i64 b1,.string s1,.int .i64 d1,.bool x1,.slice a1 n1 c1,.bool false,.slice none 0 0] 79)) (qaa Hb2.out (qac w2 (.cells #[.int .i64 b2,.string s2,.int .i64 d2,.bool x2,.slice a2 n2 c2,.bool false,.slice none 0 0] 79))))) HK.out.size);simp only[setN,Nat.zero_add,Nat.reduceAdd]at hk7 hk8 hb7 hbel;have Hk7:=hI hk7;have Hk8:=hI hk8;have Hb7:=hI hb7;have Hbel:=hI hbel;clear hk6 hk7 hk8 hb7 hbel hr hk2 hb2 hc2 hB4)
  |(go_at_call 122;refine(H1.out _).mono ?_;rintro e w1 ⟨v1,rfl,⟨k1,rfl,hc1,hk1⟩,hb1⟩;obtain⟨⟨b1,s1,d1⟩,x1,a1,n1,c1⟩:=k1;have Hc1:=hI hc1;have Hk1:=hI hk1;have Hb1:=hI hb1;unfold CC.agg;obtain⟨e0,e1,e2,e3⟩:=HA.out _ (qaa hb1 (qac w1 (.cells #[.int .i64 b1,.string s1,.int .i64 d1,.bool x1,.slice a1 n1 c1,.bool false,.slice none 0 0] 79)));clear hc1 hk1 hb1))
 obtain⟨q0,q1,q2,q3,q4,q5,q6,q7,q8,q9,q10,q11,q12,q13⟩:=qaz Hb7.out (Below.refl _ _);exact bodyPost_ret (v:=.tuple #[.agg #[.int .i64 b1,.string s1,.int .i64 d1,.bool x1,.slice a1 n1 c1,.bool false,.slice none 0 0,.int .i64 b2,.string s2,.int .i64 d2,.bool x2,.slice a2 n2 c2,.bool false,.slice none 0 0],.int .i64 0]) (by simp[results,Tryz.results72,go_sem,q0,q1,q2,q3,q4,q5,q6,q7,q8,q9,q10,q11,q12,q13]) rfl ⟨_,rfl,⟨⟨⟨b1,s1,d1⟩,x1,a1,n1,c1⟩,⟨⟨b2,s2,d2⟩,x2,a2,n2,c2⟩,rfl,Hc1.out,Hc2.out,Hk7.out,Hk8.out⟩,Hbel.out⟩
def qdo(c:Cut)(side:Int):Int:=if c.b≠0 then 2 else if c.d=side then 0 else 1
def Iv.row(x:Iv):List Value:=[.string x.lo,.string x.hi,.int .i64 x.le,.int .i64 x.he]
structure PP where
 l:CC
 h:CC
def PP.row(p:PP):List Value:=p.l.cells++p.h.cells
def PP.ok(w:World)(p:PP):Prop:=p.l.ok w∧p.h.ok w
def PP.cuts(p:PP):Cut × Cut:=(p.l.c,p.h.c)
def Iv.cuts(x:Iv):Cut × Cut:=(x.low,x.high)
theorem PP.ok.mono{w w':World}{p:PP}(h:p.ok w)(hb:Below w.heap.size w w'):p.ok w':=⟨h.1.mono hb,h.2.mono hb⟩
def Ivs(w:World)(v:Value)(xs:List Iv):Prop:=Sl w 4 v (xs.map Iv.row)
def Parts(w:World)(v:Value)(ps:List PP):Prop:=Sl w 14 v (ps.map PP.row)∧∀p∈ps,p.ok w
theorem Ivs.mono{w w':World}{v:Value}{xs:List Iv}(h:Ivs w v xs)(hb:Below w.heap.size w w'):Ivs w' v xs:=Sl.mono h hb
theorem Ivs.open{w:World}{v:Value}{xs:List Iv}(h:Ivs w v xs):∃a cap,v=.slice a xs.length cap∧xs.length≤cap∧cap≤maxLen:=by
 have:=Sl.open h;simpa using this
theorem Ivs.at{w wr:World}{n cap:Nat}{a:Option Addr}{xs:List Iv}(h:Ivs w (.slice a n cap) xs)(hb:Below w.heap.size w wr){k:Nat}(hk:k<n):
  ∃b off x,a=some ⟨b,off,none⟩∧xs[k]?=some x∧wr.cell? ⟨b,off+k*4,none⟩=some (.string x.lo)∧wr.cell? ⟨b,off+k*4+1,none⟩=some (.string x.hi)∧wr.cell? ⟨b,off+k*4+2,none⟩=some (.int .i64 x.le)∧wr.cell? ⟨b,off+k*4+3,none⟩=some (.int .i64 x.he):=by
 obtain⟨b,off,ha,hlt,r,hr,hc⟩:=Sl.row h hb hk;simp only[List.getElem?_map,Option.map_eq_some_iff]at hr;obtain⟨l,hl,rfl⟩:=hr;exact⟨b,off,l,ha,hl,hc 0 (by decide),hc 1 (by decide),hc 2 (by decide),hc 3 (by decide)⟩
def que(w:World)(b o:Nat)(p:PP):Prop:=w.cell? ⟨b,o,none⟩=some (.int .i64 p.l.c.b)∧w.cell? ⟨b,o+1,none⟩=some (.string p.l.c.s)∧w.cell? ⟨b,o+2,none⟩=some (.int .i64 p.l.c.d)∧w.cell? ⟨b,o+3,none⟩=some (.bool p.l.x)∧w.cell? ⟨b,o+4,none⟩=some (.slice p.l.a p.l.n p.l.cap)∧w.cell? ⟨b,o+5,none⟩=some (.bool false)∧w.cell? ⟨b,o+6,none⟩=some (.slice none 0 0)∧w.cell? ⟨b,o+7,none⟩=some (.int .i64 p.h.c.b)∧w.cell? ⟨b,o+8,none⟩=some (.string p.h.c.s)∧w.cell? ⟨b,o+9,none⟩=some (.int .i64 p.h.c.d)∧w.cell? ⟨b,o+10,none⟩=some (.bool p.h.x)∧w.cell? ⟨b,o+11,none⟩=some (.slice p.h.a p.h.n p.h.cap)∧w.cell? ⟨b,o+12,none⟩=some (.bool false)∧w.cell? ⟨b,o+13,none⟩=some (.slice none 0 0)
theorem Parts.at{w wr:World}{n cap:Nat}{a:Option Addr}{ps:List PP}(h:Parts w (.slice a n cap) ps)(hb:Below w.heap.size w wr){k:Nat}(hk:k<n):
  ∃b off p,a=some ⟨b,off,none⟩∧ps[k]?=some p∧p.ok wr∧que wr b (off+k*14) p:=by
 obtain⟨b,off,ha,hlt,r,hr,hc⟩:=Sl.row h.1 hb hk;simp only[List.getElem?_map,Option.map_eq_some_iff]at hr;obtain⟨l,hl,rfl⟩:=hr;exact⟨b,off,l,ha,hl,(h.2 l (List.mem_of_getElem? hl)).mono hb,hc 0 (by decide),hc 1 (by decide),hc 2 (by decide),hc 3 (by decide),hc 4 (by decide),hc 5 (by decide),hc 6 (by decide),hc 7 (by decide),hc 8 (by decide),hc 9 (by decide),hc 10 (by decide),hc 11 (by decide),hc 12 (by decide),hc 13 (by decide)⟩
theorem CC.ok.app{w w':World}{B e sz n:Nat}{v:Value}{xs:List Value}{k:CC}{o:Obj}(h:k.ok w)(hown:w.ownsRow B e sz v n xs)(he:e≠62)(hg:(w.alloc o).grownBy w' v.ownBlock):k.ok w':=(h.mono (qac w o)).grown (qaf hown (qac w o)) he hg
theorem PP.ok.app{w w':World}{B e sz n:Nat}{v:Value}{xs:List Value}{p:PP}{o:Obj}(h:p.ok w)(hown:w.ownsRow B e sz v n xs)(he:e≠62)(hg:(w.alloc o).grownBy w' v.ownBlock):p.ok w':=⟨h.1.app hown he hg,h.2.app hown he hg⟩
theorem qbm{α:Type}(f:α→List Value)(ps:List α)(p:α):(ps.map f).flatten++f p=((ps++[p]).map f).flatten:=by simp
theorem qi0{w:World}{B n:Nat}{v:Value}{ps:List PP}(h:w.ownsRow B 84 14 v n ((ps.map PP.row).flatten))(hok:∀p∈ps,p.ok w):Parts w v ps:=
 ⟨Sl.own h (fun r hr=>by obtain⟨p,_,rfl⟩:=List.mem_map.1 hr;rfl) (by decide),hok⟩
theorem qjz{w:World}{B n:Nat}{v:Value}{xs:List Iv}(h:w.ownsRow B 46 4 v n ((xs.map Iv.row).flatten)):Ivs w v xs:=
 Sl.own h (fun r hr=>by obtain⟨p,_,rfl⟩:=List.mem_map.1 hr;rfl) (by decide)
theorem EP:ElemTy 80 84 14 192:=⟨Tryz.underlying80,by kernel_rfl⟩
theorem EI:ElemTy 22 46 4 48:=⟨Tryz.underlying22,by kernel_rfl⟩
theorem EC:ElemTy 68 79 7 96:=⟨Tryz.underlying68,by kernel_rfl⟩
theorem qty(p:PP):∀u∈p.row,u.oneCell'=true:=by
 intro u hu;simp[PP.row,CC.cells]at hu;rcases hu with rfl|rfl|rfl|rfl|rfl|rfl|rfl|rfl|rfl|rfl|rfl|rfl|rfl|rfl<;>rfl
theorem one7(k:CC):∀u∈k.cells,u.oneCell'=true:=by
 intro u hu;simp[CC.cells]at hu;rcases hu with rfl|rfl|rfl|rfl|rfl|rfl|rfl<;>rfl
theorem one4(x:Iv):∀u∈x.row,u.oneCell'=true:=by
 intro u hu;simp[Iv.row]at hu;rcases hu with rfl|rfl|rfl|rfl<;>rfl
def qre(xs:List (Cut × Cut)):Prop:=(∀(i:Nat) (p:Cut × Cut),xs[i]?=some p→cmpC p.1 p.2<0)∧∀(i:Nat) (p q:Cut × Cut),xs[i]?=some p→xs[i+1]?=some q→cmpC p.2 q.1<0
end Go.Proofs.YtacihodamichhaaGreatDoor
