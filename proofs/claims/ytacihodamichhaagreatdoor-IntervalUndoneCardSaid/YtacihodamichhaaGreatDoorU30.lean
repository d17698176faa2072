/- Parts of the proof. -/
import Derived.Test.YtacihodamichhaaGreatDoorU29
set_option maxHeartbeats 16000000
namespace Go.Proofs.YtacihodamichhaaGreatDoor
open Go.RowKit
def qfk(w:World)(v:Value)(P:List GC):Prop:=Sl w 7 v (P.map GC.cells)∧∀k∈P,k.ok w
theorem qfk.mono{w w':World}{v:Value}{P:List GC}(h:qfk w v P)(hb:Below w.heap.size w w'):qfk w' v P:=⟨Sl.mono h.1 hb,fun p hp=>(h.2 p hp).mono hb⟩
def qwn(w:World)(b o:Nat)(k:GC):Prop:=w.cell? ⟨b,o,none⟩=some (.int .i64 k.c.b)∧w.cell? ⟨b,o+1,none⟩=some (.string k.c.s)∧w.cell? ⟨b,o+2,none⟩=some (.int .i64 k.c.d)∧w.cell? ⟨b,o+3,none⟩=some (.bool k.x)∧w.cell? ⟨b,o+4,none⟩=some (.slice k.a k.n k.cap)∧w.cell? ⟨b,o+5,none⟩=some (.bool k.y)∧w.cell? ⟨b,o+6,none⟩=some (.slice k.e k.m k.cap2)
theorem qfk.at{w wr:World}{n cap:Nat}{a:Option Addr}{P:List GC}(h:qfk w (.slice a n cap) P)(hb:Below w.heap.size w wr){k:Nat}(hk:k<n):
  ∃b off p,a=some ⟨b,off,none⟩∧P[k]?=some p∧p.ok wr∧qwn wr b (off+k*7) p:=by
 obtain⟨b,off,ha,hlt,r,hr,hc⟩:=Sl.row h.1 hb hk;simp only[List.getElem?_map,Option.map_eq_some_iff]at hr;obtain⟨l,hl,rfl⟩:=hr;exact⟨b,off,l,ha,hl,(h.2 l (List.mem_of_getElem? hl)).mono hb,hc 0 (by decide),hc 1 (by decide),hc 2 (by decide),hc 3 (by decide),hc 4 (by decide),hc 5 (by decide),hc 6 (by decide)⟩
theorem qfu{w:World}{B n:Nat}{v:Value}{P:List GC}(h:w.ownsRow B 79 7 v n ((P.map GC.cells).flatten))(hok:∀p∈P,p.ok w):qfk w v P:=
 ⟨Sl.own h (fun r hr=>by obtain⟨p,_,rfl⟩:=List.mem_map.1 hr;rfl) (by decide),hok⟩
theorem qef{w w':World}(h:Below w.heap.size w w')(row:Option Nat):w.grownBy w' row:=⟨h.os,h.tape,h.output,h.size,fun k hk _=>h.block k hk⟩
theorem qrl(k l:GC)(w:World)(hk:k.ok w)(hl:l.ok w):Calls Tryz.prog 135 #[k.agg,l.agg] w (Ret (.bool (cmpG k.c l.c==0)) w):=by
 have H:=hI (fun w' (hb:Below w.heap.size w w')=>qcu k l w' (hk.mono hb) (hl.mono hb));unfold GC.agg at H⊢;generalize cmpG k.c l.c=R at*;clear hk hl
 go_enter Tryz.func135,Tryz.ntmps135
 go_wp2_with (go_at_call 73;refine(H.out _ (qaz w _ _)).mono ?_;rintro e w1 ⟨rfl,hb1⟩)
 go_ret
 exact⟨rfl,(qaz w _ _).via hb1 (qaz w _ _).size⟩
theorem qgo{M e sz n g cap:Nat}:∀(vs:List Value) (o:Nat) (w:World) (xs:List Value),w.ownsRow M e sz (.slice (some ⟨g,0,none⟩) n cap) n xs→o+vs.length≤n*sz→
  ∃ys,(w.setCells g o vs).ownsRow M e sz (.slice (some ⟨g,0,none⟩) n cap) n ys∧ys.take o=xs.take o∧w.grownBy (w.setCells g o vs) (some g)
 |[],o,w,xs,h,_=>⟨xs,h,rfl,rfl,rfl,rfl,Nat.le_refl _,fun _ _ _=>rfl⟩
 |v::r,o,w,xs,h,hl=>by
  simp only[List.length_cons]at hl;obtain⟨ys,h1,h2,h3⟩:=qgo r (o+1) _ _ (qak h (i:=o) (by omega) v) (by omega);refine⟨ys,h1,?_,qax (qay _ _ _ _) h3⟩
  have h4:ys.take o=(ys.take (o+1)).take o:=by rw[List.take_take,Nat.min_eq_left (by omega)]
  rw[h4,h2,List.take_take,Nat.min_eq_left (by omega),List.take_set_of_le (Nat.le_refl _)]
theorem qoc{W:World}(B N g k cap c n:Nat)(xs:List Value)(hn0:0<n)(hkn:k+n=N)(hown:W.ownsRow B 79 7 (.slice (some ⟨g,0,none⟩) N cap) N xs):
  ∃w',(∀ty,(Builtin.clear_ #[68] ty #[.slice (some ⟨g,k*7,none⟩) n c]).run Tryz.prog W=.ok (.tuple #[]) w')∧W.grownBy w' (some g)∧∃ys,w'.ownsRow B 79 7 (.slice (some ⟨g,0,none⟩) N cap) N ys∧ys.take (k*7)=xs.take (k*7):=by
 have hi:(Tryz.prog.info? 79).map (fun i=>i.zero)=some (some (.agg #[.int .i64 0,.string ⟨#[]⟩,.int .i64 0,.bool false,.slice none 0 0,.bool false,.slice none 0 0])):=by kernel_rfl
 simp only[Option.map_eq_some_iff]at hi;obtain⟨i,hi,hz⟩:=hi;obtain⟨z,hz'⟩:∃z,z=(.agg #[.int .i64 0,.string ⟨#[]⟩,.int .i64 0,.bool false,.slice none 0 0,.bool false,.slice none 0 0]:Value):=⟨_,rfl⟩
 rw[←hz']at hz;have hzs:z.cells.size=7:=by rw[hz'];rfl
 have hv:∀w,(zeroValue 79).run Tryz.prog w=.ok z w:=fun w=>by simp[zeroValue,typeInfo,hi,hz]
 have hzl:(Builtin.zeroCells z.cells n).toList.length=n*7:=by rw[Array.length_toList,size_zeroCells,hzs]
 have hxl:xs.length=N*7:=hown.1
 have hcell:∀j,j<(Builtin.zeroCells z.cells n).toList.length→(W.cell? ⟨g,k*7+0+j,none⟩).isSome=true:=fun j hj=>by
  rw[hzl]at hj;have hlt:k*7+0+j<xs.length:=by rw[hxl,←hkn,Nat.add_mul];omega
  have hc:=hown.cells (g:=g) rfl (k*7+0+j) _ (List.getElem?_eq_getElem hlt);have ha:(⟨g,0,none⟩:Addr).add (k*7+0+j)=⟨g,0+(k*7+0+j),none⟩:=by unfold Addr.add;split<;>simp_all
  rw[ha,Nat.zero_add]at hc;rw[hc];rfl
 have hfr:∀j,j<(Builtin.zeroCells z.cells n).toList.length→W.frozen? ⟨g,k*7+0+j,none⟩=false:=fun j _=>qjk hown _
 have hone:∀v∈(Builtin.zeroCells z.cells n).toList,v.oneCell'=true:=by
  intro v hv;have hv:=Array.mem_toList_iff.1 hv;unfold Builtin.zeroCells at hv;obtain⟨q,hq,rfl⟩:=Array.mem_map.1 hv;have hm:q%z.cells.size<7:=by rw[hzs];exact Nat.mod_lt _ (by decide)
  generalize q%z.cells.size=r at hm;subst hz'
  match r,hm with
  |0,_=>rfl
  |1,_=>rfl
  |2,_=>rfl
  |3,_=>rfl
  |4,_=>rfl
  |5,_=>rfl
  |6,_=>rfl
 have hst:=run_storeCells_cells (P:=Tryz.prog) g (k*7) (Builtin.zeroCells z.cells n).toList 0 W hcell hfr hone;simp only[Nat.add_zero]at hst;obtain⟨ys,h1,h2,h3⟩:=qgo (Builtin.zeroCells z.cells n).toList (k*7) W xs hown (by rw[hzl,←hkn,Nat.add_mul];omega);obtain⟨m,rfl⟩:∃m,n=m+1:=⟨n-1,by omega⟩
 refine⟨_,fun ty=>?_,h3,ys,h1,h2⟩
 simp[Builtin.clear_,run_underlying EC.und,hv,hst]
def qwo(P:List GC)(w:World)(g cap:Nat)(e:Ending)(w':World):Prop:=∃M,e=.returned (.slice (some ⟨g,0,none⟩) M cap)∧(ddN P P.length).length=M∧w.grownBy w' (some g)∧qfk w' (.slice (some ⟨g,0,none⟩) M cap) (ddN P P.length)
theorem qsv{D P:List GC}{m i:Nat}(hD:D.length=m)(h:m≤i):(D++P.drop m)[i]?=P[i]?:=by
 rw[List.getElem?_append_right (by omega),List.getElem?_drop,hD,Nat.add_sub_cancel' h]
theorem qkz{P:List GC}:∀n,∀k∈ddN P n,k∈P
 |0,k,h=>by cases h
 |1,k,h=>List.mem_of_mem_take h
 |n+2,k,h=>by
  unfold ddN at h
  split at h
  ·rename_i x y hx hy
   split at h
   ·exact qkz (n+1) k h
   ·rcases List.mem_append.1 h with h|h
    ·exact qkz (n+1) k h
    ·cases List.mem_singleton.1 h
     exact List.mem_of_getElem? hx
  ·exact qkz (n+1) k h
theorem qvq{W:World}{B g cap N m:Nat}{A C:List GC}{q:GC}(h:GC)(hA:A.length=m)(hm:m<N)(hown:W.ownsRow B 79 7 (.slice (some ⟨g,0,none⟩) N cap) N (((A++q::C).map GC.cells).flatten)):
  (((((((W.setCell ⟨g,m*7,none⟩ (.int .i64 h.c.b)).setCell ⟨g,m*7+1,none⟩ (.string h.c.s)).setCell ⟨g,m*7+2,none⟩ (.int .i64 h.c.d)).setCell ⟨g,m*7+3,none⟩ (.bool h.x)).setCell ⟨g,m*7+4,none⟩ (.slice h.a h.n h.cap)).setCell ⟨g,m*7+5,none⟩ (.bool h.y)).setCell ⟨g,m*7+6,none⟩ (.slice h.e h.m h.cap2)).ownsRow B 79 7 (.slice (some ⟨g,0,none⟩) N cap) N (((A++h::C).map GC.cells).flatten)∧W.grownBy (((((((W.setCell ⟨g,m*7,none⟩ (.int .i64 h.c.b)).setCell ⟨g,m*7+1,none⟩ (.string h.c.s)).setCell ⟨g,m*7+2,none⟩ (.int .i64 h.c.d)).setCell ⟨g,m*7+3,none⟩ (.bool h.x)).setCell ⟨g,m*7+4,none⟩ (.slice h.a h.n h.cap)).setCell ⟨g,m*7+5,none⟩ (.bool h.y)).setCell ⟨g,m*7+6,none⟩ (.slice h.e h.m h.cap2)) (some g):=by
 have hN7:m*7+7≤N*7:=by omega
 have h7:=qak hown (i:=m*7) (by omega) (.int .i64 h.c.b);have h8:=qak h7 (i:=m*7+1) (by omega) (.string h.c.s);have h9:=qak h8 (i:=m*7+2) (by omega) (.int .i64 h.c.d);have h10:=qak h9 (i:=m*7+3) (by omega) (.bool h.x);have h11:=qak h10 (i:=m*7+4) (by omega) (.slice h.a h.n h.cap);have h12:=qak h11 (i:=m*7+5) (by omega) (.bool h.y);have h13:=qak h12 (i:=m*7+6) (by omega) (.slice h.e h.m h.cap2)
 have hl:((A.map GC.cells).flatten).length=m*7:=by
  rw[qcr (sz:=7) (fun r hr=>by obtain⟨p,_,rfl⟩:=List.mem_map.1 hr;rfl),List.length_map,hA]
 have e:∀i v (r:List Value),((A.map GC.cells).flatten++r).set (m*7+i) v=(A.map GC.cells).flatten++r.set i v:=fun i v r=>by
  rw[List.set_append_right _ _ (by rw[hl];omega),hl,Nat.add_sub_cancel_left]
 have e0:∀v (r:List Value),((A.map GC.cells).flatten++r).set (m*7) v=(A.map GC.cells).flatten++r.set 0 v:=fun v r=>e 0 v r
 rw[List.map_append,List.flatten_append,e0,e,e,e,e,e,e]at h13;rw[List.map_append,List.flatten_append];exact⟨h13,(qax (qax (qax (qax (qax (qax (qay _ _ _ _) (qay _ _ _ _)) (qay _ _ _ _)) (qay _ _ _ _)) (qay _ _ _ _)) (qay _ _ _ _)) (qay _ _ _ _))⟩
theorem qqe{w:World}{B g cap N m:Nat}{ys:List Value}{D:List GC}(h:w.ownsRow B 79 7 (.slice (some ⟨g,0,none⟩) N cap) N ys)(hD:D.length=m)(hm:m≤N)(ht:ys.take (m*7)=(D.map GC.cells).flatten):Sl w 7 (.slice (some ⟨g,0,none⟩) m cap) (D.map GC.cells):=by
 obtain⟨_,_,hv,hc1,hc2⟩:=qas h;cases hv
 refine⟨_,_,by rw[List.length_map,hD],by rw[List.length_map,hD];omega,hc2,.inr ⟨g,0,rfl,(h.lt g rfl).2,fun i j hi hj=>?_⟩⟩
 rw[List.length_map,hD]at hi;have hf:=qf5 (rows:=D.map GC.cells) (sz:=7) (fun r hr=>by obtain⟨p,_,rfl⟩:=List.mem_map.1 hr;rfl) (i:=i) (j:=j) (by rw[List.length_map,hD];exact hi) hj;rw[←ht,List.getElem?_take_of_lt (by omega)]at hf;have hc:=h.cells (g:=g) rfl (i*7+j) _ hf;have ha:(⟨g,0,none⟩:Addr).add (i*7+j)=⟨g,0+(i*7+j),none⟩:=by unfold Addr.add;split<;>simp_all
 rw[ha]at hc;rw[Nat.add_assoc];exact hc
set_option maxRecDepth 10000 in
theorem qr4(P:List GC)(N:Nat)(w:World)(B g cap:Nat)(hN:P.length=N)(hown:w.ownsRow B 79 7 (.slice (some ⟨g,0,none⟩) N cap) N ((P.map GC.cells).flatten))(hok:∀k∈P,k.ok w)(h2:2≤N)(hn:N≤2000):
  Calls Tryz.prog 134 #[.slice (some ⟨g,0,none⟩) N cap,.func (.func 135) #[] #[]] w (qwo P w g cap):=by
 obtain⟨_,_,hv,hc1,hc2⟩:=qas hown;cases hv
 unfold maxLen at hc2;unfold qwo;have HP:=hI (qfu hown hok);have Hown:=hI hown;have Hok:=hI hok;have HN:=hI hN;clear hown hok hN;have hn2:¬(N:Int)<2:=by omega
 go_enter Tryz.func134,Tryz.ntmps134
 go_wp2_with fail
 go_loopw [5] (fun i wr=>∃k:Nat,1≤k∧k≤N∧i=.int .i64 (k:Int)∧Below w.heap.size w wr∧Hid (ddN P k=P.take k)) (fun i _=>N-(intOf i).toNat)
 case atStart=>exact⟨1,by omega,by omega,rfl,Below.refl _ _,rfl⟩
 case round=>
  obtain⟨k,hk1,hk,rfl,hbw,hd⟩:=hrel;rcases Nat.lt_or_ge k N with hlt|hge
  ·obtain⟨j,rfl⟩:∃j,k=j+1:=⟨k-1,by omega⟩
   obtain⟨b,off,p,hb0,hp,hpok,hpc⟩:=HP.out.at hbw (show j+1<N from hlt);cases hb0
   obtain⟨b',off',q,hq0,hq,hqok,hqc⟩:=HP.out.at hbw (show j<N by omega);cases hq0
   rw[Nat.zero_add]at hpc hqc;have hkn:((j+1:Nat):Int)<(N:Int):=by omega
   have hkn2:(j:Int)+1<(N:Int):=by omega
   have hik:IntKind.i64.wrap ((j:Int)+1)=(j:Int)+1:=IntWalk.i64_in _ (by omega);have hik2:IntKind.i64.wrap ((j:Int)+1+1)=(j:Int)+1+1:=IntWalk.i64_in _ (by omega);have hj2:IntKind.i64.wrap (j:Int)=j:=IntWalk.i64_in _ (by omega);have hj3:(((j+1:Nat):Int)-1)=(j:Int):=by omega
   have hj4:(j:Int)<(N:Int):=by omega
   have hj5:(0:Int)≤(j:Int):=by omega
   have hj6:(0:Int)≤(j:Int)+1:=by omega
   have hj7:((j:Int)+1).toNat=j+1:=by omega
   have hj8:j+1<N:=hlt;have hj9:j<N:=by omega
   have H:=hI (fun w' (hb:Below wr.heap.size wr w')=>qrl p q w' (hpok.mono hb) (hqok.mono hb));unfold GC.agg at H;have HSx:=hI (fun w' (hb:Below wr.heap.size wr w')=>show w'.cell? ⟨g,(j+1)*7,none⟩=some (.int .i64 p.c.b)∧w'.cell? ⟨g,(j+1)*7+1,none⟩=some (.string p.c.s)∧w'.cell? ⟨g,(j+1)*7+2,none⟩=some (.int .i64 p.c.d)∧w'.cell? ⟨g,(j+1)*7+3,none⟩=some (.bool p.x)∧w'.cell? ⟨g,(j+1)*7+4,none⟩=some (.slice p.a p.n p.cap)∧w'.cell? ⟨g,(j+1)*7+5,none⟩=some (.bool p.y)∧w'.cell? ⟨g,(j+1)*7+6,none⟩=some (.slice p.e p.m p.cap2)∧w'.cell? ⟨g,j*7,none⟩=some (.int .i64 q.c.b)∧w'.cell? ⟨g,j*7+1,none⟩=some (.string q.c.s)∧w'.cell? ⟨g,j*7+2,none⟩=some (.int .i64 q.c.d)∧w'.cell? ⟨g,j*7+3,none⟩=some (.bool q.x)∧w'.cell? ⟨g,j*7+4,none⟩=some (.slice q.a q.n q.cap)∧w'.cell? ⟨g,j*7+5,none⟩=some (.bool q.y)∧w'.cell? ⟨g,j*7+6,none⟩=some (.slice q.e q.m q.cap2)from⟨qab hb hpc.1,qab hb hpc.2.1,qab hb hpc.2.2.1,qab hb hpc.2.2.2.1,qab hb hpc.2.2.2.2.1,qab hb hpc.2.2.2.2.2.1,qab hb hpc.2.2.2.2.2.2,qab hb hqc.1,qab hb hqc.2.1,qab hb hqc.2.2.1,qab hb hqc.2.2.2.1,qab hb hqc.2.2.2.2.1,qab hb hqc.2.2.2.2.2.1,qab hb hqc.2.2.2.2.2.2⟩);have Hbw:=hI hbw;have Hdn:=hI (ql3 hp hq);have HPx:=hI hp;have HQx:=hI hq;clear hp hpok hpc hq hqok hqc hbw
   by_cases he:cmpG p.c q.c=0
   ·rw[if_pos he]at Hdn
    have he2:(cmpG p.c q.c==0)=true:=by simpa using he
    rw[he2]at H;clear he he2;go_upto_region 6 with fail
    refine wpRg HSx.out (bwD wr) (by kernel_rfl) (fun hHeld=>?_)
    refine' tk 0 ?_;(try simp only[tkS]);refine' tk 1 ?_;(try simp only[tkS]);refine' tk 2 ?_;(try simp only[tkS]);refine' tk 3 ?_;(try simp only[tkS]);refine' tk 4 ?_;(try simp only[tkS]);refine' tk 5 ?_;(try simp only[tkS]);refine' tk 6 ?_;(try simp only[tkS]);refine' tk 7 ?_;(try simp only[tkS]);refine' tk 8 ?_;(try simp only[tkS]);refine' tk 9 ?_;(try simp only[tkS]);refine tk1 10 (fun K hK=>?_)
    go_simp;go_at_call 135;refine(H.out _ (bwD wr)).mono ?_
    rintro e5 w10 ⟨rfl,hb10⟩;have Hb10:=hI (qaa (bwD wr) hb10);clear hb10;refine hK.out _ _ (by exact HSx.out _ (Hb10.out)) (fun hHeld=>?_)
    clear hK K;(try simp only[tkS]);refine tkD ?_ _
    have hs2:(j:Int)+1≤(N:Int):=by omega
    have hs3:(N:Int)≤(cap:Int):=by omega
    have hs4:¬cap=j+1:=by omega
    have hs5:j+1≤N:=by omega
    have Hb6:=hI (Hbw.out.via Hb10.out Hbw.out.size)
    go_wp2_with fail
    clear HSx H HPx HQx hik hik2 hj2 hj3 hj5 hj6 hj7 hkn hkn2 hs2
    have Hst:=hI (show(ddN P (j+1+1)).length=j+1∧ddN P (j+1+1)++P.drop (j+1)=P by
     rw[show j+1+1=j+2 from rfl,Hdn.out,hd.out]
     exact⟨by rw[List.length_take,HN.out];omega,List.take_append_drop _ _⟩)
    have Hg6:=hI (qef Hb6.out (some g));have Hown6:=hI (qaf Hown.out Hb6.out);clear hd Hdn Hbw;generalize hO7:(j+1)*7=O7 at*;generalize hL:N-(j+1)=L at*;generalize hC:cap-(j+1)=C at*;have hLN:j+1+L=N:=by omega
    have hL1:1≤L:=by omega
    have HO7:=hI hO7;clear hO7 hL hC
    go_loopw [5,7] (fun i i2 wz=>∃m t:Nat,1≤t∧t≤L∧m≤j+t∧i=.int .i64 (m:Int)∧i2=.int .i64 (t:Int)∧Hid (w.grownBy wz (some g)∧(ddN P (j+1+t)).length=m∧wz.ownsRow B 79 7 (.slice (some ⟨g,0,none⟩) N cap) N (((ddN P (j+1+t)++P.drop m).map GC.cells).flatten))) (fun i i2 _=>L-(intOf i2).toNat)
    case atStart=>exact⟨j+1,1,by omega,hL1,by omega,by go_num,rfl,Hg6.out,Hst.out.1,by rw[Hst.out.2];exact Hown6.out⟩
    case round=>
     obtain⟨m,t,ht1,htL,hm,rfl,rfl,hz⟩:=hrel
     rename World=>wz
     have hmN:m<N:=by omega
     have hm0:(0:Int)≤(m:Int):=by omega
     have hm1:(m:Int)<(N:Int):=by omega
     have hm2:IntKind.i64.wrap ((m:Int)+1)=(m:Int)+1:=IntWalk.i64_in _ (by omega);have hmt:((m:Int)).toNat=m:=by omega
     rcases Nat.lt_or_ge t L with hlt2|hge2
     ·obtain⟨u,rfl⟩:∃u,t=u+1:=⟨t-1,by omega⟩
      have hprt:=qfu hz.out.2.2 (fun k hk=>by
       have hkP:k∈P:=by
        rcases List.mem_append.1 hk with h|h
        ·exact qkz _ k h
        ·exact List.mem_of_mem_drop h
       exact(Hok.out k hkP).grown Hown.out (by decide) hz.out.1)
      obtain⟨_,_,x,hb1,hx,hxok,hxc⟩:=qfk.at hprt (Below.refl _ _) (show j+1+(u+1)<N by omega);cases hb1
      obtain⟨_,_,y,hb1,hy,hyok,hyc⟩:=qfk.at hprt (Below.refl _ _) (show j+1+u<N by omega);cases hb1
      obtain⟨_,_,q0,hb1,-,-,hqc⟩:=qfk.at hprt (Below.refl _ _) hmN;cases hb1
      rw[Nat.zero_add]at hqc;rw[qsv hz.out.2.1 (by omega)]at hx hy;rw[Nat.zero_add,show(j+1+(u+1))*7=O7+(u+1)*7 by rw[←HO7.out];omega]at hxc;rw[Nat.zero_add,show(j+1+u)*7=O7+u*7 by rw[←HO7.out];omega]at hyc;have ha1:((u+1:Nat):Int)<(L:Int):=by omega
      have ha2:(u:Int)+1<(L:Int):=by omega
      have ha3:IntKind.i64.wrap ((u:Int)+1)=(u:Int)+1:=IntWalk.i64_in _ (by omega);have ha4:IntKind.i64.wrap ((u:Int)+1+1)=(u:Int)+1+1:=IntWalk.i64_in _ (by omega);have ha5:IntKind.i64.wrap (u:Int)=u:=IntWalk.i64_in _ (by omega);have ha6:(((u+1:Nat):Int)-1)=(u:Int):=by omega
      have ha7:(u:Int)<(L:Int):=by omega
      have ha8:(0:Int)≤(u:Int):=by omega
      have ha9:(0:Int)≤(u:Int)+1:=by omega
      have ha10:((u:Int)+1).toNat=u+1:=by omega
      have ha11:u+1<L:=hlt2;have ha12:u<L:=by omega
      have HE:=hI (fun w' (hb:Below wz.heap.size wz w')=>qrl x y w' (hxok.mono hb) (hyok.mono hb));unfold GC.agg at HE;have HSz:=hI (fun w' (hb:Below wz.heap.size wz w')=>show w'.cell? ⟨g,O7+(u+1)*7,none⟩=some (.int .i64 x.c.b)∧w'.cell? ⟨g,O7+(u+1)*7+1,none⟩=some (.string x.c.s)∧w'.cell? ⟨g,O7+(u+1)*7+2,none⟩=some (.int .i64 x.c.d)∧w'.cell? ⟨g,O7+(u+1)*7+3,none⟩=some (.bool x.x)∧w'.cell? ⟨g,O7+(u+1)*7+4,none⟩=some (.slice x.a x.n x.cap)∧w'.cell? ⟨g,O7+(u+1)*7+5,none⟩=some (.bool x.y)∧w'.cell? ⟨g,O7+(u+1)*7+6,none⟩=some (.slice x.e x.m x.cap2)∧w'.cell? ⟨g,O7+u*7,none⟩=some (.int .i64 y.c.b)∧w'.cell? ⟨g,O7+u*7+1,none⟩=some (.string y.c.s)∧w'.cell? ⟨g,O7+u*7+2,none⟩=some (.int .i64 y.c.d)∧w'.cell? ⟨g,O7+u*7+3,none⟩=some (.bool y.x)∧w'.cell? ⟨g,O7+u*7+4,none⟩=some (.slice y.a y.n y.cap)∧w'.cell? ⟨g,O7+u*7+5,none⟩=some (.bool y.y)∧w'.cell? ⟨g,O7+u*7+6,none⟩=some (.slice y.e y.m y.cap2)from⟨qab hb hxc.1,qab hb hxc.2.1,qab hb hxc.2.2.1,qab hb hxc.2.2.2.1,qab hb hxc.2.2.2.2.1,qab hb hxc.2.2.2.2.2.1,qab hb hxc.2.2.2.2.2.2,qab hb hyc.1,qab hb hyc.2.1,qab hb hyc.2.2.1,qab hb hyc.2.2.2.1,qab hb hyc.2.2.2.2.1,qab hb hyc.2.2.2.2.2.1,qab hb hyc.2.2.2.2.2.2⟩);have Hdd:=hI (show ddN P (j+1+(u+1)+1)=if cmpG x.c y.c=0 then ddN P (j+1+(u+1))else ddN P (j+1+(u+1))++[x]from ql3 (n:=j+1+u) hx hy);have Hqc:=hI hqc;clear hprt hx hy hxok hyok hxc hyc hqc
      by_cases he:cmpG x.c y.c=0
      ·rw[if_pos he]at Hdd
       have he2:(cmpG x.c y.c==0)=true:=by simpa using he
       rw[he2]at HE;clear he he2;go_upto_region 11 with fail
       refine wpRg HSz.out (bwD wz) (by kernel_rfl) (fun hHeld=>?_)
       refine' tk 0 ?_;(try simp only[tkS]);refine' tk 1 ?_;(try simp only[tkS]);refine' tk 2 ?_;(try simp only[tkS]);refine' tk 3 ?_;(try simp only[tkS]);refine' tk 4 ?_;(try simp only[tkS]);refine' tk 5 ?_;(try simp only[tkS]);refine' tk 6 ?_;(try simp only[tkS]);refine' tk 7 ?_;(try simp only[tkS]);refine' tk 8 ?_;(try simp only[tkS]);refine' tk 9 ?_;(try simp only[tkS]);refine tk1 10 (fun K hK=>?_)
       go_simp;go_at_call 135;refine(HE.out _ (bwD wz)).mono ?_
       rintro e5 w11 ⟨rfl,hb11⟩;have Hb11:=hI (qaa (bwD wz) hb11);clear hb11;refine hK.out _ _ (by exact HSz.out _ (Hb11.out)) (fun hHeld=>?_)
       clear hK K;(try simp only[tkS]);refine' tk 11 ?_;(try simp only[tkS]);refine tkD ?_ _
       go_wp2_with fail
       go_roundw
       case rel=>exact⟨m,u+1+1,by omega,by omega,by omega,rfl,by go_num,qax hz.out.1 (qef (Hb11.out) _),by rw[show j+1+(u+1+1)=j+1+(u+1)+1 by omega,Hdd.out];exact hz.out.2.1,by rw[show j+1+(u+1+1)=j+1+(u+1)+1 by omega,Hdd.out];exact qaf hz.out.2.2 (Hb11.out)⟩
       case measure=>simp[intOf]<;>omega
      ·rw[if_neg he]at Hdd
       have he2:(cmpG x.c y.c==0)=false:=by simpa using he
       rw[he2]at HE;clear he he2;go_upto_region 11 with fail
       refine wpRg HSz.out (bwD wz) (by kernel_rfl) (fun hHeld=>?_)
       refine' tk 0 ?_;(try simp only[tkS]);refine' tk 1 ?_;(try simp only[tkS]);refine' tk 2 ?_;(try simp only[tkS]);refine' tk 3 ?_;(try simp only[tkS]);refine' tk 4 ?_;(try simp only[tkS]);refine' tk 5 ?_;(try simp only[tkS]);refine' tk 6 ?_;(try simp only[tkS]);refine' tk 7 ?_;(try simp only[tkS]);refine' tk 8 ?_;(try simp only[tkS]);refine' tk 9 ?_;(try simp only[tkS]);refine tk1 10 (fun K hK=>?_)
       go_simp;go_at_call 135;refine(HE.out _ (bwD wz)).mono ?_
       rintro e5 w11 ⟨rfl,hb11⟩;have Hb11:=hI (qaa (bwD wz) hb11);clear hb11;refine hK.out _ _ (by exact HSz.out _ (Hb11.out)) (fun hHeld=>?_)
       clear hK K;(try simp only[tkS]);refine' tk 11 ?_;(try simp only[tkS]);refine tkD ?_ _
       have Hc:=hI (Hb11.out);obtain⟨z0,z1,z2,z3,z4,z5,z6,z7,z8,z9,z10,z11,z12,z13⟩:=HSz.out _ Hc.out;have HO4:=hI (qaf hz.out.2.2 Hc.out);have q0:=qab Hc.out Hqc.out.1;have q1:=qab Hc.out Hqc.out.2.1;have q2:=qab Hc.out Hqc.out.2.2.1;have q3:=qab Hc.out Hqc.out.2.2.2.1;have q4:=qab Hc.out Hqc.out.2.2.2.2.1;have q5:=qab Hc.out Hqc.out.2.2.2.2.2.1;have q6:=qab Hc.out Hqc.out.2.2.2.2.2.2;have hfr:=fun i=>qjk HO4.out i
       have fr0:=hfr (m*7);have fr1:=hfr (m*7+1);have fr2:=hfr (m*7+2);have fr3:=hfr (m*7+3);have fr4:=hfr (m*7+4);have fr5:=hfr (m*7+5);have fr6:=hfr (m*7+6);clear hfr;have HPm:=hI (show P.drop m=P[m]'(by rw[HN.out];exact hmN)::P.drop (m+1)from List.drop_eq_getElem_cons _);have HPut:=hI (qvq x hz.out.2.1 hmN (by have:=HO4.out;rw[HPm.out]at this;exact this))
       go_wp2_with fail
       go_roundw
       case rel=>exact⟨m+1,u+1+1,by omega,by omega,by omega,by go_num,by go_num,qax (qax hz.out.1 (qef Hc.out _)) HPut.out.2,by rw[show j+1+(u+1+1)=j+1+(u+1)+1 by omega,Hdd.out,List.length_append,hz.out.2.1];rfl,by rw[show j+1+(u+1+1)=j+1+(u+1)+1 by omega,Hdd.out,List.append_assoc];exact HPut.out.1⟩
       case measure=>simp[intOf]<;>omega
     ·obtain rfl:t=L:=by omega
      have hend:¬(t:Int)<(t:Int):=by omega
      have hc1':(m:Int)≤(N:Int):=by omega
      have hc2':(N:Int)≤(cap:Int):=by omega
      have hc3:¬cap=m:=by omega
      have hc4:m≤N:=by omega
      have hc5:(m:Int)≤(cap:Int):=by omega
      have hc6:N≤cap:=hc1;have hz3:=hI hz.out;have Hdd:=hI (show ddN P P.length=ddN P (j+1+t)by rw[HN.out,hLN]);clear hz;obtain⟨w9,hcl,hy3,ys,hy1,hy2⟩:=qoc B N g m cap (cap-m) (N-m) _ (by omega) (by omega) hz3.out.2.2;have Hy1:=hI hy1;have Hy2:=hI hy2;have Hy3:=hI hy3;clear hy1 hy2 hy3
      go_wp2_with fail
      go_ret
      refine⟨m,rfl,by rw[Hdd.out];exact hz3.out.2.1,qax hz3.out.1 Hy3.out,?_,fun k hk=>?_⟩
      ·rw[Hdd.out]
       refine qqe Hy1.out hz3.out.2.1 hc4 ?_
       rw[Hy2.out,List.map_append,List.flatten_append,List.take_left' (by rw[qcr (sz:=7) (fun r hr=>by obtain⟨p,_,rfl⟩:=List.mem_map.1 hr;rfl),List.length_map,hz3.out.2.1])]
      ·exact(Hok.out k (qkz _ k hk)).grown Hown.out (by decide) (qax hz3.out.1 Hy3.out)
   ·rw[if_neg he]at Hdn
    have he2:(cmpG p.c q.c==0)=false:=by simpa using he
    rw[he2]at H;clear he he2;go_upto_region 6 with fail
    refine wpRg HSx.out (bwD wr) (by kernel_rfl) (fun hHeld=>?_)
    refine' tk 0 ?_;(try simp only[tkS]);refine' tk 1 ?_;(try simp only[tkS]);refine' tk 2 ?_;(try simp only[tkS]);refine' tk 3 ?_;(try simp only[tkS]);refine' tk 4 ?_;(try simp only[tkS]);refine' tk 5 ?_;(try simp only[tkS]);refine' tk 6 ?_;(try simp only[tkS]);refine' tk 7 ?_;(try simp only[tkS]);refine' tk 8 ?_;(try simp only[tkS]);refine' tk 9 ?_;(try simp only[tkS]);refine tk1 10 (fun K hK=>?_)
    go_simp;go_at_call 135;refine(H.out _ (bwD wr)).mono ?_
    rintro e5 w10 ⟨rfl,hb10⟩;have Hb10:=hI (qaa (bwD wr) hb10);clear hb10;refine hK.out _ _ (by exact HSx.out _ (Hb10.out)) (fun hHeld=>?_)
    clear hK K;(try simp only[tkS]);refine tkD ?_ _
    go_wp2_with fail
    go_roundw
    case rel=>exact⟨j+1+1,by omega,by omega,by go_num,Hbw.out.via Hb10.out Hbw.out.size,by
     show ddN P (j+2)=_
     rw[Hdn.out,hd.out]
     rw[show j+1+1=(j+1)+1 from rfl,List.take_add_one (i:=j+1),HPx.out];rfl⟩
    case measure=>simp[intOf]<;>omega
  ·obtain rfl:k=N:=by omega
   have hkn:¬(k:Int)<(k:Int):=by omega
   have Hbw:=hI hbw;have Hfin:=hI (show ddN P P.length=P by rw[HN.out,hd.out,List.take_of_length_le (by rw[HN.out];exact Nat.le_refl _)]);clear hbw hd
   go_wp2_with fail
   go_ret
   exact⟨k,rfl,by rw[Hfin.out];exact HN.out,qef Hbw.out _,by rw[Hfin.out];exact HP.out.mono Hbw.out⟩
end Go.Proofs.YtacihodamichhaaGreatDoor
