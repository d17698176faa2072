/- Parts of the proof. -/
import Derived.Test.YtacihodamichhaaGreatDoorL19
import Derived.Test.YtacihodamichhaaGreatDoorL20
namespace Go.Proofs.YtacihodamichhaaGreatDoor
open Go.RowKit
set_option maxHeartbeats 4000000
theorem RatV.setN{v:Value}{p q:Int}{R:Nat}{T:TypeId}(vs:List Value)(w:World)(cs:Array Value)(hv:∀x∈vs,∀d:Int,x≠.int .u32 d)(h:RatV w v p q)(hB:Blk w R cs T)(hn:NoU cs):RatV (setN w R 0 vs) v p q:=by
 obtain⟨x,a,n,c,x',a',n',c',rfl,h1,h2⟩:=h;exact RatV.mk (IntV.setN vs 0 w cs hv h1 hB hn) (IntV.setN vs 0 w cs hv h2 hB hn)
theorem GC.ok.setN{w:World}{k:GC}(h:k.ok w){R:Nat}{cs:Array Value}{T:TypeId}(hB:Blk w R cs T)(hn:NoU cs)(vs:List Value)(hv:∀x∈vs,∀d:Int,x≠.int .u32 d):k.ok (setN w R 0 vs):=
 ⟨RatV.setN vs w cs hv h.1 hB hn,⟨AU.setN vs 0 w h.2.1.1,AU.setN vs 0 w h.2.1.2⟩,h.2.2⟩
theorem qeu(k:GC):∀x∈k.cells,∀d:Int,x≠.int .u32 d:=by
 intro x hx d;simp[GC.cells]at hx;rcases hx with rfl|rfl|rfl|rfl|rfl|rfl|rfl<;>simp
theorem qhd(k l:GC):∀x∈k.cells++l.cells,∀d:Int,x≠.int .u32 d:=fun x hx=>by
 rcases List.mem_append.1 hx with h|h
 ·exact qeu k x h
 ·exact qeu l x h
def qa2(n:ByteArray)(kind:Int):Int:=if kind=2 then(if n.data.toList=[]then 0 else 3)else errL n.data.toList
def cutE(n:ByteArray)(kind side:Int):Cut:=if qa2 n kind=0 then qd0 n kind side else⟨0,⟨#[]⟩,0⟩
def GC.none0:GC:=⟨⟨0,⟨#[]⟩,0⟩,false,none,0,0,false,none,0,0⟩
theorem GC.none0_ok(w:World):GC.none0.ok w:=⟨RatV.zero w,⟨AU.none w,AU.none w⟩,by decide⟩
theorem GC.inf_ok(w:World)(b:Int):(⟨⟨b,⟨#[]⟩,0⟩,false,none,0,0,false,none,0,0⟩:GC).ok w:=⟨RatV.zero w,⟨AU.none w,AU.none w⟩,by show(0:Nat)≤5000;decide⟩
theorem qrn{n:ByteArray}(h:n.data.toList=[]):n=⟨#[]⟩:=by rw[qb9 h]
theorem qt6{n:ByteArray}(h:n.data.toList≠[]):n.toList.isEmpty=false:=by
 rw[ByteArray.toList_eq];cases hn:n.data.toList with
 |nil=>exact absurd hn h
 |cons a l=>rfl
def EndG(n:ByteArray)(kind side:Int)(v:Value)(w':World):Prop:=∃k:GC,v=.tuple #[k.agg,.int .i64 (qa2 n kind)]∧k.c=cutE n kind side∧k.ok w'
theorem qqv(n:ByteArray)(side:Int)(w:World)(hs:side=1∨side=-1)(hn:n.size≤5000)(h:n.data.toList=[]):Calls Tryz.prog 122 #[.string n,.int .i64 2,.int .i64 side] w (RetP (EndG n 2 side) w):=by
 have hw:IntKind.i64.wrap (-side)=-side:=IntWalk.i64_in _ (by omega);have e0:qa2 n 2=0:=by unfold qa2;rw[if_pos rfl,if_pos h]
 unfold EndG cutE;rw[e0,if_pos rfl];obtain rfl:=qrn h;have HR:=hI (Blk.new w #[.int .i64 0,.string ⟨#[]⟩,.int .i64 0,.bool false,.slice none 0 0,.bool false,.slice none 0 0] 79);clear hs h e0 hn
 go_enter Tryz.func122,Tryz.ntmps122
 go_wp2_with fail
 exact bodyPost_ret (v:=.tuple #[.agg #[.int .i64 (-side),.string ⟨#[]⟩,.int .i64 0,.bool false,.slice none 0 0,.bool false,.slice none 0 0],.int .i64 0]) (by simp[results,Tryz.results122,go_sem]) rfl ⟨_,rfl,⟨⟨⟨-side,⟨#[]⟩,0⟩,false,none,0,0,false,none,0,0⟩,rfl,by simp[qd0],GC.inf_ok _ _⟩,qac w _⟩
theorem qkb(n:ByteArray)(side:Int)(w:World)(_hs:side=1∨side=-1)(_hn:n.size≤5000)(h:n.data.toList≠[]):Calls Tryz.prog 122 #[.string n,.int .i64 2,.int .i64 side] w (RetP (EndG n 2 side) w):=by
 have e0:qa2 n 2=3:=by unfold qa2;rw[if_pos rfl,if_neg h]
 unfold EndG cutE;rw[e0,if_neg (by decide)];have he:=qt6 h;have HR:=hI (Blk.new w #[.int .i64 0,.string ⟨#[]⟩,.int .i64 0,.bool false,.slice none 0 0,.bool false,.slice none 0 0] 79);clear _hs h e0 _hn
 go_enter Tryz.func122,Tryz.ntmps122
 go_wp2_with fail
 exact bodyPost_ret (v:=.tuple #[.agg #[.int .i64 0,.string ⟨#[]⟩,.int .i64 0,.bool false,.slice none 0 0,.bool false,.slice none 0 0],.int .i64 3]) (by simp[results,Tryz.results122,go_sem]) rfl ⟨_,rfl,⟨GC.none0,rfl,rfl,GC.none0_ok _⟩,qac w _⟩
theorem qos(n:ByteArray)(side:Int)(w:World)(hs:side=1∨side=-1)(hn:n.size≤5000)(h:errL n.data.toList=0):Calls Tryz.prog 122 #[.string n,.int .i64 0,.int .i64 side] w (RetP (EndG n 0 side) w):=by
 have hw:IntKind.i64.wrap (-side)=-side:=IntWalk.i64_in _ (by omega);have H:=hI (fun w'=>qk0 n w' hn);have hn60:=hI hn;have e0:qa2 n 0=0:=by unfold qa2;rw[if_neg (by decide)];exact h
 unfold EndG cutE qfj at*;rw[e0,if_pos rfl];rw[h]at H;have HR:=hI (Blk.new w #[.int .i64 0,.string ⟨#[]⟩,.int .i64 0,.bool false,.slice none 0 0,.bool false,.slice none 0 0] 79);clear hs h e0 hn;clear hw
 go_enter Tryz.func122,Tryz.ntmps122
 go_wp2_with (go_at_call 63;refine(H.out _).mono ?_;rintro e w3 ⟨v,rfl,⟨x5,a5,n5,c5,y5,e5,m5,k5,rfl,hv,hau,hau'⟩,hb3⟩;have hr:=(HR.out.below hb3).old (.cells #[.bool x5,.slice a5 n5 c5,.bool y5,.slice e5 m5 k5] 77);obtain⟨r0,r1,r2,r3,r4,r5,r6⟩:=qa4 hr (Below.refl _ _);obtain⟨f0,f1,f2,f3,f4,f5,f6⟩:=qmm hr;have hk6:GC.ok w3 ⟨⟨0,n,side⟩,x5,a5,n5,c5,y5,e5,m5,k5⟩:=⟨hv,⟨hau,hau'⟩,hn60.out⟩;have hk7:=(hk6.mono (qac w3 (.cells #[.bool x5,.slice a5 n5 c5,.bool y5,.slice e5 m5 k5] 77))).setN hr noU7 [.int .i64 0,.string n,.int .i64 (side),.bool x5,.slice a5 n5 c5,.bool y5,.slice e5 m5 k5] (qeu ⟨⟨0,n,side⟩,x5,a5,n5,c5,y5,e5,m5,k5⟩);have hb7:=qcz hr [.int .i64 0,.string n,.int .i64 (side),.bool x5,.slice a5 n5 c5,.bool y5,.slice e5 m5 k5] rfl;have hbel:=qbh (b:=w.heap.size) (Nat.le_refl _) [.int .i64 0,.string n,.int .i64 (side),.bool x5,.slice a5 n5 c5,.bool y5,.slice e5 m5 k5] 0 _ (((qac w (.cells #[.int .i64 0,.string ⟨#[]⟩,.int .i64 0,.bool false,.slice none 0 0,.bool false,.slice none 0 0] 79)).via hb3 (qac w _).size).via (qac w3 (.cells #[.bool x5,.slice a5 n5 c5,.bool y5,.slice e5 m5 k5] 77)) (Nat.le_trans (qac w _).size hb3.size));simp only[setN,Nat.zero_add,Nat.reduceAdd]at hk7 hb7 hbel;have Hk7:=hI hk7;have Hb7:=hI hb7;have Hbel:=hI hbel;clear hk6 hk7 hb7 hbel hr hv hb3 hau hau')
 obtain⟨q0,q1,q2,q3,q4,q5,q6⟩:=qa4 Hb7.out (Below.refl _ _);exact bodyPost_ret (v:=.tuple #[.agg #[.int .i64 0,.string n,.int .i64 (side),.bool x5,.slice a5 n5 c5,.bool y5,.slice e5 m5 k5],.int .i64 0]) (by simp[results,Tryz.results122,go_sem,q0,q1,q2,q3,q4,q5,q6]) rfl ⟨_,rfl,⟨⟨⟨0,n,side⟩,x5,a5,n5,c5,y5,e5,m5,k5⟩,rfl,rfl,Hk7.out⟩,Hbel.out⟩
theorem qou(n:ByteArray)(side:Int)(w:World)(_hs:side=1∨side=-1)(hn:n.size≤5000)(h:errL n.data.toList≠0):Calls Tryz.prog 122 #[.string n,.int .i64 0,.int .i64 side] w (RetP (EndG n 0 side) w):=by
 have H:=hI (fun w'=>qk0 n w' hn);have e0:qa2 n 0=errL n.data.toList:=by unfold qa2;rw[if_neg (by decide)]
 unfold EndG cutE qfj at*;rw[e0,if_neg h];have HR:=hI (Blk.new w #[.int .i64 0,.string ⟨#[]⟩,.int .i64 0,.bool false,.slice none 0 0,.bool false,.slice none 0 0] 79);generalize errL n.data.toList=code at*;have hc:(code !=0)=true:=by rw[bne_iff_ne];exact h
 clear _hs e0 hn h
 go_enter Tryz.func122,Tryz.ntmps122
 go_wp2_with (go_at_call 63;refine(H.out _).mono ?_;rintro e w3 ⟨v,rfl,⟨x5,a5,n5,c5,y5,e5,m5,k5,rfl,-,-,-⟩,hb3⟩;have hr:=(HR.out.below hb3).old (.cells #[.bool x5,.slice a5 n5 c5,.bool y5,.slice e5 m5 k5] 77);obtain⟨r0,r1,r2,r3,r4,r5,r6⟩:=qa4 hr (Below.refl _ _);obtain⟨f0,f1,f2,f3,f4,f5,f6⟩:=qmm hr;have hb7:=qcz hr [.int .i64 0,.string ⟨#[]⟩,.int .i64 0,.bool false,.slice none 0 0,.bool false,.slice none 0 0] rfl;have hbel:=qbh (b:=w.heap.size) (Nat.le_refl _) [.int .i64 0,.string ⟨#[]⟩,.int .i64 0,.bool false,.slice none 0 0,.bool false,.slice none 0 0] 0 _ (((qac w (.cells #[.int .i64 0,.string ⟨#[]⟩,.int .i64 0,.bool false,.slice none 0 0,.bool false,.slice none 0 0] 79)).via hb3 (qac w _).size).via (qac w3 (.cells #[.bool x5,.slice a5 n5 c5,.bool y5,.slice e5 m5 k5] 77)) (Nat.le_trans (qac w _).size hb3.size));simp only[setN,Nat.zero_add,Nat.reduceAdd]at hb7 hbel;have Hb7:=hI hb7;have Hbel:=hI hbel;clear hb7 hbel hr hb3)
 obtain⟨q0,q1,q2,q3,q4,q5,q6⟩:=qa4 Hb7.out (Below.refl _ _);exact bodyPost_ret (v:=.tuple #[.agg #[.int .i64 0,.string ⟨#[]⟩,.int .i64 0,.bool false,.slice none 0 0,.bool false,.slice none 0 0],.int .i64 code]) (by simp[results,Tryz.results122,go_sem,q0,q1,q2,q3,q4,q5,q6]) rfl ⟨_,rfl,⟨GC.none0,rfl,rfl,GC.none0_ok _⟩,Hbel.out⟩
theorem qor(n:ByteArray)(side:Int)(w:World)(hs:side=1∨side=-1)(hn:n.size≤5000)(h:errL n.data.toList=0):Calls Tryz.prog 122 #[.string n,.int .i64 1,.int .i64 side] w (RetP (EndG n 1 side) w):=by
 have hw:IntKind.i64.wrap (-side)=-side:=IntWalk.i64_in _ (by omega);have H:=hI (fun w'=>qk0 n w' hn);have hn60:=hI hn;have e0:qa2 n 1=0:=by unfold qa2;rw[if_neg (by decide)];exact h
 unfold EndG cutE qfj at*;rw[e0,if_pos rfl];rw[h]at H;have HR:=hI (Blk.new w #[.int .i64 0,.string ⟨#[]⟩,.int .i64 0,.bool false,.slice none 0 0,.bool false,.slice none 0 0] 79);clear hs h e0 hn
 go_enter Tryz.func122,Tryz.ntmps122
 go_wp2_with (go_at_call 63;refine(H.out _).mono ?_;rintro e w3 ⟨v,rfl,⟨x5,a5,n5,c5,y5,e5,m5,k5,rfl,hv,hau,hau'⟩,hb3⟩;have hr:=(HR.out.below hb3).old (.cells #[.bool x5,.slice a5 n5 c5,.bool y5,.slice e5 m5 k5] 77);obtain⟨r0,r1,r2,r3,r4,r5,r6⟩:=qa4 hr (Below.refl _ _);obtain⟨f0,f1,f2,f3,f4,f5,f6⟩:=qmm hr;have hk6:GC.ok w3 ⟨⟨0,n,-side⟩,x5,a5,n5,c5,y5,e5,m5,k5⟩:=⟨hv,⟨hau,hau'⟩,hn60.out⟩;have hk7:=(hk6.mono (qac w3 (.cells #[.bool x5,.slice a5 n5 c5,.bool y5,.slice e5 m5 k5] 77))).setN hr noU7 [.int .i64 0,.string n,.int .i64 (-side),.bool x5,.slice a5 n5 c5,.bool y5,.slice e5 m5 k5] (qeu ⟨⟨0,n,-side⟩,x5,a5,n5,c5,y5,e5,m5,k5⟩);have hb7:=qcz hr [.int .i64 0,.string n,.int .i64 (-side),.bool x5,.slice a5 n5 c5,.bool y5,.slice e5 m5 k5] rfl;have hbel:=qbh (b:=w.heap.size) (Nat.le_refl _) [.int .i64 0,.string n,.int .i64 (-side),.bool x5,.slice a5 n5 c5,.bool y5,.slice e5 m5 k5] 0 _ (((qac w (.cells #[.int .i64 0,.string ⟨#[]⟩,.int .i64 0,.bool false,.slice none 0 0,.bool false,.slice none 0 0] 79)).via hb3 (qac w _).size).via (qac w3 (.cells #[.bool x5,.slice a5 n5 c5,.bool y5,.slice e5 m5 k5] 77)) (Nat.le_trans (qac w _).size hb3.size));simp only[setN,Nat.zero_add,Nat.reduceAdd]at hk7 hb7 hbel;have Hk7:=hI hk7;have Hb7:=hI hb7;have Hbel:=hI hbel;clear hk6 hk7 hb7 hbel hr hv hb3 hau hau')
 obtain⟨q0,q1,q2,q3,q4,q5,q6⟩:=qa4 Hb7.out (Below.refl _ _);exact bodyPost_ret (v:=.tuple #[.agg #[.int .i64 0,.string n,.int .i64 (-side),.bool x5,.slice a5 n5 c5,.bool y5,.slice e5 m5 k5],.int .i64 0]) (by simp[results,Tryz.results122,go_sem,q0,q1,q2,q3,q4,q5,q6]) rfl ⟨_,rfl,⟨⟨⟨0,n,-side⟩,x5,a5,n5,c5,y5,e5,m5,k5⟩,rfl,rfl,Hk7.out⟩,Hbel.out⟩
theorem qot(n:ByteArray)(side:Int)(w:World)(_hs:side=1∨side=-1)(hn:n.size≤5000)(h:errL n.data.toList≠0):Calls Tryz.prog 122 #[.string n,.int .i64 1,.int .i64 side] w (RetP (EndG n 1 side) w):=by
 have H:=hI (fun w'=>qk0 n w' hn);have e0:qa2 n 1=errL n.data.toList:=by unfold qa2;rw[if_neg (by decide)]
 unfold EndG cutE qfj at*;rw[e0,if_neg h];have HR:=hI (Blk.new w #[.int .i64 0,.string ⟨#[]⟩,.int .i64 0,.bool false,.slice none 0 0,.bool false,.slice none 0 0] 79);generalize errL n.data.toList=code at*;have hc:(code !=0)=true:=by rw[bne_iff_ne];exact h
 clear _hs e0 hn h
 go_enter Tryz.func122,Tryz.ntmps122
 go_wp2_with (go_at_call 63;refine(H.out _).mono ?_;rintro e w3 ⟨v,rfl,⟨x5,a5,n5,c5,y5,e5,m5,k5,rfl,-,-,-⟩,hb3⟩;have hr:=(HR.out.below hb3).old (.cells #[.bool x5,.slice a5 n5 c5,.bool y5,.slice e5 m5 k5] 77);obtain⟨r0,r1,r2,r3,r4,r5,r6⟩:=qa4 hr (Below.refl _ _);obtain⟨f0,f1,f2,f3,f4,f5,f6⟩:=qmm hr;have hb7:=qcz hr [.int .i64 0,.string ⟨#[]⟩,.int .i64 0,.bool false,.slice none 0 0,.bool false,.slice none 0 0] rfl;have hbel:=qbh (b:=w.heap.size) (Nat.le_refl _) [.int .i64 0,.string ⟨#[]⟩,.int .i64 0,.bool false,.slice none 0 0,.bool false,.slice none 0 0] 0 _ (((qac w (.cells #[.int .i64 0,.string ⟨#[]⟩,.int .i64 0,.bool false,.slice none 0 0,.bool false,.slice none 0 0] 79)).via hb3 (qac w _).size).via (qac w3 (.cells #[.bool x5,.slice a5 n5 c5,.bool y5,.slice e5 m5 k5] 77)) (Nat.le_trans (qac w _).size hb3.size));simp only[setN,Nat.zero_add,Nat.reduceAdd]at hb7 hbel;have Hb7:=hI hb7;have Hbel:=hI hbel;clear hb7 hbel hr hb3)
 obtain⟨q0,q1,q2,q3,q4,q5,q6⟩:=qa4 Hb7.out (Below.refl _ _);exact bodyPost_ret (v:=.tuple #[.agg #[.int .i64 0,.string ⟨#[]⟩,.int .i64 0,.bool false,.slice none 0 0,.bool false,.slice none 0 0],.int .i64 code]) (by simp[results,Tryz.results122,go_sem,q0,q1,q2,q3,q4,q5,q6]) rfl ⟨_,rfl,⟨GC.none0,rfl,rfl,GC.none0_ok _⟩,Hbel.out⟩
theorem qs7(n:ByteArray)(kind side:Int)(w:World)(hs:side=1∨side=-1)(hk:0≤kind∧kind≤2)(hn:n.size≤5000):Calls Tryz.prog 122 #[.string n,.int .i64 kind,.int .i64 side] w (RetP (EndG n kind side) w):=by
 have h3:kind=0∨kind=1∨kind=2:=by omega
 rcases h3 with rfl|rfl|rfl
 ·by_cases h:errL n.data.toList=0
  ·exact qos n side w hs hn h
  ·exact qou n side w hs hn h
 ·by_cases h:errL n.data.toList=0
  ·exact qor n side w hs hn h
  ·exact qot n side w hs hn h
 ·by_cases h:n.data.toList=[]
  ·exact qqv n side w hs hn h
  ·exact qkb n side w hs hn h
end Go.Proofs.YtacihodamichhaaGreatDoor
