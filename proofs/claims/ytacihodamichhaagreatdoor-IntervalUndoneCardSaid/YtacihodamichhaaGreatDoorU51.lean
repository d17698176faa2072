/- The card of IntervalUndone holds: for every input the law returns true and the input reads as it did; its conditions are those that the card itself names (the tables of the library as they are laid). -/
import Derived.Test.YtacihodamichhaaGreatDoorCards
import Derived.Test.YtacihodamichhaaGreatDoorTie
import Derived.OpenShut
import Derived.LaidMore
import Derived.Lay
import Derived.SevenTiedAt
import Derived.Test.YtacihodamichhaaGreatDoorU50
namespace Go.Proofs.YtacihodamichhaaGreatDoor
open Go.ChangeShapes Go.WideShapes Go.ChangeAt Go.RowKit
theorem own:ownKnob Tryz.prog.godebug=none:=by kernel_rfl
theorem qwu{W:World}(h:laidMetH Tryz.prog Rows.intervalUndoneRow.laid W):Tab W:=by
 rw[MakeChecks.laidMetH_plain _ _ _ (by kernel_rfl)]at h;obtain⟨ps,⟨_,_,_,_,_,_,_,_,_,_,⟨_,_,_,_,_,_,_,_,_,_,⟨g,t,cs,fuel,p,q,hg,ht,hvar,hd,_,_⟩,_⟩,_⟩,_⟩:=h;have hg2:Tryz.prog.globalNamed "internal/strconv.uint64pow10"=some ((Tryz.prog.globalNamed "internal/strconv.uint64pow10").getD 0):=by kernel_rfl
 obtain rfl:=Option.some.inj (hg2.symm.trans hg);have ht2:(Tryz.prog.globals[(Tryz.prog.globalNamed "internal/strconv.uint64pow10").getD 0]?).map (·.type)=some (((Tryz.prog.globals[(Tryz.prog.globalNamed "internal/strconv.uint64pow10").getD 0]?).map (·.type)).getD 0):=by kernel_rfl
 obtain rfl:=Option.some.inj (ht2.symm.trans ht);unfold Tab Lib.TabIs;rw[hvar,←Lib.cells_of_tab (k:=.u64) (zs:=Lib.pow10Tab) (n:=20) (e:=158) (by kernel_rfl) (by kernel_rfl) (by kernel_rfl) (by kernel_rfl) hd]
set_option maxRecDepth 100000 in
theorem lifted(os:Os)(started:os.Started)(H:Type)(enc:TypeId × Value→H):
  ReturnsInHanded {} Tryz.checked os 11 .any (fun w args=>(Rows.intervalUndoneSpec.pre enc Tryz.prog Tryz.f11 [] false w args∧laidMetH Tryz.prog Rows.intervalUndoneRow.laid w)∧sizedMet enc Tryz.prog Tryz.f11 (OpenSpec.ofChange Rows.intervalUndoneSpec) false w args)
   (Rows.intervalUndoneSpec.post enc Tryz.prog Tryz.f11 false true false false):=by
 refine returnsInHanded_of_change_and (C:=Tryz.checked) (X:=fun w _=>laidMetH Tryz.prog Rows.intervalUndoneRow.laid w) (fun _ _ _ hh h=>h.of_heap hh) own started (by kernel_rfl) Tryz.func11
  (ChangeSpec.witness_shaped (enc:=enc) (C:=Tryz.checked) (os:=os) (X:=fun w _=>laidMetH Tryz.prog Rows.intervalUndoneRow.laid w) false (World.laidAll Tryz.prog os Rows.intervalUndoneRow.laid) #[.slice none 0 0,.slice none 0 0,.agg #[.int .i8 0,.int .i8 0,.int .i8 0]] 8 (World.laidAll_os _ _ _)
   (World.shaped_of_ZipB (by kernel_rfl) (by kernel_rfl)) (by kernel_rfl) (by kernel_rfl) (by kernel_rfl)
   (by rw[MakeChecks.laidMetH_plain _ _ _ (by kernel_rfl)];exact laidMet_laidAll _ (by kernel_rfl) (by kernel_rfl))) ?_
 intro W base args ds gs before hval0 hW _ _ hL _;have hval:∀(j:Nat) t v,Tryz.f11.params[j]?=some t→args[j]?=some v→Value.okWide Tryz.prog W .any base t v:=hval0;have hW':=hW;obtain⟨p,q,hA0,hV,rfl,_,_⟩:=hW;have hA:DataW.TrodAll enc Tryz.prog W 0 (fun _=>true) true Tryz.f11.params.toList args.toList ds p:=hA0;rw[Tryz.params11]at hA hval;obtain⟨v0,v1,v2,d0,d1,d2,p0,p1,p2,rfl,rfl,rfl,h0,h1,h2⟩:=trodAll_three hA;obtain⟨rfl,rfl⟩:=trodVars_none hV;obtain⟨x0,hx0⟩:=qhv (hval 0 22 v0 rfl rfl) h0;obtain⟨x1,hx1⟩:=qhv (hval 1 22 v1 rfl rfl) h1;obtain⟨q0,q1,q2,rfl,wa,wb,wc⟩:=qlm ⟨by kernel_rfl,by kernel_rfl,by kernel_rfl,by kernel_rfl⟩ Tryz.underlying64 (hval 2 65 v2 rfl rfl) h2;have hq:-128≤q0∧q0≤127:=by simpa[Lit.wf,IntKind.min,IntKind.max,IntKind.signed,IntKind.bits]using wa
 have hq2:-128≤q2∧q2≤127:=by simpa[Lit.wf,IntKind.min,IntKind.max,IntKind.signed,IntKind.bits]using wc
 simp only[List.append_nil]at hW';refine(qn2 v0 x0 v1 x1 q0 q1 q2 W hx0 hx1 hq hq2 (qwu hL)).mono fun e W' ⟨he,hb⟩=>?_
 subst he;refine⟨_,rfl,qi7 (pa:=p0++(p1++p2)) (pv:=[]) hW' (fun _ _ _=>trodAll_mk1 (shut_bool Tryz.underlying4 true)) (fun sp hsp=>?_) (fun _ _=>rfl) (by simp) hb (ok_one (by kernel_rfl) rfl (okWide_bool_mk Tryz.underlying4 true))⟩
 have hlt:∀x∈p0++p1++p2,x.block<W.heap.size:=fun x hx=>hW'.lt x hx
 exact trodAll_mk3 (WideElems.Trod_stays qe8 (by kernel_rfl) (of_decide_eq_true (by kernel_rfl)) h0 (fun x hx=>hb.same (hlt x (by simp[hx]))) (fun x hx=>hsp x (by simp[hx])))
  (WideElems.Trod_stays qe8 (by kernel_rfl) (of_decide_eq_true (by kernel_rfl)) h1 (fun x hx=>hb.same (hlt x (by simp[hx]))) (fun x hx=>hsp x (by simp[hx])))
  (WideElems.Trod_stays qe8 (by kernel_rfl) (of_decide_eq_true (by kernel_rfl)) h2 (fun x hx=>hb.same (hlt x (by simp[hx]))) (fun x hx=>hsp x (by simp[hx])))
theorem qx8:(Rows.intervalUndoneRow.inPlace==Tryz.prog.inPlace 11)=true:=by kernel_rfl
theorem qx7:(Rows.intervalUndoneRow.unfollowed==Tryz.prog.unfollowed 11)=true:=by kernel_rfl
theorem qx6:(Rows.intervalUndoneRow.recurses==Tryz.prog.recurses 11)=true:=by kernel_rfl
theorem qx5:(Rows.intervalUndoneRow.named==Tryz.prog.varsNamed 11)=true:=by kernel_rfl
theorem facts:joinedFacts Tryz.prog 11 Tryz.f11 Rows.intervalUndoneSpec Rows.intervalUndoneRow=true:=by
 unfold joinedFacts;rw[qx8,qx7,qx6,qx5]
 kernel_rfl
theorem holds:Rows.IntervalUndoneSaid:=
 OpenClaim.holds_of_wide 11 Tryz.f11 rfl rfl rfl rfl rfl rfl rfl ⟨rfl,rfl,rfl,rfl,rfl⟩ rfl rfl rfl rfl rfl (by kernel_rfl) Tryz.func11 facts
  (of_decide_eq_true (by kernel_rfl)) (by unfold Func.isWrapper;first|(rw[if_pos (by decide+kernel)];kernel_rfl)|(rw[if_neg (by decide+kernel)];exact⟨rfl,rfl⟩))
  (fun os started H enc _=>lifted os started H enc)
theorem card_holds:Rows.IntervalUndoneCardSaid:=
 Claim7.holds_tied_plain_at .later [] [.data,.data,.data,.data,.sentinel,.sentinel,.pinned] true (true,"de555170af92a675662fc8c55259e069d37d98ebe2ca20e51011936a24d26fa3") true holds (fun _ h=>by cases h) (by kernel_rfl) (fun _ h=>by cases h) intervalUndone_row_tie rfl ⟨rfl,rfl⟩ (by kernel_rfl) rfl
  (fun f fn hf hfn=>by
   obtain rfl:f=11:=Option.some.inj ((show Tryz.prog.funcNamed Tryz.f11.name=some 11 by kernel_rfl).symm.trans hf) |>.symm
   obtain rfl:fn=Tryz.f11:=(Option.some.inj (Tryz.func11.symm.trans hfn)).symm
   exact⟨by kernel_rfl,fun j t ht=>by
    rw[Tryz.params11]at ht;have hm:t∈[22,22,65]:=by simpa using Array.mem_of_getElem? ht
    have hall:([22,22,65].all fun u=>!Tryz.prog.wantsStandIn u)=true:=by kernel_rfl
    exact(show Tryz.prog.wantsStandIn t=false by simpa using List.all_eq_true.1 hall t hm)⟩)
  (by kernel_rfl)
end Go.Proofs.YtacihodamichhaaGreatDoor
