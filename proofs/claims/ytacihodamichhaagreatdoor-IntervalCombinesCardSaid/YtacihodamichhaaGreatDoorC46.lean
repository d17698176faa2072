/- The card of IntervalCombines holds: for every input the law returns true and the input reads as it did; its conditions are those that the card itself names (the tables of the library as they are laid). -/
import Derived.Test.YtacihodamichhaaGreatDoorCards
import Derived.Test.YtacihodamichhaaGreatDoorTie
import Derived.OpenShut
import Derived.LaidMore
import Derived.Lay
import Derived.SevenTiedAt
import Derived.Test.YtacihodamichhaaGreatDoorC45
namespace Go.Proofs.YtacihodamichhaaGreatDoor
open Go.RowKit
open Go.ChangeShapes Go.WideShapes Go.ChangeAt Go.RowKit
theorem own:ownKnob Tryz.prog.godebug=none:=by kernel_rfl
set_option maxRecDepth 100000 in
theorem lifted(os:Os)(started:os.Started)(H:Type)(enc:TypeId × Value→H):
  ReturnsInHanded {} Tryz.checked os 8 .any (fun w args=>(Rows.intervalCombinesSpec.pre enc Tryz.prog Tryz.f8 [] false w args∧laidMetH Tryz.prog Rows.intervalCombinesRow.laid w)∧sizedMet enc Tryz.prog Tryz.f8 (OpenSpec.ofChange Rows.intervalCombinesSpec) false w args)
   (Rows.intervalCombinesSpec.post enc Tryz.prog Tryz.f8 false true false false):=by
 refine returnsInHanded_of_change_and (C:=Tryz.checked) (X:=fun w _=>laidMetH Tryz.prog Rows.intervalCombinesRow.laid w) (fun _ _ _ hh h=>h.of_heap hh) own started (by kernel_rfl) Tryz.func8
  (ChangeSpec.witness_shaped (enc:=enc) (C:=Tryz.checked) (os:=os) (X:=fun w _=>laidMetH Tryz.prog Rows.intervalCombinesRow.laid w) false (World.laidAll Tryz.prog os Rows.intervalCombinesRow.laid) #[.slice none 0 0,.slice none 0 0] 8 (World.laidAll_os _ _ _)
   (World.shaped_of_ZipB (by kernel_rfl) (by kernel_rfl)) (by kernel_rfl) (by kernel_rfl) (by kernel_rfl)
   (by rw[MakeChecks.laidMetH_plain _ _ _ (by kernel_rfl)];exact laidMet_laidAll _ (by kernel_rfl) (by kernel_rfl))) ?_
 intro W base args ds gs before hval0 hW _ _ hL _;have hval:∀(j:Nat) t v,Tryz.f8.params[j]?=some t→args[j]?=some v→Value.okWide Tryz.prog W .any base t v:=hval0;have hW':=hW;obtain⟨p,q,hA0,hV,rfl,_,_⟩:=hW;have hA:DataW.TrodAll enc Tryz.prog W 0 (fun _=>true) true Tryz.f8.params.toList args.toList ds p:=hA0;rw[Tryz.params8]at hA hval;obtain⟨v0,v1,d0,d1,p0,p1,rfl,rfl,rfl,h0,h1⟩:=trodAll_two hA;obtain⟨rfl,rfl⟩:=trodVars_none hV;obtain⟨x0,hx0⟩:=qgw (hval 0 22 v0 rfl rfl) h0;obtain⟨x1,hx1⟩:=qgw (hval 1 22 v1 rfl rfl) h1;simp only[List.append_nil]at hW';refine(qjt v0 x0 v1 x1 W hx0 hx1).mono fun e W' ⟨he,hb⟩=>?_
 subst he;refine⟨_,rfl,qh7 (pa:=p0++p1) (pv:=[]) hW' (fun _ _ _=>trodAll_mk1 (shut_bool Tryz.underlying4 true)) (fun sp hsp=>?_) (fun _ _=>rfl) (by simp) hb (ok_one (by kernel_rfl) rfl (okWide_bool_mk Tryz.underlying4 true))⟩
 have hlt:∀x∈p0++p1,x.block<W.heap.size:=fun x hx=>hW'.lt x hx
 exact trodAll_mk2 (WideElems.Trod_stays qgd (by kernel_rfl) (of_decide_eq_true (by kernel_rfl)) h0 (fun x hx=>hb.same (hlt x (by simp[hx]))) (fun x hx=>hsp x (by simp[hx])))
  (WideElems.Trod_stays qgd (by kernel_rfl) (of_decide_eq_true (by kernel_rfl)) h1 (fun x hx=>hb.same (hlt x (by simp[hx]))) (fun x hx=>hsp x (by simp[hx])))
theorem qu8:(Rows.intervalCombinesRow.inPlace==Tryz.prog.inPlace 8)=true:=by kernel_rfl
theorem qu7:(Rows.intervalCombinesRow.unfollowed==Tryz.prog.unfollowed 8)=true:=by kernel_rfl
theorem qu6:(Rows.intervalCombinesRow.recurses==Tryz.prog.recurses 8)=true:=by kernel_rfl
theorem qu5:(Rows.intervalCombinesRow.named==Tryz.prog.varsNamed 8)=true:=by kernel_rfl
theorem facts:joinedFacts Tryz.prog 8 Tryz.f8 Rows.intervalCombinesSpec Rows.intervalCombinesRow=true:=by
 unfold joinedFacts;rw[qu8,qu7,qu6,qu5]
 kernel_rfl
theorem holds:Rows.IntervalCombinesSaid:=
 OpenClaim.holds_of_wide 8 Tryz.f8 rfl rfl rfl rfl rfl rfl rfl ⟨rfl,rfl,rfl,rfl,rfl⟩ rfl rfl rfl rfl rfl (by kernel_rfl) Tryz.func8 facts
  (of_decide_eq_true (by kernel_rfl)) (by unfold Func.isWrapper;first|(rw[if_pos (by decide+kernel)];kernel_rfl)|(rw[if_neg (by decide+kernel)];exact⟨rfl,rfl⟩))
  (fun os started H enc _=>lifted os started H enc)
theorem card_holds:Rows.IntervalCombinesCardSaid:=
 Claim7.holds_tied_plain_at .later [] [.data,.data,.data,.data,.sentinel,.sentinel,.pinned] true (true,"de555170af92a675662fc8c55259e069d37d98ebe2ca20e51011936a24d26fa3") true holds (fun _ h=>by cases h) (by kernel_rfl) (fun _ h=>by cases h) intervalCombines_row_tie rfl ⟨rfl,rfl⟩ (by kernel_rfl) rfl
  (fun f fn hf hfn=>by
   obtain rfl:f=8:=Option.some.inj ((show Tryz.prog.funcNamed Tryz.f8.name=some 8 by kernel_rfl).symm.trans hf) |>.symm
   obtain rfl:fn=Tryz.f8:=(Option.some.inj (Tryz.func8.symm.trans hfn)).symm
   exact⟨by kernel_rfl,fun j t ht=>by
    rw[Tryz.params8]at ht;have hm:t∈[22,22]:=by simpa using Array.mem_of_getElem? ht
    have hall:([22,22].all fun u=>!Tryz.prog.wantsStandIn u)=true:=by kernel_rfl
    exact(show Tryz.prog.wantsStandIn t=false by simpa using List.all_eq_true.1 hall t hm)⟩)
  (by kernel_rfl)
end Go.Proofs.YtacihodamichhaaGreatDoor
