/- Parts of the proof. -/
import Derived.Test.YtacihodamichhaaGreatDoorU43
set_option maxHeartbeats 32000000
namespace Go.Proofs.YtacihodamichhaaGreatDoor
open Go.RowKit
set_option maxRecDepth 10000 in
theorem qq8(u:Value)(lo hi:ByteArray)(le hk:Int)(xr:List Iv)(w:World)(hle:le=0)(hhe:hk=0)(h:Ivs w u (⟨lo,hi,le,hk⟩::xr))(hs:∀x∈(⟨lo,hi,le,hk⟩::xr:List Iv),x.short)(he:qa5 (⟨lo,hi,le,hk⟩::xr)=0)(hn:(⟨lo,hi,le,hk⟩::xr:List Iv).length≤256)(hT:Tab w):
  Calls Tryz.prog 18 #[u] w (Ret (.tuple #[.string ⟨(txtR ((ratS lo+ratS hi)/2)).toArray⟩,.bool true,.int .i64 0]) w):=by
 have HP:=hI (qgc u _ w h hs);unfold qh5 at HP;rw[he]at HP;have hie:qba (⟨lo,hi,le,hk⟩:Iv)=0:=qpm he hn;obtain⟨hcl,hch⟩:=qxp hie;have hsz1:=(hs _ List.mem_cons_self).1;have hsz2:=(hs _ List.mem_cons_self).2;dsimp only at hcl hch hsz1 hsz2;have HSz:=hI (And.intro (qcw hsz1 (by decide)) (qcw hsz2 (by decide)));have HKd:=hI (And.intro hle hhe);obtain⟨a,c,rfl,hc1,hc2⟩:=h.open;obtain⟨b,off,x,rfl,hx,c0,c1,c2,c3⟩:=h.at (Below.refl _ _) (show 0<(⟨lo,hi,le,hk⟩::xr:List Iv).length by simp);cases hx
 rw[Nat.zero_mul,Nat.add_zero]at c0 c1 c2 c3;dsimp only at c0 c1 c2 c3;have HC:=hI (And.intro c0 (And.intro c1 (And.intro c2 c3)));have Hcs0:=hI (And.intro hcl hch);have HT:=hI hT;obtain⟨N,hN⟩:∃N,(⟨lo,hi,le,hk⟩::xr:List Iv).length=N+1:=⟨xr.length,by simp⟩
 have HNl:=hI hN;rw[hN]at HP hn⊢;have hn1:(((N+1:Nat):Int)==0)=false:=by rw[beq_eq_false_iff_ne];omega
 have hn2:¬((N+1:Nat):Int)≤0:=by omega
 clear hle hhe h hs he hie hcl hch hsz1 hsz2 c0 c1 c2 c3 hc1 hc2 hT hN;generalize hNN:N+1=NN at*;have HNp:=hI (show 0<NN by omega);clear hNN;have hNq:=HNp.out
 go_enter Tryz.func18,Tryz.ntmps18
 go_wp2_with (go_at_call 56;refine(HP.out).mono ?_;rintro e w1 ⟨⟨v1,rfl,hq,-⟩,hb1⟩;obtain⟨ap,cp,ps,rfl,hps,hcs⟩:=hq (by first|rfl|trivial);have hl1:ps.length=NN:=(by have:=congrArg List.length hcs;rw[List.length_map,List.length_map]at this;rw[this];exact HNl.out);rw[hl1]at hps;rw[hl1];have Hps:=hI hps;have Hcs:=hI hcs;have Hb1:=hI hb1;clear hq hps hcs hb1)
 obtain⟨b2,off2,p,rfl,hp,hpok,hpc⟩:=qa0.at Hps.out (Below.refl _ _) HNp.out;rw[Nat.zero_mul,Nat.add_zero]at hpc;unfold qus at hpc
 have hpcut:p.cuts=((⟨lo,hi,le,hk⟩:Iv)).cuts:=by
  have h:=congrArg (fun l=>l[0]?) Hcs.out;simp only[List.getElem?_map,hp,List.getElem?_cons_zero,Option.map_some]at h;exact Option.some.inj h
 have hl:p.l.c.s=lo:=(congrArg (fun q=>q.1.s) hpcut).trans Hcs0.out.1;have hh:p.h.c.s=hi:=(congrArg (fun q=>q.2.s) hpcut).trans Hcs0.out.2;have hRL:RQ w1 (.agg #[.bool p.l.x,.slice p.l.a p.l.n p.l.cap,.bool p.l.y,.slice p.l.e p.l.m p.l.cap2]) (ratS lo):=by have:=qfc hpok.1.1;rw[hl]at this;exact this
 have hRH:RQ w1 (.agg #[.bool p.h.x,.slice p.h.a p.h.n p.h.cap,.bool p.h.y,.slice p.h.e p.h.m p.h.cap2]) (ratS hi):=by have:=qfc hpok.2.1;rw[hh]at this;exact this
 have HRR:=hI (And.intro hRL hRH);have hC1:=HC.out;have HSx:=hI (fun w' (hb:Below w1.heap.size w1 w')=>show w'.cell? ⟨b,off,none⟩=some (.string lo)∧w'.cell? ⟨b,off+1,none⟩=some (.string hi)∧w'.cell? ⟨b,off+2,none⟩=some (.int .i64 le)∧w'.cell? ⟨b,off+3,none⟩=some (.int .i64 hk)∧w'.cell? ⟨b2,off2+3,none⟩=some (.bool p.l.x)∧w'.cell? ⟨b2,off2+4,none⟩=some (.slice p.l.a p.l.n p.l.cap)∧w'.cell? ⟨b2,off2+5,none⟩=some (.bool p.l.y)∧w'.cell? ⟨b2,off2+6,none⟩=some (.slice p.l.e p.l.m p.l.cap2)∧w'.cell? ⟨b2,off2+10,none⟩=some (.bool p.h.x)∧w'.cell? ⟨b2,off2+11,none⟩=some (.slice p.h.a p.h.n p.h.cap)∧w'.cell? ⟨b2,off2+12,none⟩=some (.bool p.h.y)∧w'.cell? ⟨b2,off2+13,none⟩=some (.slice p.h.e p.h.m p.h.cap2)from⟨qab (Hb1.out.via hb Hb1.out.size) hC1.1,qab (Hb1.out.via hb Hb1.out.size) hC1.2.1,qab (Hb1.out.via hb Hb1.out.size) hC1.2.2.1,qab (Hb1.out.via hb Hb1.out.size) hC1.2.2.2,qab hb hpc.2.2.2.1,qab hb hpc.2.2.2.2.1,qab hb hpc.2.2.2.2.2.1,qab hb hpc.2.2.2.2.2.2.1,qab hb hpc.2.2.2.2.2.2.2.2.2.2.1,qab hb hpc.2.2.2.2.2.2.2.2.2.2.2.1,qab hb hpc.2.2.2.2.2.2.2.2.2.2.2.2.1,qab hb hpc.2.2.2.2.2.2.2.2.2.2.2.2.2⟩);clear hpc hpok hC1 hRL hRH hl hh hpcut hp;go_upto_region 6 with fail
 go_cut [7,8,9] (fun a7 a8 a9 wx=>∃b7 b8 b9:Nat,a7=.pointer (some ⟨b7,0,none⟩)∧a8=.pointer (some ⟨b8,0,none⟩)∧a9=.pointer (some ⟨b9,0,none⟩)∧Below w1.heap.size w1 wx∧Blk wx b7 #[.string lo,.string hi,.int .i64 le,.int .i64 hk] 46∧Blk wx b8 #[.bool p.l.x,.slice p.l.a p.l.n p.l.cap,.bool p.l.y,.slice p.l.e p.l.m p.l.cap2] 77∧Blk wx b9 #[.bool p.h.x,.slice p.h.a p.h.n p.h.cap,.bool p.h.y,.slice p.h.e p.h.m p.h.cap2] 77)
 case first=>
  refine wpRg HSx.out ((Below.refl w1.heap.size w1)).drew (by kernel_rfl) (fun hHeld=>?_)
  refine' tk 0 ?_;(try simp only[tkS]);refine' tk 1 ?_;(try simp only[tkS]);refine' tk 2 ?_;(try simp only[tkS]);refine' tk 3 ?_;(try simp only[tkS]);refine' tk 4 ?_;(try simp only[tkS]);refine' tk 5 ?_;(try simp only[tkS]);refine' tk 6 ?_;(try simp only[tkS]);refine' tk 7 ?_;(try simp only[tkS]);refine' tk 8 ?_;(try simp only[tkS]);refine' tk 9 ?_;(try simp only[tkS]);refine' tk 10 ?_;(try simp only[tkS]);refine' tk 11 ?_;(try simp only[tkS]);refine' tk 12 ?_;(try simp only[tkS]);refine wpAnyH_ready (rs:=[13,14,15]) (by kernel_rfl) (by simp) ?_
  refine AllReadyH.cons rfl (fun K hK=>?_) (AllReadyH.cons rfl (fun K hK=>?_) (AllReadyH.cons rfl (fun K hK=>?_) AllReadyH.nil))
  ·go_simp
   refine hK.out _ _ (by exact HSx.out _ ((qad (Below.refl w1.heap.size w1) (.cells #[.string ⟨#[]⟩,.string ⟨#[]⟩,.int .i64 0,.int .i64 0] 46))).drew) (fun hHeld=>?_)
   clear hK K;(try simp only[tkS]);refine wpAnyH_ready (rs:=[14,15]) (by kernel_rfl) (by simp) ?_
   refine AllReadyH.cons rfl (fun K hK=>?_) (AllReadyH.cons rfl (fun K hK=>?_) AllReadyH.nil)
   ·go_simp
    refine hK.out _ _ (by exact HSx.out _ ((qad (qad (Below.refl w1.heap.size w1) (.cells #[.string ⟨#[]⟩,.string ⟨#[]⟩,.int .i64 0,.int .i64 0] 46)) (.cells #[.bool false,.slice none 0 0,.bool false,.slice none 0 0] 77))).drew) (fun hHeld=>?_)
    clear hK K;(try simp only[tkS]);refine tk1 15 (fun K hK=>?_)
    go_simp;refine hK.out _ _ (by exact HSx.out _ ((qad (qad (qad (Below.refl w1.heap.size w1) (.cells #[.string ⟨#[]⟩,.string ⟨#[]⟩,.int .i64 0,.int .i64 0] 46)) (.cells #[.bool false,.slice none 0 0,.bool false,.slice none 0 0] 77)) (.cells #[.bool false,.slice none 0 0,.bool false,.slice none 0 0] 77))).drew) (fun hHeld=>?_)
    clear hK K;(try simp only[tkS]);refine tk1 16 (fun K hK=>?_)
    go_simp;refine hK.out _ _ (by exact HSx.out _ ((qad (qad (qad (Below.refl w1.heap.size w1) (.cells #[.string lo,.string hi,.int .i64 le,.int .i64 hk] 46)) (.cells #[.bool false,.slice none 0 0,.bool false,.slice none 0 0] 77)) (.cells #[.bool false,.slice none 0 0,.bool false,.slice none 0 0] 77))).drew) (fun hHeld=>?_)
    clear hK K;(try simp only[tkS]);refine tk1 17 (fun K hK=>?_)
    go_simp;refine hK.out _ _ (by exact HSx.out _ ((qad (qad (qad (Below.refl w1.heap.size w1) (.cells #[.string lo,.string hi,.int .i64 le,.int .i64 hk] 46)) (.cells #[.bool p.l.x,.slice p.l.a p.l.n p.l.cap,.bool p.l.y,.slice p.l.e p.l.m p.l.cap2] 77)) (.cells #[.bool false,.slice none 0 0,.bool false,.slice none 0 0] 77))).drew) (fun hHeld=>?_)
    clear hK K;(try simp only[tkS]);refine tk1 18 (fun K hK=>?_)
    go_simp;refine hK.out _ _ (by exact HSx.out _ ((qad (qad (qad (Below.refl w1.heap.size w1) (.cells #[.string lo,.string hi,.int .i64 le,.int .i64 hk] 46)) (.cells #[.bool p.l.x,.slice p.l.a p.l.n p.l.cap,.bool p.l.y,.slice p.l.e p.l.m p.l.cap2] 77)) (.cells #[.bool p.h.x,.slice p.h.a p.h.n p.h.cap,.bool p.h.y,.slice p.h.e p.h.m p.h.cap2] 77))).drew) (fun hHeld=>?_)
    clear hK K;(try simp only[tkS]);refine tkD ?_ _
    go_wp2_with fail
    go_meet;exact⟨_,_,_,rfl,rfl,rfl,(qdb w1 _ _ _ _ _ _).1.drew,Blk.drew (qdb w1 _ _ _ _ _ _).2.1,Blk.drew (qdb w1 _ _ _ _ _ _).2.2.1,Blk.drew (qdb w1 _ _ _ _ _ _).2.2.2⟩
   ·go_simp
    refine hK.out _ _ (by exact HSx.out _ ((qad (qad (Below.refl w1.heap.size w1) (.cells #[.string ⟨#[]⟩,.string ⟨#[]⟩,.int .i64 0,.int .i64 0] 46)) (.cells #[.bool false,.slice none 0 0,.bool false,.slice none 0 0] 77))).drew) (fun hHeld=>?_)
    clear hK K;(try simp only[tkS]);refine tk1 14 (fun K hK=>?_)
    go_simp;refine hK.out _ _ (by exact HSx.out _ ((qad (qad (qad (Below.refl w1.heap.size w1) (.cells #[.string ⟨#[]⟩,.string ⟨#[]⟩,.int .i64 0,.int .i64 0] 46)) (.cells #[.bool false,.slice none 0 0,.bool false,.slice none 0 0] 77)) (.cells #[.bool false,.slice none 0 0,.bool false,.slice none 0 0] 77))).drew) (fun hHeld=>?_)
    clear hK K;(try simp only[tkS]);refine tk1 16 (fun K hK=>?_)
    go_simp;refine hK.out _ _ (by exact HSx.out _ ((qad (qad (qad (Below.refl w1.heap.size w1) (.cells #[.string lo,.string hi,.int .i64 le,.int .i64 hk] 46)) (.cells #[.bool false,.slice none 0 0,.bool false,.slice none 0 0] 77)) (.cells #[.bool false,.slice none 0 0,.bool false,.slice none 0 0] 77))).drew) (fun hHeld=>?_)
    clear hK K;(try simp only[tkS]);refine tk1 17 (fun K hK=>?_)
    go_simp;refine hK.out _ _ (by exact HSx.out _ ((qad (qad (qad (Below.refl w1.heap.size w1) (.cells #[.string lo,.string hi,.int .i64 le,.int .i64 hk] 46)) (.cells #[.bool false,.slice none 0 0,.bool false,.slice none 0 0] 77)) (.cells #[.bool p.l.x,.slice p.l.a p.l.n p.l.cap,.bool p.l.y,.slice p.l.e p.l.m p.l.cap2] 77))).drew) (fun hHeld=>?_)
    clear hK K;(try simp only[tkS]);refine tk1 18 (fun K hK=>?_)
    go_simp;refine hK.out _ _ (by exact HSx.out _ ((qad (qad (qad (Below.refl w1.heap.size w1) (.cells #[.string lo,.string hi,.int .i64 le,.int .i64 hk] 46)) (.cells #[.bool p.h.x,.slice p.h.a p.h.n p.h.cap,.bool p.h.y,.slice p.h.e p.h.m p.h.cap2] 77)) (.cells #[.bool p.l.x,.slice p.l.a p.l.n p.l.cap,.bool p.l.y,.slice p.l.e p.l.m p.l.cap2] 77))).drew) (fun hHeld=>?_)
    clear hK K;(try simp only[tkS]);refine tkD ?_ _
    go_wp2_with fail
    go_meet;exact⟨_,_,_,rfl,rfl,rfl,(qdb w1 _ _ _ _ _ _).1.drew,Blk.drew (qdb w1 _ _ _ _ _ _).2.1,Blk.drew (qdb w1 _ _ _ _ _ _).2.2.2,Blk.drew (qdb w1 _ _ _ _ _ _).2.2.1⟩
  ·go_simp
   refine hK.out _ _ (by exact HSx.out _ ((qad (Below.refl w1.heap.size w1) (.cells #[.bool false,.slice none 0 0,.bool false,.slice none 0 0] 77))).drew) (fun hHeld=>?_)
   clear hK K;(try simp only[tkS]);refine wpAnyH_ready (rs:=[13,15]) (by kernel_rfl) (by simp) ?_
   refine AllReadyH.cons rfl (fun K hK=>?_) (AllReadyH.cons rfl (fun K hK=>?_) AllReadyH.nil)
   ·go_simp
    refine hK.out _ _ (by exact HSx.out _ ((qad (qad (Below.refl w1.heap.size w1) (.cells #[.bool false,.slice none 0 0,.bool false,.slice none 0 0] 77)) (.cells #[.string ⟨#[]⟩,.string ⟨#[]⟩,.int .i64 0,.int .i64 0] 46))).drew) (fun hHeld=>?_)
    clear hK K;(try simp only[tkS]);refine tk1 15 (fun K hK=>?_)
    go_simp;refine hK.out _ _ (by exact HSx.out _ ((qad (qad (qad (Below.refl w1.heap.size w1) (.cells #[.bool false,.slice none 0 0,.bool false,.slice none 0 0] 77)) (.cells #[.string ⟨#[]⟩,.string ⟨#[]⟩,.int .i64 0,.int .i64 0] 46)) (.cells #[.bool false,.slice none 0 0,.bool false,.slice none 0 0] 77))).drew) (fun hHeld=>?_)
    clear hK K;(try simp only[tkS]);refine tk1 16 (fun K hK=>?_)
    go_simp;refine hK.out _ _ (by exact HSx.out _ ((qad (qad (qad (Below.refl w1.heap.size w1) (.cells #[.bool false,.slice none 0 0,.bool false,.slice none 0 0] 77)) (.cells #[.string lo,.string hi,.int .i64 le,.int .i64 hk] 46)) (.cells #[.bool false,.slice none 0 0,.bool false,.slice none 0 0] 77))).drew) (fun hHeld=>?_)
    clear hK K;(try simp only[tkS]);refine tk1 17 (fun K hK=>?_)
    go_simp;refine hK.out _ _ (by exact HSx.out _ ((qad (qad (qad (Below.refl w1.heap.size w1) (.cells #[.bool p.l.x,.slice p.l.a p.l.n p.l.cap,.bool p.l.y,.slice p.l.e p.l.m p.l.cap2] 77)) (.cells #[.string lo,.string hi,.int .i64 le,.int .i64 hk] 46)) (.cells #[.bool false,.slice none 0 0,.bool false,.slice none 0 0] 77))).drew) (fun hHeld=>?_)
    clear hK K;(try simp only[tkS]);refine tk1 18 (fun K hK=>?_)
    go_simp;refine hK.out _ _ (by exact HSx.out _ ((qad (qad (qad (Below.refl w1.heap.size w1) (.cells #[.bool p.l.x,.slice p.l.a p.l.n p.l.cap,.bool p.l.y,.slice p.l.e p.l.m p.l.cap2] 77)) (.cells #[.string lo,.string hi,.int .i64 le,.int .i64 hk] 46)) (.cells #[.bool p.h.x,.slice p.h.a p.h.n p.h.cap,.bool p.h.y,.slice p.h.e p.h.m p.h.cap2] 77))).drew) (fun hHeld=>?_)
    clear hK K;(try simp only[tkS]);refine tkD ?_ _
    go_wp2_with fail
    go_meet;exact⟨_,_,_,rfl,rfl,rfl,(qdb w1 _ _ _ _ _ _).1.drew,Blk.drew (qdb w1 _ _ _ _ _ _).2.2.1,Blk.drew (qdb w1 _ _ _ _ _ _).2.1,Blk.drew (qdb w1 _ _ _ _ _ _).2.2.2⟩
   ·go_simp
    refine hK.out _ _ (by exact HSx.out _ ((qad (qad (Below.refl w1.heap.size w1) (.cells #[.bool false,.slice none 0 0,.bool false,.slice none 0 0] 77)) (.cells #[.bool false,.slice none 0 0,.bool false,.slice none 0 0] 77))).drew) (fun hHeld=>?_)
    clear hK K;(try simp only[tkS]);refine tk1 13 (fun K hK=>?_)
    go_simp;refine hK.out _ _ (by exact HSx.out _ ((qad (qad (qad (Below.refl w1.heap.size w1) (.cells #[.bool false,.slice none 0 0,.bool false,.slice none 0 0] 77)) (.cells #[.bool false,.slice none 0 0,.bool false,.slice none 0 0] 77)) (.cells #[.string ⟨#[]⟩,.string ⟨#[]⟩,.int .i64 0,.int .i64 0] 46))).drew) (fun hHeld=>?_)
    clear hK K;(try simp only[tkS]);refine tk1 16 (fun K hK=>?_)
    go_simp;refine hK.out _ _ (by exact HSx.out _ ((qad (qad (qad (Below.refl w1.heap.size w1) (.cells #[.bool false,.slice none 0 0,.bool false,.slice none 0 0] 77)) (.cells #[.bool false,.slice none 0 0,.bool false,.slice none 0 0] 77)) (.cells #[.string lo,.string hi,.int .i64 le,.int .i64 hk] 46))).drew) (fun hHeld=>?_)
    clear hK K;(try simp only[tkS]);refine tk1 17 (fun K hK=>?_)
    go_simp;refine hK.out _ _ (by exact HSx.out _ ((qad (qad (qad (Below.refl w1.heap.size w1) (.cells #[.bool p.l.x,.slice p.l.a p.l.n p.l.cap,.bool p.l.y,.slice p.l.e p.l.m p.l.cap2] 77)) (.cells #[.bool false,.slice none 0 0,.bool false,.slice none 0 0] 77)) (.cells #[.string lo,.string hi,.int .i64 le,.int .i64 hk] 46))).drew) (fun hHeld=>?_)
    clear hK K;(try simp only[tkS]);refine tk1 18 (fun K hK=>?_)
    go_simp;refine hK.out _ _ (by exact HSx.out _ ((qad (qad (qad (Below.refl w1.heap.size w1) (.cells #[.bool p.l.x,.slice p.l.a p.l.n p.l.cap,.bool p.l.y,.slice p.l.e p.l.m p.l.cap2] 77)) (.cells #[.bool p.h.x,.slice p.h.a p.h.n p.h.cap,.bool p.h.y,.slice p.h.e p.h.m p.h.cap2] 77)) (.cells #[.string lo,.string hi,.int .i64 le,.int .i64 hk] 46))).drew) (fun hHeld=>?_)
    clear hK K;(try simp only[tkS]);refine tkD ?_ _
    go_wp2_with fail
    go_meet;exact⟨_,_,_,rfl,rfl,rfl,(qdb w1 _ _ _ _ _ _).1.drew,Blk.drew (qdb w1 _ _ _ _ _ _).2.2.2,Blk.drew (qdb w1 _ _ _ _ _ _).2.1,Blk.drew (qdb w1 _ _ _ _ _ _).2.2.1⟩
  ·go_simp
   refine hK.out _ _ (by exact HSx.out _ ((qad (Below.refl w1.heap.size w1) (.cells #[.bool false,.slice none 0 0,.bool false,.slice none 0 0] 77))).drew) (fun hHeld=>?_)
   clear hK K;(try simp only[tkS]);refine wpAnyH_ready (rs:=[13,14]) (by kernel_rfl) (by simp) ?_
   refine AllReadyH.cons rfl (fun K hK=>?_) (AllReadyH.cons rfl (fun K hK=>?_) AllReadyH.nil)
   ·go_simp
    refine hK.out _ _ (by exact HSx.out _ ((qad (qad (Below.refl w1.heap.size w1) (.cells #[.bool false,.slice none 0 0,.bool false,.slice none 0 0] 77)) (.cells #[.string ⟨#[]⟩,.string ⟨#[]⟩,.int .i64 0,.int .i64 0] 46))).drew) (fun hHeld=>?_)
    clear hK K;(try simp only[tkS]);refine tk1 14 (fun K hK=>?_)
    go_simp;refine hK.out _ _ (by exact HSx.out _ ((qad (qad (qad (Below.refl w1.heap.size w1) (.cells #[.bool false,.slice none 0 0,.bool false,.slice none 0 0] 77)) (.cells #[.string ⟨#[]⟩,.string ⟨#[]⟩,.int .i64 0,.int .i64 0] 46)) (.cells #[.bool false,.slice none 0 0,.bool false,.slice none 0 0] 77))).drew) (fun hHeld=>?_)
    clear hK K;(try simp only[tkS]);refine tk1 16 (fun K hK=>?_)
    go_simp;refine hK.out _ _ (by exact HSx.out _ ((qad (qad (qad (Below.refl w1.heap.size w1) (.cells #[.bool false,.slice none 0 0,.bool false,.slice none 0 0] 77)) (.cells #[.string lo,.string hi,.int .i64 le,.int .i64 hk] 46)) (.cells #[.bool false,.slice none 0 0,.bool false,.slice none 0 0] 77))).drew) (fun hHeld=>?_)
    clear hK K;(try simp only[tkS]);refine tk1 17 (fun K hK=>?_)
    go_simp;refine hK.out _ _ (by exact HSx.out _ ((qad (qad (qad (Below.refl w1.heap.size w1) (.cells #[.bool false,.slice none 0 0,.bool false,.slice none 0 0] 77)) (.cells #[.string lo,.string hi,.int .i64 le,.int .i64 hk] 46)) (.cells #[.bool p.l.x,.slice p.l.a p.l.n p.l.cap,.bool p.l.y,.slice p.l.e p.l.m p.l.cap2] 77))).drew) (fun hHeld=>?_)
    clear hK K;(try simp only[tkS]);refine tk1 18 (fun K hK=>?_)
    go_simp;refine hK.out _ _ (by exact HSx.out _ ((qad (qad (qad (Below.refl w1.heap.size w1) (.cells #[.bool p.h.x,.slice p.h.a p.h.n p.h.cap,.bool p.h.y,.slice p.h.e p.h.m p.h.cap2] 77)) (.cells #[.string lo,.string hi,.int .i64 le,.int .i64 hk] 46)) (.cells #[.bool p.l.x,.slice p.l.a p.l.n p.l.cap,.bool p.l.y,.slice p.l.e p.l.m p.l.cap2] 77))).drew) (fun hHeld=>?_)
    clear hK K;(try simp only[tkS]);refine tkD ?_ _
    go_wp2_with fail
    go_meet;exact⟨_,_,_,rfl,rfl,rfl,(qdb w1 _ _ _ _ _ _).1.drew,Blk.drew (qdb w1 _ _ _ _ _ _).2.2.1,Blk.drew (qdb w1 _ _ _ _ _ _).2.2.2,Blk.drew (qdb w1 _ _ _ _ _ _).2.1⟩
   ·go_simp
    refine hK.out _ _ (by exact HSx.out _ ((qad (qad (Below.refl w1.heap.size w1) (.cells #[.bool false,.slice none 0 0,.bool false,.slice none 0 0] 77)) (.cells #[.bool false,.slice none 0 0,.bool false,.slice none 0 0] 77))).drew) (fun hHeld=>?_)
    clear hK K;(try simp only[tkS]);refine tk1 13 (fun K hK=>?_)
    go_simp;refine hK.out _ _ (by exact HSx.out _ ((qad (qad (qad (Below.refl w1.heap.size w1) (.cells #[.bool false,.slice none 0 0,.bool false,.slice none 0 0] 77)) (.cells #[.bool false,.slice none 0 0,.bool false,.slice none 0 0] 77)) (.cells #[.string ⟨#[]⟩,.string ⟨#[]⟩,.int .i64 0,.int .i64 0] 46))).drew) (fun hHeld=>?_)
    clear hK K;(try simp only[tkS]);refine tk1 16 (fun K hK=>?_)
    go_simp;refine hK.out _ _ (by exact HSx.out _ ((qad (qad (qad (Below.refl w1.heap.size w1) (.cells #[.bool false,.slice none 0 0,.bool false,.slice none 0 0] 77)) (.cells #[.bool false,.slice none 0 0,.bool false,.slice none 0 0] 77)) (.cells #[.string lo,.string hi,.int .i64 le,.int .i64 hk] 46))).drew) (fun hHeld=>?_)
    clear hK K;(try simp only[tkS]);refine tk1 17 (fun K hK=>?_)
    go_simp;refine hK.out _ _ (by exact HSx.out _ ((qad (qad (qad (Below.refl w1.heap.size w1) (.cells #[.bool false,.slice none 0 0,.bool false,.slice none 0 0] 77)) (.cells #[.bool p.l.x,.slice p.l.a p.l.n p.l.cap,.bool p.l.y,.slice p.l.e p.l.m p.l.cap2] 77)) (.cells #[.string lo,.string hi,.int .i64 le,.int .i64 hk] 46))).drew) (fun hHeld=>?_)
    clear hK K;(try simp only[tkS]);refine tk1 18 (fun K hK=>?_)
    go_simp;refine hK.out _ _ (by exact HSx.out _ ((qad (qad (qad (Below.refl w1.heap.size w1) (.cells #[.bool p.h.x,.slice p.h.a p.h.n p.h.cap,.bool p.h.y,.slice p.h.e p.h.m p.h.cap2] 77)) (.cells #[.bool p.l.x,.slice p.l.a p.l.n p.l.cap,.bool p.l.y,.slice p.l.e p.l.m p.l.cap2] 77)) (.cells #[.string lo,.string hi,.int .i64 le,.int .i64 hk] 46))).drew) (fun hHeld=>?_)
    clear hK K;(try simp only[tkS]);refine tkD ?_ _
    go_wp2_with fail
    go_meet;exact⟨_,_,_,rfl,rfl,rfl,(qdb w1 _ _ _ _ _ _).1.drew,Blk.drew (qdb w1 _ _ _ _ _ _).2.2.2,Blk.drew (qdb w1 _ _ _ _ _ _).2.2.1,Blk.drew (qdb w1 _ _ _ _ _ _).2.1⟩
 case rest=>
  obtain⟨b7,b8,b9,rfl,rfl,rfl,hbx,hB7,hB8,hB9⟩:=hcut;have Hbx:=hI hbx;have HB:=hI (fun w' (hb:Below wc.heap.size wc w')=>And.intro (qeq hB7 hb) (And.intro (qeq hB8 hb) (qeq hB9 hb)));have HR2:=hI (fun w' (hb:Below wc.heap.size wc w')=>And.intro (HRR.out.1.mono (qaa Hbx.out hb)) (HRR.out.2.mono (qaa Hbx.out hb)));have HF1:=hI (fun w'=>qj8 1 w' (by decide) (by decide));have HTb:=hI (fun w' (hb:Below wc.heap.size wc w')=>HT.out.mono (Hb1.out.via (qaa Hbx.out hb) Hb1.out.size));clear hB7 hB8 hB9 hbx;obtain⟨⟨k0,k1,k2,k3⟩,⟨l0,l1,l2,l3⟩,m0,m1,m2,m3⟩:=HB.out _ (Below.refl _ _);obtain⟨rfl,rfl⟩:=HKd.out;have HF2:=hI (fun w'=>qj8 2 w' (by decide) (by decide));have HA:=hI (fun w' (h:RQ w' (.agg #[.bool p.l.x,.slice p.l.a p.l.n p.l.cap,.bool p.l.y,.slice p.l.e p.l.m p.l.cap2]) (ratS lo)∧RQ w' (.agg #[.bool p.h.x,.slice p.h.a p.h.n p.h.cap,.bool p.h.y,.slice p.h.e p.h.m p.h.cap2]) (ratS hi))=>qmp _ _ (ratS lo) (ratS hi) 5000 5000 w' h.1 h.2 HSz.out.1 HSz.out.2 (by decide));have HD:=hI (fun w' v v' (hv:RQ w' v (ratS lo+ratS hi)) (hv':RQ w' v' ((2:Int):Rat))=>qw3 v v' (ratS lo+ratS hi) 2 10001 1 w' hv hv' ((HSz.out.1.add HSz.out.2).mono (by decide)) qwv (by decide) (by decide));have HNu:=hI (fun w' v (ht:Tab w') (hv:RQ w' v ((ratS lo+ratS hi)/2))=>qjb v ((ratS lo+ratS hi)/2) 2000 w' hv ((qu3 (HSz.out.1.add HSz.out.2)).mono (by decide)) (by decide) ht)
  go_wp2_with (first
   |(have _t:=Hv3;clear _t;go_at_call 57;refine(HF2.out _).mono ?_;rintro e w4 ⟨v4,rfl,hv4,hb4⟩;have Hv4:=hI (qpv hv4);have Hv3b:=hI (Hv3.out.mono hb4);have Hb4:=hI (qaa Hb3.out hb4);clear hv4 hb4)
   |(go_at_call 57;refine(HF1.out _).mono ?_;rintro e w2 ⟨v2,rfl,hv2,hb2⟩;obtain⟨x5,a5,n5,c5,x6,a6,n6,c6,rfl,hv2⟩:=hv2.open;have Hb2:=hI (qaa hb2 (qaz w2 (.cells #[.bool x5,.slice a5 n5 c5,.bool x6,.slice a6 n6 c6] 77) (.cells #[.bool false,.slice none 0 0,.bool false,.slice none 0 0] 77)));obtain⟨⟨k0,k1,k2,k3⟩,⟨l0,l1,l2,l3⟩,m0,m1,m2,m3⟩:=HB.out _ Hb2.out;have HB11:=hI (show Blk ((w2.alloc (.cells #[.bool x5,.slice a5 n5 c5,.bool x6,.slice a6 n6 c6] 77)).alloc (.cells #[.bool false,.slice none 0 0,.bool false,.slice none 0 0] 77)) (w2.heap.size+1) #[.bool false,.slice none 0 0,.bool false,.slice none 0 0] 77 by have h:=Blk.new (w2.alloc (.cells #[.bool x5,.slice a5 n5 c5,.bool x6,.slice a6 n6 c6] 77)) #[.bool false,.slice none 0 0,.bool false,.slice none 0 0] 77;simpa using h);have HB10:=hI (show Blk ((w2.alloc (.cells #[.bool x5,.slice a5 n5 c5,.bool x6,.slice a6 n6 c6] 77)).alloc (.cells #[.bool false,.slice none 0 0,.bool false,.slice none 0 0] 77)) w2.heap.size #[.bool x5,.slice a5 n5 c5,.bool x6,.slice a6 n6 c6] 77 from(Blk.new w2 _ _).old _);obtain⟨⟨o0,o1,o2,o3⟩,-⟩:=qam HB10.out;have Hone:=hI (RQ.mono (qpv hv2) (qaz w2 (.cells #[.bool x5,.slice a5 n5 c5,.bool x6,.slice a6 n6 c6] 77) (.cells #[.bool false,.slice none 0 0,.bool false,.slice none 0 0] 77)));have Hw2:=hI hb2;clear hv2 hb2)
   |(go_at_call 58;refine(HA.out _ (HR2.out _ Hb2.out)).mono ?_;rintro e w3 ⟨v3,rfl,hv3,hb3⟩;have Hv3:=hI hv3;have Hb3:=hI hb3;clear hv3 hb3)
   |(go_at_call 60;refine(HD.out _ _ _ Hv3b.out Hv4.out).mono ?_;rintro e w5 ⟨v5,rfl,⟨r0',rfl,hv3⟩,hb5⟩;obtain⟨y5,d5,p5,g5,y6,d6,p6,g6,rfl,hv3⟩:=hv3.open;have hbb:=qaa Hb4.out hb5;have hr:=HB11.out.below hbb;obtain⟨⟨r0,r1,r2,r3⟩,f0,f1,f2,f3⟩:=qam hr;obtain⟨hv6,hb6⟩:=RQ.put4 (hv3) hr;have Hv6:=hI hv6;have Hb6:=hI (qap (b:=w2.heap.size+1) (.bool y5) (.slice d5 p5 g5) (.bool y6) (.slice d6 p6 g6) (qaa Hb2.out hbb) (by have:=Hw2.out.size;omega));obtain⟨⟨s0,s1,s2,s3⟩,-⟩:=qam hb6;clear hr hv6;clear hv3 hbb hb5)
   |(go_at_call 61;refine(HNu.out _ _ (HTb.out _ Hb6.out) Hv6.out).mono ?_;rintro e w9 ⟨rfl,hb9⟩;have Hb9:=hI hb9;clear hb9))
  go_ret3
  exact⟨rfl,Hb1.out.via (qaa Hbx.out (qaa Hb6.out Hb9.out)) Hb1.out.size⟩
end Go.Proofs.YtacihodamichhaaGreatDoor
