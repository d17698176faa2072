/- Parts of the proof. -/
import Derived.Test.YtacihodamichhaaGreatDoorC33
namespace Go.Proofs.YtacihodamichhaaGreatDoor
open Go.RowKit
set_option maxHeartbeats 16000000
set_option maxRecDepth 10000 in
theorem qn1(u:Value)(lo hi:ByteArray)(w:World)(h:Ivs w u [⟨lo,hi,0,0⟩])(hlo:WT lo (val lo))(hhi:WT hi (val hi))(h1:val lo=1)(h2:val hi=2):
  Calls Tryz.prog 18 #[u] w (Ret (.tuple #[.string (⟨(qc4 3).toArray⟩++⟨#[47]⟩++⟨(qc4 2).toArray⟩),.bool true,.int .i64 0]) w):=by
 have hok:∀x∈([⟨lo,hi,0,0⟩]:List Iv),x.ok:=fun x hx=>by
  cases List.mem_singleton.1 hx
  exact⟨.inr ⟨.inl rfl,hlo⟩,.inr ⟨.inl rfl,hhi⟩⟩
 have hset:qrx (([⟨lo,hi,0,0⟩]:List Iv).map Iv.cuts):=by
  refine⟨fun i p hp=>?_,fun i p q hp hq=>?_⟩
  ·rcases i with _|i
   ·cases hp
    exact cneg (.inr ⟨rfl,.inl (by show val lo<val hi;omega)⟩)
   ·simp at hp
  ·simp at hq
 have HP:=hI (fun w' (hb:Below w.heap.size w w')=>qgo u _ w' (h.mono hb) hok hset (by simp));obtain⟨a,c,rfl,hc1,hc2⟩:=h.open;obtain⟨b,off,x,rfl,hx,c0,c1,c2,c3⟩:=h.at (Below.refl _ _) (show 0<[(⟨lo,hi,0,0⟩:Iv)].length by simp);cases hx
 rw[Nat.zero_mul,Nat.add_zero]at c0 c1 c2 c3;dsimp only at c0 c1 c2 c3;have HC:=hI (And.intro c0 (And.intro c1 (And.intro c2 c3)));have HV:=hI (And.intro h1 h2);clear h hlo hhi h1 h2 hok hset c0 c1 c2 c3 hc1 hc2;rw[show[(⟨lo,hi,0,0⟩:Iv)].length=1 from rfl]at HP⊢
 go_enter Tryz.func18,Tryz.ntmps18
 go_wp2_with (go_at_call 56;refine(HP.out _ (Below.refl _ _)).mono ?_;rintro e w1 ⟨r1,rfl,⟨ap,cp,ps,rfl,hps,hcs⟩,hb1⟩;have hl1:ps.length=1:=(by have:=congrArg List.length hcs;simpa using this);rw[hl1]at hps;rw[hl1];have Hps:=hI hps;have Hcs:=hI hcs;have Hb1:=hI hb1;clear hps hcs hb1)
 obtain⟨b2,off2,p,rfl,hp,hpok,hpc⟩:=Parts.at Hps.out (Below.refl _ _) (show 0<1 by decide);rw[Nat.zero_mul,Nat.add_zero]at hpc
 have hpcut:p.cuts=((⟨lo,hi,0,0⟩:Iv)).cuts:=by
  have h:=congrArg (fun l=>l[0]?) Hcs.out;simp only[List.getElem?_map,hp]at h
  simpa using h
 have hl:p.l.c.s=lo:=congrArg (fun q=>q.1.s) hpcut;have hh:p.h.c.s=hi:=congrArg (fun q=>q.2.s) hpcut;have hRL:RatV w1 (.agg #[.bool p.l.x,.slice p.l.a p.l.n p.l.cap,.bool false,.slice none 0 0]) 1 0:=by have:=hpok.1.rat;rw[hl,HV.out.1]at this;exact this
 have hRH:RatV w1 (.agg #[.bool p.h.x,.slice p.h.a p.h.n p.h.cap,.bool false,.slice none 0 0]) 2 0:=by have:=hpok.2.rat;rw[hh,HV.out.2]at this;exact this
 have HRR:=hI (And.intro hRL hRH);have hC1:=HC.out;have HSx:=hI (fun w' (hb:Below w1.heap.size w1 w')=>show w'.cell? ⟨b,off,none⟩=some (.string lo)∧w'.cell? ⟨b,off+1,none⟩=some (.string hi)∧w'.cell? ⟨b,off+2,none⟩=some (.int .i64 0)∧w'.cell? ⟨b,off+3,none⟩=some (.int .i64 0)∧w'.cell? ⟨b2,off2+3,none⟩=some (.bool p.l.x)∧w'.cell? ⟨b2,off2+4,none⟩=some (.slice p.l.a p.l.n p.l.cap)∧w'.cell? ⟨b2,off2+5,none⟩=some (.bool false)∧w'.cell? ⟨b2,off2+6,none⟩=some (.slice none 0 0)∧w'.cell? ⟨b2,off2+10,none⟩=some (.bool p.h.x)∧w'.cell? ⟨b2,off2+11,none⟩=some (.slice p.h.a p.h.n p.h.cap)∧w'.cell? ⟨b2,off2+12,none⟩=some (.bool false)∧w'.cell? ⟨b2,off2+13,none⟩=some (.slice none 0 0)from⟨qaa (Hb1.out.via hb Hb1.out.size) hC1.1,qaa (Hb1.out.via hb Hb1.out.size) hC1.2.1,qaa (Hb1.out.via hb Hb1.out.size) hC1.2.2.1,qaa (Hb1.out.via hb Hb1.out.size) hC1.2.2.2,qaa hb hpc.2.2.2.1,qaa hb hpc.2.2.2.2.1,qaa hb hpc.2.2.2.2.2.1,qaa hb hpc.2.2.2.2.2.2.1,qaa hb hpc.2.2.2.2.2.2.2.2.2.2.1,qaa hb hpc.2.2.2.2.2.2.2.2.2.2.2.1,qaa hb hpc.2.2.2.2.2.2.2.2.2.2.2.2.1,qaa hb hpc.2.2.2.2.2.2.2.2.2.2.2.2.2⟩);clear hpc hpok hC1 hRL hRH hl hh hpcut hp;go_upto_region 6 with fail
 go_cut [7,8,9] (fun a7 a8 a9 wx=>∃b7 b8 b9:Nat,a7=.pointer (some ⟨b7,0,none⟩)∧a8=.pointer (some ⟨b8,0,none⟩)∧a9=.pointer (some ⟨b9,0,none⟩)∧Below w1.heap.size w1 wx∧Blk wx b7 #[.string lo,.string hi,.int .i64 0,.int .i64 0] 46∧Blk wx b8 #[.bool p.l.x,.slice p.l.a p.l.n p.l.cap,.bool false,.slice none 0 0] 77∧Blk wx b9 #[.bool p.h.x,.slice p.h.a p.h.n p.h.cap,.bool false,.slice none 0 0] 77)
 case first=>
  refine wpRg HSx.out ((Below.refl w1.heap.size w1)).drew (by kernel_rfl) (fun hHeld=>?_)
  refine wpAnyH_take (i:=0) (v:=?v1) rfl (by kernel_rfl) (by kernel_rfl) (by kernel_rfl) (fun _ _ _ h=>h) (Or.inl ⟨by rfl,?hy1⟩) (by assumption) ?rest1
  case hy1=>(intro w hSw;(try dsimp only at hSw);go_simp;try(with_reducible rfl))
  try simp only[Act.put,List.getElem_toArray,List.getElem_cons_zero,List.setIfInBounds_toArray,List.set_cons_zero,List.set_cons_succ]
  refine' tk 1 ?_;(try simp only[tkS]);refine' tk 2 ?_;(try simp only[tkS]);refine' tk 3 ?_;(try simp only[tkS]);refine' tk 4 ?_;(try simp only[tkS]);refine' tk 5 ?_;(try simp only[tkS]);refine' tk 6 ?_;(try simp only[tkS]);refine' tk 7 ?_;(try simp only[tkS]);refine' tk 8 ?_;(try simp only[tkS]);refine' tk 9 ?_;(try simp only[tkS]);refine' tk 10 ?_;(try simp only[tkS]);refine' tk 11 ?_;(try simp only[tkS]);refine' tk 12 ?_;(try simp only[tkS]);refine wpAnyH_ready (rs:=[13,14,15]) (by kernel_rfl) (by simp) ?_
  refine AllReadyH.cons rfl (fun K hK=>?_) (AllReadyH.cons rfl (fun K hK=>?_) (AllReadyH.cons rfl (fun K hK=>?_) AllReadyH.nil))
  ·go_simp
   refine hK.out _ _ (by exact HSx.out _ ((qad (Below.refl w1.heap.size w1) (.cells #[.string ⟨#[]⟩,.string ⟨#[]⟩,.int .i64 0,.int .i64 0] 46))).drew) (fun hHeld=>?_)
   clear hK K;(try simp only[tkS]);refine wpAnyH_ready (rs:=[14,15]) (by kernel_rfl) (by simp) ?_
   refine AllReadyH.cons rfl (fun K hK=>?_) (AllReadyH.cons rfl (fun K hK=>?_) AllReadyH.nil)
   ·go_simp
    refine hK.out _ _ (by exact HSx.out _ ((qad (qad (Below.refl w1.heap.size w1) (.cells #[.string ⟨#[]⟩,.string ⟨#[]⟩,.int .i64 0,.int .i64 0] 46)) (.cells #[.bool false,.slice none 0 0,.bool false,.slice none 0 0] 77))).drew) (fun hHeld=>?_)
    clear hK K;(try simp only[tkS]);refine tk1 15 (fun K hK=>?_)
    go_simp;refine hK.out _ _ (by exact HSx.out _ ((qad (qad (qad (Below.refl w1.heap.size w1) (.cells #[.string ⟨#[]⟩,.string ⟨#[]⟩,.int .i64 0,.int .i64 0] 46)) (.cells #[.bool false,.slice none 0 0,.bool false,.slice none 0 0] 77)) (.cells #[.bool false,.slice none 0 0,.bool false,.slice none 0 0] 77))).drew) (fun hHeld=>?_)
    clear hK K;(try simp only[tkS]);refine tk1 16 (fun K hK=>?_)
    go_simp;refine hK.out _ _ (by exact HSx.out _ ((qad (qad (qad (Below.refl w1.heap.size w1) (.cells #[.string lo,.string hi,.int .i64 0,.int .i64 0] 46)) (.cells #[.bool false,.slice none 0 0,.bool false,.slice none 0 0] 77)) (.cells #[.bool false,.slice none 0 0,.bool false,.slice none 0 0] 77))).drew) (fun hHeld=>?_)
    clear hK K;(try simp only[tkS]);refine tk1 17 (fun K hK=>?_)
    go_simp;refine hK.out _ _ (by exact HSx.out _ ((qad (qad (qad (Below.refl w1.heap.size w1) (.cells #[.string lo,.string hi,.int .i64 0,.int .i64 0] 46)) (.cells #[.bool p.l.x,.slice p.l.a p.l.n p.l.cap,.bool false,.slice none 0 0] 77)) (.cells #[.bool false,.slice none 0 0,.bool false,.slice none 0 0] 77))).drew) (fun hHeld=>?_)
    clear hK K;(try simp only[tkS]);refine tk1 18 (fun K hK=>?_)
    go_simp;refine hK.out _ _ (by exact HSx.out _ ((qad (qad (qad (Below.refl w1.heap.size w1) (.cells #[.string lo,.string hi,.int .i64 0,.int .i64 0] 46)) (.cells #[.bool p.l.x,.slice p.l.a p.l.n p.l.cap,.bool false,.slice none 0 0] 77)) (.cells #[.bool p.h.x,.slice p.h.a p.h.n p.h.cap,.bool false,.slice none 0 0] 77))).drew) (fun hHeld=>?_)
    clear hK K;(try simp only[tkS]);refine tkD ?_ _
    go_wp2_with fail
    go_meet
    have h7:Blk (((w1.alloc (.cells #[.string lo,.string hi,.int .i64 0,.int .i64 0] 46)).alloc (.cells #[.bool p.l.x,.slice p.l.a p.l.n p.l.cap,.bool false,.slice none 0 0] 77)).alloc (.cells #[.bool p.h.x,.slice p.h.a p.h.n p.h.cap,.bool false,.slice none 0 0] 77)) (w1.heap.size) #[.string lo,.string hi,.int .i64 0,.int .i64 0] 46:=by
     have h:Blk (w1.alloc (.cells #[.string lo,.string hi,.int .i64 0,.int .i64 0] 46)) (w1.heap.size) #[.string lo,.string hi,.int .i64 0,.int .i64 0] 46:=by
      have h0:=Blk.new w1 #[.string lo,.string hi,.int .i64 0,.int .i64 0] 46
      simpa using h0
     exact((h.old _).old _)
    have h8:Blk (((w1.alloc (.cells #[.string lo,.string hi,.int .i64 0,.int .i64 0] 46)).alloc (.cells #[.bool p.l.x,.slice p.l.a p.l.n p.l.cap,.bool false,.slice none 0 0] 77)).alloc (.cells #[.bool p.h.x,.slice p.h.a p.h.n p.h.cap,.bool false,.slice none 0 0] 77)) (w1.heap.size+1) #[.bool p.l.x,.slice p.l.a p.l.n p.l.cap,.bool false,.slice none 0 0] 77:=by
     have h:Blk ((w1.alloc (.cells #[.string lo,.string hi,.int .i64 0,.int .i64 0] 46)).alloc (.cells #[.bool p.l.x,.slice p.l.a p.l.n p.l.cap,.bool false,.slice none 0 0] 77)) (w1.heap.size+1) #[.bool p.l.x,.slice p.l.a p.l.n p.l.cap,.bool false,.slice none 0 0] 77:=by
      have h0:=Blk.new (w1.alloc (.cells #[.string lo,.string hi,.int .i64 0,.int .i64 0] 46)) #[.bool p.l.x,.slice p.l.a p.l.n p.l.cap,.bool false,.slice none 0 0] 77
      simpa using h0
     exact(h.old _)
    have h9:Blk (((w1.alloc (.cells #[.string lo,.string hi,.int .i64 0,.int .i64 0] 46)).alloc (.cells #[.bool p.l.x,.slice p.l.a p.l.n p.l.cap,.bool false,.slice none 0 0] 77)).alloc (.cells #[.bool p.h.x,.slice p.h.a p.h.n p.h.cap,.bool false,.slice none 0 0] 77)) (w1.heap.size+1+1) #[.bool p.h.x,.slice p.h.a p.h.n p.h.cap,.bool false,.slice none 0 0] 77:=by
     have h:Blk (((w1.alloc (.cells #[.string lo,.string hi,.int .i64 0,.int .i64 0] 46)).alloc (.cells #[.bool p.l.x,.slice p.l.a p.l.n p.l.cap,.bool false,.slice none 0 0] 77)).alloc (.cells #[.bool p.h.x,.slice p.h.a p.h.n p.h.cap,.bool false,.slice none 0 0] 77)) (w1.heap.size+1+1) #[.bool p.h.x,.slice p.h.a p.h.n p.h.cap,.bool false,.slice none 0 0] 77:=by
      have h0:=Blk.new ((w1.alloc (.cells #[.string lo,.string hi,.int .i64 0,.int .i64 0] 46)).alloc (.cells #[.bool p.l.x,.slice p.l.a p.l.n p.l.cap,.bool false,.slice none 0 0] 77)) #[.bool p.h.x,.slice p.h.a p.h.n p.h.cap,.bool false,.slice none 0 0] 77
      simpa using h0
     exact h
    exact⟨_,_,_,rfl,rfl,rfl,((qad (qad (qad (Below.refl w1.heap.size w1) (.cells #[.string lo,.string hi,.int .i64 0,.int .i64 0] 46)) (.cells #[.bool p.l.x,.slice p.l.a p.l.n p.l.cap,.bool false,.slice none 0 0] 77)) (.cells #[.bool p.h.x,.slice p.h.a p.h.n p.h.cap,.bool false,.slice none 0 0] 77))).drew,Blk.drew h7,Blk.drew h8,Blk.drew h9⟩
   ·go_simp
    refine hK.out _ _ (by exact HSx.out _ ((qad (qad (Below.refl w1.heap.size w1) (.cells #[.string ⟨#[]⟩,.string ⟨#[]⟩,.int .i64 0,.int .i64 0] 46)) (.cells #[.bool false,.slice none 0 0,.bool false,.slice none 0 0] 77))).drew) (fun hHeld=>?_)
    clear hK K;(try simp only[tkS]);refine tk1 14 (fun K hK=>?_)
    go_simp;refine hK.out _ _ (by exact HSx.out _ ((qad (qad (qad (Below.refl w1.heap.size w1) (.cells #[.string ⟨#[]⟩,.string ⟨#[]⟩,.int .i64 0,.int .i64 0] 46)) (.cells #[.bool false,.slice none 0 0,.bool false,.slice none 0 0] 77)) (.cells #[.bool false,.slice none 0 0,.bool false,.slice none 0 0] 77))).drew) (fun hHeld=>?_)
    clear hK K;(try simp only[tkS]);refine tk1 16 (fun K hK=>?_)
    go_simp;refine hK.out _ _ (by exact HSx.out _ ((qad (qad (qad (Below.refl w1.heap.size w1) (.cells #[.string lo,.string hi,.int .i64 0,.int .i64 0] 46)) (.cells #[.bool false,.slice none 0 0,.bool false,.slice none 0 0] 77)) (.cells #[.bool false,.slice none 0 0,.bool false,.slice none 0 0] 77))).drew) (fun hHeld=>?_)
    clear hK K;(try simp only[tkS]);refine tk1 17 (fun K hK=>?_)
    go_simp;refine hK.out _ _ (by exact HSx.out _ ((qad (qad (qad (Below.refl w1.heap.size w1) (.cells #[.string lo,.string hi,.int .i64 0,.int .i64 0] 46)) (.cells #[.bool false,.slice none 0 0,.bool false,.slice none 0 0] 77)) (.cells #[.bool p.l.x,.slice p.l.a p.l.n p.l.cap,.bool false,.slice none 0 0] 77))).drew) (fun hHeld=>?_)
    clear hK K;(try simp only[tkS]);refine tk1 18 (fun K hK=>?_)
    go_simp;refine hK.out _ _ (by exact HSx.out _ ((qad (qad (qad (Below.refl w1.heap.size w1) (.cells #[.string lo,.string hi,.int .i64 0,.int .i64 0] 46)) (.cells #[.bool p.h.x,.slice p.h.a p.h.n p.h.cap,.bool false,.slice none 0 0] 77)) (.cells #[.bool p.l.x,.slice p.l.a p.l.n p.l.cap,.bool false,.slice none 0 0] 77))).drew) (fun hHeld=>?_)
    clear hK K;(try simp only[tkS]);refine tkD ?_ _
    go_wp2_with fail
    go_meet
    have h7:Blk (((w1.alloc (.cells #[.string lo,.string hi,.int .i64 0,.int .i64 0] 46)).alloc (.cells #[.bool p.h.x,.slice p.h.a p.h.n p.h.cap,.bool false,.slice none 0 0] 77)).alloc (.cells #[.bool p.l.x,.slice p.l.a p.l.n p.l.cap,.bool false,.slice none 0 0] 77)) (w1.heap.size) #[.string lo,.string hi,.int .i64 0,.int .i64 0] 46:=by
     have h:Blk (w1.alloc (.cells #[.string lo,.string hi,.int .i64 0,.int .i64 0] 46)) (w1.heap.size) #[.string lo,.string hi,.int .i64 0,.int .i64 0] 46:=by
      have h0:=Blk.new w1 #[.string lo,.string hi,.int .i64 0,.int .i64 0] 46
      simpa using h0
     exact((h.old _).old _)
    have h8:Blk (((w1.alloc (.cells #[.string lo,.string hi,.int .i64 0,.int .i64 0] 46)).alloc (.cells #[.bool p.h.x,.slice p.h.a p.h.n p.h.cap,.bool false,.slice none 0 0] 77)).alloc (.cells #[.bool p.l.x,.slice p.l.a p.l.n p.l.cap,.bool false,.slice none 0 0] 77)) (w1.heap.size+1+1) #[.bool p.l.x,.slice p.l.a p.l.n p.l.cap,.bool false,.slice none 0 0] 77:=by
     have h:Blk (((w1.alloc (.cells #[.string lo,.string hi,.int .i64 0,.int .i64 0] 46)).alloc (.cells #[.bool p.h.x,.slice p.h.a p.h.n p.h.cap,.bool false,.slice none 0 0] 77)).alloc (.cells #[.bool p.l.x,.slice p.l.a p.l.n p.l.cap,.bool false,.slice none 0 0] 77)) (w1.heap.size+1+1) #[.bool p.l.x,.slice p.l.a p.l.n p.l.cap,.bool false,.slice none 0 0] 77:=by
      have h0:=Blk.new ((w1.alloc (.cells #[.string lo,.string hi,.int .i64 0,.int .i64 0] 46)).alloc (.cells #[.bool p.h.x,.slice p.h.a p.h.n p.h.cap,.bool false,.slice none 0 0] 77)) #[.bool p.l.x,.slice p.l.a p.l.n p.l.cap,.bool false,.slice none 0 0] 77
      simpa using h0
     exact h
    have h9:Blk (((w1.alloc (.cells #[.string lo,.string hi,.int .i64 0,.int .i64 0] 46)).alloc (.cells #[.bool p.h.x,.slice p.h.a p.h.n p.h.cap,.bool false,.slice none 0 0] 77)).alloc (.cells #[.bool p.l.x,.slice p.l.a p.l.n p.l.cap,.bool false,.slice none 0 0] 77)) (w1.heap.size+1) #[.bool p.h.x,.slice p.h.a p.h.n p.h.cap,.bool false,.slice none 0 0] 77:=by
     have h:Blk ((w1.alloc (.cells #[.string lo,.string hi,.int .i64 0,.int .i64 0] 46)).alloc (.cells #[.bool p.h.x,.slice p.h.a p.h.n p.h.cap,.bool false,.slice none 0 0] 77)) (w1.heap.size+1) #[.bool p.h.x,.slice p.h.a p.h.n p.h.cap,.bool false,.slice none 0 0] 77:=by
      have h0:=Blk.new (w1.alloc (.cells #[.string lo,.string hi,.int .i64 0,.int .i64 0] 46)) #[.bool p.h.x,.slice p.h.a p.h.n p.h.cap,.bool false,.slice none 0 0] 77
      simpa using h0
     exact(h.old _)
    exact⟨_,_,_,rfl,rfl,rfl,((qad (qad (qad (Below.refl w1.heap.size w1) (.cells #[.string lo,.string hi,.int .i64 0,.int .i64 0] 46)) (.cells #[.bool p.h.x,.slice p.h.a p.h.n p.h.cap,.bool false,.slice none 0 0] 77)) (.cells #[.bool p.l.x,.slice p.l.a p.l.n p.l.cap,.bool false,.slice none 0 0] 77))).drew,Blk.drew h7,Blk.drew h8,Blk.drew h9⟩
  ·go_simp
   refine hK.out _ _ (by exact HSx.out _ ((qad (Below.refl w1.heap.size w1) (.cells #[.bool false,.slice none 0 0,.bool false,.slice none 0 0] 77))).drew) (fun hHeld=>?_)
   clear hK K;(try simp only[tkS]);refine wpAnyH_ready (rs:=[13,15]) (by kernel_rfl) (by simp) ?_
   refine AllReadyH.cons rfl (fun K hK=>?_) (AllReadyH.cons rfl (fun K hK=>?_) AllReadyH.nil)
   ·go_simp
    refine hK.out _ _ (by exact HSx.out _ ((qad (qad (Below.refl w1.heap.size w1) (.cells #[.bool false,.slice none 0 0,.bool false,.slice none 0 0] 77)) (.cells #[.string ⟨#[]⟩,.string ⟨#[]⟩,.int .i64 0,.int .i64 0] 46))).drew) (fun hHeld=>?_)
    clear hK K;(try simp only[tkS]);refine tk1 15 (fun K hK=>?_)
    go_simp;refine hK.out _ _ (by exact HSx.out _ ((qad (qad (qad (Below.refl w1.heap.size w1) (.cells #[.bool false,.slice none 0 0,.bool false,.slice none 0 0] 77)) (.cells #[.string ⟨#[]⟩,.string ⟨#[]⟩,.int .i64 0,.int .i64 0] 46)) (.cells #[.bool false,.slice none 0 0,.bool false,.slice none 0 0] 77))).drew) (fun hHeld=>?_)
    clear hK K;(try simp only[tkS]);refine tk1 16 (fun K hK=>?_)
    go_simp;refine hK.out _ _ (by exact HSx.out _ ((qad (qad (qad (Below.refl w1.heap.size w1) (.cells #[.bool false,.slice none 0 0,.bool false,.slice none 0 0] 77)) (.cells #[.string lo,.string hi,.int .i64 0,.int .i64 0] 46)) (.cells #[.bool false,.slice none 0 0,.bool false,.slice none 0 0] 77))).drew) (fun hHeld=>?_)
    clear hK K;(try simp only[tkS]);refine tk1 17 (fun K hK=>?_)
    go_simp;refine hK.out _ _ (by exact HSx.out _ ((qad (qad (qad (Below.refl w1.heap.size w1) (.cells #[.bool p.l.x,.slice p.l.a p.l.n p.l.cap,.bool false,.slice none 0 0] 77)) (.cells #[.string lo,.string hi,.int .i64 0,.int .i64 0] 46)) (.cells #[.bool false,.slice none 0 0,.bool false,.slice none 0 0] 77))).drew) (fun hHeld=>?_)
    clear hK K;(try simp only[tkS]);refine tk1 18 (fun K hK=>?_)
    go_simp;refine hK.out _ _ (by exact HSx.out _ ((qad (qad (qad (Below.refl w1.heap.size w1) (.cells #[.bool p.l.x,.slice p.l.a p.l.n p.l.cap,.bool false,.slice none 0 0] 77)) (.cells #[.string lo,.string hi,.int .i64 0,.int .i64 0] 46)) (.cells #[.bool p.h.x,.slice p.h.a p.h.n p.h.cap,.bool false,.slice none 0 0] 77))).drew) (fun hHeld=>?_)
    clear hK K;(try simp only[tkS]);refine tkD ?_ _
    go_wp2_with fail
    go_meet
    have h7:Blk (((w1.alloc (.cells #[.bool p.l.x,.slice p.l.a p.l.n p.l.cap,.bool false,.slice none 0 0] 77)).alloc (.cells #[.string lo,.string hi,.int .i64 0,.int .i64 0] 46)).alloc (.cells #[.bool p.h.x,.slice p.h.a p.h.n p.h.cap,.bool false,.slice none 0 0] 77)) (w1.heap.size+1) #[.string lo,.string hi,.int .i64 0,.int .i64 0] 46:=by
     have h:Blk ((w1.alloc (.cells #[.bool p.l.x,.slice p.l.a p.l.n p.l.cap,.bool false,.slice none 0 0] 77)).alloc (.cells #[.string lo,.string hi,.int .i64 0,.int .i64 0] 46)) (w1.heap.size+1) #[.string lo,.string hi,.int .i64 0,.int .i64 0] 46:=by
      have h0:=Blk.new (w1.alloc (.cells #[.bool p.l.x,.slice p.l.a p.l.n p.l.cap,.bool false,.slice none 0 0] 77)) #[.string lo,.string hi,.int .i64 0,.int .i64 0] 46
      simpa using h0
     exact(h.old _)
    have h8:Blk (((w1.alloc (.cells #[.bool p.l.x,.slice p.l.a p.l.n p.l.cap,.bool false,.slice none 0 0] 77)).alloc (.cells #[.string lo,.string hi,.int .i64 0,.int .i64 0] 46)).alloc (.cells #[.bool p.h.x,.slice p.h.a p.h.n p.h.cap,.bool false,.slice none 0 0] 77)) (w1.heap.size) #[.bool p.l.x,.slice p.l.a p.l.n p.l.cap,.bool false,.slice none 0 0] 77:=by
     have h:Blk (w1.alloc (.cells #[.bool p.l.x,.slice p.l.a p.l.n p.l.cap,.bool false,.slice none 0 0] 77)) (w1.heap.size) #[.bool p.l.x,.slice p.l.a p.l.n p.l.cap,.bool false,.slice none 0 0] 77:=by
      have h0:=Blk.new w1 #[.bool p.l.x,.slice p.l.a p.l.n p.l.cap,.bool false,.slice none 0 0] 77
      simpa using h0
     exact((h.old _).old _)
    have h9:Blk (((w1.alloc (.cells #[.bool p.l.x,.slice p.l.a p.l.n p.l.cap,.bool false,.slice none 0 0] 77)).alloc (.cells #[.string lo,.string hi,.int .i64 0,.int .i64 0] 46)).alloc (.cells #[.bool p.h.x,.slice p.h.a p.h.n p.h.cap,.bool false,.slice none 0 0] 77)) (w1.heap.size+1+1) #[.bool p.h.x,.slice p.h.a p.h.n p.h.cap,.bool false,.slice none 0 0] 77:=by
     have h:Blk (((w1.alloc (.cells #[.bool p.l.x,.slice p.l.a p.l.n p.l.cap,.bool false,.slice none 0 0] 77)).alloc (.cells #[.string lo,.string hi,.int .i64 0,.int .i64 0] 46)).alloc (.cells #[.bool p.h.x,.slice p.h.a p.h.n p.h.cap,.bool false,.slice none 0 0] 77)) (w1.heap.size+1+1) #[.bool p.h.x,.slice p.h.a p.h.n p.h.cap,.bool false,.slice none 0 0] 77:=by
      have h0:=Blk.new ((w1.alloc (.cells #[.bool p.l.x,.slice p.l.a p.l.n p.l.cap,.bool false,.slice none 0 0] 77)).alloc (.cells #[.string lo,.string hi,.int .i64 0,.int .i64 0] 46)) #[.bool p.h.x,.slice p.h.a p.h.n p.h.cap,.bool false,.slice none 0 0] 77
      simpa using h0
     exact h
    exact⟨_,_,_,rfl,rfl,rfl,((qad (qad (qad (Below.refl w1.heap.size w1) (.cells #[.bool p.l.x,.slice p.l.a p.l.n p.l.cap,.bool false,.slice none 0 0] 77)) (.cells #[.string lo,.string hi,.int .i64 0,.int .i64 0] 46)) (.cells #[.bool p.h.x,.slice p.h.a p.h.n p.h.cap,.bool false,.slice none 0 0] 77))).drew,Blk.drew h7,Blk.drew h8,Blk.drew h9⟩
   ·go_simp
    refine hK.out _ _ (by exact HSx.out _ ((qad (qad (Below.refl w1.heap.size w1) (.cells #[.bool false,.slice none 0 0,.bool false,.slice none 0 0] 77)) (.cells #[.bool false,.slice none 0 0,.bool false,.slice none 0 0] 77))).drew) (fun hHeld=>?_)
    clear hK K;(try simp only[tkS]);refine tk1 13 (fun K hK=>?_)
    go_simp;refine hK.out _ _ (by exact HSx.out _ ((qad (qad (qad (Below.refl w1.heap.size w1) (.cells #[.bool false,.slice none 0 0,.bool false,.slice none 0 0] 77)) (.cells #[.bool false,.slice none 0 0,.bool false,.slice none 0 0] 77)) (.cells #[.string ⟨#[]⟩,.string ⟨#[]⟩,.int .i64 0,.int .i64 0] 46))).drew) (fun hHeld=>?_)
    clear hK K;(try simp only[tkS]);refine tk1 16 (fun K hK=>?_)
    go_simp;refine hK.out _ _ (by exact HSx.out _ ((qad (qad (qad (Below.refl w1.heap.size w1) (.cells #[.bool false,.slice none 0 0,.bool false,.slice none 0 0] 77)) (.cells #[.bool false,.slice none 0 0,.bool false,.slice none 0 0] 77)) (.cells #[.string lo,.string hi,.int .i64 0,.int .i64 0] 46))).drew) (fun hHeld=>?_)
    clear hK K;(try simp only[tkS]);refine tk1 17 (fun K hK=>?_)
    go_simp;refine hK.out _ _ (by exact HSx.out _ ((qad (qad (qad (Below.refl w1.heap.size w1) (.cells #[.bool p.l.x,.slice p.l.a p.l.n p.l.cap,.bool false,.slice none 0 0] 77)) (.cells #[.bool false,.slice none 0 0,.bool false,.slice none 0 0] 77)) (.cells #[.string lo,.string hi,.int .i64 0,.int .i64 0] 46))).drew) (fun hHeld=>?_)
    clear hK K;(try simp only[tkS]);refine tk1 18 (fun K hK=>?_)
    go_simp;refine hK.out _ _ (by exact HSx.out _ ((qad (qad (qad (Below.refl w1.heap.size w1) (.cells #[.bool p.l.x,.slice p.l.a p.l.n p.l.cap,.bool false,.slice none 0 0] 77)) (.cells #[.bool p.h.x,.slice p.h.a p.h.n p.h.cap,.bool false,.slice none 0 0] 77)) (.cells #[.string lo,.string hi,.int .i64 0,.int .i64 0] 46))).drew) (fun hHeld=>?_)
    clear hK K;(try simp only[tkS]);refine tkD ?_ _
    go_wp2_with fail
    go_meet
    have h7:Blk (((w1.alloc (.cells #[.bool p.l.x,.slice p.l.a p.l.n p.l.cap,.bool false,.slice none 0 0] 77)).alloc (.cells #[.bool p.h.x,.slice p.h.a p.h.n p.h.cap,.bool false,.slice none 0 0] 77)).alloc (.cells #[.string lo,.string hi,.int .i64 0,.int .i64 0] 46)) (w1.heap.size+1+1) #[.string lo,.string hi,.int .i64 0,.int .i64 0] 46:=by
     have h:Blk (((w1.alloc (.cells #[.bool p.l.x,.slice p.l.a p.l.n p.l.cap,.bool false,.slice none 0 0] 77)).alloc (.cells #[.bool p.h.x,.slice p.h.a p.h.n p.h.cap,.bool false,.slice none 0 0] 77)).alloc (.cells #[.string lo,.string hi,.int .i64 0,.int .i64 0] 46)) (w1.heap.size+1+1) #[.string lo,.string hi,.int .i64 0,.int .i64 0] 46:=by
      have h0:=Blk.new ((w1.alloc (.cells #[.bool p.l.x,.slice p.l.a p.l.n p.l.cap,.bool false,.slice none 0 0] 77)).alloc (.cells #[.bool p.h.x,.slice p.h.a p.h.n p.h.cap,.bool false,.slice none 0 0] 77)) #[.string lo,.string hi,.int .i64 0,.int .i64 0] 46
      simpa using h0
     exact h
    have h8:Blk (((w1.alloc (.cells #[.bool p.l.x,.slice p.l.a p.l.n p.l.cap,.bool false,.slice none 0 0] 77)).alloc (.cells #[.bool p.h.x,.slice p.h.a p.h.n p.h.cap,.bool false,.slice none 0 0] 77)).alloc (.cells #[.string lo,.string hi,.int .i64 0,.int .i64 0] 46)) (w1.heap.size) #[.bool p.l.x,.slice p.l.a p.l.n p.l.cap,.bool false,.slice none 0 0] 77:=by
     have h:Blk (w1.alloc (.cells #[.bool p.l.x,.slice p.l.a p.l.n p.l.cap,.bool false,.slice none 0 0] 77)) (w1.heap.size) #[.bool p.l.x,.slice p.l.a p.l.n p.l.cap,.bool false,.slice none 0 0] 77:=by
      have h0:=Blk.new w1 #[.bool p.l.x,.slice p.l.a p.l.n p.l.cap,.bool false,.slice none 0 0] 77
      simpa using h0
     exact((h.old _).old _)
    have h9:Blk (((w1.alloc (.cells #[.bool p.l.x,.slice p.l.a p.l.n p.l.cap,.bool false,.slice none 0 0] 77)).alloc (.cells #[.bool p.h.x,.slice p.h.a p.h.n p.h.cap,.bool false,.slice none 0 0] 77)).alloc (.cells #[.string lo,.string hi,.int .i64 0,.int .i64 0] 46)) (w1.heap.size+1) #[.bool p.h.x,.slice p.h.a p.h.n p.h.cap,.bool false,.slice none 0 0] 77:=by
     have h:Blk ((w1.alloc (.cells #[.bool p.l.x,.slice p.l.a p.l.n p.l.cap,.bool false,.slice none 0 0] 77)).alloc (.cells #[.bool p.h.x,.slice p.h.a p.h.n p.h.cap,.bool false,.slice none 0 0] 77)) (w1.heap.size+1) #[.bool p.h.x,.slice p.h.a p.h.n p.h.cap,.bool false,.slice none 0 0] 77:=by
      have h0:=Blk.new (w1.alloc (.cells #[.bool p.l.x,.slice p.l.a p.l.n p.l.cap,.bool false,.slice none 0 0] 77)) #[.bool p.h.x,.slice p.h.a p.h.n p.h.cap,.bool false,.slice none 0 0] 77
      simpa using h0
     exact(h.old _)
    exact⟨_,_,_,rfl,rfl,rfl,((qad (qad (qad (Below.refl w1.heap.size w1) (.cells #[.bool p.l.x,.slice p.l.a p.l.n p.l.cap,.bool false,.slice none 0 0] 77)) (.cells #[.bool p.h.x,.slice p.h.a p.h.n p.h.cap,.bool false,.slice none 0 0] 77)) (.cells #[.string lo,.string hi,.int .i64 0,.int .i64 0] 46))).drew,Blk.drew h7,Blk.drew h8,Blk.drew h9⟩
  ·go_simp
   refine hK.out _ _ (by exact HSx.out _ ((qad (Below.refl w1.heap.size w1) (.cells #[.bool false,.slice none 0 0,.bool false,.slice none 0 0] 77))).drew) (fun hHeld=>?_)
   clear hK K;(try simp only[tkS]);refine wpAnyH_ready (rs:=[13,14]) (by kernel_rfl) (by simp) ?_
   refine AllReadyH.cons rfl (fun K hK=>?_) (AllReadyH.cons rfl (fun K hK=>?_) AllReadyH.nil)
   ·go_simp
    refine hK.out _ _ (by exact HSx.out _ ((qad (qad (Below.refl w1.heap.size w1) (.cells #[.bool false,.slice none 0 0,.bool false,.slice none 0 0] 77)) (.cells #[.string ⟨#[]⟩,.string ⟨#[]⟩,.int .i64 0,.int .i64 0] 46))).drew) (fun hHeld=>?_)
    clear hK K;(try simp only[tkS]);refine tk1 14 (fun K hK=>?_)
    go_simp;refine hK.out _ _ (by exact HSx.out _ ((qad (qad (qad (Below.refl w1.heap.size w1) (.cells #[.bool false,.slice none 0 0,.bool false,.slice none 0 0] 77)) (.cells #[.string ⟨#[]⟩,.string ⟨#[]⟩,.int .i64 0,.int .i64 0] 46)) (.cells #[.bool false,.slice none 0 0,.bool false,.slice none 0 0] 77))).drew) (fun hHeld=>?_)
    clear hK K;(try simp only[tkS]);refine tk1 16 (fun K hK=>?_)
    go_simp;refine hK.out _ _ (by exact HSx.out _ ((qad (qad (qad (Below.refl w1.heap.size w1) (.cells #[.bool false,.slice none 0 0,.bool false,.slice none 0 0] 77)) (.cells #[.string lo,.string hi,.int .i64 0,.int .i64 0] 46)) (.cells #[.bool false,.slice none 0 0,.bool false,.slice none 0 0] 77))).drew) (fun hHeld=>?_)
    clear hK K;(try simp only[tkS]);refine tk1 17 (fun K hK=>?_)
    go_simp;refine hK.out _ _ (by exact HSx.out _ ((qad (qad (qad (Below.refl w1.heap.size w1) (.cells #[.bool false,.slice none 0 0,.bool false,.slice none 0 0] 77)) (.cells #[.string lo,.string hi,.int .i64 0,.int .i64 0] 46)) (.cells #[.bool p.l.x,.slice p.l.a p.l.n p.l.cap,.bool false,.slice none 0 0] 77))).drew) (fun hHeld=>?_)
    clear hK K;(try simp only[tkS]);refine tk1 18 (fun K hK=>?_)
    go_simp;refine hK.out _ _ (by exact HSx.out _ ((qad (qad (qad (Below.refl w1.heap.size w1) (.cells #[.bool p.h.x,.slice p.h.a p.h.n p.h.cap,.bool false,.slice none 0 0] 77)) (.cells #[.string lo,.string hi,.int .i64 0,.int .i64 0] 46)) (.cells #[.bool p.l.x,.slice p.l.a p.l.n p.l.cap,.bool false,.slice none 0 0] 77))).drew) (fun hHeld=>?_)
    clear hK K;(try simp only[tkS]);refine tkD ?_ _
    go_wp2_with fail
    go_meet
    have h7:Blk (((w1.alloc (.cells #[.bool p.h.x,.slice p.h.a p.h.n p.h.cap,.bool false,.slice none 0 0] 77)).alloc (.cells #[.string lo,.string hi,.int .i64 0,.int .i64 0] 46)).alloc (.cells #[.bool p.l.x,.slice p.l.a p.l.n p.l.cap,.bool false,.slice none 0 0] 77)) (w1.heap.size+1) #[.string lo,.string hi,.int .i64 0,.int .i64 0] 46:=by
     have h:Blk ((w1.alloc (.cells #[.bool p.h.x,.slice p.h.a p.h.n p.h.cap,.bool false,.slice none 0 0] 77)).alloc (.cells #[.string lo,.string hi,.int .i64 0,.int .i64 0] 46)) (w1.heap.size+1) #[.string lo,.string hi,.int .i64 0,.int .i64 0] 46:=by
      have h0:=Blk.new (w1.alloc (.cells #[.bool p.h.x,.slice p.h.a p.h.n p.h.cap,.bool false,.slice none 0 0] 77)) #[.string lo,.string hi,.int .i64 0,.int .i64 0] 46
      simpa using h0
     exact(h.old _)
    have h8:Blk (((w1.alloc (.cells #[.bool p.h.x,.slice p.h.a p.h.n p.h.cap,.bool false,.slice none 0 0] 77)).alloc (.cells #[.string lo,.string hi,.int .i64 0,.int .i64 0] 46)).alloc (.cells #[.bool p.l.x,.slice p.l.a p.l.n p.l.cap,.bool false,.slice none 0 0] 77)) (w1.heap.size+1+1) #[.bool p.l.x,.slice p.l.a p.l.n p.l.cap,.bool false,.slice none 0 0] 77:=by
     have h:Blk (((w1.alloc (.cells #[.bool p.h.x,.slice p.h.a p.h.n p.h.cap,.bool false,.slice none 0 0] 77)).alloc (.cells #[.string lo,.string hi,.int .i64 0,.int .i64 0] 46)).alloc (.cells #[.bool p.l.x,.slice p.l.a p.l.n p.l.cap,.bool false,.slice none 0 0] 77)) (w1.heap.size+1+1) #[.bool p.l.x,.slice p.l.a p.l.n p.l.cap,.bool false,.slice none 0 0] 77:=by
      have h0:=Blk.new ((w1.alloc (.cells #[.bool p.h.x,.slice p.h.a p.h.n p.h.cap,.bool false,.slice none 0 0] 77)).alloc (.cells #[.string lo,.string hi,.int .i64 0,.int .i64 0] 46)) #[.bool p.l.x,.slice p.l.a p.l.n p.l.cap,.bool false,.slice none 0 0] 77
      simpa using h0
     exact h
    have h9:Blk (((w1.alloc (.cells #[.bool p.h.x,.slice p.h.a p.h.n p.h.cap,.bool false,.slice none 0 0] 77)).alloc (.cells #[.string lo,.string hi,.int .i64 0,.int .i64 0] 46)).alloc (.cells #[.bool p.l.x,.slice p.l.a p.l.n p.l.cap,.bool false,.slice none 0 0] 77)) (w1.heap.size) #[.bool p.h.x,.slice p.h.a p.h.n p.h.cap,.bool false,.slice none 0 0] 77:=by
     have h:Blk (w1.alloc (.cells #[.bool p.h.x,.slice p.h.a p.h.n p.h.cap,.bool false,.slice none 0 0] 77)) (w1.heap.size) #[.bool p.h.x,.slice p.h.a p.h.n p.h.cap,.bool false,.slice none 0 0] 77:=by
      have h0:=Blk.new w1 #[.bool p.h.x,.slice p.h.a p.h.n p.h.cap,.bool false,.slice none 0 0] 77
      simpa using h0
     exact((h.old _).old _)
    exact⟨_,_,_,rfl,rfl,rfl,((qad (qad (qad (Below.refl w1.heap.size w1) (.cells #[.bool p.h.x,.slice p.h.a p.h.n p.h.cap,.bool false,.slice none 0 0] 77)) (.cells #[.string lo,.string hi,.int .i64 0,.int .i64 0] 46)) (.cells #[.bool p.l.x,.slice p.l.a p.l.n p.l.cap,.bool false,.slice none 0 0] 77))).drew,Blk.drew h7,Blk.drew h8,Blk.drew h9⟩
   ·go_simp
    refine hK.out _ _ (by exact HSx.out _ ((qad (qad (Below.refl w1.heap.size w1) (.cells #[.bool false,.slice none 0 0,.bool false,.slice none 0 0] 77)) (.cells #[.bool false,.slice none 0 0,.bool false,.slice none 0 0] 77))).drew) (fun hHeld=>?_)
    clear hK K;(try simp only[tkS]);refine tk1 13 (fun K hK=>?_)
    go_simp;refine hK.out _ _ (by exact HSx.out _ ((qad (qad (qad (Below.refl w1.heap.size w1) (.cells #[.bool false,.slice none 0 0,.bool false,.slice none 0 0] 77)) (.cells #[.bool false,.slice none 0 0,.bool false,.slice none 0 0] 77)) (.cells #[.string ⟨#[]⟩,.string ⟨#[]⟩,.int .i64 0,.int .i64 0] 46))).drew) (fun hHeld=>?_)
    clear hK K;(try simp only[tkS]);refine tk1 16 (fun K hK=>?_)
    go_simp;refine hK.out _ _ (by exact HSx.out _ ((qad (qad (qad (Below.refl w1.heap.size w1) (.cells #[.bool false,.slice none 0 0,.bool false,.slice none 0 0] 77)) (.cells #[.bool false,.slice none 0 0,.bool false,.slice none 0 0] 77)) (.cells #[.string lo,.string hi,.int .i64 0,.int .i64 0] 46))).drew) (fun hHeld=>?_)
    clear hK K;(try simp only[tkS]);refine tk1 17 (fun K hK=>?_)
    go_simp;refine hK.out _ _ (by exact HSx.out _ ((qad (qad (qad (Below.refl w1.heap.size w1) (.cells #[.bool false,.slice none 0 0,.bool false,.slice none 0 0] 77)) (.cells #[.bool p.l.x,.slice p.l.a p.l.n p.l.cap,.bool false,.slice none 0 0] 77)) (.cells #[.string lo,.string hi,.int .i64 0,.int .i64 0] 46))).drew) (fun hHeld=>?_)
    clear hK K;(try simp only[tkS]);refine tk1 18 (fun K hK=>?_)
    go_simp;refine hK.out _ _ (by exact HSx.out _ ((qad (qad (qad (Below.refl w1.heap.size w1) (.cells #[.bool p.h.x,.slice p.h.a p.h.n p.h.cap,.bool false,.slice none 0 0] 77)) (.cells #[.bool p.l.x,.slice p.l.a p.l.n p.l.cap,.bool false,.slice none 0 0] 77)) (.cells #[.string lo,.string hi,.int .i64 0,.int .i64 0] 46))).drew) (fun hHeld=>?_)
    clear hK K;(try simp only[tkS]);refine tkD ?_ _
    go_wp2_with fail
    go_meet
    have h7:Blk (((w1.alloc (.cells #[.bool p.h.x,.slice p.h.a p.h.n p.h.cap,.bool false,.slice none 0 0] 77)).alloc (.cells #[.bool p.l.x,.slice p.l.a p.l.n p.l.cap,.bool false,.slice none 0 0] 77)).alloc (.cells #[.string lo,.string hi,.int .i64 0,.int .i64 0] 46)) (w1.heap.size+1+1) #[.string lo,.string hi,.int .i64 0,.int .i64 0] 46:=by
     have h:Blk (((w1.alloc (.cells #[.bool p.h.x,.slice p.h.a p.h.n p.h.cap,.bool false,.slice none 0 0] 77)).alloc (.cells #[.bool p.l.x,.slice p.l.a p.l.n p.l.cap,.bool false,.slice none 0 0] 77)).alloc (.cells #[.string lo,.string hi,.int .i64 0,.int .i64 0] 46)) (w1.heap.size+1+1) #[.string lo,.string hi,.int .i64 0,.int .i64 0] 46:=by
      have h0:=Blk.new ((w1.alloc (.cells #[.bool p.h.x,.slice p.h.a p.h.n p.h.cap,.bool false,.slice none 0 0] 77)).alloc (.cells #[.bool p.l.x,.slice p.l.a p.l.n p.l.cap,.bool false,.slice none 0 0] 77)) #[.string lo,.string hi,.int .i64 0,.int .i64 0] 46
      simpa using h0
     exact h
    have h8:Blk (((w1.alloc (.cells #[.bool p.h.x,.slice p.h.a p.h.n p.h.cap,.bool false,.slice none 0 0] 77)).alloc (.cells #[.bool p.l.x,.slice p.l.a p.l.n p.l.cap,.bool false,.slice none 0 0] 77)).alloc (.cells #[.string lo,.string hi,.int .i64 0,.int .i64 0] 46)) (w1.heap.size+1) #[.bool p.l.x,.slice p.l.a p.l.n p.l.cap,.bool false,.slice none 0 0] 77:=by
     have h:Blk ((w1.alloc (.cells #[.bool p.h.x,.slice p.h.a p.h.n p.h.cap,.bool false,.slice none 0 0] 77)).alloc (.cells #[.bool p.l.x,.slice p.l.a p.l.n p.l.cap,.bool false,.slice none 0 0] 77)) (w1.heap.size+1) #[.bool p.l.x,.slice p.l.a p.l.n p.l.cap,.bool false,.slice none 0 0] 77:=by
      have h0:=Blk.new (w1.alloc (.cells #[.bool p.h.x,.slice p.h.a p.h.n p.h.cap,.bool false,.slice none 0 0] 77)) #[.bool p.l.x,.slice p.l.a p.l.n p.l.cap,.bool false,.slice none 0 0] 77
      simpa using h0
     exact(h.old _)
    have h9:Blk (((w1.alloc (.cells #[.bool p.h.x,.slice p.h.a p.h.n p.h.cap,.bool false,.slice none 0 0] 77)).alloc (.cells #[.bool p.l.x,.slice p.l.a p.l.n p.l.cap,.bool false,.slice none 0 0] 77)).alloc (.cells #[.string lo,.string hi,.int .i64 0,.int .i64 0] 46)) (w1.heap.size) #[.bool p.h.x,.slice p.h.a p.h.n p.h.cap,.bool false,.slice none 0 0] 77:=by
     have h:Blk (w1.alloc (.cells #[.bool p.h.x,.slice p.h.a p.h.n p.h.cap,.bool false,.slice none 0 0] 77)) (w1.heap.size) #[.bool p.h.x,.slice p.h.a p.h.n p.h.cap,.bool false,.slice none 0 0] 77:=by
      have h0:=Blk.new w1 #[.bool p.h.x,.slice p.h.a p.h.n p.h.cap,.bool false,.slice none 0 0] 77
      simpa using h0
     exact((h.old _).old _)
    exact⟨_,_,_,rfl,rfl,rfl,((qad (qad (qad (Below.refl w1.heap.size w1) (.cells #[.bool p.h.x,.slice p.h.a p.h.n p.h.cap,.bool false,.slice none 0 0] 77)) (.cells #[.bool p.l.x,.slice p.l.a p.l.n p.l.cap,.bool false,.slice none 0 0] 77)) (.cells #[.string lo,.string hi,.int .i64 0,.int .i64 0] 46))).drew,Blk.drew h7,Blk.drew h8,Blk.drew h9⟩
 case rest=>
  obtain⟨b7,b8,b9,rfl,rfl,rfl,hbx,hB7,hB8,hB9⟩:=hcut;have Hbx:=hI hbx;have HB:=hI (fun w' (hb:Below wc.heap.size wc w')=>And.intro (qcs hB7 hb) (And.intro (qcs hB8 hb) (qcs hB9 hb)));have HR2:=hI (fun w' (hb:Below wc.heap.size wc w')=>And.intro (HRR.out.1.mono (qab Hbx.out hb)) (HRR.out.2.mono (qab Hbx.out hb)));have HF1:=hI (fun w'=>qi4 1 w' (by decide) (by decide));have HF2:=hI (fun w'=>qi4 2 w' (by decide) (by decide));have HA:=hI (fun w' (hb:Below wc.heap.size wc w')=>qr1 _ _ 1 2 w' (HR2.out w' hb).1 (HR2.out w' hb).2 (by rw[qan (by decide) (by decide)];decide) (by rw[qan (by decide) (by decide)];decide));have HD:=hI (fun w' v v' (hv:RatV w' v (1+2) 0) (hv':RatV w' v' 2 0)=>div1 v v' (1+2) 2 w' hv hv' (by decide) (by decide) (by rw[qan (by decide) (by decide)];decide) (by decide));have HNu:=hI (fun w' v (hv:RatV w' v (1+2) 2)=>qqs v (1+2) 2 w' hv (by decide) (by decide) (by decide) (by decide));rw[show(1+2:Int)=3 from rfl]at HA HD HNu;clear hB7 hB8 hB9 hbx;obtain⟨⟨k0,k1,k2,k3⟩,⟨l0,l1,l2,l3⟩,m0,m1,m2,m3⟩:=HB.out _ (Below.refl _ _)
  go_wp2_with (first
   |(go_at_call 57;have _t:=Hv3;clear _t;refine(HF2.out _).mono ?_;rintro e w4 ⟨v4,rfl,hv4,hb4⟩;have Hv4:=hI hv4;have Hv3b:=hI (Hv3.out.mono hb4);have Hb4:=hI (qab Hb3.out hb4);clear hv4 hb4)
   |(go_at_call 57;refine(HF1.out _).mono ?_;rintro e w2 ⟨v2,rfl,hv2,hb2⟩;obtain⟨x5,a5,n5,c5,x6,a6,n6,c6,rfl,hv2⟩:=hv2.open;have Hb2:=hI (qab hb2 (qa2 w2 (.cells #[.bool x5,.slice a5 n5 c5,.bool x6,.slice a6 n6 c6] 77) (.cells #[.bool false,.slice none 0 0,.bool false,.slice none 0 0] 77)));obtain⟨⟨k0,k1,k2,k3⟩,⟨l0,l1,l2,l3⟩,m0,m1,m2,m3⟩:=HB.out _ Hb2.out;have HB11:=hI (show Blk ((w2.alloc (.cells #[.bool x5,.slice a5 n5 c5,.bool x6,.slice a6 n6 c6] 77)).alloc (.cells #[.bool false,.slice none 0 0,.bool false,.slice none 0 0] 77)) (w2.heap.size+1) #[.bool false,.slice none 0 0,.bool false,.slice none 0 0] 77 by have h:=Blk.new (w2.alloc (.cells #[.bool x5,.slice a5 n5 c5,.bool x6,.slice a6 n6 c6] 77)) #[.bool false,.slice none 0 0,.bool false,.slice none 0 0] 77;simpa using h);have Hw2:=hI hb2;clear hv2 hb2)
   |(go_at_call 58;refine(HA.out _ Hb2.out).mono ?_;rintro e w3 ⟨v3,rfl,hv3,hb3⟩;have Hv3:=hI hv3;have Hb3:=hI hb3;clear hv3 hb3)
   |(go_at_call 60;refine(HD.out _ _ _ Hv3b.out Hv4.out).mono ?_;rintro e w5 ⟨v5,rfl,⟨r0',rfl,hv5⟩,hb5⟩;obtain⟨y5,d5,p5,g5,y6,d6,p6,g6,rfl,hv5⟩:=hv5.open;have hbb:=qab Hb4.out hb5;have hr:=HB11.out.below hbb;obtain⟨⟨r0,r1,r2,r3⟩,f0,f1,f2,f3⟩:=qat hr;obtain⟨hv6,hb6⟩:=RatV.put4 hv5 hr;have Hv6:=hI hv6;have HB12:=hI hb6;have Hb6:=hI (qaw (b:=w2.heap.size+1) (.bool y5) (.slice d5 p5 g5) (.bool y6) (.slice d6 p6 g6) (qab Hb2.out hbb) (by have:=Hw2.out.size;omega));clear hv5 hbb hr hv6 hb6 hb5)
   |(go_at_call 61;refine(HNu.out _ _ Hv6.out).mono ?_;rintro e w9 ⟨rfl,hb9⟩;have Hb9:=hI hb9;clear hb9))
  go_ret3
  exact⟨rfl,(Hb1.out.via (qab Hbx.out (qab Hb6.out Hb9.out)) Hb1.out.size)⟩
end Go.Proofs.YtacihodamichhaaGreatDoor
