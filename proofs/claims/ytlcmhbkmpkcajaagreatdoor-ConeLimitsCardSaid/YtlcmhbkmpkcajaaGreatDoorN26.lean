/-
  Parts of the proof: Qrw.
-/
import Derived.Test.YtlcmhbkmpkcajaaGreatDoorN25
namespace Go.Proofs.YtlcmhbkmpkcajaaGreatDoor
open Go.RowKit
theorem OVL.base {L M M' : Nat} {w : World} {o : Value} {m : List (List Rat)} (h : OVL L M w o m) (hM : M' ≤ M) : OVL L M' w o m := by
  obtain ⟨ps, hl, ho, hq⟩ := h
  exact ⟨ps, hl, own_base ho hM, hq⟩
theorem RS.wk {w wr : World} {D Kz Kz' : Nat} {cs : Array Value} {o pv : Value} {m : List (List Rat)} {piv : List Nat} (h : RS w wr D cs o pv m piv Kz) (hK : Kz ≤ Kz') : RS w wr D cs o pv m piv Kz' :=
  ⟨by obtain ⟨z, h1, h2⟩ := h.det; exact ⟨z, h1, h2.mono hK⟩, h.blk, h.res, h.om, h.op, h.below, h.low⟩
theorem cell_off {w : World} {G i j : Nat} {u v : Value} (h : w.cell? ⟨G, j, none⟩ = some v) (hne : i ≠ j) : (w.setCell ⟨G, i, none⟩ u).cell? ⟨G, j, none⟩ = some v := by
  rw [World.cell?_setCell_other w ⟨G, i, none⟩ ⟨G, j, none⟩ u (fun e => hne (by injection e))]
  exact h
set_option maxHeartbeats 16000000 in
set_option maxRecDepth 10000 in
theorem redm_g (v : Value) (m : List (List Rat)) (d : Nat) (w : World) (h : Vs w v m) (hn : m.length ≤ 256) (hd : d ≤ 8) (hf : ∀ k, k ≤ d → ∀ l ∈ (RS0 m k).1, FitV d l) :
    Calls Tryz.prog 82 #[v, .int .i64 (d : Int)] w (RetP (fun x w' => ∃ o p, ∃ (xz : Bool) (az : Option Addr) (nz cz : Nat) (yz : Bool) (ez : Option Addr) (lz dz : Nat), x = .tuple #[o, p, .agg #[.bool xz, .slice az nz cz, .bool yz, .slice ez lz dz]] ∧ OV w.heap.size w' o (RS0 m d).1 ∧ OP w.heap.size w' p (RS0 m d).2) w) := by
  obtain ⟨a0, c0, rfl, -, -⟩ := h.open
  have hb1 := below1 w (.cells #[.bool false, .slice none 0 0, .bool false, .slice none 0 0] 61)
  have HCl := hI (clonem_g _ m w.heap.size (w.alloc (.cells #[.bool false, .slice none 0 0, .bool false, .slice none 0 0] 61)) (h.vsl.mono hb1) (by omega))
  have HFr := hI (fun w' => show Calls Tryz.prog 39 #[.int .i64 1] w' (RetP (fun v w' => RQ w' v 1) w') from (rfrom_any 1 w' (by omega) (by omega)).mono fun e w2 ⟨v, he, hv, hb⟩ => ⟨v, he, ⟨0, hv, rfl⟩, hb⟩)
  have HRes := hI (Blk.new w #[.bool false, .slice none 0 0, .bool false, .slice none 0 0] 61)
  have HB1 := hI hb1
  have Hf := hI hf
  obtain ⟨N, hN⟩ : ∃ N, m.length = N := ⟨_, rfl⟩
  have HN := hI hN
  have HLn := hI (fun k => (red_len m k).trans hN)
  rw [hN] at hn HCl ⊢
  clear h hf hb1 hN
  go_enter Tryz.func82, Tryz.ntmps82
  go_wp2_with (first
    | (go_at_call 118; refine (HCl.out).mono ?_; rintro e5 w2 ⟨v2, rfl, hv2, hb2⟩; obtain ⟨oa, oc, rfl, -, -⟩ := hv2.ov.open; have HV2 := hI hv2; rw [HN.out] at HV2; have Hb2 := hI (bw_via HB1.out hb2); have HR2 := hI (HRes.out.below hb2); clear hv2 hb2)
    | (go_at_call 39; refine (HFr.out _).mono ?_; rintro e5 w3 ⟨v3, rfl, hv3, hb3⟩; obtain ⟨x3, a3, n3, c3, y3, e3, l3, d3, rfl, hv3⟩ := hv3.open; have HV3 := hI hv3; have Hb3 := hI (bw_via Hb2.out hb3); have HO3 := hI ((HV2.out.base (M' := w.heap.size) (by simp)).below hb3); have HR3 := hI (HR2.out.below hb3); clear hv3 hb3))
  rw [HN.out]
  have hS0 : RS w (w3.alloc (.cells #[.bool x3, .slice a3 n3 c3, .bool y3, .slice e3 l3 d3] 61)) w3.heap.size #[.bool x3, .slice a3 n3 c3, .bool y3, .slice e3 l3 d3] (.slice oa N oc) (.slice none 0 0) m [] 100 :=
    ⟨⟨1, HV3.out.mono (below1 _ _), ⟨by decide, by decide⟩⟩, Blk.new _ _ _, HR3.out.below (below1 _ _), HO3.out.om _, World.ownsRow_nil _ _ _ _, bwA Hb3.out _, HR3.out.lt⟩
  have HS0 := hI hS0
  generalize w3.alloc (.cells #[.bool x3, .slice a3 n3 c3, .bool y3, .slice e3 l3 d3] 61) = W0 at *
  generalize w3.heap.size = D at *
  clear hS0 HO3 HR3 HV3 Hb3 HV2 Hb2 HR2 HCl HRes
  go_loopw [10, 8] (fun kv pv wr => ∃ (K : Nat) (xD : Bool) (aD : Option Addr) (nD cD : Nat) (yD : Bool) (eD : Option Addr) (lD dD : Nat), K ≤ d ∧ kv = .int .i64 (K : Int) ∧ Hid (RS w wr D #[.bool xD, .slice aD nD cD, .bool yD, .slice eD lD dD] (.slice oa N oc) pv (RS0 m K).1 (RS0 m K).2 (100 * K + 100))) (fun kv _ _ => d - (intOf kv).toNat)
  case atStart => exact ⟨0, x3, a3, n3, c3, y3, e3, l3, d3, by omega, rfl, HS0.out⟩
  case round =>
    obtain ⟨K, xD, aD, nD, cD, yD, eD, lD, dD, hK, rfl, hS⟩ := hrel
    obtain ⟨wo, rfl⟩ : ∃ W, W = wr := ⟨_, rfl⟩
    have HS := hI hS.out
    obtain ⟨pa, pc, hpv, -, -⟩ := HS.out.op.open
    subst hpv
    obtain ⟨r, hr⟩ : ∃ r, (RS0 m K).2.length = r := ⟨_, rfl⟩
    rw [hr] at HS ⊢
    have Hr := hI hr
    clear hS hr HS0
    by_cases hgo : K < d ∧ r < N
    · obtain ⟨hKd, hrN⟩ := hgo
      have hKi : (K : Int) < (d : Int) := by omega
      have hri : (r : Int) < (N : Int) := by omega
      have HOM := hI HS.out.om
      obtain ⟨oa', oc', hoe, -, -, hoG⟩ := HS.out.om.open
      rw [HLn.out] at hoe hoG
      cases hoe
      obtain ⟨G, rfl⟩ := hoG (by omega)
      clear hoG
      go_wp2_with fail
      go_loopw [12] (fun iv wq => ∃ q : Nat, r ≤ q ∧ q ≤ N ∧ iv = .int .i64 (q : Int) ∧ Hid (findRow (RS0 m K).1 K (N - q) q = findRow (RS0 m K).1 K (N - r) r) ∧ Below wo.heap.size wo wq) (fun iv _ => N - (intOf iv).toNat)
      case atStart => exact ⟨r, Nat.le_refl _, by omega, rfl, rfl, Below.refl _ _⟩
      case round =>
        obtain ⟨q, hq1, hq2, rfl, hfr, hbq⟩ := hrel
        have Hfr := hI hfr.out
        have Hbq := hI hbq
        have Hm := hI (Hf.out K (by omega))
        clear hfr hbq
        have hq0 : (0 : Int) ≤ (q : Int) := Int.natCast_nonneg _
        have hK0 : (0 : Int) ≤ (K : Int) := Int.natCast_nonneg _
        rcases Nat.lt_or_ge q N with hlt | hge
        · obtain ⟨p, x, hx, g0, -, hqv, hpD⟩ := (HS.out.mono Hbq.out).om.cell hlt
          have hxl := (Hm.out x (List.mem_of_getElem? hx)).1
          obtain ⟨pa2, pc2, rfl, -, -⟩ := hqv.open
          rw [hxl] at hqv g0
          obtain ⟨b1, o1, x1, a1, n1, c1, y1, e1, l1, d1, t, rfl, ht, hT, z0, z1, z2, z3⟩ := hqv.at (Below.refl _ _) hKd
          have hqi : (q : Int) < (N : Int) := by omega
          have hqw : IntKind.i64.wrap ((q : Int) + 1) = (q : Int) + 1 := IntWalk.i64_in _ (by omega)
          have hxk : ((RS0 m K).1.getD q []).getD K 0 = t := by
            simp only [List.getD_eq_getElem?_getD, hx, ht, Option.getD_some]
          have HSg := hI (show Calls Tryz.prog 23 #[.agg #[.bool x1, .slice a1 n1 c1, .bool y1, .slice e1 l1 d1]] wr (Ret (.int .i64 t.num.sign) wr) from by
            obtain ⟨q, h, -⟩ := hT
            exact rsign_any _ t.num q _ h)
          by_cases hs : t.num.sign = 0
          · have ht0 : t = 0 := by rwa [Int.sign_eq_zero_iff_zero, Rat.num_eq_zero] at hs
            have Hfr2 := hI (show findRow (RS0 m K).1 K (N - (q + 1)) (q + 1) = findRow (RS0 m K).1 K (N - r) r from by
              rw [← Hfr.out, show N - q = N - (q + 1) + 1 by omega, find_step, if_neg (by rw [hxk, ht0]; simp)])
            clear hxk hx hxl hqv ht hT ht0
            go_wp2_with (go_at_call 23; refine (HSg.out).mono ?_; rintro e5 w4 ⟨rfl, hb4⟩; have Hb4 := hI (bw_via Hbq.out hb4); clear hb4)
            go_roundw
            case rel => exact ⟨q + 1, by omega, by omega, by go_num, Hfr2.out, Hb4.out⟩
            case measure => simp [intOf] <;> omega
          · have ht0 : t ≠ 0 := fun e => hs (by rw [e]; rfl)
            have hsome : findRow (RS0 m K).1 K (N - r) r = some q := by
              rw [← Hfr.out, show N - q = N - (q + 1) + 1 by omega, find_step, if_pos (by rw [hxk]; exact ht0)]
            have Hst := hI (show RS0 m (K + 1) = (clearM (swapO (RS0 m K).1 q r K) r K, (RS0 m K).2 ++ [K]) from by
              rw [red_succ, if_pos (by rw [HLn.out, Hr.out]; exact hrN), step_some (i := q) (by rw [HLn.out, Hr.out]; exact hsome), Hr.out])
            have hqN : ¬ (q : Int) = (N : Int) := by omega
            have Hx := hI hx
            have Ht := hI ht
            have Ht0 := hI ht0
            clear hxk hx hxl hqv ht hT ht0 hsome
            go_upto_if 55 with (go_at_call 23; refine (HSg.out).mono ?_; rintro e5 w4 ⟨rfl, hb4⟩; have HS4 := hI (HS.out.mono (bw_via Hbq.out hb4)); clear hb4)
            clear HSg z0 z1 z2 z3 g0
            generalize w4 = wz at *
            go_cut [] from 45 to 71 (fun wx => ∃ (xk : Bool) (ak : Option Addr) (nk ck : Nat) (yk : Bool) (ek : Option Addr) (lk dk : Nat), Hid (RS w wx D #[.bool xk, .slice ak nk ck, .bool yk, .slice ek lk dk] (.slice (some ⟨G, 0, none⟩) N oc) (.slice pa r pc) (swapM (RS0 m K).1 q r) (RS0 m K).2 (100 * K + 100)))
            case first =>
              by_cases hqr : q = r
              · have hqi2 : (q : Int) = (r : Int) := by omega
                have HSw := hI (show swapM (RS0 m K).1 q r = (RS0 m K).1 from by rw [hqr]; exact swapM_same (by rw [HLn.out]; exact hrN))
                clear hqr
                go_wp2_with fail
                go_meet
                exact ⟨xD, aD, nD, cD, yD, eD, lD, dD, by rw [HSw.out]; exact HS4.out⟩
              · have hqi2 : ¬ (q : Int) = (r : Int) := by omega
                obtain ⟨pq, xq, hxq, gq, fq, hQq, hDq⟩ := HS4.out.om.cell hlt
                obtain ⟨pr, xr, hxr, gr, fr, hQr, hDr⟩ := HS4.out.om.cell hrN
                obtain ⟨pqa, pqc, rfl, -, -⟩ := hQq.open
                obtain ⟨pra, prc, rfl, -, -⟩ := hQr.open
                have hQq := hQq.mono ((Below.refl _ _).dn 1)
                have hQr := hQr.mono ((Below.refl _ _).dn 1)
                have HSw := hI (show RS w ((wz.drew.setCell ⟨G, q, none⟩ (.slice pra xr.length prc)).setCell ⟨G, r, none⟩ (.slice pqa xq.length pqc)) D #[.bool xD, .slice aD nD cD, .bool yD, .slice eD lD dD] (.slice (some ⟨G, 0, none⟩) N oc) (.slice pa r pc) (swapM (RS0 m K).1 q r) (RS0 m K).2 (100 * K + 100) from by
                  have h1 := (HS4.out.mono ((Below.refl _ _).dn 1)).row hQr hDr q
                  have h2 := h1.row (p := (.slice pqa xq.length pqc)) (x := xq) (by
                    have := (HS4.out.mono ((Below.refl _ _).dn 1)).om.set (J := q) hQr hDr
                    exact hQq.keep this.2 (by decide) (by decide)) hDq r
                  have e : swapM (RS0 m K).1 q r = ((RS0 m K).1.set q xr).set r xq := by
                    unfold swapM
                    rw [List.getD_eq_getElem?_getD, List.getD_eq_getElem?_getD, hxq, hxr]
                    rfl
                  rw [e]
                  exact h2)
                clear hxq hxr hQq hQr hDq hDr
                go_wp2_with fail
                refine wp_region_pop (S := (fun w' => w'.cell? ⟨G, r, none⟩ = some (.slice pra xr.length prc))) 15 (by kernel_rfl) (by kernel_rfl) (by exact gr) (fun hHeld => ?_)
                simp only [List.take_succ_cons, List.take_zero, List.drop_succ_cons, List.drop_zero]
                refine' tk 0 ?_; (try simp only [tkS]); refine' tk 1 ?_; (try simp only [tkS]); refine' tk 2 ?_; (try simp only [tkS]); refine' tk 3 ?_; (try simp only [tkS]); refine' tk 4 ?_; (try simp only [tkS]); refine' tk 5 ?_; (try simp only [tkS]); refine' tk 6 ?_; (try simp only [tkS]); refine' tk 7 ?_; (try simp only [tkS]); refine' tk 8 ?_; (try simp only [tkS]); refine' tk 9 ?_; (try simp only [tkS]); refine' tk 10 ?_; (try simp only [tkS])
                refine tk1 11 (fun K hK => ?_)
                go_simp
                refine hK.out _ _ (by exact gr) (fun hHeld => ?_)
                clear hK K; (try simp only [tkS])
                refine' tk 12 ?_; (try simp only [tkS])
                refine tk1 13 (fun K hK => ?_)
                go_simp
                refine hK.out _ _ (by exact (cell_off (w := wz.drew) (i := q) (u := (.slice pra xr.length prc)) gr (fun e => hqi2 (by omega)))) (fun hHeld => ?_)
                clear hK K; (try simp only [tkS])
                refine' tk 14 ?_; (try simp only [tkS])
                refine tkD ?_ _
                simp only [Exit.then]
                go_upto_region 14 with (fail)
                have HSw := hI (show RS w (((wz.setCell ⟨G, q, none⟩ (.slice pra xr.length prc)).setCell ⟨G, r, none⟩ (.slice pqa xq.length pqc)).drew) D #[.bool xD, .slice aD nD cD, .bool yD, .slice eD lD dD] (.slice (some ⟨G, 0, none⟩) N oc) (.slice pa r pc) (swapM (RS0 m K).1 q r) (RS0 m K).2 (100 * K + 100) from HSw.out)
                generalize (((wz.setCell ⟨G, q, none⟩ (.slice pra xr.length prc)).setCell ⟨G, r, none⟩ (.slice pqa xq.length pqc)).drew) = w5 at *
                obtain ⟨⟨k0, k1, k2, k3⟩, e0, e1, e2, e3⟩ := blk4v HSw.out.blk
                obtain ⟨z, hz, hzs⟩ := HSw.out.det
                have HZs := hI hzs
                have HNg := hI (rneg_g _ z w5 hz)
                clear hz hzs
                go_wp2_with (go_at_call 35; refine (HNg.out).mono ?_; rintro e5 w6 ⟨v6, rfl, hv6, hb6⟩; obtain ⟨x6, a6, n6, c6, y6, e6, l6, d6, rfl, hv6⟩ := hv6.open; have HS6 := hI (HSw.out.mono hb6); have HV6 := hI hv6; clear hv6 hb6 k0 k1 k2 k3 e0 e1 e2 e3; obtain ⟨⟨k0, k1, k2, k3⟩, e0, e1, e2, e3⟩ := blk4v HS6.out.blk)
                go_meet
                exact ⟨x6, a6, n6, c6, y6, e6, l6, d6, HS6.out.num HV6.out HZs.out.neg⟩
            case rest =>
              obtain ⟨xk, ak, nk, ck, yk, ek, lk, dk, hS5⟩ := hcut
              obtain ⟨wx, rfl⟩ : ∃ W, W = wc := ⟨_, rfl⟩
              have HS5 := hI hS5.out
              have HXl := hI (show x.length = d from (Hm.out x (List.mem_of_getElem? Hx.out)).1)
              have HXz := hI (show ∀ y ∈ x, Sz 100 y from (Hm.out x (List.mem_of_getElem? Hx.out)).2)
              have HTz := hI (show Sz 100 t from HXz.out t (List.mem_of_getElem? Ht.out))
              have HSW := hI (show (swapM (RS0 m K).1 q r)[r]? = some x from swapM_at Hx.out (by rw [HLn.out]; exact hrN))
              clear hS5 HS4
              obtain ⟨z, hz, hzs⟩ := HS5.out.det
              have HZs := hI (show Sz (100 * (K + 1) + 100) (z * t) from (hzs.mul HTz.out).mono (by omega))
              obtain ⟨p5, x5', hx5, gr, -, hQ, -⟩ := HS5.out.om.cell hrN
              rw [HSW.out, Option.some.injEq] at hx5
              subst hx5
              obtain ⟨pa5, pc5, rfl, -, -⟩ := hQ.open
              rw [HXl.out] at hQ gr
              obtain ⟨b2, o2, x2, a2, n2, c2, y2, e2, l2, d2, t2, rfl, ht2, hT2, z0, z1, z2, z3⟩ := hQ.at (Below.refl _ _) hKd
              rw [Ht.out, Option.some.injEq] at ht2
              subst ht2
              obtain ⟨⟨k0, k1, k2, k3⟩, -⟩ := blk4v HS5.out.blk
              have HMu := hI (fun w' (hb : Below wx.heap.size wx w') => rmul_g _ _ z t (100 * K + 100) 100 w' (hz.mono hb) (hT2.mono hb) hzs HTz.out (by omega))
              have HS15 := hI (fun w' (hb : Below wx.heap.size wx w') => show (fun w' => w'.cell? ⟨D, 0, none⟩ = some (.bool xk) ∧ w'.cell? ⟨D, 1, none⟩ = some (.slice ak nk ck) ∧ w'.cell? ⟨D, 2, none⟩ = some (.bool yk) ∧ w'.cell? ⟨D, 3, none⟩ = some (.slice ek lk dk) ∧ w'.cell? ⟨G, r, none⟩ = some (.slice (some ⟨b2, o2, none⟩) d pc5) ∧ w'.cell? ⟨b2, o2 + K * 4, none⟩ = some (.bool x2) ∧ w'.cell? ⟨b2, o2 + K * 4 + 1, none⟩ = some (.slice a2 n2 c2) ∧ w'.cell? ⟨b2, o2 + K * 4 + 2, none⟩ = some (.bool y2) ∧ w'.cell? ⟨b2, o2 + K * 4 + 3, none⟩ = some (.slice e2 l2 d2)) w' from ⟨cell_keep hb k0, cell_keep hb k1, cell_keep hb k2, cell_keep hb k3, cell_keep hb gr, cell_keep hb z0, cell_keep hb z1, cell_keep hb z2, cell_keep hb z3⟩)
              clear hz hzs hQ gr hT2 z0 z1 z2 z3 k0 k1 k2 k3
              go_wp2_with fail
              refine wp_region_pop (S := (fun w' => w'.cell? ⟨D, 0, none⟩ = some (.bool xk) ∧ w'.cell? ⟨D, 1, none⟩ = some (.slice ak nk ck) ∧ w'.cell? ⟨D, 2, none⟩ = some (.bool yk) ∧ w'.cell? ⟨D, 3, none⟩ = some (.slice ek lk dk) ∧ w'.cell? ⟨G, r, none⟩ = some (.slice (some ⟨b2, o2, none⟩) d pc5) ∧ w'.cell? ⟨b2, o2 + K * 4, none⟩ = some (.bool x2) ∧ w'.cell? ⟨b2, o2 + K * 4 + 1, none⟩ = some (.slice a2 n2 c2) ∧ w'.cell? ⟨b2, o2 + K * 4 + 2, none⟩ = some (.bool y2) ∧ w'.cell? ⟨b2, o2 + K * 4 + 3, none⟩ = some (.slice e2 l2 d2))) 9 (by kernel_rfl) (by kernel_rfl) (by exact (HS15.out _ ((Below.refl _ _).dn 1))) (fun hHeld => ?_)
              simp only [List.take_succ_cons, List.take_zero, List.drop_succ_cons, List.drop_zero]
              refine' tk 0 ?_; (try simp only [tkS]); refine' tk 1 ?_; (try simp only [tkS]); refine' tk 2 ?_; (try simp only [tkS]); refine' tk 3 ?_; (try simp only [tkS]); refine' tk 4 ?_; (try simp only [tkS]); refine' tk 5 ?_; (try simp only [tkS]); refine' tk 6 ?_; (try simp only [tkS]); refine' tk 7 ?_; (try simp only [tkS])
              refine tk1 8 (fun K hK => ?_)
              go_simp
              go_at_call 33
              refine (HMu.out _ ((Below.refl _ _).dn 1)).mono ?_
              rintro e5 w8 ⟨v8, rfl, hv8, hb8⟩
              have Hb8 := hI (bw_via ((Below.refl _ _).dn 1) hb8)
              obtain ⟨x8, a8, n8, c8, y8, e8, l8, d8, rfl, hv8⟩ := hv8.open
              have Hv8 := hI hv8
              clear hv8 hb8
              refine hK.out _ _ (by exact (HS15.out _ (Hb8.out))) (fun hHeld => ?_)
              clear hK K; (try simp only [tkS])
              refine tkD ?_ _
              simp only [Exit.then]
              have HS8 := hI (HS5.out.mono Hb8.out)
              obtain ⟨⟨k0, k1, k2, k3⟩, e0, e1, e2, e3⟩ := blk4v HS8.out.blk
              have HS9 := hI (HS8.out.num Hv8.out HZs.out)
              go_upto_region 16 with (fail)
              generalize ((((w8.setCell ⟨D, 0, none⟩ (.bool x8)).setCell ⟨D, 1, none⟩ (.slice a8 n8 c8)).setCell ⟨D, 2, none⟩ (.bool y8)).setCell ⟨D, 3, none⟩ (.slice e8 l8 d8)) = w9 at *
              clear k0 k1 k2 k3 e0 e1 e2 e3
              clear HS15 HMu HS8 HS5 Hv8 Hb8
              obtain ⟨p5, x5', hx5, gr, -, hQ, -⟩ := HS9.out.om.cell hrN
              rw [HSW.out, Option.some.injEq] at hx5
              subst hx5
              obtain ⟨pa5, pc5, rfl, -, -⟩ := hQ.open
              rw [HXl.out] at hQ gr
              obtain ⟨b2, o2, x2, a2, n2, c2, y2, e2, l2, d2, t2, rfl, ht2, hT2, z0, z1, z2, z3⟩ := hQ.at (Below.refl _ _) hKd
              rw [Ht.out, Option.some.injEq] at ht2
              subst ht2
              have HOv := hI (fun w' (hb : Below w9.heap.size w9 w') => over_g _ _ x t d 100 100 w' (hQ.mono hb) (hT2.mono hb) HXl.out (by omega) HXz.out HTz.out (by omega) Ht0.out)
              have HOl := hI (show (overV x t).length = d from by unfold overV; rw [List.length_map]; exact HXl.out)
              have HSO := hI (show swapO (RS0 m K).1 q r K = (swapM (RS0 m K).1 q r).set r (overV x t) from by
                unfold swapO
                rw [List.getD_eq_getElem?_getD, Hx.out, Option.getD_some, List.getD_eq_getElem?_getD, Ht.out, Option.getD_some])
              have HS16 := hI (fun w' (hb : Below w9.heap.size w9 w') => show (fun w' => w'.cell? ⟨G, r, none⟩ = some (.slice (some ⟨b2, o2, none⟩) d pc5) ∧ w'.cell? ⟨b2, o2 + K * 4, none⟩ = some (.bool x2) ∧ w'.cell? ⟨b2, o2 + K * 4 + 1, none⟩ = some (.slice a2 n2 c2) ∧ w'.cell? ⟨b2, o2 + K * 4 + 2, none⟩ = some (.bool y2) ∧ w'.cell? ⟨b2, o2 + K * 4 + 3, none⟩ = some (.slice e2 l2 d2)) w' from ⟨cell_keep hb gr, cell_keep hb z0, cell_keep hb z1, cell_keep hb z2, cell_keep hb z3⟩)
              clear hQ gr hT2 z0 z1 z2 z3
              go_wp2_with fail
              refine wp_region_pop (S := (fun w' => w'.cell? ⟨G, r, none⟩ = some (.slice (some ⟨b2, o2, none⟩) d pc5) ∧ w'.cell? ⟨b2, o2 + K * 4, none⟩ = some (.bool x2) ∧ w'.cell? ⟨b2, o2 + K * 4 + 1, none⟩ = some (.slice a2 n2 c2) ∧ w'.cell? ⟨b2, o2 + K * 4 + 2, none⟩ = some (.bool y2) ∧ w'.cell? ⟨b2, o2 + K * 4 + 3, none⟩ = some (.slice e2 l2 d2))) 15 (by kernel_rfl) (by kernel_rfl) (by exact (HS16.out _ ((Below.refl _ _).dn 1))) (fun hHeld => ?_)
              simp only [List.take_succ_cons, List.take_zero, List.drop_succ_cons, List.drop_zero]
              refine' tk 0 ?_; (try simp only [tkS]); refine' tk 1 ?_; (try simp only [tkS]); refine' tk 2 ?_; (try simp only [tkS]); refine' tk 3 ?_; (try simp only [tkS]); refine' tk 4 ?_; (try simp only [tkS]); refine' tk 5 ?_; (try simp only [tkS]); refine' tk 6 ?_; (try simp only [tkS]); refine' tk 7 ?_; (try simp only [tkS]); refine' tk 8 ?_; (try simp only [tkS]); refine' tk 9 ?_; (try simp only [tkS]); refine' tk 10 ?_; (try simp only [tkS]); refine' tk 11 ?_; (try simp only [tkS]); refine' tk 12 ?_; (try simp only [tkS])
              refine tk1 13 (fun K hK => ?_)
              go_simp
              go_at_call 119
              refine (HOv.out _ ((Below.refl _ _).dn 1)).mono ?_
              rintro e5 w13 ⟨v13, rfl, ⟨hv13, hf13⟩, hb13⟩
              have HD13 := hI (show v13.ownBlock ≠ some D ∧ v13.ownBlock ≠ some w.heap.size from ⟨fun e => by have h1 := hf13 _ e; have h2 := HS9.out.blk.lt; simp at h1; omega, fun e => by have h1 := hf13 _ e; have h2 := HS9.out.blk.lt; have h3 := HS9.out.low; simp at h1; omega⟩)
              have Hb13 := hI (bw_via ((Below.refl _ _).dn 1) hb13)
              obtain ⟨pa6, pc6, hv13e, -, -⟩ := hv13.open
              rw [HOl.out] at hv13e
              subst hv13e
              have Hv13 := hI hv13
              clear hv13 hb13 hf13
              refine hK.out _ _ (by exact (HS16.out _ (Hb13.out))) (fun hHeld => ?_)
              clear hK K; (try simp only [tkS])
              refine' tk 14 ?_; (try simp only [tkS])
              refine tkD ?_ _
              simp only [Exit.then]
              obtain ⟨-, -, -, gr, fr, -, -⟩ := (HS9.out.mono Hb13.out).om.cell hrN
              have HSA := hI ((HS9.out.mono Hb13.out).row Hv13.out HD13.out r)
              rw [← HSO.out] at HSA
              go_upto_region 17 with (fail)
              generalize (w13.setCell ⟨G, r, none⟩ (.slice pa6 d pc6)) = w14 at *
              try clear gr fr
              have HFJ := hI (fun (J : Nat) => show ∀ row ∈ clearJ (swapO (RS0 m K).1 q r K) r K J, FitV d row from clearJ_mem (F := FitV d) (fun j row hj hr => swapO_other (fun x hx => Hm.out x hx) (by rw [HLn.out]; exact hlt) (by rw [HLn.out]; exact hrN) hj hr) (by
                have := Hf.out (K + 1) (by omega)
                rw [Hst.out] at this
                exact this))
              have HLO := hI (show (swapO (RS0 m K).1 q r K).length = N from by rw [swapO_len, HLn.out])
              clear HS16 HOv HSO HOl HSW HS9 Hv13 HZs
              go_wp2_with fail
              have hjw0 : (0 : Int) ≤ 0 := Int.le_refl _
              generalize swapO (RS0 m K).1 q r K = MO at *
              go_loopw [98] (fun jv wq => ∃ J : Nat, J ≤ N ∧ jv = .int .i64 (J : Int) ∧ Hid (RS w wq D #[.bool x8, .slice a8 n8 c8, .bool y8, .slice e8 l8 d8] (.slice (some ⟨G, 0, none⟩) N oc) (.slice pa r pc) (clearJ MO r K J) (RS0 m K).2 (100 * (K + 1) + 100))) (fun jv _ => N - (intOf jv).toNat)
              case atStart => exact ⟨0, by omega, rfl, by rw [clearJ_zero]; exact HSA.out⟩
              case round =>
                obtain ⟨J, hJ, rfl, hSJ⟩ := hrel
                obtain ⟨wj, rfl⟩ : ∃ W, W = wr := ⟨_, rfl⟩
                have HSJ := hI hSJ.out
                have hJ0 : (0 : Int) ≤ (J : Int) := Int.natCast_nonneg _
                have hr0 : (0 : Int) ≤ (r : Int) := Int.natCast_nonneg _
                clear hSJ
                rcases Nat.lt_or_ge J N with hJN | hJN
                · have hji : (J : Int) < (N : Int) := by omega
                  have hjw : IntKind.i64.wrap ((J : Int) + 1) = (J : Int) + 1 := IntWalk.i64_in _ (by omega)
                  obtain ⟨pj, xj, hxj, gj, fj, hQj, -⟩ := HSJ.out.om.cell hJN
                  have HFx := hI (HFJ.out J xj (List.mem_of_getElem? hxj))
                  have hrow : MO[J]? = some xj := by
                    have hJl : J < MO.length := by rw [HLO.out]; exact hJN
                    have h1 := clearJ_get (r := r) (k := K) (J := J) (List.getElem?_eq_getElem hJl)
                    rw [if_neg (by omega), hxj, Option.some.injEq] at h1
                    rw [h1]
                    exact List.getElem?_eq_getElem hJl
                  have Hrow := hI hrow
                  have HxJ := hI hxj
                  clear hrow hxj
                  by_cases hJr : J = r
                  · have HCs := hI (clearJ_skip (r := r) (k := K) Hrow.out (.inl hJr))
                    have hjr : (J : Int) = (r : Int) := by omega
                    clear gj fj hQj hJr
                    go_wp2_with fail
                    go_roundw
                    case rel => exact ⟨J + 1, by omega, by go_num, by rw [HCs.out]; exact HSJ.out⟩
                    case measure => simp [intOf] <;> omega
                  · have hjr : ¬ (J : Int) = (r : Int) := by omega
                    obtain ⟨pa2, pc2, rfl, -, -⟩ := hQj.open
                    rw [HFx.out.1] at hQj gj
                    obtain ⟨b3, o3, x3, a3, n3, c3, y3, e3, l3, d3, tj, rfl, htj, hTj, z0, z1, z2, z3⟩ := hQj.at (Below.refl _ _) hKd
                    have hxk : xj.getD K 0 = tj := by rw [List.getD_eq_getElem?_getD, htj, Option.getD_some]
                    have HSg := hI (show Calls Tryz.prog 23 #[.agg #[.bool x3, .slice a3 n3 c3, .bool y3, .slice e3 l3 d3]] wj (Ret (.int .i64 tj.num.sign) wj) from by
                      obtain ⟨q, h, -⟩ := hTj
                      exact rsign_any _ tj.num q _ h)
                    have Hs0 := hI (show tj.num.sign = 0 ↔ tj = 0 from by rw [Int.sign_eq_zero_iff_zero, Rat.num_eq_zero])
                    generalize tj.num.sign = sj at *
                    by_cases hs : sj = 0
                    · have HCs := hI (clearJ_skip (r := r) (k := K) Hrow.out (.inr (by rw [hxk]; exact Hs0.out.1 hs)))
                      clear fj hQj hJr hTj htj hxk
                      go_wp2_with (go_at_call 23; refine (HSg.out).mono ?_; rintro e5 w5 ⟨rfl, hb5⟩; have HSJ5 := hI (HSJ.out.mono hb5); clear hb5)
                      go_roundw
                      case rel => exact ⟨J + 1, by omega, by go_num, by rw [HCs.out]; exact HSJ5.out⟩
                      case measure => simp [intOf] <;> omega
                    · have hs2 : (sj != 0) = true := by simpa using hs
                      have hj2 : ((J : Int) != (r : Int)) = true := by simpa using hjr
                      have HCs := hI (clearJ_step (r := r) (k := K) Hrow.out hJr (by rw [hxk]; exact fun e => hs (Hs0.out.2 e)))
                      rw [hxk] at HCs
                      obtain ⟨pr, y, hy, gr, -, hQr, -⟩ := HSJ.out.om.cell hrN
                      have HFy := hI (HFJ.out J y (List.mem_of_getElem? hy))
                      have HYe := hI (show MO.getD r [] = y from by
                        have hrl : r < MO.length := by rw [HLO.out]; exact hrN
                        have h1 := clearJ_get (r := r) (k := K) (J := J) (List.getElem?_eq_getElem hrl)
                        rw [if_neg (by simp), hy, Option.some.injEq] at h1
                        rw [List.getD_eq_getElem?_getD, List.getElem?_eq_getElem hrl, Option.getD_some, h1])
                      rw [HYe.out] at HCs
                      obtain ⟨pa4, pc4, rfl, -, -⟩ := hQr.open
                      rw [HFy.out.1] at hQr gr
                      have HLe := hI (fun w' (hb : Below wj.heap.size wj w') => less_g _ _ _ xj y tj d 100 100 100 w' (hQj.mono hb) (hQr.mono hb) (hTj.mono hb) HFx.out.1 HFy.out.1 (by omega) HFx.out.2 HFy.out.2 (HFx.out.2 tj (List.mem_of_getElem? htj)) (by omega))
                      have HOl := hI (show (lessV xj y tj).length = d from by unfold lessV; rw [List.length_zipWith, HFx.out.1, HFy.out.1, Nat.min_self])
                      have HS21 := hI (fun w' (hb : Below wj.heap.size wj w') => show (fun w' => w'.cell? ⟨G, J, none⟩ = some (.slice (some ⟨b3, o3, none⟩) d pc2) ∧ w'.cell? ⟨G, r, none⟩ = some (.slice pa4 d pc4) ∧ w'.cell? ⟨b3, o3 + K * 4, none⟩ = some (.bool x3) ∧ w'.cell? ⟨b3, o3 + K * 4 + 1, none⟩ = some (.slice a3 n3 c3) ∧ w'.cell? ⟨b3, o3 + K * 4 + 2, none⟩ = some (.bool y3) ∧ w'.cell? ⟨b3, o3 + K * 4 + 3, none⟩ = some (.slice e3 l3 d3)) w' from ⟨cell_keep hb gj, cell_keep hb gr, cell_keep hb z0, cell_keep hb z1, cell_keep hb z2, cell_keep hb z3⟩)
                      clear fj hQj hQr hJr hTj htj hxk hy gr
                      go_wp2_with (go_at_call 23; refine (HSg.out).mono ?_; rintro e5 w5 ⟨rfl, hb5⟩; have Hb5 := hI hb5; clear hb5)
                      refine wp_region_pop (S := (fun w' => w'.cell? ⟨G, J, none⟩ = some (.slice (some ⟨b3, o3, none⟩) d pc2) ∧ w'.cell? ⟨G, r, none⟩ = some (.slice pa4 d pc4) ∧ w'.cell? ⟨b3, o3 + K * 4, none⟩ = some (.bool x3) ∧ w'.cell? ⟨b3, o3 + K * 4 + 1, none⟩ = some (.slice a3 n3 c3) ∧ w'.cell? ⟨b3, o3 + K * 4 + 2, none⟩ = some (.bool y3) ∧ w'.cell? ⟨b3, o3 + K * 4 + 3, none⟩ = some (.slice e3 l3 d3))) 19 (by kernel_rfl) (by kernel_rfl) (by exact (HS21.out _ (Hb5.out.dn 1))) (fun hHeld => ?_)
                      simp only [List.take_succ_cons, List.take_zero, List.drop_succ_cons, List.drop_zero]
                      refine' tk 0 ?_; (try simp only [tkS]); refine' tk 1 ?_; (try simp only [tkS]); refine' tk 2 ?_; (try simp only [tkS]); refine' tk 3 ?_; (try simp only [tkS]); refine' tk 4 ?_; (try simp only [tkS]); refine' tk 5 ?_; (try simp only [tkS]); refine' tk 6 ?_; (try simp only [tkS]); refine' tk 7 ?_; (try simp only [tkS]); refine' tk 8 ?_; (try simp only [tkS]); refine' tk 9 ?_; (try simp only [tkS]); refine' tk 10 ?_; (try simp only [tkS]); refine' tk 11 ?_; (try simp only [tkS]); refine' tk 12 ?_; (try simp only [tkS]); refine' tk 13 ?_; (try simp only [tkS]); refine' tk 14 ?_; (try simp only [tkS]); refine' tk 15 ?_; (try simp only [tkS]); refine' tk 16 ?_; (try simp only [tkS])
                      refine tk1 17 (fun K hK => ?_)
                      go_simp
                      go_at_call 120
                      refine (HLe.out _ (Hb5.out.dn 1)).mono ?_
                      rintro e5 w13 ⟨v13, rfl, ⟨hv13, hf13⟩, hb13⟩
                      have HD13 := hI (show v13.ownBlock ≠ some D ∧ v13.ownBlock ≠ some w.heap.size from ⟨fun e => by have h1 := hf13 _ e; have h2 := (HSJ.out.mono Hb5.out).blk.lt; simp at h1; omega, fun e => by have h1 := hf13 _ e; have h2 := (HSJ.out.mono Hb5.out).blk.lt; have h3 := HSJ.out.low; simp at h1; omega⟩)
                      have Hb13 := hI (bw_via (Hb5.out.dn 1) hb13)
                      obtain ⟨pa6, pc6, hv13e, -, -⟩ := hv13.open
                      rw [HOl.out] at hv13e
                      subst hv13e
                      have Hv13 := hI hv13
                      clear hv13 hb13 hf13
                      refine hK.out _ _ (by exact (HS21.out _ (Hb13.out))) (fun hHeld => ?_)
                      clear hK K; (try simp only [tkS])
                      refine' tk 18 ?_; (try simp only [tkS])
                      refine tkD ?_ _
                      simp only [Exit.then]
                      obtain ⟨-, -, -, gj, fj, -, -⟩ := (HSJ.out.mono Hb13.out).om.cell hJN
                      have HSJ6 := hI ((HSJ.out.mono Hb13.out).row Hv13.out HD13.out J)
                      go_wp2_with fail
                      go_roundw
                      case rel => exact ⟨J + 1, by omega, by go_num, by rw [HCs.out]; exact HSJ6.out⟩
                      case measure => simp [intOf] <;> omega
                · obtain rfl : J = N := by omega
                  have hji : ¬ (J : Int) < (J : Int) := by omega
                  have hKw : IntKind.i64.wrap ((K : Int) + 1) = (K : Int) + 1 := IntWalk.i64_in _ (by omega)
                  have HBn := hI (Blk.new wj #[.int .i64 (K : Int)] 3)
                  have HSB := hI (HSJ.out.mono (below1 wj (.cells #[.int .i64 (K : Int)] 3)))
                  have HOP := hI (show (wj.alloc (.cells #[.int .i64 (K : Int)] 3)).ownsRow w.heap.size 3 1 (.slice pa r pc) r (pvs (RS0 m K).2) from by
                    have := HSB.out.op
                    unfold OP at this
                    rwa [Hr.out] at this)
                  have HCa := hI (show clearJ MO r K J = clearM MO r K from by rw [← HLO.out]; exact clearJ_all MO r K)
                  rw [HCa.out] at HSB
                  go_wp2_with (at_builtin; refine wpAppL EI1 (by decide) [.int .i64 (K : Int)] rfl _ _ rfl w.heap.size r _ (pvs (RS0 m K).2) _ rfl rfl HOP.out HBn.out rfl (one1 _ rfl) (by omega) (by decide) (HSB.out.below.size) ?_; intro g4 cap4 w4 hown' hg' _ _; have HS7 := hI (HSB.out.app (k := K) (by rw [Hr.out]; exact hown') hg'); clear hown' hg')
                  go_roundw
                  case rel => exact ⟨K + 1, x8, a8, n8, c8, y8, e8, l8, d8, by omega, by go_num, by rw [Hst.out]; exact HS7.out⟩
                  case measure => simp [intOf] <;> omega
        · obtain rfl : q = N := by omega
          have hqi : ¬ (q : Int) < (q : Int) := by omega
          have hnone : stepM (RS0 m K) K = RS0 m K := step_none (by rw [HLn.out, Hr.out, ← Hfr.out, Nat.sub_self]; rfl)
          have hS1 : RS0 m (K + 1) = RS0 m K := by rw [red_succ, hnone, ite_self]
          have Hrel := hI ((HS.out.mono Hbq.out).wk (show 100 * K + 100 ≤ 100 * (K + 1) + 100 by omega))
          rw [← hS1] at Hrel
          have hKw : IntKind.i64.wrap ((K : Int) + 1) = (K : Int) + 1 := IntWalk.i64_in _ (by omega)
          clear hnone hS1
          go_wp2_with fail
          go_roundw
          case rel => exact ⟨K + 1, xD, aD, nD, cD, yD, eD, lD, dD, by omega, by go_num, Hrel.out⟩
          case measure => simp [intOf] <;> omega
    · have hfin : RS0 m d = RS0 m K := by
        rcases Nat.lt_or_ge K d with h1 | h1
        · have h2 : ¬ r < N := fun h2 => hgo ⟨h1, h2⟩
          have := red_stop (m := m) (k := K) (by rw [HLn.out, Hr.out]; exact h2) (d - K)
          rwa [show K + (d - K) = d by omega] at this
        · rw [show d = K by omega]
      have hcase : ¬ (K : Int) < (d : Int) ∨ ((K : Int) < (d : Int) ∧ ¬ (r : Int) < (N : Int)) := by omega
      have HFin := hI hfin
      have HSd := hI (fun w' (hb : Below wo.heap.size wo w') => show (fun w' => w'.cell? ⟨D, 0, none⟩ = some (.bool xD) ∧ w'.cell? ⟨D, 1, none⟩ = some (.slice aD nD cD) ∧ w'.cell? ⟨D, 2, none⟩ = some (.bool yD) ∧ w'.cell? ⟨D, 3, none⟩ = some (.slice eD lD dD)) w' from cells4 HS.out.blk hb)
      clear hfin hgo
      rcases hcase with hki | ⟨hki, hri⟩
      · go_wp2_with fail
        refine wp_region_pop (S := (fun w' => w'.cell? ⟨D, 0, none⟩ = some (.bool xD) ∧ w'.cell? ⟨D, 1, none⟩ = some (.slice aD nD cD) ∧ w'.cell? ⟨D, 2, none⟩ = some (.bool yD) ∧ w'.cell? ⟨D, 3, none⟩ = some (.slice eD lD dD))) 5 (by kernel_rfl) (by kernel_rfl) (by exact (HSd.out _ ((Below.refl _ _).dn 1))) (fun hHeld => ?_)
        simp only [List.take_succ_cons, List.take_zero, List.drop_succ_cons, List.drop_zero]
        refine' tk 0 ?_; (try simp only [tkS]); refine' tk 1 ?_; (try simp only [tkS]); refine' tk 2 ?_; (try simp only [tkS]); refine' tk 3 ?_; (try simp only [tkS]); refine' tk 4 ?_; (try simp only [tkS])
        refine tkD ?_ _
        simp only [Exit.then]
        obtain ⟨⟨r0, r1, r2, r3⟩, f0, f1, f2, f3⟩ := blk4v HS.out.res
        have Hbl := hI (put_below4 (b := w.heap.size) (.bool xD) (.slice aD nD cD) (.bool yD) (.slice eD lD dD) (HS.out.mono ((Below.refl _ _).dn 1)).below (Nat.le_refl _))
        have Hom := hI ((HS.out.mono ((Below.refl _ _).dn 1)).om.put4 (HS.out.mono ((Below.refl _ _).dn 1)).res (.inr rfl) (.bool xD) (.slice aD nD cD) (.bool yD) (.slice eD lD dD)).ov
        have Hop := hI ((HS.out.mono ((Below.refl _ _).dn 1)).op.keep (keep4 (HS.out.mono ((Below.refl _ _).dn 1)).res (.bool xD) (.slice aD nD cD) (.bool yD) (.slice eD lD dD)) (by decide))
        have Hb6 := hI ((HS.out.mono ((Below.refl _ _).dn 1)).res.set4 (i := 0) (cs := [.bool false, .slice none 0 0, .bool false, .slice none 0 0]) (.bool xD) (.slice aD nD cD) (.bool yD) (.slice eD lD dD))
        simp only [List.set_cons_zero, List.set_cons_succ, Nat.zero_add] at Hb6
        have Hb7 := hI (HS.out.res.set4 (i := 0) (cs := [.bool false, .slice none 0 0, .bool false, .slice none 0 0]) (.bool xD) (.slice aD nD cD) (.bool yD) (.slice eD lD dD))
        simp only [List.set_cons_zero, List.set_cons_succ, Nat.zero_add] at Hb7
        go_wp2_with fail
        obtain ⟨⟨q0, q1, q2, q3⟩, -⟩ := blk4v Hb7.out
        exact bodyPost_ret (v := .tuple #[.slice oa N oc, .slice pa r pc, .agg #[.bool xD, .slice aD nD cD, .bool yD, .slice eD lD dD]]) (by simp [results, Tryz.results82, go_sem, q0, q1, q2, q3]) rfl ⟨_, rfl, ⟨_, _, xD, aD, nD, cD, yD, eD, lD, dD, rfl, by rw [HFin.out]; exact Hom.out, by rw [HFin.out]; exact Hop.out⟩, Hbl.out⟩
      · go_wp2_with fail
        refine wp_region_pop (S := (fun w' => w'.cell? ⟨D, 0, none⟩ = some (.bool xD) ∧ w'.cell? ⟨D, 1, none⟩ = some (.slice aD nD cD) ∧ w'.cell? ⟨D, 2, none⟩ = some (.bool yD) ∧ w'.cell? ⟨D, 3, none⟩ = some (.slice eD lD dD))) 5 (by kernel_rfl) (by kernel_rfl) (by exact (HSd.out _ ((Below.refl _ _).dn 1))) (fun hHeld => ?_)
        simp only [List.take_succ_cons, List.take_zero, List.drop_succ_cons, List.drop_zero]
        refine' tk 0 ?_; (try simp only [tkS]); refine' tk 1 ?_; (try simp only [tkS]); refine' tk 2 ?_; (try simp only [tkS]); refine' tk 3 ?_; (try simp only [tkS]); refine' tk 4 ?_; (try simp only [tkS])
        refine tkD ?_ _
        simp only [Exit.then]
        obtain ⟨⟨r0, r1, r2, r3⟩, f0, f1, f2, f3⟩ := blk4v HS.out.res
        have Hbl := hI (put_below4 (b := w.heap.size) (.bool xD) (.slice aD nD cD) (.bool yD) (.slice eD lD dD) (HS.out.mono ((Below.refl _ _).dn 1)).below (Nat.le_refl _))
        have Hom := hI ((HS.out.mono ((Below.refl _ _).dn 1)).om.put4 (HS.out.mono ((Below.refl _ _).dn 1)).res (.inr rfl) (.bool xD) (.slice aD nD cD) (.bool yD) (.slice eD lD dD)).ov
        have Hop := hI ((HS.out.mono ((Below.refl _ _).dn 1)).op.keep (keep4 (HS.out.mono ((Below.refl _ _).dn 1)).res (.bool xD) (.slice aD nD cD) (.bool yD) (.slice eD lD dD)) (by decide))
        have Hb6 := hI ((HS.out.mono ((Below.refl _ _).dn 1)).res.set4 (i := 0) (cs := [.bool false, .slice none 0 0, .bool false, .slice none 0 0]) (.bool xD) (.slice aD nD cD) (.bool yD) (.slice eD lD dD))
        simp only [List.set_cons_zero, List.set_cons_succ, Nat.zero_add] at Hb6
        have Hb7 := hI (HS.out.res.set4 (i := 0) (cs := [.bool false, .slice none 0 0, .bool false, .slice none 0 0]) (.bool xD) (.slice aD nD cD) (.bool yD) (.slice eD lD dD))
        simp only [List.set_cons_zero, List.set_cons_succ, Nat.zero_add] at Hb7
        go_wp2_with fail
        obtain ⟨⟨q0, q1, q2, q3⟩, -⟩ := blk4v Hb7.out
        exact bodyPost_ret (v := .tuple #[.slice oa N oc, .slice pa r pc, .agg #[.bool xD, .slice aD nD cD, .bool yD, .slice eD lD dD]]) (by simp [results, Tryz.results82, go_sem, q0, q1, q2, q3]) rfl ⟨_, rfl, ⟨_, _, xD, aD, nD, cD, yD, eD, lD, dD, rfl, by rw [HFin.out]; exact Hom.out, by rw [HFin.out]; exact Hop.out⟩, Hbl.out⟩
end Go.Proofs.YtlcmhbkmpkcajaaGreatDoor
