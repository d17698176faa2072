/-
  Parts of the proof: Lower, Kn3, Lz.
-/
import Derived.Lib.SliceRun
import Derived.Lib.ItoaNum
import Derived.Test.YtlcmhbkmpkcajaaGreatDoorNShelf
import Derived.Test.YtlcmhbkmpkcajaaGreatDoorN06
namespace Go.Proofs.YtlcmhbkmpkcajaaGreatDoor
open Go.RowKit
theorem EU : ElemTy 57 110 1 4 := ⟨Tryz.underlying57, by kernel_rfl⟩
theorem flat_c1 (xs : List Value) : (xs.map c1).flatten = xs := by
  induction xs with
  | nil => rfl
  | cons x r ih => rw [List.map_cons, List.flatten_cons, ih]; rfl
def OutC (M : Nat) (w : World) (g cap : Nat) (xs : List Nat) : Prop := w.ownsRow M 110 1 (.slice (some ⟨g, 0, none⟩) xs.length cap) xs.length (u32s xs)
theorem OutC.cell {M : Nat} {w : World} {g cap : Nat} {xs : List Nat} (h : OutC M w g cap xs) {i d : Nat} (hd : xs[i]? = some d) : w.cell? ⟨g, i, none⟩ = some (.int .u32 (d : Int)) ∧ w.frozen? ⟨g, i, none⟩ = false := by
  constructor
  · have hS : Ls w (.slice (some ⟨g, 0, none⟩) xs.length cap) xs := ⟨Sl.own1 h, (own_au h).av⟩
    obtain ⟨b, off, d', ha, hd', hc⟩ := hS.at (Below.refl _ _) (lt_get hd)
    cases ha
    rw [hd] at hd'
    cases hd'
    rwa [Nat.zero_add] at hc
  · rcases h.2 with ⟨h1, h0⟩ | ⟨g', cap', cur, h1, hb, hg, _⟩
    · cases h1
    · cases h1
      exact frozen_of_row w g _ _ _ hg
theorem OutC.set {M : Nat} {w : World} {g cap : Nat} {xs : List Nat} (h : OutC M w g cap xs) {i : Nat} (hi : i < xs.length) (d : Nat) : OutC M (w.setCell ⟨g, i, none⟩ (.int .u32 (d : Int))) g cap (xs.set i d) := by
  have h1 := own_setCell h (i := i) (by omega) (.int .u32 (d : Int))
  unfold OutC
  rw [List.length_set]
  have e : u32s (xs.set i d) = (u32s xs).set i (.int .u32 (d : Int)) := by unfold u32s; rw [List.map_set]
  rw [e]
  exact h1
theorem OutC.ls {M : Nat} {w : World} {g cap : Nat} {xs : List Nat} (h : OutC M w g cap xs) : Ls w (.slice (some ⟨g, 0, none⟩) xs.length cap) xs := ⟨Sl.own1 h, (own_au h).av⟩
theorem OutC.below {M : Nat} {w w' : World} {g cap : Nat} {xs : List Nat} (h : OutC M w g cap xs) (hb : Below w.heap.size w w') : OutC M w' g cap xs := own_below h hb
theorem OutC.ge {M : Nat} {w : World} {g cap : Nat} {xs : List Nat} (h : OutC M w g cap xs) : M ≤ g := (h.lt g rfl).1
theorem own_zero1 (w : World) (T : TypeId) : (w.alloc (.cells #[] T)).ownsRow w.heap.size T 1 (.slice (some ⟨w.heap.size, 0, none⟩) 0 0) 0 [] :=
  ⟨rfl, .inr ⟨w.heap.size, 0, #[], rfl, Nat.le_refl _, heap_alloc_new w _, Nat.le_refl _, Nat.zero_le _, rfl, rfl⟩⟩
theorem below_own {B B' e sz n : Nat} {w W w' : World} {v : Value} {xs : List Value} (h : Below B w W) (ho : W.ownsRow B' e sz v n xs) (hBB : B ≤ B') (hB : B ≤ W.heap.size) (hg : W.grownBy w' v.ownBlock) : Below B w w' :=
  Below.grown h hg hB (fun q hq => Nat.le_trans hBB (ho.lt q hq).1)
theorem wpAppU {ops : Array Oper} {rest : List Oper} {o : Oper} {a : Act} {Q : Exit → Act → World → Prop} {W : World} (hgd : o.guard = none) (s x : Operand) (ho : o.op = .call { callee := .builtin .append, args := #[s, x], argTypes := #[57, 57] })
    (B g b off m c : Nat) (l : List Nat) (hs : a.eval s = .slice (some ⟨g, 0, none⟩) 0 0) (hx : a.eval x = .slice (some ⟨b, off, none⟩) m c) (hown : W.ownsRow B 110 1 (.slice (some ⟨g, 0, none⟩) 0 0) 0 []) (hq : Ls W (.slice (some ⟨b, off, none⟩) m c) l) (hn : m ≤ 1000000) (hB : B ≤ W.heap.size)
    (h : ∀ g' c' w', w'.ownsRow B 110 1 (.slice (some ⟨g', 0, none⟩) m c') m (u32s l) → W.grownBy w' (some g) → wpList Tryz.prog ops Q rest (a.put o.dst (.slice (some ⟨g', 0, none⟩) m c')) w') : wpList Tryz.prog ops Q (o :: rest) a W := by
  have hi := EU.info
  simp only [Option.map_eq_some_iff, Prod.mk.injEq] at hi
  obtain ⟨i, hi, ⟨z, hz, hzs⟩, hsize, hby⟩ := hi
  have hm : l.length = m := by
    obtain ⟨_, _, hv, _⟩ := hq.open
    cases hv
    rfl
  rcases Nat.eq_zero_or_pos m with rfl | hpos
  · obtain rfl : l = [] := List.length_eq_zero_iff.1 hm
    have hr : (Builtin.append_ #[57, 57] o.type #[.slice (some ⟨g, 0, none⟩) 0 0, .slice (some ⟨b, off, none⟩) 0 c]).run Tryz.prog W = .ok (.slice (some ⟨g, 0, none⟩) 0 0) W := by
      simp [Builtin.append_, run_underlying EU.und, sizeOf, typeInfo, hi, Builtin.lenOf, Builtin.firstCells, loadCells, loadCellsFrom, storeCells]
    refine wpList_plain hgd fun _ hK => ?_
    unfold Oper.wp execOp
    simp only [ho, resolve, invoke, builtin, Sem.run_bind, Sem.run_pure, Result.andThen_ok, List.map_toArray, List.map_cons, List.map_nil, hs, hx, hr]
    exact hK _ _ (h _ _ _ hown ⟨rfl, rfl, rfl, Nat.le_refl _, fun _ _ _ => rfl⟩)
  · have hfl := Sl.flat hq.1 (fun r hr => by obtain ⟨p, _, rfl⟩ := List.mem_map.1 hr; rfl) (by decide)
    rw [flat_c1] at hfl
    refine wpList_append_own _ hgd s x 57 ho B 110 i z 1 4 EU.und hi hz hsize hby hzs (by decide) _ 0 _ hs hown ⟨b, off, none⟩ m c (u32s l) hx (by unfold u32s; rw [List.length_map, hm, Nat.mul_one]) hfl ?_ (by unfold maxLen; omega) (by omega) hB (fun v' w' a1 a2 _ => ?_)
    · intro u hu
      unfold u32s at hu
      obtain ⟨p, _, rfl⟩ := List.mem_map.1 hu
      rfl
    · rw [Nat.zero_add, List.nil_append] at a1
      obtain ⟨a', c', rfl, -, -⟩ := own_open a1
      obtain ⟨g', rfl⟩ := own_some a1 hpos
      exact h g' c' w' a1 a2
set_option maxHeartbeats 2000000 in
set_option maxRecDepth 10000 in
theorem clone_any (b off n c : Nat) (l : List Nat) (w : World) (hL : Ls w (.slice (some ⟨b, off, none⟩) n c) l) (hn1 : l.length < 1000000) :
    Calls Tryz.prog 179 #[.slice (some ⟨b, off, none⟩) n c] w (RetP (fun v w' => ∃ g cap, v = .slice (some ⟨g, 0, none⟩) n cap ∧ OutC w.heap.size w' g cap l) w) := by
  have hm : l.length = n := by
    obtain ⟨_, _, hv, _⟩ := hL.open
    cases hv
    rfl
  have HL := hI (hL.mono (below1 w (.cells #[] 110)))
  have HO := hI (own_zero1 w 110)
  have HB := hI (below1 w (.cells #[] 110))
  have hn2 : n ≤ 1000000 := by omega
  clear hL
  have qT : ∀ (w : World) (a : Option Addr) (n c n' c' : Nat), (binOp .eql 57 (.slice a n c) (.slice none n' c')).run Tryz.prog w = .ok (.bool a.isNone) w := fun w a n c n' c' => Lib.run_eql_slice_nil w _ _ a n c n' c' Tryz.underlying57
  go_enter Tryz.func179, Tryz.ntmps179
  go_wp2_with (at_builtin; refine wpAppU rfl _ _ rfl w.heap.size w.heap.size b off n c l rfl rfl HO.out HL.out hn2 (by simp) ?_; intro g' c' w5 hown' hg'; have Hb5 := hI (below_own HB.out HO.out (Nat.le_refl _) (by simp) hg'); have Hown5 := hI hown'; clear hown' hg')
  go_ret
  exact ⟨_, rfl, ⟨g', c', rfl, by unfold OutC; rw [hm]; exact Hown5.out⟩, Hb5.out⟩
theorem lower_digit {d e s : Nat} (hd : d < 4294967296) (hs : s < 32) : d / 2 ^ s ||| (e * 4294967296 / 2 ^ s % 4294967296) < 4294967296 ∧ 2 ^ s * (d / 2 ^ s ||| (e * 4294967296 / 2 ^ s % 4294967296)) + d % 2 ^ s = d + 4294967296 * (e % 2 ^ s) := by
  obtain ⟨r, hr⟩ : ∃ r, s + r = 32 := ⟨32 - s, by omega⟩
  have hB : (4294967296 : Nat) = 2 ^ s * 2 ^ r := by rw [← Nat.pow_add, hr]
  have hp := Nat.two_pow_pos s
  have h1 : e * 4294967296 / 2 ^ s % 4294967296 = 2 ^ r * (e % 2 ^ s) := by
    rw [hB, ← Nat.mul_assoc, Nat.mul_comm e, Nat.mul_assoc, Nat.mul_div_cancel_left _ hp, Nat.mul_comm e, Nat.mul_comm (2 ^ s) (2 ^ r), Nat.mul_mod_mul_left]
  have h2 : d / 2 ^ s < 2 ^ r := by
    rw [Nat.div_lt_iff_lt_mul hp, Nat.mul_comm, ← hB]; exact hd
  have h3 : d / 2 ^ s ||| (e * 4294967296 / 2 ^ s % 4294967296) = 2 ^ r * (e % 2 ^ s) + d / 2 ^ s := by
    rw [h1, Nat.or_comm]
    exact (Nat.two_pow_add_eq_or_of_lt h2 _).symm
  rw [h3]
  have h4 : e % 2 ^ s < 2 ^ s := Nat.mod_lt _ hp
  have h5 : 2 ^ r * (e % 2 ^ s) + 2 ^ r ≤ 4294967296 := by
    rw [hB, Nat.mul_comm (2 ^ s), ← Nat.mul_succ]
    exact Nat.mul_le_mul_left _ h4
  refine ⟨by omega, ?_⟩
  have h6 := Nat.div_add_mod d (2 ^ s)
  rw [Nat.mul_add, ← Nat.mul_assoc, ← hB]
  omega
theorem mid_get {done : List Nat} {k d : Nat} {rest : List Nat} (h : done.length = k) : (done ++ d :: rest)[k]? = some d := by
  subst h
  rw [List.getElem?_append_right (Nat.le_refl _), Nat.sub_self]; rfl
theorem mid_set {done : List Nat} {k d v : Nat} {rest : List Nat} (h : done.length = k) : (done ++ d :: rest).set k v = done ++ v :: rest := by
  subst h
  rw [List.set_append_right _ _ (Nat.le_refl _), Nat.sub_self, List.set_cons_zero]
theorem low_step {s d e v K Z L A : Nat} (h : 2 ^ s * Z + A = L + K * (d % 2 ^ s)) (hv : 2 ^ s * v + d % 2 ^ s = d + 4294967296 * (e % 2 ^ s)) : 2 ^ s * (Z + K * v) + A = (L + K * d) + K * 4294967296 * (e % 2 ^ s) := by
  have e1 : K * (2 ^ s * v) + K * (d % 2 ^ s) = K * d + K * (4294967296 * (e % 2 ^ s)) := by rw [← Nat.mul_add, hv, Nat.mul_add]
  rw [Nat.mul_add, Nat.mul_left_comm, Nat.mul_assoc K]
  omega
set_option maxHeartbeats 4000000 in
set_option maxRecDepth 10000 in
theorem lowered_any (b off n c : Nat) (l : List Nat) (s : Nat) (w : World) (hL : Ls w (.slice (some ⟨b, off, none⟩) n c) l) (hd : Dg l) (hn1 : l.length < 1000000) (hs : s < 32) :
    Calls Tryz.prog 149 #[.slice (some ⟨b, off, none⟩) n c, .int .i64 (s : Int)] w (RetP (fun v w' => MagV w' v (natL l / 2 ^ s)) w) := by
  have HC := hI (clone_any b off n c l w hL hn1)
  have hn : l.length = n := by
    obtain ⟨_, _, hv, _⟩ := hL.open
    cases hv
    rfl
  have HL := hI (fun (wr : World) (hb : Below w.heap.size w wr) (k d : Nat) (hk : l[k]? = some d) => (show wr.cell? ⟨b, off + k, none⟩ = some (.int .u32 (d : Int)) from by
    obtain ⟨b', off', d', he, hd', c0⟩ := hL.at hb (k := k) (by rw [← hn]; exact lt_get hk)
    cases he
    rw [hk] at hd'
    cases hd'
    exact c0))
  have Hd := hI hd
  clear hL hd
  have hnl : n < 1000000 := by omega
  have Hn := hI hn
  clear hn hn1
  go_enter Tryz.func149, Tryz.ntmps149
  go_wp2_with (go_at_call 179; refine (HC.out).mono ?_; rintro e w1 ⟨v1, rfl, ⟨g, cap, rfl, hO⟩, hb1⟩)
  have HO := hI hO
  have HB1 := hI hb1
  clear hO hb1
  go_loopw [6, 11] (fun _ kk wr => ∃ (k : Nat) (done : List Nat), k ≤ n ∧ kk = .int .i64 (k : Int) ∧ Below w.heap.size w wr ∧ OutC w.heap.size wr g cap (done ++ l.drop k) ∧ Hid (done.length = k ∧ Dg done ∧ 2 ^ s * natL done + l.headD 0 % 2 ^ s = natL (l.take k) + 4294967296 ^ k * ((l.drop k).headD 0 % 2 ^ s))) (fun _ kk _ => n - (intOf kk).toNat)
  case atStart => exact ⟨0, [], Nat.zero_le _, rfl, HB1.out, HO.out, rfl, (fun d hd => by simp at hd), by rw [List.drop_zero, List.take_zero, Nat.pow_zero, Nat.one_mul]; show 2 ^ s * 0 + _ = 0 + _; rw [Nat.mul_zero]⟩
  case round =>
    clear HO HB1 HC
    obtain ⟨k, done, hk, rfl, hbw, hO, hpre⟩ := hrel
    rcases Nat.lt_or_ge k n with hlt | hge
    · obtain ⟨d, hdk⟩ : ∃ d, l[k]? = some d := ⟨l[k]'(by have := Hn.out; omega), by simp⟩
      have hdlt : d < 4294967296 := Hd.out d (List.mem_of_getElem? hdk)
      rw [drop_next hdk] at hO
      have hgd : (done ++ d :: l.drop (k + 1))[k]? = some d := mid_get hpre.out.1
      obtain ⟨c0, f0⟩ := hO.cell hgd
      have hkn : (k : Int) < (n : Int) := by omega
      have hk0 : (0 : Int) ≤ (k : Int) := Int.natCast_nonneg _
      have hkw : IntKind.i64.wrap ((k : Int) + 1) = (k : Int) + 1 := IntWalk.i64_in _ (by omega)
      obtain ⟨ds, hds⟩ : ∃ ds, d / 2 ^ s = ds := ⟨_, rfl⟩
      have hdsi : (d : Int) / 2 ^ s = (ds : Int) := by rw [← hds]; push_cast; rfl
      have hds32 : ds < 4294967296 := by rw [← hds]; exact Nat.lt_of_le_of_lt (Nat.div_le_self _ _) hdlt
      have hdsw : IntKind.u32.wrap (ds : Int) = (ds : Int) := IntWalk.u32_in _ (by omega)
      have hdrop : (l.drop k).headD 0 = d := by rw [drop_next hdk]; rfl
      have hinv := hpre.out.2.2
      rw [hdrop] at hinv
      have Hinv := hI (And.intro hinv hds)
      have Hset := hI (fun (W : World) (y : Nat) (z : Nat) (hW : OutC w.heap.size W g cap (done ++ y :: l.drop (k + 1))) => (show OutC w.heap.size (W.setCell ⟨g, k, none⟩ (.int .u32 (z : Int))) g cap (done ++ z :: l.drop (k + 1)) from by
        have h := hW.set (i := k) (by rw [List.length_append, List.length_cons, hpre.out.1]; omega) z
        rw [mid_set hpre.out.1] at h
        exact h))
      have HO1 := hI (Hset.out _ d ds hO)
      have hgM := hO.ge
      have Hbw1 := hI (hbw.setCell (p := ⟨g, k, none⟩) hgM (.int .u32 (ds : Int)))
      have Hdk := hI hdk
      by_cases hlast : k + 1 < n
      · obtain ⟨e, hek⟩ : ∃ e, l[k + 1]? = some e := ⟨l[k + 1]'(by have := Hn.out; omega), by simp⟩
        have helt : e < 4294967296 := Hd.out e (List.mem_of_getElem? hek)
        have hdrop1 : (l.drop (k + 1)).headD 0 = e := by rw [drop_next hek]; rfl
        obtain ⟨r1, r2⟩ := lower_digit (e := e) hdlt hs
        obtain ⟨t, ht⟩ : ∃ t, e * 4294967296 / 2 ^ s = t := ⟨_, rfl⟩
        obtain ⟨x, hx⟩ : ∃ x, t % 4294967296 = x := ⟨_, rfl⟩
        obtain ⟨v, hv⟩ : ∃ v, ds ||| x = v := ⟨_, rfl⟩
        rw [hds, ht, hx, hv] at r1 r2
        have ht64 : t < 18446744073709551616 := by rw [← ht]; exact Nat.lt_of_le_of_lt (Nat.div_le_self _ _) (by omega)
        have hx32 : x < 4294967296 := by omega
        have hti : (e : Int) * 4294967296 / 2 ^ s = (t : Int) := by
          obtain ⟨m, hm⟩ : ∃ m, e * 4294967296 = m := ⟨_, rfl⟩
          rw [← ht, show (e : Int) * 4294967296 = (m : Int) by omega, hm]
          push_cast
          rfl
        have hxi : (t : Int) % 4294967296 = (x : Int) := by omega
        have he1 : IntKind.u64.wrap (e : Int) = (e : Int) := IntWalk.u64_in _ (by omega)
        have he2 : IntKind.u64.wrap ((e : Int) * 4294967296) = (e : Int) * 4294967296 := IntWalk.u64_in _ (by omega)
        have he3 : IntKind.u64.wrap (t : Int) = (t : Int) := IntWalk.u64_in _ (by omega)
        have hor : bits .or .u32 (ds : Int) (x : Int) = (v : Int) := by
          have h := u32_or_nat ds x hds32 hx32
          rw [hv] at h
          exact h
        have hkn1 : (k : Int) + 1 < (n : Int) := by omega
        have hk1 : (0 : Int) ≤ (k : Int) + 1 := by omega
        have Hst := hI (low_step Hinv.out.1 r2)
        have HO2 := hI (Hset.out _ ds v HO1.out)
        have Hbw2 := hI (Hbw1.out.setCell (p := ⟨g, k, none⟩) hgM (.int .u32 (v : Int)))
        have c1 : (wr.setCell ⟨g, k, none⟩ (.int .u32 (ds : Int))).cell? ⟨b, off + k + 1, none⟩ = some (.int .u32 (e : Int)) := HL.out _ Hbw1.out (k + 1) e hek
        have Hek := hI hek
        have hsum : off + (k + 1) = off + k + 1 := rfl
        clear hO hbw hdk hek ht hx hv r2 hinv hds hdrop hgd
        have HS0 := hI (And.intro (HO1.out.cell (i := k) (d := ds) (mid_get hpre.out.1)).1 c1)
        go_wp2_with fail
        refine wp_region_pop (S := (fun w' => w'.cell? ⟨g, k, none⟩ = some (.int .u32 (ds : Int)) ∧ w'.cell? ⟨b, off + k + 1, none⟩ = some (.int .u32 (e : Int)))) 16 (by kernel_rfl) (by kernel_rfl) (by exact HS0.out) (fun hHeld => ?_)
        simp only [List.take_succ_cons, List.take_zero, List.drop_succ_cons, List.drop_zero]
        refine wpAnyH_take (i := 0) (v := ?v1) rfl (by kernel_rfl) (by kernel_rfl) (by kernel_rfl) (fun _ _ _ h => h) (Or.inl ⟨by rfl, ?hy1⟩) (by assumption) ?rest1
        case hy1 => (intro w hSw; (try dsimp only at hSw); go_simp; try (with_reducible rfl))
        try simp only [Act.put, List.getElem_toArray, List.getElem_cons_zero, List.setIfInBounds_toArray, List.set_cons_zero, List.set_cons_succ]
        refine' tk 1 ?_; (try simp only [tkS]); refine' tk 2 ?_; (try simp only [tkS]); refine' tk 3 ?_; (try simp only [tkS]); refine' tk 4 ?_; (try simp only [tkS]); refine' tk 5 ?_; (try simp only [tkS]); refine' tk 6 ?_; (try simp only [tkS]); refine' tk 7 ?_; (try simp only [tkS]); refine' tk 8 ?_; (try simp only [tkS]); refine' tk 9 ?_; (try simp only [tkS]); refine' tk 10 ?_; (try simp only [tkS]); refine' tk 11 ?_; (try simp only [tkS]); refine' tk 12 ?_; (try simp only [tkS]); refine' tk 13 ?_; (try simp only [tkS]); refine' tk 14 ?_; (try simp only [tkS]); refine' tk 15 ?_; (try simp only [tkS])
        refine tkD ?_ _
        simp only [Exit.then]
        go_wp2_with fail
        go_roundw
        case rel =>
          refine ⟨k + 1, done ++ [v], by omega, by go_num, Hbw2.out.dn 1, by rw [List.append_assoc]; exact HO2.out.below ((Below.refl _ _).dn 1), by rw [List.length_append, hpre.out.1]; rfl, hpre.out.2.1.append (Dg.one r1), ?_⟩
          rw [natL_snoc, hpre.out.1, take_next Hdk.out, hdrop1, Nat.pow_succ]
          exact Hst.out
        case measure => simp [intOf] <;> omega
      · have hdrop1 : (l.drop (k + 1)).headD 0 = 0 := by rw [List.drop_of_length_le (by rw [Hn.out]; omega)]; rfl
        obtain ⟨r1, r2⟩ := lower_digit (e := 0) hdlt hs
        simp only [Nat.zero_mul, Nat.zero_div, Nat.zero_mod, Nat.or_zero] at r1 r2
        rw [hds] at r1 r2
        have Hst := hI (low_step (e := 0) Hinv.out.1 (by rw [Nat.zero_mod]; exact r2))
        have hkn1 : ¬ (k : Int) + 1 < (n : Int) := by omega
        clear hO hbw hdk r2 hinv hds hdrop hgd hlast
        go_wp2_with fail
        go_roundw
        case rel =>
          refine ⟨k + 1, done ++ [ds], by omega, by go_num, Hbw1.out, by rw [List.append_assoc]; exact HO1.out, by rw [List.length_append, hpre.out.1]; rfl, hpre.out.2.1.append (Dg.one hds32), ?_⟩
          rw [natL_snoc, hpre.out.1, take_next Hdk.out, hdrop1, Nat.pow_succ]
          exact Hst.out
        case measure => simp [intOf] <;> omega
    · obtain rfl : k = n := by omega
      have hkn : ¬ (k : Int) < (k : Int) := by omega
      rw [List.drop_of_length_le (by rw [Hn.out]; exact Nat.le_refl _), List.append_nil] at hO
      have hls := hO.ls
      rw [hpre.out.1] at hls
      have HT := hI (trim_any _ _ _ _ _ hls hpre.out.2.1)
      have hv : natL done = natL l / 2 ^ s := by
        have h := hpre.out.2.2
        rw [List.drop_of_length_le (by rw [Hn.out]; exact Nat.le_refl _), List.take_of_length_le (by rw [Hn.out]; exact Nat.le_refl _)] at h
        simp only [List.headD_nil, Nat.zero_mod, Nat.mul_zero, Nat.add_zero] at h
        rw [← h, Nat.mul_add_div (Nat.two_pow_pos s), Nat.div_eq_of_lt (Nat.mod_lt _ (Nat.two_pow_pos s)), Nat.add_zero]
      rw [hv] at HT
      have Hbw := hI hbw
      clear hO hbw hge hls hv hpre
      go_wp2_with (go_at_call 96; refine (HT.out).mono ?_; rintro e w2 ⟨rfl, hl2, hb2⟩)
      go_ret
      exact ⟨_, rfl, ⟨_, _, rfl, hl2.mono hb2⟩, Hbw.out.via hb2 Hbw.out.size⟩
end Go.Proofs.YtlcmhbkmpkcajaaGreatDoor
namespace Go.Proofs.YtlcmhbkmpkcajaaGreatDoor
theorem lz_of {top : Nat} (h0 : top ≠ 0) (h1 : top < 4294967296) : ∃ s : Nat, s < 32 ∧ ((32 : Int) - (Lib.bitLen ((top : Int)).toNat : Int)) = (s : Int) ∧ 2147483648 ≤ top * 2 ^ s ∧ (top + 1) * 2 ^ s ≤ 4294967296 := by
  have h2 := Lib.bitLenAux_bounds 64 top (by omega) h0
  have h3 : Lib.bitLen top ≤ 32 := Lib.bitLen_le top 32 (by decide) h1
  have e : Lib.bitLen top = Lib.bitLenAux 64 top := rfl
  rw [← e] at h2
  rw [Int.toNat_natCast]
  generalize Lib.bitLen top = L at *
  obtain ⟨h4, h5, h6⟩ := h2
  refine ⟨32 - L, by omega, by omega, ?_, ?_⟩
  · have h7 := Nat.mul_le_mul_right (2 ^ (32 - L)) h5
    rw [← Nat.pow_add, show L - 1 + (32 - L) = 31 by omega] at h7
    exact h7
  · have h7 := Nat.mul_le_mul_right (2 ^ (32 - L)) h6
    rw [← Nat.pow_add, show L + (32 - L) = 32 by omega] at h7
    exact h7
theorem limbs_len_eq {V m : Nat} (h1 : 4294967296 ^ m ≤ V) (h2 : V < 4294967296 ^ (m + 1)) : (limbs V).length = m + 1 := by
  have h0 : V ≠ 0 := by have := Nat.pow_pos (n := m) (show 0 < 4294967296 by decide); omega
  have h3 := limbs_pow h0
  have h4 := natL_lt (limbs_dg V)
  rw [natL_limbs] at h4
  have h5 : (limbs V).length - 1 < m + 1 := (Nat.pow_lt_pow_iff_right (by decide)).1 (Nat.lt_of_le_of_lt h3 h2)
  have h6 : m < (limbs V).length := (Nat.pow_lt_pow_iff_right (by decide)).1 (Nat.lt_of_le_of_lt h1 h4)
  omega
theorem shift_len {y s m top : Nat} (hl : (limbs y).length = m + 1) (ht : (limbs y)[m]? = some top) (h1 : 2147483648 ≤ top * 2 ^ s) (h2 : (top + 1) * 2 ^ s ≤ 4294967296) : (limbs (y * 2 ^ s)).length = m + 1 ∧ 4294967296 ^ (m + 1) ≤ 2 * (y * 2 ^ s) := by
  have h3 := take_next ht
  rw [List.take_of_length_le (by omega), natL_limbs] at h3
  have h4 := natL_lt ((limbs_dg y).take m)
  rw [List.length_take, Nat.min_eq_left (by omega)] at h4
  rw [Nat.pow_succ]
  have h5 : y * 2 ^ s = natL ((limbs y).take m) * 2 ^ s + 4294967296 ^ m * (top * 2 ^ s) := by
    conv => lhs; rw [h3]
    rw [Nat.add_mul, Nat.mul_assoc]
  have h3' : y < 4294967296 ^ m * (top + 1) := by rw [Nat.mul_add, Nat.mul_one]; omega
  have h6 : y * 2 ^ s < 4294967296 ^ m * ((top + 1) * 2 ^ s) := by
    rw [← Nat.mul_assoc]
    exact Nat.mul_lt_mul_of_pos_right h3' (Nat.two_pow_pos s)
  have h7 : 4294967296 ^ m * ((top + 1) * 2 ^ s) ≤ 4294967296 ^ m * 4294967296 := Nat.mul_le_mul_left _ h2
  have h8 : 4294967296 ^ m * 2147483648 ≤ 4294967296 ^ m * (top * 2 ^ s) := Nat.mul_le_mul_left _ h1
  generalize 4294967296 ^ m * (top * 2 ^ s) = P at *
  generalize natL ((limbs y).take m) * 2 ^ s = Z at *
  generalize y * 2 ^ s = YS at *
  have g1 : 4294967296 ^ m ≤ YS := by
    clear h1 h2 h3 h3' h4
    generalize 4294967296 ^ m = K at *
    omega
  have g2 : YS < 4294967296 ^ (m + 1) := by
    rw [Nat.pow_succ]
    clear h1 h2 h3 h3' h4
    generalize 4294967296 ^ m = K at *
    omega
  have g3 : 4294967296 ^ m * 4294967296 ≤ 2 * YS := by
    have e : 2 * (4294967296 ^ m * 2147483648) = 4294967296 ^ m * 4294967296 := by rw [Nat.mul_left_comm]
    rw [← e]
    refine Nat.mul_le_mul_left 2 (Nat.le_trans h8 ?_)
    rw [h5]
    exact Nat.le_add_left _ _
  exact ⟨limbs_len_eq g1 g2, g3⟩
theorem win_split {us : List Nat} {j m V : Nat} (hl : j + m + 1 ≤ us.length) (h : natL us < 4294967296 ^ (j + 1) * V) (hV : V < 4294967296 ^ m) :
    natL us = natL (us.take j) + 4294967296 ^ j * natL ((us.drop j).take (m + 1)) ∧ natL ((us.drop j).take (m + 1)) < 4294967296 * V ∧ natL (us.drop (j + m + 1)) = 0 := by
  have e1 : natL us = natL (us.take j) + 4294967296 ^ j * natL (us.drop j) := by
    conv => lhs; rw [← List.take_append_drop j us]
    rw [natL_append, List.length_take, Nat.min_eq_left (by omega)]
  have e2 : natL (us.drop j) = natL ((us.drop j).take (m + 1)) + 4294967296 ^ (m + 1) * natL (us.drop (j + m + 1)) := by
    conv => lhs; rw [← List.take_append_drop (m + 1) (us.drop j)]
    rw [natL_append, List.length_take, List.length_drop, Nat.min_eq_left (by omega), List.drop_drop, Nat.add_assoc]
  have hK : 0 < 4294967296 ^ j := Nat.pow_pos (by decide)
  have h1 : 4294967296 ^ j * natL (us.drop j) < 4294967296 ^ j * (4294967296 * V) := by
    rw [Nat.pow_succ, Nat.mul_assoc] at h
    rw [e1] at h
    exact Nat.lt_of_le_of_lt (Nat.le_add_left _ _) h
  have h2 := Nat.lt_of_mul_lt_mul_left h1
  have h3 : natL (us.drop (j + m + 1)) = 0 := by
    rcases Nat.eq_zero_or_pos (natL (us.drop (j + m + 1))) with h0 | h0
    · exact h0
    · exfalso
      have h4 : 4294967296 ^ (m + 1) * 1 ≤ 4294967296 ^ (m + 1) * natL (us.drop (j + m + 1)) := Nat.mul_le_mul_left _ h0
      rw [Nat.mul_one, Nat.pow_succ] at h4
      rw [Nat.pow_succ] at e2
      clear h h1 e1 hK
      generalize 4294967296 ^ m = K at *
      generalize K * 4294967296 * natL (us.drop (j + m + 1)) = P at *
      omega
  rw [h3, Nat.mul_zero, Nat.add_zero] at e2
  rw [e2] at e1 h2
  exact ⟨e1, h2, h3⟩
theorem long_step {us pre win win' post : List Nat} {j V U D Q : Nat} (hpl : pre.length = j) (hpd : Dg pre) (hU : natL us = natL pre + 4294967296 ^ j * natL win) (hp : natL post = 0) (hw : natL win' = natL win % V) (hQ : Q = natL win / V) (hV : 0 < V) (h : D * V + natL us = U) :
    (D + 4294967296 ^ j * Q) * V + natL (pre ++ (win' ++ post)) = U ∧ natL (pre ++ (win' ++ post)) < 4294967296 ^ j * V := by
  have e1 : natL (pre ++ (win' ++ post)) = natL pre + 4294967296 ^ j * (natL win % V) := by
    rw [natL_append, natL_append, hpl, hp, Nat.mul_zero, Nat.add_zero, hw]
  have e2 := Nat.div_add_mod (natL win) V
  have e3 : (D + 4294967296 ^ j * Q) * V = D * V + 4294967296 ^ j * (V * Q) := by rw [Nat.add_mul, Nat.mul_assoc, Nat.mul_comm Q]
  have e4 : 4294967296 ^ j * natL win = 4294967296 ^ j * (V * Q) + 4294967296 ^ j * (natL win % V) := by rw [hQ, ← Nat.mul_add, e2]
  refine ⟨by rw [e1, e3]; omega, ?_⟩
  rw [e1]
  have h1 := natL_lt hpd
  rw [hpl] at h1
  have h2 : 4294967296 ^ j * (natL win % V + 1) ≤ 4294967296 ^ j * V := Nat.mul_le_mul_left _ (Nat.mod_lt _ hV)
  rw [Nat.mul_add] at h2
  omega
theorem natL_low (j Q : Nat) (done : List Nat) : natL (List.replicate j 0 ++ (Q :: done)) = natL (List.replicate (j + 1) 0 ++ done) + 4294967296 ^ j * Q := by
  rw [natL_append, natL_append, natL_zeros, natL_zeros, List.length_replicate, List.length_replicate, natL, Nat.pow_succ, Nat.mul_add, Nat.mul_assoc]
  omega
theorem long_end {x y s D R : Nat} (hy : 0 < y) (h : D * (y * 2 ^ s) + R = x * 2 ^ s) (hR : R < y * 2 ^ s) : D = x / y ∧ R / 2 ^ s = x % y := by
  have hs := Nat.two_pow_pos s
  have h1 : R = x * 2 ^ s % (y * 2 ^ s) := by
    rw [← h, Nat.mul_comm D, Nat.mul_add_mod, Nat.mod_eq_of_lt hR]
  have h2 : D = x * 2 ^ s / (y * 2 ^ s) := by
    rw [← h, Nat.mul_comm D, Nat.mul_add_div (Nat.mul_pos hy hs), Nat.div_eq_of_lt hR, Nat.add_zero]
  rw [Nat.mul_div_mul_right _ _ hs] at h2
  rw [Nat.mul_mod_mul_right] at h1
  exact ⟨h2, by rw [h1, Nat.mul_div_cancel _ hs]⟩
end Go.Proofs.YtlcmhbkmpkcajaaGreatDoor
namespace Go.Proofs
theorem Tryz.bits_lz32 (x : Int) (w : World) (h0 : 0 ≤ x) (h1 : x ≤ 4294967295) :
    Calls Tryz.prog 146 #[.int .u32 x] w fun e w' => e = .returned (.int .i64 (32 - (Lib.bitLen x.toNat : Int))) ∧ w' = w := Tryz.bits_LeadingZeros32 x w h0 h1
end Go.Proofs
