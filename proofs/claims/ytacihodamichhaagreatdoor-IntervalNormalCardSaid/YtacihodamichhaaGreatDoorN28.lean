/-
  Parts of the proof: Rcp, Oi, Rdm.
-/
import Derived.Test.YtacihodamichhaaGreatDoorN13
import Derived.Test.YtacihodamichhaaGreatDoorN27
namespace Go.Proofs.YtacihodamichhaaGreatDoor
open Go.RowKit
theorem zdigits_any (neg : Bool) (N : Nat) (w : World) (hf : Few10 N) : Calls Tryz.prog 118 #[.string ⟨(txtN neg N).toArray⟩] w (RetP (fun v w' => DgV w' v N) w) := by
 obtain ⟨p, h1, h2, h3, h4, h5⟩ := txtN_abs neg N
 unfold Few10 at hf
 rcases h4 with h4 | h4
 ·rw [h4]
  have h := rdigits_any p false p w rfl h1 (by omega)
  rw [h3] at h
  exact h
 ·rw [h4]
  have h := rdigits_any p true (45 :: p) w rfl h1 (by omega)
  rw [h3] at h
  exact h
theorem sign3 (z : Int) : (z < 0 ∧ z.sign = -1) ∨ (z = 0 ∧ z.sign = 0) ∨ (0 < z ∧ z.sign = 1) := by
 rcases Int.lt_trichotomy z 0 with h | h | h
 ·exact .inl ⟨h, Int.sign_eq_neg_one_of_neg h⟩
 ·exact .inr (.inl ⟨h, by rw [h]; rfl⟩)
 ·exact .inr (.inr ⟨h, Int.sign_eq_one_of_pos h⟩)
theorem cmp_sign_lt {y z : Int} (h : y.sign < z.sign) : cmpZ y z = -1 := by
 have a := sign3 y; have b := sign3 z
 unfold cmpZ
 rw [if_pos (by omega)]
theorem cmp_sign_gt {y z : Int} (h : z.sign < y.sign) : cmpZ y z = 1 := by
 have a := sign3 y; have b := sign3 z
 unfold cmpZ
 rw [if_neg (by omega), if_pos (by omega)]
theorem cmp_sign_neg {y z : Int} (h : y.sign = z.sign) (hn : y.sign < 0) : cmpZ y z = cmpN z.natAbs y.natAbs := by
 have a := sign3 y; have b := sign3 z
 unfold cmpZ cmpN
 split
 ·rw [if_pos (by omega)]
 ·split
  ·rw [if_neg (by omega), if_pos (by omega)]
  ·rw [if_neg (by omega), if_neg (by omega)]
theorem cmp_sign_pos {y z : Int} (h : y.sign = z.sign) (hn : ¬ y.sign < 0) : cmpZ y z = cmpN y.natAbs z.natAbs := by
 have a := sign3 y; have b := sign3 z
 unfold cmpZ cmpN
 split
 ·rw [if_pos (by omega)]
 ·split
  ·rw [if_neg (by omega), if_pos (by omega)]
  ·rw [if_neg (by omega), if_neg (by omega)]
set_option maxHeartbeats 4000000 in
theorem zcmp_any (y z : Int) (w : World) (hy : Few10 y.natAbs) (hz : Few10 z.natAbs) : Calls Tryz.prog 70 #[.string ⟨(txtZ y).toArray⟩, .string ⟨(txtZ z).toArray⟩] w (Ret (.int .i64 (cmpZ y z)) w) := by
 have H1 := hI (fun w' => zsign_any y w')
 have H2 := hI (fun w' => zsign_any z w')
 have H3 := hI (fun w' => zdigits_any (decide (y < 0)) y.natAbs w' hy)
 have H4 := hI (fun w' => zdigits_any (decide (z < 0)) z.natAbs w' hz)
 have H5 := hI (fun u v w' (hu : DgV w' u y.natAbs) (hv : DgV w' v z.natAbs) => (rorder_g u v y.natAbs z.natAbs w' hu hv).mono fun _ _ h => h.ret)
 have H6 := hI (fun u v w' (hu : DgV w' u z.natAbs) (hv : DgV w' v y.natAbs) => (rorder_g u v z.natAbs y.natAbs w' hu hv).mono fun _ _ h => h.ret)
 change Hid (∀ w', Calls Tryz.prog 118 #[.string ⟨(txtZ y).toArray⟩] w' _) at H3
 change Hid (∀ w', Calls Tryz.prog 118 #[.string ⟨(txtZ z).toArray⟩] w' _) at H4
 have e1 := @cmp_sign_lt y z
 have e2 := @cmp_sign_gt y z
 have e3 := @cmp_sign_neg y z
 have e4 := @cmp_sign_pos y z
 generalize cmpZ y z = R at *
 generalize (⟨(txtZ y).toArray⟩ : ByteArray) = Y at *
 generalize (⟨(txtZ z).toArray⟩ : ByteArray) = Z at *
 generalize y.sign = a at *
 generalize z.sign = b at *
 generalize cmpN y.natAbs z.natAbs = P at *
 generalize cmpN z.natAbs y.natAbs = N at *
 by_cases h1 : a < b
 ·rw [e1 h1]
  clear e1 e2 e3 e4
  go_enter Tryz.func70, Tryz.ntmps70
  go_wp2_with (first
   | (have _t := Hb1; clear _t; go_at_call 120; refine (H2.out _).mono ?_; rintro e w2 ⟨rfl, hb2⟩; have Hb2 := hI (bw_via Hb1.out hb2); clear hb2)
   | (go_at_call 120; refine (H1.out _).mono ?_; rintro e w1 ⟨rfl, hb1⟩; have Hb1 := hI hb1; clear hb1))
  go_ret
  exact ⟨rfl, Hb2.out⟩
 ·by_cases h2 : b < a
  ·rw [e2 h2]
   clear e1 e2 e3 e4
   go_enter Tryz.func70, Tryz.ntmps70
   go_wp2_with (first
    | (have _t := Hb1; clear _t; go_at_call 120; refine (H2.out _).mono ?_; rintro e w2 ⟨rfl, hb2⟩; have Hb2 := hI (bw_via Hb1.out hb2); clear hb2)
    | (go_at_call 120; refine (H1.out _).mono ?_; rintro e w1 ⟨rfl, hb1⟩; have Hb1 := hI hb1; clear hb1))
   go_ret
   exact ⟨rfl, Hb2.out⟩
  ·obtain rfl : a = b := by omega
   by_cases h3 : a < 0
   ·rw [e3 rfl h3]
    clear e1 e2 e3 e4
    go_enter Tryz.func70, Tryz.ntmps70
    go_wp2_with (first
     | (have _t := Hb1; clear _t; go_at_call 120; refine (H2.out _).mono ?_; rintro e w2 ⟨rfl, hb2⟩; have Hb2 := hI (bw_via Hb1.out hb2); clear hb2)
     | (go_at_call 120; refine (H1.out _).mono ?_; rintro e w1 ⟨rfl, hb1⟩; have Hb1 := hI hb1; clear hb1)
     | (have _t := HV3; clear _t; go_at_call 118; refine (H3.out _).mono ?_; rintro e w4 ⟨v4, rfl, hv4, hb4⟩; have HV4 := hI hv4; have HV3' := hI (HV3.out.mono hb4); have Hb4 := hI (bw_via Hb3.out hb4); clear hv4 hb4)
     | (go_at_call 118; refine (H4.out _).mono ?_; rintro e w3 ⟨v3, rfl, hv3, hb3⟩; have HV3 := hI hv3; have Hb3 := hI (bw_via Hb2.out hb3); clear hv3 hb3)
     | (go_at_call 121; refine (H6.out _ _ _ HV3'.out HV4.out).mono ?_; rintro e w5 ⟨rfl, hb5⟩))
    go_ret
    exact ⟨rfl, bw_via Hb4.out hb5⟩
   ·rw [e4 rfl h3]
    clear e1 e2 e3 e4
    go_enter Tryz.func70, Tryz.ntmps70
    go_wp2_with (first
     | (have _t := Hb1; clear _t; go_at_call 120; refine (H2.out _).mono ?_; rintro e w2 ⟨rfl, hb2⟩; have Hb2 := hI (bw_via Hb1.out hb2); clear hb2)
     | (go_at_call 120; refine (H1.out _).mono ?_; rintro e w1 ⟨rfl, hb1⟩; have Hb1 := hI hb1; clear hb1)
     | (have _t := HV3; clear _t; go_at_call 118; refine (H4.out _).mono ?_; rintro e w4 ⟨v4, rfl, hv4, hb4⟩; have HV4 := hI hv4; have HV3' := hI (HV3.out.mono hb4); have Hb4 := hI (bw_via Hb3.out hb4); clear hv4 hb4)
     | (go_at_call 118; refine (H3.out _).mono ?_; rintro e w3 ⟨v3, rfl, hv3, hb3⟩; have HV3 := hI hv3; have Hb3 := hI (bw_via Hb2.out hb3); clear hv3 hb3)
     | (go_at_call 121; refine (H5.out _ _ _ HV3'.out HV4.out).mono ?_; rintro e w5 ⟨rfl, hb5⟩))
    go_ret
    exact ⟨rfl, bw_via Hb4.out hb5⟩
end Go.Proofs.YtacihodamichhaaGreatDoor
namespace Go.Proofs.YtacihodamichhaaGreatDoor
open Go.RowKit
def dvs (l : List Nat) : List Value := (natsI l).map (Value.int .i64)
def OI (M : Nat) (w : World) (g : Nat) (xs : List Nat) : Prop := w.ownsRow M 3 1 (.slice (some ⟨g, 0, none⟩) xs.length xs.length) xs.length (dvs xs)
theorem OI.cell {M : Nat} {w : World} {g : Nat} {xs : List Nat} (h : OI M w g xs) {i d : Nat} (hd : xs[i]? = some d) : w.cell? ⟨g, i, none⟩ = some (Value.int .i64 (d : Int)) ∧ w.frozen? ⟨g, i, none⟩ = false := by
 constructor
 ·have hS : Ds w (.slice (some ⟨g, 0, none⟩) xs.length xs.length) xs := Sl.own1 h
  obtain ⟨b, off, d', ha, hd', hc⟩ := hS.at (Below.refl _ _) (lt_get hd)
  cases ha
  rw [hd] at hd'
  cases hd'
  rwa [Nat.zero_add] at hc
 ·rcases h.2 with ⟨h1, h0⟩ | ⟨g', cap', cur, h1, hb, hg, _⟩
  ·cases h1
  ·cases h1
   exact frozen_of_row w g _ _ _ hg
theorem OI.set {M : Nat} {w : World} {g : Nat} {xs : List Nat} (h : OI M w g xs) {i : Nat} (hi : i < xs.length) (d : Nat) : OI M (w.setCell ⟨g, i, none⟩ (Value.int .i64 (d : Int))) g (xs.set i d) := by
 have h1 := own_setCell h (i := i) (by omega) (Value.int .i64 (d : Int))
 unfold OI
 rw [List.length_set]
 have e : dvs (xs.set i d) = (dvs xs).set i (Value.int .i64 (d : Int)) := by unfold dvs natsI; rw [List.map_set, List.map_set]
 rw [e]
 exact h1
theorem OI.ls {M : Nat} {w : World} {g : Nat} {xs : List Nat} (h : OI M w g xs) : Ds w (.slice (some ⟨g, 0, none⟩) xs.length xs.length) xs := Sl.own1 h
theorem OI.below {M : Nat} {w w' : World} {g : Nat} {xs : List Nat} (h : OI M w g xs) (hb : Below w.heap.size w w') : OI M w' g xs := own_below h hb
theorem OI.ge {M : Nat} {w : World} {g : Nat} {xs : List Nat} (h : OI M w g xs) : M ≤ g := (h.lt g rfl).1
theorem made_i64 (n : Nat) : (madeCells (Value.int .i64 0).cells (n * 1)).toList = dvs (List.replicate n 0) := by
 simp only [madeCells, Value.cells, Nat.mul_one, dvs, natsI, List.map_replicate]
 apply List.ext_getElem <;> simp
 intro i hi
 simp [Nat.mod_one]
theorem OI.made {M : Nat} {w : World} {g n : Nat} (h : w.ownsRow M 3 1 (.slice (some ⟨g, 0, none⟩) n n) n (madeCells (Value.int .i64 0).cells (n * 1)).toList) : OI M w g (List.replicate n 0) := by
 rw [made_i64] at h
 unfold OI
 rw [List.length_replicate]
 exact h
theorem OI.next {M : Nat} {w : World} {g n : Nat} {done : List Nat} (h : OI M w g (done ++ List.replicate (n + 1) 0)) : w.cell? ⟨g, done.length, none⟩ = some (Value.int .i64 0) ∧ w.frozen? ⟨g, done.length, none⟩ = false := by
 have := h.cell (i := done.length) (d := 0) (by rw [List.getElem?_append_right (Nat.le_refl _), Nat.sub_self]; rfl)
 exact this
theorem OI.write {M : Nat} {w : World} {g n : Nat} {done : List Nat} (h : OI M w g (done ++ List.replicate (n + 1) 0)) (d : Nat) : OI M (w.setCell ⟨g, done.length, none⟩ (Value.int .i64 (d : Int))) g ((done ++ [d]) ++ List.replicate n 0) := by
 have := h.set (i := done.length) (by simp) d
 rwa [put_done] at this
theorem OI.lt {M : Nat} {w : World} {g : Nat} {xs : List Nat} (h : OI M w g xs) : g < w.heap.size := (World.ownsRow.lt h g rfl).2
theorem OI.low {M : Nat} {w : World} {g n q : Nat} {done : List Nat} (h : OI M w g (List.replicate n 0 ++ (q :: done))) : w.cell? ⟨g, n, none⟩ = some (Value.int .i64 (q : Int)) ∧ w.frozen? ⟨g, n, none⟩ = false :=
 h.cell (by rw [List.getElem?_append_right (by simp), List.length_replicate, Nat.sub_self]; rfl)
theorem OI.setLow {M : Nat} {w : World} {g n q : Nat} {done : List Nat} (h : OI M w g (List.replicate n 0 ++ (q :: done))) (d : Nat) : OI M (w.setCell ⟨g, n, none⟩ (Value.int .i64 (d : Int))) g (List.replicate n 0 ++ (d :: done)) := by
 have := h.set (i := n) (by simp) d
 rwa [List.set_append_right _ _ (by simp), List.length_replicate, Nat.sub_self, List.set_cons_zero] at this
theorem own_one (w : World) (T : TypeId) (v : Value) : (w.alloc (.cells #[v] T)).ownsRow w.heap.size T 1 (.slice (some ⟨w.heap.size, 0, none⟩) 1 1) 1 [v] :=
 ⟨rfl, .inr ⟨w.heap.size, 1, #[v], rfl, Nat.le_refl _, heap_alloc_new w _, Nat.le_refl _, by unfold maxLen; omega, rfl, rfl⟩⟩
theorem wpAppD {ops : Array Oper} {rest : List Oper} {o : Oper} {a : Act} {Q : Exit → Act → World → Prop} {W : World} (hgd : o.guard = none) (s x : Operand) (ho : o.op = .call { callee := .builtin .append, args := #[s, x], argTypes := #[135, 135] })
  (B g d : Nat) (ad : Option Addr) (m c : Nat) (l : List Nat) (hs : a.eval s = .slice (some ⟨g, 0, none⟩) 1 1) (hx : a.eval x = .slice ad m c) (hown : W.ownsRow B 3 1 (.slice (some ⟨g, 0, none⟩) 1 1) 1 [Value.int .i64 (d : Int)]) (hq : Ds W (.slice ad m c) l) (hn : m ≤ 1000000) (hB : B ≤ W.heap.size)
  (h : ∀ g' c' w', w'.ownsRow B 3 1 (.slice (some ⟨g', 0, none⟩) (1 + m) c') (1 + m) (dvs (d :: l)) → W.grownBy w' (some g) → wpList Tryz.prog ops Q rest (a.put o.dst (.slice (some ⟨g', 0, none⟩) (1 + m) c')) w') : wpList Tryz.prog ops Q (o :: rest) a W := by
 have hi := ED.info
 simp only [Option.map_eq_some_iff, Prod.mk.injEq] at hi
 obtain ⟨i, hi, ⟨z, hz, hzs⟩, hsize, hby⟩ := hi
 have hm : l.length = m := by
  obtain ⟨_, _, hv, _⟩ := hq.open
  cases hv
  rfl
 rcases Nat.eq_zero_or_pos m with rfl | hpos
 ·obtain rfl : l = [] := List.length_eq_zero_iff.1 hm
  have hr : (Builtin.append_ #[135, 135] o.type #[.slice (some ⟨g, 0, none⟩) 1 1, .slice ad 0 c]).run Tryz.prog W = .ok (.slice (some ⟨g, 0, none⟩) 1 1) W := by
   cases ad <;> simp [Builtin.append_, run_underlying ED.und, sizeOf, typeInfo, hi, Builtin.lenOf, Builtin.firstCells, loadCells, loadCellsFrom, storeCells]
  refine wpList_plain hgd fun _ hK => ?_
  unfold Oper.wp execOp
  simp only [ho, resolve, invoke, builtin, Sem.run_bind, Sem.run_pure, Result.andThen_ok, List.map_toArray, List.map_cons, List.map_nil, hs, hx, hr]
  exact hK _ _ (h _ _ _ hown ⟨rfl, rfl, rfl, Nat.le_refl _, fun _ _ _ => rfl⟩)
 ·obtain ⟨b, off, -, rfl, -, -⟩ := hq.at (Below.refl _ _) hpos
  have hfl := Sl.flat hq (fun r hr => by obtain ⟨p, _, rfl⟩ := List.mem_map.1 hr; rfl) (by decide)
  rw [flat_c1] at hfl
  refine wpList_append_own _ hgd s x 135 ho B 3 i z 1 8 ED.und hi hz hsize hby hzs (by decide) _ 1 _ hs hown ⟨b, off, none⟩ m c (dvs l) hx (by unfold dvs; rw [List.length_map, natsI_len, hm, Nat.mul_one]) hfl ?_ (by unfold maxLen; omega) (by omega) hB (fun v' w' a1 a2 _ => ?_)
  ·intro u hu
   unfold dvs at hu
   obtain ⟨p, _, rfl⟩ := List.mem_map.1 hu
   rfl
  ·obtain ⟨a', c', rfl, -, -⟩ := own_open a1
   obtain ⟨g', rfl⟩ := own_some a1 (by omega)
   exact h g' c' w' a1 a2
end Go.Proofs.YtacihodamichhaaGreatDoor
namespace Go.Proofs.YtacihodamichhaaGreatDoor
open Go.RowKit
theorem txtZ_nat (n : Nat) : txtZ (n : Int) = txtN false n := by
 unfold txtZ
 rw [decide_eq_false (by omega), Int.natAbs_natCast]
theorem dm_less {t Y R R2 P : Nat} (h : t * Y + R = P) (hR : R = Y + R2) : (t + 1) * Y + R2 = P := by
 rw [Nat.add_mul, Nat.one_mul]; omega
theorem DgV.set {w : World} {v : Value} {N B : Nat} (h : DgV w v N) (hf : FreshV B v) {g i : Nat} (hg : g < B) (u : Value) : DgV (w.setCell ⟨g, i, none⟩ u) v N := by
 obtain ⟨a, c, rfl, hd⟩ := h
 exact ⟨a, c, rfl, Sl.set hd (fun k hk => by have := hf k hk; exact Nat.ne_of_gt (Nat.lt_of_lt_of_le hg this)) u⟩
set_option maxHeartbeats 16000000 in
set_option maxRecDepth 100000 in
theorem zdivmod_any (X Y : Nat) (w : World) (hX : Few10 X) (hY10 : Few10 (10 * Y)) (h0 : 0 < Y) : Calls Tryz.prog 119 #[.string ⟨(txtN false X).toArray⟩, .string ⟨(txtN false Y).toArray⟩] w (Ret (.tuple #[.string ⟨(txtN false (X / Y)).toArray⟩, .string ⟨(txtN false (X % Y)).toArray⟩]) w) := by
 have hY : Few10 Y := few10_le (by omega) hY10
 have HD1 := hI (fun w' => zdigits_any false X w' hX)
 have HD2 := hI (fun w' => zdigits_any false Y w' hY)
 have HS1 := hI (fun w' => zsign_any (X : Int) w')
 have HS2 := hI (fun w' => zsign_any (Y : Int) w')
 rw [txtZ_nat] at HS1 HS2
 have HT := hI (fun w' (a : Option Addr) n c (d : List Nat) (h : Ds w' (.slice a n c) d) (hd : D10.Dg d) (hl : d.length ≤ 1000) => rtext_any false a n c d w' h hd hl)
 have HTR := hI (fun w' v (R : Nat) (h : DgV w' v R) (hf : Few10 R) => rtext_g false R v w' h hf)
 have hsx : ¬ ((X : Int).sign * (Y : Int).sign) < 0 := by
  have a := sign3 (X : Int); have b := sign3 (Y : Int)
  rcases a with a | a | a <;> rcases b with b | b | b <;> rw [a.2, b.2] <;> omega
 have hsx2 : ¬ (X : Int).sign < 0 := by have a := sign3 (X : Int); omega
 have HSX := hI (show (X : Int).sign = 0 ∨ (X : Int).sign = 1 by have a := sign3 (X : Int); omega)
 have hfy : Few10 (X % Y) := few10_le (Nat.le_of_lt (Nat.mod_lt X h0)) hY
 have hS3 : X % Y ≠ 0 → ∀ w', Calls Tryz.prog 120 #[.string ⟨(txtN false (X % Y)).toArray⟩] w' (Ret (.int .i64 1) w') := by
  intro hne w'
  have h := zsign_any ((X % Y : Nat) : Int) w'
  rw [txtZ_nat, Int.sign_eq_one_of_pos (by omega)] at h
  exact h
 have hSY : (Y : Int).sign = 1 := Int.sign_eq_one_of_pos (by omega)
 rw [hSY] at HS2 hsx
 have hlx := D10.limbs_dg X
 have hnx := D10.natL_limbs X
 have hX5 : (D10.limbs X).length ≤ 500 := hX
 have hi : (Tryz.prog.info? 3).map (fun i => (i.zero, i.size, i.bytes)) = some (some (.int .i64 0), 1, 8) := by kernel_rfl
 obtain ⟨i4, hi4, hz0, hz1, hz2⟩ := info_parts hi
 have HFy := hI hfy
 have HS3 := hI hS3
 have HY0 := hI (And.intro h0 (And.intro hY10 hfy))
 have hw1 : IntKind.i64.wrap (((D10.limbs X).length : Int) - 1) = ((D10.limbs X).length : Int) - 1 := IntWalk.i64_in _ (by omega)
 generalize hla : D10.limbs X = la at *
 generalize hn : la.length = n at *
 have Hla := hI (And.intro hlx (And.intro hnx hn))
 have Hla2 := hI hla
 generalize (⟨(txtN false X).toArray⟩ : ByteArray) = SX at *
 generalize (⟨(txtN false Y).toArray⟩ : ByteArray) = SY at *
 clear hi hfy hS3 hlx hnx hX hY hY10 h0 hla hn
 clear hsx hsx2 hSY
 go_enter Tryz.func119, Tryz.ntmps119
 go_wp2_with (first
  | (have _t := HVA; clear _t; go_at_call 118; refine (HD2.out _).mono ?_; rintro e w2 ⟨v2, rfl, hv2, hb2⟩; have HVB := hI hv2; have HVA2 := hI (HVA.out.mono hb2); have Hb2 := hI (bw_via Hb1.out hb2); clear hv2 hb2)
  | (go_at_call 118; refine (HD1.out _).mono ?_; rintro e w1 ⟨v1, rfl, hv1, hb1⟩; obtain ⟨a1, c1, rfl, hv1⟩ := hv1; rw [Hla2.out, Hla.out.2.2] at hv1; rw [Hla2.out, Hla.out.2.2]; have HVA := hI hv1; have Hb1 := hI hb1; clear hv1 hb1)
  | (at_make; refine wpList_make_full _ rfl _ _ 135 rfl (w2.heap.size) 3 i4 (.int .i64 0) 1 Tryz.underlying135 hi4 hz0 hz1 .i64 .i64 _ _ n rfl rfl (by omega) (by omega) (by rw [hz2]; omega) (by unfold maxLen; omega) (by simp) ?_; intro w3 hown hg))
 have hO := (show OI w.heap.size w3 w2.heap.size (List.replicate n 0) from own_base (OI.made hown) Hb2.out.size)
 have hb3 : Below w2.heap.size w2 w3 := (Below.refl _ _).grown hg (Nat.le_refl _) (fun b hb => by cases hb)
 have HGe := hI (show w.heap.size ≤ w2.heap.size from Hb2.out.size)
 generalize hgq : w2.heap.size = gq at hO
 have Hgq := hI hgq
 clear hown hg hi4 hz0 hz1 hz2 hgq HD1 HD2 HVA
 go_wp2_with fail
 go_loopw [10, 8] (fun ii rv wr => ∃ (k R : Nat) (qs : List Nat), k ≤ n ∧ ii = .int .i64 ((k : Int) - 1) ∧ DgV wr rv R ∧ Below w2.heap.size w2 wr ∧ OI w.heap.size wr gq (List.replicate k 0 ++ qs) ∧ Hid (R < Y ∧ qs.length = n - k ∧ D10.Dg qs ∧ D10.natL qs * Y + R = D10.natL (la.drop k))) (fun ii _ _ => (intOf ii + 1).toNat)
 case atStart => exact ⟨n, 0, [], Nat.le_refl _, rfl, ⟨none, 0, by rw [D10.limbs_zero]; rfl, by rw [D10.limbs_zero]; exact Ds.nil _⟩, hb3, by rw [List.append_nil]; exact hO, HY0.out.1, by rw [Nat.sub_self]; rfl, (fun d hd => by simp at hd), by rw [List.drop_eq_nil_of_le (by rw [Hla.out.2.2]; exact Nat.le_refl _)]; simp [D10.natL]⟩
 case round =>
  clear hO hb3
  obtain ⟨k, R, qs, hk, rfl, hR, hbw, hO, hpre⟩ := hrel
  rcases k with _ | j
  ·rw [List.replicate_zero, List.nil_append] at hO
   have hql : qs.length = n := hpre.out.2.1
   have hfin := hpre.out.2.2.2
   rw [List.drop_zero, Hla.out.2.1] at hfin
   have hq : D10.natL qs = X / Y := by rw [← hfin, Nat.mul_comm, Nat.mul_add_div HY0.out.1, Nat.div_eq_of_lt hpre.out.1, Nat.add_zero]
   have hr : R = X % Y := by rw [← hfin, Nat.mul_comm, Nat.mul_add_mod, Nat.mod_eq_of_lt hpre.out.1]
   have hls := hO.ls
   rw [hql] at hls
   have HQ := hI (fun w' (hb : Below wr.heap.size wr w') => HT.out w' (some ⟨gq, 0, none⟩) n n qs (hls.mono hb) hpre.out.2.2.1 (by omega))
   rw [hq] at HQ
   change Hid (∀ w', Below wr.heap.size wr w' → Calls Tryz.prog 117 _ w' (Ret (.string ⟨(txtN false (X / Y)).toArray⟩) w')) at HQ
   obtain ⟨a5, c5, rfl, hR5⟩ := hR
   generalize hrl : (D10.limbs R).length = r5 at *
   have HR := hI (fun w' (hb : Below wr.heap.size wr w') => HTR.out w' (.slice a5 r5 c5) R ⟨a5, c5, by rw [hrl], by rw [hrl]; exact hR5.mono hb⟩ (by rw [hr]; exact HFy.out))
   rw [hr] at HR
   have Hbz := hI (Below.refl wr.heap.size wr)
   have Hbw := hI (Hb2.out.via hbw HGe.out)
   rcases HSX.out with hs | hs
   ·rw [hs] at HS1
    clear hs
    by_cases hz : X % Y = 0
    ·have Hres := hI (show (⟨(txtN false (X % Y)).toArray⟩ : ByteArray) = ⟨#[48]⟩ from by rw [hz, show (txtN false 0) = [48] from txtZ_zero ▸ (txtZ_nat 0).symm])
     rw [hz] at HR
     rw [show (txtN false 0) = [48] from txtZ_zero ▸ (txtZ_nat 0).symm] at HR
     clear HS3 hls hR5 hql hfin hq hr hO hbw hpre hrl
     generalize (⟨(txtN false (X / Y)).toArray⟩ : ByteArray) = SQ at *
     go_wp2_with (first
      | (have _t := Hz3; clear _t; go_at_call 120; refine (HS1.out _).mono ?_; rintro e wz ⟨rfl, hbz⟩; have Hz4 := hI (bw_via Hz3.out hbz); clear hbz)
      | (have _t := Hz1; clear _t; go_at_call 120; refine (HS2.out _).mono ?_; rintro e wz ⟨rfl, hbz⟩; have Hz2 := hI (bw_via Hz1.out hbz); clear hbz)
      | (go_at_call 120; refine (HS1.out _).mono ?_; rintro e wz ⟨rfl, hbz⟩; have Hz1 := hI (bw_via Hbz.out hbz); clear hbz)
      | (have _t := Hz4; clear _t; go_at_call 117; refine (HR.out _ Hz4.out).mono ?_; rintro e wz ⟨rfl, hbz⟩; have Hz5 := hI (bw_via Hz4.out hbz); clear hbz)
      | (go_at_call 117; refine (HQ.out _ Hz2.out).mono ?_; rintro e wz ⟨rfl, hbz⟩; have Hz3 := hI (bw_via Hz2.out hbz); clear hbz))
     go_ret2
     exact ⟨by rw [Hres.out]; rfl, Hbw.out.via Hz5.out Hbw.out.size⟩
    ·have hne : ((⟨(txtN false (X % Y)).toArray⟩ : ByteArray).toList == [48]) = false := by
      rw [ByteArray.toList_eq, beq_eq_false_iff_ne]
      show ¬ txtN false (X % Y) = [48]
      rw [← txtZ_nat]
      obtain ⟨c, rr, ht, -, hp⟩ := txtZ_head (z := ((X % Y : Nat) : Int)) (by omega)
      rw [ht]
      intro e
      exact (hp (by omega)).2 (List.cons.inj e).1
     have hne2 : ((⟨(txtN false (X % Y)).toArray⟩ : ByteArray).toList != [48]) = true := by rw [bne, hne]; rfl
     have HS4 := hI (HS3.out hz)
     clear HS3 hls hR5 hql hfin hq hr hO hbw hpre hrl hz
     generalize (⟨(txtN false (X / Y)).toArray⟩ : ByteArray) = SQ at *
     generalize (⟨(txtN false (X % Y)).toArray⟩ : ByteArray) = SR at *
     go_wp2_with (first
      | (have _t := Hz6; clear _t; go_at_call 120; refine (HS2.out _).mono ?_; rintro e wz ⟨rfl, hbz⟩; have Hz7 := hI (bw_via Hz6.out hbz); clear hbz)
      | (have _t := Hz5; clear _t; go_at_call 120; refine (HS4.out _).mono ?_; rintro e wz ⟨rfl, hbz⟩; have Hz6 := hI (bw_via Hz5.out hbz); clear hbz)
      | (have _t := Hz3; clear _t; go_at_call 120; refine (HS1.out _).mono ?_; rintro e wz ⟨rfl, hbz⟩; have Hz4 := hI (bw_via Hz3.out hbz); clear hbz)
      | (have _t := Hz1; clear _t; go_at_call 120; refine (HS2.out _).mono ?_; rintro e wz ⟨rfl, hbz⟩; have Hz2 := hI (bw_via Hz1.out hbz); clear hbz)
      | (go_at_call 120; refine (HS1.out _).mono ?_; rintro e wz ⟨rfl, hbz⟩; have Hz1 := hI (bw_via Hbz.out hbz); clear hbz)
      | (have _t := Hz4; clear _t; go_at_call 117; refine (HR.out _ Hz4.out).mono ?_; rintro e wz ⟨rfl, hbz⟩; have Hz5 := hI (bw_via Hz4.out hbz); clear hbz)
      | (go_at_call 117; refine (HQ.out _ Hz2.out).mono ?_; rintro e wz ⟨rfl, hbz⟩; have Hz3 := hI (bw_via Hz2.out hbz); clear hbz))
     go_ret2
     exact ⟨rfl, Hbw.out.via Hz7.out Hbw.out.size⟩
   ·rw [hs] at HS1
    clear hs
    by_cases hz : X % Y = 0
    ·have Hres := hI (show (⟨(txtN false (X % Y)).toArray⟩ : ByteArray) = ⟨#[48]⟩ from by rw [hz, show (txtN false 0) = [48] from txtZ_zero ▸ (txtZ_nat 0).symm])
     rw [hz] at HR
     rw [show (txtN false 0) = [48] from txtZ_zero ▸ (txtZ_nat 0).symm] at HR
     clear HS3 hls hR5 hql hfin hq hr hO hbw hpre hrl
     generalize (⟨(txtN false (X / Y)).toArray⟩ : ByteArray) = SQ at *
     go_wp2_with (first
      | (have _t := Hz3; clear _t; go_at_call 120; refine (HS1.out _).mono ?_; rintro e wz ⟨rfl, hbz⟩; have Hz4 := hI (bw_via Hz3.out hbz); clear hbz)
      | (have _t := Hz1; clear _t; go_at_call 120; refine (HS2.out _).mono ?_; rintro e wz ⟨rfl, hbz⟩; have Hz2 := hI (bw_via Hz1.out hbz); clear hbz)
      | (go_at_call 120; refine (HS1.out _).mono ?_; rintro e wz ⟨rfl, hbz⟩; have Hz1 := hI (bw_via Hbz.out hbz); clear hbz)
      | (have _t := Hz4; clear _t; go_at_call 117; refine (HR.out _ Hz4.out).mono ?_; rintro e wz ⟨rfl, hbz⟩; have Hz5 := hI (bw_via Hz4.out hbz); clear hbz)
      | (go_at_call 117; refine (HQ.out _ Hz2.out).mono ?_; rintro e wz ⟨rfl, hbz⟩; have Hz3 := hI (bw_via Hz2.out hbz); clear hbz))
     go_ret2
     exact ⟨by rw [Hres.out]; rfl, Hbw.out.via Hz5.out Hbw.out.size⟩
    ·have hne : ((⟨(txtN false (X % Y)).toArray⟩ : ByteArray).toList == [48]) = false := by
      rw [ByteArray.toList_eq, beq_eq_false_iff_ne]
      show ¬ txtN false (X % Y) = [48]
      rw [← txtZ_nat]
      obtain ⟨c, rr, ht, -, hp⟩ := txtZ_head (z := ((X % Y : Nat) : Int)) (by omega)
      rw [ht]
      intro e
      exact (hp (by omega)).2 (List.cons.inj e).1
     have hne2 : ((⟨(txtN false (X % Y)).toArray⟩ : ByteArray).toList != [48]) = true := by rw [bne, hne]; rfl
     have HS4 := hI (HS3.out hz)
     clear HS3 hls hR5 hql hfin hq hr hO hbw hpre hrl hz
     generalize (⟨(txtN false (X / Y)).toArray⟩ : ByteArray) = SQ at *
     generalize (⟨(txtN false (X % Y)).toArray⟩ : ByteArray) = SR at *
     go_wp2_with (first
      | (have _t := Hz6; clear _t; go_at_call 120; refine (HS2.out _).mono ?_; rintro e wz ⟨rfl, hbz⟩; have Hz7 := hI (bw_via Hz6.out hbz); clear hbz)
      | (have _t := Hz5; clear _t; go_at_call 120; refine (HS4.out _).mono ?_; rintro e wz ⟨rfl, hbz⟩; have Hz6 := hI (bw_via Hz5.out hbz); clear hbz)
      | (have _t := Hz3; clear _t; go_at_call 120; refine (HS1.out _).mono ?_; rintro e wz ⟨rfl, hbz⟩; have Hz4 := hI (bw_via Hz3.out hbz); clear hbz)
      | (have _t := Hz1; clear _t; go_at_call 120; refine (HS2.out _).mono ?_; rintro e wz ⟨rfl, hbz⟩; have Hz2 := hI (bw_via Hz1.out hbz); clear hbz)
      | (go_at_call 120; refine (HS1.out _).mono ?_; rintro e wz ⟨rfl, hbz⟩; have Hz1 := hI (bw_via Hbz.out hbz); clear hbz)
      | (have _t := Hz4; clear _t; go_at_call 117; refine (HR.out _ Hz4.out).mono ?_; rintro e wz ⟨rfl, hbz⟩; have Hz5 := hI (bw_via Hz4.out hbz); clear hbz)
      | (go_at_call 117; refine (HQ.out _ Hz2.out).mono ?_; rintro e wz ⟨rfl, hbz⟩; have Hz3 := hI (bw_via Hz2.out hbz); clear hbz))
     go_ret2
     exact ⟨rfl, Hbw.out.via Hz7.out Hbw.out.size⟩
  ·obtain ⟨b, off, d, rfl, hdk, c0⟩ := HVA2.out.at hbw (show j < n by omega)
   have hd10 := Hla.out.1 d (List.mem_of_getElem? hdk)
   have Hdk := hI (show D10.natL (la.drop j) = d + 10 * D10.natL (la.drop (j + 1)) from D10.natL_drop hdk)
   have hij : ((((j + 1 : Nat) : Int) - 1)) = (j : Int) := by omega
   rw [hij]
   have hj0 : (0 : Int) ≤ (j : Int) := Int.natCast_nonneg _
   have hjn : (j : Int) < (n : Int) := by omega
   have hjw : IntKind.i64.wrap ((j : Int) - 1) = (j : Int) - 1 := IntWalk.i64_in _ (by omega)
   obtain ⟨a5, c5, rfl, hR5⟩ := hR
   have hRl : (D10.limbs R).length ≤ 500 := few10_le (Nat.le_of_lt hpre.out.1) (few10_le (show Y ≤ 10 * Y by omega) HY0.out.2.1)
   have HRv := hI (D10.natL_limbs R)
   have HRd := hI (D10.limbs_dg R)
   generalize D10.limbs R = lr at *
   generalize hrl : lr.length = r5 at *
   have HRs := hI hR5
   have Hbw := hI hbw
   have HO := hI hO
   clear hdk hij hR5 hbw hO hrl
   go_wp2_with (first
    | (at_builtin; refine wpAppD rfl _ _ rfl wr.heap.size wr.heap.size d a5 r5 c5 lr rfl rfl (own_one wr _ _) (HRs.out.mono (below1 wr _)) (by omega) (below1 wr _).size ?_; intro g5 c6 w5 hown5 hg5; have Hb5 := hI (below_own (Hbw.out.via (below1 wr (.cells #[.int .i64 (d : Int)] 3)) Hbw.out.size) (own_one wr 3 (.int .i64 (d : Int))) (Nat.le_trans Hbw.out.size (Nat.le_refl _)) (Nat.le_trans Hbw.out.size (below1 wr _).size) hg5); have Hb5' := hI (below_own (below1 wr (.cells #[.int .i64 (d : Int)] 3)) (own_one wr 3 (.int .i64 (d : Int))) (Nat.le_refl _) (below1 wr _).size hg5); have Hown5 := hI hown5; clear hown5 hg5)
    | (go_at_call 157; refine (rtrim_g _ _ _ (d :: lr) _ (Ds.own Hown5.out) (fun x hx => by rcases List.mem_cons.1 hx with rfl | hx; exact hd10; exact HRd.out x hx)).mono ?_; rintro e w6 ⟨v6, rfl, hv6, hb6⟩; have HV6 := hI hv6; have Hb6 := hI (Hb5.out.via hb6 Hb5.out.size); have HO6 := hI ((HO.out.below Hb5'.out).below hb6); clear hv6 hb6))
   have hP : D10.natL (d :: lr) = d + 10 * R := by rw [D10.natL, HRv.out]
   rw [hP] at HV6
   have hO6 := HO6.out
   rw [List.replicate_succ', List.append_assoc] at hO6
   have HO7 := hI (show OI w.heap.size w6 gq (List.replicate j 0 ++ (0 :: qs)) from hO6)
   obtain ⟨P, hPP⟩ : ∃ P, d + 10 * R = P := ⟨_, rfl⟩
   rw [hPP] at HV6
   have HPy := hI (show P < 10 * Y by have := hpre.out.1; omega)
   have HPd := hI hPP
   clear hP hO6 HO6 hPP c0
   go_loopg [8] P (fun gk rv wz => ∃ t, DgV wz rv gk ∧ Below w2.heap.size w2 wz ∧ OI w.heap.size wz gq (List.replicate j 0 ++ (t :: qs)) ∧ t ≤ 9 ∧ Hid (t * Y + gk = P))
   case atStart => exact ⟨0, HV6.out, Hb6.out, HO7.out, by decide, by rw [Nat.zero_mul, Nat.zero_add]; exact rfl⟩
   case round =>
    clear HV6 Hb6 HO7
    rename World => wz
    obtain ⟨t, hv, hb, ho, ht, hinv⟩ := hrel
    have HOr := hI (rorder_g _ _ gk Y wz hv (HVB.out.mono hb))
    by_cases hle : Y ≤ gk
    ·have hc := cmpN_ge hle
     generalize cmpN gk Y = cc at *
     have Hmi := hI (fun w' (hx : Below wz.heap.size wz w') => rminus_g _ _ gk Y w' (hv.mono hx) ((HVB.out.mono hb).mono hx) hle (few10_le (show gk ≤ 10 * Y by have := HPy.out; have := hinv.out; omega) HY0.out.2.1))
     have ht9 : t + 1 ≤ 9 := by
      have h1 : (t + 1) * Y < 10 * Y := by
       rw [Nat.add_mul, Nat.one_mul]
       have := HPy.out; have := hinv.out
       omega
      have := Nat.lt_of_mul_lt_mul_right h1
      omega
     have htw : IntKind.i64.wrap ((t : Int) + 1) = ((t + 1 : Nat) : Int) := (IntWalk.i64_in _ (by omega)).trans (by omega)
     have Hb := hI hb
     have Ho := hI ho
     have Hle := hI hle
     clear hv hb ho hle
     go_wp2_with (first
      | (go_at_call 121; refine (HOr.out).mono ?_; rintro e w7 ⟨rfl, hb7⟩; have Hb7 := hI hb7.1; clear hb7)
      | (go_at_call 139; refine (Hmi.out _ Hb7.out).mono ?_; rintro e w8 ⟨v8, rfl, ⟨hv8, hfr8⟩, hb8⟩; have Hfr8 := hI hfr8; have Hb8 := hI (bw_via Hb7.out hb8); have HV8 := hI hv8; obtain ⟨k0, k1⟩ := (Ho.out.below Hb8.out).low; have Ho8 := hI ((Ho.out.below Hb8.out).setLow (t + 1)); clear hv8 hb8 hfr8))
     go_roundg (gk - Y)
     case measure => have := HY0.out.1; have := Hle.out; omega
     case rel =>
      refine ⟨t + 1, ?_, ?_, ?_, ht9, ?_⟩
      ·exact HV8.out.set Hfr8.out (Nat.lt_of_lt_of_le Ho.out.lt Hb7.out.size) _
      ·exact (Hb.out.via Hb8.out Hb.out.size).setCell (p := ⟨gq, j, none⟩) (Nat.le_of_eq Hgq.out) _
      ·exact Ho8.out
      ·exact dm_less hinv.out (by have := Hle.out; omega)
    ·have hc := cmpN_lt (show gk < Y by omega)
     generalize cmpN gk Y = cc at *
     have HV := hI hv
     have Hb := hI hb
     have Ho := hI ho
     have Hgk := hI (show gk < Y by omega)
     clear hv hb ho hle
     go_wp2_with (go_at_call 121; refine (HOr.out).mono ?_; rintro e w7 ⟨rfl, hb7⟩; have Hb7 := hI hb7.1; clear hb7)
     go_roundw
     case rel =>
      refine ⟨j, gk, t :: qs, by omega, rfl, HV.out.mono Hb7.out, Hb.out.via Hb7.out Hb.out.size, Ho.out.below Hb7.out, Hgk.out, by rw [List.length_cons, hpre.out.2.1]; omega, ?_, ?_⟩
      ·intro x hx
       rcases List.mem_cons.1 hx with rfl | hx
       ·omega
       ·exact hpre.out.2.2.1 x hx
      ·rw [Hdk.out, ← hpre.out.2.2.2, D10.natL, Nat.add_mul, Nat.mul_assoc, Nat.mul_add]
       have h1 := hinv.out
       have h2 := HPd.out
       omega
     case measure => simp [intOf] <;> omega
end Go.Proofs.YtacihodamichhaaGreatDoor
