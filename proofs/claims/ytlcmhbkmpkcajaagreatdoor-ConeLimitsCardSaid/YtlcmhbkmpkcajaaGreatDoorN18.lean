/-
  Parts of the proof: Qta, Qtw.
-/
import Derived.ChangeKeysEq
import Derived.Test.YtlcmhbkmpkcajaaGreatDoorN17
namespace Go.Proofs.YtlcmhbkmpkcajaaGreatDoor
open Go.RowKit
theorem setQ_below {B b : Nat} {w : World} (hB : B ≤ b) : ∀ (vs : List Value) (i : Nat) (w1 : World), Below B w w1 → Below B w (setQ w1 b i vs)
  | [], _, _, h => h
  | v :: r, i, _w1, h => setQ_below hB r (i + 1) _ (h.setCell (p := ⟨b, i, none⟩) hB v)
theorem setQ_pre {b : Nat} {T : TypeId} : ∀ (vs : List Value) (i : Nat) (w : World) (pre suf : List Value), pre.length = i → suf.length = vs.length → Blk w b (pre ++ suf).toArray T → Blk (setQ w b i vs) b (pre ++ vs).toArray T
  | [], i, w, pre, suf, _, hs, h => by
    cases suf with
    | nil => exact h
    | cons a l => simp at hs
  | v :: r, i, w, pre, suf, hp, hs, h => by
    cases suf with
    | nil => simp at hs
    | cons a l =>
      have h1 := h.set i v
      have e : (pre ++ a :: l).toArray.setIfInBounds i v = ((pre ++ [v]) ++ l).toArray := by
        rw [List.setIfInBounds_toArray, List.set_append_right _ _ (by omega)]
        subst hp
        simp
      rw [e] at h1
      have h2 := setQ_pre r (i + 1) _ (pre ++ [v]) l (by simp [hp]) (by simpa using hs) h1
      have e2 : pre ++ [v] ++ r = pre ++ v :: r := by simp
      rw [e2] at h2
      exact h2
theorem setQ_blk {w : World} {b : Nat} {T : TypeId} {cs : Array Value} (h : Blk w b cs T) (vs : List Value) (hl : cs.size = vs.length) : Blk (setQ w b 0 vs) b vs.toArray T := by
  have := setQ_pre vs 0 w [] cs.toList rfl (by simpa using hl) (by simpa using h)
  simpa using this
theorem blk16 {w : World} {b : Nat} {x0 x1 x2 x3 x4 x5 x6 x7 x8 x9 x10 x11 x12 x13 x14 x15 : Value} {T : TypeId} (h : Blk w b #[x0, x1, x2, x3, x4, x5, x6, x7, x8, x9, x10, x11, x12, x13, x14, x15] T) : (w.cell? ⟨b, 0, none⟩ = some x0 ∧ w.cell? ⟨b, 1, none⟩ = some x1 ∧ w.cell? ⟨b, 2, none⟩ = some x2 ∧ w.cell? ⟨b, 3, none⟩ = some x3 ∧ w.cell? ⟨b, 4, none⟩ = some x4 ∧ w.cell? ⟨b, 5, none⟩ = some x5 ∧ w.cell? ⟨b, 6, none⟩ = some x6 ∧ w.cell? ⟨b, 7, none⟩ = some x7 ∧ w.cell? ⟨b, 8, none⟩ = some x8 ∧ w.cell? ⟨b, 9, none⟩ = some x9 ∧ w.cell? ⟨b, 10, none⟩ = some x10 ∧ w.cell? ⟨b, 11, none⟩ = some x11 ∧ w.cell? ⟨b, 12, none⟩ = some x12 ∧ w.cell? ⟨b, 13, none⟩ = some x13 ∧ w.cell? ⟨b, 14, none⟩ = some x14 ∧ w.cell? ⟨b, 15, none⟩ = some x15) ∧ w.frozen? ⟨b, 0, none⟩ = false ∧ w.frozen? ⟨b, 1, none⟩ = false ∧ w.frozen? ⟨b, 2, none⟩ = false ∧ w.frozen? ⟨b, 3, none⟩ = false ∧ w.frozen? ⟨b, 4, none⟩ = false ∧ w.frozen? ⟨b, 5, none⟩ = false ∧ w.frozen? ⟨b, 6, none⟩ = false ∧ w.frozen? ⟨b, 7, none⟩ = false ∧ w.frozen? ⟨b, 8, none⟩ = false ∧ w.frozen? ⟨b, 9, none⟩ = false ∧ w.frozen? ⟨b, 10, none⟩ = false ∧ w.frozen? ⟨b, 11, none⟩ = false ∧ w.frozen? ⟨b, 12, none⟩ = false ∧ w.frozen? ⟨b, 13, none⟩ = false ∧ w.frozen? ⟨b, 14, none⟩ = false ∧ w.frozen? ⟨b, 15, none⟩ = false :=
  ⟨⟨by rw [h.cell]; rfl, by rw [h.cell]; rfl, by rw [h.cell]; rfl, by rw [h.cell]; rfl, by rw [h.cell]; rfl, by rw [h.cell]; rfl, by rw [h.cell]; rfl, by rw [h.cell]; rfl, by rw [h.cell]; rfl, by rw [h.cell]; rfl, by rw [h.cell]; rfl, by rw [h.cell]; rfl, by rw [h.cell]; rfl, by rw [h.cell]; rfl, by rw [h.cell]; rfl, by rw [h.cell]; rfl⟩, h.free 0, h.free 1, h.free 2, h.free 3, h.free 4, h.free 5, h.free 6, h.free 7, h.free 8, h.free 9, h.free 10, h.free 11, h.free 12, h.free 13, h.free 14, h.free 15⟩
theorem tC_zero {t k : Nat} (h : 1 ≤ k) (h2 : k < 16) : (tC t)[k]? = some (.int .u64 0) := by
  rcases k with _ | _ | _ | _ | _ | _ | _ | _ | _ | _ | _ | _ | _ | _ | _ | _ | k <;> first | omega | rfl
theorem tC_set {t k : Nat} (h : 1 ≤ k) (h2 : k < 16) : (tC t).setIfInBounds k (.int .u64 0) = tC t := by
  rcases k with _ | _ | _ | _ | _ | _ | _ | _ | _ | _ | _ | _ | _ | _ | _ | _ | k <;> first | omega | rfl
theorem tC_set0 (t x : Nat) : (tC t).setIfInBounds 0 (.int .u64 (x : Int)) = tC x := rfl
set_option maxHeartbeats 4000000 in
set_option maxRecDepth 100000 in
theorem tand_g (t o : Nat) (w : World) (ht : t < 18446744073709551616) (ho : o < 18446744073709551616) : Calls Tryz.prog 47 #[.agg (tC t), .agg (tC o)] w (Ret (.agg (tC (t &&& o))) w) := by
  have hand := and_u64 t o ht ho
  have h00 : bits .and .u64 0 0 = 0 := by have := and_u64 0 0 (by omega) (by omega); simpa using this
  clear ht ho
  unfold tC
  go_enter Tryz.func47, Tryz.ntmps47
  go_wp2_with fail
  have HBo : Hid (∀ w', Below (((w.alloc (.cells #[.int .u64 (t : Int), .int .u64 0, .int .u64 0, .int .u64 0, .int .u64 0, .int .u64 0, .int .u64 0, .int .u64 0, .int .u64 0, .int .u64 0, .int .u64 0, .int .u64 0, .int .u64 0, .int .u64 0, .int .u64 0, .int .u64 0] 87)).alloc (.cells #[.int .u64 (o : Int), .int .u64 0, .int .u64 0, .int .u64 0, .int .u64 0, .int .u64 0, .int .u64 0, .int .u64 0, .int .u64 0, .int .u64 0, .int .u64 0, .int .u64 0, .int .u64 0, .int .u64 0, .int .u64 0, .int .u64 0] 87)).alloc (.cells #[.int .u64 0, .int .u64 0, .int .u64 0, .int .u64 0, .int .u64 0, .int .u64 0, .int .u64 0, .int .u64 0, .int .u64 0, .int .u64 0, .int .u64 0, .int .u64 0, .int .u64 0, .int .u64 0, .int .u64 0, .int .u64 0] 87)).heap.size (((w.alloc (.cells #[.int .u64 (t : Int), .int .u64 0, .int .u64 0, .int .u64 0, .int .u64 0, .int .u64 0, .int .u64 0, .int .u64 0, .int .u64 0, .int .u64 0, .int .u64 0, .int .u64 0, .int .u64 0, .int .u64 0, .int .u64 0, .int .u64 0] 87)).alloc (.cells #[.int .u64 (o : Int), .int .u64 0, .int .u64 0, .int .u64 0, .int .u64 0, .int .u64 0, .int .u64 0, .int .u64 0, .int .u64 0, .int .u64 0, .int .u64 0, .int .u64 0, .int .u64 0, .int .u64 0, .int .u64 0, .int .u64 0] 87)).alloc (.cells #[.int .u64 0, .int .u64 0, .int .u64 0, .int .u64 0, .int .u64 0, .int .u64 0, .int .u64 0, .int .u64 0, .int .u64 0, .int .u64 0, .int .u64 0, .int .u64 0, .int .u64 0, .int .u64 0, .int .u64 0, .int .u64 0] 87)) w' → Blk w' (w.heap.size + 1) (tC o) 87) := fun w' hb => by
    have h := ((Blk.new (w.alloc (.cells #[.int .u64 (t : Int), .int .u64 0, .int .u64 0, .int .u64 0, .int .u64 0, .int .u64 0, .int .u64 0, .int .u64 0, .int .u64 0, .int .u64 0, .int .u64 0, .int .u64 0, .int .u64 0, .int .u64 0, .int .u64 0, .int .u64 0] 87)) (tC o) 87).old (.cells #[.int .u64 0, .int .u64 0, .int .u64 0, .int .u64 0, .int .u64 0, .int .u64 0, .int .u64 0, .int .u64 0, .int .u64 0, .int .u64 0, .int .u64 0, .int .u64 0, .int .u64 0, .int .u64 0, .int .u64 0, .int .u64 0] 87))
    exact Blk.below (by simpa [tC] using h) hb
  have hbt : Blk (((w.alloc (.cells #[.int .u64 (t : Int), .int .u64 0, .int .u64 0, .int .u64 0, .int .u64 0, .int .u64 0, .int .u64 0, .int .u64 0, .int .u64 0, .int .u64 0, .int .u64 0, .int .u64 0, .int .u64 0, .int .u64 0, .int .u64 0, .int .u64 0] 87)).alloc (.cells #[.int .u64 (o : Int), .int .u64 0, .int .u64 0, .int .u64 0, .int .u64 0, .int .u64 0, .int .u64 0, .int .u64 0, .int .u64 0, .int .u64 0, .int .u64 0, .int .u64 0, .int .u64 0, .int .u64 0, .int .u64 0, .int .u64 0] 87)).alloc (.cells #[.int .u64 0, .int .u64 0, .int .u64 0, .int .u64 0, .int .u64 0, .int .u64 0, .int .u64 0, .int .u64 0, .int .u64 0, .int .u64 0, .int .u64 0, .int .u64 0, .int .u64 0, .int .u64 0, .int .u64 0, .int .u64 0] 87)) w.heap.size (tC t) 87 := ((Blk.new w (tC t) 87).old _).old _
  have hbr : Blk (((w.alloc (.cells #[.int .u64 (t : Int), .int .u64 0, .int .u64 0, .int .u64 0, .int .u64 0, .int .u64 0, .int .u64 0, .int .u64 0, .int .u64 0, .int .u64 0, .int .u64 0, .int .u64 0, .int .u64 0, .int .u64 0, .int .u64 0, .int .u64 0] 87)).alloc (.cells #[.int .u64 (o : Int), .int .u64 0, .int .u64 0, .int .u64 0, .int .u64 0, .int .u64 0, .int .u64 0, .int .u64 0, .int .u64 0, .int .u64 0, .int .u64 0, .int .u64 0, .int .u64 0, .int .u64 0, .int .u64 0, .int .u64 0] 87)).alloc (.cells #[.int .u64 0, .int .u64 0, .int .u64 0, .int .u64 0, .int .u64 0, .int .u64 0, .int .u64 0, .int .u64 0, .int .u64 0, .int .u64 0, .int .u64 0, .int .u64 0, .int .u64 0, .int .u64 0, .int .u64 0, .int .u64 0] 87)) (w.heap.size + 1 + 1) (tC 0) 87 := by
    have h := Blk.new ((w.alloc (.cells #[.int .u64 (t : Int), .int .u64 0, .int .u64 0, .int .u64 0, .int .u64 0, .int .u64 0, .int .u64 0, .int .u64 0, .int .u64 0, .int .u64 0, .int .u64 0, .int .u64 0, .int .u64 0, .int .u64 0, .int .u64 0, .int .u64 0] 87)).alloc (.cells #[.int .u64 (o : Int), .int .u64 0, .int .u64 0, .int .u64 0, .int .u64 0, .int .u64 0, .int .u64 0, .int .u64 0, .int .u64 0, .int .u64 0, .int .u64 0, .int .u64 0, .int .u64 0, .int .u64 0, .int .u64 0, .int .u64 0] 87)) (tC 0) 87
    simpa [tC] using h
  have hb3 := below3 w (.cells #[.int .u64 (t : Int), .int .u64 0, .int .u64 0, .int .u64 0, .int .u64 0, .int .u64 0, .int .u64 0, .int .u64 0, .int .u64 0, .int .u64 0, .int .u64 0, .int .u64 0, .int .u64 0, .int .u64 0, .int .u64 0, .int .u64 0] 87) (.cells #[.int .u64 (o : Int), .int .u64 0, .int .u64 0, .int .u64 0, .int .u64 0, .int .u64 0, .int .u64 0, .int .u64 0, .int .u64 0, .int .u64 0, .int .u64 0, .int .u64 0, .int .u64 0, .int .u64 0, .int .u64 0, .int .u64 0] 87) (.cells #[.int .u64 0, .int .u64 0, .int .u64 0, .int .u64 0, .int .u64 0, .int .u64 0, .int .u64 0, .int .u64 0, .int .u64 0, .int .u64 0, .int .u64 0, .int .u64 0, .int .u64 0, .int .u64 0, .int .u64 0, .int .u64 0] 87)
  go_loopw [6] (fun i wr => ∃ k : Nat, k ≤ 16 ∧ i = .int .i64 (k : Int) ∧ Below w.heap.size w wr ∧ Hid (Blk wr w.heap.size (tC (if k = 0 then t else t &&& o)) 87) ∧ Hid (Blk wr (w.heap.size + 1) (tC o) 87) ∧ Hid (Blk wr (w.heap.size + 1 + 1) (tC 0) 87)) (fun i _ => 16 - (intOf i).toNat)
  case atStart => exact ⟨0, by omega, rfl, hb3, hbt, HBo.out _ (Below.refl _ _), hbr⟩
  case round =>
    obtain ⟨k, hk, rfl, hbx, hB, hO, hR⟩ := hrel
    have Hbx := hI hbx
    clear hbx hb3 hbt hbr HBo
    rcases Nat.lt_or_ge k 16 with hlt | hge
    · have hkn : (k : Int) < 16 := by omega
      have hk0 : (0 : Int) ≤ (k : Int) := Int.natCast_nonneg _
      have hkw : IntKind.i64.wrap ((k : Int) + 1) = (k : Int) + 1 := IntWalk.i64_in _ (by omega)
      have hfz := hB.out.free k
      rcases Nat.eq_zero_or_pos k with rfl | hpos
      · have c0 : wr.cell? ⟨w.heap.size, 0, none⟩ = some (.int .u64 (t : Int)) := (hB.out.cell 0).trans rfl
        have o0 : wr.cell? ⟨w.heap.size + 1, 0, none⟩ = some (.int .u64 (o : Int)) := (hO.out.cell 0).trans rfl
        have HS0 := hI (fun w' (hb : Below wr.heap.size wr w') => show (fun w' => w'.cell? ⟨w.heap.size, 0, none⟩ = some (.int .u64 (t : Int)) ∧ w'.cell? ⟨w.heap.size + 1, 0, none⟩ = some (.int .u64 (o : Int))) w' from ⟨cell_keep hb c0, cell_keep hb o0⟩)
        have HB1 := hI (show Blk ((wr.setCell ⟨w.heap.size, 0, none⟩ (.int .u64 ((t &&& o : Nat) : Int))).drew) w.heap.size (tC (if 0 + 1 = 0 then t else t &&& o)) 87 from by
          have h := hB.out.set 0 (.int .u64 ((t &&& o : Nat) : Int)); rw [tC_set0] at h; exact h.below (Below.refl _ _).drew)
        have HO1 := hI (show Blk ((wr.setCell ⟨w.heap.size, 0, none⟩ (.int .u64 ((t &&& o : Nat) : Int))).drew) (w.heap.size + 1) (tC o) 87 from (hO.out.other (p := ⟨w.heap.size, 0, none⟩) (show w.heap.size + 1 ≠ w.heap.size by omega) _).below (Below.refl _ _).drew)
        have HR1 := hI (show Blk ((wr.setCell ⟨w.heap.size, 0, none⟩ (.int .u64 ((t &&& o : Nat) : Int))).drew) (w.heap.size + 1 + 1) (tC 0) 87 from (hR.out.other (p := ⟨w.heap.size, 0, none⟩) (show w.heap.size + 1 + 1 ≠ w.heap.size by omega) _).below (Below.refl _ _).drew)
        have Hb1 := hI (show Below w.heap.size w ((wr.setCell ⟨w.heap.size, 0, none⟩ (.int .u64 ((t &&& o : Nat) : Int))).drew) from (Hbx.out.setCell (p := ⟨w.heap.size, 0, none⟩) (Nat.le_refl _) _).drew)
        clear hB hO hR o0 c0
        go_wp2_with fail
        refine wp_region_pop (S := (fun w' => w'.cell? ⟨w.heap.size, 0, none⟩ = some (.int .u64 (t : Int)) ∧ w'.cell? ⟨w.heap.size + 1, 0, none⟩ = some (.int .u64 (o : Int)))) 8 (by kernel_rfl) (by kernel_rfl) (by exact (HS0.out _ ((Below.refl _ _).drew))) (fun hHeld => ?_)
        simp only [List.take_succ_cons, List.take_zero, List.drop_succ_cons, List.drop_zero]
        refine' tk 0 ?_; (try simp only [tkS]); refine' tk 1 ?_; (try simp only [tkS]); refine' tk 2 ?_; (try simp only [tkS]); refine' tk 3 ?_; (try simp only [tkS]); refine' tk 4 ?_; (try simp only [tkS]); refine' tk 5 ?_; (try simp only [tkS]); refine' tk 6 ?_; (try simp only [tkS]); refine' tk 7 ?_; (try simp only [tkS])
        refine tkD ?_ _
        simp only [Exit.then]
        try rw [hand]
        go_wp2_with fail
        go_roundw
        case rel => exact ⟨1, by omega, by go_num, Hb1.out, HB1, HO1, HR1⟩
        case measure => simp [intOf] <;> omega
      · have c0 : wr.cell? ⟨w.heap.size, k, none⟩ = some (.int .u64 0) := (hB.out.cell k).trans (tC_zero hpos hlt)
        have o0 : wr.cell? ⟨w.heap.size + 1, k, none⟩ = some (.int .u64 0) := (hO.out.cell k).trans (tC_zero hpos hlt)
        have HS0 := hI (fun w' (hb : Below wr.heap.size wr w') => show (fun w' => w'.cell? ⟨w.heap.size, k, none⟩ = some (.int .u64 0) ∧ w'.cell? ⟨w.heap.size + 1, k, none⟩ = some (.int .u64 0)) w' from ⟨cell_keep hb c0, cell_keep hb o0⟩)
        have HB1 := hI (show Blk ((wr.setCell ⟨w.heap.size, k, none⟩ (.int .u64 0)).drew) w.heap.size (tC (if k + 1 = 0 then t else t &&& o)) 87 from by
          have h := hB.out.set k (.int .u64 0); rw [tC_set hpos hlt, if_neg (by omega)] at h; rw [if_neg (by omega)]; exact h.below (Below.refl _ _).drew)
        have HO1 := hI (show Blk ((wr.setCell ⟨w.heap.size, k, none⟩ (.int .u64 0)).drew) (w.heap.size + 1) (tC o) 87 from (hO.out.other (p := ⟨w.heap.size, k, none⟩) (show w.heap.size + 1 ≠ w.heap.size by omega) _).below (Below.refl _ _).drew)
        have HR1 := hI (show Blk ((wr.setCell ⟨w.heap.size, k, none⟩ (.int .u64 0)).drew) (w.heap.size + 1 + 1) (tC 0) 87 from (hR.out.other (p := ⟨w.heap.size, k, none⟩) (show w.heap.size + 1 + 1 ≠ w.heap.size by omega) _).below (Below.refl _ _).drew)
        have Hb1 := hI (show Below w.heap.size w ((wr.setCell ⟨w.heap.size, k, none⟩ (.int .u64 0)).drew) from (Hbx.out.setCell (p := ⟨w.heap.size, k, none⟩) (Nat.le_refl _) _).drew)
        clear hB hO hR o0 c0
        go_wp2_with fail
        refine wp_region_pop (S := (fun w' => w'.cell? ⟨w.heap.size, k, none⟩ = some (.int .u64 0) ∧ w'.cell? ⟨w.heap.size + 1, k, none⟩ = some (.int .u64 0))) 8 (by kernel_rfl) (by kernel_rfl) (by exact (HS0.out _ ((Below.refl _ _).drew))) (fun hHeld => ?_)
        simp only [List.take_succ_cons, List.take_zero, List.drop_succ_cons, List.drop_zero]
        refine' tk 0 ?_; (try simp only [tkS]); refine' tk 1 ?_; (try simp only [tkS]); refine' tk 2 ?_; (try simp only [tkS]); refine' tk 3 ?_; (try simp only [tkS]); refine' tk 4 ?_; (try simp only [tkS]); refine' tk 5 ?_; (try simp only [tkS]); refine' tk 6 ?_; (try simp only [tkS]); refine' tk 7 ?_; (try simp only [tkS])
        refine tkD ?_ _
        simp only [Exit.then]
        try rw [hand]
        go_wp2_with fail
        go_roundw
        case rel => exact ⟨k + 1, by omega, by go_num, Hb1.out, HB1, HO1, HR1⟩
        case measure => simp [intOf] <;> omega
    · obtain rfl : k = 16 := by omega
      have hkn : ¬ ((16 : Nat) : Int) < 16 := by omega
      rw [if_neg (by decide)] at hB
      obtain ⟨⟨p0, p1, p2, p3, p4, p5, p6, p7, p8, p9, p10, p11, p12, p13, p14, p15⟩, -⟩ := blk16 (show Blk wr w.heap.size #[.int .u64 ((t &&& o : Nat) : Int), .int .u64 0, .int .u64 0, .int .u64 0, .int .u64 0, .int .u64 0, .int .u64 0, .int .u64 0, .int .u64 0, .int .u64 0, .int .u64 0, .int .u64 0, .int .u64 0, .int .u64 0, .int .u64 0, .int .u64 0] 87 from hB.out)
      obtain ⟨⟨d0, d1, d2, d3, d4, d5, d6, d7, d8, d9, d10, d11, d12, d13, d14, d15⟩, f0, f1, f2, f3, f4, f5, f6, f7, f8, f9, f10, f11, f12, f13, f14, f15⟩ := blk16 (show Blk wr (w.heap.size + 1 + 1) #[.int .u64 0, .int .u64 0, .int .u64 0, .int .u64 0, .int .u64 0, .int .u64 0, .int .u64 0, .int .u64 0, .int .u64 0, .int .u64 0, .int .u64 0, .int .u64 0, .int .u64 0, .int .u64 0, .int .u64 0, .int .u64 0] 87 from hR.out)
      have Hres := hI (setQ_blk hR.out (tC (t &&& o)).toList rfl)
      have Hbel := hI (setQ_below (b := w.heap.size + 1 + 1) (show w.heap.size ≤ w.heap.size + 1 + 1 by omega) (tC (t &&& o)).toList 0 _ Hbx.out)
      simp only [tC, setQ, Nat.zero_add, Nat.reduceAdd] at Hres Hbel
      clear hB hO hR
      go_wp2_with fail
      obtain ⟨⟨e0, e1, e2, e3, e4, e5, e6, e7, e8, e9, e10, e11, e12, e13, e14, e15⟩, -⟩ := blk16 Hres.out
      exact bodyPost_ret (v := .agg #[.int .u64 ((t &&& o : Nat) : Int), .int .u64 0, .int .u64 0, .int .u64 0, .int .u64 0, .int .u64 0, .int .u64 0, .int .u64 0, .int .u64 0, .int .u64 0, .int .u64 0, .int .u64 0, .int .u64 0, .int .u64 0, .int .u64 0, .int .u64 0]) (by simp [results, Tryz.results47, go_sem, e0, e1, e2, e3, e4, e5, e6, e7, e8, e9, e10, e11, e12, e13, e14, e15]) rfl ⟨rfl, Hbel.out⟩
end Go.Proofs.YtlcmhbkmpkcajaaGreatDoor
namespace Go.Proofs.YtlcmhbkmpkcajaaGreatDoor
open Go.RowKit
set_option maxRecDepth 100000 in
theorem run_eqT (x y : Nat) (w : World) : (Op.equalIn 10000 87 (.agg (tC x)) (.agg (tC y))).run Tryz.prog w = .ok (x == y) w := by
  have hs : (Tryz.prog.info? 85).isSome = true := by kernel_rfl
  obtain ⟨i, hi⟩ := Option.isSome_iff_exists.1 hs
  have hc : Tryz.prog.cellsOf 85 = 1 := by kernel_rfl
  rw [run_equalIn_array w 9999 (tC x) (tC y) Tryz.underlying87 hi, hc]
  have hr : List.range 16 = [0, 1, 2, 3, 4, 5, 6, 7, 8, 9, 10, 11, 12, 13, 14, 15] := rfl
  rw [hr]
  have hp : ∀ (z : Nat) (w : World), (part 85 (tC z) (0 * 1)).run Tryz.prog w = .ok (.int .u64 (z : Int)) w := fun z w => by simp [part, isAgg, run_underlying Tryz.underlying85, tC]
  have hq : ∀ (z k : Nat) (w : World), 1 ≤ k → k < 16 → (part 85 (tC z) (k * 1)).run Tryz.prog w = .ok (.int .u64 0) w := fun z k w h1 h2 => by
    have := tC_zero (t := z) h1 h2
    simp [part, isAgg, run_underlying Tryz.underlying85, this]
  have he : ∀ (a b : Int) (w : World), (Op.equalIn 9999 85 (.int .u64 a) (.int .u64 b)).run Tryz.prog w = .ok (a == b) w := fun a b w => run_equalIn_int w 9998 85 .u64 .u64 a b Tryz.underlying85
  by_cases h : x = y
  · subst h
    simp only [Op.eqItems, Sem.run_bind, hp, he, Result.andThen_ok, beq_self_eq_true, hq _ 1 _ (by decide) (by decide), hq _ 2 _ (by decide) (by decide), hq _ 3 _ (by decide) (by decide), hq _ 4 _ (by decide) (by decide), hq _ 5 _ (by decide) (by decide), hq _ 6 _ (by decide) (by decide), hq _ 7 _ (by decide) (by decide), hq _ 8 _ (by decide) (by decide), hq _ 9 _ (by decide) (by decide), hq _ 10 _ (by decide) (by decide), hq _ 11 _ (by decide) (by decide), hq _ 12 _ (by decide) (by decide), hq _ 13 _ (by decide) (by decide), hq _ 14 _ (by decide) (by decide), hq _ 15 _ (by decide) (by decide), Bool.not_true, Bool.false_eq_true, if_false, Sem.run_pure]
  · have h' : ((x : Int) == (y : Int)) = false := by simpa using fun e => h (by omega)
    simp only [Op.eqItems, Sem.run_bind, hp, he, Result.andThen_ok, h']
    simp [h]
set_option maxHeartbeats 4000000 in
set_option maxRecDepth 100000 in
theorem twithin_g (t o : Nat) (w : World) (ht : t < 18446744073709551616) (ho : o < 18446744073709551616) : Calls Tryz.prog 77 #[.agg (tC t), .agg (tC o)] w (Ret (.bool (t &&& o == t)) w) := by
  have HA := hI (fun w' => tand_g t o w' ht ho)
  have HK := hI (below2 w (.cells #[.int .u64 (t : Int), .int .u64 0, .int .u64 0, .int .u64 0, .int .u64 0, .int .u64 0, .int .u64 0, .int .u64 0, .int .u64 0, .int .u64 0, .int .u64 0, .int .u64 0, .int .u64 0, .int .u64 0, .int .u64 0, .int .u64 0] 87) (.cells #[.int .u64 (o : Int), .int .u64 0, .int .u64 0, .int .u64 0, .int .u64 0, .int .u64 0, .int .u64 0, .int .u64 0, .int .u64 0, .int .u64 0, .int .u64 0, .int .u64 0, .int .u64 0, .int .u64 0, .int .u64 0, .int .u64 0] 87))
  have HS0 : Hid (∀ w', Below ((w.alloc (.cells #[.int .u64 (t : Int), .int .u64 0, .int .u64 0, .int .u64 0, .int .u64 0, .int .u64 0, .int .u64 0, .int .u64 0, .int .u64 0, .int .u64 0, .int .u64 0, .int .u64 0, .int .u64 0, .int .u64 0, .int .u64 0, .int .u64 0] 87)).alloc (.cells #[.int .u64 (o : Int), .int .u64 0, .int .u64 0, .int .u64 0, .int .u64 0, .int .u64 0, .int .u64 0, .int .u64 0, .int .u64 0, .int .u64 0, .int .u64 0, .int .u64 0, .int .u64 0, .int .u64 0, .int .u64 0, .int .u64 0] 87)).heap.size ((w.alloc (.cells #[.int .u64 (t : Int), .int .u64 0, .int .u64 0, .int .u64 0, .int .u64 0, .int .u64 0, .int .u64 0, .int .u64 0, .int .u64 0, .int .u64 0, .int .u64 0, .int .u64 0, .int .u64 0, .int .u64 0, .int .u64 0, .int .u64 0] 87)).alloc (.cells #[.int .u64 (o : Int), .int .u64 0, .int .u64 0, .int .u64 0, .int .u64 0, .int .u64 0, .int .u64 0, .int .u64 0, .int .u64 0, .int .u64 0, .int .u64 0, .int .u64 0, .int .u64 0, .int .u64 0, .int .u64 0, .int .u64 0] 87)) w' → (fun w' => w'.cell? ⟨w.heap.size, 0, none⟩ = some (.int .u64 (t : Int)) ∧ w'.cell? ⟨w.heap.size, 1, none⟩ = some (.int .u64 0) ∧ w'.cell? ⟨w.heap.size, 2, none⟩ = some (.int .u64 0) ∧ w'.cell? ⟨w.heap.size, 3, none⟩ = some (.int .u64 0) ∧ w'.cell? ⟨w.heap.size, 4, none⟩ = some (.int .u64 0) ∧ w'.cell? ⟨w.heap.size, 5, none⟩ = some (.int .u64 0) ∧ w'.cell? ⟨w.heap.size, 6, none⟩ = some (.int .u64 0) ∧ w'.cell? ⟨w.heap.size, 7, none⟩ = some (.int .u64 0) ∧ w'.cell? ⟨w.heap.size, 8, none⟩ = some (.int .u64 0) ∧ w'.cell? ⟨w.heap.size, 9, none⟩ = some (.int .u64 0) ∧ w'.cell? ⟨w.heap.size, 10, none⟩ = some (.int .u64 0) ∧ w'.cell? ⟨w.heap.size, 11, none⟩ = some (.int .u64 0) ∧ w'.cell? ⟨w.heap.size, 12, none⟩ = some (.int .u64 0) ∧ w'.cell? ⟨w.heap.size, 13, none⟩ = some (.int .u64 0) ∧ w'.cell? ⟨w.heap.size, 14, none⟩ = some (.int .u64 0) ∧ w'.cell? ⟨w.heap.size, 15, none⟩ = some (.int .u64 0) ∧ w'.cell? ⟨w.heap.size + 1, 0, none⟩ = some (.int .u64 (o : Int)) ∧ w'.cell? ⟨w.heap.size + 1, 1, none⟩ = some (.int .u64 0) ∧ w'.cell? ⟨w.heap.size + 1, 2, none⟩ = some (.int .u64 0) ∧ w'.cell? ⟨w.heap.size + 1, 3, none⟩ = some (.int .u64 0) ∧ w'.cell? ⟨w.heap.size + 1, 4, none⟩ = some (.int .u64 0) ∧ w'.cell? ⟨w.heap.size + 1, 5, none⟩ = some (.int .u64 0) ∧ w'.cell? ⟨w.heap.size + 1, 6, none⟩ = some (.int .u64 0) ∧ w'.cell? ⟨w.heap.size + 1, 7, none⟩ = some (.int .u64 0) ∧ w'.cell? ⟨w.heap.size + 1, 8, none⟩ = some (.int .u64 0) ∧ w'.cell? ⟨w.heap.size + 1, 9, none⟩ = some (.int .u64 0) ∧ w'.cell? ⟨w.heap.size + 1, 10, none⟩ = some (.int .u64 0) ∧ w'.cell? ⟨w.heap.size + 1, 11, none⟩ = some (.int .u64 0) ∧ w'.cell? ⟨w.heap.size + 1, 12, none⟩ = some (.int .u64 0) ∧ w'.cell? ⟨w.heap.size + 1, 13, none⟩ = some (.int .u64 0) ∧ w'.cell? ⟨w.heap.size + 1, 14, none⟩ = some (.int .u64 0) ∧ w'.cell? ⟨w.heap.size + 1, 15, none⟩ = some (.int .u64 0)) w') := fun w' hb => by
    have h1 := ((Blk.new w #[.int .u64 (t : Int), .int .u64 0, .int .u64 0, .int .u64 0, .int .u64 0, .int .u64 0, .int .u64 0, .int .u64 0, .int .u64 0, .int .u64 0, .int .u64 0, .int .u64 0, .int .u64 0, .int .u64 0, .int .u64 0, .int .u64 0] 87).old (.cells #[.int .u64 (o : Int), .int .u64 0, .int .u64 0, .int .u64 0, .int .u64 0, .int .u64 0, .int .u64 0, .int .u64 0, .int .u64 0, .int .u64 0, .int .u64 0, .int .u64 0, .int .u64 0, .int .u64 0, .int .u64 0, .int .u64 0] 87)).below hb
    have h2 : Blk ((w.alloc (.cells #[.int .u64 (t : Int), .int .u64 0, .int .u64 0, .int .u64 0, .int .u64 0, .int .u64 0, .int .u64 0, .int .u64 0, .int .u64 0, .int .u64 0, .int .u64 0, .int .u64 0, .int .u64 0, .int .u64 0, .int .u64 0, .int .u64 0] 87)).alloc (.cells #[.int .u64 (o : Int), .int .u64 0, .int .u64 0, .int .u64 0, .int .u64 0, .int .u64 0, .int .u64 0, .int .u64 0, .int .u64 0, .int .u64 0, .int .u64 0, .int .u64 0, .int .u64 0, .int .u64 0, .int .u64 0, .int .u64 0] 87)) (w.heap.size + 1) #[.int .u64 (o : Int), .int .u64 0, .int .u64 0, .int .u64 0, .int .u64 0, .int .u64 0, .int .u64 0, .int .u64 0, .int .u64 0, .int .u64 0, .int .u64 0, .int .u64 0, .int .u64 0, .int .u64 0, .int .u64 0, .int .u64 0] 87 := by
      have h := Blk.new (w.alloc (.cells #[.int .u64 (t : Int), .int .u64 0, .int .u64 0, .int .u64 0, .int .u64 0, .int .u64 0, .int .u64 0, .int .u64 0, .int .u64 0, .int .u64 0, .int .u64 0, .int .u64 0, .int .u64 0, .int .u64 0, .int .u64 0, .int .u64 0] 87)) #[.int .u64 (o : Int), .int .u64 0, .int .u64 0, .int .u64 0, .int .u64 0, .int .u64 0, .int .u64 0, .int .u64 0, .int .u64 0, .int .u64 0, .int .u64 0, .int .u64 0, .int .u64 0, .int .u64 0, .int .u64 0, .int .u64 0] 87
      simpa using h
    have h2 := h2.below hb
    obtain ⟨⟨a0, a1, a2, a3, a4, a5, a6, a7, a8, a9, a10, a11, a12, a13, a14, a15⟩, -⟩ := blk16 h1
    obtain ⟨⟨b0, b1, b2, b3, b4, b5, b6, b7, b8, b9, b10, b11, b12, b13, b14, b15⟩, -⟩ := blk16 h2
    exact ⟨a0, a1, a2, a3, a4, a5, a6, a7, a8, a9, a10, a11, a12, a13, a14, a15, b0, b1, b2, b3, b4, b5, b6, b7, b8, b9, b10, b11, b12, b13, b14, b15⟩
  have hgt : Tryz.prog.eqGuardType Tryz.prog.depth 87 = false := by kernel_rfl
  have heq := fun w => run_eqT (t &&& o) t w
  clear ht ho
  unfold tC at HA heq ⊢
  go_enter Tryz.func77, Tryz.ntmps77
  go_wp2_with fail
  refine wp_region_held_drew (S := (fun w' => w'.cell? ⟨w.heap.size, 0, none⟩ = some (.int .u64 (t : Int)) ∧ w'.cell? ⟨w.heap.size, 1, none⟩ = some (.int .u64 0) ∧ w'.cell? ⟨w.heap.size, 2, none⟩ = some (.int .u64 0) ∧ w'.cell? ⟨w.heap.size, 3, none⟩ = some (.int .u64 0) ∧ w'.cell? ⟨w.heap.size, 4, none⟩ = some (.int .u64 0) ∧ w'.cell? ⟨w.heap.size, 5, none⟩ = some (.int .u64 0) ∧ w'.cell? ⟨w.heap.size, 6, none⟩ = some (.int .u64 0) ∧ w'.cell? ⟨w.heap.size, 7, none⟩ = some (.int .u64 0) ∧ w'.cell? ⟨w.heap.size, 8, none⟩ = some (.int .u64 0) ∧ w'.cell? ⟨w.heap.size, 9, none⟩ = some (.int .u64 0) ∧ w'.cell? ⟨w.heap.size, 10, none⟩ = some (.int .u64 0) ∧ w'.cell? ⟨w.heap.size, 11, none⟩ = some (.int .u64 0) ∧ w'.cell? ⟨w.heap.size, 12, none⟩ = some (.int .u64 0) ∧ w'.cell? ⟨w.heap.size, 13, none⟩ = some (.int .u64 0) ∧ w'.cell? ⟨w.heap.size, 14, none⟩ = some (.int .u64 0) ∧ w'.cell? ⟨w.heap.size, 15, none⟩ = some (.int .u64 0) ∧ w'.cell? ⟨w.heap.size + 1, 0, none⟩ = some (.int .u64 (o : Int)) ∧ w'.cell? ⟨w.heap.size + 1, 1, none⟩ = some (.int .u64 0) ∧ w'.cell? ⟨w.heap.size + 1, 2, none⟩ = some (.int .u64 0) ∧ w'.cell? ⟨w.heap.size + 1, 3, none⟩ = some (.int .u64 0) ∧ w'.cell? ⟨w.heap.size + 1, 4, none⟩ = some (.int .u64 0) ∧ w'.cell? ⟨w.heap.size + 1, 5, none⟩ = some (.int .u64 0) ∧ w'.cell? ⟨w.heap.size + 1, 6, none⟩ = some (.int .u64 0) ∧ w'.cell? ⟨w.heap.size + 1, 7, none⟩ = some (.int .u64 0) ∧ w'.cell? ⟨w.heap.size + 1, 8, none⟩ = some (.int .u64 0) ∧ w'.cell? ⟨w.heap.size + 1, 9, none⟩ = some (.int .u64 0) ∧ w'.cell? ⟨w.heap.size + 1, 10, none⟩ = some (.int .u64 0) ∧ w'.cell? ⟨w.heap.size + 1, 11, none⟩ = some (.int .u64 0) ∧ w'.cell? ⟨w.heap.size + 1, 12, none⟩ = some (.int .u64 0) ∧ w'.cell? ⟨w.heap.size + 1, 13, none⟩ = some (.int .u64 0) ∧ w'.cell? ⟨w.heap.size + 1, 14, none⟩ = some (.int .u64 0) ∧ w'.cell? ⟨w.heap.size + 1, 15, none⟩ = some (.int .u64 0))) (by kernel_rfl) (by exact (HS0.out _ ((Below.refl _ _).drew))) (fun hHeld => ?_)
  refine' tk 0 ?_; (try simp only [tkS]); refine' tk 1 ?_; (try simp only [tkS]); refine' tk 3 ?_; (try simp only [tkS])
  refine tk1 2 (fun K hK => ?_)
  go_simp
  go_at_call 47
  refine (HA.out _).mono ?_
  rintro e5 w5 ⟨rfl, hb5⟩
  have Hb5 := hI (bw_via ((Below.refl _ _).drew) hb5)
  clear hb5
  refine hK.out _ _ (by exact (HS0.out _ (Hb5.out))) (fun hHeld => ?_)
  clear hK K; (try simp only [tkS])
  refine tk1 4 (fun K hK => ?_)
  go_simp
  refine hK.out _ _ (by exact (HS0.out _ (Hb5.out))) (fun hHeld => ?_)
  clear hK K; (try simp only [tkS])
  refine' tk 5 ?_; (try simp only [tkS])
  refine tkD ?_ _
  go_wp2_with fail
  go_ret
  exact Ret.mk (HK.out.via Hb5.out HK.out.size)
end Go.Proofs.YtlcmhbkmpkcajaaGreatDoor
