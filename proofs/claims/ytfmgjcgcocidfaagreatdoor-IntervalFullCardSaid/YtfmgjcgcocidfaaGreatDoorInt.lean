/-
  Integers: From, Sign, Neg, order, Compare.
-/
import Derived.Test.YtfmgjcgcocidfaaGreatDoorMag
namespace Go.Proofs.YtfmgjcgcocidfaaGreatDoor
open Go.RowKit

/-- Two limbs in a block of their own. -/
theorem Ls.two {w : World} {b lo hi : Nat} {T : TypeId} (h : Blk w b #[.int .u32 (lo : Int), .int .u32 (hi : Int)] T) : Ls w (.slice (some ⟨b, 0, none⟩) 2 2) [lo, hi] := by
  refine ⟨_, _, rfl, by simp [u32s], by unfold maxLen; omega, .inr ⟨b, 0, rfl, h.lt, fun i j hi hj => ?_⟩⟩
  rw [h.cell]
  simp only [u32s, List.map_cons, List.map_nil, List.length_cons, List.length_nil] at hi
  obtain rfl : j = 0 := by omega
  rcases i with _ | _ | i <;> first | omega | rfl

/-- Cells that hold no limb. -/
def NoU (cs : Array Value) : Prop := ∀ x ∈ cs.toList, ∀ d : Int, x ≠ .int .u32 d
/-- A store into a block that holds no limb leaves limbs as they read. -/
theorem Ls.put {w : World} {v : Value} {l : List Nat} (h : Ls w v l) {R i : Nat} {cs : Array Value} {T : TypeId} (hB : Blk w R cs T) (hcs : NoU cs) (u : Value) : Ls (w.setCell ⟨R, i, none⟩ u) v l := by
  obtain ⟨a, cap, rfl, hc, hm, hh⟩ := h
  refine ⟨a, cap, rfl, hc, hm, ?_⟩
  rcases hh with h0 | ⟨b, off, rfl, hlt, hcell⟩
  · exact .inl h0
  · refine .inr ⟨b, off, rfl, by simpa [World.setCell] using hlt, fun i' j hi hj => ?_⟩
    have hx := hcell i' j hi hj
    have hne : b ≠ R := by
      rintro rfl
      obtain rfl : j = 0 := by omega
      rw [hB.cell] at hx
      have hi2 : i' < l.length := by simpa [u32s] using hi
      have e : ((u32s l).map c1).getD i' [] = [.int .u32 ((l[i'] : Nat) : Int)] := by
        rw [List.getD_eq_getElem?_getD, List.getElem?_map, u32s, List.getElem?_map, List.getElem?_eq_getElem hi2]; rfl
      rw [e] at hx
      have hmem := Array.mem_of_getElem? hx
      exact hcs _ (by simpa using hmem) _ rfl
    rw [World.cell?_of_block (w := w) (a := ⟨b, _, none⟩) (Below.heap_setCell w ⟨R, i, none⟩ u b hne)]
    exact hx
theorem IntV.put {w : World} {v : Value} {z : Int} (h : IntV w v z) {R i : Nat} {cs : Array Value} {T : TypeId} (hB : Blk w R cs T) (hcs : NoU cs) (u : Value) : IntV (w.setCell ⟨R, i, none⟩ u) v z := by
  obtain ⟨a, c, hv, h⟩ := h
  exact ⟨a, c, hv, h.put hB hcs u⟩
/-- An integer's cells, without their spelling. -/
theorem IntV.open {w : World} {v : Value} {z : Int} (h : IntV w v z) : ∃ x a k c, v = .agg #[.bool x, .slice a k c] ∧ IntV w (.agg #[.bool x, .slice a k c]) z := by
  obtain ⟨a, c, rfl, hl⟩ := h
  exact ⟨_, _, _, _, rfl, _, _, rfl, hl⟩
theorem noU2 {x : Bool} {a : Option Addr} {n c : Nat} : NoU #[.bool x, .slice a n c] := by
  intro y hy d e
  simp only [List.mem_cons, List.not_mem_nil, or_false] at hy
  rcases hy with rfl | rfl <;> cases e
/-- An integer is stored into the result's cells. -/
theorem IntV.put2 {w : World} {z : Int} {R n c n' c' : Nat} {x x' : Bool} {a a' : Option Addr} {T : TypeId} (h : IntV w (.agg #[.bool x, .slice a n c]) z) (hB : Blk w R #[.bool x', .slice a' n' c'] T) :
    IntV ((w.setCell ⟨R, 0, none⟩ (.bool x)).setCell ⟨R, 1, none⟩ (.slice a n c)) (.agg #[.bool x, .slice a n c]) z ∧ Blk ((w.setCell ⟨R, 0, none⟩ (.bool x)).setCell ⟨R, 1, none⟩ (.slice a n c)) R #[.bool x, .slice a n c] T := by
  have h1 := hB.set 0 (.bool x)
  have h2 := h1.set 1 (.slice a n c)
  simp at h1 h2
  exact ⟨(h.put hB noU2 _).put h1 noU2 _, h2⟩

set_option maxHeartbeats 2000000 in
theorem from_any (n : Int) (w : World) (h1 : -9223372036854775808 ≤ n) (h2 : n ≤ 9223372036854775807) :
    Calls Tryz.prog 53 #[.int .i64 n] w (RetP (fun v w' => IntV w' v n) w) := by
  obtain ⟨N, hN⟩ : ∃ N, n.natAbs = N := ⟨_, rfl⟩
  have hNb : N ≤ 9223372036854775808 := by omega
  have hS : sgn (decide (n < 0)) N = n := by rw [← hN]; exact sgn_of n
  have hnat : natL [N % 4294967296, N / 4294967296] = N := by simp only [natL]; omega
  have hDg : Dg [N % 4294967296, N / 4294967296] := fun d hd => by
    simp only [List.mem_cons, List.not_mem_nil, or_false] at hd
    rcases hd with rfl | rfl <;> omega
  have hb0 := below2 w (.cells #[.bool false, .slice none 0 0] 48) (.cells #[.int .u32 ((N % 4294967296 : Nat) : Int), .int .u32 ((N / 4294967296 : Nat) : Int)] 117)
  have hLs : Ls ((w.alloc (.cells #[.bool false, .slice none 0 0] 48)).alloc (.cells #[.int .u32 ((N % 4294967296 : Nat) : Int), .int .u32 ((N / 4294967296 : Nat) : Int)] 117)) (.slice (some ⟨w.heap.size + 1, 0, none⟩) 2 2) [N % 4294967296, N / 4294967296] := by
    have h := Ls.two (Blk.new (w.alloc (.cells #[.bool false, .slice none 0 0] 48)) #[.int .u32 ((N % 4294967296 : Nat) : Int), .int .u32 ((N / 4294967296 : Nat) : Int)] 117)
    simpa using h
  have H := Lib.hid (signed_any (decide (n < 0)) _ _ _ _ _ hLs hDg)
  rw [hnat, hS] at H
  have e1 : ((N % 4294967296 : Nat) : Int) = (N : Int) % 4294967296 := by omega
  have e2 : ((N / 4294967296 : Nat) : Int) = (N : Int) / 4294967296 := by omega
  rw [e1, e2] at H hb0
  have HB := Lib.hid (fun (b : Bool) => Blk.new w #[.bool false, .slice none 0 0] 48)
  have Hb0 := Lib.hid hb0
  have hbB := ((Blk.new w #[.bool false, .slice none 0 0] 48).old (.cells #[.int .u32 ((N : Int) % 4294967296), .int .u32 ((N : Int) / 4294967296)] 117))
  have HbB := Lib.hid hbB
  clear hb0 hbB hLs hDg hnat e1 e2 HB
  by_cases hneg : n < 0
  · have hw : IntKind.u64.wrap n = n + 18446744073709551616 := by unfold IntKind.wrap; simp [IntKind.bits, IntKind.signed]; omega
    have hw2 : IntKind.u64.wrap (-(n + 18446744073709551616)) = (N : Int) := by unfold IntKind.wrap; simp [IntKind.bits, IntKind.signed]; omega
    have hd : decide (n < 0) = true := by simp; omega
    rw [hd] at H
    go_enter Tryz.func53, Tryz.ntmps53
    go_wp2_with (go_at_call 82; refine (H.out).mono ?_; rintro e w1 ⟨v, rfl, hv, hb1⟩; have hb := HbB.out.below hb1; have c0 := hb.cell 0; have c1' := hb.cell 1; have f0 := hb.free 0; have f1 := hb.free 1; simp only [List.getElem?_toArray, List.getElem?_cons_succ, List.getElem?_cons_zero] at c0 c1'; obtain ⟨x, a, k, c, rfl, hl⟩ := hv.open)
    obtain ⟨hv2, hb2⟩ := IntV.put2 hl hb
    have hbel := ((Hb0.out.via hb1 Hb0.out.size).setCell (p := ⟨w.heap.size, 0, none⟩) (Nat.le_refl _) (.bool x)).setCell (p := ⟨w.heap.size, 1, none⟩) (Nat.le_refl _) (.slice a k c)
    have r0 := hb2.cell 0
    have r1 := hb2.cell 1
    simp only [List.getElem?_toArray, List.getElem?_cons_succ, List.getElem?_cons_zero] at r0 r1
    exact bodyPost_ret (v := .agg #[.bool x, .slice a k c]) (by simp [results, Tryz.results53, go_sem, r0, r1]) rfl ⟨_, rfl, hv2, hbel⟩
  · obtain rfl : n = (N : Int) := by omega
    have hw : IntKind.u64.wrap (N : Int) = N := IntWalk.u64_in _ (by omega)
    have hd : decide ((N : Int) < 0) = false := by simp
    rw [hd] at H
    go_enter Tryz.func53, Tryz.ntmps53
    go_wp2_with (go_at_call 82; refine (H.out).mono ?_; rintro e w1 ⟨v, rfl, hv, hb1⟩; have hb := HbB.out.below hb1; have c0 := hb.cell 0; have c1' := hb.cell 1; have f0 := hb.free 0; have f1 := hb.free 1; simp only [List.getElem?_toArray, List.getElem?_cons_succ, List.getElem?_cons_zero] at c0 c1'; obtain ⟨x, a, k, c, rfl, hl⟩ := hv.open)
    obtain ⟨hv2, hb2⟩ := IntV.put2 hl hb
    have hbel := ((Hb0.out.via hb1 Hb0.out.size).setCell (p := ⟨w.heap.size, 0, none⟩) (Nat.le_refl _) (.bool x)).setCell (p := ⟨w.heap.size, 1, none⟩) (Nat.le_refl _) (.slice a k c)
    have r0 := hb2.cell 0
    have r1 := hb2.cell 1
    simp only [List.getElem?_toArray, List.getElem?_cons_succ, List.getElem?_cons_zero] at r0 r1
    exact bodyPost_ret (v := .agg #[.bool x, .slice a k c]) (by simp [results, Tryz.results53, go_sem, r0, r1]) rfl ⟨_, rfl, hv2, hbel⟩

end Go.Proofs.YtfmgjcgcocidfaaGreatDoor
