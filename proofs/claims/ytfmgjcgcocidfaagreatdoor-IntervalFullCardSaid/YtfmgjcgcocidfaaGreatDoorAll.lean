/-
  Two numbers read.
-/
import Derived.Test.YtfmgjcgcocidfaaGreatDoorPut
namespace Go.Proofs.YtfmgjcgcocidfaaGreatDoor
open Go.RowKit

theorem own_blk {w : World} {B e sz g n : Nat} {xs : List Value} (h : w.ownsRow B e sz (.slice (some ⟨g, 0, none⟩) n n) n xs) : Blk w g xs.toArray e := by
  rcases h.2 with ⟨hv, -⟩ | ⟨g2, cap2, cur, hv, -, hblk, -, -, hcs, htk⟩
  · cases hv
  · cases hv
    have : cur = xs.toArray := by
      apply Array.toList_inj.1
      rw [List.toList_toArray, ← htk, List.take_of_length_le (by rw [Array.length_toList, hcs]; exact Nat.le_refl _)]
    rw [← this]
    exact hblk
theorem noU8 {x x' y y' : Bool} {a a' e e' : Option Addr} {n c n' c' m k m' k' : Nat} : NoU #[.bool x, .slice a n c, .bool x', .slice a' n' c', .bool y, .slice e m k, .bool y', .slice e' m' k'] := by
  intro v hv d
  simp at hv
  rcases hv with rfl | rfl | rfl | rfl | rfl | rfl | rfl | rfl <;> simp
theorem nu4 {x x' : Bool} {a a' : Option Addr} {n c n' c' : Nat} : ∀ v ∈ [Value.bool x, .slice a n c, .bool x', .slice a' n' c'], ∀ d : Int, v ≠ .int .u32 d := by
  intro v hv d
  simp at hv
  rcases hv with rfl | rfl | rfl | rfl <;> simp
theorem RatV.setN {w : World} {p : Int} {x : Bool} {a : Option Addr} {n c : Nat} (h : RatV w (.agg #[.bool x, .slice a n c, .bool false, .slice none 0 0]) p 0) {R : Nat} {cs : Array Value} {T : TypeId} (hB : Blk w R cs T) (hn : NoU cs) (vs : List Value) (i : Nat) (hv : ∀ v ∈ vs, ∀ d : Int, v ≠ .int .u32 d) : RatV (setN w R i vs) (.agg #[.bool x, .slice a n c, .bool false, .slice none 0 0]) p 0 := RatV.whole0 (IntV.setN vs i w cs hv h.parts.1 hB hn)
theorem cells8 {w w' : World} {b : Nat} {x0 x1 x2 x3 x4 x5 x6 x7 : Value} {T : TypeId} (h : Blk w b #[x0, x1, x2, x3, x4, x5, x6, x7] T) (hb : Below w.heap.size w w') :
    w'.cell? ⟨b, 0, none⟩ = some x0 ∧ w'.cell? ⟨b, 1, none⟩ = some x1 ∧ w'.cell? ⟨b, 2, none⟩ = some x2 ∧ w'.cell? ⟨b, 3, none⟩ = some x3 ∧ w'.cell? ⟨b, 4, none⟩ = some x4 ∧ w'.cell? ⟨b, 5, none⟩ = some x5 ∧ w'.cell? ⟨b, 6, none⟩ = some x6 ∧ w'.cell? ⟨b, 7, none⟩ = some x7 := by
  have h' := h.below hb
  exact ⟨by rw [h'.cell]; rfl, by rw [h'.cell]; rfl, by rw [h'.cell]; rfl, by rw [h'.cell]; rfl, by rw [h'.cell]; rfl, by rw [h'.cell]; rfl, by rw [h'.cell]; rfl, by rw [h'.cell]; rfl⟩
theorem free8 {w : World} {b : Nat} {cs : Array Value} {T : TypeId} (h : Blk w b cs T) :
    w.frozen? ⟨b, 0, none⟩ = false ∧ w.frozen? ⟨b, 1, none⟩ = false ∧ w.frozen? ⟨b, 2, none⟩ = false ∧ w.frozen? ⟨b, 3, none⟩ = false ∧ w.frozen? ⟨b, 4, none⟩ = false ∧ w.frozen? ⟨b, 5, none⟩ = false ∧ w.frozen? ⟨b, 6, none⟩ = false ∧ w.frozen? ⟨b, 7, none⟩ = false :=
  ⟨h.free 0, h.free 1, h.free 2, h.free 3, h.free 4, h.free 5, h.free 6, h.free 7⟩
theorem blk8_lo {w : World} {b : Nat} {x0 x1 x2 x3 x4 x5 x6 x7 : Value} {T : TypeId} (h : Blk w b #[x0, x1, x2, x3, x4, x5, x6, x7] T) (y0 y1 y2 y3 : Value) : Blk ((((w.setCell ⟨b, 0, none⟩ y0).setCell ⟨b, 1, none⟩ y1).setCell ⟨b, 2, none⟩ y2).setCell ⟨b, 3, none⟩ y3) b #[y0, y1, y2, y3, x4, x5, x6, x7] T := by
  simpa using (((h.set 0 y0).set 1 y1).set 2 y2).set 3 y3
theorem blk8_hi {w : World} {b : Nat} {x0 x1 x2 x3 x4 x5 x6 x7 : Value} {T : TypeId} (h : Blk w b #[x0, x1, x2, x3, x4, x5, x6, x7] T) (y0 y1 y2 y3 : Value) : Blk ((((w.setCell ⟨b, 4, none⟩ y0).setCell ⟨b, 5, none⟩ y1).setCell ⟨b, 6, none⟩ y2).setCell ⟨b, 7, none⟩ y3) b #[x0, x1, x2, x3, y0, y1, y2, y3] T := by
  simpa using (((h.set 4 y0).set 5 y1).set 6 y2).set 7 y3
theorem cells2 {w w' : World} {b : Nat} {x0 x1 : Value} {T : TypeId} (h : Blk w b #[x0, x1] T) (hb : Below w.heap.size w w') : w'.cell? ⟨b, 0, none⟩ = some x0 ∧ w'.cell? ⟨b, 1, none⟩ = some x1 := by
  have h' := h.below hb
  exact ⟨by rw [h'.cell]; rfl, by rw [h'.cell]; rfl⟩

/-- Two numbers in a row. -/
def TwoR (w' : World) (v : Value) (z0 z1 : Int) : Prop := ∃ (g : Nat) (x0 : Bool) (a0 : Option Addr) (n0 c0 : Nat) (x1 : Bool) (a1 : Option Addr) (n1 c1 : Nat), v = .tuple #[.slice (some ⟨g, 0, none⟩) 2 2, .int .i64 0] ∧ Blk w' g #[.bool x0, .slice a0 n0 c0, .bool false, .slice none 0 0, .bool x1, .slice a1 n1 c1, .bool false, .slice none 0 0] 50 ∧ RatV w' (.agg #[.bool x0, .slice a0 n0 c0, .bool false, .slice none 0 0]) z0 0 ∧ RatV w' (.agg #[.bool x1, .slice a1 n1 c1, .bool false, .slice none 0 0]) z1 0

set_option maxHeartbeats 4000000 in
set_option maxRecDepth 10000 in
theorem all_two (b : Nat) (s0 s1 : ByteArray) (z0 z1 : Int) (w : World) (T : TypeId) (hB : Blk w b #[.string s0, .string s1] T) (h0 : WT s0 z0) (h1 : WT s1 z1) :
    Calls Tryz.prog 58 #[.slice (some ⟨b, 0, none⟩) 2 2, .func (.func 24) #[] #[]] w (RetP (fun v w' => TwoR w' v z0 z1) w) := by
  have HB := Lib.hid (fun w' (hb : Below w.heap.size w w') => cells2 hB hb)
  have H0 := Lib.hid (fun w' => read_w s0 z0 w' h0)
  have H1 := Lib.hid (fun w' => read_w s1 z1 w' h1)
  clear hB h0 h1
  have hi : (Tryz.prog.info? 50).map (fun i => (i.zero, i.size, i.bytes)) = some (some (.agg #[.bool false, .slice none 0 0, .bool false, .slice none 0 0]), 4, 64) := by kernel_rfl
  obtain ⟨i4, hi4, hz0, hz1, hz2⟩ := info_parts hi
  clear hi
  have eg := enters_of (P := Tryz.prog) Tryz.func24 (by kernel_rfl) rfl
  have hmk : (madeCells (Value.agg #[.bool false, .slice none 0 0, .bool false, .slice none 0 0]).cells (2 * 4)).toList.toArray = #[.bool false, .slice none 0 0, .bool false, .slice none 0 0, .bool false, .slice none 0 0, .bool false, .slice none 0 0] := by kernel_rfl
  go_enter Tryz.func58, Tryz.ntmps58
  go_wp2_with (at_make; refine wpList_make_full _ rfl _ _ 73 rfl w.heap.size 50 i4 (.agg #[.bool false, .slice none 0 0, .bool false, .slice none 0 0]) 4 Tryz.underlying73 hi4 hz0 hz1 .i64 .i64 _ _ 2 rfl rfl (by omega) (by omega) (by rw [hz2]; omega) (by unfold maxLen; omega) (by simp) ?_; intro w1 hown hg; have hblk := own_blk hown; rw [hmk] at hblk; have Hblk := Lib.hid hblk; have Hb1 := Lib.hid ((Below.refl w.heap.size w).grown hg (Nat.le_refl _) (fun b hb => by cases hb)); clear hown hg hblk)
  go_loopw [15] (fun i wr => ∃ k : Nat, k ≤ 2 ∧ i = .int .i64 (k : Int) ∧ Below w.heap.size w wr ∧ Hid ((k = 0 ∧ Blk wr w.heap.size #[.bool false, .slice none 0 0, .bool false, .slice none 0 0, .bool false, .slice none 0 0, .bool false, .slice none 0 0] 50) ∨ (k = 1 ∧ ∃ (x0 : Bool) (a0 : Option Addr) (n0 c0 : Nat), Blk wr w.heap.size #[.bool x0, .slice a0 n0 c0, .bool false, .slice none 0 0, .bool false, .slice none 0 0, .bool false, .slice none 0 0] 50 ∧ RatV wr (.agg #[.bool x0, .slice a0 n0 c0, .bool false, .slice none 0 0]) z0 0) ∨ (k = 2 ∧ ∃ (x0 : Bool) (a0 : Option Addr) (n0 c0 : Nat) (x1 : Bool) (a1 : Option Addr) (n1 c1 : Nat), Blk wr w.heap.size #[.bool x0, .slice a0 n0 c0, .bool false, .slice none 0 0, .bool x1, .slice a1 n1 c1, .bool false, .slice none 0 0] 50 ∧ RatV wr (.agg #[.bool x0, .slice a0 n0 c0, .bool false, .slice none 0 0]) z0 0 ∧ RatV wr (.agg #[.bool x1, .slice a1 n1 c1, .bool false, .slice none 0 0]) z1 0))) (fun i _ => 2 - (intOf i).toNat)
  case atStart => exact ⟨0, by omega, rfl, Hb1.out, .inl ⟨rfl, Hblk.out⟩⟩
  case round =>
    obtain ⟨k, hk, rfl, hbw, hst⟩ := hrel
    have Hbw := Lib.hid hbw
    obtain ⟨s0', s1'⟩ := HB.out _ hbw
    clear hbw
    rcases hst.out with ⟨rfl, hblk⟩ | ⟨rfl, x0, a0, n0, c0, hblk, hr0⟩ | ⟨rfl, x0, a0, n0, c0, x1, a1, n1, c1, hblk, hr0, hr1⟩
    · have HBk := Lib.hid hblk
      clear hblk
      go_wp2_with (go_at_call 24; refine (H0.out _).mono ?_; rintro e w2 ⟨v2, rfl, ⟨x0, a0, n0, c0, rfl, hrv, -⟩, hb2⟩; have hB2 := HBk.out.below hb2; obtain ⟨p0, p1, p2, p3, p4, p5, p6, p7⟩ := cells8 hB2 (Below.refl _ _); obtain ⟨f0, f1, f2, f3, f4, f5, f6, f7⟩ := free8 hB2; have hB3 := blk8_lo hB2 (.bool x0) (.slice a0 n0 c0) (.bool false) (.slice none 0 0); have hR3 := RatV.setN hrv hB2 noU8 [.bool x0, .slice a0 n0 c0, .bool false, .slice none 0 0] 0 nu4; have hb3 := setN_below (B := w.heap.size) (b := w.heap.size) (Nat.le_refl _) [.bool x0, .slice a0 n0 c0, .bool false, .slice none 0 0] 0 _ (Hbw.out.via hb2 Hbw.out.size); simp only [setN, Nat.zero_add, Nat.reduceAdd] at hR3 hb3; have HB3 := Lib.hid hB3; have HR3 := Lib.hid hR3; have Hb3 := Lib.hid hb3; clear hB2 hB3 hR3 hb3 hrv hb2)
      go_roundw
      case rel => exact ⟨1, by omega, by go_num, Hb3.out, .inr (.inl ⟨rfl, x0, a0, n0, c0, HB3.out, HR3.out⟩)⟩
      case measure => simp [intOf] <;> omega
    · have HBk := Lib.hid hblk
      have HR0 := Lib.hid hr0
      clear hblk hr0
      go_wp2_with (go_at_call 24; refine (H1.out _).mono ?_; rintro e w2 ⟨v2, rfl, ⟨x1, a1, n1, c1, rfl, hrv, -⟩, hb2⟩; have hB2 := HBk.out.below hb2; obtain ⟨p0, p1, p2, p3, p4, p5, p6, p7⟩ := cells8 hB2 (Below.refl _ _); obtain ⟨f0, f1, f2, f3, f4, f5, f6, f7⟩ := free8 hB2; have hR0' := HR0.out.mono hb2; have hB3 := blk8_hi hB2 (.bool x1) (.slice a1 n1 c1) (.bool false) (.slice none 0 0); have hR3 := RatV.setN hrv hB2 noU8 [.bool x1, .slice a1 n1 c1, .bool false, .slice none 0 0] 4 nu4; have hR4 := RatV.setN hR0' hB2 noU8 [.bool x1, .slice a1 n1 c1, .bool false, .slice none 0 0] 4 nu4; have hb3 := setN_below (B := w.heap.size) (b := w.heap.size) (Nat.le_refl _) [.bool x1, .slice a1 n1 c1, .bool false, .slice none 0 0] 4 _ (Hbw.out.via hb2 Hbw.out.size); simp only [setN, Nat.reduceAdd] at hR3 hR4 hb3; have HB3 := Lib.hid hB3; have HR3 := Lib.hid hR3; have HR4 := Lib.hid hR4; have Hb3 := Lib.hid hb3; clear hB2 hB3 hR3 hR4 hR0' hb3 hrv hb2)
      go_roundw
      case rel => exact ⟨2, by omega, by go_num, Hb3.out, .inr (.inr ⟨rfl, x0, a0, n0, c0, x1, a1, n1, c1, HB3.out, HR4.out, HR3.out⟩)⟩
      case measure => simp [intOf] <;> omega
    · have HX := Lib.hid (And.intro hblk (And.intro hr0 hr1))
      clear hblk hr0 hr1
      go_wp2_with fail
      go_ret2
      
      exact ⟨_, rfl, ⟨_, x0, a0, n0, c0, x1, a1, n1, c1, rfl, HX.out.1, HX.out.2.1, HX.out.2.2⟩, Hbw.out⟩

set_option maxHeartbeats 2000000 in
theorem reads_two (b : Nat) (s0 s1 : ByteArray) (z0 z1 : Int) (w : World) (T : TypeId) (hB : Blk w b #[.string s0, .string s1] T) (h0 : WT s0 z0) (h1 : WT s1 z1) :
    Calls Tryz.prog 32 #[.slice (some ⟨b, 0, none⟩) 2 2] w (RetP (fun v w' => TwoR w' v z0 z1) w) := by
  have H := Lib.hid (all_two b s0 s1 z0 z1 w T hB h0 h1)
  clear hB h0 h1
  go_enter Tryz.func32, Tryz.ntmps32
  go_wp2_with (go_at_call 58; refine (H.out).mono ?_; rintro e w1 ⟨v, rfl, ⟨g, x0, a0, n0, c0, x1, a1, n1, c1, rfl, hR⟩, hb1⟩; have HR := Lib.hid hR; clear hR)
  go_ret2
  exact ⟨_, rfl, ⟨g, x0, a0, n0, c0, x1, a1, n1, c1, rfl, HR.out⟩, hb1⟩

end Go.Proofs.YtfmgjcgcocidfaaGreatDoor
