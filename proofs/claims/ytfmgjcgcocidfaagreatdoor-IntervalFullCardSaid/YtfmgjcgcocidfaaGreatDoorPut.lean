/-
  A row of values stored into a block.
-/
import Derived.Test.YtfmgjcgcocidfaaGreatDoorCc
namespace Go.Proofs.YtfmgjcgcocidfaaGreatDoor
open Go.RowKit

/-- Values stored one behind another. -/
def setN (w : World) (b : Nat) : Nat → List Value → World
  | _, [] => w
  | i, v :: r => setN (w.setCell ⟨b, i, none⟩ v) b (i + 1) r
theorem setN_below {B b : Nat} {w : World} (hB : B ≤ b) : ∀ (vs : List Value) (i : Nat) (w1 : World), Below B w w1 → Below B w (setN w1 b i vs)
  | [], _, _, h => h
  | v :: r, i, w1, h => setN_below hB r (i + 1) _ (h.setCell (p := ⟨b, i, none⟩) hB v)
theorem setN_pre {b : Nat} {T : TypeId} : ∀ (vs : List Value) (i : Nat) (w : World) (pre suf : List Value), pre.length = i → suf.length = vs.length → Blk w b (pre ++ suf).toArray T → Blk (setN w b i vs) b (pre ++ vs).toArray T
  | [], i, w, pre, suf, _, hs, h => by
    cases suf with
    | nil => exact h
    | cons a l => simp at hs
  | v :: r, i, w, pre, suf, hp, hs, h => by
    cases suf with
    | nil => simp at hs
    | cons a l =>
      have h1 := h.set i v
      have e : (pre ++ a :: l).toArray.setIfInBounds i v = ((pre ++ [v]) ++ l).toArray := by
        rw [List.setIfInBounds_toArray, List.set_append_right _ _ (by omega)]
        subst hp
        simp
      rw [e] at h1
      have h2 := setN_pre r (i + 1) _ (pre ++ [v]) l (by simp [hp]) (by simpa using hs) h1
      have e2 : pre ++ [v] ++ r = pre ++ v :: r := by simp
      rw [e2] at h2
      exact h2
theorem setN_blk {w : World} {b : Nat} {T : TypeId} {cs : Array Value} (h : Blk w b cs T) (vs : List Value) (hl : cs.size = vs.length) : Blk (setN w b 0 vs) b vs.toArray T := by
  have := setN_pre vs 0 w [] cs.toList rfl (by simpa using hl) (by simpa using h)
  simpa using this
theorem NoU.set {cs : Array Value} (h : NoU cs) (i : Nat) {v : Value} (hv : ∀ d : Int, v ≠ .int .u32 d) : NoU (cs.setIfInBounds i v) := by
  intro x hx d
  rw [Array.toList_setIfInBounds] at hx
  rcases List.mem_or_eq_of_mem_set hx with h' | rfl
  · exact h x h' d
  · exact hv d
theorem IntV.setN {v : Value} {z : Int} {R : Nat} {T : TypeId} : ∀ (vs : List Value) (i : Nat) (w : World) (cs : Array Value), (∀ x ∈ vs, ∀ d : Int, x ≠ .int .u32 d) → IntV w v z → Blk w R cs T → NoU cs → IntV (setN w R i vs) v z
  | [], _, _, _, _, h, _, _ => h
  | x :: r, i, _, _, hv, h, hB, hn => IntV.setN r (i + 1) _ _ (fun y hy => hv y (List.mem_cons_of_mem _ hy)) (h.put hB hn x) (hB.set i x) (hn.set i (hv x (List.mem_cons_self ..)))
theorem AU.setN {a : Option Addr} {R : Nat} : ∀ (vs : List Value) (i : Nat) (w : World), AU w a → AU (setN w R i vs) a
  | [], _, _, h => h
  | v :: r, i, _, h => AU.setN r (i + 1) _ (h.set R i v)
/-- Not a limb. -/
theorem nu_cells (k : CC) : ∀ x ∈ k.cells, ∀ d : Int, x ≠ .int .u32 d := by
  intro x hx d
  simp [CC.cells] at hx
  rcases hx with rfl | rfl | rfl | rfl | rfl | rfl | rfl <;> simp
theorem noU7 {b d : Int} {s : ByteArray} {x x' : Bool} {a a' : Option Addr} {n c n' c' : Nat} : NoU #[.int .i64 b, .string s, .int .i64 d, .bool x, .slice a n c, .bool x', .slice a' n' c'] := by
  intro v hv d'
  simp at hv
  rcases hv with rfl | rfl | rfl | rfl | rfl | rfl | rfl <;> simp
theorem CC.ok.setN {w : World} {k : CC} (h : k.ok w) {R : Nat} {cs : Array Value} {T : TypeId} (hB : Blk w R cs T) (hn : NoU cs) (vs : List Value) (hv : ∀ x ∈ vs, ∀ d : Int, x ≠ .int .u32 d) : k.ok (setN w R 0 vs) :=
  ⟨IntV.setN vs 0 w cs hv h.1 hB hn, AU.setN vs 0 w h.2⟩
theorem free7 {w : World} {b : Nat} {cs : Array Value} {T : TypeId} (h : Blk w b cs T) :
    w.frozen? ⟨b, 0, none⟩ = false ∧ w.frozen? ⟨b, 1, none⟩ = false ∧ w.frozen? ⟨b, 2, none⟩ = false ∧ w.frozen? ⟨b, 3, none⟩ = false ∧ w.frozen? ⟨b, 4, none⟩ = false ∧ w.frozen? ⟨b, 5, none⟩ = false ∧ w.frozen? ⟨b, 6, none⟩ = false :=
  ⟨h.free 0, h.free 1, h.free 2, h.free 3, h.free 4, h.free 5, h.free 6⟩

/-- The place of an end. -/
def cutOf (n : ByteArray) (kind side : Int) : Cut := if kind = 2 then ⟨-side, ⟨#[]⟩, 0⟩ else ⟨0, n, if kind = 1 then -side else side⟩
/-- An end that can be read: none, or the text of a small integer. -/
def EndOk (n : ByteArray) (kind : Int) : Prop := (kind = 2 ∧ n = ⟨#[]⟩) ∨ ((kind = 0 ∨ kind = 1) ∧ WT n (val n))

set_option maxHeartbeats 4000000 in
theorem end_inf (side : Int) (w : World) (hs : side = 1 ∨ side = -1) : Calls Tryz.prog 42 #[.string ⟨#[]⟩, .int .i64 2, .int .i64 side] w (RetP (fun v w' => ∃ k : CC, v = .tuple #[k.agg, .int .i64 0] ∧ k.c = cutOf ⟨#[]⟩ 2 side ∧ k.ok w') w) := by
  have hw : IntKind.i64.wrap (-side) = -side := IntWalk.i64_in _ (by omega)
  have HR := Lib.hid (Blk.new w #[.int .i64 0, .string ⟨#[]⟩, .int .i64 0, .bool false, .slice none 0 0, .bool false, .slice none 0 0] 52)
  clear hs
  go_enter Tryz.func42, Tryz.ntmps42
  go_wp2_with fail
  exact bodyPost_ret (v := .tuple #[.agg #[.int .i64 (-side), .string ⟨#[]⟩, .int .i64 0, .bool false, .slice none 0 0, .bool false, .slice none 0 0], .int .i64 0]) (by simp [results, Tryz.results42, go_sem]) rfl ⟨_, rfl, ⟨⟨⟨-side, ⟨#[]⟩, 0⟩, false, none, 0, 0⟩, rfl, by simp [cutOf], IntV.zero _, AU.none _⟩, below1 w _⟩

set_option maxHeartbeats 4000000 in
theorem end_num (n : ByteArray) (kind side : Int) (w : World) (hs : side = 1 ∨ side = -1) (hk : kind = 0 ∨ kind = 1) (hn : WT n (val n)) : Calls Tryz.prog 42 #[.string n, .int .i64 kind, .int .i64 side] w (RetP (fun v w' => ∃ k : CC, v = .tuple #[k.agg, .int .i64 0] ∧ k.c = cutOf n kind side ∧ k.ok w') w) := by
  have hw : IntKind.i64.wrap (-side) = -side := IntWalk.i64_in _ (by omega)
  have HR := Lib.hid (Blk.new w #[.int .i64 0, .string ⟨#[]⟩, .int .i64 0, .bool false, .slice none 0 0, .bool false, .slice none 0 0] 52)
  have H := Lib.hid (fun w' => read_w n (val n) w' hn)
  clear hn
  rcases hk with rfl | rfl
  · rw [show cutOf n 0 side = ⟨0, n, side⟩ from rfl]
    clear hw hs
    go_enter Tryz.func42, Tryz.ntmps42
    go_wp2_with (go_at_call 24; refine (H.out _).mono ?_; rintro e w3 ⟨v, rfl, ⟨x5, a5, n5, c5, rfl, hv, hau⟩, hb3⟩; have hr := (HR.out.below hb3).old (.cells #[.bool x5, .slice a5 n5 c5, .bool false, .slice none 0 0] 50); obtain ⟨r0, r1, r2, r3, r4, r5, r6⟩ := cells7 hr (Below.refl _ _); obtain ⟨f0, f1, f2, f3, f4, f5, f6⟩ := free7 hr; have hk6 : CC.ok w3 ⟨⟨0, n, side⟩, x5, a5, n5, c5⟩ := ⟨hv.parts.1, hau⟩; have hk7 := (hk6.mono (below1 w3 (.cells #[.bool x5, .slice a5 n5 c5, .bool false, .slice none 0 0] 50))).setN hr noU7 [.int .i64 0, .string n, .int .i64 (side), .bool x5, .slice a5 n5 c5, .bool false, .slice none 0 0] (nu_cells ⟨⟨0, n, side⟩, x5, a5, n5, c5⟩); have hb7 := setN_blk hr [.int .i64 0, .string n, .int .i64 (side), .bool x5, .slice a5 n5 c5, .bool false, .slice none 0 0] rfl; have hbel := setN_below (b := w.heap.size) (Nat.le_refl _) [.int .i64 0, .string n, .int .i64 (side), .bool x5, .slice a5 n5 c5, .bool false, .slice none 0 0] 0 _ (((below1 w (.cells #[.int .i64 0, .string ⟨#[]⟩, .int .i64 0, .bool false, .slice none 0 0, .bool false, .slice none 0 0] 52)).via hb3 (below1 w _).size).via (below1 w3 (.cells #[.bool x5, .slice a5 n5 c5, .bool false, .slice none 0 0] 50)) (Nat.le_trans (below1 w _).size hb3.size)); simp only [setN, Nat.zero_add, Nat.reduceAdd] at hk7 hb7 hbel; have Hk7 := Lib.hid hk7; have Hb7 := Lib.hid hb7; have Hbel := Lib.hid hbel; clear hk6 hk7 hb7 hbel hr hv hb3)
    obtain ⟨q0, q1, q2, q3, q4, q5, q6⟩ := cells7 Hb7.out (Below.refl _ _)
    exact bodyPost_ret (v := .tuple #[.agg #[.int .i64 0, .string n, .int .i64 (side), .bool x5, .slice a5 n5 c5, .bool false, .slice none 0 0], .int .i64 0]) (by simp [results, Tryz.results42, go_sem, q0, q1, q2, q3, q4, q5, q6]) rfl ⟨_, rfl, ⟨⟨⟨0, n, side⟩, x5, a5, n5, c5⟩, rfl, rfl, Hk7.out⟩, Hbel.out⟩
  · rw [show cutOf n 1 side = ⟨0, n, -side⟩ from rfl]
    clear hs
    go_enter Tryz.func42, Tryz.ntmps42
    go_wp2_with (go_at_call 24; refine (H.out _).mono ?_; rintro e w3 ⟨v, rfl, ⟨x5, a5, n5, c5, rfl, hv, hau⟩, hb3⟩; have hr := (HR.out.below hb3).old (.cells #[.bool x5, .slice a5 n5 c5, .bool false, .slice none 0 0] 50); obtain ⟨r0, r1, r2, r3, r4, r5, r6⟩ := cells7 hr (Below.refl _ _); obtain ⟨f0, f1, f2, f3, f4, f5, f6⟩ := free7 hr; have hk6 : CC.ok w3 ⟨⟨0, n, -side⟩, x5, a5, n5, c5⟩ := ⟨hv.parts.1, hau⟩; have hk7 := (hk6.mono (below1 w3 (.cells #[.bool x5, .slice a5 n5 c5, .bool false, .slice none 0 0] 50))).setN hr noU7 [.int .i64 0, .string n, .int .i64 (-side), .bool x5, .slice a5 n5 c5, .bool false, .slice none 0 0] (nu_cells ⟨⟨0, n, -side⟩, x5, a5, n5, c5⟩); have hb7 := setN_blk hr [.int .i64 0, .string n, .int .i64 (-side), .bool x5, .slice a5 n5 c5, .bool false, .slice none 0 0] rfl; have hbel := setN_below (b := w.heap.size) (Nat.le_refl _) [.int .i64 0, .string n, .int .i64 (-side), .bool x5, .slice a5 n5 c5, .bool false, .slice none 0 0] 0 _ (((below1 w (.cells #[.int .i64 0, .string ⟨#[]⟩, .int .i64 0, .bool false, .slice none 0 0, .bool false, .slice none 0 0] 52)).via hb3 (below1 w _).size).via (below1 w3 (.cells #[.bool x5, .slice a5 n5 c5, .bool false, .slice none 0 0] 50)) (Nat.le_trans (below1 w _).size hb3.size)); simp only [setN, Nat.zero_add, Nat.reduceAdd] at hk7 hb7 hbel; have Hk7 := Lib.hid hk7; have Hb7 := Lib.hid hb7; have Hbel := Lib.hid hbel; clear hk6 hk7 hb7 hbel hr hv hb3)
    obtain ⟨q0, q1, q2, q3, q4, q5, q6⟩ := cells7 Hb7.out (Below.refl _ _)
    exact bodyPost_ret (v := .tuple #[.agg #[.int .i64 0, .string n, .int .i64 (-side), .bool x5, .slice a5 n5 c5, .bool false, .slice none 0 0], .int .i64 0]) (by simp [results, Tryz.results42, go_sem, q0, q1, q2, q3, q4, q5, q6]) rfl ⟨_, rfl, ⟨⟨⟨0, n, -side⟩, x5, a5, n5, c5⟩, rfl, rfl, Hk7.out⟩, Hbel.out⟩

theorem end_any (n : ByteArray) (kind side : Int) (w : World) (hs : side = 1 ∨ side = -1) (h : EndOk n kind) : Calls Tryz.prog 42 #[.string n, .int .i64 kind, .int .i64 side] w (RetP (fun v w' => ∃ k : CC, v = .tuple #[k.agg, .int .i64 0] ∧ k.c = cutOf n kind side ∧ k.ok w') w) := by
  rcases h with ⟨rfl, rfl⟩ | ⟨hk, hn⟩
  · exact end_inf side w hs
  · exact end_num n kind side w hs hk hn

end Go.Proofs.YtfmgjcgcocidfaaGreatDoor
