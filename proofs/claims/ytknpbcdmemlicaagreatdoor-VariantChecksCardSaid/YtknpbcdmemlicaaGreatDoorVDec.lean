/-
  decode: the literals that a code stands for.
-/
import Derived.Test.YtknpbcdmemlicaaGreatDoorVMem
namespace Go.Proofs.YtknpbcdmemlicaaGreatDoor
open Go.RowKit

/-- Integers of one byte in memory. -/
def I8s (w : World) (v : Value) (xs : List Int) : Prop := Sl w 1 v ((xs.map (Value.int .i8)).map c1)
theorem I8s.mono {w w' : World} {v : Value} {xs : List Int} (h : I8s w v xs) (hb : Below w.heap.size w w') : I8s w' v xs := Sl.mono h hb
theorem I8s.open {w : World} {v : Value} {xs : List Int} (h : I8s w v xs) : ∃ a cap, v = .slice a xs.length cap ∧ xs.length ≤ cap ∧ cap ≤ maxLen := by
  have := Sl.open h; simpa using this
theorem I8s.at {w wr : World} {n cap : Nat} {a : Option Addr} {xs : List Int} (hS : I8s w (.slice a n cap) xs) (hb : Below w.heap.size w wr) {k : Nat} (hk : k < n) :
    ∃ b off x, a = some ⟨b, off, none⟩ ∧ xs[k]? = some x ∧ wr.cell? ⟨b, off + k, none⟩ = some (.int .i8 x) := by
  obtain ⟨b, off, x, ha, hx, h0⟩ := Sl.at1 hS hb hk
  simp only [List.getElem?_map, Option.map_eq_some_iff] at hx
  obtain ⟨l, hl, rfl⟩ := hx
  exact ⟨b, off, l, ha, hl, h0⟩

theorem one2 (x y : Value) (h : x.oneCell' = true) (h2 : y.oneCell' = true) : ∀ u ∈ [x, y], u.oneCell' = true := by simp [h, h2]

def stepAt (n : Int) (at' : List Int) (v : Int) : List Int := if v < 0 then at'.set ((-v) % n).toNat (-1) else at'.set (v % n).toNat 1
def atOf (n : Int) (code : List Int) : List Int := code.foldl (stepAt n) (List.replicate 12 0)
theorem stepAt_len (n : Int) (a : List Int) (v : Int) : (stepAt n a v).length = a.length := by unfold stepAt; split <;> simp
theorem atOf_snoc (n : Int) (code : List Int) (v : Int) : atOf n (code ++ [v]) = stepAt n (atOf n code) v := by simp [atOf]
theorem atOf_len (n : Int) (code : List Int) : (atOf n code).length = 12 := by
  unfold atOf
  have : ∀ (l : List Int) (a : List Int), (l.foldl (stepAt n) a).length = a.length := by
    intro l; induction l with
    | nil => intro a; rfl
    | cons v l ih => intro a; rw [List.foldl_cons, ih, stepAt_len]
  rw [this]; rfl
def litsOf (a : List Int) : Nat → List Lit1
  | 0 => []
  | k + 1 => litsOf a k ++ (if a.getD k 0 = 0 then [] else [((k : Int), decide (0 < a.getD k 0))])
def decodeL (n : Nat) (code : List Int) : List Lit1 := litsOf (atOf n (code.take 12)) n

/-- The array of the twelve. -/
def Arr (w : World) (A : Nat) (a : List Int) : Prop := w.heap[A]? = some (.cells (a.map (Value.int .i64)).toArray 137 (0, 0))

theorem Arr.cell {w : World} {A : Nat} {a : List Int} (h : Arr w A a) {q : Nat} (hq : q < a.length) : w.cell? ⟨A, q, none⟩ = some (.int .i64 (a.getD q 0)) := by
  unfold Arr at h
  simp [World.cell?, h, hq]
theorem Arr.free {w : World} {A : Nat} {a : List Int} (h : Arr w A a) (q : Nat) : w.frozen? ⟨A, q, none⟩ = false := frozen_of_row w A q _ 137 h
theorem Arr.set {w : World} {A : Nat} {a : List Int} (h : Arr w A a) (q : Nat) (v : Int) : Arr (w.setCell ⟨A, q, none⟩ (.int .i64 v)) A (a.set q v) := by
  unfold Arr at *
  rw [heap_setCell_same w A q _ 137 _ h]
  simp [List.map_set]
theorem Arr.below {w w' : World} {A : Nat} {a : List Int} (h : Arr w A a) (hb : Below w.heap.size w w') : Arr w' A a := by
  unfold Arr at *; rw [hb.block A (lt_of_block h)]; exact h
theorem Arr.new (w : World) : Arr (w.alloc (.cells #[.int .i64 0, .int .i64 0, .int .i64 0, .int .i64 0, .int .i64 0, .int .i64 0, .int .i64 0, .int .i64 0, .int .i64 0, .int .i64 0, .int .i64 0, .int .i64 0] 137)) w.heap.size (List.replicate 12 0) := heap_alloc_new w _

theorem atOf_take_succ {n : Int} {code : List Int} {k : Nat} {x : Int} (h : code[k]? = some x) : atOf n (code.take (k + 1)) = stepAt n (atOf n (code.take k)) x := by
  rw [List.take_add_one, h]; exact atOf_snoc _ _ _

theorem litsOf_len (a : List Int) : ∀ k, (litsOf a k).length ≤ k
  | 0 => by simp [litsOf]
  | k + 1 => by
    have := litsOf_len a k
    simp only [litsOf, List.length_append]
    split <;> simp <;> omega

set_option maxHeartbeats 1000000 in
theorem decode_any (n : Nat) (code : List Int) (v : Value) (w : World) (hn : 1 ≤ n) (hn6 : n ≤ 6) (hC : I8s w v code) (hc : ∀ x ∈ code, -128 ≤ x ∧ x ≤ 127) :
    Calls Tryz.prog 50 #[.int .i64 (n : Int), v] w (fun e w' => ∃ v', e = .returned v' ∧ Lits w' v' (decodeL n code) ∧ (∀ b, v'.ownBlock = some b → w.heap.size ≤ b ∧ b < w'.heap.size) ∧ Below w.heap.size w w') := by
  obtain ⟨a, c, rfl, hlen, hcap⟩ := hC.open
  generalize hm : code.length = m at *
  have Hm := Lib.hid hm
  clear hm
  go_enter Tryz.func50, Tryz.ntmps50
  go_wp2
  go_loopw [6] (fun i wr => ∃ k : Nat, k ≤ m ∧ k ≤ 12 ∧ i = .int .i64 k ∧ Below w.heap.size w wr ∧ w.heap.size < wr.heap.size ∧ Arr wr w.heap.size (atOf n (code.take k))) (fun i _ => 12 - (intOf i).toNat)
  case atStart => exact ⟨0, Nat.zero_le _, Nat.zero_le _, rfl, below1 _ _, by simp, Arr.new w⟩
  case round =>
    obtain ⟨k, hk, hk12, rfl, hbw, hA0, hA⟩ := hrel
    by_cases hlt2 : k < m
    · by_cases hlt3 : k < 12
      · obtain ⟨b, off, x, rfl, hx, c0⟩ := hC.at hbw hlt2
        have hxr := hc x (List.mem_of_getElem? hx)
        have Hst := Lib.hid (atOf_take_succ (n := (n : Int)) hx)
        have hal := atOf_len (n : Int) (code.take k)
        by_cases hneg : x < 0
        · obtain ⟨q, hq⟩ : ∃ q : Nat, (-x) % (n : Int) = (q : Int) := ⟨((-x) % (n : Int)).toNat, by have := Int.emod_nonneg (-x) (show (n : Int) ≠ 0 by omega); omega⟩
          have hqn : (q : Int) < n := by rw [← hq]; exact Int.emod_lt_of_pos _ (by omega)
          have hte : x.tmod (n : Int) = -(q : Int) := by rw [tmod_eq_if, if_neg (by omega), hq]
          have e0 := hA.cell (q := q) (by omega)
          have e1 := hA.free q
          have Hq := Lib.hid (show stepAt n (atOf n (code.take k)) x = (atOf n (code.take k)).set q (-1) by unfold stepAt; rw [if_pos hneg, hq]; simp)
          clear hq hx
          go_wp2
          go_roundw
          case rel => exact ⟨k + 1, by omega, by omega, by go_num, hbw.setCell (p := ⟨w.heap.size, q, none⟩) (Nat.le_refl _) _, by simpa [World.setCell] using hA0, by rw [Hst.out, Hq.out]; exact hA.set q _⟩
          case measure => simp [intOf]; omega
        · obtain ⟨q, hq⟩ : ∃ q : Nat, x % (n : Int) = (q : Int) := ⟨(x % (n : Int)).toNat, by have := Int.emod_nonneg x (show (n : Int) ≠ 0 by omega); omega⟩
          have hqn : (q : Int) < n := by rw [← hq]; exact Int.emod_lt_of_pos _ (by omega)
          have hte : x.tmod (n : Int) = (q : Int) := by rw [tmod_eq_if, if_pos (by omega), hq]
          have e0 := hA.cell (q := q) (by omega)
          have e1 := hA.free q
          have Hq := Lib.hid (show stepAt n (atOf n (code.take k)) x = (atOf n (code.take k)).set q 1 by unfold stepAt; rw [if_neg hneg, hq]; simp)
          clear hq hx
          go_wp2
          go_roundw
          case rel => exact ⟨k + 1, by omega, by omega, by go_num, hbw.setCell (p := ⟨w.heap.size, q, none⟩) (Nat.le_refl _) _, by simpa [World.setCell] using hA0, by rw [Hst.out, Hq.out]; exact hA.set q _⟩
          case measure => simp [intOf]; omega
      · go_wp2
        rename World => W1
        have hfin0 : atOf n (code.take k) = atOf n (code.take 12) := by
          rw [show k = 12 by omega]
        have hlen12 := atOf_len (n : Int) (code.take k)
        generalize atOf n (code.take k) = ar at *
        have hfin := Lib.hid hfin0
        clear hc hC hlt2 hfin0
        go_loopw [8, 9] (fun v i wr => ∃ j : Nat, j ≤ n ∧ i = .int .i64 j ∧ Below W1.heap.size W1 wr ∧ wr.ownsRow W1.heap.size 73 2 v (litsOf ar j).length (((litsOf ar j).map litV).flatMap c2)) (fun _ i _ => n - (intOf i).toNat)
        case atStart => exact ⟨0, Nat.zero_le _, rfl, Below.refl _ _, World.ownsRow_nil _ _ _ _⟩
        case round =>
          obtain ⟨j, hj, rfl, hb2, hown⟩ := hrel
          by_cases hj2 : j < n
          · have hA2 := hA.below hb2
            have e0 := hA2.cell (q := j) (by omega)
            have hjl : w.heap.size < wr.heap.size := Nat.lt_of_lt_of_le hA0 hb2.size
            have hfl := litsOf_len ar j
            have hsz := hb2.size
            have Hq := Lib.hid (show litsOf ar (j + 1) = litsOf ar j ++ (if ar.getD j 0 = 0 then [] else [((j : Int), decide (0 < ar.getD j 0))]) from rfl)
            generalize ar.getD j 0 = z at *
            by_cases hz : z = 0
            · subst hz
              go_wp2
              go_roundw
              case rel => exact ⟨j + 1, by omega, by go_num, hb2, by rw [Hq.out]; simpa using hown⟩
              case measure => simp [intOf]; omega
            · have Hz := Lib.hid hz
              go_wp2_with (at_builtin; refine wpApp E25 (by decide) [.int .i64 (j : Int), .bool (decide (0 < z))] rfl _ _ rfl W1.heap.size _ _ _ rfl rfl hown rfl (one2 _ _ rfl rfl) (by omega) (by decide) hsz ?_; intro v' w4 hown' hg'; have hbw4 := below_app hb2 hown hg' hsz)
              go_roundw
              case rel => exact ⟨j + 1, by omega, by go_num, hbw4, by rw [Hq.out, if_neg Hz.out]; simpa [List.flatMap_append, YtknpbcdmemlicaaGreatDoor.c2, litV] using hown'⟩
              case measure => simp [intOf]; omega
          · go_wp2
            go_ret
            have : j = n := by omega
            subst this
            refine ⟨_, rfl, ?_, fun b hb => ⟨Nat.le_trans hbw.size (hown.lt b hb).1, (hown.lt b hb).2⟩, hbw.via hb2 hbw.size⟩
            have := Sl.own2 hown
            unfold decodeL
            rw [← hfin.out]
            exact this
    · go_wp2
      rename World => W1
      have hfin0 : atOf n (code.take k) = atOf n (code.take 12) := by
        rw [List.take_of_length_le (by have := Hm.out; omega), List.take_of_length_le (by have := Hm.out; omega)]
      have hlen12 := atOf_len (n : Int) (code.take k)
      generalize atOf n (code.take k) = ar at *
      have hfin := Lib.hid hfin0
      clear hc hC hlt2 hfin0
      go_loopw [8, 9] (fun v i wr => ∃ j : Nat, j ≤ n ∧ i = .int .i64 j ∧ Below W1.heap.size W1 wr ∧ wr.ownsRow W1.heap.size 73 2 v (litsOf ar j).length (((litsOf ar j).map litV).flatMap c2)) (fun _ i _ => n - (intOf i).toNat)
      case atStart => exact ⟨0, Nat.zero_le _, rfl, Below.refl _ _, World.ownsRow_nil _ _ _ _⟩
      case round =>
        obtain ⟨j, hj, rfl, hb2, hown⟩ := hrel
        by_cases hj2 : j < n
        · have hA2 := hA.below hb2
          have e0 := hA2.cell (q := j) (by omega)
          have hjl : w.heap.size < wr.heap.size := Nat.lt_of_lt_of_le hA0 hb2.size
          have hfl := litsOf_len ar j
          have hsz := hb2.size
          have Hq := Lib.hid (show litsOf ar (j + 1) = litsOf ar j ++ (if ar.getD j 0 = 0 then [] else [((j : Int), decide (0 < ar.getD j 0))]) from rfl)
          generalize ar.getD j 0 = z at *
          by_cases hz : z = 0
          · subst hz
            go_wp2
            go_roundw
            case rel => exact ⟨j + 1, by omega, by go_num, hb2, by rw [Hq.out]; simpa using hown⟩
            case measure => simp [intOf]; omega
          · have Hz := Lib.hid hz
            go_wp2_with (at_builtin; refine wpApp E25 (by decide) [.int .i64 (j : Int), .bool (decide (0 < z))] rfl _ _ rfl W1.heap.size _ _ _ rfl rfl hown rfl (one2 _ _ rfl rfl) (by omega) (by decide) hsz ?_; intro v' w4 hown' hg'; have hbw4 := below_app hb2 hown hg' hsz)
            go_roundw
            case rel => exact ⟨j + 1, by omega, by go_num, hbw4, by rw [Hq.out, if_neg Hz.out]; simpa [List.flatMap_append, YtknpbcdmemlicaaGreatDoor.c2, litV] using hown'⟩
            case measure => simp [intOf]; omega
        · go_wp2
          go_ret
          have : j = n := by omega
          subst this
          refine ⟨_, rfl, ?_, fun b hb => ⟨Nat.le_trans hbw.size (hown.lt b hb).1, (hown.lt b hb).2⟩, hbw.via hb2 hbw.size⟩
          have := Sl.own2 hown
          unfold decodeL
          rw [← hfin.out]
          exact this

theorem litErr_snoc {n : Int} {l : Lit1} (h0 : 0 ≤ l.1) (h1 : l.1 < n) {ls : List Lit1} : ∀ {q : Option Int}, litErrFrom n q ls = 0 → (∀ x ∈ ls, x.1 < l.1) → (∀ y, q = some y → y < l.1) → litErrFrom n q (ls ++ [l]) = 0 := by
  induction ls with
  | nil =>
    intro q _ _ hq
    simp only [List.nil_append, litErrFrom]
    rw [if_neg (by omega), if_neg]
    cases q with
    | none => simp
    | some y => have := hq y rfl; simp; omega
  | cons x xs ih =>
    intro q h hx _
    simp only [List.cons_append, litErrFrom] at h ⊢
    split at h
    · omega
    · split at h
      · omega
      · rename_i h2 h3
        rw [if_neg h2, if_neg h3]
        exact ih h (fun y hy => hx y (by simp [hy])) (fun y hy => by cases hy; exact hx x (by simp))

theorem litsOf_ok (n : Nat) (a : List Int) : ∀ k, k ≤ n → litErr n (litsOf a k) = 0 ∧ ∀ l ∈ litsOf a k, l.1 < k
  | 0, _ => ⟨rfl, by simp [litsOf]⟩
  | k + 1, h => by
    obtain ⟨h1, h2⟩ := litsOf_ok n a k (by omega)
    simp only [litsOf]
    split
    · rw [List.append_nil]
      exact ⟨h1, fun l hl => by have := h2 l hl; omega⟩
    · refine ⟨litErr_snoc (show (0 : Int) ≤ (k : Int) by omega) (show (k : Int) < n by omega) h1 h2 (by simp), fun l hl => ?_⟩
      simp only [List.mem_append, List.mem_singleton] at hl
      rcases hl with hl | rfl
      · have := h2 l hl; omega
      · show (k : Int) < _
        omega
theorem decodeL_ok (n : Nat) (code : List Int) : litErr n (decodeL n code) = 0 := (litsOf_ok n _ n (Nat.le_refl _)).1
theorem decodeL_len (n : Nat) (code : List Int) : (decodeL n code).length ≤ n := litsOf_len _ _

/-- The name of option k. -/
def optS (k : Nat) : ByteArray := ⟨#[UInt8.ofNat (97 + k)]⟩

theorem bytes_opt (k : Nat) (w : World) (hk : k < 20) : (convert 120 9 (.slice (some ⟨w.heap.size, 0, none⟩) 1 1)).run Tryz.prog (w.alloc (.cells #[.int .u8 (97 + (k : Int))] 5)) = .ok (.string (optS k)) (w.alloc (.cells #[.int .u8 (97 + (k : Int))] 5)) := by
  have h := run_convert_bytes_arg (P := Tryz.prog) (w.alloc (.cells #[.int .u8 (97 + (k : Int))] 5)) 120 5 Tryz.underlying120 Tryz.underlying5 w.heap.size 0 1 1 [97 + (k : Int)] rfl (fun i hi => by
    obtain rfl : i = 0 := by omega
    simp) 9 Tryz.underlying9
  have e : strOfNums [97 + (k : Int)] = optS k := by
    have : (97 + (k : Int)).toNat = 97 + k := by omega
    simp [strOfNums, optS, this]
  rw [e] at h
  exact h

set_option maxHeartbeats 1000000 in
theorem option_any (k : Nat) (w : World) (hk : k < 20) : Calls Tryz.prog 49 #[.int .i64 (k : Int)] w (Ret (.string (optS k)) w) := by
  have hcv := bytes_opt k w hk
  have hw1 : IntKind.u8.wrap (k : Int) = k := IntWalk.u8_in _ (by omega)
  have hw2 : IntKind.u8.wrap (97 + (k : Int)) = 97 + k := IntWalk.u8_in _ (by omega)
  go_enter Tryz.func49, Tryz.ntmps49
  go_wp2
  go_ret
  exact Ret.mk (below1 _ _)
end Go.Proofs.YtknpbcdmemlicaaGreatDoor
