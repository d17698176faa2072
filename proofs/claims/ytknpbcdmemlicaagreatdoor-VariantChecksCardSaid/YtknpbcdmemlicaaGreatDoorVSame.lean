/-
  Equality of slices, by the model's loops.
-/
import Derived.Test.YtknpbcdmemlicaaGreatDoorVBase
namespace Go.Proofs.YtknpbcdmemlicaaGreatDoor
open Go.RowKit

set_option maxHeartbeats 1000000 in
theorem sameInts_any (xs ys : List Int) (u v : Value) (w : World) (hX : Sl w 1 u ((xs.map (Value.int .i64)).map c1)) (hY : Sl w 1 v ((ys.map (Value.int .i64)).map c1)) (hlen : xs.length < 1000000) :
    Calls Tryz.prog 21 #[u, v] w (Ret (.bool (decide (xs = ys))) w) := by
  obtain ⟨a, cp, rfl, -, -⟩ := hX.open
  obtain ⟨a', cp', rfl, -, hcp'⟩ := hY.open
  simp only [List.length_map] at *
  unfold maxLen at hcp'
  generalize hn : xs.length = n at *
  generalize hm : ys.length = m at *
  have Hn := Lib.hid hn
  have Hm := Lib.hid hm
  clear hn hm
  by_cases hnm : n = m
  · subst hnm
    go_enter Tryz.func21, Tryz.ntmps21
    go_wp2
    go_loopw [5] (fun i wr => ∃ k : Nat, k ≤ n ∧ i = .int .i64 k ∧ Below w.heap.size w wr ∧ Hid (xs.take k = ys.take k)) (fun i _ => n - (intOf i).toNat)
    case atStart => exact ⟨0, Nat.zero_le _, rfl, Below.refl _ _, by simp [Hid]⟩
    case round =>
      obtain ⟨k, hk, rfl, hbw, hpre⟩ := hrel
      by_cases hlt2 : k < n
      · obtain ⟨b, off, x, rfl, hxk, c0⟩ := hX.at1 hbw hlt2
        obtain ⟨b', off', y, rfl, hyk, d0⟩ := hY.at1 hbw hlt2
        simp only [List.getElem?_map, Option.map_eq_some_iff] at hxk hyk
        obtain ⟨x, hxk, rfl⟩ := hxk
        obtain ⟨y, hyk, rfl⟩ := hyk
        have Hx := Lib.hid hxk
        have Hy := Lib.hid hyk
        clear hxk hyk
        by_cases hxy : x = y
        · subst hxy
          go_wp2
          go_quiet (fail)
          go_wp2
          go_roundw
          case rel => exact ⟨k + 1, by omega, by go_num, hbw.dn _, by unfold Hid; rw [List.take_add_one, List.take_add_one, hpre.out, Hx.out, Hy.out]⟩
          case measure => simp [intOf]; omega
        · have hxy2 : (x != y) = true := by simpa using hxy
          go_wp2
          go_quiet (fail)
          go_wp2
          go_ret
          refine ⟨ret_bool ?_, hbw.dn _⟩
          symm
          rw [decide_eq_false_iff_not]
          intro h
          subst h
          have h1 := Hx.out
          rw [Hy.out] at h1
          exact hxy (by simpa using h1.symm)
      · go_wp2
        go_ret
        refine ⟨ret_bool ?_, hbw⟩
        have : k = n := by omega
        subst this
        have h := hpre.out
        rw [List.take_of_length_le (by have := Hn.out; omega), List.take_of_length_le (by have := Hm.out; omega)] at h
        simp [h]
  · have hnm' : ((n : Int) == (m : Int)) = false := by simp; omega
    have hnm2 : ((n : Int) != (m : Int)) = true := by simp; omega
    go_enter Tryz.func21, Tryz.ntmps21
    go_wp2
    go_ret
    refine ⟨ret_bool ?_, Below.refl _ _⟩
    symm
    rw [decide_eq_false_iff_not]
    intro h
    subst h
    exact hnm (Hn.out.symm.trans Hm.out)

set_option maxHeartbeats 1000000 in
theorem sameNames_any (xs ys : List ByteArray) (u v : Value) (w : World) (hX : Sl w 1 u ((xs.map Value.string).map c1)) (hY : Sl w 1 v ((ys.map Value.string).map c1)) (hlen : xs.length < 1000000) :
    Calls Tryz.prog 19 #[u, v] w (Ret (.bool (decide (xs = ys))) w) := by
  obtain ⟨a, cp, rfl, -, -⟩ := hX.open
  obtain ⟨a', cp', rfl, -, hcp'⟩ := hY.open
  simp only [List.length_map] at *
  unfold maxLen at hcp'
  generalize hn : xs.length = n at *
  generalize hm : ys.length = m at *
  have Hn := Lib.hid hn
  have Hm := Lib.hid hm
  clear hn hm
  by_cases hnm : n = m
  · subst hnm
    go_enter Tryz.func19, Tryz.ntmps19
    go_wp2
    go_loopw [5] (fun i wr => ∃ k : Nat, k ≤ n ∧ i = .int .i64 k ∧ Below w.heap.size w wr ∧ Hid (xs.take k = ys.take k)) (fun i _ => n - (intOf i).toNat)
    case atStart => exact ⟨0, Nat.zero_le _, rfl, Below.refl _ _, by simp [Hid]⟩
    case round =>
      obtain ⟨k, hk, rfl, hbw, hpre⟩ := hrel
      by_cases hlt2 : k < n
      · obtain ⟨b, off, x, rfl, hxk, c0⟩ := hX.at1 hbw hlt2
        obtain ⟨b', off', y, rfl, hyk, d0⟩ := hY.at1 hbw hlt2
        simp only [List.getElem?_map, Option.map_eq_some_iff] at hxk hyk
        obtain ⟨x, hxk, rfl⟩ := hxk
        obtain ⟨y, hyk, rfl⟩ := hyk
        have Hx := Lib.hid hxk
        have Hy := Lib.hid hyk
        clear hxk hyk
        by_cases hxy : x = y
        · subst hxy
          go_wp2
          go_quiet (fail)
          go_wp2
          go_roundw
          case rel => exact ⟨k + 1, by omega, by go_num, hbw.dn _, by unfold Hid; rw [List.take_add_one, List.take_add_one, hpre.out, Hx.out, Hy.out]⟩
          case measure => simp [intOf]; omega
        · have hxy2 := bytes_ne hxy
          go_wp2
          go_quiet (fail)
          go_wp2
          go_ret
          refine ⟨ret_bool ?_, hbw.dn _⟩
          symm
          rw [decide_eq_false_iff_not]
          intro h
          subst h
          have h1 := Hx.out
          rw [Hy.out] at h1
          exact hxy (by simpa using h1.symm)
      · go_wp2
        go_ret
        refine ⟨ret_bool ?_, hbw⟩
        have : k = n := by omega
        subst this
        have h := hpre.out
        rw [List.take_of_length_le (by have := Hn.out; omega), List.take_of_length_le (by have := Hm.out; omega)] at h
        simp [h]
  · have hnm' : ((n : Int) == (m : Int)) = false := by simp; omega
    have hnm2 : ((n : Int) != (m : Int)) = true := by simp; omega
    go_enter Tryz.func19, Tryz.ntmps19
    go_wp2
    go_ret
    refine ⟨ret_bool ?_, Below.refl _ _⟩
    symm
    rw [decide_eq_false_iff_not]
    intro h
    subst h
    exact hnm (Hn.out.symm.trans Hm.out)

set_option maxHeartbeats 1000000 in
theorem sameLits_any (xs ys : List Lit1) (u v : Value) (w : World) (hX : Lits w u xs) (hY : Lits w v ys) (hlen : xs.length < 1000000) :
    Calls Tryz.prog 20 #[u, v] w (Ret (.bool (decide (xs = ys))) w) := by
  obtain ⟨a, cp, rfl, -, -⟩ := hX.open
  obtain ⟨a', cp', rfl, -, hcp'⟩ := hY.open
  unfold maxLen at hcp'
  generalize hn : xs.length = n at *
  generalize hm : ys.length = m at *
  have Hn := Lib.hid hn
  have Hm := Lib.hid hm
  clear hn hm
  by_cases hnm : n = m
  · subst hnm
    go_enter Tryz.func20, Tryz.ntmps20
    go_wp2
    go_loopw [5] (fun i wr => ∃ k : Nat, k ≤ n ∧ i = .int .i64 k ∧ Below w.heap.size w wr ∧ Hid (xs.take k = ys.take k)) (fun i _ => n - (intOf i).toNat)
    case atStart => exact ⟨0, Nat.zero_le _, rfl, Below.refl _ _, by simp [Hid]⟩
    case round =>
      obtain ⟨k, hk, rfl, hbw, hpre⟩ := hrel
      by_cases hlt2 : k < n
      · obtain ⟨b, off, x, rfl, hxk, c0, c1⟩ := hX.at hbw hlt2
        obtain ⟨b', off', y, rfl, hyk, d0, d1⟩ := hY.at hbw hlt2
        obtain ⟨x0, x1⟩ := x
        obtain ⟨y0, y1⟩ := y
        simp only at c0 c1 d0 d1
        have Hx := Lib.hid hxk
        have Hy := Lib.hid hyk
        clear hxk hyk
        by_cases hxy : x0 = y0 ∧ x1 = y1
        · obtain ⟨rfl, rfl⟩ := hxy
          have hq : ∀ w', (binOp .neq 73 (.agg #[.int .i64 x0, .bool x1]) (.agg #[.int .i64 x0, .bool x1])).run Tryz.prog w' = .ok (.bool false) w' := fun w' => by rw [run_neq62]; simp
          go_wp2
          go_quiet (fail)
          go_wp2
          go_roundw
          case rel => exact ⟨k + 1, by omega, by go_num, hbw.dn _, by unfold Hid; rw [List.take_add_one, List.take_add_one, hpre.out, Hx.out, Hy.out]⟩
          case measure => simp [intOf]; omega
        · have hq : ∀ w', (binOp .neq 73 (.agg #[.int .i64 x0, .bool x1]) (.agg #[.int .i64 y0, .bool y1])).run Tryz.prog w' = .ok (.bool true) w' := fun w' => by
            rw [run_neq62, show (x0 == y0 && x1 == y1) = false by simpa using hxy]; rfl
          go_wp2
          go_quiet (fail)
          go_wp2
          go_ret
          refine ⟨ret_bool ?_, hbw.dn _⟩
          symm
          rw [decide_eq_false_iff_not]
          intro h
          subst h
          have h1 := Hx.out
          rw [Hy.out] at h1
          exact hxy (by simpa [eq_comm] using h1)
      · go_wp2
        go_ret
        refine ⟨ret_bool ?_, hbw⟩
        have : k = n := by omega
        subst this
        have h := hpre.out
        rw [List.take_of_length_le (by have := Hn.out; omega), List.take_of_length_le (by have := Hm.out; omega)] at h
        simp [h]
  · have hnm' : ((n : Int) == (m : Int)) = false := by simp; omega
    have hnm2 : ((n : Int) != (m : Int)) = true := by simp; omega
    go_enter Tryz.func20, Tryz.ntmps20
    go_wp2
    go_ret
    refine ⟨ret_bool ?_, Below.refl _ _⟩
    symm
    rw [decide_eq_false_iff_not]
    intro h
    subst h
    exact hnm (Hn.out.symm.trans Hm.out)

end Go.Proofs.YtknpbcdmemlicaaGreatDoor
