/-
  The library's IndexFunc and ContainsFunc at rows of two cells.
-/
import Derived.Test.YtknpbcdmemlicaaGreatDoorVBase
namespace Go.Proofs.YtknpbcdmemlicaaGreatDoor
open Go.RowKit

set_option maxHeartbeats 1000000 in
theorem ix67 (g : Nat) (cap : Array Value) (rows : List (Value × Value)) (bs : List Bool) (v : Value) (w : World) (hS : Sl w 2 v (rows.map c2)) (hp : PredOn g cap w rows bs) (hlen : rows.length < 1000000) :
    Calls Tryz.prog 63 #[v, .func (.func g) #[] cap] w (Ret (.int .i64 (ixOf (fun b => b) bs)) w) := by
  obtain ⟨a, cp, rfl, -, -⟩ := hS.open
  simp only [List.length_map] at *
  obtain ⟨eg, hpl, hp⟩ := hp
  generalize hn : rows.length = n at *
  have Hpl := Lib.hid hpl
  have Hp := Lib.hid hp
  clear hn hp hpl
  go_enter Tryz.func63, Tryz.ntmps63
  go_wp2
  go_loopw [5, 8] (fun _ i wr => ∃ k : Nat, k ≤ n ∧ i = .int .i64 k ∧ Below w.heap.size w wr ∧ Hid (∀ b ∈ bs.take k, b = false)) (fun _ i _ => n - (intOf i).toNat)
  case atStart => exact ⟨0, Nat.zero_le _, rfl, Below.refl _ _, by intro l hl; simp at hl⟩
  case round =>
    obtain ⟨k, hk, rfl, hbw, hpre⟩ := hrel
    by_cases hlt2 : k < n
    · obtain ⟨b, off, x, rfl, hxk, c0, c1⟩ := hS.at2 hbw hlt2
      obtain ⟨t, ht⟩ : ∃ t, bs[k]? = some t := ⟨bs[k]'(by have := Hpl.out; omega), by simp⟩
      have Ht := Lib.hid ht
      have Hc := Lib.hid (Hp.out wr hbw k x t hxk ht)
      clear hxk ht
      cases t
      · go_wp2_with (go_at_fn g; refine (Hc.out).mono ?_; rintro e w' ⟨rfl, hb'⟩)
        go_roundw
        case rel => exact ⟨k + 1, by omega, by go_num, hbw.via hb' hbw.size, take_succ_all hpre.out Ht.out rfl⟩
        case measure => simp [intOf]; omega
      · go_wp2_with (go_at_fn g; refine (Hc.out).mono ?_; rintro e w' ⟨rfl, hb'⟩)
        go_ret
        refine ⟨ret_int ?_, hbw.via hb' hbw.size⟩
        exact (ixOf_some hpre.out Ht.out rfl).symm
    · go_wp2
      go_ret
      refine ⟨ret_int ?_, hbw⟩
      have : k = n := by omega
      subst this
      exact (ixOf_none (take_all hpre.out (by have := Hpl.out; omega))).symm

set_option maxHeartbeats 1000000 in
theorem ix48 (g : Nat) (cap : Array Value) (rows : List (Value × Value)) (bs : List Bool) (v : Value) (w : World) (hS : Sl w 2 v (rows.map c2)) (hp : PredOn g cap w rows bs) (hlen : rows.length < 1000000) :
    Calls Tryz.prog 38 #[v, .func (.func g) #[] cap] w (Ret (.int .i64 (ixOf (fun b => b) bs)) w) := by
  obtain ⟨a, cp, rfl, -, -⟩ := hS.open
  simp only [List.length_map] at *
  obtain ⟨eg, hpl, hp⟩ := hp
  generalize hn : rows.length = n at *
  have Hpl := Lib.hid hpl
  have Hp := Lib.hid hp
  clear hn hp hpl
  go_enter Tryz.func38, Tryz.ntmps38
  go_wp2
  go_loopw [5, 8] (fun _ i wr => ∃ k : Nat, k ≤ n ∧ i = .int .i64 k ∧ Below w.heap.size w wr ∧ Hid (∀ b ∈ bs.take k, b = false)) (fun _ i _ => n - (intOf i).toNat)
  case atStart => exact ⟨0, Nat.zero_le _, rfl, Below.refl _ _, by intro l hl; simp at hl⟩
  case round =>
    obtain ⟨k, hk, rfl, hbw, hpre⟩ := hrel
    by_cases hlt2 : k < n
    · obtain ⟨b, off, x, rfl, hxk, c0, c1⟩ := hS.at2 hbw hlt2
      obtain ⟨t, ht⟩ : ∃ t, bs[k]? = some t := ⟨bs[k]'(by have := Hpl.out; omega), by simp⟩
      have Ht := Lib.hid ht
      have Hc := Lib.hid (Hp.out wr hbw k x t hxk ht)
      clear hxk ht
      cases t
      · go_wp2_with (go_at_fn g; refine (Hc.out).mono ?_; rintro e w' ⟨rfl, hb'⟩)
        go_roundw
        case rel => exact ⟨k + 1, by omega, by go_num, hbw.via hb' hbw.size, take_succ_all hpre.out Ht.out rfl⟩
        case measure => simp [intOf]; omega
      · go_wp2_with (go_at_fn g; refine (Hc.out).mono ?_; rintro e w' ⟨rfl, hb'⟩)
        go_ret
        refine ⟨ret_int ?_, hbw.via hb' hbw.size⟩
        exact (ixOf_some hpre.out Ht.out rfl).symm
    · go_wp2
      go_ret
      refine ⟨ret_int ?_, hbw⟩
      have : k = n := by omega
      subst this
      exact (ixOf_none (take_all hpre.out (by have := Hpl.out; omega))).symm

set_option maxHeartbeats 1000000 in
theorem ix85 (g : Nat) (cap : Array Value) (rows : List (Value × Value)) (bs : List Bool) (v : Value) (w : World) (hS : Sl w 2 v (rows.map c2)) (hp : PredOn g cap w rows bs) (hlen : rows.length < 1000000) :
    Calls Tryz.prog 75 #[v, .func (.func g) #[] cap] w (Ret (.int .i64 (ixOf (fun b => b) bs)) w) := by
  obtain ⟨a, cp, rfl, -, -⟩ := hS.open
  simp only [List.length_map] at *
  obtain ⟨eg, hpl, hp⟩ := hp
  generalize hn : rows.length = n at *
  have Hpl := Lib.hid hpl
  have Hp := Lib.hid hp
  clear hn hp hpl
  go_enter Tryz.func75, Tryz.ntmps75
  go_wp2
  go_loopw [5, 8] (fun _ i wr => ∃ k : Nat, k ≤ n ∧ i = .int .i64 k ∧ Below w.heap.size w wr ∧ Hid (∀ b ∈ bs.take k, b = false)) (fun _ i _ => n - (intOf i).toNat)
  case atStart => exact ⟨0, Nat.zero_le _, rfl, Below.refl _ _, by intro l hl; simp at hl⟩
  case round =>
    obtain ⟨k, hk, rfl, hbw, hpre⟩ := hrel
    by_cases hlt2 : k < n
    · obtain ⟨b, off, x, rfl, hxk, c0, c1⟩ := hS.at2 hbw hlt2
      obtain ⟨t, ht⟩ : ∃ t, bs[k]? = some t := ⟨bs[k]'(by have := Hpl.out; omega), by simp⟩
      have Ht := Lib.hid ht
      have Hc := Lib.hid (Hp.out wr hbw k x t hxk ht)
      clear hxk ht
      cases t
      · go_wp2_with (go_at_fn g; refine (Hc.out).mono ?_; rintro e w' ⟨rfl, hb'⟩)
        go_roundw
        case rel => exact ⟨k + 1, by omega, by go_num, hbw.via hb' hbw.size, take_succ_all hpre.out Ht.out rfl⟩
        case measure => simp [intOf]; omega
      · go_wp2_with (go_at_fn g; refine (Hc.out).mono ?_; rintro e w' ⟨rfl, hb'⟩)
        go_ret
        refine ⟨ret_int ?_, hbw.via hb' hbw.size⟩
        exact (ixOf_some hpre.out Ht.out rfl).symm
    · go_wp2
      go_ret
      refine ⟨ret_int ?_, hbw⟩
      have : k = n := by omega
      subst this
      exact (ixOf_none (take_all hpre.out (by have := Hpl.out; omega))).symm

set_option maxHeartbeats 1000000 in
theorem cf55 (g : Nat) (cap : Array Value) (rows : List (Value × Value)) (bs : List Bool) (v : Value) (w : World) (hS : Sl w 2 v (rows.map c2)) (hp : PredOn g cap w rows bs) (hlen : rows.length < 1000000) :
    Calls Tryz.prog 47 #[v, .func (.func g) #[] cap] w (Ret (.bool (bs.any (fun b => b))) w) := by
  have H := Lib.hid (ix67 g cap rows bs v w hS hp hlen)
  have hge := ixOf_ge (fun b : Bool => b) bs
  have E := Lib.hid (ixOf_any (fun b : Bool => b) bs)
  clear hp hS
  go_enter Tryz.func47, Tryz.ntmps47
  go_wp2_with (go_at_call 63; refine (H.out).mono ?_; rintro e w' ⟨rfl, hb'⟩)
  all_goals
    go_ret
    refine ⟨ret_bool ?_, hb'⟩
    rw [← E.out]

set_option maxHeartbeats 1000000 in
theorem cf71 (g : Nat) (cap : Array Value) (rows : List (Value × Value)) (bs : List Bool) (v : Value) (w : World) (hS : Sl w 2 v (rows.map c2)) (hp : PredOn g cap w rows bs) (hlen : rows.length < 1000000) :
    Calls Tryz.prog 58 #[v, .func (.func g) #[] cap] w (Ret (.bool (bs.any (fun b => b))) w) := by
  have H := Lib.hid (ix85 g cap rows bs v w hS hp hlen)
  have hge := ixOf_ge (fun b : Bool => b) bs
  have E := Lib.hid (ixOf_any (fun b : Bool => b) bs)
  clear hp hS
  go_enter Tryz.func58, Tryz.ntmps58
  go_wp2_with (go_at_call 75; refine (H.out).mono ?_; rintro e w' ⟨rfl, hb'⟩)
  all_goals
    go_ret
    refine ⟨ret_bool ?_, hb'⟩
    rw [← E.out]

end Go.Proofs.YtknpbcdmemlicaaGreatDoor
