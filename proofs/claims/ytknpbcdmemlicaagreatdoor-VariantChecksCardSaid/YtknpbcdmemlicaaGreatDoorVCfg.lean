/-
  The program's configurations: on, holds, satisfies, violated.
-/
import Derived.Test.YtknpbcdmemlicaaGreatDoorVIx
namespace Go.Proofs.YtknpbcdmemlicaaGreatDoor
open Go.RowKit

set_option maxHeartbeats 400000 in
theorem on_any (c : Int) (i : Int) (w : World) (h0 : 0 ≤ i) (h1 : i ≤ 11) (hc : 0 ≤ c) (hc2 : c < 18446744073709551616) :
    Calls Tryz.prog 35 #[.int .u64 c, .int .i64 i] w (Ret (.bool (bitB c i)) w) := by
  have hp : (0 : Int) < 2 ^ (11 - i).toNat := Int.pow_pos (by omega)
  have e := and_one_u64 (c / 2 ^ (11 - i).toNat) (Int.ediv_nonneg hc (by omega)) (Int.lt_of_le_of_lt (Int.ediv_le_self _ hc) hc2)
  have E := Lib.hid e
  clear e hp
  unfold Ret
  go_enter Tryz.func35, Tryz.ntmps35
  go_wp2
  go_ret
  refine ⟨?_, Below.refl _ _⟩
  simp [E.out, bitB]

set_option maxHeartbeats 400000 in
theorem holds1_any (c : Int) (i : Int) (b : Bool) (B : Nat) (w : World) (h0 : 0 ≤ i) (h1 : i ≤ 11) (hc : 0 ≤ c) (hc2 : c < 18446744073709551616)
    (hB : w.cell? ⟨B, 0, none⟩ = some (.int .u64 c)) :
    Calls Tryz.prog 65 #[.agg #[.int .i64 i, .bool b], .pointer (some ⟨B, 0, none⟩)] w (Ret (.bool (!(bitB c i == b))) w) := by
  have hBl := blt hB
  have on := on_any c i
  have H := Lib.hid on; clear on
  go_enter Tryz.func65, Tryz.ntmps65
  go_wp2
  refine wp_region_wld (by kernel_rfl) (by kernel_rfl) ?_
  have hw := @wld_cell (w.alloc (Obj.cells #[Value.int IntKind.i64 i, Value.bool b] 73))
  repeat (go_big_quiet_step ((go_at_call 35; exact wld_call (H.out _ h0 h1 hc hc2))))
  refine wpQuiet_nil ?_
  intro _ hw'
  obtain ⟨x, hx⟩ := hw'
  subst hx
  clear hw
  go_wp2
  go_ret
  exact ⟨rfl, ((Below.refl _ _).alloc (Nat.le_refl _) _).trans (x.below.mono (by simp))⟩

theorem enters73 : ∀ args w, (callFunc 65 args).run Tryz.prog w = .ok (.enter 65 args) w := enters_of Tryz.func65 (by kernel_rfl) rfl

theorem pred73 (c : Int) (ls : List Lit1) (B : Nat) (w : World) (hok : LitsOk 12 ls) (hc : 0 ≤ c) (hc2 : c < 18446744073709551616)
    (hB : w.cell? ⟨B, 0, none⟩ = some (.int .u64 c)) : PredOn 65 #[.pointer (some ⟨B, 0, none⟩)] w (ls.map litV) (ls.map fun l => !(bitB c l.1 == l.2)) := by
  refine ⟨enters73, by simp, fun w' hb k r b hr hbk => ?_⟩
  simp only [List.getElem?_map, Option.map_eq_some_iff] at hr hbk
  obtain ⟨l, hl, rfl⟩ := hr
  obtain ⟨l', hl', rfl⟩ := hbk
  rw [hl] at hl'
  obtain rfl : l = l' := by simpa using hl'
  have := hok l (List.mem_of_getElem? hl)
  exact holds1_any c l.1 l.2 B w' this.1 (by omega) hc hc2 (cell_le hB hb)

theorem any_not_all (ls : List Lit1) (c : Int) : (!(List.map (fun l : Lit1 => !(bitB c l.1 == l.2)) ls).any (fun b => b)) = cHolds c ls := by
  unfold cHolds
  induction ls with
  | nil => rfl
  | cons l ls ih => simp only [List.map_cons, List.any_cons, List.all_cons, Bool.not_or, ih, Bool.not_not]

set_option maxHeartbeats 400000 in
theorem holds_any (c : Int) (ls : List Lit1) (v : Value) (w : World) (hS : Lits w v ls) (hok : LitsOk 12 ls) (hlen : ls.length < 1000) (hc : 0 ≤ c) (hc2 : c < 18446744073709551616) :
    Calls Tryz.prog 55 #[.int .u64 c, v] w (Ret (.bool (cHolds c ls)) w) := by
  have hb0 := below1 w (.cells #[.int .u64 c] 88)
  have H := Lib.hid (cf55 65 #[.pointer (some ⟨w.heap.size, 0, none⟩)] (ls.map litV) _ v (w.alloc (.cells #[.int .u64 c] 88)) (hS.mono hb0) (pred73 c ls w.heap.size _ hok hc hc2 (by simp)) (by simp; omega))
  clear hb0 hS
  go_enter Tryz.func55, Tryz.ntmps55
  go_wp2_with (go_at_call 47; refine (H.out).mono ?_; rintro e w' ⟨rfl, hb'⟩)
  go_ret
  exact ⟨ret_bool (by simpa using any_not_all ls c), (below1 w _).via hb' (by simp)⟩

/-- One row of two cells in a new block. -/
theorem Sl.one2 (w : World) (x : Value × Value) (T : TypeId) : Sl (w.alloc (.cells #[x.1, x.2] T)) 2 (.slice (some ⟨w.heap.size, 0, none⟩) 1 1) [c2 x] := by
  refine ⟨_, 1, rfl, Nat.le_refl _, by decide, .inr ⟨w.heap.size, 0, rfl, by simp, fun i j hi hj => ?_⟩⟩
  obtain rfl : i = 0 := by simpa using hi
  rcases j with _ | _ | j
  · simp [c2]
  · simp [c2]
  · omega

set_option maxHeartbeats 400000 in
theorem sat1_any (c : Int) (i : Int) (b : Bool) (B : Nat) (w : World) (h0 : 0 ≤ i) (h1 : i < 12) (hc : 0 ≤ c) (hc2 : c < 18446744073709551616)
    (hB : w.cell? ⟨B, 0, none⟩ = some (.int .u64 c)) :
    Calls Tryz.prog 62 #[.agg #[.int .i64 i, .bool b], .pointer (some ⟨B, 0, none⟩)] w (Ret (.bool (bitB c i == b)) w) := by
  have hBl := blt hB
  have hL : Lits ((w.alloc (.cells #[.int .i64 i, .bool b] 73)).alloc (.cells #[.int .i64 i, .bool b] 73)) (.slice (some ⟨w.heap.size + 1, 0, none⟩) 1 1) [(i, b)] := by
    have := Sl.one2 (w.alloc (.cells #[.int .i64 i, .bool b] 73)) (litV (i, b)) 73
    simpa [Lits, litV] using this
  have H := Lib.hid (holds_any c [(i, b)] _ _ hL (by intro l hl; simp at hl; subst hl; exact ⟨h0, h1⟩) (by simp) hc hc2)
  clear hL
  go_enter Tryz.func62, Tryz.ntmps62
  go_wp2_with (go_at_call 55; refine (H.out).mono ?_; rintro e w' ⟨rfl, hb'⟩)
  go_ret
  exact ⟨ret_bool (by simp [cHolds]), (below2 w _ _).via hb' (by simp; omega)⟩

theorem enters66 : ∀ args w, (callFunc 62 args).run Tryz.prog w = .ok (.enter 62 args) w := enters_of Tryz.func62 (by kernel_rfl) rfl

theorem pred66 (c : Int) (ls : List Lit1) (B : Nat) (w : World) (hok : LitsOk 12 ls) (hc : 0 ≤ c) (hc2 : c < 18446744073709551616)
    (hB : w.cell? ⟨B, 0, none⟩ = some (.int .u64 c)) : PredOn 62 #[.pointer (some ⟨B, 0, none⟩)] w (ls.map litV) (ls.map fun l => bitB c l.1 == l.2) := by
  refine ⟨enters66, by simp, fun w' hb k r b hr hbk => ?_⟩
  simp only [List.getElem?_map, Option.map_eq_some_iff] at hr hbk
  obtain ⟨l, hl, rfl⟩ := hr
  obtain ⟨l', hl', rfl⟩ := hbk
  rw [hl] at hl'
  obtain rfl : l = l' := by simpa using hl'
  have := hok l (List.mem_of_getElem? hl)
  exact sat1_any c l.1 l.2 B w' this.1 (by omega) hc hc2 (cell_le hB hb)

set_option maxHeartbeats 400000 in
theorem sat_any (c : Int) (ls : List Lit1) (nm v : Value) (w : World) (hS : Lits w v ls) (hok : LitsOk 12 ls) (hlen : ls.length < 1000) (hc : 0 ≤ c) (hc2 : c < 18446744073709551616) :
    Calls Tryz.prog 45 #[.int .u64 c, .agg #[nm, v]] w (Ret (.bool (cSat c ls)) w) := by
  have hb0 := below2 w (.cells #[.int .u64 c] 88) (.cells #[nm, v] 40)
  have H := Lib.hid (cf55 62 #[.pointer (some ⟨w.heap.size, 0, none⟩)] (ls.map litV) _ v ((w.alloc (.cells #[.int .u64 c] 88)).alloc (.cells #[nm, v] 40)) (hS.mono hb0) (pred66 c ls w.heap.size _ hok hc hc2 (by simp)) (by simp; omega))
  clear hb0 hS
  go_enter Tryz.func45, Tryz.ntmps45
  go_wp2_with (go_at_call 47; refine (H.out).mono ?_; rintro e w' ⟨rfl, hb'⟩)
  go_ret
  exact ⟨ret_bool (by simp [cSat, Function.comp_def]), (below2 w _ _).via hb' (by simp; omega)⟩

set_option maxHeartbeats 400000 in
theorem viol1_any (c : Int) (ls : List Lit1) (nm v : Value) (B : Nat) (w : World) (hS : Lits w v ls) (hok : LitsOk 12 ls) (hlen : ls.length < 1000) (hc : 0 ≤ c) (hc2 : c < 18446744073709551616)
    (hB : w.cell? ⟨B, 0, none⟩ = some (.int .u64 c)) :
    Calls Tryz.prog 54 #[.agg #[nm, v], .pointer (some ⟨B, 0, none⟩)] w (Ret (.bool (!cSat c ls)) w) := by
  have hBl := blt hB
  have H := Lib.hid (sat_any c ls nm v _ (hS.mono (below1 w (.cells #[nm, v] 40))) hok hlen hc hc2)
  clear hS
  go_enter Tryz.func54, Tryz.ntmps54
  go_wp2_with (go_at_call 45; refine (H.out).mono ?_; rintro e w' ⟨rfl, hb'⟩)
  go_ret
  exact ⟨rfl, (below1 w _).via hb' (by simp)⟩

theorem enters69 : ∀ args w, (callFunc 54 args).run Tryz.prog w = .ok (.enter 54 args) w := enters_of Tryz.func54 (by kernel_rfl) rfl

theorem pred69 (c : Int) (rv : List (Value × Value)) (rs : List Rule1) (B : Nat) (w : World) (hok : RulesOk 12 rs) (hlen : rv.length = rs.length)
    (hr : ∀ (k : Nat) (x : Value × Value) (r : Rule1), rv[k]? = some x → rs[k]? = some r → x.1 = .string r.1 ∧ Lits w x.2 r.2) (hc : 0 ≤ c) (hc2 : c < 18446744073709551616)
    (hB : w.cell? ⟨B, 0, none⟩ = some (.int .u64 c)) : PredOn 54 #[.pointer (some ⟨B, 0, none⟩)] w rv (rs.map fun r => !cSat c r.2) := by
  refine ⟨enters69, by simpa using hlen, fun w' hb k x b hx hbk => ?_⟩
  simp only [List.getElem?_map, Option.map_eq_some_iff] at hbk
  obtain ⟨r, hrk, rfl⟩ := hbk
  have := hok r (List.mem_of_getElem? hrk)
  exact viol1_any c r.2 x.1 x.2 B w' ((hr k x r hx hrk).2.mono hb) this.1 this.2 hc hc2 (cell_le hB hb)

set_option maxHeartbeats 400000 in
theorem violated_any (c : Int) (rs : List Rule1) (v : Value) (w : World) (hS : Rules w v rs) (hok : RulesOk 12 rs) (hlen : rs.length < 1000) (hc : 0 ≤ c) (hc2 : c < 18446744073709551616) :
    Calls Tryz.prog 28 #[.int .u64 c, v] w (Ret (.int .i64 (cBroken c rs)) w) := by
  have hb0 := below1 w (.cells #[.int .u64 c] 88)
  obtain ⟨rv, h1, h2, h3⟩ := hS.mono hb0
  have H := Lib.hid (ix48 54 #[.pointer (some ⟨w.heap.size, 0, none⟩)] rv _ v (w.alloc (.cells #[.int .u64 c] 88)) h1 (pred69 c rv rs w.heap.size _ hok h2 h3 hc hc2 (by simp)) (by omega))
  clear hb0 hS h1 h2 h3
  go_enter Tryz.func28, Tryz.ntmps28
  go_wp2_with (go_at_call 38; refine (H.out).mono ?_; rintro e w' ⟨rfl, hb'⟩)
  go_ret
  exact ⟨ret_int (by simp [cBroken, ixOf_map]), (below1 w _).via hb' (by simp)⟩

end Go.Proofs.YtknpbcdmemlicaaGreatDoor
