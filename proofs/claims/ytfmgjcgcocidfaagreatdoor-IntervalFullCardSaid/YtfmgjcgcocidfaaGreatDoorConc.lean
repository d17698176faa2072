/-
  Two rows of parts joined.
-/
import Derived.Test.YtfmgjcgcocidfaaGreatDoorInts
import Derived.Test.YtfmgjcgcocidfaaGreatDoorLay
namespace Go.Proofs.YtfmgjcgcocidfaaGreatDoor
open Go.RowKit

theorem drewBelow (w : World) : Below w.heap.size w w.drew := ⟨rfl, rfl, rfl, Nat.le_refl _, fun _ _ => rfl⟩

theorem grow_any (n : Nat) (w : World) (hn : n ≤ 1000) : Calls Tryz.prog 61 #[.slice none 0 0, .int .i64 n] w (RetP (fun v w' => w'.ownsRow w.heap.size 54 14 v 0 [] ∧ ∃ a c, v = .slice a 0 c) w) := by
  have hi : (Tryz.prog.info? 54).map (fun i => (i.zero.map fun z => z.cells.size, i.size, i.bytes)) = some (some 14, 14, 192) := EP.info
  simp only [Option.map_eq_some_iff, Prod.mk.injEq] at hi
  obtain ⟨i, hi, ⟨z, hz, hzs⟩, hsize, hby⟩ := hi
  rcases Nat.eq_zero_or_pos n with rfl | hpos
  · have h := Any8.slices_Grow_room Tryz.growP none 0 0 0 w (by omega) (by omega) (by omega) (by omega)
    change Calls Tryz.prog 61 _ _ _ at h
    exact h.mono fun e w' ⟨he, hw⟩ => ⟨_, he, ⟨by subst hw; exact World.ownsRow_nil _ _ _ _, _, _, rfl⟩, by subst hw; exact Below.refl _ _⟩
  · have h := Any8.slices_Grow_grow Tryz.growP i z hi hz (by omega) none 0 0 n [] w (by omega) (by omega) (by rw [hby]; omega) (by omega) (by simp) (fun _ => rfl) (fun a ha => by cases ha)
    change Calls Tryz.prog 61 _ _ _ at h
    refine h.mono fun e w' ⟨he, hw⟩ => ?_
    subst hw
    have hblk := Blk.new w.drew (([] : List Value).toArray ++ Builtin.zeroCells z.cells (0 + n - 0) ++ Builtin.zeroCells z.cells (grownCap w (0 + n) 0 54 - (0 + n))) 54
    refine ⟨_, he, ⟨⟨rfl, .inr ⟨w.heap.size, _, _, rfl, Nat.le_refl _, hblk, Nat.zero_le _, grownCap_le_maxLen w _ _ _ (by unfold maxLen; omega), ?_, rfl⟩⟩, _, _, rfl⟩, (drewBelow w).alloc (Nat.le_refl _) _⟩
    have hge := grownCap_ge w (0 + n) 0 54
    show _ = grownCap w (0 + n) 0 54 * 14
    rw [Array.size_append, Array.size_append, size_zeroCells, size_zeroCells, hzs]
    show 0 + (0 + n - 0) * 14 + (grownCap w (0 + n) 0 54 - (0 + n)) * 14 = _
    omega

/-- Append of a row of parts. -/
theorem wpAppP {ops : Array Oper} {rest : List Oper} {o : Oper} {a : Act} {Q : Exit → Act → World → Prop} {W : World} (hgd : o.guard = none) (s x : Operand) (ho : o.op = .call { callee := .builtin .append, args := #[s, x], argTypes := #[43, 43] })
    (B n : Nat) (v : Value) (ps qs : List PP) (b off m c : Nat) (hs : a.eval s = v) (hx : a.eval x = .slice (some ⟨b, off, none⟩) m c) (hown : W.ownsRow B 54 14 v n ((ps.map PP.row).flatten)) (hq : Sl W 14 (.slice (some ⟨b, off, none⟩) m c) (qs.map PP.row)) (hn : n + m ≤ 1000) (hB : B ≤ W.heap.size)
    (h : ∀ v' w', w'.ownsRow B 54 14 v' (n + m) (((ps ++ qs).map PP.row).flatten) → W.grownBy w' v.ownBlock → wpList Tryz.prog ops Q rest (a.put o.dst v') w') : wpList Tryz.prog ops Q (o :: rest) a W := by
  have hi := EP.info
  simp only [Option.map_eq_some_iff, Prod.mk.injEq] at hi
  obtain ⟨i, hi, ⟨z, hz, hzs⟩, hsize, hby⟩ := hi
  have hrl : ∀ r ∈ qs.map PP.row, r.length = 14 := fun r hr => by obtain ⟨p, _, rfl⟩ := List.mem_map.1 hr; rfl
  have hm : (qs.map PP.row).length = m := by
    obtain ⟨_, _, hv, _⟩ := hq.open
    cases hv
    rfl
  refine wpList_append_own _ hgd s x 43 ho B 54 i z 14 192 EP.und hi hz hsize hby hzs (by decide) v n _ hs hown ⟨b, off, none⟩ m c ((qs.map PP.row).flatten) hx (by rw [flat_len hrl, hm]) (hq.flat hrl (by decide)) ?_ (by unfold maxLen; omega) (by omega) hB (fun v' w' a1 a2 _ => h v' w' (by rw [List.map_append, List.flatten_append]; exact a1) a2)
  intro u hu
  obtain ⟨r, hr, hu⟩ := List.mem_flatten.1 hu
  obtain ⟨p, _, rfl⟩ := List.mem_map.1 hr
  exact one14 p u hu

/-- Append of no part. -/
theorem wpAppZ {ops : Array Oper} {rest : List Oper} {o : Oper} {a : Act} {Q : Exit → Act → World → Prop} {W : World} (hgd : o.guard = none) (s x : Operand) (ho : o.op = .call { callee := .builtin .append, args := #[s, x], argTypes := #[43, 43] })
    (b d : Option Addr) (k cap c m : Nat) (hm : m = 0) (hs : a.eval s = .slice b k cap) (hx : a.eval x = .slice d m c) (hk : k ≤ cap) (h : wpList Tryz.prog ops Q rest (a.put o.dst (.slice b k cap)) W) : wpList Tryz.prog ops Q (o :: rest) a W := by
  subst hm
  have hi := EP.info
  simp only [Option.map_eq_some_iff, Prod.mk.injEq] at hi
  obtain ⟨i, hi, ⟨z, hz, hzs⟩, hsize, hby⟩ := hi
  have hr : (Builtin.append_ #[43, 43] o.type #[.slice b k cap, .slice d 0 c]).run Tryz.prog W = .ok (.slice b k cap) W := by
    cases b <;> cases d <;> simp [Builtin.append_, run_underlying EP.und, sizeOf, typeInfo, hi, Builtin.lenOf, Builtin.firstCells, loadCells, loadCellsFrom, hk, storeCells]
  refine wpList_plain hgd fun _ hK => ?_
  unfold Oper.wp execOp
  simp only [ho, resolve, invoke, builtin, Sem.run_bind, Sem.run_pure, Result.andThen_ok, List.map_toArray, List.map_cons, List.map_nil, hs, hx, hr]
  exact hK _ _ h

set_option maxHeartbeats 4000000 in
theorem concat_any (b : Nat) (c : Nat) (x y : Value) (px py : List PP) (w : World) (hB : Blk w b #[x, y] 43) (hx : Parts w x px) (hy : Parts w y py) (hnx : px.length ≤ 300) (hny : py.length ≤ 300) :
    Calls Tryz.prog 38 #[.slice (some ⟨b, 0, none⟩) 2 c] w (RetP (fun v w' => w'.ownsRow w.heap.size 54 14 v (px.length + py.length) (((px ++ py).map PP.row).flatten)) w) := by
  obtain ⟨ax, cx, rfl, hcx, -⟩ := hx.open
  obtain ⟨ay, cy, rfl, hcy, -⟩ := hy.open
  have HX := Lib.hid hx.1
  have HY := Lib.hid hy.1
  have HC := Lib.hid (fun w' (hb : Below w.heap.size w w') => (blk2v (hB.below hb)).1)
  obtain ⟨n, hn⟩ : ∃ n, px.length = n := ⟨_, rfl⟩
  obtain ⟨m, hm⟩ : ∃ m, py.length = m := ⟨_, rfl⟩
  rw [hn] at HX HC hnx ⊢
  rw [hm] at HY HC hny ⊢
  have hcap := hB.cell
  have HG := Lib.hid (fun w' => grow_any (n + m) w' (by omega))
  have e1 : IntKind.i64.wrap ((n : Int) + (m : Int)) = (n : Int) + (m : Int) := IntWalk.i64_in _ (by omega)
  have e2 : ((n + m : Nat) : Int) = (n : Int) + (m : Int) := by omega
  have e3 : ¬ (n : Int) < 0 := by omega
  have e4 : ¬ (n : Int) + (m : Int) < 0 := by omega
  have e5 : IntKind.i64.wrap (n : Int) = (n : Int) := IntWalk.i64_in _ (by omega)
  rw [e2] at HG
  have HN := Lib.hid (And.intro hn hm)
  clear hx hy hB hn hm hcap
  go_enter Tryz.func38, Tryz.ntmps38
  go_wp2_with fail
  go_loopw [11, 3, 5] (fun i s _ wr => Below w.heap.size w wr ∧ ((i = .int .i64 0 ∧ s = .int .i64 0) ∨ (i = .int .i64 1 ∧ s = .int .i64 n) ∨ (i = .int .i64 2 ∧ s = .int .i64 ((n : Int) + (m : Int))))) (fun i _ _ _ => 2 - (intOf i).toNat)
  case atStart => exact ⟨Below.refl _ _, .inl ⟨rfl, rfl⟩⟩
  case round =>
    obtain ⟨hbw, ⟨rfl, rfl⟩ | ⟨rfl, rfl⟩ | ⟨rfl, rfl⟩⟩ := hrel
    · obtain ⟨c0, c1⟩ := HC.out _ hbw
      go_wp2_with fail
      go_roundw
      case rel => exact ⟨hbw, .inr (.inl ⟨by go_num, by go_num⟩)⟩
      case measure => simp [intOf]
    · obtain ⟨c0, c1⟩ := HC.out _ hbw
      go_wp2_with fail
      go_roundw
      case rel => exact ⟨hbw, .inr (.inr ⟨by go_num, by go_num⟩)⟩
      case measure => simp [intOf]
    · have Hbw := Lib.hid hbw
      clear hbw
      go_wp2_with (go_at_call 61; refine (HG.out _).mono ?_; rintro e w1 ⟨v1, rfl, ⟨hown, a1, c1', rfl⟩, hb1⟩; have Hown := Lib.hid hown; have Hb1 := Lib.hid hb1; clear hown hb1)
      go_loopw [27, 6, 8] (fun i out _ wr => Below w.heap.size w wr ∧ ((i = .int .i64 0 ∧ wr.ownsRow w.heap.size 54 14 out 0 ((([] : List PP).map PP.row).flatten)) ∨ (i = .int .i64 1 ∧ wr.ownsRow w.heap.size 54 14 out n ((px.map PP.row).flatten)) ∨ (i = .int .i64 2 ∧ wr.ownsRow w.heap.size 54 14 out (n + m) (((px ++ py).map PP.row).flatten)))) (fun i _ _ _ => 2 - (intOf i).toNat)
      case atStart => exact ⟨bw_via Hbw.out Hb1.out, .inl ⟨rfl, own_base Hown.out Hbw.out.size⟩⟩
      case round =>
        obtain ⟨hbw, ⟨rfl, hown⟩ | ⟨rfl, hown⟩ | ⟨rfl, hown⟩⟩ := hrel
        · obtain ⟨c0, c1⟩ := HC.out _ hbw
          obtain ⟨ao, co, rfl, hco, -⟩ := own_open hown
          have hkc : (0 : Int) + 0 ≤ (co : Int) := by omega
          rcases Nat.eq_zero_or_pos n with hz | hpos
          · have HZ := Lib.hid hz
            clear hz
            go_wp2_with (at_builtin; refine wpAppZ rfl _ _ rfl _ _ 0 co _ n HZ.out rfl rfl (by omega) ?_)
            go_roundw
            case rel => exact ⟨hbw, .inr (.inl ⟨by go_num, by have hp : px = [] := List.eq_nil_of_length_eq_zero (HN.out.1.trans HZ.out); rw [hp, HZ.out]; exact hown⟩)⟩
            case measure => simp [intOf]
          · obtain ⟨bb, off, rfl⟩ : ∃ bb off, ax = some ⟨bb, off, none⟩ := by
              obtain ⟨b', off, ha, _⟩ := Sl.row HX.out (Below.refl _ _) hpos
              exact ⟨b', off, ha⟩
            go_wp2_with (at_builtin; refine wpAppP rfl _ _ rfl w.heap.size (0) _ ([]) (px) bb off n cx rfl rfl hown (Sl.mono HX.out hbw) (by omega) hbw.size ?_; intro v' w5 hown' hg'; have hbw3 := Below.grown hbw hg' hbw.size (fun k hk => (hown.lt k hk).1))
            go_roundw
            case rel => exact ⟨hbw3, .inr (.inl ⟨by go_num, by simpa using hown'⟩)⟩
            case measure => simp [intOf]
        · obtain ⟨c0, c1⟩ := HC.out _ hbw
          obtain ⟨ao, co, rfl, hco, -⟩ := own_open hown
          have hkc : (n : Int) + 0 ≤ (co : Int) := by omega
          rcases Nat.eq_zero_or_pos m with hz | hpos
          · have HZ := Lib.hid hz
            clear hz
            go_wp2_with (at_builtin; refine wpAppZ rfl _ _ rfl _ _ n co _ m HZ.out rfl rfl (by omega) ?_)
            go_roundw
            case rel => exact ⟨hbw, .inr (.inr ⟨by go_num, by have hp : py = [] := List.eq_nil_of_length_eq_zero (HN.out.2.trans HZ.out); rw [hp, HZ.out, List.append_nil]; exact hown⟩)⟩
            case measure => simp [intOf]
          · obtain ⟨bb, off, rfl⟩ : ∃ bb off, ay = some ⟨bb, off, none⟩ := by
              obtain ⟨b', off, ha, _⟩ := Sl.row HY.out (Below.refl _ _) hpos
              exact ⟨b', off, ha⟩
            go_wp2_with (at_builtin; refine wpAppP rfl _ _ rfl w.heap.size (n) _ (px) (py) bb off m cy rfl rfl hown (Sl.mono HY.out hbw) (by omega) hbw.size ?_; intro v' w5 hown' hg'; have hbw3 := Below.grown hbw hg' hbw.size (fun k hk => (hown.lt k hk).1))
            go_roundw
            case rel => exact ⟨hbw3, .inr (.inr ⟨by go_num, hown'⟩)⟩
            case measure => simp [intOf]
        · obtain ⟨c0, c1⟩ := HC.out _ hbw
          go_wp2_with fail
          go_ret
          exact ⟨_, rfl, hown, hbw⟩

end Go.Proofs.YtfmgjcgcocidfaaGreatDoor
