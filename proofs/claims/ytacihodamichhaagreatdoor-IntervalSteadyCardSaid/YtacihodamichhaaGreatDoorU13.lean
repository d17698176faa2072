/-
  Parts of the proof: Conc, Sort, Comp.
-/
import Derived.Test.YtacihodamichhaaGreatDoorU12
namespace Go.Proofs.YtacihodamichhaaGreatDoor
open Go.RowKit
theorem drewBelow (w : World) : Below w.heap.size w w.drew := ⟨rfl, rfl, rfl, Nat.le_refl _, fun _ _ => rfl⟩
theorem grow_any (n : Nat) (w : World) (hn : n ≤ 1000) : Calls Tryz.prog 170 #[.slice none 0 0, .int .i64 n] w (RetP (fun v w' => w'.ownsRow w.heap.size 84 14 v 0 [] ∧ ∃ a c, v = .slice a 0 c) w) := by
 have hi : (Tryz.prog.info? 84).map (fun i => (i.zero.map fun z => z.cells.size, i.size, i.bytes)) = some (some 14, 14, 192) := EP.info
 simp only [Option.map_eq_some_iff, Prod.mk.injEq] at hi
 obtain ⟨i, hi, ⟨z, hz, hzs⟩, hsize, hby⟩ := hi
 rcases Nat.eq_zero_or_pos n with rfl | hpos
 ·have h := Any8.slices_Grow_room Tryz.growP none 0 0 0 w (by omega) (by omega) (by omega) (by omega)
  change Calls Tryz.prog 170 _ _ _ at h
  exact h.mono fun e w' ⟨he, hw⟩ => ⟨_, he, ⟨by subst hw; exact World.ownsRow_nil _ _ _ _, _, _, rfl⟩, by subst hw; exact Below.refl _ _⟩
 ·have h := Any8.slices_Grow_grow Tryz.growP i z hi hz (by omega) none 0 0 n [] w (by omega) (by omega) (by rw [hby]; omega) (by omega) (by simp) (fun _ => rfl) (fun a ha => by cases ha)
  change Calls Tryz.prog 170 _ _ _ at h
  refine h.mono fun e w' ⟨he, hw⟩ => ?_
  subst hw
  have hblk := Blk.new w.drew (([] : List Value).toArray ++ Builtin.zeroCells z.cells (0 + n - 0) ++ Builtin.zeroCells z.cells (grownCap w (0 + n) 0 84 - (0 + n))) 84
  refine ⟨_, he, ⟨⟨rfl, .inr ⟨w.heap.size, _, _, rfl, Nat.le_refl _, hblk, Nat.zero_le _, grownCap_le_maxLen w _ _ _ (by unfold maxLen; omega), ?_, rfl⟩⟩, _, _, rfl⟩, (drewBelow w).alloc (Nat.le_refl _) _⟩
  have hge := grownCap_ge w (0 + n) 0 84
  show _ = grownCap w (0 + n) 0 84 * 14
  rw [Array.size_append, Array.size_append, size_zeroCells, size_zeroCells, hzs]
  show 0 + (0 + n - 0) * 14 + (grownCap w (0 + n) 0 84 - (0 + n)) * 14 = _
  omega
theorem wpAppP {ops : Array Oper} {rest : List Oper} {o : Oper} {a : Act} {Q : Exit → Act → World → Prop} {W : World} (hgd : o.guard = none) (s x : Operand) (ho : o.op = .call { callee := .builtin .append, args := #[s, x], argTypes := #[80, 80] })
  (B n : Nat) (v : Value) (ps qs : List PP) (b off m c : Nat) (hs : a.eval s = v) (hx : a.eval x = .slice (some ⟨b, off, none⟩) m c) (hown : W.ownsRow B 84 14 v n ((ps.map PP.row).flatten)) (hq : Sl W 14 (.slice (some ⟨b, off, none⟩) m c) (qs.map PP.row)) (hn : n + m ≤ 1000) (hB : B ≤ W.heap.size)
  (h : ∀ v' w', w'.ownsRow B 84 14 v' (n + m) (((ps ++ qs).map PP.row).flatten) → W.grownBy w' v.ownBlock → wpList Tryz.prog ops Q rest (a.put o.dst v') w') : wpList Tryz.prog ops Q (o :: rest) a W := by
 have hi := EP.info
 simp only [Option.map_eq_some_iff, Prod.mk.injEq] at hi
 obtain ⟨i, hi, ⟨z, hz, hzs⟩, hsize, hby⟩ := hi
 have hrl : ∀ r ∈ qs.map PP.row, r.length = 14 := fun r hr => by obtain ⟨p, _, rfl⟩ := List.mem_map.1 hr; rfl
 have hm : (qs.map PP.row).length = m := by
  obtain ⟨_, _, hv, _⟩ := hq.open
  cases hv
  rfl
 refine wpList_append_own _ hgd s x 80 ho B 84 i z 14 192 EP.und hi hz hsize hby hzs (by decide) v n _ hs hown ⟨b, off, none⟩ m c ((qs.map PP.row).flatten) hx (by rw [flat_len hrl, hm]) (hq.flat hrl (by decide)) ?_ (by unfold maxLen; omega) (by omega) hB (fun v' w' a1 a2 _ => h v' w' (by rw [List.map_append, List.flatten_append]; exact a1) a2)
 intro u hu
 obtain ⟨r, hr, hu⟩ := List.mem_flatten.1 hu
 obtain ⟨p, _, rfl⟩ := List.mem_map.1 hr
 exact one14 p u hu
theorem wpAppZ {ops : Array Oper} {rest : List Oper} {o : Oper} {a : Act} {Q : Exit → Act → World → Prop} {W : World} (hgd : o.guard = none) (s x : Operand) (ho : o.op = .call { callee := .builtin .append, args := #[s, x], argTypes := #[80, 80] })
  (b d : Option Addr) (k cap c m : Nat) (hm : m = 0) (hs : a.eval s = .slice b k cap) (hx : a.eval x = .slice d m c) (hk : k ≤ cap) (h : wpList Tryz.prog ops Q rest (a.put o.dst (.slice b k cap)) W) : wpList Tryz.prog ops Q (o :: rest) a W := by
 subst hm
 have hi := EP.info
 simp only [Option.map_eq_some_iff, Prod.mk.injEq] at hi
 obtain ⟨i, hi, ⟨z, hz, hzs⟩, hsize, hby⟩ := hi
 have hr : (Builtin.append_ #[80, 80] o.type #[.slice b k cap, .slice d 0 c]).run Tryz.prog W = .ok (.slice b k cap) W := by
  cases b <;> cases d <;> simp [Builtin.append_, run_underlying EP.und, sizeOf, typeInfo, hi, Builtin.lenOf, Builtin.firstCells, loadCells, loadCellsFrom, hk, storeCells]
 refine wpList_plain hgd fun _ hK => ?_
 unfold Oper.wp execOp
 simp only [ho, resolve, invoke, builtin, Sem.run_bind, Sem.run_pure, Result.andThen_ok, List.map_toArray, List.map_cons, List.map_nil, hs, hx, hr]
 exact hK _ _ h
set_option maxHeartbeats 4000000 in
theorem concat_any (b : Nat) (c : Nat) (x y : Value) (px py : List PP) (w : World) (hB : Blk w b #[x, y] 80) (hx : Parts w x px) (hy : Parts w y py) (hnx : px.length ≤ 300) (hny : py.length ≤ 300) :
  Calls Tryz.prog 132 #[.slice (some ⟨b, 0, none⟩) 2 c] w (RetP (fun v w' => w'.ownsRow w.heap.size 84 14 v (px.length + py.length) (((px ++ py).map PP.row).flatten)) w) := by
 obtain ⟨ax, cx, rfl, hcx, -⟩ := hx.open
 obtain ⟨ay, cy, rfl, hcy, -⟩ := hy.open
 have HX := hI hx.1
 have HY := hI hy.1
 have HC := hI (fun w' (hb : Below w.heap.size w w') => (blk2v (hB.below hb)).1)
 obtain ⟨n, hn⟩ : ∃ n, px.length = n := ⟨_, rfl⟩
 obtain ⟨m, hm⟩ : ∃ m, py.length = m := ⟨_, rfl⟩
 rw [hn] at HX HC hnx ⊢
 rw [hm] at HY HC hny ⊢
 have hcap := hB.cell
 have HG := hI (fun w' => grow_any (n + m) w' (by omega))
 have e1 : IntKind.i64.wrap ((n : Int) + (m : Int)) = (n : Int) + (m : Int) := IntWalk.i64_in _ (by omega)
 have e2 : ((n + m : Nat) : Int) = (n : Int) + (m : Int) := by omega
 have e3 : ¬ (n : Int) < 0 := by omega
 have e4 : ¬ (n : Int) + (m : Int) < 0 := by omega
 have e5 : IntKind.i64.wrap (n : Int) = (n : Int) := IntWalk.i64_in _ (by omega)
 rw [e2] at HG
 have HN := hI (And.intro hn hm)
 clear hx hy hB hn hm hcap
 go_enter Tryz.func132, Tryz.ntmps132
 go_wp2_with fail
 go_loopw [11, 3, 5] (fun i s _ wr => Below w.heap.size w wr ∧ ((i = .int .i64 0 ∧ s = .int .i64 0) ∨ (i = .int .i64 1 ∧ s = .int .i64 n) ∨ (i = .int .i64 2 ∧ s = .int .i64 ((n : Int) + (m : Int))))) (fun i _ _ _ => 2 - (intOf i).toNat)
 case atStart => exact ⟨Below.refl _ _, .inl ⟨rfl, rfl⟩⟩
 case round =>
  obtain ⟨hbw, ⟨rfl, rfl⟩ | ⟨rfl, rfl⟩ | ⟨rfl, rfl⟩⟩ := hrel
  ·obtain ⟨c0, c1⟩ := HC.out _ hbw
   go_wp2_with fail
   go_roundw
   case rel => exact ⟨hbw, .inr (.inl ⟨by go_num, by go_num⟩)⟩
   case measure => simp [intOf]
  ·obtain ⟨c0, c1⟩ := HC.out _ hbw
   go_wp2_with fail
   go_roundw
   case rel => exact ⟨hbw, .inr (.inr ⟨by go_num, by go_num⟩)⟩
   case measure => simp [intOf]
  ·have Hbw := hI hbw
   clear hbw
   go_wp2_with (go_at_call 170; refine (HG.out _).mono ?_; rintro e w1 ⟨v1, rfl, ⟨hown, a1, c1', rfl⟩, hb1⟩; have Hown := hI hown; have Hb1 := hI hb1; clear hown hb1)
   go_loopw [27, 6, 8] (fun i out _ wr => Below w.heap.size w wr ∧ ((i = .int .i64 0 ∧ wr.ownsRow w.heap.size 84 14 out 0 ((([] : List PP).map PP.row).flatten)) ∨ (i = .int .i64 1 ∧ wr.ownsRow w.heap.size 84 14 out n ((px.map PP.row).flatten)) ∨ (i = .int .i64 2 ∧ wr.ownsRow w.heap.size 84 14 out (n + m) (((px ++ py).map PP.row).flatten)))) (fun i _ _ _ => 2 - (intOf i).toNat)
   case atStart => exact ⟨bw_via Hbw.out Hb1.out, .inl ⟨rfl, own_base Hown.out Hbw.out.size⟩⟩
   case round =>
    obtain ⟨hbw, ⟨rfl, hown⟩ | ⟨rfl, hown⟩ | ⟨rfl, hown⟩⟩ := hrel
    ·obtain ⟨c0, c1⟩ := HC.out _ hbw
     obtain ⟨ao, co, rfl, hco, -⟩ := own_open hown
     have hkc : (0 : Int) + 0 ≤ (co : Int) := by omega
     rcases Nat.eq_zero_or_pos n with hz | hpos
     ·have HZ := hI hz
      clear hz
      go_wp2_with (at_builtin; refine wpAppZ rfl _ _ rfl _ _ 0 co _ n HZ.out rfl rfl (by omega) ?_)
      go_roundw
      case rel => exact ⟨hbw, .inr (.inl ⟨by go_num, by have hp : px = [] := List.eq_nil_of_length_eq_zero (HN.out.1.trans HZ.out); rw [hp, HZ.out]; exact hown⟩)⟩
      case measure => simp [intOf]
     ·obtain ⟨bb, off, rfl⟩ : ∃ bb off, ax = some ⟨bb, off, none⟩ := by
       obtain ⟨b', off, ha, _⟩ := Sl.row HX.out (Below.refl _ _) hpos
       exact ⟨b', off, ha⟩
      go_wp2_with (at_builtin; refine wpAppP rfl _ _ rfl w.heap.size (0) _ ([]) (px) bb off n cx rfl rfl hown (Sl.mono HX.out hbw) (by omega) hbw.size ?_; intro v' w5 hown' hg'; have hbw3 := Below.grown hbw hg' hbw.size (fun k hk => (hown.lt k hk).1))
      go_roundw
      case rel => exact ⟨hbw3, .inr (.inl ⟨by go_num, by simpa using hown'⟩)⟩
      case measure => simp [intOf]
    ·obtain ⟨c0, c1⟩ := HC.out _ hbw
     obtain ⟨ao, co, rfl, hco, -⟩ := own_open hown
     have hkc : (n : Int) + 0 ≤ (co : Int) := by omega
     rcases Nat.eq_zero_or_pos m with hz | hpos
     ·have HZ := hI hz
      clear hz
      go_wp2_with (at_builtin; refine wpAppZ rfl _ _ rfl _ _ n co _ m HZ.out rfl rfl (by omega) ?_)
      go_roundw
      case rel => exact ⟨hbw, .inr (.inr ⟨by go_num, by have hp : py = [] := List.eq_nil_of_length_eq_zero (HN.out.2.trans HZ.out); rw [hp, HZ.out, List.append_nil]; exact hown⟩)⟩
      case measure => simp [intOf]
     ·obtain ⟨bb, off, rfl⟩ : ∃ bb off, ay = some ⟨bb, off, none⟩ := by
       obtain ⟨b', off, ha, _⟩ := Sl.row HY.out (Below.refl _ _) hpos
       exact ⟨b', off, ha⟩
      go_wp2_with (at_builtin; refine wpAppP rfl _ _ rfl w.heap.size (n) _ (px) (py) bb off m cy rfl rfl hown (Sl.mono HY.out hbw) (by omega) hbw.size ?_; intro v' w5 hown' hg'; have hbw3 := Below.grown hbw hg' hbw.size (fun k hk => (hown.lt k hk).1))
      go_roundw
      case rel => exact ⟨hbw3, .inr (.inr ⟨by go_num, hown'⟩)⟩
      case measure => simp [intOf]
    ·obtain ⟨c0, c1⟩ := HC.out _ hbw
     go_wp2_with fail
     go_ret
     exact ⟨_, rfl, hown, hbw⟩
end Go.Proofs.YtacihodamichhaaGreatDoor
namespace Go.Proofs.YtacihodamichhaaGreatDoor
open Go.RowKit
theorem world_ext {w w' : World} (h1 : w'.heap = w.heap) (h2 : w'.tape = w.tape) (h3 : w'.drawn = w.drawn) (h4 : w'.os = w.os) (h5 : w'.output = w.output) : w' = w := by
 cases w; cases w'; simp_all
theorem drewN_eq (w : World) (q : Nat) : w.drewN q = { w with drawn := w.drawn + q } := by
 induction q generalizing w with
 | zero => rfl
 | succ n ih => first | rfl | (rw [World.drewN, ih]; simp [World.drew]; omega)
theorem bd_grow {W w' : World} (h : BD W w') : ∃ q os', w' = Go.Sort.grow (W.drewN q) os' := by
 refine ⟨w'.drawn - W.drawn, w'.heap.extract W.heap.size w'.heap.size, ?_⟩
 rw [drewN_eq]
 refine world_ext ?_ h.1.tape ?_ h.1.os h.1.output
 ·show w'.heap = W.heap ++ w'.heap.extract W.heap.size w'.heap.size
  apply Array.ext_getElem?
  intro i
  rcases Nat.lt_or_ge i W.heap.size with hi | hi
  ·rw [h.1.block i hi, Array.getElem?_append_left hi]
  ·rw [Array.getElem?_append_right hi, Array.getElem?_extract]
   split
   ·congr 1; omega
   ·rename_i hn
    rw [Array.getElem?_eq_none]
    omega
 ·show w'.drawn = W.drawn + (w'.drawn - W.drawn)
  have := h.2
  omega
theorem sort_grown {α : Type} [Inhabited α] (enc : α → List Value) (k : Nat) (w : World) (blk off m : Nat) (d : Array α) (os : Array Obj) : w.grownBy (sortWorldK enc k w blk off m d os) (some blk) := by
 refine ⟨rfl, rfl, rfl, ?_, fun b hb hne => ?_⟩
 ·show w.heap.size ≤ ((Go.Sort.putRowK enc k (Go.Sort.ahead w m) blk off d).heap ++ os).size
  rw [Array.size_append]
  have : (Go.Sort.putRowK enc k (Go.Sort.ahead w m) blk off d).heap.size = w.heap.size := Go.Sort.size_putRow _ _ _ _ _
  omega
 ·show ((Go.Sort.putRowK enc k (Go.Sort.ahead w m) blk off d).heap ++ os)[b]? = w.heap[b]?
  have hs : (Go.Sort.putRowK enc k (Go.Sort.ahead w m) blk off d).heap.size = w.heap.size := Go.Sort.size_putRow _ _ _ _ _
  rw [Array.getElem?_append_left (by omega)]
  unfold Go.Sort.putRowK Go.Sort.putRow Go.Sort.mapBlock
  have hne2 : blk ≠ b := fun e => hne (by rw [e])
  first
   | simp [Array.getElem?_modify, hne2]
   | (simp only [Go.Sort.ahead]; rw [Array.getElem?_modify]; simp [hne2])
theorem holds_of_own {β : Type} (cells : β → List Value) (sz : Nat) (hlen : ∀ x, (cells x).length = sz) (hsz : 0 < sz) {α : Type} [Inhabited α] (val : α → β) (d : Array α) (w : World) {B e g cap : Nat}
  (hown : w.ownsRow B e sz (.slice (some ⟨g, 0, none⟩) d.size cap) d.size (((d.toList.map val).map cells).flatten)) : Go.Sort.HoldsK (fun a => cells (val a)) sz w g 0 d := by
 intro t ht
 rw [Go.Sort.size_flatK] at ht
 have hi : t / sz < d.size := Nat.div_lt_of_lt_mul (by rwa [Nat.mul_comm] at ht)
 have hj : t % sz < sz := Nat.mod_lt _ hsz
 have hrl : ∀ r ∈ (d.toList.map val).map cells, r.length = sz := fun r hr => by
  obtain ⟨p, _, rfl⟩ := List.mem_map.1 hr
  exact hlen p
 have hrn : ((d.toList.map val).map cells).length = d.size := by simp
 have hf := flat_get hrl (i := t / sz) (j := t % sz) (by rw [hrn]; exact hi) hj
 rw [Nat.div_add_mod'] at hf
 have hc := hown.cells (g := g) rfl t _ hf
 have ha : (⟨g, 0, none⟩ : Addr).add t = ⟨g, 0 + t, none⟩ := by unfold Addr.add; split <;> simp_all
 rw [ha] at hc
 refine ⟨?_, ?_⟩
 ·rw [hc, Go.Sort.get_flatK _ _ _ _ ht]
  congr 1
  simp only [id]
  have e1 : ((d.toList.map val).map cells).getD (t / sz) [] = cells (val d[t / sz]!) := by
   rw [List.getD_eq_getElem?_getD, List.getElem?_map, List.getElem?_map, Array.getElem?_toList, Array.getElem?_eq_getElem hi, getElem!_pos d (t / sz) hi]
   rfl
  rw [e1]
  have hj2 : t % sz < (cells (val d[t / sz]!)).length := by rw [hlen]; exact hj
  rw [List.getD_eq_getElem?_getD, List.getElem?_eq_getElem hj2, getElem!_pos (cells (val d[t / sz]!)) (t % sz) hj2]
  rfl
 ·rcases hown.2 with ⟨hv, _⟩ | ⟨g', cap', cur, hv, -, hgb, -⟩
  ·cases hv
  ·cases hv
   exact frozen_of_row w g _ cur _ hgb
theorem sl_of_holds {β : Type} (cells : β → List Value) (sz : Nat) (hlen : ∀ x, (cells x).length = sz) {α : Type} [Inhabited α] (val : α → β) (d : Array α) (w : World) {g cap : Nat}
  (h : Go.Sort.HoldsK (fun a => cells (val a)) sz w g 0 d) (hg : g < w.heap.size) (hc : d.size ≤ cap) (hm : cap ≤ maxLen) : Sl w sz (.slice (some ⟨g, 0, none⟩) d.size cap) ((d.toList.map val).map cells) := by
 have hrn : ((d.toList.map val).map cells).length = d.size := by simp
 refine ⟨_, _, by rw [hrn], by rw [hrn]; exact hc, hm, .inr ⟨g, 0, rfl, hg, fun i j hi hj => ?_⟩⟩
 rw [hrn] at hi
 have := (h.cell hi hj).1
 rw [this]
 congr 1
 have e1 : ((d.toList.map val).map cells).getD i [] = cells (val d[i]!) := by
  rw [List.getD_eq_getElem?_getD, List.getElem?_map, List.getElem?_map, Array.getElem?_toList, Array.getElem?_eq_getElem hi, getElem!_pos d i hi]
  rfl
 rw [e1]
 have hj2 : j < (cells (val d[i]!)).length := by rw [hlen]; exact hj
 rw [List.getD_eq_getElem?_getD, List.getElem?_eq_getElem hj2, getElem!_pos (cells (val d[i]!)) j hj2]
 rfl
theorem swoC {α : Type} (f : α → Cut) : Go.Sort.SWO (Go.Proofs.ltOf fun x y : α => cmpC (f x) (f y)) where
 irrefl x := by
  unfold Go.Proofs.ltOf
  rw [decide_eq_false_iff_not, cmpC_lt]
  exact CLt.irrefl _
 trans x y z h1 h2 := by
  unfold Go.Proofs.ltOf at *
  rw [decide_eq_true_eq, cmpC_lt] at *
  exact h1.trans h2
 ntrans x y z h1 h2 := by
  unfold Go.Proofs.ltOf at *
  rw [decide_eq_false_iff_not, cmpC_lt] at *
  exact CLt.ntrans h1 h2
theorem sorted_lists {β α : Type} [Inhabited α] (val : α → β) (cf : β → Cut) (d d' : Array α) (hp : Go.Sort.PermIn 0 d.size d d') (hs : Go.Sort.SortedIn (Go.Proofs.ltOf fun x y : α => cmpC (cf (val x)) (cf (val y))) 0 d.size d') :
  (d'.toList.map val).Perm (d.toList.map val) ∧ ∀ (i j : Nat) (x y : β), i < j → (d'.toList.map val)[i]? = some x → (d'.toList.map val)[j]? = some y → ¬ CLt (cf y) (cf x) := by
 obtain ⟨hsz, -, hperm⟩ := hp
 have e1 : d'.extract 0 d.size = d' := by rw [← hsz]; simp
 have e2 : d.extract 0 d.size = d := by simp
 rw [e1, e2] at hperm
 refine ⟨hperm.map val, fun i j x y hij hx hy hlt => ?_⟩
 simp only [List.getElem?_map, Option.map_eq_some_iff, Array.getElem?_toList] at hx hy
 obtain ⟨a, ha, rfl⟩ := hx
 obtain ⟨b, hb, rfl⟩ := hy
 have hj : j < d'.size := (Array.getElem?_eq_some_iff.1 hb).1
 have hi : i < d'.size := by omega
 have := hs i j (Nat.zero_le _) hij (by omega)
 rw [getElem!_pos d' j hj, getElem!_pos d' i hi, (Array.getElem?_eq_some_iff.1 hb).2, (Array.getElem?_eq_some_iff.1 ha).2] at this
 unfold Go.Proofs.ltOf at this
 rw [decide_eq_false_iff_not, cmpC_lt] at this
 exact this hlt
set_option maxHeartbeats 4000000 in
theorem sort_cuts (P : List CC) (w : World) (B g cap : Nat) (hne : P ≠ []) (hown : w.ownsRow B 79 7 (.slice (some ⟨g, 0, none⟩) P.length cap) P.length ((P.map CC.cells).flatten)) (hok : ∀ k ∈ P, k.ok w) (hsz : P.length < 4611686018427387904) :
  Calls Tryz.prog 133 #[.slice (some ⟨g, 0, none⟩) P.length cap, .func (.func 73) #[] #[]] w (fun e w' => e = .returned (.tuple #[]) ∧ w.grownBy w' (some g) ∧ ∃ P' : List CC, P'.Perm P ∧ (∀ (i j : Nat) (x y : CC), i < j → P'[i]? = some x → P'[j]? = some y → ¬ CLt y.c x.c) ∧ Sl w' 7 (.slice (some ⟨g, 0, none⟩) P.length cap) (P'.map CC.cells) ∧ ∀ k ∈ P', k.ok w') := by
 let α := {x : CC // x ∈ P}
 have : Inhabited α := by
  cases P with
  | nil => exact absurd rfl hne
  | cons a l => exact ⟨⟨a, List.mem_cons_self ..⟩⟩
 let d : Array α := P.attach.toArray
 have hd : d.toList.map Subtype.val = P := by simp [d]
 have hds : d.size = P.length := by have h := congrArg List.length hd; rw [List.length_map, Array.length_toList] at h; exact h
 have hown' := hown
 rw [← hds] at hown'
 rw [← hd] at hown'
 have hH := holds_of_own CC.cells 7 CC.cells_len (by decide) (α := α) Subtype.val d w hown'
 obtain ⟨_, _, hv, hcap1, hcap2⟩ := own_open hown
 cases hv
 have hgl : g < w.heap.size := (hown.lt g rfl).2
 have hcmp : CmpLays Tryz.prog 73 #[] (fun a : α => CC.cells a.val) 7 (fun x y => cmpC x.val.c y.val.c) g 0 d.size w := by
  intro m os dk hdk x y
  have hg := sort_grown (fun a : α => CC.cells a.val) 7 w g 0 m dk os
  have hx := (hok x.1 x.2).grown hown (by decide) hg
  have hy := (hok y.1 y.2).grown hown (by decide) hg
  refine (cutcmp_d x.1 y.1 _ hx hy).mono fun e w' h => ⟨h.1, bd_grow h.2⟩
 have h := AnyQ.slices_SortFunc Tryz.sortC 7 Tryz.isAgg79 Tryz.sizeOf79 (fun a : α => CC.cells a.val) (fun a => rfl) (fun a => one7 a.1) (fun x y => cmpC x.val.c y.val.c) (swoC fun x : α => x.val.c) 73 #[] g 0 cap d w (enters_of Tryz.func73 (by kernel_rfl) rfl) hcmp hH hgl (by rw [hds]; exact hsz)
 rw [hds] at h
 change Calls Tryz.prog 133 _ _ _ at h
 refine h.mono fun e w' ⟨he, d', n, os, hp, hs, hw⟩ => ⟨he, by rw [hw]; exact sort_grown _ _ _ _ _ _ _ _, d'.toList.map Subtype.val, ?_⟩
 have hg : w.grownBy w' (some g) := by rw [hw]; exact sort_grown _ _ _ _ _ _ _ _
 rw [← hds] at hp hs
 obtain ⟨hperm, hsort⟩ := sorted_lists (β := CC) (α := α) Subtype.val CC.c d d' hp hs
 rw [hd] at hperm
 have hd's : d'.size = P.length := by rw [hp.1, hds]
 refine ⟨hperm, hsort, ?_, fun k hk => (hok k (hperm.mem_iff.1 hk)).grown hown (by decide) hg⟩
 have hH' : Go.Sort.HoldsK (fun a : α => CC.cells a.val) 7 w' g 0 d' := by
  rw [hw]
  exact Go.Sort.holdsK_grow _ _ _ _ _ _ _ (by rw [show (Go.Sort.putRowK _ _ _ _ _ _).heap.size = _ from Go.Sort.size_putRow _ _ _ _ _]; exact hgl) (Go.Sort.holdsK_putRowK _ _ _ _ _ d _ hH hp.1)
 have := sl_of_holds CC.cells 7 CC.cells_len (α := α) Subtype.val d' w' (cap := cap) hH' (Nat.lt_of_lt_of_le hgl hg.size) (by omega) hcap2
 rw [hd's] at this
 exact this
end Go.Proofs.YtacihodamichhaaGreatDoor
namespace Go.Proofs.YtacihodamichhaaGreatDoor
open Go.RowKit
def Cuts (w : World) (v : Value) (P : List CC) : Prop := Sl w 7 v (P.map CC.cells) ∧ ∀ k ∈ P, k.ok w
theorem Cuts.mono {w w' : World} {v : Value} {P : List CC} (h : Cuts w v P) (hb : Below w.heap.size w w') : Cuts w' v P := ⟨Sl.mono h.1 hb, fun p hp => (h.2 p hp).mono hb⟩
def CCells (w : World) (b o : Nat) (k : CC) : Prop := w.cell? ⟨b, o, none⟩ = some (.int .i64 k.c.b) ∧ w.cell? ⟨b, o + 1, none⟩ = some (.string k.c.s) ∧ w.cell? ⟨b, o + 2, none⟩ = some (.int .i64 k.c.d) ∧ w.cell? ⟨b, o + 3, none⟩ = some (.bool k.x) ∧ w.cell? ⟨b, o + 4, none⟩ = some (.slice k.a k.n k.cap) ∧ w.cell? ⟨b, o + 5, none⟩ = some (.bool false) ∧ w.cell? ⟨b, o + 6, none⟩ = some (.slice none 0 0)
theorem Cuts.at {w wr : World} {n cap : Nat} {a : Option Addr} {P : List CC} (h : Cuts w (.slice a n cap) P) (hb : Below w.heap.size w wr) {k : Nat} (hk : k < n) :
  ∃ b off p, a = some ⟨b, off, none⟩ ∧ P[k]? = some p ∧ p.ok wr ∧ CCells wr b (off + k * 7) p := by
 obtain ⟨b, off, ha, hlt, r, hr, hc⟩ := Sl.row h.1 hb hk
 simp only [List.getElem?_map, Option.map_eq_some_iff] at hr
 obtain ⟨l, hl, rfl⟩ := hr
 exact ⟨b, off, l, ha, hl, (h.2 l (List.mem_of_getElem? hl)).mono hb, hc 0 (by decide), hc 1 (by decide), hc 2 (by decide), hc 3 (by decide), hc 4 (by decide), hc 5 (by decide), hc 6 (by decide)⟩
set_option maxHeartbeats 4000000 in
theorem eqcut_any (k l : CC) (w : World) (hk : k.ok w) (hl : l.ok w) : Calls Tryz.prog 135 #[k.agg, l.agg] w (Ret (.bool (cmpC k.c l.c == 0)) w) := by
 have H := hI (fun w' (hb : Below w.heap.size w w') => cutcmp_d k l w' (hk.mono hb) (hl.mono hb))
 unfold CC.agg at H ⊢
 generalize cmpC k.c l.c = R at *
 have hB : Blk ((w.alloc (.cells #[.int .i64 k.c.b, .string k.c.s, .int .i64 k.c.d, .bool k.x, .slice k.a k.n k.cap, .bool false, .slice none 0 0] 79)).alloc (.cells #[.int .i64 l.c.b, .string l.c.s, .int .i64 l.c.d, .bool l.x, .slice l.a l.n l.cap, .bool false, .slice none 0 0] 79)) w.heap.size #[.int .i64 k.c.b, .string k.c.s, .int .i64 k.c.d, .bool k.x, .slice k.a k.n k.cap, .bool false, .slice none 0 0] 79 := (Blk.new w _ _).old _
 clear hk hl hB
 go_enter Tryz.func135, Tryz.ntmps135
 go_wp2_with (go_at_call 73; refine (H.out _ (below2 w _ _)).mono ?_; rintro e w1 ⟨rfl, hb1⟩)
 go_ret
 exact ⟨rfl, (below2 w _ _).via hb1.1 (below2 w _ _).size⟩
set_option maxHeartbeats 8000000 in
theorem compact_none (v : Value) (P : List CC) (w : World) (h : Cuts w v P) (hn : P.length ≤ 2000) (h2 : 2 ≤ P.length) (hd : ∀ (i : Nat) (x y : CC), P[i]? = some x → P[i + 1]? = some y → cmpC y.c x.c ≠ 0) :
  Calls Tryz.prog 134 #[v, .func (.func 135) #[] #[]] w (Ret v w) := by
 obtain ⟨a, c, rfl, hc1, hc2⟩ := Sl.open h.1
 rw [List.length_map] at hc1 h ⊢
 unfold maxLen at hc2
 have HX := hI h
 have Hd := hI hd
 clear h hd
 generalize hln : P.length = n at *
 have Hln := hI hln
 clear hln
 have hn2 : ¬ (n : Int) < 2 := by omega
 go_enter Tryz.func134, Tryz.ntmps134
 go_wp2_with fail
 go_loopw [5] (fun i wr => ∃ k : Nat, 1 ≤ k ∧ k ≤ n ∧ i = .int .i64 (k : Int) ∧ Below w.heap.size w wr) (fun i _ => n - (intOf i).toNat)
 case atStart => exact ⟨1, by omega, by omega, rfl, Below.refl _ _⟩
 case round =>
  obtain ⟨k, hk1, hk, rfl, hbw⟩ := hrel
  rcases Nat.lt_or_ge k n with hlt | hge
  ·obtain ⟨j, rfl⟩ : ∃ j, k = j + 1 := ⟨k - 1, by omega⟩
   obtain ⟨b, off, p, rfl, hp, hpok, hpc⟩ := HX.out.at hbw (show j + 1 < n from hlt)
   obtain ⟨b', off', q, hq0, hq, hqok, hqc⟩ := HX.out.at hbw (show j < n by omega)
   cases hq0
   have hkn : ((j + 1 : Nat) : Int) < (n : Int) := by omega
   have hkn2 : (j : Int) + 1 < (n : Int) := by omega
   have hik : IntKind.i64.wrap ((j : Int) + 1) = (j : Int) + 1 := IntWalk.i64_in _ (by omega)
   have hik2 : IntKind.i64.wrap ((j : Int) + 1 + 1) = (j : Int) + 1 + 1 := IntWalk.i64_in _ (by omega)
   have hj2 : IntKind.i64.wrap (j : Int) = j := IntWalk.i64_in _ (by omega)
   have hj3 : (((j + 1 : Nat) : Int) - 1) = (j : Int) := by omega
   have hj4 : (j : Int) < (n : Int) := by omega
   have hj5 : (0 : Int) ≤ (j : Int) := by omega
   have hj6 : (0 : Int) ≤ (j : Int) + 1 := by omega
   have hj7 : ((j : Int) + 1).toNat = j + 1 := by omega
   have hj8 : j + 1 < n := hlt
   have hj9 : j < n := by omega
   have H := hI (fun w' (hb : Below wr.heap.size wr w') => eqcut_any p q w' (hpok.mono hb) (hqok.mono hb))
   have hne := Hd.out j q p hq hp
   have hne2 : (cmpC p.c q.c == 0) = false := by simpa using hne
   rw [hne2] at H
   unfold CC.agg at H
   have HSx := hI (fun w' (hb : Below wr.heap.size wr w') => show w'.cell? ⟨b, off + (j + 1) * 7, none⟩ = some (.int .i64 p.c.b) ∧ w'.cell? ⟨b, off + (j + 1) * 7 + 1, none⟩ = some (.string p.c.s) ∧ w'.cell? ⟨b, off + (j + 1) * 7 + 2, none⟩ = some (.int .i64 p.c.d) ∧ w'.cell? ⟨b, off + (j + 1) * 7 + 3, none⟩ = some (.bool p.x) ∧ w'.cell? ⟨b, off + (j + 1) * 7 + 4, none⟩ = some (.slice p.a p.n p.cap) ∧ w'.cell? ⟨b, off + (j + 1) * 7 + 5, none⟩ = some (.bool false) ∧ w'.cell? ⟨b, off + (j + 1) * 7 + 6, none⟩ = some (.slice none 0 0) ∧ w'.cell? ⟨b, off + j * 7, none⟩ = some (.int .i64 q.c.b) ∧ w'.cell? ⟨b, off + j * 7 + 1, none⟩ = some (.string q.c.s) ∧ w'.cell? ⟨b, off + j * 7 + 2, none⟩ = some (.int .i64 q.c.d) ∧ w'.cell? ⟨b, off + j * 7 + 3, none⟩ = some (.bool q.x) ∧ w'.cell? ⟨b, off + j * 7 + 4, none⟩ = some (.slice q.a q.n q.cap) ∧ w'.cell? ⟨b, off + j * 7 + 5, none⟩ = some (.bool false) ∧ w'.cell? ⟨b, off + j * 7 + 6, none⟩ = some (.slice none 0 0) from ⟨cell_keep hb hpc.1, cell_keep hb hpc.2.1, cell_keep hb hpc.2.2.1, cell_keep hb hpc.2.2.2.1, cell_keep hb hpc.2.2.2.2.1, cell_keep hb hpc.2.2.2.2.2.1, cell_keep hb hpc.2.2.2.2.2.2, cell_keep hb hqc.1, cell_keep hb hqc.2.1, cell_keep hb hqc.2.2.1, cell_keep hb hqc.2.2.2.1, cell_keep hb hqc.2.2.2.2.1, cell_keep hb hqc.2.2.2.2.2.1, cell_keep hb hqc.2.2.2.2.2.2⟩)
   have Hbw := hI hbw
   clear hp hpok hpc hq hqok hqc hne hne2 hbw
   go_wp2_with fail
   refine wp_region_held_drew (S := (fun w' => w'.cell? ⟨b, off + (j + 1) * 7, none⟩ = some (.int .i64 p.c.b) ∧ w'.cell? ⟨b, off + (j + 1) * 7 + 1, none⟩ = some (.string p.c.s) ∧ w'.cell? ⟨b, off + (j + 1) * 7 + 2, none⟩ = some (.int .i64 p.c.d) ∧ w'.cell? ⟨b, off + (j + 1) * 7 + 3, none⟩ = some (.bool p.x) ∧ w'.cell? ⟨b, off + (j + 1) * 7 + 4, none⟩ = some (.slice p.a p.n p.cap) ∧ w'.cell? ⟨b, off + (j + 1) * 7 + 5, none⟩ = some (.bool false) ∧ w'.cell? ⟨b, off + (j + 1) * 7 + 6, none⟩ = some (.slice none 0 0) ∧ w'.cell? ⟨b, off + j * 7, none⟩ = some (.int .i64 q.c.b) ∧ w'.cell? ⟨b, off + j * 7 + 1, none⟩ = some (.string q.c.s) ∧ w'.cell? ⟨b, off + j * 7 + 2, none⟩ = some (.int .i64 q.c.d) ∧ w'.cell? ⟨b, off + j * 7 + 3, none⟩ = some (.bool q.x) ∧ w'.cell? ⟨b, off + j * 7 + 4, none⟩ = some (.slice q.a q.n q.cap) ∧ w'.cell? ⟨b, off + j * 7 + 5, none⟩ = some (.bool false) ∧ w'.cell? ⟨b, off + j * 7 + 6, none⟩ = some (.slice none 0 0))) (by kernel_rfl) (by exact HSx.out _ ((Below.refl _ _).dn 1)) (fun hHeld => ?_)
   refine wpAnyH_take (i := 0) (v := ?v1) rfl (by kernel_rfl) (by kernel_rfl) (by kernel_rfl) (fun _ _ _ h => h) (Or.inl ⟨by rfl, ?hy1⟩) (by assumption) ?rest1
   case hy1 => (intro w hSw; (try dsimp only at hSw); go_simp; try (with_reducible rfl))
   try simp only [Act.put, List.getElem_toArray, List.getElem_cons_zero, List.setIfInBounds_toArray, List.set_cons_zero, List.set_cons_succ]
   refine' tk 1 ?_; (try simp only [tkS]); refine' tk 2 ?_; (try simp only [tkS]); refine' tk 3 ?_; (try simp only [tkS]); refine' tk 4 ?_; (try simp only [tkS]); refine' tk 5 ?_; (try simp only [tkS]); refine' tk 6 ?_; (try simp only [tkS]); refine' tk 7 ?_; (try simp only [tkS]); refine' tk 8 ?_; (try simp only [tkS]); refine' tk 9 ?_; (try simp only [tkS])
   refine tk1 10 (fun K hK => ?_)
   go_simp
   go_at_call 135
   refine (H.out _ ((Below.refl _ _).dn 1)).mono ?_
   rintro e5 w10 ⟨rfl, hb10⟩
   have Hb10 := hI (bw_via ((Below.refl _ _).dn 1) hb10)
   clear hb10
   refine hK.out _ _ (by exact HSx.out _ (Hb10.out)) (fun hHeld => ?_)
   clear hK K; (try simp only [tkS])
   refine tkD ?_ _
   go_wp2_with fail
   go_roundw
   case rel => exact ⟨j + 1 + 1, by omega, by omega, by go_num, Hbw.out.via Hb10.out Hbw.out.size⟩
   case measure => simp [intOf] <;> omega
  ·obtain rfl : k = n := by omega
   have hkn : ¬ (k : Int) < (k : Int) := by omega
   go_wp2_with fail
   go_ret
   exact ⟨rfl, hbw⟩
end Go.Proofs.YtacihodamichhaaGreatDoor
