/-
  IntervalFull: the two loops, the union, the complement.
-/
import Derived.Test.YtfmgjcgcocidfaaGreatDoorKnown
namespace Go.Proofs.YtfmgjcgcocidfaaGreatDoor
open Go.RowKit

theorem grown_refl (w : World) (r : Option Nat) : w.grownBy w r := ⟨rfl, rfl, rfl, Nat.le_refl _, fun _ _ _ => rfl⟩

/-- Append of a row of intervals. -/
theorem wpAppI {ops : Array Oper} {rest : List Oper} {o : Oper} {a : Act} {Q : Exit → Act → World → Prop} {W : World} (hgd : o.guard = none) (s x : Operand) (ho : o.op = .call { callee := .builtin .append, args := #[s, x], argTypes := #[24, 24] })
    (B n m : Nat) (d e : Option Addr) (ce c : Nat) (ps qs : List Iv) (hs : a.eval s = .slice e n ce) (hx : a.eval x = .slice d m c) (hown : W.ownsRow B 27 4 (.slice e n ce) n ((ps.map Iv.row).flatten)) (hq : Ivs W (.slice d m c) qs) (hn : n + m ≤ 1000) (hB : B ≤ W.heap.size)
    (h : ∀ v' w', w'.ownsRow B 27 4 v' (n + m) (((ps ++ qs).map Iv.row).flatten) → W.grownBy w' (Value.slice e n ce).ownBlock → wpList Tryz.prog ops Q rest (a.put o.dst v') w') : wpList Tryz.prog ops Q (o :: rest) a W := by
  have hi := EI.info
  simp only [Option.map_eq_some_iff, Prod.mk.injEq] at hi
  obtain ⟨i, hi, ⟨z, hz, hzs⟩, hsize, hby⟩ := hi
  have hrl : ∀ r ∈ qs.map Iv.row, r.length = 4 := fun r hr => by obtain ⟨p, _, rfl⟩ := List.mem_map.1 hr; rfl
  have hm : (qs.map Iv.row).length = m := by
    obtain ⟨_, _, hv, _⟩ := Sl.open hq
    cases hv
    rfl
  rcases Nat.eq_zero_or_pos m with rfl | hpos
  · obtain rfl : qs = [] := List.length_eq_zero_iff.1 (by rw [← hm, List.length_map])
    obtain ⟨e', ce', hv, hk, -⟩ := own_open hown
    cases hv
    have hr : (Builtin.append_ #[24, 24] o.type #[.slice e n ce, .slice d 0 c]).run Tryz.prog W = .ok (.slice e n ce) W := by
      cases e <;> cases d <;> simp [Builtin.append_, run_underlying EI.und, sizeOf, typeInfo, hi, Builtin.lenOf, Builtin.firstCells, loadCells, loadCellsFrom, hk, storeCells]
    refine wpList_plain hgd fun _ hK => ?_
    unfold Oper.wp execOp
    simp only [ho, resolve, invoke, builtin, Sem.run_bind, Sem.run_pure, Result.andThen_ok, List.map_toArray, List.map_cons, List.map_nil, hs, hx, hr]
    refine hK _ _ (h _ _ ?_ (grown_refl _ _))
    rw [List.append_nil]
    exact hown
  · obtain ⟨b, off, rfl⟩ : ∃ b off, d = some ⟨b, off, none⟩ := by
      obtain ⟨a', c', hv, h1, -, h2⟩ := hq
      cases hv
      rcases h2 with h2 | ⟨b, off, rfl, -, -⟩
      · omega
      · exact ⟨b, off, rfl⟩
    refine wpList_append_own _ hgd s x 24 ho B 27 i z 4 48 EI.und hi hz hsize hby hzs (by decide) _ n _ hs hown ⟨b, off, none⟩ m c ((qs.map Iv.row).flatten) hx (by rw [flat_len hrl, hm]) (Sl.flat hq hrl (by decide)) ?_ (by unfold maxLen; omega) (by omega) hB (fun v' w' a1 a2 _ => h v' w' (by rw [List.map_append, List.flatten_append]; exact a1) a2)
    intro u hu
    obtain ⟨r, hr, hu⟩ := List.mem_flatten.1 hu
    obtain ⟨p, _, rfl⟩ := List.mem_map.1 hr
    exact one4 p u hu

/-- The numbers of the two sets. -/
def numA (i : Nat) : List Nat := List.range i
def numB (k : Nat) : List Nat := (List.range k).map fun x => 300 + x
theorem numA_succ (i : Nat) : numA (i + 1) = numA i ++ [i] := List.range_succ
theorem numB_succ (k : Nat) : numB (k + 1) = numB k ++ [300 + k] := by unfold numB; rw [List.range_succ, List.map_append]; rfl
theorem numA_len (i : Nat) : (numA i).length = i := List.length_range
theorem numB_len (k : Nat) : (numB k).length = k := by unfold numB; rw [List.length_map, List.length_range]
theorem numA_lt {i n : Nat} (h : n ∈ numA i) : n < i := List.mem_range.1 h
theorem numB_lt {k n : Nat} (h : n ∈ numB k) : 300 ≤ n ∧ n < 300 + k := by
  obtain ⟨x, hx, rfl⟩ := List.mem_map.1 h
  have := List.mem_range.1 hx
  omega
theorem numA_up (i : Nat) : (numA i).Pairwise (· < ·) := List.pairwise_lt_range
theorem numB_up (k : Nat) : (numB k).Pairwise (· < ·) := List.pairwise_map.2 (List.pairwise_lt_range.imp fun h => by omega)
theorem num_up {i k : Nat} (hi : i ≤ 256) : (numA i ++ numB k).Pairwise (· < ·) := List.pairwise_append.2 ⟨numA_up i, numB_up k, fun a ha b hb => by have := numA_lt ha; have := numB_lt hb; omega⟩
theorem num_lt {i k n : Nat} (hi : i ≤ 256) (hk : k ≤ 256) (h : n ∈ numA i ++ numB k) : n < 1000 := by
  rcases List.mem_append.1 h with h | h
  · have := numA_lt h; omega
  · have := numB_lt h; omega
theorem own_zero (w : World) (T : TypeId) : (w.alloc (.cells #[] T)).ownsRow w.heap.size T 4 (.slice (some ⟨w.heap.size, 0, none⟩) 0 0) 0 [] :=
  ⟨rfl, .inr ⟨w.heap.size, 0, #[], rfl, Nat.le_refl _, heap_alloc_new w _, Nat.le_refl _, Nat.zero_le _, rfl, rfl⟩⟩
theorem below_own {B B' e sz n : Nat} {w W w' : World} {v : Value} {xs : List Value} (h : Below B w W) (ho : W.ownsRow B' e sz v n xs) (hBB : B ≤ B') (hB : B ≤ W.heap.size) (hg : W.grownBy w' v.ownBlock) : Below B w w' :=
  Below.grown h hg hB (fun q hq => Nat.le_trans hBB (ho.lt q hq).1)

theorem iv_sings {N : List Nat} (h : ∀ n ∈ N, n < 1000) : (prs LL HH N).map ivOf = N.map sing := by
  unfold prs
  rw [List.map_map]
  exact List.map_congr_left fun n hn => ivOf_sing (h n hn)
theorem prs_len (N : List Nat) : (prs LL HH N).length = N.length := by unfold prs; rw [List.length_map]
theorem union_big (u v : Value) (i k : Nat) (w : World) (hx : Ivs w u ((numA i).map sing)) (hy : Ivs w v ((numB k).map sing)) (hi : i ≤ 256) (hk : k ≤ 256) (h : 256 < i + k) : Calls Tryz.prog 6 #[u, v] w (Ret (.tuple #[.slice none 0 0, .int .i64 6]) w) := by
  refine (union_sing u v (numA i) (numB k) w hx hy (num_up hi) (fun n hn => num_lt hi hk hn) (by rw [numA_len]; exact hi) (by rw [numB_len]; exact hk)).mono fun e w' ⟨r, he, hr, hb⟩ => ?_
  rcases hr with ⟨-, rfl⟩ | ⟨hc, -⟩
  · exact ⟨he, hb⟩
  · rw [prs_len, List.length_append, numA_len, numB_len] at hc; omega
theorem union_small (u v : Value) (i k : Nat) (w : World) (hx : Ivs w u ((numA i).map sing)) (hy : Ivs w v ((numB k).map sing)) (hi : i ≤ 256) (hk : k ≤ 256) (h : i + k ≤ 256) : Calls Tryz.prog 6 #[u, v] w (RetP (fun r w' => ∃ a c, r = .tuple #[.slice a (i + k) c, .int .i64 0] ∧ Ivs w' (.slice a (i + k) c) ((numA i ++ numB k).map sing)) w) := by
  refine (union_sing u v (numA i) (numB k) w hx hy (num_up hi) (fun n hn => num_lt hi hk hn) (by rw [numA_len]; exact hi) (by rw [numB_len]; exact hk)).mono fun e w' ⟨r, he, hr, hb⟩ => ⟨r, he, ?_, hb⟩
  have hl : (prs LL HH (numA i ++ numB k)).length = i + k := by rw [prs_len, List.length_append, numA_len, numB_len]
  rcases hr with ⟨hc, -⟩ | ⟨-, a, c, rfl, hiv⟩
  · omega
  · rw [hl] at hiv ⊢
    rw [iv_sings (fun n hn => num_lt hi hk hn)] at hiv
    exact ⟨a, c, rfl, hiv⟩
theorem compl_full (u : Value) (i : Nat) (w : World) (hx : Ivs w u ((numA i).map sing)) (hi : i = 256) : Calls Tryz.prog 8 #[u] w (Ret (.tuple #[.slice none 0 0, .int .i64 6]) w) := by
  refine (compl_sing u (numA i) w hx (numA_up i) (fun n hn => by have := numA_lt hn; omega) (by rw [numA_len]; omega)).mono fun e w' ⟨r, he, ⟨Fl, hl, hr⟩, hb⟩ => ?_
  rw [numA_len] at hl
  rcases hr with ⟨-, rfl⟩ | ⟨hc, -⟩
  · exact ⟨he, hb⟩
  · omega
theorem compl_part (u : Value) (i i1 : Nat) (w : World) (hx : Ivs w u ((numA i).map sing)) (hi : i < 256) (h1 : i + 1 = i1) : Calls Tryz.prog 8 #[u] w (RetP (fun r _ => ∃ a c, r = .tuple #[.slice a i1 c, .int .i64 0]) w) := by
  refine (compl_sing u (numA i) w hx (numA_up i) (fun n hn => by have := numA_lt hn; omega) (by rw [numA_len]; omega)).mono fun e w' ⟨r, he, ⟨Fl, hl, hr⟩, hb⟩ => ⟨r, he, ?_, hb⟩
  rw [numA_len, h1] at hl
  rcases hr with ⟨hc, -⟩ | ⟨-, a, c, rfl, -⟩
  · omega
  · rw [hl]; exact ⟨a, c, rfl⟩
theorem single_row (n : Nat) (hn : n < 1000) : ∃ D : ByteArray, sing n = ⟨D, D, 1, 1⟩ ∧ ∀ w, Calls Tryz.prog 5 #[.int .i64 (n : Int)] w (Ret (.agg #[.string D, .string D, .int .i64 1, .int .i64 1]) w) := ⟨_, rfl, fun w => single_any n w hn⟩

set_option maxHeartbeats 16000000 in
set_option maxRecDepth 10000 in
theorem full_any (x y : Nat) (w : World) (hx : x ≤ 65535) (hy : y ≤ 65535) : Calls Tryz.prog 3 #[.int .u16 (x : Int), .int .u16 (y : Int)] w (Ret (.bool true) w) := by
  obtain ⟨i, hi⟩ : ∃ i, x % 257 = i := ⟨_, rfl⟩
  obtain ⟨k, hk⟩ : ∃ k, y % 257 = k := ⟨_, rfl⟩
  have hi2 : i ≤ 256 := by omega
  have hk2 : k ≤ 256 := by omega
  have ei : ((x : Int)).tmod 257 = (i : Int) := by rw [← hi]; rfl
  have ek : ((y : Int)).tmod 257 = (k : Int) := by rw [← hk]; rfl
  have ei2 : IntKind.u16.wrap (i : Int) = (i : Int) := IntWalk.u16_in _ (by omega)
  have ek2 : IntKind.u16.wrap (k : Int) = (k : Int) := IntWalk.u16_in _ (by omega)
  have ei3 : IntKind.i64.wrap (i : Int) = (i : Int) := IntWalk.i64_in _ (by omega)
  have ek3 : IntKind.i64.wrap (k : Int) = (k : Int) := IntWalk.i64_in _ (by omega)
  have HK := Lib.hid (fun w' => known_true w')
  have HN := Lib.hid (fun W : World => World.ownsRow_nil W W.heap.size 27 4)
  clear hi hk hx hy
  go_enter Tryz.func3, Tryz.ntmps3
  go_wp2_with (go_at_call 4; refine (HK.out _).mono ?_; rintro e w1 ⟨rfl, hb1⟩; have Hb1 := Lib.hid hb1; clear hb1)
  clear ei ek ei2 ek2 HK
  go_loopw [9, 7] (fun idx out wr => ∃ j : Nat, j ≤ i ∧ idx = .int .i64 (j : Int) ∧ Below w1.heap.size w1 wr ∧ wr.ownsRow w1.heap.size 27 4 out j ((((numA j).map sing).map Iv.row).flatten)) (fun idx _ _ => i - (intOf idx).toNat)
  case atStart => exact ⟨0, by omega, rfl, Below.refl _ _, HN.out w1⟩
  case round =>
    obtain ⟨j, hj, rfl, hbw, hown⟩ := hrel
    rcases Nat.lt_or_ge j i with hlt | hge
    · have hjn : (j : Int) < (i : Int) := by omega
      have hik : IntKind.i64.wrap ((j : Int) + 1) = (j : Int) + 1 := IntWalk.i64_in _ (by omega)
      obtain ⟨D, hD, hS⟩ := single_row j (by omega)
      have Hrow := Lib.hid (show (numA (j + 1)).map sing = (numA j).map sing ++ [⟨D, D, 1, 1⟩] by rw [numA_succ, List.map_append, ← hD]; rfl)
      have HS := Lib.hid hS
      have Hbw := Lib.hid hbw
      have Hown := Lib.hid hown
      clear hbw hown hD hS
      go_wp2_with (first
        | (go_at_call 5; refine (HS.out _).mono ?_; rintro e w2 ⟨rfl, hb2⟩; have Hb2 := Lib.hid (Hbw.out.via hb2 Hbw.out.size); have Hown2 := Lib.hid (own_below Hown.out hb2); clear hb2)
        | (at_builtin; refine wpApp EI (by decide) (Iv.row ⟨D, D, 1, 1⟩) rfl _ _ rfl w1.heap.size _ _ _ rfl rfl Hown2.out rfl (one4 ⟨D, D, 1, 1⟩) (by omega) (by decide) Hb2.out.size ?_; intro v' w5 hown' hg'; have Hb5 := Lib.hid (below_app Hb2.out Hown2.out hg' Hb2.out.size); have Hown5 := Lib.hid hown'; clear hown' hg'))
      go_roundw
      case rel => exact ⟨j + 1, by omega, by go_num, Hb5.out, by have := Hown5.out; rw [rows_flat, ← Hrow.out] at this; exact this⟩
      case measure => simp [intOf] <;> omega
    · obtain rfl : j = i := by omega
      have hjn : ¬ (j : Int) < (j : Int) := by omega
      obtain ⟨aa, ca, rfl, -, -⟩ := own_open hown
      have HA := Lib.hid (own_ivs hown)
      have Hbw := Lib.hid (Hb1.out.via hbw Hb1.out.size)
      obtain ⟨wA, hwA⟩ : ∃ x, x = wr := ⟨_, rfl⟩
      subst hwA
      clear hbw hown hge hj
      go_wp2_with fail
      go_loopw [10, 8] (fun idx out wr => ∃ h : Nat, h ≤ k ∧ idx = .int .i64 (h : Int) ∧ Below wA.heap.size wA wr ∧ wr.ownsRow wA.heap.size 27 4 out h ((((numB h).map sing).map Iv.row).flatten)) (fun idx _ _ => k - (intOf idx).toNat)
      case atStart => exact ⟨0, by omega, rfl, Below.refl _ _, HN.out wA⟩
      case round =>
        obtain ⟨h, hh, rfl, hbw, hown⟩ := hrel
        rcases Nat.lt_or_ge h k with hlt | hge
        · have hjn : (h : Int) < (k : Int) := by omega
          have hik : IntKind.i64.wrap ((h : Int) + 1) = (h : Int) + 1 := IntWalk.i64_in _ (by omega)
          have h300 : IntKind.i64.wrap ((300 : Int) + (h : Int)) = ((300 + h : Nat) : Int) := (IntWalk.i64_in _ (by omega)).trans (by omega)
          obtain ⟨D, hD, hS⟩ := single_row (300 + h) (by omega)
          have Hrow := Lib.hid (show (numB (h + 1)).map sing = (numB h).map sing ++ [⟨D, D, 1, 1⟩] by rw [numB_succ, List.map_append, ← hD]; rfl)
          have HS := Lib.hid hS
          have Hbw := Lib.hid hbw
          have Hown := Lib.hid hown
          clear hbw hown hD hS
          go_wp2_with (first
            | (go_at_call 5; refine (HS.out _).mono ?_; rintro e w2 ⟨rfl, hb2⟩; have Hb2 := Lib.hid (Hbw.out.via hb2 Hbw.out.size); have Hown2 := Lib.hid (own_below Hown.out hb2); clear hb2)
            | (at_builtin; refine wpApp EI (by decide) (Iv.row ⟨D, D, 1, 1⟩) rfl _ _ rfl wA.heap.size _ _ _ rfl rfl Hown2.out rfl (one4 ⟨D, D, 1, 1⟩) (by omega) (by decide) Hb2.out.size ?_; intro v' w5 hown' hg'; have Hb5 := Lib.hid (below_app Hb2.out Hown2.out hg' Hb2.out.size); have Hown5 := Lib.hid hown'; clear hown' hg'))
          go_roundw
          case rel => exact ⟨h + 1, by omega, by go_num, Hb5.out, by have := Hown5.out; rw [rows_flat, ← Hrow.out] at this; exact this⟩
          case measure => simp [intOf] <;> omega
        · obtain rfl : h = k := by omega
          have hjn : ¬ (h : Int) < (h : Int) := by omega
          obtain ⟨ab, cb, rfl, -, -⟩ := own_open hown
          have HB := Lib.hid (own_ivs hown)
          have HA' := Lib.hid (HA.out.mono hbw)
          have Hbw := Lib.hid (Hbw.out.via hbw Hbw.out.size)
          clear hbw hown hge hh
          rcases Nat.lt_or_ge 256 (j + h) with hbig | hbig
          · rcases Nat.lt_or_ge j 256 with hful | hful
            · have HU := Lib.hid (union_big _ _ j h wr HA'.out HB.out hi2 hk2 hbig)
              obtain ⟨j1, hj1⟩ : ∃ j1, j + 1 = j1 := ⟨_, rfl⟩
              have HC := Lib.hid (fun w' (hb : Below wr.heap.size wr w') => compl_part _ j j1 w' (HA'.out.mono hb) hful hj1)
              have hw1 : IntKind.i64.wrap ((j : Int) + 1) = (j1 : Int) := (IntWalk.i64_in _ (by omega)).trans (by omega)
              have hsum : IntKind.i64.wrap ((j : Int) + (h : Int)) = (j : Int) + (h : Int) := IntWalk.i64_in _ (by omega)
              have hcmp :  (256 : Int) < (j : Int) + (h : Int) := by omega
              have hej : ((j : Int) == 256) = false := by exact beq_eq_false_iff_ne.2 (by omega)
              have hlen := Lib.hid (And.intro hi2 hk2)
              clear hful hbig hi2 hk2
              go_wp2_with (first
                | (go_at_call 6; refine (HU.out).mono ?_; rintro e w3 ⟨rfl, hb3⟩; have HBC := Lib.hid hb3; clear hb3)
                | (go_at_call 8; refine (HC.out _ HBC.out).mono ?_; rintro e w4 ⟨r4, rfl, ⟨a4, c4, rfl⟩, hb4⟩; have Hb4 := Lib.hid (HBC.out.via hb4 HBC.out.size); clear hb4))
              go_ret
              exact ⟨rfl, Hbw.out.via Hb4.out Hbw.out.size⟩
            · have hful : j = 256 := by omega
              have HU := Lib.hid (union_big _ _ j h wr HA'.out HB.out hi2 hk2 hbig)
              have HC := Lib.hid (fun w' (hb : Below wr.heap.size wr w') => compl_full _ j w' (HA'.out.mono hb) hful)
              have hsum : IntKind.i64.wrap ((j : Int) + (h : Int)) = (j : Int) + (h : Int) := IntWalk.i64_in _ (by omega)
              have hcmp :  (256 : Int) < (j : Int) + (h : Int) := by omega
              have hej : ((j : Int) == 256) = true := by rw [hful]; rfl
              have hlen := Lib.hid (And.intro hi2 hk2)
              clear hful hbig hi2 hk2
              go_wp2_with (first
                | (go_at_call 6; refine (HU.out).mono ?_; rintro e w3 ⟨rfl, hb3⟩; have HBC := Lib.hid hb3; clear hb3)
                | (go_at_call 8; refine (HC.out _ HBC.out).mono ?_; rintro e w4 ⟨rfl, hb4⟩; have Hb4 := Lib.hid (HBC.out.via hb4 HBC.out.size); clear hb4))
              go_ret
              exact ⟨rfl, Hbw.out.via Hb4.out Hbw.out.size⟩
          · rcases Nat.lt_or_ge j 256 with hful | hful
            · have HU := Lib.hid (union_small _ _ j h wr HA'.out HB.out hi2 hk2 hbig)
              obtain ⟨j1, hj1⟩ : ∃ j1, j + 1 = j1 := ⟨_, rfl⟩
              have HC := Lib.hid (fun w' (hb : Below wr.heap.size wr w') => compl_part _ j j1 w' (HA'.out.mono hb) hful hj1)
              have hw1 : IntKind.i64.wrap ((j : Int) + 1) = (j1 : Int) := (IntWalk.i64_in _ (by omega)).trans (by omega)
              have hsum : IntKind.i64.wrap ((j : Int) + (h : Int)) = (j : Int) + (h : Int) := IntWalk.i64_in _ (by omega)
              have hcmp : ¬ (256 : Int) < (j : Int) + (h : Int) := by omega
              have hej : ((j : Int) == 256) = false := by exact beq_eq_false_iff_ne.2 (by omega)
              have hlen := Lib.hid (And.intro hi2 hk2)
              clear hful hbig hi2 hk2
              go_upto_region 17 with (first
                | (go_at_call 6; refine (HU.out).mono ?_; rintro e w3 ⟨r3, rfl, ⟨a3, c3, rfl, hu⟩, hb3⟩; have Hu := Lib.hid hu; have Hb3 := Lib.hid hb3; clear hu hb3)
                | (go_at_call 8; refine (HC.out _ HBC.out).mono ?_; rintro e w4 ⟨r4, rfl, ⟨a4, c4, rfl⟩, hb4⟩; have Hb4 := Lib.hid (HBC.out.via hb4 HBC.out.size); clear hb4))
              have HS := Lib.hid (fun u v W (hx : Ivs W u ((numA j ++ numB h).map sing)) (hy : Ivs W v ((numA j ++ numB h).map sing)) => same_true u v _ W hx hy (by rw [List.length_map, List.length_append, numA_len, numB_len]; have := hlen.out; omega))
              have HA3 := Lib.hid (HA'.out.mono (bw_via Hb3.out (below1 w3 (.cells #[] 27))))
              have HB3 := Lib.hid (fun W (hb : Below w3.heap.size w3 W) => HB.out.mono (bw_via Hb3.out hb))
              have hj5 : 0 + j ≤ 1000 := by have := hlen.out; omega
              have hj6 : j + h ≤ 1000 := by have := hlen.out; omega
              go_wp2_with (first
                | (at_builtin; have _t := Hown5; clear _t; refine wpAppI rfl _ _ rfl w3.heap.size j h _ _ _ _ ((numA j).map sing) ((numB h).map sing) rfl rfl Hown5.out (HB3.out _ Hb5.out) hj6 Hb5.out.size ?_; intro v' w6 hown' hg'; have Hb6 := Lib.hid (below_own Hb5.out Hown5.out (Nat.le_refl _) Hb5.out.size hg'); rw [← List.map_append] at hown'; have Hown6 := Lib.hid (own_ivs hown'); obtain ⟨a6, c6, rfl, -, -⟩ := own_open hown'; clear hown' hg')
                | (at_builtin; refine wpAppI rfl _ _ rfl w3.heap.size 0 j _ _ _ _ [] ((numA j).map sing) rfl rfl (own_zero w3 27) HA3.out hj5 (by simp) ?_; intro v' w5 hown' hg'; have Hb5 := Lib.hid (below_own (below1 w3 (.cells #[] 27)) (own_zero w3 27) (Nat.le_refl _) (by simp) hg'); rw [Nat.zero_add, List.nil_append] at hown'; obtain ⟨a5, c5, rfl, -, -⟩ := own_open hown'; have Hown5 := Lib.hid hown'; clear hown' hg')
                | (go_at_call 7; refine (HS.out _ _ _ (Hu.out.mono Hb6.out) Hown6.out).mono ?_; rintro e w7 ⟨rfl, hb7⟩; have HBC := Lib.hid (bw_via Hb3.out (bw_via Hb6.out hb7)); clear hb7)
                | (go_at_call 8; refine (HC.out _ HBC.out).mono ?_; rintro e w4 ⟨r4, rfl, ⟨a4, c4, rfl⟩, hb4⟩; have Hb4 := Lib.hid (HBC.out.via hb4 HBC.out.size); clear hb4))
              go_ret
              exact ⟨rfl, Hbw.out.via Hb4.out Hbw.out.size⟩
            · have hful : j = 256 := by omega
              have HU := Lib.hid (union_small _ _ j h wr HA'.out HB.out hi2 hk2 hbig)
              have HC := Lib.hid (fun w' (hb : Below wr.heap.size wr w') => compl_full _ j w' (HA'.out.mono hb) hful)
              have hsum : IntKind.i64.wrap ((j : Int) + (h : Int)) = (j : Int) + (h : Int) := IntWalk.i64_in _ (by omega)
              have hcmp : ¬ (256 : Int) < (j : Int) + (h : Int) := by omega
              have hej : ((j : Int) == 256) = true := by rw [hful]; rfl
              have hlen := Lib.hid (And.intro hi2 hk2)
              clear hful hbig hi2 hk2
              go_upto_region 17 with (first
                | (go_at_call 6; refine (HU.out).mono ?_; rintro e w3 ⟨r3, rfl, ⟨a3, c3, rfl, hu⟩, hb3⟩; have Hu := Lib.hid hu; have Hb3 := Lib.hid hb3; clear hu hb3)
                | (go_at_call 8; refine (HC.out _ HBC.out).mono ?_; rintro e w4 ⟨rfl, hb4⟩; have Hb4 := Lib.hid (HBC.out.via hb4 HBC.out.size); clear hb4))
              have HS := Lib.hid (fun u v W (hx : Ivs W u ((numA j ++ numB h).map sing)) (hy : Ivs W v ((numA j ++ numB h).map sing)) => same_true u v _ W hx hy (by rw [List.length_map, List.length_append, numA_len, numB_len]; have := hlen.out; omega))
              have HA3 := Lib.hid (HA'.out.mono (bw_via Hb3.out (below1 w3 (.cells #[] 27))))
              have HB3 := Lib.hid (fun W (hb : Below w3.heap.size w3 W) => HB.out.mono (bw_via Hb3.out hb))
              have hj5 : 0 + j ≤ 1000 := by have := hlen.out; omega
              have hj6 : j + h ≤ 1000 := by have := hlen.out; omega
              go_wp2_with (first
                | (at_builtin; have _t := Hown5; clear _t; refine wpAppI rfl _ _ rfl w3.heap.size j h _ _ _ _ ((numA j).map sing) ((numB h).map sing) rfl rfl Hown5.out (HB3.out _ Hb5.out) hj6 Hb5.out.size ?_; intro v' w6 hown' hg'; have Hb6 := Lib.hid (below_own Hb5.out Hown5.out (Nat.le_refl _) Hb5.out.size hg'); rw [← List.map_append] at hown'; have Hown6 := Lib.hid (own_ivs hown'); obtain ⟨a6, c6, rfl, -, -⟩ := own_open hown'; clear hown' hg')
                | (at_builtin; refine wpAppI rfl _ _ rfl w3.heap.size 0 j _ _ _ _ [] ((numA j).map sing) rfl rfl (own_zero w3 27) HA3.out hj5 (by simp) ?_; intro v' w5 hown' hg'; have Hb5 := Lib.hid (below_own (below1 w3 (.cells #[] 27)) (own_zero w3 27) (Nat.le_refl _) (by simp) hg'); rw [Nat.zero_add, List.nil_append] at hown'; obtain ⟨a5, c5, rfl, -, -⟩ := own_open hown'; have Hown5 := Lib.hid hown'; clear hown' hg')
                | (go_at_call 7; refine (HS.out _ _ _ (Hu.out.mono Hb6.out) Hown6.out).mono ?_; rintro e w7 ⟨rfl, hb7⟩; have HBC := Lib.hid (bw_via Hb3.out (bw_via Hb6.out hb7)); clear hb7)
                | (go_at_call 8; refine (HC.out _ HBC.out).mono ?_; rintro e w4 ⟨rfl, hb4⟩; have Hb4 := Lib.hid (HBC.out.via hb4 HBC.out.size); clear hb4))
              go_ret
              exact ⟨rfl, Hbw.out.via Hb4.out Hbw.out.size⟩

end Go.Proofs.YtfmgjcgcocidfaaGreatDoor
