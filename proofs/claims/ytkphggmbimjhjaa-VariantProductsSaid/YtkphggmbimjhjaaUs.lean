/-
  mentions, Used.
-/
import Derived.Test.YtkphggmbimjhjaaFst2
import Derived.Test.YtkphggmbimjhjaaIx
import Derived.Test.YtkphggmbimjhjaaLit
import Derived.Test.YtkphggmbimjhjaaPln
namespace Go.Proofs.Ytkphggmbimjhjaa
open Go.RowKit

/-- A literal names the option. -/
def mentB (ls : List Lit1) (o : Int) : Bool := ls.any fun l => l.1 == o
/-- The places, of the first k, whose literals name the option. -/
def mTo (xs : List (List Lit1)) (o : Int) : Nat → List Int
  | 0 => []
  | k + 1 => mTo xs o k ++ (if mentB (xs.getD k []) o then [(k : Int)] else [])
theorem mTo_len (xs : List (List Lit1)) (o : Int) : ∀ k, (mTo xs o k).length ≤ k
  | 0 => by simp [mTo]
  | k + 1 => by
    have := mTo_len xs o k
    simp only [mTo, List.length_append]
    split <;> simp <;> omega
theorem mTo_succ {xs : List (List Lit1)} {o : Int} {k : Nat} {ls : List Lit1} (h : xs[k]? = some ls) : mTo xs o (k + 1) = mTo xs o k ++ (if mentB ls o then [(k : Int)] else []) := by
  rw [mTo, List.getD_eq_getElem?_getD, h]; rfl

set_option maxHeartbeats 400000 in
theorem mentions_any (ls : List Lit1) (v : Value) (o : Int) (w : World) (hS : Lits w v ls) (hlen : ls.length < 1000) :
    Calls Try.prog 27 #[v, .int .i64 o] w (Ret (.bool (mentB ls o)) w) := by
  obtain ⟨a, cap, rfl, -, -⟩ := hS.open
  generalize hn : ls.length = n at *
  have Hn := Lib.hid hn
  clear hn
  go_enter Try.func27, Try.ntmps27
  go_wp2
  go_loop [5] (fun i => ∃ k : Nat, k ≤ n ∧ i = .int .i64 k ∧ Hid (∀ y ∈ ls.take k, (y.1 == o) = false)) (fun i => n - (intOf i).toNat)
  case atStart => exact ⟨0, Nat.zero_le _, rfl, Lib.hid (by simp)⟩
  case round =>
    obtain ⟨k, hk, rfl, hpre⟩ := hrel
    by_cases hlt2 : k < n
    · obtain ⟨b, off, l, rfl, hl, c0, -⟩ := hS.at (Below.refl _ _) hlt2
      have HL := Lib.hid hl
      clear hl
      cases hh : l.1 == o
      · have HH := Lib.hid hh
        go_wp2
        go_round
        case rel => exact ⟨k + 1, by omega, by go_num, Lib.hid (take_succ_all hpre.out HL.out HH.out)⟩
        case measure => simp [intOf]; omega
      · have HH := Lib.hid hh
        go_wp2
        go_ret
        exact ⟨ret_bool (any_true HL.out HH.out).symm, Below.refl _ _⟩
    · go_wp2
      go_ret
      exact ⟨ret_bool (any_false hpre.out (by have := Hn.out; omega)).symm, Below.refl _ _⟩

theorem ment1_any (i o : Int) (b : Bool) (B : Nat) (w : World) (hB : w.cell? ⟨B, 0, none⟩ = some (.int .i64 o)) :
    Calls Try.prog 56 #[.agg #[.int .i64 i, .bool b], .pointer (some ⟨B, 0, none⟩)] w (Ret (.bool (i == o)) w) := by
  have hBl := blt hB
  go_enter Try.func56, Try.ntmps56
  go_wp2
  go_ret
  exact ⟨rfl, below1 w _⟩
theorem enters56 : ∀ args w, (callFunc 56 args).run Try.prog w = .ok (.enter 56 args) w := enters_of Try.func56 (by kernel_rfl) rfl
theorem enters54 : ∀ args w, (callFunc 54 args).run Try.prog w = .ok (.enter 54 args) w := enters_of Try.func54 (by kernel_rfl) rfl
theorem pred56 (o : Int) (ls : List Lit1) (B : Nat) (w : World) (hB : w.cell? ⟨B, 0, none⟩ = some (.int .i64 o)) : PredOn 56 #[.pointer (some ⟨B, 0, none⟩)] w (ls.map litV) (ls.map fun l => l.1 == o) := by
  refine ⟨enters56, by simp, fun w' hb k r b hr hbk => ?_⟩
  simp only [List.getElem?_map, Option.map_eq_some_iff] at hr hbk
  obtain ⟨l, hl, rfl⟩ := hr
  obtain ⟨l', hl', rfl⟩ := hbk
  rw [hl] at hl'
  obtain rfl : l = l' := by simpa using hl'
  exact ment1_any l.1 o l.2 B w' (cell_le hB hb)
theorem named_any (ls : List Lit1) (v : Value) (o : Int) (B : Nat) (w : World) (hS : Lits w v ls) (hlen : ls.length < 1000) (hB : w.cell? ⟨B, 0, none⟩ = some (.int .i64 o)) :
    Calls Try.prog 54 #[v, .pointer (some ⟨B, 0, none⟩)] w (Ret (.bool (mentB ls o)) w) := by
  have H := Lib.hid (cf55 56 #[.pointer (some ⟨B, 0, none⟩)] (ls.map litV) (ls.map fun l => l.1 == o) v w hS (pred56 o ls B w hB) (by simp; omega))
  have e : (ls.map fun l => l.1 == o).any (fun b => b) = mentB ls o := by unfold mentB; rw [List.any_map]; rfl
  rw [e] at H
  clear hS hB e
  go_enter Try.func54, Try.ntmps54
  go_wp2_with (go_at_call 55; refine (H.out).mono ?_; rintro e w' ⟨rfl, hb'⟩)
  go_ret
  exact ⟨rfl, hb'⟩

/-- A family's option that is none of its own. -/
theorem used_bad (q1 q2 q3 q4 q5 q6 q7 q8 q9 q10 : Value) (opts : List ByteArray) (rs : List Rule1) (gs : List Guard1) (os : List Ov1) (mI : Nat) (ds : List Dim1) (o : Int) (w : World)
    (hF : Fam w q1 q2 q3 q4 q5 q6 q7 q8 q9 q10 opts rs gs os mI ds) (ho : o < 0 ∨ (opts.length : Int) ≤ o) :
    Calls Try.prog 29 #[.agg #[q1, q2, q3, q4, q5, q6, q7, q8, q9, q10], .int .i64 o] w (Ret (.tuple #[.slice none 0 0, .slice none 0 0, .int .i64 10]) w) := by
  obtain ⟨ai, ci, rfl⟩ := hF.insts
  obtain ⟨a1, p1, rfl, -, x1⟩ := hF.opt.open
  have hb0 := below2 w (.cells #[q1, q2, .slice ai mI ci, q4, q5, q6, .slice a1 opts.length p1, q8, q9, q10] 41) (.cells #[.int .i64 o] 3)
  have hM := hF.mono hb0
  have H1 := Lib.hid (check_any q1 q2 (.slice ai mI ci) q4 q5 q6 (.slice a1 opts.length p1) q8 q9 q10 opts rs gs os ai mI ci ds _ rfl hM.opt hM.rul hM.grd hM.ovr hM.dims hM.ok)
  have B0 := Lib.hid (show Blk ((w.alloc (.cells #[q1, q2, .slice ai mI ci, q4, q5, q6, .slice a1 opts.length p1, q8, q9, q10] 41)).alloc (.cells #[.int .i64 o] 3)) w.heap.size #[q1, q2, .slice ai mI ci, q4, q5, q6, .slice a1 opts.length p1, q8, q9, q10] 41 from (Blk.new w _ _).old _)
  have b1 := Blk.new (w.alloc (.cells #[q1, q2, .slice ai mI ci, q4, q5, q6, .slice a1 opts.length p1, q8, q9, q10] 41)) #[.int .i64 o] 3
  simp only [World.size_alloc] at b1
  have B1 := Lib.hid b1
  have Hb0 := Lib.hid hb0
  clear hM hF hb0 b1
  generalize opts.length = n at *
  rcases ho with h | h
  · go_enter Try.func29, Try.ntmps29
    go_wp2_with (go_at_call 51; refine (H1.out).mono ?_; rintro e w1 ⟨rfl, hb1⟩; have c1 := (B1.out.below hb1).cell 0; have c0 := (B0.out.below hb1).cell 6; simp only [List.getElem?_toArray, List.getElem?_cons_succ, List.getElem?_cons_zero] at c0 c1)
    go_ret3
    exact Ret.mk (Hb0.out.via hb1 Hb0.out.size)
  · have h' : ¬ o < 0 := by omega
    go_enter Try.func29, Try.ntmps29
    go_wp2_with (go_at_call 51; refine (H1.out).mono ?_; rintro e w1 ⟨rfl, hb1⟩; have c1 := (B1.out.below hb1).cell 0; have c0 := (B0.out.below hb1).cell 6; simp only [List.getElem?_toArray, List.getElem?_cons_succ, List.getElem?_cons_zero] at c0 c1)
    go_ret3
    exact Ret.mk (Hb0.out.via hb1 Hb0.out.size)

set_option maxHeartbeats 2000000 in
theorem used_ok (q1 q2 q3 q4 q5 q6 q7 q8 q9 q10 : Value) (opts : List ByteArray) (rs : List Rule1) (gs : List Guard1) (os : List Ov1) (mI : Nat) (ds : List Dim1) (o : Int) (w : World)
    (hF : Fam w q1 q2 q3 q4 q5 q6 q7 q8 q9 q10 opts rs gs os mI ds) (h0 : 0 ≤ o) (h1 : o < (opts.length : Int)) :
    Calls Try.prog 29 #[.agg #[q1, q2, q3, q4, q5, q6, q7, q8, q9, q10], .int .i64 o] w (fun e w' => ∃ gv ov, e = .returned (.tuple #[gv, ov, .int .i64 0]) ∧ Ints w' gv (mTo (gs.map (·.2)) o gs.length) ∧ Ints w' ov (mTo (os.map (·.1)) o os.length) ∧ Below w.heap.size w w') := by
  obtain ⟨ai, ci, rfl⟩ := hF.insts
  obtain ⟨a1, p1, rfl, -, x1⟩ := hF.opt.open
  obtain ⟨a3, p3, rfl, -, x3⟩ := hF.grd.open
  obtain ⟨a4, p4, rfl, -, x4⟩ := hF.ovr.open
  have hb0 := below2 w (.cells #[q1, q2, .slice ai mI ci, q4, q5, q6, .slice a1 opts.length p1, q8, .slice a3 gs.length p3, .slice a4 os.length p4] 41) (.cells #[.int .i64 o] 3)
  have hM := hF.mono hb0
  have H1 := Lib.hid (check_any q1 q2 (.slice ai mI ci) q4 q5 q6 (.slice a1 opts.length p1) q8 (.slice a3 gs.length p3) (.slice a4 os.length p4) opts rs gs os ai mI ci ds _ rfl hM.opt hM.rul hM.grd hM.ovr hM.dims hM.ok)
  have B0 := Lib.hid (show Blk ((w.alloc (.cells #[q1, q2, .slice ai mI ci, q4, q5, q6, .slice a1 opts.length p1, q8, .slice a3 gs.length p3, .slice a4 os.length p4] 41)).alloc (.cells #[.int .i64 o] 3)) w.heap.size #[q1, q2, .slice ai mI ci, q4, q5, q6, .slice a1 opts.length p1, q8, .slice a3 gs.length p3, .slice a4 os.length p4] 41 from (Blk.new w _ _).old _)
  have b1 := Blk.new (w.alloc (.cells #[q1, q2, .slice ai mI ci, q4, q5, q6, .slice a1 opts.length p1, q8, .slice a3 gs.length p3, .slice a4 os.length p4] 41)) #[.int .i64 o] 3
  simp only [World.size_alloc] at b1
  have B1 := Lib.hid b1
  have Hb0 := Lib.hid hb0
  have hg48 := hF.ok.gs48
  have ho48 := hF.ok.os48
  have HM := Lib.hid hM
  clear hM hF hb0 b1
  generalize hn : opts.length = n at *
  generalize hgn : gs.length = gn at *
  generalize hon : os.length = on at *
  have Hgn := Lib.hid hgn
  have Hon := Lib.hid hon
  clear hn hgn hon
  have h0' : ¬ o < 0 := by omega
  go_enter Try.func29, Try.ntmps29
  go_wp2_with (go_at_call 51; refine (H1.out).mono ?_; rintro e w1 ⟨rfl, hb1⟩; have c1 := (B1.out.below hb1).cell 0; have c0 := (B0.out.below hb1).cell 6; have c8 := (B0.out.below hb1).cell 8; have c9 := (B0.out.below hb1).cell 9; simp only [List.getElem?_toArray, List.getElem?_cons_succ, List.getElem?_cons_zero] at c0 c1 c8 c9)
  have Hb1 := Lib.hid (Hb0.out.via hb1 Hb0.out.size)
  have HMx := Lib.hid (fun w' (h : Below w1.heap.size w1 w') => HM.out.mono (hb1.via h hb1.size))
  have Hc1 := Lib.hid (fun w' (h : Below w1.heap.size w1 w') => ((B1.out.below hb1).below h).cell 0)
  have Hc0 := Lib.hid (fun w' (h : Below w1.heap.size w1 w') => ((B0.out.below hb1).below h).cell 9)
  have HN := Lib.hid (fun w' ls v (h : Below w1.heap.size w1 w') (hL : Lits w' v ls) (hl : ls.length < 1000) => named_any ls v o _ w' hL hl (((B1.out.below hb1).below h).cell 0))
  clear hb1 c1 c0 c8 c9 B0 B1 H1 HM
  have en54 := enters54
  go_loopw [9, 33] (fun v i wr => ∃ j : Nat, j ≤ gn ∧ i = .int .i64 j ∧ Below w1.heap.size w1 wr ∧ wr.ownsRow w1.heap.size 3 1 v (mTo (gs.map (·.2)) o j).length ((mTo (gs.map (·.2)) o j).map (Value.int .i64))) (fun _ i _ => gn - (intOf i).toNat)
  case atStart => exact ⟨0, Nat.zero_le _, rfl, Below.refl _ _, World.ownsRow_nil _ _ _ _⟩
  case round =>
    obtain ⟨j, hj, rfl, hbr, hown⟩ := hrel
    have hml := mTo_len (gs.map (·.2)) o j
    by_cases hlt : j < gn
    · obtain ⟨b, off, av, g, rfl, hg, g0, g1, hL⟩ := (HMx.out _ (Below.refl _ _)).grd.at hbr hlt
      have hgl : (gs.map (·.2))[j]? = some g.2 := by rw [List.getElem?_map, hg]; rfl
      have Hs := Lib.hid (mTo_succ (o := o) hgl)
      have hlen := ((HMx.out _ (Below.refl _ _)).ok.gsLit g (List.mem_of_getElem? hg)).2
      obtain ⟨aa, ac, rfl, -, -⟩ := hL.open
      have hblt := World.block_lt_of_cell? _ _ g0
      have HNj := Lib.hid (fun w' (h : Below wr.heap.size wr w') => HN.out w' g.2 (.slice aa g.2.length ac) (hbr.via h hbr.size) (hL.mono h) hlen)
      have Hbr := Lib.hid hbr
      have Hown := Lib.hid hown
      generalize mentB g.2 o = mb at *
      generalize g.2.length = gl at *
      cases mb
      · have hbrs := hbr.size
        clear hbr hown hL hgl hg
        go_wp2_with (go_at_call 54; refine (HNj.out _ (below1 wr _)).mono ?_; rintro e w3 ⟨rfl, hb3⟩; have hb3 := (below1 wr _).via hb3 (by simp))
        go_roundw
        case rel => exact ⟨j + 1, by omega, by go_num, Hbr.out.via hb3 Hbr.out.size, by rw [Hs.out]; simpa using own_below Hown.out hb3⟩
        case measure => simp [intOf]; omega
      · have hbrs := hbr.size
        clear hbr hown hL hgl hg
        go_wp2_with (first | (go_at_call 54; refine (HNj.out _ (below1 wr _)).mono ?_; rintro e w3 ⟨rfl, hb3⟩; have hb3 := (below1 wr _).via hb3 (by simp); have hown3 := own_below Hown.out hb3; have hbw3 := Hbr.out.via hb3 Hbr.out.size) | (at_builtin; refine wpApp E50 (by decide) [.int .i64 (j : Int)] rfl _ _ rfl w1.heap.size _ _ _ rfl rfl hown3 rfl (one1 _ rfl) (by omega) (by decide) hbw3.size ?_; intro v' w4 hown' hg'; have hbw4 := below_app hbw3 hown3 hg' hbw3.size))
        go_roundw
        case rel => exact ⟨j + 1, by omega, by go_num, hbw4, by rw [Hs.out]; simpa using hown'⟩
        case measure => simp [intOf]; omega
    · obtain rfl : j = gn := by omega
      have Hg9 := Lib.hid (show Ints wr u9 (mTo (gs.map (·.2)) o j) from Sl.own1 hown)
      have Hb2 := Lib.hid (Hb1.out.via hbr Hb1.out.size)
      have HMy := Lib.hid (HMx.out _ hbr)
      have HNy := Lib.hid (fun w' ls v (h : Below wr.heap.size wr w') (hL : Lits w' v ls) (hl : ls.length < 1000) => HN.out w' ls v (hbr.via h hbr.size) hL hl)
      have d9 := Hc0.out _ hbr
      simp only [List.getElem?_toArray, List.getElem?_cons_succ, List.getElem?_cons_zero] at d9
      have hblt9 := World.block_lt_of_cell? _ _ d9
      clear hbr hown hml HN HMx
      go_wp2_with fail
      rename World => w2
      have HN := HNy
      go_loopw [10, 50] (fun v i wr => ∃ j : Nat, j ≤ on ∧ i = .int .i64 j ∧ Below w2.heap.size w2 wr ∧ wr.ownsRow w2.heap.size 3 1 v (mTo (os.map (·.1)) o j).length ((mTo (os.map (·.1)) o j).map (Value.int .i64))) (fun _ i _ => on - (intOf i).toNat)
      case atStart => exact ⟨0, Nat.zero_le _, rfl, Below.refl _ _, World.ownsRow_nil _ _ _ _⟩
      case round =>
        obtain ⟨j, hj, rfl, hbr, hown⟩ := hrel
        have hml := mTo_len (os.map (·.1)) o j
        by_cases hlt : j < on
        · obtain ⟨b, off, av, g, rfl, hg, g0, g1, g2, g3, g4, g5, hL⟩ := HMy.out.ovr.at hbr hlt
          have hgl : (os.map (·.1))[j]? = some g.1 := by rw [List.getElem?_map, hg]; rfl
          have Hs := Lib.hid (mTo_succ (o := o) hgl)
          have hlen := (HMy.out.ok.osLit g (List.mem_of_getElem? hg)).2
          obtain ⟨aa, ac, rfl, -, -⟩ := hL.open
          have hblt := World.block_lt_of_cell? _ _ g0
          have HNj := Lib.hid (fun w' (h : Below wr.heap.size wr w') => HN.out w' g.1 (.slice aa g.1.length ac) (hbr.via h hbr.size) (hL.mono h) hlen)
          have Hbr := Lib.hid hbr
          have Hown := Lib.hid hown
          generalize mentB g.1 o = mb at *
          generalize g.1.length = gl at *
          cases mb
          · have hbrs := hbr.size
            clear hbr hown hL hgl hg
            go_wp2_with (go_at_call 54; refine (HNj.out _ (below1 wr _)).mono ?_; rintro e w3 ⟨rfl, hb3⟩; have hb3 := (below1 wr _).via hb3 (by simp))
            go_roundw
            case rel => exact ⟨j + 1, by omega, by go_num, Hbr.out.via hb3 Hbr.out.size, by rw [Hs.out]; simpa using own_below Hown.out hb3⟩
            case measure => simp [intOf]; omega
          · have hbrs := hbr.size
            clear hbr hown hL hgl hg
            go_wp2_with (first | (go_at_call 54; refine (HNj.out _ (below1 wr _)).mono ?_; rintro e w3 ⟨rfl, hb3⟩; have hb3 := (below1 wr _).via hb3 (by simp); have hown3 := own_below Hown.out hb3; have hbw3 := Hbr.out.via hb3 Hbr.out.size) | (at_builtin; refine wpApp E50 (by decide) [.int .i64 (j : Int)] rfl _ _ rfl w2.heap.size _ _ _ rfl rfl hown3 rfl (one1 _ rfl) (by omega) (by decide) hbw3.size ?_; intro v' w4 hown' hg'; have hbw4 := below_app hbw3 hown3 hg' hbw3.size))
            go_roundw
            case rel => exact ⟨j + 1, by omega, by go_num, hbw4, by rw [Hs.out]; simpa using hown'⟩
            case measure => simp [intOf]; omega
        · obtain rfl : j = on := by omega
          have Hbr := Lib.hid hbr
          have Ho := Lib.hid (Sl.own1 hown)
          clear hbr hown
          go_wp2_with fail
          go_ret3
          exact ⟨_, _, rfl, Hg9.out.mono Hbr.out, Ho.out, Hb2.out.via Hbr.out Hb2.out.size⟩

end Go.Proofs.Ytkphggmbimjhjaa
