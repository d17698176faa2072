/-
  Magnitudes: trim, signed, Sign, order.
-/
import Derived.Test.YtfmgjcgcocidfaaGreatDoorGen
namespace Go.Proofs.YtfmgjcgcocidfaaGreatDoor
open Go.RowKit

def u32s (l : List Nat) : List Value := l.map fun d : Nat => .int .u32 (d : Int)
/-- A slice that reads as limbs. -/
def Ls (w : World) (v : Value) (l : List Nat) : Prop := Sl w 1 v ((u32s l).map c1)
theorem Ls.mono {w w' : World} {v : Value} {l : List Nat} (h : Ls w v l) (hb : Below w.heap.size w w') : Ls w' v l := Sl.mono h hb
theorem Ls.open {w : World} {v : Value} {l : List Nat} (h : Ls w v l) : ∃ a cap, v = .slice a l.length cap ∧ l.length ≤ cap ∧ cap ≤ maxLen := by
  have := Sl.open h; simpa [u32s] using this
theorem Ls.at {w wr : World} {n cap : Nat} {a : Option Addr} {l : List Nat} (hS : Ls w (.slice a n cap) l) (hb : Below w.heap.size w wr) {k : Nat} (hk : k < n) :
    ∃ b off d, a = some ⟨b, off, none⟩ ∧ l[k]? = some d ∧ wr.cell? ⟨b, off + k, none⟩ = some (.int .u32 (d : Int)) := by
  obtain ⟨b, off, x, ha, hx, h0⟩ := Sl.at1 hS hb hk
  simp only [u32s, List.getElem?_map, Option.map_eq_some_iff] at hx
  obtain ⟨d, hd, rfl⟩ := hx
  exact ⟨b, off, d, ha, hd, h0⟩
/-- The first limbs of a slice. -/
theorem Ls.take {w : World} {a : Option Addr} {n cap : Nat} {l : List Nat} (h : Ls w (.slice a n cap) l) {k : Nat} (hk : k ≤ n) : Ls w (.slice a k cap) (l.take k) := by
  obtain ⟨a', cap', hv, hc, hm, hh⟩ := h
  cases hv
  simp only [u32s, List.length_map] at hc hh hk
  have hl : ((u32s (l.take k)).map c1).length = k := by simp [u32s]; omega
  refine ⟨a, cap, by rw [hl], by rw [hl]; omega, hm, ?_⟩
  rcases hh with h0 | ⟨b, off, ha, hlt, hcell⟩
  · exact .inl h0
  · refine .inr ⟨b, off, ha, hlt, fun i j hi hj => ?_⟩
    rw [hl] at hi
    rw [hcell i j (by omega) hj]
    simp [u32s, List.getD_eq_getElem?_getD, hi]
theorem Ls.nil (w : World) : Ls w (.slice none 0 0) [] := Sl.nil w 1

/-- An integer: its sign, its magnitude. -/
def IntV (w : World) (v : Value) (z : Int) : Prop := ∃ a c, v = .agg #[.bool (decide (z < 0)), .slice a (limbs z.natAbs).length c] ∧ Ls w (.slice a (limbs z.natAbs).length c) (limbs z.natAbs)
theorem IntV.mono {w w' : World} {v : Value} {z : Int} (h : IntV w v z) (hb : Below w.heap.size w w') : IntV w' v z := by
  obtain ⟨a, c, hv, h⟩ := h
  exact ⟨a, c, hv, h.mono hb⟩

theorem take_last {l : List Nat} {j d : Nat} (h : l[j]? = some d) : (l.take (j + 1)).getLast? = some d := by
  rw [List.take_add_one, h]; simp

set_option maxHeartbeats 2000000 in
theorem trim_any (a : Option Addr) (n c : Nat) (l : List Nat) (w : World) (hL : Ls w (.slice a n c) l) (hd : Dg l) :
    Calls Tryz.prog 121 #[.slice a n c] w (fun e w' => e = .returned (.slice a (limbs (natL l)).length c) ∧ Ls w (.slice a (limbs (natL l)).length c) (limbs (natL l)) ∧ Below w.heap.size w w') := by
  obtain ⟨_, _, hq, hc1, hc2⟩ := hL.open
  cases hq
  unfold maxLen at hc2
  have HL := Lib.hid hL
  have Hd := Lib.hid hd
  clear hL hd
  generalize hn : l.length = n at *
  have Hn := Lib.hid hn
  clear hn
  go_enter Tryz.func121, Tryz.ntmps121
  go_wp2
  go_loopw [0] (fun m wr => ∃ k : Nat, k ≤ n ∧ m = .slice a k c ∧ Below w.heap.size w wr ∧ Hid (natL (l.take k) = natL l)) (fun m _ => match m with | .slice _ k _ => k | _ => 0)
  case atStart => exact ⟨n, Nat.le_refl _, rfl, Below.refl _ _, by unfold Hid; rw [← Hn.out, List.take_length]⟩
  case round =>
    obtain ⟨k, hk, rfl, hbw, hpre⟩ := hrel
    rcases k with _ | j
    · have hl0 : limbs (natL l) = [] := by rw [← hpre.out]; exact limbs_zero
      have Hl0 := Lib.hid hl0
      clear hl0
      go_wp2_with fail
      go_ret
      refine ⟨?_, ?_, hbw⟩
      · rw [Hl0.out]; rfl
      · rw [Hl0.out]; exact HL.out.take (Nat.zero_le _)
    · obtain ⟨b, off, d, rfl, hdk, c0⟩ := HL.out.at hbw (show j < n by omega)
      have Hdk := Lib.hid hdk
      have hij : ((((j + 1 : Nat) : Int) - 1)) = (j : Int) := by omega
      have hi64 : IntKind.i64.wrap (j : Int) = j := IntWalk.i64_in _ (by omega)
      have hjn : (j : Int) < (n : Int) := by omega
      have hjp : (0 : Int) < ((j + 1 : Nat) : Int) := by omega
      clear hdk
      by_cases hz : d = 0
      · subst hz
        go_wp2_with fail
        go_roundw
        case rel => exact ⟨j, by omega, by go_num, hbw, by unfold Hid; rw [← hpre.out, take_next Hdk.out]; simp⟩
        case measure => simp
      · have hz2 : ((d : Int) == 0) = false := by simpa using hz
        have hfin : limbs (natL l) = l.take (j + 1) := by
          rw [← hpre.out]
          exact limbs_of (Hd.out.take _) (fun e he => by rw [take_last Hdk.out] at he; cases he; exact hz)
        have hlen : (limbs (natL l)).length = j + 1 := by rw [hfin, List.length_take, Hn.out]; omega
        have Hfin := Lib.hid hfin
        have Hlen := Lib.hid hlen
        clear hfin hlen
        go_wp2_with fail
        go_ret
        refine ⟨?_, ?_, hbw⟩
        · rw [Hlen.out]; rfl
        · rw [Hlen.out, Hfin.out]; exact HL.out.take (by omega)

/-- The trimmed part of a slice. -/
theorem trim_sub {w : World} {a : Option Addr} {n c : Nat} {l : List Nat} (hL : Ls w (.slice a n c) l) (hd : Dg l) : Ls w (.slice a (limbs (natL l)).length c) (limbs (natL l)) := by
  obtain ⟨_, _, hq, _, _⟩ := hL.open
  cases hq
  obtain ⟨k, hk, he⟩ := limbs_take hd
  rw [he, List.length_take, Nat.min_eq_left hk]
  exact hL.take hk
theorem sgn_neg {neg : Bool} {n : Nat} : decide (sgn neg n < 0) = (neg && decide (0 < n)) := by
  cases neg
  · simp [sgn]
  · simp [sgn]

/-- The address of limbs lies in a block of limbs. -/
def AU (w : World) (a : Option Addr) : Prop := ∀ p, a = some p → ∃ cs, Blk w p.block cs 117
theorem AU.none (w : World) : AU w none := fun p h => by cases h
theorem AU.mono {w w' : World} {a : Option Addr} (h : AU w a) (hb : Below w.heap.size w w') : AU w' a := fun p hp => by
  obtain ⟨cs, hc⟩ := h p hp
  exact ⟨cs, hc.below hb⟩
theorem AU.set {w : World} {a : Option Addr} (h : AU w a) (b i : Nat) (u : Value) : AU (w.setCell ⟨b, i, .none⟩ u) a := fun p hp => by
  obtain ⟨cs, hc⟩ := h p hp
  by_cases hb : p.block = b
  · subst hb
    exact ⟨_, hc.set i u⟩
  · exact ⟨cs, hc.other hb u⟩
theorem AU.grown {w w' : World} {B e sz n : Nat} {v : Value} {xs : List Value} {a : Option Addr} (h : AU w a) (hown : w.ownsRow B e sz v n xs) (he : e ≠ 117) (hg : w.grownBy w' v.ownBlock) : AU w' a := fun p hp => by
  obtain ⟨cs, hc⟩ := h p hp
  refine ⟨cs, (hg.block p.block hc.lt ?_).trans hc⟩
  intro heq
  rcases hown.2 with ⟨rfl, _⟩ | ⟨g, cap, cur, rfl, -, hgb, -⟩
  · cases heq
  · simp only [Value.ownBlock, Option.some.injEq] at heq
    rw [← heq, hc] at hgb
    cases hgb
    exact he rfl
/-- Limbs whose block is known for one of limbs are kept where another row grows. -/
theorem Ls.grown {w w' : World} {B e sz n k c : Nat} {v : Value} {xs : List Value} {a : Option Addr} {l : List Nat} (h : Ls w (.slice a k c) l) (ha : AU w a) (hown : w.ownsRow B e sz v n xs) (he : e ≠ 117) (hg : w.grownBy w' v.ownBlock) : Ls w' (.slice a k c) l := by
  obtain ⟨a', c', hv, hc, hm, hh⟩ := h
  refine ⟨a', c', hv, hc, hm, ?_⟩
  cases hv
  rcases hh with h0 | ⟨b, off, rfl, hlt, hcell⟩
  · exact .inl h0
  · refine .inr ⟨b, off, rfl, Nat.lt_of_lt_of_le hlt hg.size, fun i j hi hj => ?_⟩
    obtain ⟨cs, hcs⟩ := ha _ rfl
    have hne : some b ≠ v.ownBlock := by
      intro heq
      rcases hown.2 with ⟨rfl, _⟩ | ⟨g, cap, cur, rfl, -, hgb, -⟩
      · cases heq
      · simp only [Value.ownBlock, Option.some.injEq] at heq
        rw [← heq] at hgb
        rw [show ((⟨b, off, .none⟩ : Addr).block) = b from rfl] at hcs
        rw [hcs] at hgb
        cases hgb
        exact he rfl
    rw [World.cell?_of_block (a := ⟨b, _, .none⟩) (hg.block b hlt hne)]
    exact hcell i j hi hj
set_option maxHeartbeats 2000000 in
theorem signed_at (neg : Bool) (a : Option Addr) (n c : Nat) (l : List Nat) (w : World) (hL : Ls w (.slice a n c) l) (hd : Dg l) :
    Calls Tryz.prog 82 #[.bool neg, .slice a n c] w (RetP (fun v w' => IntV w' v (sgn neg (natL l)) ∧ ∃ x k, v = .agg #[.bool x, .slice a k c]) w) := by
  have hb0 := below1 w (.cells #[.bool false, .slice none 0 0] 48)
  have hT := trim_any a n c l _ (hL.mono hb0) hd
  have hLw : Ls w (.slice a (limbs (natL l)).length c) (limbs (natL l)) := trim_sub hL hd
  have HLw := Lib.hid hLw
  have H := Lib.hid hT
  have hB : Blk (w.alloc (.cells #[.bool false, .slice none 0 0] 48)) w.heap.size #[.bool false, .slice none 0 0] 48 := Blk.new _ _ _
  have HB := Lib.hid hB
  have Hb0 := Lib.hid hb0
  have hneg := sgn_neg (neg := neg) (n := natL l)
  have hz := sgn_abs neg (natL l)
  have hlz : (limbs (natL l)).length = 0 ↔ natL l = 0 := by rw [List.length_eq_zero_iff]; exact limbs_nil
  clear hL hd hb0 hB hT hLw
  generalize hS : sgn neg (natL l) = S at *
  generalize natL l = N at *
  unfold RetP IntV
  rw [hz, hneg]
  generalize hk : (limbs N).length = k at *
  have Hk := Lib.hid hk
  clear hneg hz hk hS
  have hdec : decide (0 < N) = decide (0 < k) := by
    rw [decide_eq_decide]; omega
  rw [hdec]
  clear hdec hlz
  go_enter Tryz.func82, Tryz.ntmps82
  rcases neg with _ | _
  · go_wp2_with (go_at_call 121; refine (H.out).mono ?_; rintro e w1 ⟨rfl, -, hb1⟩; have hb := HB.out.below hb1; have c0 := hb.cell 0; have c1' := hb.cell 1; have f0 := hb.free 0; have f1 := hb.free 1; simp only [List.getElem?_toArray, List.getElem?_cons_succ, List.getElem?_cons_zero] at c0 c1')
    have h2 := (hb.set 0 (.bool false)).set 1 (.slice a k c)
    have r0 := h2.cell 0
    have r1 := h2.cell 1
    have hbel : Below w.heap.size w ((w1.setCell ⟨w.heap.size, 0, none⟩ (.bool false)).setCell ⟨w.heap.size, 1, none⟩ (.slice a k c)) := ((Hb0.out.via hb1 Hb0.out.size).setCell (p := ⟨w.heap.size, 0, none⟩) (Nat.le_refl _) _).setCell (p := ⟨w.heap.size, 1, none⟩) (Nat.le_refl _) _
    simp at r0 r1
    exact bodyPost_ret (v := .agg #[.bool false, .slice a k c]) (by simp [results, Tryz.results82, go_sem, r0, r1]) rfl ⟨_, rfl, ⟨⟨a, c, by simp, HLw.out.mono hbel⟩, _, _, rfl⟩, hbel⟩
  · by_cases hk0 : 0 < k
    · have hk1 : (0 : Int) < (k : Int) := by omega
      go_wp2_with (go_at_call 121; refine (H.out).mono ?_; rintro e w1 ⟨rfl, -, hb1⟩; have hb := HB.out.below hb1; have c0 := hb.cell 0; have c1' := hb.cell 1; have f0 := hb.free 0; have f1 := hb.free 1; simp only [List.getElem?_toArray, List.getElem?_cons_succ, List.getElem?_cons_zero] at c0 c1')
      have h2 := (hb.set 0 (.bool true)).set 1 (.slice a k c)
      have r0 := h2.cell 0
      have r1 := h2.cell 1
      have hbel : Below w.heap.size w ((w1.setCell ⟨w.heap.size, 0, none⟩ (.bool true)).setCell ⟨w.heap.size, 1, none⟩ (.slice a k c)) := ((Hb0.out.via hb1 Hb0.out.size).setCell (p := ⟨w.heap.size, 0, none⟩) (Nat.le_refl _) _).setCell (p := ⟨w.heap.size, 1, none⟩) (Nat.le_refl _) _
      simp at r0 r1
      exact bodyPost_ret (v := .agg #[.bool true, .slice a k c]) (by simp [results, Tryz.results82, go_sem, r0, r1]) rfl ⟨_, rfl, ⟨⟨a, c, by simp [hk0], HLw.out.mono hbel⟩, _, _, rfl⟩, hbel⟩
    · have hk1 : ¬ (0 : Int) < (k : Int) := by omega
      go_wp2_with (go_at_call 121; refine (H.out).mono ?_; rintro e w1 ⟨rfl, -, hb1⟩; have hb := HB.out.below hb1; have c0 := hb.cell 0; have c1' := hb.cell 1; have f0 := hb.free 0; have f1 := hb.free 1; simp only [List.getElem?_toArray, List.getElem?_cons_succ, List.getElem?_cons_zero] at c0 c1')
      have h2 := (hb.set 0 (.bool false)).set 1 (.slice a k c)
      have r0 := h2.cell 0
      have r1 := h2.cell 1
      have hbel : Below w.heap.size w ((w1.setCell ⟨w.heap.size, 0, none⟩ (.bool false)).setCell ⟨w.heap.size, 1, none⟩ (.slice a k c)) := ((Hb0.out.via hb1 Hb0.out.size).setCell (p := ⟨w.heap.size, 0, none⟩) (Nat.le_refl _) _).setCell (p := ⟨w.heap.size, 1, none⟩) (Nat.le_refl _) _
      simp at r0 r1
      exact bodyPost_ret (v := .agg #[.bool false, .slice a k c]) (by simp [results, Tryz.results82, go_sem, r0, r1]) rfl ⟨_, rfl, ⟨⟨a, c, by simp [hk0], HLw.out.mono hbel⟩, _, _, rfl⟩, hbel⟩

theorem signed_any (neg : Bool) (a : Option Addr) (n c : Nat) (l : List Nat) (w : World) (hL : Ls w (.slice a n c) l) (hd : Dg l) :
    Calls Tryz.prog 82 #[.bool neg, .slice a n c] w (RetP (fun v w' => IntV w' v (sgn neg (natL l))) w) := (signed_at neg a n c l w hL hd).mono fun _ _ ⟨v, he, h, hb⟩ => ⟨v, he, h.1, hb⟩

end Go.Proofs.YtfmgjcgcocidfaaGreatDoor
