/-
  Parts of the proof: Mag, Int, Cmp.
-/
import Derived.Test.YtlcmhbkmpkcajaaGreatDoorN01
namespace Go.Proofs.YtlcmhbkmpkcajaaGreatDoor
open Go.RowKit
def u32s (l : List Nat) : List Value := l.map fun d : Nat => .int .u32 (d : Int)
def AU (w : World) (a : Option Addr) : Prop := ∀ p, a = some p → ∃ cs, Blk w p.block cs 110
theorem AU.none (w : World) : AU w none := fun p h => by cases h
theorem AU.mono {w w' : World} {a : Option Addr} (h : AU w a) (hb : Below w.heap.size w w') : AU w' a := fun p hp => by
  obtain ⟨cs, hc⟩ := h p hp
  exact ⟨cs, hc.below hb⟩
theorem AU.set {w : World} {a : Option Addr} (h : AU w a) (b i : Nat) (u : Value) : AU (w.setCell ⟨b, i, .none⟩ u) a := fun p hp => by
  obtain ⟨cs, hc⟩ := h p hp
  by_cases hb : p.block = b
  · subst hb
    exact ⟨_, hc.set i u⟩
  · exact ⟨cs, hc.other hb u⟩
theorem AU.grown {w w' : World} {B e sz n : Nat} {v : Value} {xs : List Value} {a : Option Addr} (h : AU w a) (hown : w.ownsRow B e sz v n xs) (he : e ≠ 110) (hg : w.grownBy w' v.ownBlock) : AU w' a := fun p hp => by
  obtain ⟨cs, hc⟩ := h p hp
  refine ⟨cs, (hg.block p.block hc.lt ?_).trans hc⟩
  intro heq
  rcases hown.2 with ⟨rfl, _⟩ | ⟨g, cap, cur, rfl, -, hgb, -⟩
  · cases heq
  · simp only [Value.ownBlock, Option.some.injEq] at heq
    rw [← heq, hc] at hgb
    cases hgb
    exact he rfl
def AV (w : World) (v : Value) : Prop := ∀ a n c, v = .slice a n c → AU w a
theorem AV.mono {w w' : World} {v : Value} (h : AV w v) (hb : Below w.heap.size w w') : AV w' v := fun a n c hv => (h a n c hv).mono hb
theorem AV.au {w : World} {a : Option Addr} {n c : Nat} (h : AV w (.slice a n c)) : AU w a := h a n c rfl
theorem AU.av {w : World} {a : Option Addr} {n c : Nat} (h : AU w a) : AV w (.slice a n c) := fun a' n' c' hv => by cases hv; exact h
def Ls (w : World) (v : Value) (l : List Nat) : Prop := Sl w 1 v ((u32s l).map c1) ∧ AV w v
theorem Ls.mono {w w' : World} {v : Value} {l : List Nat} (h : Ls w v l) (hb : Below w.heap.size w w') : Ls w' v l := ⟨Sl.mono h.1 hb, h.2.mono hb⟩
theorem Ls.open {w : World} {v : Value} {l : List Nat} (h : Ls w v l) : ∃ a cap, v = .slice a l.length cap ∧ l.length ≤ cap ∧ cap ≤ maxLen := by
  have := Sl.open h.1; simpa [u32s] using this
theorem Ls.at {w wr : World} {n cap : Nat} {a : Option Addr} {l : List Nat} (hS : Ls w (.slice a n cap) l) (hb : Below w.heap.size w wr) {k : Nat} (hk : k < n) :
    ∃ b off d, a = some ⟨b, off, none⟩ ∧ l[k]? = some d ∧ wr.cell? ⟨b, off + k, none⟩ = some (.int .u32 (d : Int)) := by
  obtain ⟨b, off, x, ha, hx, h0⟩ := Sl.at1 hS.1 hb hk
  simp only [u32s, List.getElem?_map, Option.map_eq_some_iff] at hx
  obtain ⟨d, hd, rfl⟩ := hx
  exact ⟨b, off, d, ha, hd, h0⟩
theorem Ls.take {w : World} {a : Option Addr} {n cap : Nat} {l : List Nat} (h : Ls w (.slice a n cap) l) {k : Nat} (hk : k ≤ n) : Ls w (.slice a k cap) (l.take k) := by
  refine ⟨?_, (AV.au h.2).av⟩
  obtain ⟨a', cap', hv, hc, hm, hh⟩ := h.1
  cases hv
  simp only [u32s, List.length_map] at hc hh hk
  have hl : ((u32s (l.take k)).map c1).length = k := by simp [u32s]; omega
  refine ⟨a, cap, by rw [hl], by rw [hl]; omega, hm, ?_⟩
  rcases hh with h0 | ⟨b, off, ha, hlt, hcell⟩
  · exact .inl h0
  · refine .inr ⟨b, off, ha, hlt, fun i j hi hj => ?_⟩
    rw [hl] at hi
    rw [hcell i j (by omega) hj]
    simp [u32s, List.getD_eq_getElem?_getD, hi]
theorem Ls.nil (w : World) : Ls w (.slice none 0 0) [] := ⟨Sl.nil w 1, (AU.none w).av⟩
def IntV (w : World) (v : Value) (z : Int) : Prop := ∃ a c, v = .agg #[.bool (decide (z < 0)), .slice a (limbs z.natAbs).length c] ∧ Ls w (.slice a (limbs z.natAbs).length c) (limbs z.natAbs)
theorem IntV.mono {w w' : World} {v : Value} {z : Int} (h : IntV w v z) (hb : Below w.heap.size w w') : IntV w' v z := by
  obtain ⟨a, c, hv, h⟩ := h
  exact ⟨a, c, hv, h.mono hb⟩
theorem take_last {l : List Nat} {j d : Nat} (h : l[j]? = some d) : (l.take (j + 1)).getLast? = some d := by
  rw [List.take_add_one, h]; simp
set_option maxHeartbeats 2000000 in
theorem trim_any (a : Option Addr) (n c : Nat) (l : List Nat) (w : World) (hL : Ls w (.slice a n c) l) (hd : Dg l) :
    Calls Tryz.prog 96 #[.slice a n c] w (fun e w' => e = .returned (.slice a (limbs (natL l)).length c) ∧ Ls w (.slice a (limbs (natL l)).length c) (limbs (natL l)) ∧ Below w.heap.size w w') := by
  obtain ⟨_, _, hq, hc1, hc2⟩ := hL.open
  cases hq
  unfold maxLen at hc2
  have HL := hI hL
  have Hd := hI hd
  clear hL hd
  generalize hn : l.length = n at *
  have Hn := hI hn
  clear hn
  go_enter Tryz.func96, Tryz.ntmps96
  go_wp2
  go_loopw [0] (fun m wr => ∃ k : Nat, k ≤ n ∧ m = .slice a k c ∧ Below w.heap.size w wr ∧ Hid (natL (l.take k) = natL l)) (fun m _ => match m with | .slice _ k _ => k | _ => 0)
  case atStart => exact ⟨n, Nat.le_refl _, rfl, Below.refl _ _, by unfold Hid; rw [← Hn.out, List.take_length]⟩
  case round =>
    obtain ⟨k, hk, rfl, hbw, hpre⟩ := hrel
    rcases k with _ | j
    · have hl0 : limbs (natL l) = [] := by rw [← hpre.out]; exact limbs_zero
      have Hl0 := hI hl0
      clear hl0
      go_wp2_with fail
      go_ret
      refine ⟨?_, ?_, hbw⟩
      · rw [Hl0.out]; rfl
      · rw [Hl0.out]; exact HL.out.take (Nat.zero_le _)
    · obtain ⟨b, off, d, rfl, hdk, c0⟩ := HL.out.at hbw (show j < n by omega)
      have Hdk := hI hdk
      have hij : ((((j + 1 : Nat) : Int) - 1)) = (j : Int) := by omega
      have hi64 : IntKind.i64.wrap (j : Int) = j := IntWalk.i64_in _ (by omega)
      have hjn : (j : Int) < (n : Int) := by omega
      have hjp : (0 : Int) < ((j + 1 : Nat) : Int) := by omega
      clear hdk
      by_cases hz : d = 0
      · subst hz
        go_wp2_with fail
        go_roundw
        case rel => exact ⟨j, by omega, by go_num, hbw, by unfold Hid; rw [← hpre.out, take_next Hdk.out]; simp⟩
        case measure => simp
      · have hz2 : ((d : Int) == 0) = false := by simpa using hz
        have hfin : limbs (natL l) = l.take (j + 1) := by
          rw [← hpre.out]
          exact limbs_of (Hd.out.take _) (fun e he => by rw [take_last Hdk.out] at he; cases he; exact hz)
        have hlen : (limbs (natL l)).length = j + 1 := by rw [hfin, List.length_take, Hn.out]; omega
        have Hfin := hI hfin
        have Hlen := hI hlen
        clear hfin hlen
        go_wp2_with fail
        go_ret
        refine ⟨?_, ?_, hbw⟩
        · rw [Hlen.out]; rfl
        · rw [Hlen.out, Hfin.out]; exact HL.out.take (by omega)
theorem trim_sub {w : World} {a : Option Addr} {n c : Nat} {l : List Nat} (hL : Ls w (.slice a n c) l) (hd : Dg l) : Ls w (.slice a (limbs (natL l)).length c) (limbs (natL l)) := by
  obtain ⟨_, _, hq, _, _⟩ := hL.open
  cases hq
  obtain ⟨k, hk, he⟩ := limbs_take hd
  rw [he, List.length_take, Nat.min_eq_left hk]
  exact hL.take hk
theorem sgn_neg {neg : Bool} {n : Nat} : decide (sgn neg n < 0) = (neg && decide (0 < n)) := by
  cases neg
  · simp [sgn]
  · simp [sgn]
theorem Ls.grown {w w' : World} {B e sz n k c : Nat} {v : Value} {xs : List Value} {a : Option Addr} {l : List Nat} (h : Ls w (.slice a k c) l) (ha : AU w a) (hown : w.ownsRow B e sz v n xs) (he : e ≠ 110) (hg : w.grownBy w' v.ownBlock) : Ls w' (.slice a k c) l := by
  refine ⟨?_, (ha.grown hown he hg).av⟩
  obtain ⟨a', c', hv, hc, hm, hh⟩ := h.1
  refine ⟨a', c', hv, hc, hm, ?_⟩
  cases hv
  rcases hh with h0 | ⟨b, off, rfl, hlt, hcell⟩
  · exact .inl h0
  · refine .inr ⟨b, off, rfl, Nat.lt_of_lt_of_le hlt hg.size, fun i j hi hj => ?_⟩
    obtain ⟨cs, hcs⟩ := ha _ rfl
    have hne : some b ≠ v.ownBlock := by
      intro heq
      rcases hown.2 with ⟨rfl, _⟩ | ⟨g, cap, cur, rfl, -, hgb, -⟩
      · cases heq
      · simp only [Value.ownBlock, Option.some.injEq] at heq
        rw [← heq] at hgb
        rw [show ((⟨b, off, .none⟩ : Addr).block) = b from rfl] at hcs
        rw [hcs] at hgb
        cases hgb
        exact he rfl
    rw [World.cell?_of_block (a := ⟨b, _, .none⟩) (hg.block b hlt hne)]
    exact hcell i j hi hj
theorem Ls.eqb {B F : Nat} {w w' : World} {v : Value} {l : List Nat} (h : Ls w v l) (he : Eqb B F w w') (hv : ∀ b, v.ownBlock = some b → b < B ∧ b ≠ F) : Ls w' v l :=
  ⟨Sl.eqb h.1 he hv, fun a n c e p hp => by
    subst e
    subst hp
    obtain ⟨cs, hc⟩ := h.2 _ _ _ rfl _ rfl
    have hb := hv p.block rfl
    exact ⟨cs, (he.block _ hb.1 hb.2).trans hc⟩⟩
theorem own_au {w : World} {M sz n g m cap : Nat} {xs : List Value} (h : w.ownsRow M 110 sz (.slice (some ⟨g, 0, none⟩) m cap) n xs) : AU w (some ⟨g, 0, none⟩) := fun p hp => by
  cases hp
  rcases h.2 with ⟨hv, _⟩ | ⟨g', cap', cur, hv, -, hgb, -⟩
  · cases hv
  · cases hv
    exact ⟨cur, hgb⟩
set_option maxHeartbeats 2000000 in
theorem signed_at (neg : Bool) (a : Option Addr) (n c : Nat) (l : List Nat) (w : World) (hL : Ls w (.slice a n c) l) (hd : Dg l) :
    Calls Tryz.prog 92 #[.bool neg, .slice a n c] w (RetP (fun v w' => IntV w' v (sgn neg (natL l)) ∧ ∃ x k, v = .agg #[.bool x, .slice a k c]) w) := by
  have hb0 := below1 w (.cells #[.bool false, .slice none 0 0] 59)
  have hT := trim_any a n c l _ (hL.mono hb0) hd
  have hLw : Ls w (.slice a (limbs (natL l)).length c) (limbs (natL l)) := trim_sub hL hd
  have HLw := hI hLw
  have H := hI hT
  have hB : Blk (w.alloc (.cells #[.bool false, .slice none 0 0] 59)) w.heap.size #[.bool false, .slice none 0 0] 59 := Blk.new _ _ _
  have HB := hI hB
  have Hb0 := hI hb0
  have hneg := sgn_neg (neg := neg) (n := natL l)
  have hz := sgn_abs neg (natL l)
  have hlz : (limbs (natL l)).length = 0 ↔ natL l = 0 := by rw [List.length_eq_zero_iff]; exact limbs_nil
  clear hL hd hb0 hB hT hLw
  generalize hS : sgn neg (natL l) = S at *
  generalize natL l = N at *
  unfold RetP IntV
  rw [hz, hneg]
  generalize hk : (limbs N).length = k at *
  have Hk := hI hk
  clear hneg hz hk hS
  have hdec : decide (0 < N) = decide (0 < k) := by
    rw [decide_eq_decide]; omega
  rw [hdec]
  clear hdec hlz
  go_enter Tryz.func92, Tryz.ntmps92
  rcases neg with _ | _
  · go_wp2_with (go_at_call 96; refine (H.out).mono ?_; rintro e w1 ⟨rfl, -, hb1⟩; have hb := HB.out.below hb1; have c0 := hb.cell 0; have c1' := hb.cell 1; have f0 := hb.free 0; have f1 := hb.free 1; simp only [List.getElem?_toArray, List.getElem?_cons_succ, List.getElem?_cons_zero] at c0 c1')
    have h2 := (hb.set 0 (.bool false)).set 1 (.slice a k c)
    have r0 := h2.cell 0
    have r1 := h2.cell 1
    have hbel : Below w.heap.size w ((w1.setCell ⟨w.heap.size, 0, none⟩ (.bool false)).setCell ⟨w.heap.size, 1, none⟩ (.slice a k c)) := ((Hb0.out.via hb1 Hb0.out.size).setCell (p := ⟨w.heap.size, 0, none⟩) (Nat.le_refl _) _).setCell (p := ⟨w.heap.size, 1, none⟩) (Nat.le_refl _) _
    simp at r0 r1
    exact bodyPost_ret (v := .agg #[.bool false, .slice a k c]) (by simp [results, Tryz.results92, go_sem, r0, r1]) rfl ⟨_, rfl, ⟨⟨a, c, by simp, HLw.out.mono hbel⟩, _, _, rfl⟩, hbel⟩
  · by_cases hk0 : 0 < k
    · have hk1 : (0 : Int) < (k : Int) := by omega
      go_wp2_with (go_at_call 96; refine (H.out).mono ?_; rintro e w1 ⟨rfl, -, hb1⟩; have hb := HB.out.below hb1; have c0 := hb.cell 0; have c1' := hb.cell 1; have f0 := hb.free 0; have f1 := hb.free 1; simp only [List.getElem?_toArray, List.getElem?_cons_succ, List.getElem?_cons_zero] at c0 c1')
      have h2 := (hb.set 0 (.bool true)).set 1 (.slice a k c)
      have r0 := h2.cell 0
      have r1 := h2.cell 1
      have hbel : Below w.heap.size w ((w1.setCell ⟨w.heap.size, 0, none⟩ (.bool true)).setCell ⟨w.heap.size, 1, none⟩ (.slice a k c)) := ((Hb0.out.via hb1 Hb0.out.size).setCell (p := ⟨w.heap.size, 0, none⟩) (Nat.le_refl _) _).setCell (p := ⟨w.heap.size, 1, none⟩) (Nat.le_refl _) _
      simp at r0 r1
      exact bodyPost_ret (v := .agg #[.bool true, .slice a k c]) (by simp [results, Tryz.results92, go_sem, r0, r1]) rfl ⟨_, rfl, ⟨⟨a, c, by simp [hk0], HLw.out.mono hbel⟩, _, _, rfl⟩, hbel⟩
    · have hk1 : ¬ (0 : Int) < (k : Int) := by omega
      go_wp2_with (go_at_call 96; refine (H.out).mono ?_; rintro e w1 ⟨rfl, -, hb1⟩; have hb := HB.out.below hb1; have c0 := hb.cell 0; have c1' := hb.cell 1; have f0 := hb.free 0; have f1 := hb.free 1; simp only [List.getElem?_toArray, List.getElem?_cons_succ, List.getElem?_cons_zero] at c0 c1')
      have h2 := (hb.set 0 (.bool false)).set 1 (.slice a k c)
      have r0 := h2.cell 0
      have r1 := h2.cell 1
      have hbel : Below w.heap.size w ((w1.setCell ⟨w.heap.size, 0, none⟩ (.bool false)).setCell ⟨w.heap.size, 1, none⟩ (.slice a k c)) := ((Hb0.out.via hb1 Hb0.out.size).setCell (p := ⟨w.heap.size, 0, none⟩) (Nat.le_refl _) _).setCell (p := ⟨w.heap.size, 1, none⟩) (Nat.le_refl _) _
      simp at r0 r1
      exact bodyPost_ret (v := .agg #[.bool false, .slice a k c]) (by simp [results, Tryz.results92, go_sem, r0, r1]) rfl ⟨_, rfl, ⟨⟨a, c, by simp [hk0], HLw.out.mono hbel⟩, _, _, rfl⟩, hbel⟩
theorem signed_any (neg : Bool) (a : Option Addr) (n c : Nat) (l : List Nat) (w : World) (hL : Ls w (.slice a n c) l) (hd : Dg l) :
    Calls Tryz.prog 92 #[.bool neg, .slice a n c] w (RetP (fun v w' => IntV w' v (sgn neg (natL l))) w) := (signed_at neg a n c l w hL hd).mono fun _ _ ⟨v, he, h, hb⟩ => ⟨v, he, h.1, hb⟩
end Go.Proofs.YtlcmhbkmpkcajaaGreatDoor
namespace Go.Proofs.YtlcmhbkmpkcajaaGreatDoor
open Go.RowKit
theorem Ls.two {w : World} {b lo hi : Nat} (h : Blk w b #[.int .u32 (lo : Int), .int .u32 (hi : Int)] 110) : Ls w (.slice (some ⟨b, 0, none⟩) 2 2) [lo, hi] := by
  refine ⟨⟨_, _, rfl, by simp [u32s], by unfold maxLen; omega, .inr ⟨b, 0, rfl, h.lt, fun i j hi hj => ?_⟩⟩, AU.av fun p hp => by cases hp; exact ⟨_, h⟩⟩
  rw [h.cell]
  simp only [u32s, List.map_cons, List.map_nil, List.length_cons, List.length_nil] at hi
  obtain rfl : j = 0 := by omega
  rcases i with _ | _ | i <;> first | omega | rfl
def NoU (cs : Array Value) : Prop := ∀ x ∈ cs.toList, ∀ d : Int, x ≠ .int .u32 d
theorem Ls.put {w : World} {v : Value} {l : List Nat} (h : Ls w v l) {R i : Nat} {cs : Array Value} {T : TypeId} (hB : Blk w R cs T) (hcs : NoU cs) (u : Value) : Ls (w.setCell ⟨R, i, none⟩ u) v l := by
  refine ⟨?_, fun a n c hv => (h.2 a n c hv).set R i u⟩
  obtain ⟨a, cap, rfl, hc, hm, hh⟩ := h.1
  refine ⟨a, cap, rfl, hc, hm, ?_⟩
  rcases hh with h0 | ⟨b, off, rfl, hlt, hcell⟩
  · exact .inl h0
  · refine .inr ⟨b, off, rfl, by simpa [World.setCell] using hlt, fun i' j hi hj => ?_⟩
    have hx := hcell i' j hi hj
    have hne : b ≠ R := by
      rintro rfl
      obtain rfl : j = 0 := by omega
      rw [hB.cell] at hx
      have hi2 : i' < l.length := by simpa [u32s] using hi
      have e : ((u32s l).map c1).getD i' [] = [.int .u32 ((l[i'] : Nat) : Int)] := by
        rw [List.getD_eq_getElem?_getD, List.getElem?_map, u32s, List.getElem?_map, List.getElem?_eq_getElem hi2]; rfl
      rw [e] at hx
      have hmem := Array.mem_of_getElem? hx
      exact hcs _ (by simpa using hmem) _ rfl
    rw [World.cell?_of_block (w := w) (a := ⟨b, _, none⟩) (Below.heap_setCell w ⟨R, i, none⟩ u b hne)]
    exact hx
theorem IntV.put {w : World} {v : Value} {z : Int} (h : IntV w v z) {R i : Nat} {cs : Array Value} {T : TypeId} (hB : Blk w R cs T) (hcs : NoU cs) (u : Value) : IntV (w.setCell ⟨R, i, none⟩ u) v z := by
  obtain ⟨a, c, hv, h⟩ := h
  exact ⟨a, c, hv, h.put hB hcs u⟩
theorem IntV.open {w : World} {v : Value} {z : Int} (h : IntV w v z) : ∃ x a k c, v = .agg #[.bool x, .slice a k c] ∧ IntV w (.agg #[.bool x, .slice a k c]) z := by
  obtain ⟨a, c, rfl, hl⟩ := h
  exact ⟨_, _, _, _, rfl, _, _, rfl, hl⟩
theorem noU2 {x : Bool} {a : Option Addr} {n c : Nat} : NoU #[.bool x, .slice a n c] := by
  intro y hy d e
  simp only [List.mem_cons, List.not_mem_nil, or_false] at hy
  rcases hy with rfl | rfl <;> cases e
theorem IntV.put2 {w : World} {z : Int} {R n c n' c' : Nat} {x x' : Bool} {a a' : Option Addr} {T : TypeId} (h : IntV w (.agg #[.bool x, .slice a n c]) z) (hB : Blk w R #[.bool x', .slice a' n' c'] T) :
    IntV ((w.setCell ⟨R, 0, none⟩ (.bool x)).setCell ⟨R, 1, none⟩ (.slice a n c)) (.agg #[.bool x, .slice a n c]) z ∧ Blk ((w.setCell ⟨R, 0, none⟩ (.bool x)).setCell ⟨R, 1, none⟩ (.slice a n c)) R #[.bool x, .slice a n c] T := by
  have h1 := hB.set 0 (.bool x)
  have h2 := h1.set 1 (.slice a n c)
  simp at h1 h2
  exact ⟨(h.put hB noU2 _).put h1 noU2 _, h2⟩
set_option maxHeartbeats 2000000 in
theorem from_any (n : Int) (w : World) (h1 : -9223372036854775808 ≤ n) (h2 : n ≤ 9223372036854775807) :
    Calls Tryz.prog 74 #[.int .i64 n] w (RetP (fun v w' => IntV w' v n) w) := by
  obtain ⟨N, hN⟩ : ∃ N, n.natAbs = N := ⟨_, rfl⟩
  have hNb : N ≤ 9223372036854775808 := by omega
  have hS : sgn (decide (n < 0)) N = n := by rw [← hN]; exact sgn_of n
  have hnat : natL [N % 4294967296, N / 4294967296] = N := by simp only [natL]; omega
  have hDg : Dg [N % 4294967296, N / 4294967296] := fun d hd => by
    simp only [List.mem_cons, List.not_mem_nil, or_false] at hd
    rcases hd with rfl | rfl <;> omega
  have hb0 := below2 w (.cells #[.bool false, .slice none 0 0] 59) (.cells #[.int .u32 ((N % 4294967296 : Nat) : Int), .int .u32 ((N / 4294967296 : Nat) : Int)] 110)
  have hLs : Ls ((w.alloc (.cells #[.bool false, .slice none 0 0] 59)).alloc (.cells #[.int .u32 ((N % 4294967296 : Nat) : Int), .int .u32 ((N / 4294967296 : Nat) : Int)] 110)) (.slice (some ⟨w.heap.size + 1, 0, none⟩) 2 2) [N % 4294967296, N / 4294967296] := by
    have h := Ls.two (Blk.new (w.alloc (.cells #[.bool false, .slice none 0 0] 59)) #[.int .u32 ((N % 4294967296 : Nat) : Int), .int .u32 ((N / 4294967296 : Nat) : Int)] 110)
    simpa using h
  have H := hI (signed_any (decide (n < 0)) _ _ _ _ _ hLs hDg)
  rw [hnat, hS] at H
  have e1 : ((N % 4294967296 : Nat) : Int) = (N : Int) % 4294967296 := by omega
  have e2 : ((N / 4294967296 : Nat) : Int) = (N : Int) / 4294967296 := by omega
  rw [e1, e2] at H hb0
  have HB := hI (fun (b : Bool) => Blk.new w #[.bool false, .slice none 0 0] 59)
  have Hb0 := hI hb0
  have hbB := ((Blk.new w #[.bool false, .slice none 0 0] 59).old (.cells #[.int .u32 ((N : Int) % 4294967296), .int .u32 ((N : Int) / 4294967296)] 110))
  have HbB := hI hbB
  clear hb0 hbB hLs hDg hnat e1 e2 HB
  by_cases hneg : n < 0
  · have hw : IntKind.u64.wrap n = n + 18446744073709551616 := by unfold IntKind.wrap; simp [IntKind.bits, IntKind.signed]; omega
    have hw2 : IntKind.u64.wrap (-(n + 18446744073709551616)) = (N : Int) := by unfold IntKind.wrap; simp [IntKind.bits, IntKind.signed]; omega
    have hd : decide (n < 0) = true := by simp; omega
    rw [hd] at H
    go_enter Tryz.func74, Tryz.ntmps74
    go_wp2_with (go_at_call 92; refine (H.out).mono ?_; rintro e w1 ⟨v, rfl, hv, hb1⟩; have hb := HbB.out.below hb1; have c0 := hb.cell 0; have c1' := hb.cell 1; have f0 := hb.free 0; have f1 := hb.free 1; simp only [List.getElem?_toArray, List.getElem?_cons_succ, List.getElem?_cons_zero] at c0 c1'; obtain ⟨x, a, k, c, rfl, hl⟩ := hv.open)
    obtain ⟨hv2, hb2⟩ := IntV.put2 hl hb
    have hbel := ((Hb0.out.via hb1 Hb0.out.size).setCell (p := ⟨w.heap.size, 0, none⟩) (Nat.le_refl _) (.bool x)).setCell (p := ⟨w.heap.size, 1, none⟩) (Nat.le_refl _) (.slice a k c)
    have r0 := hb2.cell 0
    have r1 := hb2.cell 1
    simp only [List.getElem?_toArray, List.getElem?_cons_succ, List.getElem?_cons_zero] at r0 r1
    exact bodyPost_ret (v := .agg #[.bool x, .slice a k c]) (by simp [results, Tryz.results74, go_sem, r0, r1]) rfl ⟨_, rfl, hv2, hbel⟩
  · obtain rfl : n = (N : Int) := by omega
    have hw : IntKind.u64.wrap (N : Int) = N := IntWalk.u64_in _ (by omega)
    have hd : decide ((N : Int) < 0) = false := by simp
    rw [hd] at H
    go_enter Tryz.func74, Tryz.ntmps74
    go_wp2_with (go_at_call 92; refine (H.out).mono ?_; rintro e w1 ⟨v, rfl, hv, hb1⟩; have hb := HbB.out.below hb1; have c0 := hb.cell 0; have c1' := hb.cell 1; have f0 := hb.free 0; have f1 := hb.free 1; simp only [List.getElem?_toArray, List.getElem?_cons_succ, List.getElem?_cons_zero] at c0 c1'; obtain ⟨x, a, k, c, rfl, hl⟩ := hv.open)
    obtain ⟨hv2, hb2⟩ := IntV.put2 hl hb
    have hbel := ((Hb0.out.via hb1 Hb0.out.size).setCell (p := ⟨w.heap.size, 0, none⟩) (Nat.le_refl _) (.bool x)).setCell (p := ⟨w.heap.size, 1, none⟩) (Nat.le_refl _) (.slice a k c)
    have r0 := hb2.cell 0
    have r1 := hb2.cell 1
    simp only [List.getElem?_toArray, List.getElem?_cons_succ, List.getElem?_cons_zero] at r0 r1
    exact bodyPost_ret (v := .agg #[.bool x, .slice a k c]) (by simp [results, Tryz.results74, go_sem, r0, r1]) rfl ⟨_, rfl, hv2, hbel⟩
end Go.Proofs.YtlcmhbkmpkcajaaGreatDoor
namespace Go.Proofs.YtlcmhbkmpkcajaaGreatDoor
open Go.RowKit
def BD (w w' : World) : Prop := Below w.heap.size w w' ∧ w.drawn ≤ w'.drawn
theorem BD.refl (w : World) : BD w w := ⟨Below.refl _ _, Nat.le_refl _⟩
theorem BD.dn {w w' : World} (h : BD w w') (n : Nat) : BD w (w'.drewN n) := ⟨h.1.dn n, Nat.le_trans h.2 (Nat.le_add_right _ _)⟩
theorem BD.alloc {w w' : World} (h : BD w w') (o : Obj) : BD w (w'.alloc o) := ⟨h.1.alloc h.1.size _, h.2⟩
theorem BD.via {a b c : World} (h : BD a b) (k : BD b c) : BD a c := ⟨h.1.via k.1 h.1.size, Nat.le_trans h.2 k.2⟩
theorem bd1 (w : World) (o : Obj) : BD w (w.alloc o) := (BD.refl w).alloc o
theorem bd2 (w : World) (o o' : Obj) : BD w ((w.alloc o).alloc o') := (bd1 w o).alloc o'
def RetD (v : Value) (w : World) (e : Ending) (w' : World) : Prop := e = .returned v ∧ BD w w'
theorem RetD.ret {v : Value} {w w' : World} {e : Ending} (h : RetD v w e w') : Ret v w e w' := ⟨h.1, h.2.1⟩
theorem limbs_len0 {n : Nat} : (limbs n).length = 0 ↔ n = 0 := by rw [List.length_eq_zero_iff]; exact limbs_nil
set_option maxHeartbeats 1000000 in
theorem sign_d (v : Value) (z : Int) (w : World) (h : IntV w v z) : Calls Tryz.prog 34 #[v] w (RetD (.int .i64 z.sign) w) := by
  obtain ⟨a, c, rfl, hl⟩ := h
  clear hl
  by_cases h0 : z = 0
  · subst h0
    have e1 : (limbs (Int.natAbs 0)).length = 0 := by rw [limbs_len0]; rfl
    rw [e1]
    go_enter Tryz.func34, Tryz.ntmps34
    go_wp2_with fail
    go_ret
    exact ⟨rfl, bd1 w _⟩
  · have e1 : (limbs z.natAbs).length ≠ 0 := by rw [Ne, limbs_len0]; omega
    generalize (limbs z.natAbs).length = k at *
    have e2 : ((k : Int) == 0) = false := by simp; omega
    by_cases hz : z < 0
    · rw [decide_eq_true hz, Int.sign_eq_neg_one_of_neg hz]
      go_enter Tryz.func34, Tryz.ntmps34
      go_wp2_with fail
      go_ret
      exact ⟨rfl, bd1 w _⟩
    · rw [decide_eq_false hz, Int.sign_eq_one_of_pos (by omega)]
      go_enter Tryz.func34, Tryz.ntmps34
      go_wp2_with fail
      go_ret
      exact ⟨rfl, bd1 w _⟩
theorem sign_any (v : Value) (z : Int) (w : World) (h : IntV w v z) : Calls Tryz.prog 34 #[v] w (Ret (.int .i64 z.sign) w) := (sign_d v z w h).mono fun _ _ h => h.ret
theorem lt_get {l : List Nat} {i d : Nat} (h : l[i]? = some d) : i < l.length := by
  rcases Nat.lt_or_ge i l.length with h' | h'
  · exact h'
  · rw [List.getElem?_eq_none h'] at h; cases h
theorem get_of {l : List Nat} {i d : Nat} (h : l[i]? = some d) : l[i]'(lt_get h) = d := by
  have h2 := h
  rw [List.getElem?_eq_getElem (lt_get h)] at h2
  exact Option.some.inj h2
theorem getD_of {l : List Nat} {i d : Nat} (h : l[i]? = some d) : l.getD i 0 = d := by
  rw [List.getD_eq_getElem?_getD, h]; rfl
def cmpN (a b : Nat) : Int := if a < b then -1 else if b < a then 1 else 0
set_option maxHeartbeats 2000000 in
theorem order_d (a b : Option Addr) (n m ca cb : Nat) (x y : Nat) (w : World) (hA : Ls w (.slice a n ca) (limbs x)) (hB : Ls w (.slice b m cb) (limbs y)) :
    Calls Tryz.prog 94 #[.slice a n ca, .slice b m cb] w (RetD (.int .i64 (cmpN x y)) w) := by
  obtain ⟨_, _, hq, ha1, ha2⟩ := hA.open
  cases hq
  obtain ⟨_, _, hq, hb1, hb2⟩ := hB.open
  cases hq
  unfold maxLen at ha2 hb2
  have HA := hI hA
  have HB := hI hB
  clear hA hB
  by_cases hl : (limbs x).length = (limbs y).length
  · have Hl := hI hl
    have hc : cmpN x y = cmpN (natL (limbs x)) (natL (limbs y)) := by rw [natL_limbs, natL_limbs]
    rw [hc]
    have HK := hI (fun k (hk : k < (limbs x).length) (hs : (limbs x).drop (k + 1) = (limbs y).drop (k + 1)) => And.intro (fun (h : (limbs x).getD k 0 < (limbs y).getD k 0) => natL_cmp hl hk (limbs_dg x) hs h) (fun (h : (limbs y).getD k 0 < (limbs x).getD k 0) => natL_cmp hl.symm (hl ▸ hk) (limbs_dg y) hs.symm h))
    generalize limbs x = lx at *
    generalize limbs y = ly at *
    generalize hn : lx.length = n at *
    rw [← hl] at hb1
    rw [← Hl.out]
    have Hn := hI hn
    have hB2 := HB.out
    rw [← Hl.out] at hB2
    clear HB
    have HB := hI hB2
    clear hn hc hl hB2
    go_enter Tryz.func94, Tryz.ntmps94
    go_wp2_with fail
    go_loopw [5] (fun i wr => ∃ k : Nat, k ≤ n ∧ i = .int .i64 ((k : Int) - 1) ∧ BD w wr ∧ Hid (lx.drop k = ly.drop k)) (fun i _ => (intOf i + 1).toNat)
    case atStart => exact ⟨n, Nat.le_refl _, rfl, BD.refl _, by unfold Hid; rw [List.drop_eq_nil_of_le (by rw [Hn.out]; exact Nat.le_refl _), List.drop_eq_nil_of_le (by rw [← Hl.out]; exact Nat.le_refl _)]⟩
    case round =>
      obtain ⟨k, hk, rfl, hbw, hpre⟩ := hrel
      rcases k with _ | j
      · have he : lx = ly := by have := hpre.out; rwa [List.drop_zero, List.drop_zero] at this
        have He := hI he
        clear he
        go_wp2_with fail
        go_ret
        exact ⟨by rw [He.out]; simp [cmpN], hbw⟩
      · obtain ⟨ba, oa, d, rfl, hd, c0⟩ := HA.out.at hbw.1 (show j < n by omega)
        obtain ⟨bb, ob, e, rfl, he, d0⟩ := HB.out.at hbw.1 (show j < n by omega)
        have hij : ((((j + 1 : Nat) : Int) - 1)) = (j : Int) := by omega
        have hi64 : IntKind.i64.wrap (j : Int) = j := IntWalk.i64_in _ (by omega)
        have hi65 : IntKind.i64.wrap ((j : Int) - 1) = (j : Int) - 1 := IntWalk.i64_in _ (by omega)
        have hj0 : (0 : Int) ≤ (j : Int) := Int.natCast_nonneg _
        have hjn : (j : Int) < (n : Int) := by omega
        have Hd := hI hd
        have He := hI he
        rw [hij]
        clear hd he
        by_cases hde : d = e
        · subst hde
          have hne : ((d : Int) != (d : Int)) = false := by simp
          go_wp2_with fail
          go_quiet (fail)
          go_wp2_with fail
          go_roundw
          case rel => exact ⟨j, by omega, by go_num, hbw.dn _, by unfold Hid; rw [List.drop_eq_getElem_cons (lt_get Hd.out), List.drop_eq_getElem_cons (lt_get He.out), hpre.out, get_of Hd.out, get_of He.out]⟩
          case measure => simp [intOf] <;> omega
        · have hne : ((d : Int) != (e : Int)) = true := by simp; omega
          have hk2 := HK.out j (by omega) hpre.out
          rw [getD_of Hd.out, getD_of He.out] at hk2
          have Hk2 := hI hk2
          clear hk2
          rcases Nat.lt_or_ge d e with hlt | hge
          · have hlt2 : (d : Int) < (e : Int) := by omega
            have hfin : cmpN (natL lx) (natL ly) = -1 := by unfold cmpN; rw [if_pos (Hk2.out.1 hlt)]
            rw [hfin]
            clear hfin
            go_wp2_with fail
            go_quiet (fail)
            go_wp2_with fail
            go_quiet (fail)
            go_wp2_with fail
            go_ret
            exact ⟨rfl, (hbw.dn _).dn _⟩
          · have hlt2 : ¬ (d : Int) < (e : Int) := by omega
            have hgt := Hk2.out.2 (by omega)
            have hfin : cmpN (natL lx) (natL ly) = 1 := by unfold cmpN; rw [if_neg (by omega), if_pos hgt]
            rw [hfin]
            clear hfin
            go_wp2_with fail
            go_quiet (fail)
            go_wp2_with fail
            go_quiet (fail)
            go_wp2_with fail
            go_ret
            exact ⟨rfl, (hbw.dn _).dn _⟩
  · have hne : (((limbs x).length : Int) != ((limbs y).length : Int)) = true := by simp; omega
    rcases Nat.lt_or_ge (limbs x).length (limbs y).length with hlt | hge
    · have hfin : cmpN x y = -1 := by unfold cmpN; rw [if_pos (limbs_len_lt hlt)]
      rw [hfin]
      generalize (limbs x).length = n at *
      generalize (limbs y).length = m at *
      have hlt2 : (n : Int) < (m : Int) := by omega
      go_enter Tryz.func94, Tryz.ntmps94
      go_wp2_with fail
      go_ret
      exact ⟨rfl, BD.refl _⟩
    · have hgt := limbs_len_lt (show (limbs y).length < (limbs x).length by omega)
      have hfin : cmpN x y = 1 := by unfold cmpN; rw [if_neg (by omega), if_pos hgt]
      rw [hfin]
      generalize (limbs x).length = n at *
      generalize (limbs y).length = m at *
      have hlt2 : ¬ (n : Int) < (m : Int) := by omega
      go_enter Tryz.func94, Tryz.ntmps94
      go_wp2_with fail
      go_ret
      exact ⟨rfl, BD.refl _⟩
theorem order_any (a b : Option Addr) (n m ca cb : Nat) (x y : Nat) (w : World) (hA : Ls w (.slice a n ca) (limbs x)) (hB : Ls w (.slice b m cb) (limbs y)) :
    Calls Tryz.prog 94 #[.slice a n ca, .slice b m cb] w (Ret (.int .i64 (cmpN x y)) w) := (order_d a b n m ca cb x y w hA hB).mono fun _ _ h => h.ret
set_option maxHeartbeats 1000000 in
theorem neg_any (v : Value) (z : Int) (w : World) (h : IntV w v z) : Calls Tryz.prog 60 #[v] w (RetP (fun v' w' => IntV w' v' (-z)) w) := by
  obtain ⟨a, c, rfl, hl⟩ := h
  have hv : IntV w (.agg #[.bool (decide (-z < 0)), .slice a (limbs z.natAbs).length c]) (-z) := ⟨a, c, by rw [Int.natAbs_neg], by rw [Int.natAbs_neg]; exact hl⟩
  have hq : decide (-z < 0) = (!decide (z < 0) && decide (0 < (limbs z.natAbs).length)) := by
    have := limbs_len0 (n := z.natAbs)
    rw [Bool.eq_iff_iff]
    simp only [Bool.and_eq_true, Bool.not_eq_true', decide_eq_true_eq, decide_eq_false_iff_not]
    omega
  rw [hq] at hv
  have HV := hI hv
  clear hv hq hl
  generalize (limbs z.natAbs).length = k at *
  generalize decide (z < 0) = x at *
  cases x
  · by_cases hk : 0 < k
    · have hk2 : (0 : Int) < (k : Int) := by omega
      go_enter Tryz.func60, Tryz.ntmps60
      go_wp2_with fail
      exact bodyPost_ret (v := .agg #[.bool true, .slice a k c]) (by simp [results, Tryz.results60, go_sem]) rfl ⟨_, rfl, by have := HV.out.mono (below2 w (.cells #[.bool false, .slice a k c] 59) (.cells #[.bool true, .slice a k c] 59)); simpa [hk] using this, below2 w _ _⟩
    · have hk2 : ¬ (0 : Int) < (k : Int) := by omega
      go_enter Tryz.func60, Tryz.ntmps60
      go_wp2_with fail
      exact bodyPost_ret (v := .agg #[.bool false, .slice a k c]) (by simp [results, Tryz.results60, go_sem]) rfl ⟨_, rfl, by have := HV.out.mono (below2 w (.cells #[.bool false, .slice a k c] 59) (.cells #[.bool false, .slice a k c] 59)); simpa [hk] using this, below2 w _ _⟩
  · go_enter Tryz.func60, Tryz.ntmps60
    go_wp2_with fail
    exact bodyPost_ret (v := .agg #[.bool false, .slice a k c]) (by simp [results, Tryz.results60, go_sem]) rfl ⟨_, rfl, by have := HV.out.mono (below2 w (.cells #[.bool true, .slice a k c] 59) (.cells #[.bool false, .slice a k c] 59)); simpa using this, below2 w _ _⟩
def cmpZ (a b : Int) : Int := if a < b then -1 else if b < a then 1 else 0
set_option maxHeartbeats 2000000 in
theorem compare_d (u v : Value) (y z : Int) (w : World) (h : IntV w u y) (h' : IntV w v z) : Calls Tryz.prog 61 #[u, v] w (RetD (.int .i64 (cmpZ y z)) w) := by
  obtain ⟨a, c, rfl, hl⟩ := h
  obtain ⟨a', c', rfl, hl'⟩ := h'
  have hb0 := below2 w (.cells #[.bool (decide (y < 0)), .slice a (limbs y.natAbs).length c] 59) (.cells #[.bool (decide (z < 0)), .slice a' (limbs z.natAbs).length c'] 59)
  have H1 := hI (order_d _ _ _ _ _ _ _ _ _ (hl.mono hb0) (hl'.mono hb0))
  have H2 := hI (order_d _ _ _ _ _ _ _ _ _ (hl'.mono hb0) (hl.mono hb0))
  have Hb0 := hI hb0
  have hp : y < 0 → z < 0 → cmpZ y z = cmpN z.natAbs y.natAbs := fun h1 h2 => by
    unfold cmpZ cmpN
    split <;> split <;> first | rfl | omega | (split <;> first | rfl | omega)
  have hq : ¬ y < 0 → ¬ z < 0 → cmpZ y z = cmpN y.natAbs z.natAbs := fun h1 h2 => by
    unfold cmpZ cmpN
    split <;> split <;> first | rfl | omega | (split <;> first | rfl | omega)
  have hr : y < 0 → ¬ z < 0 → cmpZ y z = -1 := fun h1 h2 => by unfold cmpZ; rw [if_pos (by omega)]
  have hs : ¬ y < 0 → z < 0 → cmpZ y z = 1 := fun h1 h2 => by unfold cmpZ; rw [if_neg (by omega), if_pos (by omega)]
  clear hl hl' hb0
  by_cases hy : y < 0 <;> by_cases hz : z < 0
  · rw [hp hy hz]
    rw [decide_eq_true hy, decide_eq_true hz] at *
    generalize cmpN z.natAbs y.natAbs = R at *
    clear hp hq hr hs
    go_enter Tryz.func61, Tryz.ntmps61
    go_wp2_with (go_at_call 94; refine (H2.out).mono ?_; rintro e w1 ⟨rfl, hb1⟩)
    go_ret
    exact ⟨rfl, (bd2 w _ _).via hb1⟩
  · rw [hr hy hz]
    rw [decide_eq_true hy, decide_eq_false hz] at *
    clear hp hq hr hs H1 H2
    go_enter Tryz.func61, Tryz.ntmps61
    go_wp2_with fail
    go_ret
    exact ⟨rfl, bd2 w _ _⟩
  · rw [hs hy hz]
    rw [decide_eq_false hy, decide_eq_true hz] at *
    clear hp hq hr hs H1 H2
    go_enter Tryz.func61, Tryz.ntmps61
    go_wp2_with fail
    go_ret
    exact ⟨rfl, bd2 w _ _⟩
  · rw [hq hy hz]
    rw [decide_eq_false hy, decide_eq_false hz] at *
    generalize cmpN y.natAbs z.natAbs = R at *
    clear hp hq hr hs
    go_enter Tryz.func61, Tryz.ntmps61
    go_wp2_with (go_at_call 94; refine (H1.out).mono ?_; rintro e w1 ⟨rfl, hb1⟩)
    go_ret
    exact ⟨rfl, (bd2 w _ _).via hb1⟩
theorem compare_any (u v : Value) (y z : Int) (w : World) (h : IntV w u y) (h' : IntV w v z) : Calls Tryz.prog 61 #[u, v] w (Ret (.int .i64 (cmpZ y z)) w) := (compare_d u v y z w h h').mono fun _ _ h => h.ret
end Go.Proofs.YtlcmhbkmpkcajaaGreatDoor
