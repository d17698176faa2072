/-
  Parts of the proof: Txg, Qops, Numg, Qre.
-/
import Derived.RegionTactic
import Derived.Lib.LaidTab
import Derived.Test.YtlcmhbkmpkcajaaGreatDoorN28
namespace Go.Proofs.YtlcmhbkmpkcajaaGreatDoor
open Go.RowKit
def Tab (w : World) : Prop := Lib.TabIs Tryz.prog w "internal/strconv.uint64pow10" .u64 Lib.pow10Tab
theorem Tab.mono {w w' : World} (h : Tab w) (hb : Below w.heap.size w w') : Tab w' := by
  unfold Tab Lib.TabIs World.var? at *
  cases hg : Tryz.prog.globalNamed "internal/strconv.uint64pow10" with
  | none => rw [hg] at h; cases h
  | some k =>
    rw [hg] at h
    simp only [Option.bind_some] at h ⊢
    have hlt : k < w.heap.size := by
      rcases Nat.lt_or_ge k w.heap.size with h' | h'
      · exact h'
      · rw [Array.getElem?_eq_none h'] at h; cases h
    rw [hb.block k hlt]
    exact h
theorem own_strs {w : World} {M n g cap : Nat} {xs : List ByteArray} (h : w.ownsRow M 9 1 (.slice (some ⟨g, 0, none⟩) n cap) n (xs.map Value.string)) {i : Nat} {s : ByteArray} (hs : xs[i]? = some s) :
    w.cell? ⟨g, i, none⟩ = some (.string s) ∧ w.frozen? ⟨g, i, none⟩ = false := by
  have hn : xs.length = n := by have := h.1; rw [List.length_map] at this; omega
  constructor
  · obtain ⟨b', off, y, ha, hy, c0⟩ := Sl.at1 (Sl.own1 h) (Below.refl _ _) (show i < n by rw [← hn]; exact lt_of_get hs)
    cases ha
    rw [List.getElem?_map, hs] at hy
    cases hy
    rw [Nat.zero_add] at c0
    exact c0
  · rcases h.2 with ⟨h1, h0⟩ | ⟨g', cap', cur, h1, hb, hg, _⟩
    · cases h1
    · cases h1
      exact frozen_of_row w g _ _ _ hg
theorem rev_end {xs L : List ByteArray} {k : Nat} (hl : L.length = xs.length) (hk : ¬ (k : Int) < (xs.length : Int) - 1 - (k : Int)) (hk2 : k ≤ xs.length) (h : ∀ p, p < xs.length → L[p]? = if p < k ∨ xs.length - k ≤ p then xs[xs.length - 1 - p]? else xs[p]?) : L = xs.reverse := by
  apply List.ext_getElem?
  intro p
  rcases Nat.lt_or_ge p xs.length with hp | hp
  · rw [h p hp, List.getElem?_reverse hp]
    split
    · rfl
    · congr 1
      omega
  · rw [List.getElem?_eq_none (by omega), List.getElem?_eq_none (by rw [List.length_reverse]; omega)]
theorem rev_step {xs L : List ByteArray} {k j : Nat} {x y : ByteArray} (hl : L.length = xs.length) (hj : j = xs.length - 1 - k) (hkj : k < j) (hx : L[k]? = some x) (hy : L[j]? = some y) (h : ∀ p, p < xs.length → L[p]? = if p < k ∨ xs.length - k ≤ p then xs[xs.length - 1 - p]? else xs[p]?) :
    ∀ p, p < xs.length → ((L.set k y).set j x)[p]? = if p < k + 1 ∨ xs.length - (k + 1) ≤ p then xs[xs.length - 1 - p]? else xs[p]? := by
  intro p hp
  have hk0 := h k (by omega)
  have hj0 := h j (by omega)
  rw [if_neg (by omega), hx] at hk0
  rw [if_neg (by omega), hy] at hj0
  rw [List.getElem?_set]
  by_cases e1 : j = p
  · subst e1
    rw [if_pos rfl, if_pos (by rw [List.length_set]; omega), if_pos (by omega), show xs.length - 1 - j = k by omega, ← hk0]
  · rw [if_neg e1, List.getElem?_set]
    by_cases e2 : k = p
    · subst e2
      rw [if_pos rfl, if_pos (by omega), if_pos (by omega), ← hj, ← hj0]
    · rw [if_neg e2, h p hp]
      by_cases e3 : p < k ∨ xs.length - k ≤ p
      · rw [if_pos e3, if_pos (by omega)]
      · rw [if_neg e3, if_neg (by omega)]
set_option maxHeartbeats 4000000 in
theorem reverse_g (xs : List ByteArray) (a : Option Addr) (n c M : Nat) (w : World) (hown : w.ownsRow M 9 1 (.slice a n c) n (xs.map Value.string)) (hM : M ≤ w.heap.size) (hn1 : n < 1000000) :
    Calls Tryz.prog 66 #[.slice a n c] w (fun e w' => e = .returned (.tuple #[]) ∧ w'.ownsRow M 9 1 (.slice a n c) n (xs.reverse.map Value.string) ∧ Below M w w') := by
  have hn : xs.length = n := by have := hown.1; rw [List.length_map] at this; omega
  have hw0 : IntKind.i64.wrap ((n : Int) - 1) = (n : Int) - 1 := IntWalk.i64_in _ (by omega)
  have Hn := hI hn
  have HM := hI hM
  clear hn hM
  go_enter Tryz.func66, Tryz.ntmps66
  go_wp2_with fail
  go_loopw [2, 3] (fun i j wr => ∃ (k : Nat) (L : List ByteArray), k ≤ n ∧ i = .int .i64 (k : Int) ∧ j = .int .i64 ((n : Int) - 1 - (k : Int)) ∧ wr.ownsRow M 9 1 (.slice a n c) n (L.map Value.string) ∧ Below M w wr ∧ Hid (L.length = n ∧ ∀ p, p < n → L[p]? = if p < k ∨ n - k ≤ p then xs[n - 1 - p]? else xs[p]?)) (fun i _ _ => n - (intOf i).toNat)
  case atStart => exact ⟨0, xs, Nat.zero_le _, rfl, by simp, hown, Below.refl _ _, Hn.out, fun p hp => by rw [if_neg (by omega)]⟩
  case round =>
    clear hown
    obtain ⟨k, L, hk, rfl, rfl, hown, hbw, hpre⟩ := hrel
    by_cases hlt : (k : Int) < (n : Int) - 1 - (k : Int)
    · obtain ⟨g, rfl⟩ := own_some hown (by omega)
      obtain ⟨j, hj⟩ : ∃ j : Nat, (n : Int) - 1 - (k : Int) = (j : Int) := ⟨n - 1 - k, by omega⟩
      rw [hj] at hlt ⊢
      obtain ⟨x, hx⟩ : ∃ x, L[k]? = some x := ⟨L[k]'(by have := hpre.out.1; omega), by simp⟩
      obtain ⟨y, hy⟩ : ∃ y, L[j]? = some y := ⟨L[j]'(by have := hpre.out.1; omega), by simp⟩
      obtain ⟨ck, fk⟩ := own_strs hown hx
      obtain ⟨cj, fj⟩ := own_strs hown hy
      have hkn : (k : Int) < (n : Int) := by omega
      have hjn : (j : Int) < (n : Int) := by omega
      have hk0 : (0 : Int) ≤ (k : Int) := Int.natCast_nonneg _
      have hj0 : (0 : Int) ≤ (j : Int) := Int.natCast_nonneg _
      have hkw : IntKind.i64.wrap ((k : Int) + 1) = (k : Int) + 1 := IntWalk.i64_in _ (by omega)
      have hjw : IntKind.i64.wrap ((j : Int) - 1) = (j : Int) - 1 := IntWalk.i64_in _ (by omega)
      have hge := (hown.lt g rfl).1
      have Hs := hI (rev_step (j := j) (hpre.out.1.trans Hn.out.symm) (by rw [Hn.out]; omega) (by omega) hx hy (by rw [Hn.out]; exact hpre.out.2))
      have h1 := own_setCell hown (i := k) (by omega) (.string y)
      have h2 := own_setCell h1 (i := j) (by omega) (.string x)
      rw [show ((L.map Value.string).set k (.string y)).set j (.string x) = (((L.set k y).set j x)).map Value.string by rw [List.map_set, List.map_set]] at h2
      have Hown := hI h2
      have Hbw := hI ((hbw.setCell (p := ⟨g, k, none⟩) hge (.string y)).setCell (p := ⟨g, j, none⟩) hge (.string x))
      have Hj := hI hj
      have Hl := hI (show ((L.set k y).set j x).length = n by rw [List.length_set, List.length_set]; exact hpre.out.1)
      clear h1 h2 hown hbw hpre hx hy hj
      go_wp2_with fail
      go_region
      all_goals (go_wp2_with fail)
      go_roundw
      case rel =>
        refine ⟨k + 1, (L.set k y).set j x, by omega, by go_num, by have := Hj.out; rw [show (n : Int) - 1 - ((k + 1 : Nat) : Int) = (j : Int) - 1 by omega], ?_, ?_, Hl.out, by have h := Hs.out; rw [Hn.out] at h; exact h⟩
        · exact own_below Hown.out ((Below.refl _ _).dn 1)
        · exact (Hbw.out).dn 1
      case measure => simp [intOf] <;> omega
    · have hfin := rev_end (xs := xs) (hpre.out.1.trans Hn.out.symm) (by rw [Hn.out]; exact hlt) (by rw [Hn.out]; exact hk) (by rw [Hn.out]; exact hpre.out.2)
      subst hfin
      go_wp2_with fail
      go_end0
      exact ⟨rfl, by rw [← List.map_reverse]; exact hown, hbw⟩
theorem flat_bound {l : List (List UInt8)} (h : ∀ x ∈ l, x.length ≤ 9) : l.flatten.length ≤ 9 * l.length := by
  induction l with
  | nil => simp
  | cons x l ih =>
    rw [List.flatten_cons, List.length_append, List.length_cons]
    have := h x (by simp)
    have := ih (fun y hy => h y (by simp [hy]))
    omega
theorem join_nil (l : List (List UInt8)) : Lib.join l [] = l.flatten := by
  induction l with
  | nil => rfl
  | cons x l ih =>
    rw [Lib.join_cons]
    unfold Lib.joinTail
    simp
def mkB (l : List UInt8) : ByteArray := ⟨l.toArray⟩
theorem rep_eq (k : Nat) : Lib.repeatL [48] k = List.replicate k 48 := by
  induction k with
  | zero => rfl
  | succ k ih => rw [Lib.repeatL, ih]; rfl
theorem cat_mk (x y : List UInt8) : (⟨x.toArray⟩ ++ ⟨y.toArray⟩ : ByteArray) = mkB (x ++ y) := by
  apply bytes_inj
  simp [ByteArray.toList_eq, mkB]
theorem magA_app {w w5 : World} {o : Obj} {B n N : Nat} {v gv : Value} {xs : List Value} (h : MagA w v N) (hown : w.ownsRow B 9 1 gv n xs) (hg : (w.alloc o).grownBy w5 gv.ownBlock) : MagV w5 v N := by
  obtain ⟨a, c, rfl, hl, ha⟩ := h
  exact ⟨a, c, rfl, Ls.grown (hl.mono (below1 w o)) (ha.mono (below1 w o)) (own_below hown (below1 w o)) (by decide) hg⟩
theorem grow_bw (w : World) (k : Nat) (os : Array Obj) : Below w.heap.size w (Go.Sort.grow (w.drewN k) os) := ⟨rfl, rfl, rfl, by show w.heap.size ≤ (w.heap ++ os).size; rw [Array.size_append]; omega, fun b hb => by show (w.heap ++ os)[b]? = w.heap[b]?; rw [Array.getElem?_append_left hb]⟩
set_option maxHeartbeats 8000000 in
set_option maxRecDepth 10000 in
theorem text_g (v : Value) (z : Int) (K : Nat) (w : World) (h : IntV w v z) (hK : z.natAbs < 10 ^ (9 * K)) (hK1 : K ≤ 10000) (hT : Tab w) : Calls Tryz.prog 37 #[v] w (Ret (.string ⟨(txtZ z).toArray⟩) w) := by
  obtain ⟨a, c, rfl, h⟩ := h
  have hfew : Few z.natAbs := limbs_ten hK (by omega)
  by_cases h0 : z = 0
  · subst h0
    rw [txtZ_zero]
    have hB := Blk.new w #[.bool (decide ((0 : Int) < 0)), .slice a (limbs (Int.natAbs 0)).length c] 59
    have hn : (limbs (Int.natAbs 0)).length = 0 := by rw [show Int.natAbs 0 = 0 from rfl, limbs_zero]; rfl
    rw [hn] at hB ⊢
    obtain ⟨⟨c0, c1⟩, -⟩ := blk2v hB
    clear hB h hT
    go_enter Tryz.func37, Tryz.ntmps37
    go_wp2_with fail
    go_ret
    exact ⟨rfl, below1 w _⟩
  · have hN0 : z.natAbs ≠ 0 := by omega
    have HTx := hI (show txtZ z = if decide (z < 0) = true then 45 :: bytesD (D10.limbs z.natAbs) else bytesD (D10.limbs z.natAbs) from by
      unfold txtZ txtN txtD
      rw [if_neg (fun e => hN0 (D10.limbs_nil.1 e))])
    generalize txtZ z = R at *
    generalize decide (z < 0) = sg at *
    have Hfew := hI hfew
    have HK0 := hI hK
    have HN0 := hI hN0
    have hM : MagV w (.slice a (limbs z.natAbs).length c) z.natAbs := ⟨a, c, rfl, h⟩
    have hnn : (limbs z.natAbs).length ≠ 0 := fun e => hN0 (limbs_len0.1 e)
    generalize z.natAbs = N at *
    generalize (limbs N).length = n at *
    have hn1 : ((n : Int) == 0) = false := by rw [beq_eq_false_iff_ne]; omega
    have hB := Blk.new w #[.bool sg, .slice a n c] 59
    have HB := hI hB
    have HK := hI (below1 w (.cells #[.bool sg, .slice a n c] 59))
    have HM := hI (hM.mono HK.out)
    have HT := hI (hT.mono HK.out)
    have HN := hI (fun W : World => World.ownsRow_nil W (w.alloc (.cells #[.bool sg, .slice a n c] 59)).heap.size 9 1)
    obtain ⟨⟨c0, c1⟩, -⟩ := blk2v hB
    clear h0 h hfew hK hN0 hM hnn hT hB
    go_enter Tryz.func37, Tryz.ntmps37
    go_wp2_with fail
    go_loopg [4, 3] N (fun gk m g wr => ∃ gs : List (List UInt8), MagV wr m gk ∧ Below (w.alloc (.cells #[.bool sg, .slice a n c] 59)).heap.size (w.alloc (.cells #[.bool sg, .slice a n c] 59)) wr ∧ wr.ownsRow (w.alloc (.cells #[.bool sg, .slice a n c] 59)).heap.size 9 1 g gs.length ((gs.map mkB).map Value.string) ∧ gs.length ≤ K ∧ gk ≤ N ∧ Hid (gk < 10 ^ (9 * (K - gs.length)) ∧ (∀ l ∈ gs, l.length ≤ 9) ∧ bytesD (D10.limbs N) = bytesD (D10.limbs gk) ++ gs.reverse.flatten))
    case atStart => exact ⟨[], HM.out, Below.refl _ _, HN.out _, Nat.zero_le _, Nat.le_refl _, HK0.out, (fun l hl => by simp at hl), by simp⟩
    case round =>
      obtain ⟨gs, hm, hbw, hown, hgl, hgN, hpre⟩ := hrel
      obtain ⟨am, cm, rfl, hm⟩ := hm
      have Hbw := hI hbw
      have Hown := hI hown
      rcases Nat.eq_zero_or_pos gk with rfl | hpos
      · have hz : (limbs 0).length = 0 := by rw [limbs_zero]; rfl
        rw [hz]
        have hfl := hpre.out.2.2
        rw [D10.limbs_zero, show bytesD [] = [] from rfl, List.nil_append] at hfl
        have hgs0 : 0 < gs.length := by
          rcases Nat.eq_zero_or_pos gs.length with h | h
          · rw [List.length_eq_zero_iff.1 h] at hfl
            exact absurd (bytesD_head HN0.out) (by rw [hfl]; simp)
          · exact h
        obtain ⟨ga, gc, rfl, hc1, -⟩ := own_open hown
        obtain ⟨gb, rfl⟩ := own_some hown hgs0
        obtain ⟨q, hq⟩ : ∃ q, gs.length = q := ⟨_, rfl⟩
        have hxl : ((gs.map mkB).reverse).length = q := by simp [hq]
        have hjoin : Lib.join (((gs.map mkB).reverse).map (·.data.toList)) (⟨#[]⟩ : ByteArray).data.toList = gs.reverse.flatten := by
          rw [show (⟨#[]⟩ : ByteArray).data.toList = [] from rfl, join_nil, List.map_reverse, List.map_map]
          congr 2
          conv => rhs; rw [← List.map_id gs]
          exact List.map_congr_left (fun x _ => by simp [mkB])
        have hbnd : gs.reverse.flatten.length ≤ 140737488355328 := by
          have := flat_bound (l := gs.reverse) (fun x hx => hpre.out.2.1 x (List.mem_reverse.1 hx))
          rw [List.length_reverse] at this
          omega
        rw [hq] at hown hgs0 hc1
        rw [hq]
        have HRv := hI (reverse_g (gs.map mkB) _ q gc (w.alloc (.cells #[.bool sg, .slice a n c] 59)).heap.size wr hown Hbw.out.size (by omega))
        have HJ := hI (fun w' (ho : w'.ownsRow (w.alloc (.cells #[.bool sg, .slice a n c] 59)).heap.size 9 1 (.slice (some ⟨gb, 0, none⟩) q gc) q ((gs.map mkB).reverse.map Value.string)) => Tryz.strings_Join gb 0 gc ((gs.map mkB).reverse) ⟨#[]⟩ w' (fun j x hx => by rw [Nat.zero_add]; exact (own_strs ho hx).1) (ho.lt gb rfl).2 (by rw [hxl]; omega) (by rw [hxl]; exact hc1) (by rw [hjoin]; exact hbnd))
        rw [hxl, hjoin, ← hfl] at HJ
        have Hsz := hI (show (⟨(bytesD (D10.limbs N)).toArray⟩ : ByteArray).size ≤ 140737488355328 from by rw [Lib.size_eq, hfl]; exact hbnd)
        clear hown hbw hpre hfl hjoin hbnd hxl hq hc1 hm hz
        have hsz := Hsz.out
        have hcat : ¬ 9223372036854775807 < 1 + (⟨(bytesD (D10.limbs N)).toArray⟩ : ByteArray).size := by omega
        have HTx2 := HTx.out
        cases sg
        · rw [if_neg (by decide)] at HTx2
          subst HTx2
          generalize (⟨(bytesD (D10.limbs N)).toArray⟩ : ByteArray) = RB at *
          go_wp2_with (first
            | (go_at_call 66; refine (HRv.out).mono ?_; rintro e w3 ⟨rfl, ho3, hb3⟩; have Ho3 := hI ho3; have Hb3 := hI (Hbw.out.trans hb3); clear ho3 hb3)
            | (go_at_call 67; refine (HJ.out _ Ho3.out).mono ?_; rintro e w4 ⟨rfl, hb4⟩; have Hb4 := hI (Hb3.out.via hb4 Hb3.out.size); obtain ⟨⟨s0, s1⟩, -⟩ := blk2v (HB.out.below Hb4.out); clear hb4))
          go_ret
          exact ⟨rfl, HK.out.via Hb4.out HK.out.size⟩
        · rw [if_pos rfl] at HTx2
          subst HTx2
          have hRB := bytes_cat 45 (bytesD (D10.limbs N))
          have HRB := hI hRB
          clear hRB
          generalize (⟨(bytesD (D10.limbs N)).toArray⟩ : ByteArray) = RB at *
          go_wp2_with (first
            | (go_at_call 66; refine (HRv.out).mono ?_; rintro e w3 ⟨rfl, ho3, hb3⟩; have Ho3 := hI ho3; have Hb3 := hI (Hbw.out.trans hb3); clear ho3 hb3)
            | (go_at_call 67; refine (HJ.out _ Ho3.out).mono ?_; rintro e w4 ⟨rfl, hb4⟩; have Hb4 := hI (Hb3.out.via hb4 Hb3.out.size); obtain ⟨⟨s0, s1⟩, -⟩ := blk2v (HB.out.below Hb4.out); clear hb4))
          go_ret
          exact ⟨by rw [← HRB.out]; rfl, HK.out.via Hb4.out HK.out.size⟩
      · have hg0 : gk ≠ 0 := by omega
        have hpow := hpre.out.1
        have hglK : gs.length < K := by
          rcases Nat.lt_or_ge gs.length K with h | h
          · exact h
          · rw [show K - gs.length = 0 by omega, Nat.mul_zero, Nat.pow_zero] at hpow
            omega
        have hq2 : gk / 1000000000 < 10 ^ (9 * (K - (gs.length + 1))) := by
          refine Nat.div_lt_of_lt_mul ?_
          rw [show K - gs.length = (K - (gs.length + 1)) + 1 by omega, Nat.mul_add, Nat.pow_add] at hpow
          rw [Nat.mul_comm]
          exact hpow
        have Hq2 := hI hq2
        have Hst := hI (grp_step hg0 hpre.out.2.2)
        have HS := hI (short_at am _ cm (limbs gk) 1000000000 wr hm (limbs_dg gk) (few_le hgN Hfew.out) (by decide) (by decide))
        rw [natL_limbs] at HS
        have hlen : 0 < (limbs gk).length := by
          rcases Nat.eq_zero_or_pos (limbs gk).length with h | h
          · rw [limbs_len0] at h; omega
          · exact h
        have hlen2 : (0 : Int) < ((limbs gk).length : Int) := by omega
        have hr : gk % 1000000000 < 1000000000 := Nat.mod_lt _ (by decide)
        have hqd : gk / 1000000000 < gk := by omega
        have hdl := dec_len (k := 8) (r := gk % 1000000000) (by omega)
        have hdl1 : 1 ≤ (Lib.decDigits (gk % 1000000000)).length := by rw [Lib.decDigits_length]; exact Lib.nDigits_pos _
        have hpl := pad_len (k := 8) (r := gk % 1000000000) (by omega)
        have hit : Lib.itoa ((gk % 1000000000 : Nat) : Int) = Lib.decDigits (gk % 1000000000) := by
          unfold Lib.itoa
          rw [if_neg (by omega), Int.toNat_natCast]
        have HI := hI (fun w' (ht : Tab w') => Tryz.strconv_Itoa ((gk % 1000000000 : Nat) : Int) (by omega) (by omega) w' ht)
        rw [hit] at HI
        have hwr : IntKind.i64.wrap ((gk % 1000000000 : Nat) : Int) = ((gk % 1000000000 : Nat) : Int) := IntWalk.i64_in _ (by omega)
        have hpd : pad 9 (gk % 1000000000) = List.replicate (9 - (Lib.decDigits (gk % 1000000000)).length) 48 ++ Lib.decDigits (gk % 1000000000) := rfl
        obtain ⟨rc, hrc⟩ : ∃ rc, 9 - (Lib.decDigits (gk % 1000000000)).length = rc := ⟨_, rfl⟩
        have HRp := hI (fun w' => Tryz.strings_Repeat ⟨#[48]⟩ rc w' (by omega) (by rw [show (⟨#[48]⟩ : ByteArray).size = 1 from rfl]; omega))
        rw [show (⟨#[48]⟩ : ByteArray).data.toList = [48] from rfl, rep_eq] at HRp
        rw [hrc] at hpd
        have hDs : (⟨(Lib.decDigits (gk % 1000000000)).toArray⟩ : ByteArray).size = (Lib.decDigits (gk % 1000000000)).length := Lib.size_eq _
        have hRs : (⟨(List.replicate rc (48 : UInt8)).toArray⟩ : ByteArray).size = rc := by rw [Lib.size_eq]; simp
        have hcat := cat_mk (List.replicate rc 48) (Lib.decDigits (gk % 1000000000))
        rw [← hpd] at hcat
        have hdm : (⟨(Lib.decDigits (gk % 1000000000)).toArray⟩ : ByteArray) = mkB (Lib.decDigits (gk % 1000000000)) := rfl
        obtain ⟨kq, hkq⟩ : ∃ k, (limbs (gk / 1000000000)).length = k := ⟨_, rfl⟩
        have hkz := limbs_len0 (n := gk / 1000000000)
        rw [hkq] at hkz
        have Hkq := hI hkq
        generalize Lib.decDigits (gk % 1000000000) = dd at *
        generalize pad 9 (gk % 1000000000) = pp at *
        generalize gk % 1000000000 = r at *
        generalize gk / 1000000000 = qq at *
        generalize (limbs gk).length = kl at *
        unfold MagA at HS
        rw [hkq] at HS
        have Hqd := hI hqd
        have Hgl := hI (And.intro hglK hgN)
        have Hdl := hI (And.intro hdl hpl)
        have Hdm := hI hdm
        have Hcat := hI hcat
        have hcs : ¬ 9223372036854775807 < rc + (⟨dd.toArray⟩ : ByteArray).size := by omega
        have hsub : IntKind.i64.wrap ((9 : Int) - ((⟨dd.toArray⟩ : ByteArray).size : Int)) = (rc : Int) := (IntWalk.i64_in _ (by omega)).trans (by omega)
        clear hdm hcat hpd hit
        generalize hD : (⟨dd.toArray⟩ : ByteArray) = D at *
        generalize hR0 : (⟨(List.replicate rc (48 : UInt8)).toArray⟩ : ByteArray) = RP at *
        have hcs2 : ¬ 9223372036854775807 < RP.size + D.size := by omega
        have Hpre2 := hI hpre.out.2.1
        have HD0 := hI hD
        have HR0 := hI hR0
        clear hD hR0 hDs hRs
        by_cases hq0 : qq = 0
        · subst hq0
          have hk0 : kq = 0 := hkz.2 rfl
          subst hk0
          have Hst2 := hI (show bytesD (D10.limbs N) = bytesD (D10.limbs 0) ++ (gs ++ [dd]).reverse.flatten from by have h := Hst.out; rw [if_pos rfl] at h; exact h)
          clear hq2 hpow hm hbw hown hlen hr hqd hdl hdl1 hpl hg0 hpre hgl hgN hkz hkq Hst
          go_wp2_with (first
            | (go_at_call 63; refine (HS.out).mono ?_; rintro e w1 ⟨v1, rfl, ⟨a1, c1, rfl, hl1, ha1⟩, hb1⟩; have Hv1 := hI (And.intro hl1 ha1); have Hb1 := hI (bw_via Hbw.out hb1); have Hbw1 := hI hb1; clear hl1 ha1 hb1)
            | (go_at_call 64; refine (HI.out _ (HT.out.mono Hb1.out)).mono ?_; rintro e w2 ⟨rfl, kk, os, hw2⟩; have hb2 := grow_bw w1 kk os; rw [← hw2] at hb2; have Hb2 := hI (bw_via Hb1.out hb2); have Hbw2 := hI (bw_via Hbw1.out hb2); have Hv2 := hI (And.intro (Hv1.out.1.mono hb2) (Hv1.out.2.mono hb2)); clear hw2 hb2)
            | (at_builtin; refine wpApp ES (by decide) [.string (D)] rfl _ _ rfl (w.alloc (.cells #[.bool sg, .slice a n c] 59)).heap.size _ _ _ rfl rfl (own_below Hown.out Hbw2.out) rfl (one1 _ rfl) (by omega) (by decide) Hb2.out.size ?_; intro v' w5 hown' hg'; have Hb5 := hI (below_app Hb2.out (own_below Hown.out Hbw2.out) hg' Hb2.out.size); have Hown5 := hI hown'; have Hm5 := hI (magA_app (N := 0) ⟨a1, c1, by rw [Hkq.out], by rw [Hkq.out]; exact Hv2.out.1, Hv2.out.2⟩ (own_below Hown.out Hbw2.out) hg'); clear hown' hg'))
          go_roundg 0
          case measure => exact Hqd.out
          case rel =>
            refine ⟨gs ++ [dd], Hm5.out, Hb5.out, ?_, ?_, ?_, ?_, ?_, Hst2.out⟩
            · have h := Hown5.out
              rw [Hdm.out] at h
              rw [List.length_append, List.map_append, List.map_append]
              exact h
            · rw [List.length_append]; exact Hgl.out.1
            · exact Nat.zero_le _
            · rw [List.length_append]; exact Hq2.out
            · intro y hy
              rcases List.mem_append.1 hy with hy | hy
              · exact Hpre2.out y hy
              · rw [List.mem_singleton.1 hy]
                exact Hdl.out.1
        · have hk0 : kq ≠ 0 := fun e => hq0 (hkz.1 e)
          have hk1 : (0 : Int) < (kq : Int) := by omega
          have Hst2 := hI (show bytesD (D10.limbs N) = bytesD (D10.limbs qq) ++ (gs ++ [pp]).reverse.flatten from by have h := Hst.out; rw [if_neg hq0] at h; exact h)
          clear hq2 hpow hm hbw hown hlen hr hqd hdl hdl1 hpl hg0 hpre hgl hgN hkz hkq Hst
          go_wp2_with (first
            | (go_at_call 63; refine (HS.out).mono ?_; rintro e w1 ⟨v1, rfl, ⟨a1, c1, rfl, hl1, ha1⟩, hb1⟩; have Hv1 := hI (And.intro hl1 ha1); have Hb1 := hI (bw_via Hbw.out hb1); have Hbw1 := hI hb1; clear hl1 ha1 hb1)
            | (go_at_call 64; refine (HI.out _ (HT.out.mono Hb1.out)).mono ?_; rintro e w2 ⟨rfl, kk, os, hw2⟩; have hb2 := grow_bw w1 kk os; rw [← hw2] at hb2; have Hb2 := hI (bw_via Hb1.out hb2); have Hbw2 := hI (bw_via Hbw1.out hb2); have Hv2 := hI (And.intro (Hv1.out.1.mono hb2) (Hv1.out.2.mono hb2)); clear hw2 hb2)
            | (go_at_call 65; refine (HRp.out _).mono ?_; rintro e w3 ⟨rfl, hb3⟩; have Hb3 := hI (bw_via Hb2.out hb3); have Hbw3 := hI (bw_via Hbw2.out hb3); have Hv3 := hI (And.intro (Hv2.out.1.mono hb3) (Hv2.out.2.mono hb3)); clear hb3)
            | (at_builtin; refine wpApp ES (by decide) [.string (RP ++ D)] rfl _ _ rfl (w.alloc (.cells #[.bool sg, .slice a n c] 59)).heap.size _ _ _ rfl rfl (own_below Hown.out Hbw3.out) rfl (one1 _ rfl) (by omega) (by decide) Hb3.out.size ?_; intro v' w5 hown' hg'; have Hb5 := hI (below_app Hb3.out (own_below Hown.out Hbw3.out) hg' Hb3.out.size); have Hown5 := hI hown'; have Hm5 := hI (magA_app (N := qq) ⟨a1, c1, by rw [Hkq.out], by rw [Hkq.out]; exact Hv3.out.1, Hv3.out.2⟩ (own_below Hown.out Hbw3.out) hg'); clear hown' hg'))
          go_roundg qq
          case measure => exact Hqd.out
          case rel =>
            refine ⟨gs ++ [pp], Hm5.out, Hb5.out, ?_, ?_, ?_, ?_, ?_, Hst2.out⟩
            · have h := Hown5.out
              rw [Hcat.out] at h
              rw [List.length_append, List.map_append, List.map_append]
              exact h
            · rw [List.length_append]; exact Hgl.out.1
            · exact Nat.le_trans (Nat.le_of_lt Hqd.out) Hgl.out.2
            · rw [List.length_append]; exact Hq2.out
            · intro y hy
              rcases List.mem_append.1 hy with hy | hy
              · exact Hpre2.out y hy
              · rw [List.mem_singleton.1 hy]
                exact (by rw [Hdl.out.2]; exact Nat.le_refl _)
end Go.Proofs.YtlcmhbkmpkcajaaGreatDoor
namespace Go.Proofs.YtlcmhbkmpkcajaaGreatDoor
open Go.RowKit
theorem txt_cat (a b : List UInt8) : (⟨a.toArray⟩ ++ ⟨#[47]⟩ ++ ⟨b.toArray⟩ : ByteArray) = ⟨(a ++ 47 :: b).toArray⟩ := by
  apply bytes_inj
  simp [ByteArray.toList_eq]
theorem txtZ_len {z : Int} (h : Few10 z.natAbs) : (⟨(txtZ z).toArray⟩ : ByteArray).size ≤ 20002 := by
  obtain ⟨p, -, -, -, hp, hl⟩ := txtN_abs (decide (z < 0)) z.natAbs
  rw [Lib.size_eq]
  show (txtZ z).length ≤ 20002
  unfold txtZ Few10 at *
  rcases hp with hp | hp <;> rw [hp]
  · omega
  · rw [List.length_cons]; omega
theorem txtR_len {k : Nat} {r : Rat} (h : Sz k r) : (txtR r).length ≤ 2 * k + 4 := by
  have key : ∀ z : Int, z.natAbs < 10 ^ k → (txtZ z).length ≤ k + 2 := fun z hz => by
    obtain ⟨p, -, -, -, hp, hl⟩ := txtN_abs (decide (z < 0)) z.natAbs
    have := limbs10_le hz
    unfold txtZ
    rcases hp with hp | hp <;> rw [hp]
    · omega
    · rw [List.length_cons]; omega
  have h1 := key r.num h.1
  have h2 := key (r.den : Int) (by rw [Int.natAbs_natCast]; exact h.2)
  by_cases hd : r.den = 1
  · rw [txtR_one hd]; omega
  · have h3 : (txtZ (r.den : Int)).length ≤ k + 1 := by
      obtain ⟨p, -, -, -, hp, hl⟩ := txtN_abs false r.den
      have := limbs10_le h.2
      rw [txtZ_nat]
      have e : txtN false r.den = bytesD (D10.limbs r.den) := by rw [← txtZ_nat, txtZ_pos r.den_nz]
      rw [e]
      unfold bytesD
      simp
      omega
    rw [txtR_div hd, List.length_append, List.length_cons]
    omega
end Go.Proofs.YtlcmhbkmpkcajaaGreatDoor
namespace Go.Proofs.YtlcmhbkmpkcajaaGreatDoor
open Go.RowKit
set_option maxHeartbeats 4000000 in
theorem number_g (v : Value) (r : Rat) (K : Nat) (w : World) (h : RQ w v r) (hz : Sz (9 * K) r) (hK : K ≤ 2000) (hT : Tab w) : Calls Tryz.prog 25 #[v] w (Ret (.string ⟨(txtR r).toArray⟩) w) := by
  obtain ⟨q, h, hq⟩ := h
  obtain ⟨x, a, n, c, x', a', n', c', rfl, h⟩ := h.open
  have hB := Blk.new w #[.bool x, .slice a n c, .bool x', .slice a' n' c'] 61
  have HS := hI (fun w' (hb : Below (w.alloc (.cells #[.bool x, .slice a n c, .bool x', .slice a' n' c'] 61)).heap.size (w.alloc (.cells #[.bool x, .slice a n c, .bool x', .slice a' n' c'] 61)) w') => cells4 hB hb)
  have HK := hI (below1 w (.cells #[.bool x, .slice a n c, .bool x', .slice a' n' c'] 61))
  have H1 := hI (fun w' (hb : Below w.heap.size w w') => whole_g _ r.num q w' (h.mono hb))
  rw [hq] at H1
  have H2 := hI (fun w' (hb : Below w.heap.size w w') => text_g _ r.num K w' (h.parts.1.mono hb) hz.1 (by omega) (hT.mono hb))
  by_cases h1 : r.den = 1
  · rw [txtR_one h1]
    rw [decide_eq_true (show ((r.den : Nat) : Int) = 1 by omega)] at H1
    generalize (⟨(txtZ r.num).toArray⟩ : ByteArray) = D at *
    clear h hB hz hT hq h1
    go_enter Tryz.func25, Tryz.ntmps25
    go_wp2_with (first
      | (go_at_call 36; refine (H1.out _ HK.out).mono ?_; rintro e1 w1 ⟨rfl, hb1⟩; obtain ⟨c0, c1, c2, c3⟩ := HS.out _ hb1)
      | (go_at_call 37; refine (H2.out _ (HK.out.via hb1 HK.out.size)).mono ?_; rintro e2 w2 ⟨rfl, hb2⟩))
    go_ret
    exact ⟨rfl, HK.out.via (bw_via hb1 hb2) HK.out.size⟩
  · rw [txtR_div h1, ← txt_cat]
    rw [decide_eq_false (show ¬ ((r.den : Nat) : Int) = 1 by omega)] at H1
    have hqd : q = (r.den : Int) := by
      unfold dn at hq
      split at hq
      · omega
      · exact hq
    have H3 := hI (fun w' (hb : Below w.heap.size w w') => text_g _ q K w' (h.parts.2.mono hb) (by rw [hqd, Int.natAbs_natCast]; exact hz.2) (by omega) (hT.mono hb))
    rw [hqd] at H3
    have hs1 := txtZ_len (z := r.num) (few10_lt hz.1 (by omega))
    have hs2 := txtZ_len (z := (r.den : Int)) (by rw [Int.natAbs_natCast]; exact few10_lt hz.2 (by omega))
    generalize (⟨(txtZ r.num).toArray⟩ : ByteArray) = D at *
    generalize (⟨(txtZ (r.den : Int)).toArray⟩ : ByteArray) = E at *
    have hcat : ¬ 9223372036854775807 < D.size + 1 := by omega
    have hcat2 : ¬ 9223372036854775807 < D.size + 1 + E.size := by omega
    clear h hB hz hT hq h1 hqd hs1 hs2
    go_enter Tryz.func25, Tryz.ntmps25
    go_wp2_with (go_at_call 36; refine (H1.out _ HK.out).mono ?_; rintro e1 w1 ⟨rfl, hb1⟩; have Hb1 := hI hb1; clear hb1)
    refine wp_region_held_drew (S := (fun w' => w'.cell? ⟨w.heap.size, 0, none⟩ = some (.bool x) ∧ w'.cell? ⟨w.heap.size, 1, none⟩ = some (.slice a n c) ∧ w'.cell? ⟨w.heap.size, 2, none⟩ = some (.bool x') ∧ w'.cell? ⟨w.heap.size, 3, none⟩ = some (.slice a' n' c'))) (by kernel_rfl) (by exact HS.out _ (Hb1.out.dn 1)) (fun hHeld => ?_)
    refine' tk 0 ?_; (try simp only [tkS]); refine' tk 1 ?_; (try simp only [tkS]); refine' tk 4 ?_; (try simp only [tkS]); refine' tk 5 ?_; (try simp only [tkS])
    refine tk1 2 (fun K hK => ?_)
    go_simp
    go_at_call 37
    refine (H2.out _ (HK.out.via (Hb1.out.dn 1) HK.out.size)).mono ?_
    rintro e5 w2 ⟨rfl, hb2⟩
    have Hb2 := hI (bw_via (Hb1.out.dn 1) hb2)
    clear hb2
    refine hK.out _ _ (by exact HS.out _ (Hb2.out)) (fun hHeld => ?_)
    clear hK K; (try simp only [tkS])
    refine' tk 3 ?_; (try simp only [tkS])
    refine tk1 6 (fun K hK => ?_)
    go_simp
    go_at_call 37
    refine (H3.out _ (HK.out.via (Hb2.out) HK.out.size)).mono ?_
    rintro e5 w6 ⟨rfl, hb6⟩
    have Hb6 := hI (bw_via (Hb2.out) hb6)
    clear hb6
    refine hK.out _ _ (by exact HS.out _ (Hb6.out)) (fun hHeld => ?_)
    clear hK K; (try simp only [tkS])
    refine' tk 7 ?_; (try simp only [tkS]); refine' tk 8 ?_; (try simp only [tkS])
    refine tkD ?_ _
    go_wp2_with fail
    go_ret
    exact ⟨rfl, HK.out.via Hb6.out HK.out.size⟩
end Go.Proofs.YtlcmhbkmpkcajaaGreatDoor
namespace Go.Proofs.YtlcmhbkmpkcajaaGreatDoor
open Go.RowKit
def numS (r : Rat) : ByteArray := ⟨(txtR r).toArray⟩
def TV (w : World) (v : Value) (rs : List Rat) : Prop := Strs w v (rs.map numS) ∧ AT w 24 v
theorem TV.open {w : World} {v : Value} {rs : List Rat} (h : TV w v rs) : ∃ a cap, v = .slice a rs.length cap ∧ rs.length ≤ cap ∧ cap ≤ maxLen := by
  have := h.1.open
  rwa [List.length_map] at this
theorem TV.at {w wr : World} {n cap : Nat} {a : Option Addr} {rs : List Rat} (h : TV w (.slice a n cap) rs) (hb : Below w.heap.size w wr) {k : Nat} (hk : k < n) :
    ∃ b off r, a = some ⟨b, off, none⟩ ∧ rs[k]? = some r ∧ wr.cell? ⟨b, off + k, none⟩ = some (.string (numS r)) := by
  obtain ⟨b, off, s, ha, hs, hc⟩ := h.1.at hb hk
  rw [List.getElem?_map, Option.map_eq_some_iff] at hs
  obtain ⟨r, hr, rfl⟩ := hs
  exact ⟨b, off, r, ha, hr, hc⟩
theorem TV.keep {ok : TypeId → Prop} {w w' : World} {v : Value} {rs : List Rat} (h : TV w v rs) (hk : Keep ok w w') (ho : ok 24) : TV w' v rs := ⟨Sl.keep h.1 h.2 hk ho, h.2.keep hk ho⟩
theorem TV.mono {w w' : World} {v : Value} {rs : List Rat} (h : TV w v rs) (hb : Below w.heap.size w w') : TV w' v rs := h.keep (ok := fun _ => True) (.below hb) trivial
theorem readq_g (r : Rat) (w : World) (hz : Sz 100 r) : Calls Tryz.prog 27 #[.string (numS r)] w (RetP (fun v w' => ∃ q, v = .tuple #[q, .int .i64 0] ∧ RQ w' q r) w) := by
  have hl : (numS r).data.toList = txtR r := by unfold numS; simp
  have h := read_g (numS r) w (by unfold numS; rw [Lib.size_eq]; have := txtR_len hz; simp; omega)
  rw [hl] at h
  refine h.mono ?_
  rintro e w' ⟨v, he, ⟨x, a, n, c, y, a', m, e', hv, hr, -, -⟩, hb⟩
  rw [txtR_err] at hv
  refine ⟨v, he, ⟨_, hv, (denR (txtR r)), ?_, ?_⟩, hb⟩
  · have h1 := (num_of (txtR_err r)).1
    rw [txtR_num] at h1
    rw [h1] at hr
    exact hr
  · rw [(num_of (txtR_err r)).2]
    exact txtR_dn r
set_option maxHeartbeats 4000000 in
set_option maxRecDepth 10000 in
theorem all_g (u : Value) (rs : List Rat) (n : Nat) (w : World) (h : TV w u rs) (ha : rs.length = n) (hn : n ≤ 1000) (hz : ∀ r ∈ rs, Sz 100 r) :
    Calls Tryz.prog 26 #[u, .func (.func 27) #[] #[]] w (RetP (fun v w' => ∃ q, v = .tuple #[q, .int .i64 0] ∧ QV w' q rs) w) := by
  have HRd := hI (fun (k : Nat) (r : Rat) (hr : rs[k]? = some r) W => readq_g r W (hz r (List.mem_of_getElem? hr)))
  obtain ⟨ad, cap, rfl, hc1, hc2⟩ := h.open
  rw [ha] at h hc1 ⊢
  unfold maxLen at hc2
  have HX := hI h
  have HL := hI ha
  obtain ⟨i4, hi4, hz0, hz1, hz2⟩ := info_rat
  have eg := enters_of (P := Tryz.prog) Tryz.func27 (by kernel_rfl) rfl
  clear h ha hz
  go_enter Tryz.func26, Tryz.ntmps26
  go_wp2_with (at_make; go_loud (refine wpList_make_full _ rfl _ _ 46 rfl w.heap.size 61 i4 (.agg #[.bool false, .slice none 0 0, .bool false, .slice none 0 0]) 4 Tryz.underlying46 hi4 hz0 hz1 .i64 .i64 _ _ n rfl rfl (by omega) (by omega) (by rw [hz2]; omega) (by unfold maxLen; omega) (by simp) ?_; intro wm hown hg; have hvb : VB wm w.heap.size (List.replicate n 0) := (by have h := (VB.made hown).1; first | exact h | (simpa using h)); have Hb1 := hI ((Below.refl w.heap.size w).grown hg (Nat.le_refl _) (fun b hb => by cases hb)); have Hvb := hI hvb; clear hown hg hvb))
  go_loopw [15] (fun i wr => ∃ q : Nat, q ≤ n ∧ i = .int .i64 (q : Int) ∧ Below w.heap.size w wr ∧ Hid (VB wr w.heap.size (fillL rs n q))) (fun i _ => n - (intOf i).toNat)
  case atStart => exact ⟨0, by omega, rfl, Hb1.out, by rw [fill_zero]; exact Hvb.out⟩
  case round =>
    obtain ⟨q, hq, rfl, hbx, hvb⟩ := hrel
    have Hbx := hI hbx
    have HVB := hI hvb.out
    rcases Nat.lt_or_ge q n with hlt | hge
    · obtain ⟨b1, o1, r, rfl, hr, z0⟩ := HX.out.at hbx hlt
      have hkn : (q : Int) < (n : Int) := by omega
      have hk0 : (0 : Int) ≤ (q : Int) := Int.natCast_nonneg _
      have hkw : IntKind.i64.wrap ((q : Int) + 1) = (q : Int) + 1 := IntWalk.i64_in _ (by omega)
      have Hr := hI hr
      have HRx := hI (HRd.out q r hr)
      have Hq := hI (fill_at HL.out hlt)
      clear hr hbx hvb
      go_wp2_with (go_at_call 27; refine (HRx.out _).mono ?_; rintro e5 w14 ⟨v14, rfl, ⟨r0, rfl, hv14⟩, hb14⟩; obtain ⟨x5, a5, n5, c5, x6, a6, n6, c6, rfl, hv14⟩ := hv14.open; have hV := HVB.out.below hb14; obtain ⟨_, _, _, _, _, _, _, _, -, ⟨p0, p1, p2, p3⟩, f0, f1, f2, f3⟩ := hV.at Hq.out; have hV2 := hV.set (by rw [fill_len HL.out hq]; exact hlt) hv14; rw [fill_set HL.out Hr.out] at hV2; have HV2 := hI hV2; have HbA := hI (vb_put_below (g := w.heap.size) (k := q) (Hbx.out.via hb14 Hbx.out.size) (by omega) (.bool x5) (.slice a5 n5 c5) (.bool x6) (.slice a6 n6 c6)); clear hV hV2 hv14 hb14)
      go_roundw
      case rel => exact ⟨q + 1, by omega, by go_num, HbA.out, HV2.out⟩
      case measure => simp [intOf] <;> omega
    · obtain rfl : q = n := by omega
      have hkn : ¬ (q : Int) < (q : Int) := by omega
      have Hres := hI (HVB.out.qv (fill_len HL.out (Nat.le_refl _)) (by unfold maxLen; omega))
      rw [fill_all HL.out] at Hres
      clear hbx hvb
      go_wp2_with fail
      go_ret2
      exact ⟨_, rfl, ⟨_, rfl, Hres.out⟩, Hbx.out⟩
set_option maxHeartbeats 2000000 in
theorem reads_v (u : Value) (rs : List Rat) (n : Nat) (w : World) (h : TV w u rs) (ha : rs.length = n) (hn : n ≤ 1000) (hz : ∀ r ∈ rs, Sz 100 r) :
    Calls Tryz.prog 18 #[u] w (RetP (fun v w' => ∃ q, v = .tuple #[q, .int .i64 0] ∧ QV w' q rs) w) := by
  have H := hI (all_g u rs n w h ha hn hz)
  clear h ha hn hz
  go_enter Tryz.func18, Tryz.ntmps18
  go_wp2_with (go_at_call 26; refine (H.out).mono ?_; rintro e w1 ⟨v, rfl, ⟨q, rfl, hR⟩, hb1⟩; have HR := hI hR; clear hR)
  go_ret2
  exact ⟨_, rfl, ⟨_, rfl, HR.out⟩, hb1⟩
end Go.Proofs.YtlcmhbkmpkcajaaGreatDoor
