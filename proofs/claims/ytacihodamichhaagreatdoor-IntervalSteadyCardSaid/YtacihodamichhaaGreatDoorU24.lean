/-
  Parts of the proof: Rtext, Ds, Rord, Rmin.
-/
import Derived.Test.YtacihodamichhaaGreatDoorU23
namespace Go.Proofs.YtacihodamichhaaGreatDoor
open Go.RowKit
def txtD (neg : Bool) (m : List Nat) : List UInt8 := if m = [] then [48] else (if neg then 45 :: bytesD m else bytesD m)
def u8v (x : UInt8) : Value := .int .u8 (x.toNat : Int)
set_option maxHeartbeats 4000000 in
set_option maxRecDepth 20000 in
theorem rtext_pos (a : Option Addr) (n c : Nat) (d : List Nat) (w : World) (h : Ints w (.slice a n c) (natsI d)) (hd : D10.Dg d) (hn1 : d.length ≤ 1000) : Calls Tryz.prog 117 #[.bool false, .slice a n c] w (Ret (.string ⟨(txtD false (D10.limbs (D10.natL d))).toArray⟩) w) := by
 have HT := hI (rtrim_any a n c d w h hd)
 have hml : (D10.limbs (D10.natL d)).length ≤ 1000 := by
  obtain ⟨k, hk, he⟩ := D10.limbs_take hd
  rw [he, List.length_take]
  omega
 have h10 : ∀ x ∈ D10.limbs (D10.natL d), x < 10 := D10.limbs_dg _
 generalize D10.limbs (D10.natL d) = m at *
 have H10 := hI h10
 clear h hd hn1 h10
 unfold txtD
 by_cases hm : m = []
 ·subst hm
  rw [if_pos rfl]
  rw [List.length_nil] at HT
  go_enter Tryz.func117, Tryz.ntmps117
  go_wp2_with (go_at_call 157; refine (HT.out).mono ?_; rintro e w1 ⟨rfl, -, hb1⟩)
  go_ret
  exact ⟨rfl, hb1⟩
 ·rw [if_neg hm]
  simp only [Bool.false_eq_true, if_false]
  have hpos : 0 < m.length := List.length_pos_iff.2 hm
  generalize hk : m.length = k at *
  have Hk := hI hk
  have hne : ((k : Int) == 0) = false := by simp; omega
  have hw1 : IntKind.i64.wrap ((k : Int) - 1) = (k : Int) - 1 := IntWalk.i64_in _ (by omega)
  have HN := hI (fun W : World => World.ownsRow_nil W w.heap.size 5 1)
  clear hk hm
  go_enter Tryz.func117, Tryz.ntmps117
  go_wp2_with (first
   | (go_at_call 157; refine (HT.out).mono ?_; rintro e w1 ⟨rfl, hx1, hb1⟩; have Hb1 := hI hb1; have HX0 := hI hx1; clear hb1 hx1))
  go_loopw [6, 5] (fun i out wr => ∃ j : Nat, j ≤ k ∧ i = .int .i64 ((k : Int) - 1 - j) ∧ Below w.heap.size w wr ∧ wr.ownsRow w.heap.size 5 1 out (j + 0) ((([] : List UInt8) ++ (bytesD m).take j).map u8v)) (fun i _ _ => (intOf i + 1).toNat)
  case atStart => exact ⟨0, by omega, by simp, Hb1.out, HN.out _⟩
  case round =>
   obtain ⟨j, hj, rfl, hbw, hown⟩ := hrel
   rcases Nat.lt_or_ge j k with hlt | hge
   ·obtain ⟨b, off, x, rfl, hx, c0⟩ := HX0.out.at hbw (show k - 1 - j < k by omega)
    obtain ⟨y, hy, rfl⟩ := natsI_get hx
    have hy10 := H10.out y (List.mem_of_getElem? hy)
    have hbk : (bytesD m)[j]? = some (UInt8.ofNat (48 + y)) := by
     unfold bytesD
     rw [List.getElem?_reverse (by rw [List.length_map, Hk.out]; exact hlt), List.length_map, Hk.out, List.getElem?_map, hy]
     rfl
    have htk : (([] : List UInt8) ++ (bytesD m).take j).map u8v ++ [.int .u8 ((48 : Int) + y)] = (([] : List UInt8) ++ (bytesD m).take (j + 1)).map u8v := by
     rw [List.take_add_one, hbk, ← List.append_assoc, List.map_append (l₂ := (some (UInt8.ofNat (48 + y))).toList)]
     congr 1
     have : (UInt8.ofNat (48 + y)).toNat = 48 + y := by rw [UInt8.toNat_ofNat']; omega
     simp [u8v]
     omega
    have Htk := hI htk
    have i0 : (0 : Int) ≤ (k : Int) - 1 - j := by omega
    have i1 : (k : Int) - 1 - j < (k : Int) := by omega
    have i2 : ((k : Int) - 1 - j).toNat = k - 1 - j := by omega
    have i3 : IntKind.i64.wrap ((k : Int) - 1 - j - 1) = (k : Int) - 1 - j - 1 := IntWalk.i64_in _ (by omega)
    have i4 : IntKind.i64.wrap ((48 : Int) + y) = 48 + y := IntWalk.i64_in _ (by omega)
    have i5 : IntKind.u8.wrap ((48 : Int) + y) = 48 + y := by unfold IntKind.wrap; simp [IntKind.bits, IntKind.signed]; omega
    have Hown := hI hown
    have Hbw := hI hbw
    clear hx hy hy10 hbk htk hown hbw
    go_wp2_with (at_builtin; refine wpApp EB (by decide) [.int .u8 ((48 : Int) + y)] rfl _ _ rfl w.heap.size _ _ _ rfl rfl Hown.out rfl (one1 _ rfl) (by omega) (by decide) Hbw.out.size ?_; intro v' w5 hown' hg'; have Hbw3 := hI (below_app Hbw.out Hown.out hg' Hbw.out.size); have Hown5 := hI hown'; clear hown' hg')
    go_roundw
    case rel => exact ⟨j + 1, by omega, by congr 1; omega, Hbw3.out, by have := Hown5.out; rw [Htk.out] at this; rw [show j + 1 + 0 = j + 0 + 1 by omega]; exact this⟩
    case measure => simp [intOf]; omega
   ·obtain rfl : j = k := by omega
    rw [show (j : Int) - 1 - j = -1 by omega]
    obtain ⟨ao, co, rfl, hco, -⟩ := own_open hown
    obtain ⟨g, rfl⟩ := own_some hown (by omega)
    have hbl : (([] : List UInt8) ++ bytesD m).length = j + 0 := by simp [bytesD, Hk.out]
    rw [List.take_of_length_le (by simp [bytesD, Hk.out])] at hown
    have hcv := run_convert_bytes_back (P := Tryz.prog) wr 175 9 5 ⟨g, 0, none⟩ co (([] : List UInt8) ++ bytesD m) Tryz.underlying175 Tryz.underlying5 Tryz.underlying9 (fun i hi => hown.cells (g := g) rfl i _ (by rw [List.getElem?_map, List.getElem?_eq_getElem hi]; rfl))
    rw [hbl] at hcv
    simp only [Nat.add_zero] at hcv
    have Hbw := hI hbw
    clear hown hbw hbl
    have Hfin := hI (show (⟨(([] : List UInt8) ++ bytesD m).toArray⟩ : ByteArray) = ⟨(bytesD m).toArray⟩ from rfl)
    generalize (⟨(([] : List UInt8) ++ bytesD m).toArray⟩ : ByteArray) = D at *
    clear hw1 hne
    set_option maxRecDepth 20000 in
    go_wp2_with fail
    go_ret
    exact ⟨by rw [← Hfin.out]; rfl, Hbw.out⟩
set_option maxHeartbeats 4000000 in
set_option maxRecDepth 20000 in
theorem rtext_neg (a : Option Addr) (n c : Nat) (d : List Nat) (w : World) (h : Ints w (.slice a n c) (natsI d)) (hd : D10.Dg d) (hn1 : d.length ≤ 1000) : Calls Tryz.prog 117 #[.bool true, .slice a n c] w (Ret (.string ⟨(txtD true (D10.limbs (D10.natL d))).toArray⟩) w) := by
 have HT := hI (rtrim_any a n c d w h hd)
 have hml : (D10.limbs (D10.natL d)).length ≤ 1000 := by
  obtain ⟨k, hk, he⟩ := D10.limbs_take hd
  rw [he, List.length_take]
  omega
 have h10 : ∀ x ∈ D10.limbs (D10.natL d), x < 10 := D10.limbs_dg _
 generalize D10.limbs (D10.natL d) = m at *
 have H10 := hI h10
 clear h hd hn1 h10
 unfold txtD
 by_cases hm : m = []
 ·subst hm
  rw [if_pos rfl]
  rw [List.length_nil] at HT
  go_enter Tryz.func117, Tryz.ntmps117
  go_wp2_with (go_at_call 157; refine (HT.out).mono ?_; rintro e w1 ⟨rfl, -, hb1⟩)
  go_ret
  exact ⟨rfl, hb1⟩
 ·rw [if_neg hm]
  simp only [if_true]
  have hpos : 0 < m.length := List.length_pos_iff.2 hm
  generalize hk : m.length = k at *
  have Hk := hI hk
  have hne : ((k : Int) == 0) = false := by simp; omega
  have hw1 : IntKind.i64.wrap ((k : Int) - 1) = (k : Int) - 1 := IntWalk.i64_in _ (by omega)
  have HN := hI (fun W : World => World.ownsRow_nil W w.heap.size 5 1)
  clear hk hm
  go_enter Tryz.func117, Tryz.ntmps117
  go_wp2_with (first
   | (go_at_call 157; refine (HT.out).mono ?_; rintro e w1 ⟨rfl, hx1, hb1⟩; have Hb1 := hI hb1; have HX0 := hI hx1; clear hb1 hx1)
   | (at_builtin; refine wpApp EB (by decide) [.int .u8 45] rfl _ _ rfl w.heap.size _ _ _ rfl rfl (HN.out _) rfl (one1 _ rfl) (by omega) (by decide) Hb1.out.size ?_; intro v' w2 hown' hg'; have Hb2 := hI (below_app Hb1.out (HN.out _) hg' Hb1.out.size); have Hown2 := hI hown'; clear hown' hg'))
  go_loopw [6, 5] (fun i out wr => ∃ j : Nat, j ≤ k ∧ i = .int .i64 ((k : Int) - 1 - j) ∧ Below w.heap.size w wr ∧ wr.ownsRow w.heap.size 5 1 out (j + 1) ((([45] : List UInt8) ++ (bytesD m).take j).map u8v)) (fun i _ _ => (intOf i + 1).toNat)
  case atStart => exact ⟨0, by omega, by simp, Hb2.out, Hown2.out⟩
  case round =>
   obtain ⟨j, hj, rfl, hbw, hown⟩ := hrel
   rcases Nat.lt_or_ge j k with hlt | hge
   ·obtain ⟨b, off, x, rfl, hx, c0⟩ := HX0.out.at hbw (show k - 1 - j < k by omega)
    obtain ⟨y, hy, rfl⟩ := natsI_get hx
    have hy10 := H10.out y (List.mem_of_getElem? hy)
    have hbk : (bytesD m)[j]? = some (UInt8.ofNat (48 + y)) := by
     unfold bytesD
     rw [List.getElem?_reverse (by rw [List.length_map, Hk.out]; exact hlt), List.length_map, Hk.out, List.getElem?_map, hy]
     rfl
    have htk : (([45] : List UInt8) ++ (bytesD m).take j).map u8v ++ [.int .u8 ((48 : Int) + y)] = (([45] : List UInt8) ++ (bytesD m).take (j + 1)).map u8v := by
     rw [List.take_add_one, hbk, ← List.append_assoc, List.map_append (l₂ := (some (UInt8.ofNat (48 + y))).toList)]
     congr 1
     have : (UInt8.ofNat (48 + y)).toNat = 48 + y := by rw [UInt8.toNat_ofNat']; omega
     simp [u8v]
     omega
    have Htk := hI htk
    have i0 : (0 : Int) ≤ (k : Int) - 1 - j := by omega
    have i1 : (k : Int) - 1 - j < (k : Int) := by omega
    have i2 : ((k : Int) - 1 - j).toNat = k - 1 - j := by omega
    have i3 : IntKind.i64.wrap ((k : Int) - 1 - j - 1) = (k : Int) - 1 - j - 1 := IntWalk.i64_in _ (by omega)
    have i4 : IntKind.i64.wrap ((48 : Int) + y) = 48 + y := IntWalk.i64_in _ (by omega)
    have i5 : IntKind.u8.wrap ((48 : Int) + y) = 48 + y := by unfold IntKind.wrap; simp [IntKind.bits, IntKind.signed]; omega
    have Hown := hI hown
    have Hbw := hI hbw
    clear hx hy hy10 hbk htk hown hbw
    go_wp2_with (at_builtin; refine wpApp EB (by decide) [.int .u8 ((48 : Int) + y)] rfl _ _ rfl w.heap.size _ _ _ rfl rfl Hown.out rfl (one1 _ rfl) (by omega) (by decide) Hbw.out.size ?_; intro v' w5 hown' hg'; have Hbw3 := hI (below_app Hbw.out Hown.out hg' Hbw.out.size); have Hown5 := hI hown'; clear hown' hg')
    go_roundw
    case rel => exact ⟨j + 1, by omega, by congr 1; omega, Hbw3.out, by have := Hown5.out; rw [Htk.out] at this; rw [show j + 1 + 1 = j + 1 + 1 by omega]; exact this⟩
    case measure => simp [intOf]; omega
   ·obtain rfl : j = k := by omega
    rw [show (j : Int) - 1 - j = -1 by omega]
    obtain ⟨ao, co, rfl, hco, -⟩ := own_open hown
    obtain ⟨g, rfl⟩ := own_some hown (by omega)
    have hbl : (([45] : List UInt8) ++ bytesD m).length = j + 1 := by simp [bytesD, Hk.out]
    rw [List.take_of_length_le (by simp [bytesD, Hk.out])] at hown
    have hcv := run_convert_bytes_back (P := Tryz.prog) wr 175 9 5 ⟨g, 0, none⟩ co (([45] : List UInt8) ++ bytesD m) Tryz.underlying175 Tryz.underlying5 Tryz.underlying9 (fun i hi => hown.cells (g := g) rfl i _ (by rw [List.getElem?_map, List.getElem?_eq_getElem hi]; rfl))
    rw [hbl] at hcv
    have Hbw := hI hbw
    clear hown hbw hbl
    have Hfin := hI (show (⟨(([45] : List UInt8) ++ bytesD m).toArray⟩ : ByteArray) = ⟨(45 :: bytesD m).toArray⟩ from rfl)
    generalize (⟨(([45] : List UInt8) ++ bytesD m).toArray⟩ : ByteArray) = D at *
    clear hw1 hne
    set_option maxRecDepth 20000 in
    go_wp2_with fail
    go_ret
    exact ⟨by rw [← Hfin.out]; rfl, Hbw.out⟩
theorem rtext_any (neg : Bool) (a : Option Addr) (n c : Nat) (d : List Nat) (w : World) (h : Ints w (.slice a n c) (natsI d)) (hd : D10.Dg d) (hn1 : d.length ≤ 1000) : Calls Tryz.prog 117 #[.bool neg, .slice a n c] w (Ret (.string ⟨(txtD neg (D10.limbs (D10.natL d))).toArray⟩) w) := by
 cases neg
 ·exact rtext_pos a n c d w h hd hn1
 ·exact rtext_neg a n c d w h hd hn1
end Go.Proofs.YtacihodamichhaaGreatDoor
namespace Go.Proofs.YtacihodamichhaaGreatDoor
open Go.RowKit
def Ds (w : World) (v : Value) (l : List Nat) : Prop := Ints w v (natsI l)
theorem Ds.mono {w w' : World} {v : Value} {l : List Nat} (h : Ds w v l) (hb : Below w.heap.size w w') : Ds w' v l := Ints.mono h hb
theorem Ds.open {w : World} {v : Value} {l : List Nat} (h : Ds w v l) : ∃ a cap, v = .slice a l.length cap ∧ l.length ≤ cap ∧ cap ≤ maxLen := by
 have := Ints.open h
 rwa [natsI_len] at this
theorem Ds.at {w wr : World} {n cap : Nat} {a : Option Addr} {l : List Nat} (hS : Ds w (.slice a n cap) l) (hb : Below w.heap.size w wr) {k : Nat} (hk : k < n) :
  ∃ b off d, a = some ⟨b, off, none⟩ ∧ l[k]? = some d ∧ wr.cell? ⟨b, off + k, none⟩ = some (.int .i64 ((d : Nat) : Int)) := by
 obtain ⟨b, off, x, rfl, hx, c0⟩ := Ints.at hS hb hk
 obtain ⟨d, hd, rfl⟩ := natsI_get hx
 exact ⟨b, off, d, rfl, hd, by simpa using c0⟩
theorem Ds.nil (w : World) : Ds w (.slice none 0 0) [] := Sl.nil w 1
theorem Ds.own {w : World} {base n : Nat} {v : Value} {l : List Nat} (h : w.ownsRow base 3 1 v n ((natsI l).map (Value.int .i64))) : Ds w v l := Sl.own1 h
def DgV (w : World) (v : Value) (N : Nat) : Prop := ∃ a c, v = .slice a (D10.limbs N).length c ∧ Ds w (.slice a (D10.limbs N).length c) (D10.limbs N)
theorem DgV.mono {w w' : World} {v : Value} {N : Nat} (h : DgV w v N) (hb : Below w.heap.size w w') : DgV w' v N := by
 obtain ⟨a, c, hv, h⟩ := h
 exact ⟨a, c, hv, h.mono hb⟩
theorem rtrim_g (a : Option Addr) (n c : Nat) (l : List Nat) (w : World) (hL : Ds w (.slice a n c) l) (hd : D10.Dg l) :
  Calls Tryz.prog 157 #[.slice a n c] w (RetP (fun v w' => DgV w' v (D10.natL l)) w) := by
 refine (rtrim_any a n c l w hL hd).mono ?_
 rintro e w' ⟨rfl, h, hb⟩
 exact ⟨_, rfl, ⟨a, c, rfl, Ds.mono h hb⟩, hb⟩
def Few10 (N : Nat) : Prop := (D10.limbs N).length ≤ 500
theorem few10_lt {N k : Nat} (h : N < 10 ^ k) (hk : k ≤ 500) : Few10 N := by
 unfold Few10
 rcases Nat.lt_or_ge 500 (D10.limbs N).length with h3 | h3
 ·exfalso
  have h0 : N ≠ 0 := fun e => by rw [e, D10.limbs_zero] at h3; simp at h3
  have h4 := D10.limbs_pow h0
  have h5 : (D10.limbs N).length - 1 < k := (Nat.pow_lt_pow_iff_right (by decide)).1 (Nat.lt_of_le_of_lt h4 h)
  omega
 ·exact h3
theorem few10_le {a b : Nat} (h : a ≤ b) (hb : Few10 b) : Few10 a := Nat.le_trans (D10.limbs_len_le h) hb
def txtN (neg : Bool) (N : Nat) : List UInt8 := txtD neg (D10.limbs N)
def txtZ (z : Int) : List UInt8 := txtN (decide (z < 0)) z.natAbs
theorem rtext_g (neg : Bool) (N : Nat) (v : Value) (w : World) (h : DgV w v N) (hf : Few10 N) : Calls Tryz.prog 117 #[.bool neg, v] w (Ret (.string ⟨(txtN neg N).toArray⟩) w) := by
 obtain ⟨a, c, rfl, hd⟩ := h
 have h := rtext_any neg a _ c (D10.limbs N) w hd (D10.limbs_dg N) (Nat.le_trans hf (by decide))
 rw [D10.natL_limbs] at h
 exact h
theorem bytesD_val : ∀ (m : List Nat), D10.Dg m → AllD (bytesD m) ∧ (bytesD m).reverse.map dv = m := by
 intro m hm
 have hb : ∀ x, x < 10 → isD (UInt8.ofNat (48 + x)) = true ∧ dv (UInt8.ofNat (48 + x)) = x := by
  intro x hx
  have : (UInt8.ofNat (48 + x)).toNat = 48 + x := by rw [UInt8.toNat_ofNat']; omega
  exact ⟨isD_iff.2 (by omega), by unfold dv; omega⟩
 constructor
 ·intro c hc
  unfold bytesD at hc
  obtain ⟨x, hx, rfl⟩ := List.mem_map.1 (List.mem_reverse.1 hc)
  exact (hb x (hm x hx)).1
 ·unfold bytesD
  rw [List.reverse_reverse, List.map_map]
  conv => rhs; rw [← List.map_id m]
  exact List.map_congr_left (fun x hx => (hb x (hm x hx)).2)
theorem valD_bytes (N : Nat) : valD (bytesD (D10.limbs N)) = N := by
 rw [← D10.natL_text, (bytesD_val _ (D10.limbs_dg N)).2, D10.natL_limbs]
theorem txtN_abs (neg : Bool) (N : Nat) : ∃ p, AllD p ∧ p ≠ [] ∧ valD p = N ∧ (txtN neg N = p ∨ txtN neg N = 45 :: p) ∧ p.length ≤ (D10.limbs N).length + 1 := by
 unfold txtN txtD
 by_cases h : D10.limbs N = []
 ·rw [if_pos h]
  have h0 := D10.limbs_nil.1 h
  subst h0
  exact ⟨[48], by intro c hc; obtain rfl := List.mem_singleton.1 hc; decide, by simp, rfl, .inl rfl, by simp⟩
 ·rw [if_neg h]
  refine ⟨bytesD (D10.limbs N), (bytesD_val _ (D10.limbs_dg N)).1, ?_, valD_bytes N, ?_, by unfold bytesD; simp⟩
  ·intro e
   unfold bytesD at e
   simp at e
   exact h e
  ·cases neg
   ·exact .inl rfl
   ·exact .inr rfl
end Go.Proofs.YtacihodamichhaaGreatDoor
namespace Go.Proofs.YtacihodamichhaaGreatDoor
open Go.RowKit
set_option maxHeartbeats 2000000 in
theorem rorder_d (a b : Option Addr) (n m ca cb : Nat) (x y : Nat) (w : World) (hA : Ds w (.slice a n ca) (D10.limbs x)) (hB : Ds w (.slice b m cb) (D10.limbs y)) :
  Calls Tryz.prog 121 #[.slice a n ca, .slice b m cb] w (RetD (.int .i64 (cmpN x y)) w) := by
 obtain ⟨_, _, hq, ha1, ha2⟩ := hA.open
 cases hq
 obtain ⟨_, _, hq, hb1, hb2⟩ := hB.open
 cases hq
 unfold maxLen at ha2 hb2
 have HA := hI hA
 have HB := hI hB
 clear hA hB
 by_cases hl : (D10.limbs x).length = (D10.limbs y).length
 ·have Hl := hI hl
  have hc : cmpN x y = cmpN (D10.natL (D10.limbs x)) (D10.natL (D10.limbs y)) := by rw [D10.natL_limbs, D10.natL_limbs]
  rw [hc]
  have HK := hI (fun k (hk : k < (D10.limbs x).length) (hs : (D10.limbs x).drop (k + 1) = (D10.limbs y).drop (k + 1)) => And.intro (fun (h : (D10.limbs x).getD k 0 < (D10.limbs y).getD k 0) => D10.natL_cmp hl hk (D10.limbs_dg x) hs h) (fun (h : (D10.limbs y).getD k 0 < (D10.limbs x).getD k 0) => D10.natL_cmp hl.symm (hl ▸ hk) (D10.limbs_dg y) hs.symm h))
  generalize D10.limbs x = lx at *
  generalize D10.limbs y = ly at *
  generalize hn : lx.length = n at *
  rw [← hl] at hb1
  rw [← Hl.out]
  have Hn := hI hn
  have hB2 := HB.out
  rw [← Hl.out] at hB2
  clear HB
  have HB := hI hB2
  clear hn hc hl hB2
  go_enter Tryz.func121, Tryz.ntmps121
  go_wp2_with fail
  go_loopw [5] (fun i wr => ∃ k : Nat, k ≤ n ∧ i = .int .i64 ((k : Int) - 1) ∧ BD w wr ∧ Hid (lx.drop k = ly.drop k)) (fun i _ => (intOf i + 1).toNat)
  case atStart => exact ⟨n, Nat.le_refl _, rfl, BD.refl _, by unfold Hid; rw [List.drop_eq_nil_of_le (by rw [Hn.out]; exact Nat.le_refl _), List.drop_eq_nil_of_le (by rw [← Hl.out]; exact Nat.le_refl _)]⟩
  case round =>
   obtain ⟨k, hk, rfl, hbw, hpre⟩ := hrel
   rcases k with _ | j
   ·have he : lx = ly := by have := hpre.out; rwa [List.drop_zero, List.drop_zero] at this
    have He := hI he
    clear he
    go_wp2_with fail
    go_ret
    exact ⟨by rw [He.out]; simp [cmpN], hbw⟩
   ·obtain ⟨ba, oa, d, rfl, hd, c0⟩ := HA.out.at hbw.1 (show j < n by omega)
    obtain ⟨bb, ob, e, rfl, he, d0⟩ := HB.out.at hbw.1 (show j < n by omega)
    have hij : ((((j + 1 : Nat) : Int) - 1)) = (j : Int) := by omega
    have hi64 : IntKind.i64.wrap (j : Int) = j := IntWalk.i64_in _ (by omega)
    have hi65 : IntKind.i64.wrap ((j : Int) - 1) = (j : Int) - 1 := IntWalk.i64_in _ (by omega)
    have hj0 : (0 : Int) ≤ (j : Int) := Int.natCast_nonneg _
    have hjn : (j : Int) < (n : Int) := by omega
    have Hd := hI hd
    have He := hI he
    rw [hij]
    clear hd he
    by_cases hde : d = e
    ·subst hde
     have hne : ¬ (d : Int) < (d : Int) := by omega
     go_wp2_with fail
     go_quiet (fail)
     go_wp2_with fail
     go_quiet (fail)
     go_wp2_with fail
     go_roundw
     case rel => exact ⟨j, by omega, by go_num, hbw.dn _, by unfold Hid; rw [List.drop_eq_getElem_cons (lt_get Hd.out), List.drop_eq_getElem_cons (lt_get He.out), hpre.out, get_of Hd.out, get_of He.out]⟩
     case measure => simp [intOf] <;> omega
    ·have hk2 := HK.out j (by omega) hpre.out
     rw [getD_of Hd.out, getD_of He.out] at hk2
     have Hk2 := hI hk2
     clear hk2
     rcases Nat.lt_or_ge d e with hlt | hge
     ·have hlt2 : (d : Int) < (e : Int) := by omega
      have hfin : cmpN (D10.natL lx) (D10.natL ly) = -1 := by unfold cmpN; rw [if_pos (Hk2.out.1 hlt)]
      rw [hfin]
      clear hfin
      go_wp2_with fail
      go_quiet (fail)
      go_wp2_with fail
      go_ret
      exact ⟨rfl, hbw.dn _⟩
     ·have hlt2 : ¬ (d : Int) < (e : Int) := by omega
      have hlt3 : (e : Int) < (d : Int) := by omega
      have hgt := Hk2.out.2 (by omega)
      have hfin : cmpN (D10.natL lx) (D10.natL ly) = 1 := by unfold cmpN; rw [if_neg (by omega), if_pos hgt]
      rw [hfin]
      clear hfin
      go_wp2_with fail
      go_quiet (fail)
      go_wp2_with fail
      go_quiet (fail)
      go_wp2_with fail
      go_ret
      exact ⟨rfl, (hbw.dn _).dn _⟩
 ·have hne : (((D10.limbs x).length : Int) != ((D10.limbs y).length : Int)) = true := by simp; omega
  rcases Nat.lt_or_ge (D10.limbs x).length (D10.limbs y).length with hlt | hge
  ·have hfin : cmpN x y = -1 := by unfold cmpN; rw [if_pos (D10.limbs_len_lt hlt)]
   rw [hfin]
   generalize (D10.limbs x).length = n at *
   generalize (D10.limbs y).length = m at *
   have hlt2 : (n : Int) < (m : Int) := by omega
   go_enter Tryz.func121, Tryz.ntmps121
   go_wp2_with fail
   go_ret
   exact ⟨rfl, BD.refl _⟩
  ·have hgt := D10.limbs_len_lt (show (D10.limbs y).length < (D10.limbs x).length by omega)
   have hfin : cmpN x y = 1 := by unfold cmpN; rw [if_neg (by omega), if_pos hgt]
   rw [hfin]
   generalize (D10.limbs x).length = n at *
   generalize (D10.limbs y).length = m at *
   have hlt2 : ¬ (n : Int) < (m : Int) := by omega
   go_enter Tryz.func121, Tryz.ntmps121
   go_wp2_with fail
   go_ret
   exact ⟨rfl, BD.refl _⟩
theorem rorder_g (u v : Value) (x y : Nat) (w : World) (h : DgV w u x) (h' : DgV w v y) : Calls Tryz.prog 121 #[u, v] w (RetD (.int .i64 (cmpN x y)) w) := by
 obtain ⟨a, c, rfl, hA⟩ := h
 obtain ⟨b, c', rfl, hB⟩ := h'
 exact rorder_d a b _ _ c c' x y w hA hB
end Go.Proofs.YtacihodamichhaaGreatDoor
namespace Go.Proofs.YtacihodamichhaaGreatDoor
open Go.RowKit
theorem rmin_end {X Y D K bo : Nat} (h : X + K * bo = D + Y) (hb : bo ≤ 1) (hY : Y ≤ X) (hD : D < K) : D = X - Y := by
 rcases Nat.eq_zero_or_pos bo with h0 | h0
 ·subst h0; omega
 ·obtain rfl : bo = 1 := by omega
  omega
theorem natsI_snoc (l : List Nat) (x : Nat) : (natsI l).map (Value.int .i64) ++ [.int .i64 (x : Int)] = (natsI (l ++ [x])).map (Value.int .i64) := by unfold natsI; simp
set_option maxHeartbeats 8000000 in
set_option maxRecDepth 20000 in
theorem rminus_g (u v : Value) (x y : Nat) (w : World) (h : DgV w u x) (h' : DgV w v y) (hle : y ≤ x) (hf : Few10 x) : Calls Tryz.prog 139 #[u, v] w (RetP (fun r w' => DgV w' r (x - y) ∧ FreshV w.heap.size r) w) := by
 obtain ⟨a, c, rfl, hA⟩ := h
 obtain ⟨b, c', rfl, hB⟩ := h'
 obtain ⟨_, _, hq, ha1, ha2⟩ := hA.open
 cases hq
 obtain ⟨_, _, hq, hb1, hb2⟩ := hB.open
 cases hq
 unfold maxLen at ha2 hb2
 unfold Few10 at hf
 have hlen := D10.limbs_len_le hle
 have HA := hI hA
 have HB := hI hB
 have Hx := hI (D10.natL_limbs x)
 have Hy := hI (D10.natL_limbs y)
 have Hdx := hI (D10.limbs_dg x)
 have Hdy := hI (D10.limbs_dg y)
 have Hle := hI hle
 clear hA hB hle
 generalize D10.limbs x = la at *
 generalize D10.limbs y = lb at *
 generalize hn : la.length = n at *
 generalize hm : lb.length = m at *
 have Hn := hI hn
 have Hm := hI hm
 clear hn hm
 have HN := hI (fun W : World => World.ownsRow_nil W w.heap.size 3 1)
 go_enter Tryz.func139, Tryz.ntmps139
 go_wp2_with fail
 go_loopw [7, 6, 5, 8] (fun i bv out _ wr => ∃ (k bo : Nat) (done : List Nat), k ≤ n ∧ i = .int .i64 (k : Int) ∧ bv = .int .i64 (bo : Int) ∧ bo ≤ 1 ∧ Below w.heap.size w wr ∧ wr.ownsRow w.heap.size 3 1 out k ((natsI done).map (Value.int .i64)) ∧ Hid (done.length = k ∧ D10.Dg done ∧ D10.natL (la.take k) + 10 ^ k * bo = D10.natL done + D10.natL (lb.take k))) (fun i _ _ _ _ => n - (intOf i).toNat)
 case atStart => exact ⟨0, 0, [], Nat.zero_le _, rfl, rfl, by decide, Below.refl _ _, HN.out _, rfl, (fun d hd => by simp at hd), by simp [D10.natL]⟩
 case round =>
  obtain ⟨k, bo, done, hk, rfl, rfl, hbo, hbw, hown, hpre⟩ := hrel
  rcases Nat.lt_or_ge k n with hlt | hge
  ·obtain ⟨b1, off, d, rfl, hdk, c0⟩ := HA.out.at hbw hlt
   have hd10 := Hdx.out d (List.mem_of_getElem? hdk)
   have Hdk := hI hdk
   have hkn : (k : Int) < (n : Int) := by omega
   have hkw : IntKind.i64.wrap ((k : Int) + 1) = (k : Int) + 1 := IntWalk.i64_in _ (by omega)
   have Hown := hI hown
   have Hbw := hI hbw
   have hs1 : IntKind.i64.wrap ((d : Int) - (bo : Int)) = (d : Int) - (bo : Int) := IntWalk.i64_in _ (by omega)
   clear hdk hown
   by_cases hkm : k < m
   ·obtain ⟨b2, off2, e, rfl, hek, d0⟩ := HB.out.at hbw hkm
    have he10 := Hdy.out e (List.mem_of_getElem? hek)
    have hkm2 : (k : Int) < (m : Int) := by omega
    have Htk := hI (show D10.natL (lb.take (k + 1)) = D10.natL (lb.take k) + 10 ^ k * e from D10.take_next hek)
    have hs2 : IntKind.i64.wrap ((d : Int) - (bo : Int) - (e : Int)) = (d : Int) - (bo : Int) - (e : Int) := IntWalk.i64_in _ (by omega)
    clear hek hbw
    by_cases hX : ((d : Int) - (bo : Int) - (e : Int)) < 0
    ·have hng : ((d : Int) - (bo : Int) - (e : Int)) < 0 := by omega
     obtain ⟨z, hz⟩ : ∃ z : Nat, ((d : Int) - (bo : Int) - (e : Int)) + 10 = (z : Int) := ⟨(((d : Int) - (bo : Int) - (e : Int)) + 10).toNat, by omega⟩
     have hz10 : z < 10 := by omega
     have hzw : IntKind.i64.wrap (z : Int) = (z : Int) := IntWalk.i64_in _ (by omega)
     have Hst := hI (D10.borrow_step (done := done) (i := k) (d := d) (y := e) (x := z) (bo := bo) (bo' := 1) hpre.out.1 hpre.out.2.2 (by omega))
     go_wp2_with (at_builtin; refine wpApp ED (by decide) [.int .i64 (z : Int)] rfl _ _ rfl w.heap.size _ _ _ rfl rfl Hown.out rfl (one1 _ rfl) (by omega) (by decide) Hbw.out.size ?_; intro v' w5 hown' hg'; have Hbw3 := hI (below_app Hbw.out Hown.out hg' Hbw.out.size); have Hown5 := hI hown'; clear hown' hg')
     go_roundw
     case rel =>
      refine ⟨k + 1, 1, done ++ [z], by omega, by go_num, rfl, by decide, Hbw3.out, by have h := Hown5.out; rw [natsI_snoc] at h; exact h, by rw [List.length_append, hpre.out.1]; rfl, hpre.out.2.1.append (D10.Dg.one hz10), ?_⟩
      rw [D10.take_next Hdk.out, Htk.out]
      exact Hst.out
     case measure => simp [intOf] <;> omega
    ·have hng : ¬ ((d : Int) - (bo : Int) - (e : Int)) < 0 := by omega
     obtain ⟨z, hz⟩ : ∃ z : Nat, ((d : Int) - (bo : Int) - (e : Int)) = (z : Int) := ⟨(((d : Int) - (bo : Int) - (e : Int))).toNat, by omega⟩
     have hz10 : z < 10 := by omega
     have hzw : IntKind.i64.wrap (z : Int) = (z : Int) := IntWalk.i64_in _ (by omega)
     have Hst := hI (D10.borrow_step (done := done) (i := k) (d := d) (y := e) (x := z) (bo := bo) (bo' := 0) hpre.out.1 hpre.out.2.2 (by omega))
     go_wp2_with (at_builtin; refine wpApp ED (by decide) [.int .i64 (z : Int)] rfl _ _ rfl w.heap.size _ _ _ rfl rfl Hown.out rfl (one1 _ rfl) (by omega) (by decide) Hbw.out.size ?_; intro v' w5 hown' hg'; have Hbw3 := hI (below_app Hbw.out Hown.out hg' Hbw.out.size); have Hown5 := hI hown'; clear hown' hg')
     go_roundw
     case rel =>
      refine ⟨k + 1, 0, done ++ [z], by omega, by go_num, rfl, by decide, Hbw3.out, by have h := Hown5.out; rw [natsI_snoc] at h; exact h, by rw [List.length_append, hpre.out.1]; rfl, hpre.out.2.1.append (D10.Dg.one hz10), ?_⟩
      rw [D10.take_next Hdk.out, Htk.out]
      exact Hst.out
     case measure => simp [intOf] <;> omega
   ·have hkm2 : ¬ (k : Int) < (m : Int) := by omega
    have Htk := hI (show D10.natL (lb.take (k + 1)) = D10.natL (lb.take k) + 10 ^ k * 0 from by rw [List.take_of_length_le (by rw [Hm.out]; omega), List.take_of_length_le (by rw [Hm.out]; omega), Nat.mul_zero, Nat.add_zero])
    clear hbw
    by_cases hX : ((d : Int) - (bo : Int)) < 0
    ·have hng : ((d : Int) - (bo : Int)) < 0 := by omega
     obtain ⟨z, hz⟩ : ∃ z : Nat, ((d : Int) - (bo : Int)) + 10 = (z : Int) := ⟨(((d : Int) - (bo : Int)) + 10).toNat, by omega⟩
     have hz10 : z < 10 := by omega
     have hzw : IntKind.i64.wrap (z : Int) = (z : Int) := IntWalk.i64_in _ (by omega)
     have Hst := hI (D10.borrow_step (done := done) (i := k) (d := d) (y := 0) (x := z) (bo := bo) (bo' := 1) hpre.out.1 hpre.out.2.2 (by omega))
     go_wp2_with (at_builtin; refine wpApp ED (by decide) [.int .i64 (z : Int)] rfl _ _ rfl w.heap.size _ _ _ rfl rfl Hown.out rfl (one1 _ rfl) (by omega) (by decide) Hbw.out.size ?_; intro v' w5 hown' hg'; have Hbw3 := hI (below_app Hbw.out Hown.out hg' Hbw.out.size); have Hown5 := hI hown'; clear hown' hg')
     go_roundw
     case rel =>
      refine ⟨k + 1, 1, done ++ [z], by omega, by go_num, rfl, by decide, Hbw3.out, by have h := Hown5.out; rw [natsI_snoc] at h; exact h, by rw [List.length_append, hpre.out.1]; rfl, hpre.out.2.1.append (D10.Dg.one hz10), ?_⟩
      rw [D10.take_next Hdk.out, Htk.out]
      exact Hst.out
     case measure => simp [intOf] <;> omega
    ·have hng : ¬ ((d : Int) - (bo : Int)) < 0 := by omega
     obtain ⟨z, hz⟩ : ∃ z : Nat, ((d : Int) - (bo : Int)) = (z : Int) := ⟨(((d : Int) - (bo : Int))).toNat, by omega⟩
     have hz10 : z < 10 := by omega
     have hzw : IntKind.i64.wrap (z : Int) = (z : Int) := IntWalk.i64_in _ (by omega)
     have Hst := hI (D10.borrow_step (done := done) (i := k) (d := d) (y := 0) (x := z) (bo := bo) (bo' := 0) hpre.out.1 hpre.out.2.2 (by omega))
     go_wp2_with (at_builtin; refine wpApp ED (by decide) [.int .i64 (z : Int)] rfl _ _ rfl w.heap.size _ _ _ rfl rfl Hown.out rfl (one1 _ rfl) (by omega) (by decide) Hbw.out.size ?_; intro v' w5 hown' hg'; have Hbw3 := hI (below_app Hbw.out Hown.out hg' Hbw.out.size); have Hown5 := hI hown'; clear hown' hg')
     go_roundw
     case rel =>
      refine ⟨k + 1, 0, done ++ [z], by omega, by go_num, rfl, by decide, Hbw3.out, by have h := Hown5.out; rw [natsI_snoc] at h; exact h, by rw [List.length_append, hpre.out.1]; rfl, hpre.out.2.1.append (D10.Dg.one hz10), ?_⟩
      rw [D10.take_next Hdk.out, Htk.out]
      exact Hst.out
     case measure => simp [intOf] <;> omega
  ·obtain rfl : k = n := by omega
   have hkn : ¬ (k : Int) < (k : Int) := by omega
   obtain ⟨ao, co, rfl, hco, -⟩ := own_open hown
   have hD := D10.natL_lt hpre.out.2.1
   rw [hpre.out.1] at hD
   have hS := hpre.out.2.2
   rw [List.take_of_length_le (by rw [Hn.out]; exact Nat.le_refl _), List.take_of_length_le (by rw [Hm.out]; omega), Hx.out, Hy.out] at hS
   have hfin := rmin_end hS hbo Hle.out hD
   have HFr := hI (show FreshV w.heap.size (.slice ao (D10.limbs (D10.natL done)).length co) from fun q hq => (hown.lt q (by cases ao <;> exact hq)).1)
   have HF := hI (rtrim_any ao k co done wr (by rw [← hpre.out.1] at hown ⊢; exact Ds.own hown) hpre.out.2.1)
   rw [hfin] at HF HFr
   have Hbw := hI hbw
   clear hown hbw hD hS hfin hpre
   go_wp2_with (go_at_call 157; refine (HF.out).mono ?_; rintro e w5 ⟨rfl, hv5, hb5⟩)
   go_ret
   exact ⟨_, rfl, ⟨⟨ao, co, rfl, Ds.mono hv5 hb5⟩, HFr.out⟩, Hbw.out.via hb5 Hbw.out.size⟩
end Go.Proofs.YtacihodamichhaaGreatDoor
