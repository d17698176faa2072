/-
  Magnitudes: divide by one limb; Gcd with a number of one limb.
-/
import Derived.Test.YtfmgjcgcocidfaaGreatDoorDiv1
import Derived.Deep.LoopGhost
namespace Go.Proofs.YtfmgjcgcocidfaaGreatDoor
open Go.RowKit

theorem Ls.one {w : World} {b d : Nat} {T : TypeId} (h : Blk w b #[.int .u32 (d : Int)] T) : Ls w (.slice (some ⟨b, 0, none⟩) 1 1) [d] := by
  refine ⟨_, _, rfl, by simp [u32s], by unfold maxLen; omega, .inr ⟨b, 0, rfl, h.lt, fun i j hi hj => ?_⟩⟩
  rw [h.cell]
  simp only [u32s, List.map_cons, List.map_nil, List.length_cons, List.length_nil] at hi
  obtain rfl : j = 0 := by omega
  obtain rfl : i = 0 := by omega
  rfl
theorem limbs_len_of_lt {y : Nat} (h : y < 4294967296) (h0 : y ≠ 0) : (limbs y).length = 1 := by
  rw [limbs_pos h0, show y / 4294967296 = 0 by omega, limbs_zero]; rfl

/-- A number of not too many limbs. -/
def Few (N : Nat) : Prop := (limbs N).length < 1000000

set_option maxHeartbeats 4000000 in
theorem divide_one (a b : Option Addr) (n m c c' : Nat) (x y : Nat) (w : World) (hA : Ls w (.slice a n c) (limbs x)) (hB : Ls w (.slice b m c') (limbs y)) (hle : y ≤ x) (h1 : (limbs y).length = 1) (hn : (limbs x).length < 1000000) :
    Calls Tryz.prog 120 #[.slice a n c, .slice b m c'] w (fun e w' => ∃ q r, e = .returned (.tuple #[q, r]) ∧ MagV w' q (x / y) ∧ MagV w' r (x % y) ∧ Below w.heap.size w w') := by
  have H := Lib.hid (order_any _ _ _ _ _ _ _ _ w hA hB)
  have hc := cmpN_ge hle
  obtain ⟨hl1, hy32⟩ := limbs_one h1
  have hy0 : 0 < y := by
    rcases Nat.eq_zero_or_pos y with h | h
    · subst h; rw [limbs_zero] at h1; simp at h1
    · exact h
  generalize cmpN x y = R at *
  have hc2 : ¬ R < 0 := by omega
  clear hc hle h1
  obtain ⟨r, hr⟩ : ∃ r, x % y = r := ⟨_, rfl⟩
  obtain ⟨q, hq⟩ : ∃ q, x / y = q := ⟨_, rfl⟩
  have hrlt : r < 4294967296 := by have := Nat.mod_lt x hy0; omega
  have HS := Lib.hid (fun w1 (hb1 : Below w.heap.size w w1) => short_any a n c (limbs x) y w1 (hA.mono hb1) (limbs_dg x) hn hy32 hy0)
  rw [natL_limbs, hr, hq] at HS
  rw [hr, hq]
  have HT := Lib.hid (fun w2 : World => trim_any (some ⟨w2.heap.size, 0, none⟩) 1 1 [r] (w2.alloc (.cells #[.int .u32 (r : Int)] 117)) (Ls.one (Blk.new _ _ _)) (Dg.one hrlt))
  have hnr : natL [r] = r := by simp [natL]
  rw [hnr] at HT
  obtain ⟨_, _, hv, _, _⟩ := hA.open
  cases hv
  rw [hl1] at hB
  obtain ⟨_, _, hv, _, _⟩ := hB.open
  cases hv
  have HB := Lib.hid hB
  clear hA hB hl1 hy32 hrlt hnr hr hq
  simp only [List.length_cons, List.length_nil, Nat.zero_add] at H HB ⊢
  go_enter Tryz.func120, Tryz.ntmps120
  go_wp2_with (first
    | (go_at_call 81; refine (H.out).mono ?_; rintro e w1 ⟨rfl, hb1⟩; obtain ⟨bb, off, d, rfl, hd, c0⟩ := HB.out.at hb1 (show 0 < 1 by decide); cases hd; rw [Nat.add_zero] at c0)
    | (go_at_call 87; refine (HS.out _ hb1).mono ?_; rintro e w2 ⟨v, rfl, hv, hb2⟩)
    | (go_at_call 121; refine (HT.out _).mono ?_; rintro e w3 ⟨rfl, hl3, hb3⟩))
  have hb23 := ((Below.refl w2.heap.size w2).alloc (Nat.le_refl _) _).via hb3 (by simp)
  go_ret2
  exact ⟨_, _, rfl, hv.mono hb23, ⟨_, _, rfl, hl3.mono hb3⟩, (hb1.via hb2 hb1.size).via hb23 (Nat.le_trans hb1.size hb2.size)⟩

/-- divide, where the divisor has one limb or is the greater one. -/
theorem divide_any1 (a b : Option Addr) (n m c c' : Nat) (x y : Nat) (w : World) (hA : Ls w (.slice a n c) (limbs x)) (hB : Ls w (.slice b m c') (limbs y)) (h0 : y ≠ 0) (h1 : y < 4294967296) (hn : (limbs x).length < 1000000) :
    Calls Tryz.prog 120 #[.slice a n c, .slice b m c'] w (fun e w' => ∃ q r, e = .returned (.tuple #[q, r]) ∧ MagV w' q (x / y) ∧ MagV w' r (x % y) ∧ Below w.heap.size w w') := by
  rcases Nat.lt_or_ge x y with h | h
  · exact divide_small a b n m c c' x y w hA hB h
  · exact divide_one a b n m c c' x y w hA hB h (limbs_len_of_lt h1 h0) hn

set_option maxHeartbeats 4000000 in
theorem gcd_small (u v : Value) (y z : Int) (w : World) (h : IntV w u y) (h' : IntV w v z) (hl1 : (limbs y.natAbs).length < 1000000) (hz : z.natAbs < 4294967296) :
    Calls Tryz.prog 80 #[u, v] w (RetP (fun r w' => IntV w' r (Nat.gcd y.natAbs z.natAbs : Nat)) w) := by
  obtain ⟨a, c, rfl, hl⟩ := h
  obtain ⟨a', c', rfl, hl'⟩ := h'
  generalize decide (y < 0) = s1
  generalize decide (z < 0) = s2
  have hK := below3 w (.cells #[.bool s1, .slice a (limbs y.natAbs).length c] 48) (.cells #[.bool s2, .slice a' (limbs z.natAbs).length c'] 48) (.cells #[.bool false, .slice none 0 0] 48)
  have hR : Blk (((w.alloc (.cells #[.bool s1, .slice a (limbs y.natAbs).length c] 48)).alloc (.cells #[.bool s2, .slice a' (limbs z.natAbs).length c'] 48)).alloc (.cells #[.bool false, .slice none 0 0] 48)) (w.heap.size + 1 + 1) #[.bool false, .slice none 0 0] 48 := by
    have h := Blk.new ((w.alloc (.cells #[.bool s1, .slice a (limbs y.natAbs).length c] 48)).alloc (.cells #[.bool s2, .slice a' (limbs z.natAbs).length c'] 48)) #[.bool false, .slice none 0 0] 48
    simpa using h
  have HK := Lib.hid hK
  have HR := Lib.hid hR
  generalize y.natAbs = Y at *
  generalize z.natAbs = Z at *
  have HX := Lib.hid (show MagV w (.slice a (limbs Y).length c) Y ∧ MagV w (.slice a' (limbs Z).length c') Z from ⟨⟨_, _, rfl, hl⟩, ⟨_, _, rfl, hl'⟩⟩)
  have Hl1 := Lib.hid (show Few Y from hl1)
  clear hl hl' hK hR hl1
  generalize (limbs Y).length = k0 at *
  generalize (limbs Z).length = k1 at *
  go_enter Tryz.func80, Tryz.ntmps80
  go_wp2_with fail
  go_quiet (fail)
  go_wp2_with fail
  go_loopg [5, 6] Z (fun k u v wr => ∃ X, MagV wr u X ∧ MagV wr v k ∧ k < 4294967296 ∧ Few X ∧ Below (((w.alloc (.cells #[.bool s1, .slice a k0 c] 48)).alloc (.cells #[.bool s2, .slice a' k1 c'] 48)).alloc (.cells #[.bool false, .slice none 0 0] 48)).heap.size (((w.alloc (.cells #[.bool s1, .slice a k0 c] 48)).alloc (.cells #[.bool s2, .slice a' k1 c'] 48)).alloc (.cells #[.bool false, .slice none 0 0] 48)) wr ∧ Hid (Nat.gcd X k = Nat.gcd Y Z))
  case atStart => exact ⟨Y, HX.out.1.mono ((HK.out).dn _), HX.out.2.mono ((HK.out).dn _), hz, Hl1.out, (Below.refl _ _).dn _, rfl⟩
  case round =>
    obtain ⟨X, hX, hY, hk, hlx, hb, hg⟩ := hrel
    have hr := HR.out.below hb
    obtain ⟨⟨r0, r1⟩, f0, f1⟩ := blk2v hr
    obtain ⟨ax, cx, rfl, hX⟩ := hX
    obtain ⟨ay, cy, rfl, hY⟩ := hY
    have Hb := Lib.hid hb
    have Hr := Lib.hid hr
    clear hb hr
    rcases Nat.eq_zero_or_pos gk with rfl | hpos
    · have h0 : (limbs 0).length = 0 := by rw [limbs_zero]; rfl
      rw [h0]
      have he : Nat.gcd Y Z = X := by rw [← hg.out, Nat.gcd_zero_right]
      have He := Lib.hid he
      have HXl := Lib.hid hX
      have hiv : IntV wr (.agg #[.bool false, .slice ax (limbs X).length cx]) (X : Int) := ⟨ax, cx, by simp, hX⟩
      obtain ⟨hv2, hb2⟩ := IntV.put2 hiv Hr.out
      have Hv2 := Lib.hid hv2
      have Hb2 := Lib.hid hb2
      have hbel := (((HK.out.via Hb.out HK.out.size).setCell (p := ⟨w.heap.size + 1 + 1, 0, none⟩) (by show w.heap.size ≤ w.heap.size + 1 + 1; omega) (.bool false)).setCell (p := ⟨w.heap.size + 1 + 1, 1, none⟩) (by show w.heap.size ≤ w.heap.size + 1 + 1; omega) (.slice ax (limbs X).length cx))
      have Hbel := Lib.hid hbel
      clear hv2 hb2 hbel hiv hX hY he hg h0 hlx
      generalize (limbs X).length = kx at *
      go_wp2_with fail
      obtain ⟨⟨q0, q1⟩, -⟩ := blk2v Hb2.out
      refine bodyPost_ret (v := .agg #[.bool false, .slice ax kx cx]) (by simp [results, Tryz.results80, go_sem, q0, q1]) rfl ⟨_, rfl, ?_, Hbel.out⟩
      rw [He.out]
      exact Hv2.out
    · have HD := Lib.hid (divide_any1 _ _ _ _ _ _ _ _ wr hX hY (by omega) hk hlx)
      have hlen : 0 < (limbs gk).length := by
        rcases Nat.eq_zero_or_pos (limbs gk).length with h | h
        · rw [limbs_len0] at h; omega
        · exact h
      have HY := Lib.hid (show MagV wr (.slice ay (limbs gk).length cy) gk from ⟨_, _, rfl, hY⟩)
      have hlk : (limbs gk).length < 1000000 := by rw [limbs_len_of_lt hk (by omega)]; decide
      have Hlk := Lib.hid (show Few gk from hlk)
      clear hX hY hlk
      generalize (limbs gk).length = ky at *
      have hlen2 : (0 : Int) < (ky : Int) := by omega
      go_wp2_with (go_at_call 120; refine (HD.out).mono ?_; rintro e w2 ⟨q, r, rfl, hq, hr2, hb2⟩)
      go_roundg (X % gk)
      case measure => exact Nat.mod_lt _ hpos
      case rel =>
        exact ⟨gk, HY.out.mono hb2, hr2, Nat.lt_trans (Nat.mod_lt _ hpos) hk, Hlk.out, Hb.out.via hb2 Hb.out.size, by unfold Hid; rw [← hg.out, Nat.gcd_comm X gk, Nat.gcd_rec gk X, Nat.gcd_comm]⟩

end Go.Proofs.YtfmgjcgcocidfaaGreatDoor
