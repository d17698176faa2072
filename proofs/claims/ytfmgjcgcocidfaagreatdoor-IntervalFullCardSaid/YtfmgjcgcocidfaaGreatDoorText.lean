/-
  The text of a small integer: Text, Number.
-/
import Derived.Test.YtfmgjcgcocidfaaGreatDoorRead
namespace Go.Proofs.YtfmgjcgcocidfaaGreatDoor
open Go.RowKit

theorem ES : ElemTy 132 9 1 16 := ⟨Tryz.underlying132, by kernel_rfl⟩

set_option maxHeartbeats 1000000 in
theorem reverse1 (a : Option Addr) (c : Nat) (w : World) : Calls Tryz.prog 90 #[.slice a 1 c] w (fun e w' => e = .returned (.tuple #[]) ∧ Below w.heap.size w w') := by
  go_enter Tryz.func90, Tryz.ntmps90
  go_wp2_with fail
  go_loopw [2, 3] (fun i j wr => i = .int .i64 0 ∧ j = .int .i64 0 ∧ wr = w) (fun _ _ _ => 0)
  case atStart => exact ⟨rfl, rfl, rfl⟩
  case round =>
    obtain ⟨rfl, rfl, rfl⟩ := hrel
    go_wp2_with fail
    go_end0
    exact ⟨rfl, Below.refl _ _⟩

/-- The text of a number below 100, with its sign. -/
def textI (z : Int) : List UInt8 := if z < 0 then 45 :: Lib.decDigits z.natAbs else Lib.decDigits z.natAbs

theorem bytes_cat (c : UInt8) (l : List UInt8) : (⟨#[c]⟩ : ByteArray) ++ ⟨l.toArray⟩ = ⟨(c :: l).toArray⟩ := by
  apply bytes_inj
  simp [ByteArray.toList_eq]
set_option maxHeartbeats 4000000 in
theorem text_w (v : Value) (z : Int) (w : World) (h : IntV w v z) (hz : z.natAbs < 100) (h0 : z ≠ 0) : Calls Tryz.prog 57 #[v] w (Ret (.string ⟨(textI z).toArray⟩) w) := by
  obtain ⟨a, c, rfl, h⟩ := h
  have hl1 : (limbs z.natAbs).length = 1 := limbs_len_of_lt (by omega) (by omega)
  obtain ⟨M, hM⟩ : ∃ M, z.natAbs = M := ⟨_, rfl⟩
  have hB := Blk.new w #[.bool (decide (z < 0)), .slice a (limbs z.natAbs).length c] 48
  rw [hM] at h hl1 hB ⊢
  have HS := Lib.hid (fun w' (hb : Below (w.alloc (.cells #[.bool (decide (z < 0)), .slice a (limbs M).length c] 48)).heap.size (w.alloc (.cells #[.bool (decide (z < 0)), .slice a (limbs M).length c] 48)) w') => (blk2v (hB.below hb)).1)
  have H1 := Lib.hid (fun w' (hb : Below w.heap.size w w') => short_any a _ c (limbs M) 1000000000 w' (h.mono hb) (limbs_dg M) (by rw [hl1]; decide) (by decide) (by decide))
  have e1 : natL (limbs M) % 1000000000 = M := by rw [natL_limbs]; omega
  have e2 : natL (limbs M) / 1000000000 = 0 := by rw [natL_limbs]; omega
  rw [e1, e2] at H1
  have H2 := Lib.hid (fun w' => Tryz.strconv_Itoa_small M (by omega) w')
  have ht : textI z = if decide (z < 0) = true then 45 :: Lib.decDigits M else Lib.decDigits M := by unfold textI; rw [hM]; simp
  rw [ht]
  rw [hl1] at HS H1 hB h ⊢
  have HK := Lib.hid (below1 w (.cells #[.bool (decide (z < 0)), .slice a 1 c] 48))
  generalize decide (z < 0) = sg at *
  generalize hD : (⟨(Lib.decDigits M).toArray⟩ : ByteArray) = D at *
  have HD := Lib.hid hD
  have hL : D.data.toList.length ≤ 20 := by
    rw [← hD]
    have : ∀ M < 100, (Lib.decDigits M).length ≤ 20 := by
      intro M hM
      rw [Lib.decDigits]
      split
      · simp
      · rw [Lib.decDigits, dif_pos (by omega)]; simp
    exact this M (by omega)
  have HL := Lib.hid hL
  have hcat : ¬ 9223372036854775807 < 1 + D.size := by rw [Lib.size_eq]; omega
  clear hL
  have hm0 : IntKind.i64.wrap (M : Int) = M := IntWalk.i64_in _ (by omega)
  clear h hB hl1 hM e1 e2 ht hz h0 hD
  cases sg
  · have HN := Lib.hid (fun W : World => World.ownsRow_nil W (w.alloc (.cells #[.bool false, .slice a 1 c] 48)).heap.size 9 1)
    go_enter Tryz.func57, Tryz.ntmps57
    go_wp2_with fail
    go_loopw [4, 3] (fun m g wr => Below (w.alloc (.cells #[.bool false, .slice a 1 c] 48)).heap.size (w.alloc (.cells #[.bool false, .slice a 1 c] 48)) wr ∧ ((m = .slice a 1 c ∧ g = .slice none 0 0) ∨ (∃ b cc, m = .slice b 0 cc ∧ wr.ownsRow (w.alloc (.cells #[.bool false, .slice a 1 c] 48)).heap.size 9 1 g 1 [.string D]))) (fun m _ _ => match m with | .slice _ k _ => k | _ => 0)
    case atStart => exact ⟨Below.refl _ _, .inl ⟨rfl, rfl⟩⟩
    case round =>
      obtain ⟨hbw, ⟨rfl, rfl⟩ | ⟨b, cc, rfl, hown⟩⟩ := hrel
      · have Hbw := Lib.hid hbw
        clear hbw
        go_wp2_with (first
          | (go_at_call 87; refine (H1.out _ (HK.out.via Hbw.out HK.out.size)).mono ?_; rintro e w1 ⟨v1, rfl, ⟨a1, c1', rfl, -⟩, hb1⟩; have Hb1 := Lib.hid (bw_via Hbw.out hb1); clear hb1; rw [show (limbs 0).length = 0 by rw [limbs_zero]; rfl])
          | (go_at_call 88; refine (H2.out _).mono ?_; rintro e w2 ⟨rfl, rfl⟩)
          | (at_builtin; refine wpApp ES (by decide) [.string D] rfl _ _ rfl (w.alloc (.cells #[.bool false, .slice a 1 c] 48)).heap.size _ _ _ rfl rfl (HN.out _) rfl (one1 _ rfl) (by omega) (by decide) Hb1.out.size ?_; intro v' w1 hown' hg'; have hbw3 := below_app Hb1.out (HN.out _) hg' Hb1.out.size))
        go_roundw
        case rel => exact ⟨hbw3, .inr ⟨_, _, rfl, hown'⟩⟩
        case measure => simp
      · obtain ⟨ga, gc, rfl, hc1, -⟩ := own_open hown
        obtain ⟨gb, rfl⟩ := own_some hown (by decide)
        have HJ := Lib.hid (fun w' (hb : Below wr.heap.size wr w') => Tryz.strings_Join gb 0 gc [D] ⟨#[]⟩ w' (fun j x hx => by
          obtain ⟨b', off, y, ha, hy, c0⟩ := Sl.at1 (Sl.own1 hown) hb (show 0 < 1 by decide)
          cases ha
          cases hy
          rcases j with _ | j
          · cases hx; exact c0
          · simp at hx) (Nat.lt_of_lt_of_le (hown.lt gb rfl).2 hb.size) (by simp) (by simpa using hc1) (by simp [Lib.join_one]; have : D.data.toList.length ≤ 20 := HL.out; simpa using Nat.le_trans this (by decide)))
        have hj : (⟨(Lib.join ([D].map (·.data.toList)) (⟨#[]⟩ : ByteArray).data.toList).toArray⟩ : ByteArray) = D := by simp [Lib.join_one]
        rw [hj] at HJ
        have Hbw := Lib.hid hbw
        have HC := Lib.hid (HS.out _ hbw)
        clear hown hbw hc1 hj
        go_wp2_with (first
          | (go_at_call 90; refine (reverse1 _ _ _).mono ?_; rintro e w3 ⟨rfl, hb3⟩; have Hb3 := Lib.hid hb3; clear hb3)
          | (go_at_call 91; refine (HJ.out _ Hb3.out).mono ?_; rintro e w4 ⟨rfl, hb4⟩; have Hb34 := Lib.hid (bw_via Hb3.out hb4); obtain ⟨s0, s1⟩ := HS.out _ (bw_via Hbw.out Hb34.out); clear hb4))
        go_ret
        exact ⟨by rw [← HD.out]; simp, HK.out.via (bw_via Hbw.out Hb34.out) HK.out.size⟩
  · have HN := Lib.hid (fun W : World => World.ownsRow_nil W (w.alloc (.cells #[.bool true, .slice a 1 c] 48)).heap.size 9 1)
    go_enter Tryz.func57, Tryz.ntmps57
    go_wp2_with fail
    go_loopw [4, 3] (fun m g wr => Below (w.alloc (.cells #[.bool true, .slice a 1 c] 48)).heap.size (w.alloc (.cells #[.bool true, .slice a 1 c] 48)) wr ∧ ((m = .slice a 1 c ∧ g = .slice none 0 0) ∨ (∃ b cc, m = .slice b 0 cc ∧ wr.ownsRow (w.alloc (.cells #[.bool true, .slice a 1 c] 48)).heap.size 9 1 g 1 [.string D]))) (fun m _ _ => match m with | .slice _ k _ => k | _ => 0)
    case atStart => exact ⟨Below.refl _ _, .inl ⟨rfl, rfl⟩⟩
    case round =>
      obtain ⟨hbw, ⟨rfl, rfl⟩ | ⟨b, cc, rfl, hown⟩⟩ := hrel
      · have Hbw := Lib.hid hbw
        clear hbw
        go_wp2_with (first
          | (go_at_call 87; refine (H1.out _ (HK.out.via Hbw.out HK.out.size)).mono ?_; rintro e w1 ⟨v1, rfl, ⟨a1, c1', rfl, -⟩, hb1⟩; have Hb1 := Lib.hid (bw_via Hbw.out hb1); clear hb1; rw [show (limbs 0).length = 0 by rw [limbs_zero]; rfl])
          | (go_at_call 88; refine (H2.out _).mono ?_; rintro e w2 ⟨rfl, rfl⟩)
          | (at_builtin; refine wpApp ES (by decide) [.string D] rfl _ _ rfl (w.alloc (.cells #[.bool true, .slice a 1 c] 48)).heap.size _ _ _ rfl rfl (HN.out _) rfl (one1 _ rfl) (by omega) (by decide) Hb1.out.size ?_; intro v' w1 hown' hg'; have hbw3 := below_app Hb1.out (HN.out _) hg' Hb1.out.size))
        go_roundw
        case rel => exact ⟨hbw3, .inr ⟨_, _, rfl, hown'⟩⟩
        case measure => simp
      · obtain ⟨ga, gc, rfl, hc1, -⟩ := own_open hown
        obtain ⟨gb, rfl⟩ := own_some hown (by decide)
        have HJ := Lib.hid (fun w' (hb : Below wr.heap.size wr w') => Tryz.strings_Join gb 0 gc [D] ⟨#[]⟩ w' (fun j x hx => by
          obtain ⟨b', off, y, ha, hy, c0⟩ := Sl.at1 (Sl.own1 hown) hb (show 0 < 1 by decide)
          cases ha
          cases hy
          rcases j with _ | j
          · cases hx; exact c0
          · simp at hx) (Nat.lt_of_lt_of_le (hown.lt gb rfl).2 hb.size) (by simp) (by simpa using hc1) (by simp [Lib.join_one]; have : D.data.toList.length ≤ 20 := HL.out; simpa using Nat.le_trans this (by decide)))
        have hj : (⟨(Lib.join ([D].map (·.data.toList)) (⟨#[]⟩ : ByteArray).data.toList).toArray⟩ : ByteArray) = D := by simp [Lib.join_one]
        rw [hj] at HJ
        have Hbw := Lib.hid hbw
        have HC := Lib.hid (HS.out _ hbw)
        clear hown hbw hc1 hj
        go_wp2_with (first
          | (go_at_call 90; refine (reverse1 _ _ _).mono ?_; rintro e w3 ⟨rfl, hb3⟩; have Hb3 := Lib.hid hb3; clear hb3)
          | (go_at_call 91; refine (HJ.out _ Hb3.out).mono ?_; rintro e w4 ⟨rfl, hb4⟩; have Hb34 := Lib.hid (bw_via Hb3.out hb4); obtain ⟨s0, s1⟩ := HS.out _ (bw_via Hbw.out Hb34.out); clear hb4))
        go_ret
        exact ⟨by rw [← HD.out]; simp [bytes_cat], HK.out.via (bw_via Hbw.out Hb34.out) HK.out.size⟩

end Go.Proofs.YtfmgjcgcocidfaaGreatDoor
