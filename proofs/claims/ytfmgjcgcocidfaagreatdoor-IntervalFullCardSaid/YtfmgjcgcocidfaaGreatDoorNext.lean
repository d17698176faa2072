/-
  Next, at known's complement.
-/
import Derived.Test.YtfmgjcgcocidfaaGreatDoorEnds
namespace Go.Proofs.YtfmgjcgcocidfaaGreatDoor
open Go.RowKit

set_option maxHeartbeats 8000000 in
set_option maxRecDepth 10000 in
theorem next_known (u : Value) (w : World) (h : Ivs w u xsC) : Calls Tryz.prog 11 #[u, .string ⟨#[48]⟩] w (Ret (.tuple #[.string ⟨#[49]⟩, .bool true, .int .i64 0]) w) := by
  have HE := Lib.hid (ends_known u w h)
  have HRd := Lib.hid (fun w' => read_w ⟨#[48]⟩ 0 w' (by have := wt_0; rw [v_0] at this; exact this))
  clear h
  go_enter Tryz.func11, Tryz.ntmps11
  go_wp2_with (first
    | (go_at_call 24; have _t := Hc1; clear _t; refine (HRd.out _).mono ?_; rintro e w2 ⟨v2, rfl, ⟨x2, a2, n2, c2, rfl, hrv, -⟩, hb2⟩; have Hrv := Lib.hid hrv; have Hb2 := Lib.hid hb2; clear hrv hb2)
    | (go_at_call 23; refine (HE.out).mono ?_; rintro e w1 ⟨v1, rfl, ⟨a, c, rfl, px, py, hc, hsx, hsy⟩, hb1⟩; have Hc1 := Lib.hid hc; have Hs := Lib.hid (And.intro hsx hsy); have Hb1 := Lib.hid hb1; clear hc hsx hsy hb1))
  have HV := Lib.hid (fun w' (hb : Below (w2.alloc (.cells #[.bool x2, .slice a2 n2 c2, .bool false, .slice none 0 0] 50)).heap.size (w2.alloc (.cells #[.bool x2, .slice a2 n2 c2, .bool false, .slice none 0 0] 50)) w') => cells4 (Blk.new w2 #[.bool x2, .slice a2 n2 c2, .bool false, .slice none 0 0] 50) hb)
  go_loopw [30] (fun i wr => ∃ k : Nat, k ≤ 1 ∧ i = .int .i64 (k : Int) ∧ Below (w2.alloc (.cells #[.bool x2, .slice a2 n2 c2, .bool false, .slice none 0 0] 50)).heap.size (w2.alloc (.cells #[.bool x2, .slice a2 n2 c2, .bool false, .slice none 0 0] 50)) wr) (fun i _ => 2 - (intOf i).toNat)
  case atStart => exact ⟨0, by omega, rfl, Below.refl _ _⟩
  case round =>
    obtain ⟨k, hk, rfl, hbw⟩ := hrel
    have hb1r := bw_via (bw_via Hb2.out (below1 w2 _)) hbw
    obtain ⟨b, off, p, rfl, hp, hpok, hpc⟩ := Cuts.at Hc1.out hb1r (show k < 2 by omega)
    have hvk : val p.c.s = (k : Int) ∧ (k = 1 → p.c.s = ⟨#[49]⟩) := by
      rcases k with _ | _ | k
      · cases hp; rw [Hs.out.1]; exact ⟨v_0, fun h => by cases h⟩
      · cases hp; rw [Hs.out.2]; exact ⟨v_1, fun _ => rfl⟩
      · omega
    obtain ⟨⟨bb, s, d⟩, x, a', n, c'⟩ := p
    obtain ⟨e0, e1, e2, e3, e4, e5, e6⟩ := hpc
    dsimp only at e0 e1 e2 e3 e4 e5 e6 hvk
    have hrat : RatV wr (.agg #[.bool x, .slice a' n c', .bool false, .slice none 0 0]) (k : Int) 0 := by
      have := hpok.rat
      dsimp only at this
      rw [hvk.1] at this
      exact this
    obtain ⟨v0, v1, v2, v3⟩ := HV.out _ (bw_via hbw (below1 wr (.cells #[.int .i64 bb, .string s, .int .i64 d, .bool x, .slice a' n c', .bool false, .slice none 0 0] 52)))
    have hcm := rcmp_d (.agg #[.bool x, .slice a' n c', .bool false, .slice none 0 0]) (.agg #[.bool x2, .slice a2 n2 c2, .bool false, .slice none 0 0]) (k : Int) 0 (wr.alloc (.cells #[.int .i64 bb, .string s, .int .i64 d, .bool x, .slice a' n c', .bool false, .slice none 0 0] 52)) (hrat.mono (below1 wr _)) (Hrv.out.mono (bw_via (bw_via (below1 w2 _) hbw) (below1 wr _)))
    have hkw : IntKind.i64.wrap ((k : Int) + 1) = (k : Int) + 1 := IntWalk.i64_in _ (by omega)
    have hk2 : (k : Int) < 2 := by omega
    have HB7 := Lib.hid (Blk.new wr #[.int .i64 bb, .string s, .int .i64 d, .bool x, .slice a' n c', .bool false, .slice none 0 0] 52)
    have Hbw := Lib.hid hbw
    rcases Nat.eq_zero_or_pos k with h0 | h0
    · rw [show cmpZ (k : Int) 0 = 0 by rw [h0]; rfl] at hcm
      have HCm := Lib.hid hcm
      have Hk := Lib.hid h0
      clear hcm hrat hpok hp hvk hbw hb1r h0
      go_wp2_with (go_at_call 25; refine (HCm.out).mono ?_; rintro e w5 ⟨rfl, hb5, -⟩; have Hb5 := Lib.hid hb5; clear hb5)
      go_roundw
      case rel => exact ⟨k + 1, by rw [Hk.out]; exact Nat.le_refl _, by go_num, Hbw.out.via (bw_via (below1 wr _) Hb5.out) Hbw.out.size⟩
      case measure => simp [intOf] <;> omega
    · rw [show cmpZ (k : Int) 0 = 1 by rw [show k = 1 by omega]; rfl] at hcm
      have HCm := Lib.hid hcm
      obtain rfl : s = ⟨#[49]⟩ := hvk.2 (by omega)
      clear hcm hrat hpok hp hvk hbw h0
      go_wp2_with (go_at_call 25; refine (HCm.out).mono ?_; rintro e w5 ⟨rfl, hb5, -⟩; have Hb5 := Lib.hid hb5; obtain ⟨f0, f1, f2, f3, f4, f5, f6⟩ := cells7 HB7.out Hb5.out; clear hb5)
      go_ret3
      exact ⟨rfl, bw_via (bw_via Hb1.out hb1r) (bw_via (below1 wr _) Hb5.out)⟩

end Go.Proofs.YtfmgjcgcocidfaaGreatDoor
