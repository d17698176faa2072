/-
  The known answers.
-/
import Derived.Test.YtfmgjcgcocidfaaGreatDoorNorm
import Derived.Test.YtfmgjcgcocidfaaGreatDoorNext
import Derived.Test.YtfmgjcgcocidfaaGreatDoorMap
import Derived.Test.YtfmgjcgcocidfaaGreatDoorPick
namespace Go.Proofs.YtfmgjcgcocidfaaGreatDoor
open Go.RowKit

theorem txt_m1 : (⟨(textI (-1)).toArray⟩ : ByteArray) = ⟨#[45, 49]⟩ := by decide +kernel
theorem txt_m3 : (⟨(textI (-3)).toArray⟩ : ByteArray) = ⟨#[45, 51]⟩ := by decide +kernel
theorem txt_32 : (⟨(textI 3).toArray⟩ ++ ⟨#[47]⟩ ++ ⟨(textI 2).toArray⟩ : ByteArray) = ⟨#[51, 47, 50]⟩ := by decide +kernel
theorem v_m2 : val ⟨#[45, 50]⟩ = -2 := by decide

theorem norm_c (b : Nat) (W : World) (hB : Blk W b #[.string ⟨#[50]⟩, .string ⟨#[51]⟩, .int .i64 1, .int .i64 0, .string ⟨#[48]⟩, .string ⟨#[49]⟩, .int .i64 0, .int .i64 1, .string ⟨#[49]⟩, .string ⟨#[50]⟩, .int .i64 0, .int .i64 0] 27) : Calls Tryz.prog 10 #[.slice (some ⟨b, 0, none⟩) 3 3] W (RetP (fun v w' => ∃ a c, v = .tuple #[.slice a 1 c, .int .i64 0] ∧ Ivs w' (.slice a 1 c) [⟨⟨#[48]⟩, ⟨#[51]⟩, 0, 0⟩]) W) :=
  normal_chain (.slice (some ⟨b, 0, none⟩) 3 3) xsN W (Ivs.blk xsN hB rfl rfl (by decide)) ok_N lh_N (by decide) (by decide) ⟨0, ⟨#[48]⟩, 1⟩ ⟨0, ⟨#[51]⟩, -1⟩ chain_N
theorem compl_c (b : Nat) (W : World) (hB : Blk W b #[.string ⟨#[48]⟩, .string ⟨#[49]⟩, .int .i64 0, .int .i64 1] 27) : Calls Tryz.prog 8 #[.slice (some ⟨b, 0, none⟩) 1 1] W (RetP (fun r w' => ∃ a c, r = .tuple #[.slice a 2 c, .int .i64 0] ∧ Ivs w' (.slice a 2 c) xsC) W) :=
  compl_known _ W (Ivs.blk xs1 hB rfl rfl (by decide))
theorem pick_c (b : Nat) (W : World) (hB : Blk W b #[.string ⟨#[49]⟩, .string ⟨#[50]⟩, .int .i64 0, .int .i64 0] 27) : Calls Tryz.prog 12 #[.slice (some ⟨b, 0, none⟩) 1 1] W (Ret (.tuple #[.string ⟨#[51, 47, 50]⟩, .bool true, .int .i64 0]) W) := by
  have := pick_open _ ⟨#[49]⟩ ⟨#[50]⟩ W (Ivs.blk [⟨⟨#[49]⟩, ⟨#[50]⟩, 0, 0⟩] hB rfl rfl (by decide)) wt_1 wt_2 v_1 v_2
  rw [txt_32] at this
  exact this
theorem map_c (b : Nat) (W : World) (hB : Blk W b #[.string ⟨#[49]⟩, .string ⟨#[50]⟩, .int .i64 0, .int .i64 1] 27) : Calls Tryz.prog 13 #[.slice (some ⟨b, 0, none⟩) 1 1, .string ⟨#[45, 50]⟩, .string ⟨#[49]⟩] W (RetP (fun v w' => ∃ a c, v = .tuple #[.slice a 1 c, .int .i64 0] ∧ Ivs w' (.slice a 1 c) [⟨⟨#[45, 51]⟩, ⟨#[45, 49]⟩, 1, 0⟩]) W) := by
  have h1 := wt_1
  have h2 := wt_2
  have hm := wt_m2
  rw [v_1] at h1
  rw [v_2] at h2
  rw [v_m2] at hm
  have := map_known _ W (Ivs.blk [⟨⟨#[49]⟩, ⟨#[50]⟩, 0, 1⟩] hB rfl rfl (by decide)) h1 h2 hm v_1 v_2
  rw [txt_m1, txt_m3] at this
  exact this

set_option maxHeartbeats 16000000 in
set_option maxRecDepth 10000 in
theorem known_true (w : World) : Calls Tryz.prog 4 #[] w (Ret (.bool true) w) := by
  have HBt := Lib.hid (fun lo hi le he w' => between_any lo hi le he w')
  have HNo := Lib.hid (fun b W hB => norm_c b W hB)
  have HCo := Lib.hid (fun b W hB => compl_c b W hB)
  have HNx := Lib.hid (fun u W h => next_known u W h)
  have HPi := Lib.hid (fun b W hB => pick_c b W hB)
  have HMa := Lib.hid (fun b W hB => map_c b W hB)
  have HSa := Lib.hid (fun u v xs W hx hy hn => same_true u v xs W hx hy hn)
  go_enter Tryz.func4, Tryz.ntmps4
  go_wp2_with (first
    | (go_at_call 7; have _t := H17; clear _t; refine (HSa.out _ _ [⟨⟨#[45, 51]⟩, ⟨#[45, 49]⟩, 1, 0⟩] _ (I11.out.mono (below1 w17 (.cells #[.string ⟨#[45, 51]⟩, .string ⟨#[45, 49]⟩, .int .i64 1, .int .i64 0] 27))) (Ivs.blk [⟨⟨#[45, 51]⟩, ⟨#[45, 49]⟩, 1, 0⟩] (Blk.new w17 _ _) rfl rfl (by decide)) (by decide)).mono ?_; rintro e w18 ⟨rfl, hb⟩; have st := bw_via (below1 w17 (.cells #[.string ⟨#[45, 51]⟩, .string ⟨#[45, 49]⟩, .int .i64 1, .int .i64 0] 27)) hb; have H18 := Lib.hid (bw_via H17.out st); have I4 := Lib.hid (I4.out.mono st); have I6 := Lib.hid (I6.out.mono st); have I11 := Lib.hid (I11.out.mono st); clear st hb)
    | (go_at_call 9; have _t := H16; clear _t; refine (HBt.out _ _ _ _ _).mono ?_; rintro e w17 ⟨rfl, hb⟩; have st := hb; have H17 := Lib.hid (bw_via H16.out st); have I4 := Lib.hid (I4.out.mono st); have I6 := Lib.hid (I6.out.mono st); have I11 := Lib.hid (I11.out.mono st); clear st hb)
    | (go_at_call 7; have _t := H15; clear _t; refine (HSa.out _ _ xsC _ (I6.out.mono (below1 w15 (.cells #[.string ⟨#[]⟩, .string ⟨#[48]⟩, .int .i64 2, .int .i64 1, .string ⟨#[49]⟩, .string ⟨#[]⟩, .int .i64 0, .int .i64 2] 27))) (Ivs.blk xsC (Blk.new w15 _ _) rfl rfl (by decide)) (by decide)).mono ?_; rintro e w16 ⟨rfl, hb⟩; have st := bw_via (below1 w15 (.cells #[.string ⟨#[]⟩, .string ⟨#[48]⟩, .int .i64 2, .int .i64 1, .string ⟨#[49]⟩, .string ⟨#[]⟩, .int .i64 0, .int .i64 2] 27)) hb; have H16 := Lib.hid (bw_via H15.out st); have I4 := Lib.hid (I4.out.mono st); have I6 := Lib.hid (I6.out.mono st); have I11 := Lib.hid (I11.out.mono st); clear st hb)
    | (go_at_call 9; have _t := H14; clear _t; refine (HBt.out _ _ _ _ _).mono ?_; rintro e w15 ⟨rfl, hb⟩; have st := hb; have H15 := Lib.hid (bw_via H14.out st); have I4 := Lib.hid (I4.out.mono st); have I6 := Lib.hid (I6.out.mono st); have I11 := Lib.hid (I11.out.mono st); clear st hb)
    | (go_at_call 9; have _t := H13; clear _t; refine (HBt.out _ _ _ _ _).mono ?_; rintro e w14 ⟨rfl, hb⟩; have st := hb; have H14 := Lib.hid (bw_via H13.out st); have I4 := Lib.hid (I4.out.mono st); have I6 := Lib.hid (I6.out.mono st); have I11 := Lib.hid (I11.out.mono st); clear st hb)
    | (go_at_call 7; have _t := H12; clear _t; refine (HSa.out _ _ [⟨⟨#[48]⟩, ⟨#[51]⟩, 0, 0⟩] _ (I4.out.mono (below1 w12 (.cells #[.string ⟨#[48]⟩, .string ⟨#[51]⟩, .int .i64 0, .int .i64 0] 27))) (Ivs.blk [⟨⟨#[48]⟩, ⟨#[51]⟩, 0, 0⟩] (Blk.new w12 _ _) rfl rfl (by decide)) (by decide)).mono ?_; rintro e w13 ⟨rfl, hb⟩; have st := bw_via (below1 w12 (.cells #[.string ⟨#[48]⟩, .string ⟨#[51]⟩, .int .i64 0, .int .i64 0] 27)) hb; have H13 := Lib.hid (bw_via H12.out st); have I4 := Lib.hid (I4.out.mono st); have I6 := Lib.hid (I6.out.mono st); have I11 := Lib.hid (I11.out.mono st); clear st hb)
    | (go_at_call 9; have _t := H11; clear _t; refine (HBt.out _ _ _ _ _).mono ?_; rintro e w12 ⟨rfl, hb⟩; have st := hb; have H12 := Lib.hid (bw_via H11.out st); have I4 := Lib.hid (I4.out.mono st); have I6 := Lib.hid (I6.out.mono st); have I11 := Lib.hid (I11.out.mono st); clear st hb)
    | (go_at_call 13; refine (HMa.out _ _ (Blk.new w10 _ _)).mono ?_; rintro e w11 ⟨v, rfl, ⟨a11, c11, rfl, hi⟩, hb⟩; have st := bw_via (below1 w10 (.cells #[.string ⟨#[49]⟩, .string ⟨#[50]⟩, .int .i64 0, .int .i64 1] 27)) hb; have H11 := Lib.hid (bw_via H10.out st); have I4 := Lib.hid (I4.out.mono st); have I6 := Lib.hid (I6.out.mono st); have I11 := Lib.hid hi; clear hi; clear st hb)
    | (go_at_call 9; have _t := H9; clear _t; refine (HBt.out _ _ _ _ _).mono ?_; rintro e w10 ⟨rfl, hb⟩; have st := hb; have H10 := Lib.hid (bw_via H9.out st); have I4 := Lib.hid (I4.out.mono st); have I6 := Lib.hid (I6.out.mono st); clear st hb)
    | (go_at_call 12; refine (HPi.out _ _ (Blk.new w8 _ _)).mono ?_; rintro e w9 ⟨rfl, hb⟩; have st := bw_via (below1 w8 (.cells #[.string ⟨#[49]⟩, .string ⟨#[50]⟩, .int .i64 0, .int .i64 0] 27)) hb; have H9 := Lib.hid (bw_via H8.out st); have I4 := Lib.hid (I4.out.mono st); have I6 := Lib.hid (I6.out.mono st); clear st hb)
    | (go_at_call 9; have _t := H7; clear _t; refine (HBt.out _ _ _ _ _).mono ?_; rintro e w8 ⟨rfl, hb⟩; have st := hb; have H8 := Lib.hid (bw_via H7.out st); have I4 := Lib.hid (I4.out.mono st); have I6 := Lib.hid (I6.out.mono st); clear st hb)
    | (go_at_call 11; refine (HNx.out _ _ I6.out).mono ?_; rintro e w7 ⟨rfl, hb⟩; have st := hb; have H7 := Lib.hid (bw_via H6.out st); have I4 := Lib.hid (I4.out.mono st); have I6 := Lib.hid (I6.out.mono st); clear st hb)
    | (go_at_call 8; refine (HCo.out _ _ (Blk.new w5 _ _)).mono ?_; rintro e w6 ⟨v, rfl, ⟨a6, c6, rfl, hi⟩, hb⟩; have st := bw_via (below1 w5 (.cells #[.string ⟨#[48]⟩, .string ⟨#[49]⟩, .int .i64 0, .int .i64 1] 27)) hb; have H6 := Lib.hid (bw_via H5.out st); have I4 := Lib.hid (I4.out.mono st); have I6 := Lib.hid hi; clear hi; clear st hb)
    | (go_at_call 9; have _t := H4; clear _t; refine (HBt.out _ _ _ _ _).mono ?_; rintro e w5 ⟨rfl, hb⟩; have st := hb; have H5 := Lib.hid (bw_via H4.out st); have I4 := Lib.hid (I4.out.mono st); clear st hb)
    | (go_at_call 10; refine (HNo.out _ _ (Blk.new w3 _ _)).mono ?_; rintro e w4 ⟨v, rfl, ⟨a4, c4, rfl, hi⟩, hb⟩; have st := bw_via (below1 w3 (.cells #[.string ⟨#[50]⟩, .string ⟨#[51]⟩, .int .i64 1, .int .i64 0, .string ⟨#[48]⟩, .string ⟨#[49]⟩, .int .i64 0, .int .i64 1, .string ⟨#[49]⟩, .string ⟨#[50]⟩, .int .i64 0, .int .i64 0] 27)) hb; have H4 := Lib.hid (bw_via H3.out st); have I4 := Lib.hid hi; clear hi; clear st hb)
    | (go_at_call 9; have _t := H2; clear _t; refine (HBt.out _ _ _ _ _).mono ?_; rintro e w3 ⟨rfl, hb⟩; have st := hb; have H3 := Lib.hid (bw_via H2.out st); clear st hb)
    | (go_at_call 9; have _t := H1; clear _t; refine (HBt.out _ _ _ _ _).mono ?_; rintro e w2 ⟨rfl, hb⟩; have st := hb; have H2 := Lib.hid (bw_via H1.out st); clear st hb)
    | (go_at_call 9; refine (HBt.out _ _ _ _ _).mono ?_; rintro e w1 ⟨rfl, hb⟩; have st := hb; have H1 := Lib.hid (hb); clear st hb))
  go_ret
  exact ⟨rfl, H18.out⟩

end Go.Proofs.YtfmgjcgcocidfaaGreatDoor
