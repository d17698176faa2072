/-
  The text of a small whole number: Read.
-/
import Derived.Test.YtfmgjcgcocidfaaGreatDoorParse
namespace Go.Proofs.YtfmgjcgcocidfaaGreatDoor
open Go.RowKit

theorem digitsB {d : List UInt8} (h : d ≠ []) : (⟨d.toArray⟩ : ByteArray).toList.isEmpty = false := by
  rw [ByteArray.toList_eq]
  cases d with
  | nil => exact absurd rfl h
  | cons a l => rfl

set_option maxHeartbeats 1000000 in
theorem digits_w (d : List UInt8) (w : World) (hne : d ≠ []) (hlen : d.length ≤ 9) (ht : Lib.trimS d cut10 = []) : Calls Tryz.prog 75 #[.string ⟨d.toArray⟩] w (Ret (.bool true) w) := by
  have H := Lib.hid (Any.strings_Trim_laid Tryz.lays160 (by kernel_rfl) ⟨d.toArray⟩ ⟨#[48, 49, 50, 51, 52, 53, 54, 55, 56, 57]⟩ w (by rw [Lib.size_eq]; show d.length ≤ _; omega) (by decide) (ascii_of_all (by decide)))
  rw [show (⟨#[48, 49, 50, 51, 52, 53, 54, 55, 56, 57]⟩ : ByteArray).data.toList = cut10 from rfl, show (⟨d.toArray⟩ : ByteArray).data.toList = d from rfl, ht] at H
  change Hid (Calls Tryz.prog 77 _ _ _) at H
  have he := digitsB hne
  generalize (⟨d.toArray⟩ : ByteArray) = D at *
  clear hne hlen ht
  go_enter Tryz.func75, Tryz.ntmps75
  go_wp2_with (go_at_call 77; refine (H.out).mono ?_; rintro e w1 ⟨rfl, hb⟩)
  go_ret
  exact ⟨rfl, hb⟩

set_option maxHeartbeats 1000000 in
theorem scut_none (s : ByteArray) (c : UInt8) (w : World) (h : Lib.indexByte s.data.toList c = -1) : Calls Tryz.prog 106 #[.string s, .string ⟨#[c]⟩] w (Ret (.tuple #[.string s, .string ⟨#[]⟩, .bool false]) w) := by
  have H := Lib.hid (Tryz.stringslite_Index_one s c w)
  rw [h] at H
  clear h
  go_enter Tryz.func106, Tryz.ntmps106
  go_wp2_with (go_at_call 134; refine (H.out).mono ?_; rintro e w1 ⟨rfl, rfl⟩)
  go_ret3
  exact ⟨rfl, Below.refl _ _⟩

set_option maxHeartbeats 1000000 in
theorem cut_none (s : ByteArray) (c : UInt8) (w : World) (h : Lib.indexByte s.data.toList c = -1) : Calls Tryz.prog 74 #[.string s, .string ⟨#[c]⟩] w (Ret (.tuple #[.string s, .string ⟨#[]⟩, .bool false]) w) := by
  have H := Lib.hid (scut_none s c w h)
  clear h
  go_enter Tryz.func74, Tryz.ntmps74
  go_wp2_with (go_at_call 106; refine (H.out).mono ?_; rintro e w1 ⟨rfl, hb⟩)
  go_ret3
  exact ⟨rfl, hb⟩

set_option maxHeartbeats 4000000 in
theorem rread_w (s : ByteArray) (z : Int) (w : World) (h : WT s z) : Calls Tryz.prog 48 #[.string s, .int .i64 65536] w (RetP (fun v w' => ∃ x a n c, v = .tuple #[.agg #[.bool x, .slice a n c, .bool false, .slice none 0 0], .int .i64 0] ∧ RatV w' (.agg #[.bool x, .slice a n c, .bool false, .slice none 0 0]) z 0 ∧ AU w' a) w) := by
  have H4 := Lib.hid (fun w' => parse_w s z w' h)
  obtain ⟨d, u, neg, h, hz⟩ := h
  obtain ⟨hl, hlen, hne, hix, htr, -, -, htrim, -, -, -, -⟩ := wtB_spec h
  have H1 := Lib.hid (fun w' => cut_none s 47 w' hix)
  have H2 := Lib.hid (fun w' => Tryz.strings_TrimPrefix s ⟨#[45]⟩ w')
  rw [show (⟨#[45]⟩ : ByteArray).data.toList = [45] from rfl, htrim] at H2
  have H3 := Lib.hid (fun w' => digits_w d w' hne hlen htr)
  have hss : s.size ≤ 10 := by rw [Lib.size_eq, hl]; cases neg <;> simp <;> omega
  have hss2 : ¬ (65536 : Int) < (s.size : Int) := by omega
  have HR := Lib.hid (Blk.new w #[.bool false, .slice none 0 0, .bool false, .slice none 0 0] 50)
  generalize (⟨d.toArray⟩ : ByteArray) = D at *
  clear h hz hl hlen hne hix htr htrim hss
  go_enter Tryz.func48, Tryz.ntmps48
  go_wp2_with (first
    | (go_at_call 74; refine (H1.out _).mono ?_; rintro e w1 ⟨rfl, hb1⟩; have Hb1 := Lib.hid hb1; clear hb1)
    | (go_at_call 76; refine (H2.out _).mono ?_; rintro e w' ⟨rfl, rfl⟩)
    | (go_at_call 75; refine (H3.out _).mono ?_; rintro e w2 ⟨rfl, hb2⟩; have Hb2 := Lib.hid (bw_via Hb1.out hb2); clear hb2)
    | (go_at_call 78; refine (H4.out _).mono ?_; rintro e w3 ⟨v, rfl, ⟨x5, a5, n5, c5, rfl, hv, hau⟩, hb3⟩; have Hb3 := Lib.hid (bw_via Hb2.out hb3); have hr := (HR.out.below Hb3.out).old (.cells #[.bool x5, .slice a5 n5 c5] 48); obtain ⟨⟨r0, r1, r2, r3⟩, f0, f1, f2, f3⟩ := blk4v hr; obtain ⟨hv6, hb6⟩ := RatV.put4 (RatV.whole0 (hv.mono (below1 _ (.cells #[.bool x5, .slice a5 n5 c5] 48)))) hr; have Hv6 := Lib.hid hv6; have HA6 := Lib.hid (((((hau.mono (below1 _ (.cells #[.bool x5, .slice a5 n5 c5] 48))).set w.heap.size 0 (.bool x5)).set w.heap.size 1 (.slice a5 n5 c5)).set w.heap.size 2 (.bool false)).set w.heap.size 3 (.slice none 0 0)); have Hb6 := Lib.hid hb6; have Hbel := Lib.hid (put_below4 (b := w.heap.size) (.bool x5) (.slice a5 n5 c5) (.bool false) (.slice none 0 0) (((below1 w (.cells #[.bool false, .slice none 0 0, .bool false, .slice none 0 0] 50)).via Hb3.out (below1 w _).size).via (below1 w3 (.cells #[.bool x5, .slice a5 n5 c5] 48)) (Nat.le_trans (below1 w _).size Hb3.out.size)) (Nat.le_refl _)); clear hb3 hv hr hv6 hb6))
  obtain ⟨⟨q0, q1, q2, q3⟩, -⟩ := blk4v Hb6.out
  exact bodyPost_ret (v := .tuple #[.agg #[.bool x5, .slice a5 n5 c5, .bool false, .slice none 0 0], .int .i64 0]) (by simp [results, Tryz.results48, go_sem, q0, q1, q2, q3]) rfl ⟨_, rfl, ⟨_, _, _, _, rfl, Hv6.out, HA6.out⟩, Hbel.out⟩

set_option maxHeartbeats 4000000 in
theorem read_w (s : ByteArray) (z : Int) (w : World) (h : WT s z) : Calls Tryz.prog 24 #[.string s] w (RetP (fun v w' => ∃ x a n c, v = .tuple #[.agg #[.bool x, .slice a n c, .bool false, .slice none 0 0], .int .i64 0] ∧ RatV w' (.agg #[.bool x, .slice a n c, .bool false, .slice none 0 0]) z 0 ∧ AU w' a) w) := by
  have H := Lib.hid (fun w' => rread_w s z w' h)
  have HR := Lib.hid (Blk.new w #[.bool false, .slice none 0 0, .bool false, .slice none 0 0] 50)
  clear h
  go_enter Tryz.func24, Tryz.ntmps24
  go_wp2_with (go_at_call 48; refine (H.out _).mono ?_; rintro e w3 ⟨v, rfl, ⟨x5, a5, n5, c5, rfl, hv, hau⟩, hb3⟩; have hr := HR.out.below hb3; obtain ⟨⟨r0, r1, r2, r3⟩, f0, f1, f2, f3⟩ := blk4v hr; obtain ⟨hv6, hb6⟩ := RatV.put4 hv hr; have Hv6 := Lib.hid hv6; have HA6 := Lib.hid (((((hau).set w.heap.size 0 (.bool x5)).set w.heap.size 1 (.slice a5 n5 c5)).set w.heap.size 2 (.bool false)).set w.heap.size 3 (.slice none 0 0)); have Hb6 := Lib.hid hb6; have Hbel := Lib.hid (put_below4 (b := w.heap.size) (.bool x5) (.slice a5 n5 c5) (.bool false) (.slice none 0 0) ((below1 w (.cells #[.bool false, .slice none 0 0, .bool false, .slice none 0 0] 50)).via hb3 (below1 w _).size) (Nat.le_refl _)); clear hb3 hv hr hv6 hb6)
  obtain ⟨⟨q0, q1, q2, q3⟩, -⟩ := blk4v Hb6.out
  exact bodyPost_ret (v := .tuple #[.agg #[.bool x5, .slice a5 n5 c5, .bool false, .slice none 0 0], .int .i64 0]) (by simp [results, Tryz.results24, go_sem, q0, q1, q2, q3]) rfl ⟨_, rfl, ⟨_, _, _, _, rfl, Hv6.out, HA6.out⟩, Hbel.out⟩

end Go.Proofs.YtfmgjcgcocidfaaGreatDoor
