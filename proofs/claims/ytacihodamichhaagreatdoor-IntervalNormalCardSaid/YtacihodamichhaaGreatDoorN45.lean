/-
  Parts of the proof: Knong, Sgl, Ierr, Rfew, Lfew.
-/
import Derived.Test.YtacihodamichhaaGreatDoorN43
import Derived.Test.YtacihodamichhaaGreatDoorN44
namespace Go.Proofs.YtacihodamichhaaGreatDoor
open Go.RowKit
theorem txt_m1 : (⟨(textI (-1)).toArray⟩ : ByteArray) = ⟨#[45, 49]⟩ := by decide +kernel
theorem txt_m3 : (⟨(textI (-3)).toArray⟩ : ByteArray) = ⟨#[45, 51]⟩ := by decide +kernel
theorem txt_32 : (⟨(textI 3).toArray⟩ ++ ⟨#[47]⟩ ++ ⟨(textI 2).toArray⟩ : ByteArray) = ⟨#[51, 47, 50]⟩ := by decide +kernel
theorem v_m2 : val ⟨#[45, 50]⟩ = -2 := by decide
theorem ne_N : normErr xsN = 0 := by kernel_rfl
theorem nl_N : normL xsN = [⟨⟨#[48]⟩, ⟨#[51]⟩, 0, 0⟩] := by kernel_rfl
theorem short_N : ∀ x ∈ xsN, x.short := fun x hx => by
 simp only [xsN, List.mem_cons, List.not_mem_nil, or_false] at hx
 rcases hx with rfl | rfl | rfl <;> exact ⟨by decide, by decide⟩
theorem norm_c (b : Nat) (W : World) (hB : Blk W b #[.string ⟨#[50]⟩, .string ⟨#[51]⟩, .int .i64 1, .int .i64 0, .string ⟨#[48]⟩, .string ⟨#[49]⟩, .int .i64 0, .int .i64 1, .string ⟨#[49]⟩, .string ⟨#[50]⟩, .int .i64 0, .int .i64 0] 46) : Calls Tryz.prog 23 #[.slice (some ⟨b, 0, none⟩) 3 3] W (RetP (fun v w' => ∃ a c, v = .tuple #[.slice a 1 c, .int .i64 0] ∧ Ivs w' (.slice a 1 c) [⟨⟨#[48]⟩, ⟨#[51]⟩, 0, 0⟩]) W) := by
 refine (inormal_eq (.slice (some ⟨b, 0, none⟩) 3 3) xsN W (Ivs.blk xsN hB rfl rfl (by decide)) short_N).mono ?_
 rintro e w' ⟨v, rfl, ⟨a, c, rfl, hiv⟩, hb⟩
 rw [nl_N] at hiv
 exact ⟨_, rfl, ⟨a, c, by rw [nl_N, ne_N]; rfl, hiv⟩, hb⟩
theorem compl_c (b : Nat) (W : World) (hB : Blk W b #[.string ⟨#[48]⟩, .string ⟨#[49]⟩, .int .i64 0, .int .i64 1] 46) : Calls Tryz.prog 35 #[.slice (some ⟨b, 0, none⟩) 1 1] W (RetP (fun r w' => ∃ a c, r = .tuple #[.slice a 2 c, .int .i64 0] ∧ Ivs w' (.slice a 2 c) xsC) W) :=
 compl_known _ W (Ivs.blk xs1 hB rfl rfl (by decide))
theorem pick_c (b : Nat) (W : World) (hB : Blk W b #[.string ⟨#[49]⟩, .string ⟨#[50]⟩, .int .i64 0, .int .i64 0] 46) : Calls Tryz.prog 18 #[.slice (some ⟨b, 0, none⟩) 1 1] W (Ret (.tuple #[.string ⟨#[51, 47, 50]⟩, .bool true, .int .i64 0]) W) := by
 have := pick_open _ ⟨#[49]⟩ ⟨#[50]⟩ W (Ivs.blk [⟨⟨#[49]⟩, ⟨#[50]⟩, 0, 0⟩] hB rfl rfl (by decide)) wt_1 wt_2 v_1 v_2
 rw [txt_32] at this
 exact this
theorem map_c (b : Nat) (W : World) (hB : Blk W b #[.string ⟨#[49]⟩, .string ⟨#[50]⟩, .int .i64 0, .int .i64 1] 46) : Calls Tryz.prog 33 #[.slice (some ⟨b, 0, none⟩) 1 1, .string ⟨#[45, 50]⟩, .string ⟨#[49]⟩] W (RetP (fun v w' => ∃ a c, v = .tuple #[.slice a 1 c, .int .i64 0] ∧ Ivs w' (.slice a 1 c) [⟨⟨#[45, 51]⟩, ⟨#[45, 49]⟩, 1, 0⟩]) W) := by
 have h1 := wt_1
 have h2 := wt_2
 have hm := wt_m2
 rw [v_1] at h1
 rw [v_2] at h2
 rw [v_m2] at hm
 have := map_known _ W (Ivs.blk [⟨⟨#[49]⟩, ⟨#[50]⟩, 0, 1⟩] hB rfl rfl (by decide)) h1 h2 hm v_1 v_2
 rw [txt_m1, txt_m3] at this
 exact this
set_option maxHeartbeats 16000000 in
set_option maxRecDepth 10000 in
theorem known_true (w : World) : Calls Tryz.prog 13 #[] w (Ret (.bool true) w) := by
 have HBt := hI (fun lo hi le he w' => between_any lo hi le he w')
 have HNo := hI (fun b W hB => norm_c b W hB)
 have HCo := hI (fun b W hB => compl_c b W hB)
 have HNx := hI (fun u W h => next_known u W h)
 have HPi := hI (fun b W hB => pick_c b W hB)
 have HMa := hI (fun b W hB => map_c b W hB)
 have HSa := hI (fun u v xs W hx hy hn => same_true u v xs W hx hy hn)
 go_enter Tryz.func13, Tryz.ntmps13
 go_wp2_with (first
  | (go_at_call 26; have _t := H17; clear _t; refine (HSa.out _ _ [⟨⟨#[45, 51]⟩, ⟨#[45, 49]⟩, 1, 0⟩] _ (I11.out.mono (below1 w17 (.cells #[.string ⟨#[45, 51]⟩, .string ⟨#[45, 49]⟩, .int .i64 1, .int .i64 0] 46))) (Ivs.blk [⟨⟨#[45, 51]⟩, ⟨#[45, 49]⟩, 1, 0⟩] (Blk.new w17 _ _) rfl rfl (by decide)) (by decide)).mono ?_; rintro e w18 ⟨rfl, hb⟩; have st := bw_via (below1 w17 (.cells #[.string ⟨#[45, 51]⟩, .string ⟨#[45, 49]⟩, .int .i64 1, .int .i64 0] 46)) hb; have H18 := hI (bw_via H17.out st); have I4 := hI (I4.out.mono st); have I6 := hI (I6.out.mono st); have I11 := hI (I11.out.mono st); clear st hb)
  | (go_at_call 29; have _t := H16; clear _t; refine (HBt.out _ _ _ _ _).mono ?_; rintro e w17 ⟨rfl, hb⟩; have st := hb; have H17 := hI (bw_via H16.out st); have I4 := hI (I4.out.mono st); have I6 := hI (I6.out.mono st); have I11 := hI (I11.out.mono st); clear st hb)
  | (go_at_call 26; have _t := H15; clear _t; refine (HSa.out _ _ xsC _ (I6.out.mono (below1 w15 (.cells #[.string ⟨#[]⟩, .string ⟨#[48]⟩, .int .i64 2, .int .i64 1, .string ⟨#[49]⟩, .string ⟨#[]⟩, .int .i64 0, .int .i64 2] 46))) (Ivs.blk xsC (Blk.new w15 _ _) rfl rfl (by decide)) (by decide)).mono ?_; rintro e w16 ⟨rfl, hb⟩; have st := bw_via (below1 w15 (.cells #[.string ⟨#[]⟩, .string ⟨#[48]⟩, .int .i64 2, .int .i64 1, .string ⟨#[49]⟩, .string ⟨#[]⟩, .int .i64 0, .int .i64 2] 46)) hb; have H16 := hI (bw_via H15.out st); have I4 := hI (I4.out.mono st); have I6 := hI (I6.out.mono st); have I11 := hI (I11.out.mono st); clear st hb)
  | (go_at_call 29; have _t := H14; clear _t; refine (HBt.out _ _ _ _ _).mono ?_; rintro e w15 ⟨rfl, hb⟩; have st := hb; have H15 := hI (bw_via H14.out st); have I4 := hI (I4.out.mono st); have I6 := hI (I6.out.mono st); have I11 := hI (I11.out.mono st); clear st hb)
  | (go_at_call 29; have _t := H13; clear _t; refine (HBt.out _ _ _ _ _).mono ?_; rintro e w14 ⟨rfl, hb⟩; have st := hb; have H14 := hI (bw_via H13.out st); have I4 := hI (I4.out.mono st); have I6 := hI (I6.out.mono st); have I11 := hI (I11.out.mono st); clear st hb)
  | (go_at_call 26; have _t := H12; clear _t; refine (HSa.out _ _ [⟨⟨#[48]⟩, ⟨#[51]⟩, 0, 0⟩] _ (I4.out.mono (below1 w12 (.cells #[.string ⟨#[48]⟩, .string ⟨#[51]⟩, .int .i64 0, .int .i64 0] 46))) (Ivs.blk [⟨⟨#[48]⟩, ⟨#[51]⟩, 0, 0⟩] (Blk.new w12 _ _) rfl rfl (by decide)) (by decide)).mono ?_; rintro e w13 ⟨rfl, hb⟩; have st := bw_via (below1 w12 (.cells #[.string ⟨#[48]⟩, .string ⟨#[51]⟩, .int .i64 0, .int .i64 0] 46)) hb; have H13 := hI (bw_via H12.out st); have I4 := hI (I4.out.mono st); have I6 := hI (I6.out.mono st); have I11 := hI (I11.out.mono st); clear st hb)
  | (go_at_call 29; have _t := H11; clear _t; refine (HBt.out _ _ _ _ _).mono ?_; rintro e w12 ⟨rfl, hb⟩; have st := hb; have H12 := hI (bw_via H11.out st); have I4 := hI (I4.out.mono st); have I6 := hI (I6.out.mono st); have I11 := hI (I11.out.mono st); clear st hb)
  | (go_at_call 33; refine (HMa.out _ _ (Blk.new w10 _ _)).mono ?_; rintro e w11 ⟨v, rfl, ⟨a11, c11, rfl, hi⟩, hb⟩; have st := bw_via (below1 w10 (.cells #[.string ⟨#[49]⟩, .string ⟨#[50]⟩, .int .i64 0, .int .i64 1] 46)) hb; have H11 := hI (bw_via H10.out st); have I4 := hI (I4.out.mono st); have I6 := hI (I6.out.mono st); have I11 := hI hi; clear hi; clear st hb)
  | (go_at_call 29; have _t := H9; clear _t; refine (HBt.out _ _ _ _ _).mono ?_; rintro e w10 ⟨rfl, hb⟩; have st := hb; have H10 := hI (bw_via H9.out st); have I4 := hI (I4.out.mono st); have I6 := hI (I6.out.mono st); clear st hb)
  | (go_at_call 18; refine (HPi.out _ _ (Blk.new w8 _ _)).mono ?_; rintro e w9 ⟨rfl, hb⟩; have st := bw_via (below1 w8 (.cells #[.string ⟨#[49]⟩, .string ⟨#[50]⟩, .int .i64 0, .int .i64 0] 46)) hb; have H9 := hI (bw_via H8.out st); have I4 := hI (I4.out.mono st); have I6 := hI (I6.out.mono st); clear st hb)
  | (go_at_call 29; have _t := H7; clear _t; refine (HBt.out _ _ _ _ _).mono ?_; rintro e w8 ⟨rfl, hb⟩; have st := hb; have H8 := hI (bw_via H7.out st); have I4 := hI (I4.out.mono st); have I6 := hI (I6.out.mono st); clear st hb)
  | (go_at_call 20; refine (HNx.out _ _ I6.out).mono ?_; rintro e w7 ⟨rfl, hb⟩; have st := hb; have H7 := hI (bw_via H6.out st); have I4 := hI (I4.out.mono st); have I6 := hI (I6.out.mono st); clear st hb)
  | (go_at_call 35; refine (HCo.out _ _ (Blk.new w5 _ _)).mono ?_; rintro e w6 ⟨v, rfl, ⟨a6, c6, rfl, hi⟩, hb⟩; have st := bw_via (below1 w5 (.cells #[.string ⟨#[48]⟩, .string ⟨#[49]⟩, .int .i64 0, .int .i64 1] 46)) hb; have H6 := hI (bw_via H5.out st); have I4 := hI (I4.out.mono st); have I6 := hI hi; clear hi; clear st hb)
  | (go_at_call 29; have _t := H4; clear _t; refine (HBt.out _ _ _ _ _).mono ?_; rintro e w5 ⟨rfl, hb⟩; have st := hb; have H5 := hI (bw_via H4.out st); have I4 := hI (I4.out.mono st); clear st hb)
  | (go_at_call 23; refine (HNo.out _ _ (Blk.new w3 _ _)).mono ?_; rintro e w4 ⟨v, rfl, ⟨a4, c4, rfl, hi⟩, hb⟩; have st := bw_via (below1 w3 (.cells #[.string ⟨#[50]⟩, .string ⟨#[51]⟩, .int .i64 1, .int .i64 0, .string ⟨#[48]⟩, .string ⟨#[49]⟩, .int .i64 0, .int .i64 1, .string ⟨#[49]⟩, .string ⟨#[50]⟩, .int .i64 0, .int .i64 0] 46)) hb; have H4 := hI (bw_via H3.out st); have I4 := hI hi; clear hi; clear st hb)
  | (go_at_call 29; have _t := H2; clear _t; refine (HBt.out _ _ _ _ _).mono ?_; rintro e w3 ⟨rfl, hb⟩; have st := hb; have H3 := hI (bw_via H2.out st); clear st hb)
  | (go_at_call 29; have _t := H1; clear _t; refine (HBt.out _ _ _ _ _).mono ?_; rintro e w2 ⟨rfl, hb⟩; have st := hb; have H2 := hI (bw_via H1.out st); clear st hb)
  | (go_at_call 29; refine (HBt.out _ _ _ _ _).mono ?_; rintro e w1 ⟨rfl, hb⟩; have st := hb; have H1 := hI (hb); clear st hb))
 go_ret
 exact ⟨rfl, H18.out⟩
end Go.Proofs.YtacihodamichhaaGreatDoor
namespace Go.Proofs.YtacihodamichhaaGreatDoor
open Go.RowKit
theorem ivs_one {w : World} {b : Nat} {x : Iv} (h : Blk w b #[.string x.lo, .string x.hi, .int .i64 x.le, .int .i64 x.he] 46) : Ivs w (.slice (some ⟨b, 0, none⟩) 1 1) [x] := by
 refine ⟨some ⟨b, 0, none⟩, 1, rfl, Nat.le_refl _, by decide, .inr ⟨b, 0, rfl, h.lt, fun i j hi hj => ?_⟩⟩
 have hi : i < 1 := hi
 obtain rfl : i = 0 := by omega
 rw [h.cell]
 simp only [Nat.zero_mul, Nat.add_zero, Nat.zero_add]
 match j, hj with
 | 0, _ => rfl
 | 1, _ => rfl
 | 2, _ => rfl
 | 3, _ => rfl
set_option maxHeartbeats 4000000 in
theorem isingle_ok (n : ByteArray) (w : World) (hn : n.size ≤ 60) (h : errL n.data.toList = 0) : Calls Tryz.prog 25 #[.string n] w (RetP (fun v w' => ∃ b, v = .tuple #[.slice (some ⟨b, 0, none⟩) 1 1, .int .i64 0] ∧ Blk w' b #[.string n, .string n, .int .i64 1, .int .i64 1] 46) w) := by
 have H := hI (read_g n w hn)
 unfold RdPost at H
 rw [h] at H
 clear h
 go_enter Tryz.func25, Tryz.ntmps25
 go_wp2_with (go_at_call 63; refine (H.out).mono ?_; rintro e w1 ⟨v1, rfl, ⟨x, a, k, c, y, a', m, e', rfl, -, -, -⟩, hb1⟩; have Hb1 := hI hb1; clear hb1)
 go_ret2
 exact ⟨_, rfl, ⟨_, rfl, by have hb := Blk.new (w1.alloc (.cells #[.bool x, .slice a k c, .bool y, .slice a' m e'] 77)) #[.string n, .string n, .int .i64 1, .int .i64 1] 46; simpa using hb⟩, Hb1.out.alloc Hb1.out.size _ |>.alloc (by simp; exact Nat.le_succ_of_le Hb1.out.size) _⟩
set_option maxHeartbeats 4000000 in
theorem isingle_err (n : ByteArray) (w : World) (hn : n.size ≤ 60) (h : errL n.data.toList ≠ 0) : Calls Tryz.prog 25 #[.string n] w (Ret (.tuple #[.slice none 0 0, .int .i64 (errL n.data.toList)]) w) := by
 have H := hI (read_g n w hn)
 unfold RdPost at H
 have hc : (errL n.data.toList != 0) = true := by rw [bne_iff_ne]; exact h
 generalize errL n.data.toList = code at *
 clear h
 go_enter Tryz.func25, Tryz.ntmps25
 go_wp2_with (go_at_call 63; refine (H.out).mono ?_; rintro e w1 ⟨v1, rfl, ⟨x, a, k, c, y, a', m, e', rfl, -, -, -⟩, hb1⟩; have Hb1 := hI hb1; clear hb1)
 go_ret2
 exact ⟨rfl, Hb1.out.alloc Hb1.out.size _⟩
set_option maxHeartbeats 1000000 in
theorem iall_any (w : World) : Calls Tryz.prog 28 #[] w (RetP (fun v w' => ∃ b, v = .slice (some ⟨b, 0, none⟩) 1 1 ∧ Blk w' b #[.string ⟨#[]⟩, .string ⟨#[]⟩, .int .i64 2, .int .i64 2] 46) w) := by
 go_enter Tryz.func28, Tryz.ntmps28
 go_wp2_with fail
 go_ret
 exact ⟨_, rfl, ⟨_, rfl, Blk.new w _ _⟩, below1 w _⟩
end Go.Proofs.YtacihodamichhaaGreatDoor
namespace Go.Proofs.YtacihodamichhaaGreatDoor
open Go.RowKit
set_option maxHeartbeats 2000000 in
theorem icheck_any (v : Value) (xs : List Iv) (w : World) (h : Ivs w v xs) (hs : ∀ x ∈ xs, x.short) : Calls Tryz.prog 27 #[v] w (Ret (.int .i64 (setErr xs)) w) := by
 have H := hI (fun w' (hb : Below w.heap.size w w') => parts_g v xs w' (h.mono hb) hs)
 unfold PartsG at H
 clear h hs
 generalize setErr xs = code at *
 go_enter Tryz.func27, Tryz.ntmps27
 go_wp2_with (go_at_call 56; refine (H.out _ (Below.refl _ _)).mono ?_; rintro e w1 ⟨⟨v1, rfl, -, -⟩, hb1⟩)
 go_ret
 exact ⟨rfl, hb1⟩
end Go.Proofs.YtacihodamichhaaGreatDoor
namespace Go.Proofs.YtacihodamichhaaGreatDoor
open Go.RowKit
def shB (x : Iv) : Bool := decide (x.lo.size ≤ 60) && decide (x.hi.size ≤ 60)
def fewB (xs : List Iv) : Bool := !(decide (260 < xs.length) || (decide (8 < xs.length) && decide (xs.length < 257))) && xs.all shB
theorem few_short {xs : List Iv} (h : fewB xs = true) : ∀ x ∈ xs, x.short := by
 unfold fewB at h
 rw [Bool.and_eq_true] at h
 intro x hx
 have := List.all_eq_true.1 h.2 x hx
 unfold shB at this
 simp at this
 exact this
set_option maxHeartbeats 8000000 in
theorem few_any (v : Value) (xs : List Iv) (w : World) (h : Ivs w v xs) (hln : xs.length < 1000000) : Calls Tryz.prog 14 #[v] w (Ret (.bool (fewB xs)) w) := by
 obtain ⟨a, c, rfl, hc1, hc2⟩ := h.open
 have HX := hI h
 obtain ⟨T, hT⟩ : ∃ T, fewB xs = T := ⟨_, rfl⟩
 rw [hT]
 have HT0 := hI (show T = (!(decide (260 < xs.length) || (decide (8 < xs.length) && decide (xs.length < 257))) && xs.all shB) from hT.symm)
 generalize hn : xs.length = n at *
 have Hn := hI hn
 clear h hn hT
 by_cases h1 : 260 < n
 ·have Hfin := hI (show T = false by rw [HT0.out, decide_eq_true h1]; rfl)
  have g1 : (260 : Int) < (n : Int) := by omega
  go_enter Tryz.func14, Tryz.ntmps14
  go_wp2_with fail
  go_ret
  exact ⟨by rw [Hfin.out]; rfl, Below.refl _ _⟩
 ·have g1 : ¬ (260 : Int) < (n : Int) := by omega
  by_cases h2 : 8 < n
  ·have g2 : (8 : Int) < (n : Int) := by omega
   by_cases h3 : n < 257
   ·have Hfin := hI (show T = false by rw [HT0.out, decide_eq_true h2, decide_eq_true h3, Bool.true_and, Bool.or_true]; rfl)
    have g3 : (n : Int) < 257 := by omega
    go_enter Tryz.func14, Tryz.ntmps14
    go_wp2_with fail
    go_ret
    exact ⟨by rw [Hfin.out]; rfl, Below.refl _ _⟩
   ·have HT := hI (show T = (true && xs.all shB) by rw [HT0.out, decide_eq_false h1, decide_eq_false h3, Bool.and_false, Bool.or_false]; rfl)
    have g3 : ¬ (n : Int) < 257 := by omega
    clear h1 h2 h3 HT0
    go_enter Tryz.func14, Tryz.ntmps14
    go_wp2_with fail
    go_loopw [3] (fun i wr => wr = w ∧ ∃ k : Nat, k ≤ n ∧ i = .int .i64 (k : Int) ∧ Hid (xs.all shB = (xs.drop k).all shB)) (fun i _ => n - (intOf i).toNat)
    case atStart => exact ⟨rfl, 0, Nat.zero_le _, rfl, by unfold Hid; rw [List.drop_zero]⟩
    case round =>
     obtain ⟨rfl, k, hk, rfl, hpre⟩ := hrel
     rcases Nat.lt_or_ge k n with hlt | hge
     ·obtain ⟨b, off, x, rfl, hx, c0, c1, c2, c3⟩ := HX.out.at (Below.refl _ _) hlt
      have hkn : (k : Int) < (n : Int) := by omega
      have hk0 : (0 : Int) ≤ (k : Int) := Int.natCast_nonneg _
      have hkw : IntKind.i64.wrap ((k : Int) + 1) = (k : Int) + 1 := IntWalk.i64_in _ (by omega)
      have hpr := hpre.out
      rw [drop_nexti hx, List.all_cons] at hpr
      by_cases h1 : 60 < x.lo.size
      ·have hf : xs.all shB = false := by rw [hpr]; simp [shB]; omega
       have Hfin := hI (show T = false by rw [HT.out, hf, Bool.and_false])
       have g1 : (60 : Int) < (x.lo.size : Int) := by omega
       clear hpr hx hf
       go_wp2_with fail
       go_ret
       exact ⟨by rw [Hfin.out]; rfl, Below.refl _ _⟩
      ·have g1 : ¬ (60 : Int) < (x.lo.size : Int) := by omega
       by_cases h2 : 60 < x.hi.size
       ·have hf : xs.all shB = false := by rw [hpr]; simp [shB]; omega
        have Hfin := hI (show T = false by rw [HT.out, hf, Bool.and_false])
        have g2 : (60 : Int) < (x.hi.size : Int) := by omega
        clear hpr hx hf
        go_wp2_with fail
        go_ret
        exact ⟨by rw [Hfin.out]; rfl, Below.refl _ _⟩
       ·have g2 : ¬ (60 : Int) < (x.hi.size : Int) := by omega
        have Hnx := hI (show xs.all shB = (xs.drop (k + 1)).all shB by
         rw [hpr, show shB x = true by unfold shB; rw [decide_eq_true (by omega), decide_eq_true (by omega)]; rfl, Bool.true_and])
        clear hpr hx h1 h2
        go_wp2_with fail
        go_roundw
        case rel => exact ⟨trivial, k + 1, by omega, by go_num, Hnx.out⟩
        case measure => simp [intOf] <;> omega
     ·obtain rfl : k = n := by omega
      have hkn : ¬ (k : Int) < (k : Int) := by omega
      have Hfin := hI (show T = true by rw [HT.out, hpre.out, List.drop_of_length_le (by rw [Hn.out]; exact Nat.le_refl _)]; rfl)
      go_wp2_with fail
      go_ret
      exact ⟨by rw [Hfin.out]; rfl, Below.refl _ _⟩
  ·have g2 : ¬ (8 : Int) < (n : Int) := by omega
   have HT := hI (show T = (true && xs.all shB) by rw [HT0.out, decide_eq_false h1, decide_eq_false h2, Bool.false_and, Bool.or_false]; rfl)
   clear h1 h2 HT0
   go_enter Tryz.func14, Tryz.ntmps14
   go_wp2_with fail
   go_loopw [3] (fun i wr => wr = w ∧ ∃ k : Nat, k ≤ n ∧ i = .int .i64 (k : Int) ∧ Hid (xs.all shB = (xs.drop k).all shB)) (fun i _ => n - (intOf i).toNat)
   case atStart => exact ⟨rfl, 0, Nat.zero_le _, rfl, by unfold Hid; rw [List.drop_zero]⟩
   case round =>
    obtain ⟨rfl, k, hk, rfl, hpre⟩ := hrel
    rcases Nat.lt_or_ge k n with hlt | hge
    ·obtain ⟨b, off, x, rfl, hx, c0, c1, c2, c3⟩ := HX.out.at (Below.refl _ _) hlt
     have hkn : (k : Int) < (n : Int) := by omega
     have hk0 : (0 : Int) ≤ (k : Int) := Int.natCast_nonneg _
     have hkw : IntKind.i64.wrap ((k : Int) + 1) = (k : Int) + 1 := IntWalk.i64_in _ (by omega)
     have hpr := hpre.out
     rw [drop_nexti hx, List.all_cons] at hpr
     by_cases h1 : 60 < x.lo.size
     ·have hf : xs.all shB = false := by rw [hpr]; simp [shB]; omega
      have Hfin := hI (show T = false by rw [HT.out, hf, Bool.and_false])
      have g1 : (60 : Int) < (x.lo.size : Int) := by omega
      clear hpr hx hf
      go_wp2_with fail
      go_ret
      exact ⟨by rw [Hfin.out]; rfl, Below.refl _ _⟩
     ·have g1 : ¬ (60 : Int) < (x.lo.size : Int) := by omega
      by_cases h2 : 60 < x.hi.size
      ·have hf : xs.all shB = false := by rw [hpr]; simp [shB]; omega
       have Hfin := hI (show T = false by rw [HT.out, hf, Bool.and_false])
       have g2 : (60 : Int) < (x.hi.size : Int) := by omega
       clear hpr hx hf
       go_wp2_with fail
       go_ret
       exact ⟨by rw [Hfin.out]; rfl, Below.refl _ _⟩
      ·have g2 : ¬ (60 : Int) < (x.hi.size : Int) := by omega
       have Hnx := hI (show xs.all shB = (xs.drop (k + 1)).all shB by
        rw [hpr, show shB x = true by unfold shB; rw [decide_eq_true (by omega), decide_eq_true (by omega)]; rfl, Bool.true_and])
       clear hpr hx h1 h2
       go_wp2_with fail
       go_roundw
       case rel => exact ⟨trivial, k + 1, by omega, by go_num, Hnx.out⟩
       case measure => simp [intOf] <;> omega
    ·obtain rfl : k = n := by omega
     have hkn : ¬ (k : Int) < (k : Int) := by omega
     have Hfin := hI (show T = true by rw [HT.out, hpre.out, List.drop_of_length_le (by rw [Hn.out]; exact Nat.le_refl _)]; rfl)
     go_wp2_with fail
     go_ret
     exact ⟨by rw [Hfin.out]; rfl, Below.refl _ _⟩
end Go.Proofs.YtacihodamichhaaGreatDoor
namespace Go.Proofs.YtacihodamichhaaGreatDoor
open Go.RowKit
set_option maxHeartbeats 1000000 in
theorem few_long (v : Value) (xs : List Iv) (w : World) (h : Ivs w v xs) (hn : 260 < xs.length) : Calls Tryz.prog 14 #[v] w (Ret (.bool false) w) := by
 obtain ⟨a, c, rfl, hc1, hc2⟩ := h.open
 clear h
 generalize xs.length = n at *
 have g1 : (260 : Int) < (n : Int) := by omega
 go_enter Tryz.func14, Tryz.ntmps14
 go_wp2_with fail
 go_ret
 exact ⟨rfl, Below.refl _ _⟩
theorem few_all (v : Value) (xs : List Iv) (w : World) (h : Ivs w v xs) : Calls Tryz.prog 14 #[v] w (Ret (.bool (fewB xs)) w) := by
 rcases Nat.lt_or_ge 260 xs.length with hn | hn
 ·rw [show fewB xs = false by unfold fewB; rw [decide_eq_true hn]; rfl]
  exact few_long v xs w h hn
 ·exact few_any v xs w h (by omega)
end Go.Proofs.YtacihodamichhaaGreatDoor
