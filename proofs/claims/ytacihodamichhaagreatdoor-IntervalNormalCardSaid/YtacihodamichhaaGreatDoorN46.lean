/-
  IntervalNormal's card: the row, the ties, the witness. For every list of intervals and every number the law returns true.
  Conditions: none beyond the row's own (any world; the package-level variables that the law reaches as the card names them).
-/
import Derived.Test.YtacihodamichhaaGreatDoorCards
import Derived.Test.YtacihodamichhaaGreatDoorTie
import Derived.OpenShut
import Derived.LaidMore
import Derived.Lay
import Derived.SevenTiedAt
import Derived.Test.YtacihodamichhaaGreatDoorN45
namespace Go.Proofs.YtacihodamichhaaGreatDoor
open Go.RowKit
theorem nm_check (n : ByteArray) (w : World) (hn : n.size ≤ 60) : Calls Tryz.prog 21 #[.string n, .int .i64 65536] w (Ret (.int .i64 (errL n.data.toList)) w) := by
 have H := qcheck_any n.data.toList w (by rw [← Lib.size_eq]; exact hn)
 rwa [← bytes_of (s := n) rfl] at H
theorem norm_good {xs : List Iv} (hs : ∀ x ∈ xs, x.short) (he : normErr xs = 0) : (∀ x ∈ normL xs, x.short) ∧ setErr (normL xs) = 0 := by
 have hn : xs.length ≤ 256 := by
  unfold normErr at he
  split at he
  ·cases he
  ·omega
 obtain ⟨J, hJ, -⟩ := norm_set hs hn
 exact ⟨hJ.short, hJ.err⟩
theorem normL_len {xs : List Iv} (hs : ∀ x ∈ xs, x.short) : (normL xs).length ≤ 256 := by
 rcases Nat.lt_or_ge 256 xs.length with h | h
 ·rw [norm_nil (by unfold normErr; rw [if_pos h]; decide)]; simp
 ·obtain ⟨J, hJ, hl⟩ := norm_set hs h
  rw [hJ.length]; omega
set_option maxHeartbeats 8000000 in
set_option maxRecDepth 10000 in
theorem normals_any (v : Value) (xs : List Iv) (n : ByteArray) (w : World) (h : Ivs w v xs) : Calls Tryz.prog 4 #[v, .string n] w (Ret (.bool true) w) := by
 have HK := hI (fun w' => known_true w')
 have HF := hI (fun w' (hb : Below w.heap.size w w') => few_all v xs w' (h.mono hb))
 obtain ⟨a, c, rfl, hc1, hc2⟩ := h.open
 cases hf : fewB xs with
 | false =>
  rw [hf] at HF
  clear h hf
  generalize xs.length = m at *
  go_enter Tryz.func4, Tryz.ntmps4
  go_wp2_with (first
   | (go_at_call 14; refine (HF.out _ Hb1.out).mono ?_; rintro e w2 ⟨rfl, hb2⟩; have Hb2 := hI (bw_via Hb1.out hb2); clear hb2)
   | (go_at_call 13; have _t := Hb2; clear _t; refine (HK.out _).mono ?_; rintro e w3 ⟨rfl, hb3⟩; have Hb3 := hI (bw_via Hb2.out hb3); clear hb3)
   | (go_at_call 13; refine (HK.out _).mono ?_; rintro e w1 ⟨rfl, hb1⟩; have Hb1 := hI hb1; clear hb1))
  go_ret
  exact ⟨rfl, Hb3.out⟩
 | true =>
  have hs := few_short hf
  rw [hf] at HF
  rcases Nat.lt_or_ge 60 n.size with hn | hn
  ·have hn2 : (60 : Int) < (n.size : Int) := by omega
   clear h hf hs hn
   generalize xs.length = m at *
   go_enter Tryz.func4, Tryz.ntmps4
   go_wp2_with (first
    | (go_at_call 14; refine (HF.out _ Hb1.out).mono ?_; rintro e w2 ⟨rfl, hb2⟩; have Hb2 := hI (bw_via Hb1.out hb2); clear hb2)
    | (go_at_call 13; have _t := Hb2; clear _t; refine (HK.out _).mono ?_; rintro e w3 ⟨rfl, hb3⟩; have Hb3 := hI (bw_via Hb2.out hb3); clear hb3)
    | (go_at_call 13; refine (HK.out _).mono ?_; rintro e w1 ⟨rfl, hb1⟩; have Hb1 := hI hb1; clear hb1))
   go_ret
   exact ⟨rfl, Hb3.out⟩
  ·have hn2 : ¬ (60 : Int) < (n.size : Int) := by omega
   have HN := hI (fun w' (hb : Below w.heap.size w w') => inormal_eq _ xs w' (h.mono hb) hs)
   have HR := hI (fun w' (hb : Below w.heap.size w w') => rnormal_any _ xs w' (h.mono hb) hs)
   have HCk := hI (fun w' => nm_check n w' hn)
   have HSa := hI (fun u v ys w' hx hy hl => same_true u v ys w' hx hy hl)
   have HAl := hI (fun w' => iall_any w')
   have HBt := hI (fun lo hi le he w' => between_any lo hi le he w')
   have Hle := hI (Nat.le_trans (normL_len hs) (show 256 ≤ 1000 by decide))
   have Hl1 := hI (show (1 : Nat) ≤ 1000 by omega)
   have hgood := fun he => norm_good (xs := xs) hs he
   unfold NormP at HN HR
   by_cases hr : errL n.data.toList = 0
   ·have HSi := hI (fun w' => isingle_ok n w' hn hr)
    rw [hr] at HCk
    by_cases he : normErr xs = 0
    ·obtain ⟨hsh, hse⟩ := hgood he
     have HCh := hI (fun v' w' (h' : Ivs w' v' (normL xs)) => icheck_any v' (normL xs) w' h' hsh)
     rw [hse] at HCh
     rw [he] at HN HR
     generalize normL xs = S at *
     clear h hs hf hn hgood hr he hsh hse
     generalize xs.length = m at *
     go_enter Tryz.func4, Tryz.ntmps4
     go_wp2_with (first
      | (have _t := Hb12; clear _t; go_at_call 26; refine (HSa.out _ _ [(⟨n, n, 1, 1⟩ : Iv)] _ (ivs_one (x := ⟨n, n, 1, 1⟩) (HB12.out.old _)) (ivs_one (x := ⟨n, n, 1, 1⟩) (Blk.new w12 _ _)) Hl1.out).mono ?_; rintro e w13 ⟨rfl, hb13⟩; have Hb13 := hI (bw_via (bwA Hb12.out _) hb13); clear hb13)
      | (have _t := Hb11; clear _t; go_at_call 29; refine (HBt.out _ _ _ _ _).mono ?_; rintro e w12 ⟨rfl, hb12⟩; have Hb12 := hI (bw_via Hb11.out hb12); have HB12 := hI (HB5.out.below (bw_via Hd11.out hb12)); clear hb12)
      | (go_at_call 21; have _t := Hb10; clear _t; refine (HCk.out _).mono ?_; rintro e w11 ⟨rfl, hb11⟩; have Hb11 := hI (bw_via Hb10.out hb11); have Hd11 := hI (bw_via Hd10.out hb11); clear hb11)
      | (have _t := Hb9; clear _t; go_at_call 26; refine (HSa.out _ _ [(⟨⟨#[]⟩, ⟨#[]⟩, 2, 2⟩ : Iv)] _ (ivs_one (x := ⟨⟨#[]⟩, ⟨#[]⟩, 2, 2⟩) (HB9.out.old _)) (ivs_one (x := ⟨⟨#[]⟩, ⟨#[]⟩, 2, 2⟩) (Blk.new w9 _ _)) Hl1.out).mono ?_; rintro e w10 ⟨rfl, hb10⟩; have Hb10 := hI (bw_via (bwA Hb9.out _) hb10); have Hd10 := hI (bw_via (bwA Hd9.out _) hb10); clear hb10)
      | (have _t := Hb8; clear _t; go_at_call 29; refine (HBt.out _ _ _ _ _).mono ?_; rintro e w9 ⟨rfl, hb9⟩; have Hb9 := hI (bw_via Hb8.out hb9); have Hd9 := hI (bw_via Hd8.out hb9); have HB9 := hI (HB8.out.below hb9); clear hb9)
      | (go_at_call 28; refine (HAl.out _).mono ?_; rintro e w8 ⟨v8, rfl, ⟨b8, rfl, hB8⟩, hb8⟩; have Hb8 := hI (bw_via Hb7.out hb8); have Hd8 := hI (bw_via Hd7.out hb8); have HB8 := hI hB8; clear hB8 hb8)
      | (go_at_call 27; refine (HCh.out _ _ Hi36.out).mono ?_; rintro e w7 ⟨rfl, hb7⟩; have Hb7 := hI (bw_via Hb6.out hb7); have Hd7 := hI (bw_via Hd6.out hb7); clear hb7)
      | (go_at_call 26; refine (HSa.out _ _ S _ Hi35.out Hi45.out Hle.out).mono ?_; rintro e w6 ⟨rfl, hb6⟩; have Hb6 := hI (bw_via Hb5.out hb6); have Hd6 := hI hb6; have Hi36 := hI (Hi35.out.mono hb6); clear hb6)
      | (go_at_call 25; refine (HSi.out _).mono ?_; rintro e w5 ⟨v5, rfl, ⟨b5, rfl, hB5⟩, hb5⟩; have Hb5 := hI (bw_via Hb4.out hb5); have Hi35 := hI (Hi34.out.mono hb5); have Hi45 := hI (Hi4.out.mono hb5); have HB5 := hI hB5; clear hB5 hb5)
      | (go_at_call 24; refine (HR.out _ Hb3.out).mono ?_; rintro e w4 ⟨v4, rfl, ⟨a4, c4, rfl, hiv4⟩, hb4⟩; have Hb4 := hI (bw_via Hb3.out hb4); have Hi34 := hI (Hi3.out.mono hb4); have Hi4 := hI hiv4; clear hiv4 hb4)
      | (go_at_call 23; refine (HN.out _ Hb2.out).mono ?_; rintro e w3 ⟨v3, rfl, ⟨a3, c3, rfl, hiv3⟩, hb3⟩; have Hb3 := hI (bw_via Hb2.out hb3); have Hi3 := hI hiv3; clear hiv3 hb3)
      | (go_at_call 14; refine (HF.out _ Hb1.out).mono ?_; rintro e w2 ⟨rfl, hb2⟩; have Hb2 := hI (bw_via Hb1.out hb2); clear hb2)
      | (go_at_call 13; refine (HK.out _).mono ?_; rintro e w1 ⟨rfl, hb1⟩; have Hb1 := hI hb1; clear hb1))
     go_ret
     exact ⟨rfl, Hb13.out⟩
    ·have he2 : (normErr xs == 0) = false := by simpa using he
     have he3 : (normErr xs != normErr xs) = false := by simp
     generalize normErr xs = E at *
     generalize normL xs = S at *
     clear h hs hf hn hgood hr he
     generalize xs.length = m at *
     go_enter Tryz.func4, Tryz.ntmps4
     go_wp2_with (first
      | (have _t := Hb12; clear _t; go_at_call 26; refine (HSa.out _ _ [(⟨n, n, 1, 1⟩ : Iv)] _ (ivs_one (x := ⟨n, n, 1, 1⟩) (HB12.out.old _)) (ivs_one (x := ⟨n, n, 1, 1⟩) (Blk.new w12 _ _)) Hl1.out).mono ?_; rintro e w13 ⟨rfl, hb13⟩; have Hb13 := hI (bw_via (bwA Hb12.out _) hb13); clear hb13)
      | (have _t := Hb11; clear _t; go_at_call 29; refine (HBt.out _ _ _ _ _).mono ?_; rintro e w12 ⟨rfl, hb12⟩; have Hb12 := hI (bw_via Hb11.out hb12); have HB12 := hI (HB5.out.below (bw_via Hd11.out hb12)); clear hb12)
      | (go_at_call 21; have _t := Hb10; clear _t; refine (HCk.out _).mono ?_; rintro e w11 ⟨rfl, hb11⟩; have Hb11 := hI (bw_via Hb10.out hb11); have Hd11 := hI (bw_via Hd10.out hb11); clear hb11)
      | (have _t := Hb9; clear _t; go_at_call 26; refine (HSa.out _ _ [(⟨⟨#[]⟩, ⟨#[]⟩, 2, 2⟩ : Iv)] _ (ivs_one (x := ⟨⟨#[]⟩, ⟨#[]⟩, 2, 2⟩) (HB9.out.old _)) (ivs_one (x := ⟨⟨#[]⟩, ⟨#[]⟩, 2, 2⟩) (Blk.new w9 _ _)) Hl1.out).mono ?_; rintro e w10 ⟨rfl, hb10⟩; have Hb10 := hI (bw_via (bwA Hb9.out _) hb10); have Hd10 := hI (bw_via (bwA Hd9.out _) hb10); clear hb10)
      | (have _t := Hb8; clear _t; go_at_call 29; refine (HBt.out _ _ _ _ _).mono ?_; rintro e w9 ⟨rfl, hb9⟩; have Hb9 := hI (bw_via Hb8.out hb9); have Hd9 := hI (bw_via Hd8.out hb9); have HB9 := hI (HB8.out.below hb9); clear hb9)
      | (go_at_call 28; refine (HAl.out _).mono ?_; rintro e w8 ⟨v8, rfl, ⟨b8, rfl, hB8⟩, hb8⟩; have Hb8 := hI (bw_via Hb6.out hb8); have Hd8 := hI (bw_via Hd6.out hb8); have HB8 := hI hB8; clear hB8 hb8)
      | (go_at_call 26; refine (HSa.out _ _ S _ Hi35.out Hi45.out Hle.out).mono ?_; rintro e w6 ⟨rfl, hb6⟩; have Hb6 := hI (bw_via Hb5.out hb6); have Hd6 := hI hb6; have Hi36 := hI (Hi35.out.mono hb6); clear hb6)
      | (go_at_call 25; refine (HSi.out _).mono ?_; rintro e w5 ⟨v5, rfl, ⟨b5, rfl, hB5⟩, hb5⟩; have Hb5 := hI (bw_via Hb4.out hb5); have Hi35 := hI (Hi34.out.mono hb5); have Hi45 := hI (Hi4.out.mono hb5); have HB5 := hI hB5; clear hB5 hb5)
      | (go_at_call 24; refine (HR.out _ Hb3.out).mono ?_; rintro e w4 ⟨v4, rfl, ⟨a4, c4, rfl, hiv4⟩, hb4⟩; have Hb4 := hI (bw_via Hb3.out hb4); have Hi34 := hI (Hi3.out.mono hb4); have Hi4 := hI hiv4; clear hiv4 hb4)
      | (go_at_call 23; refine (HN.out _ Hb2.out).mono ?_; rintro e w3 ⟨v3, rfl, ⟨a3, c3, rfl, hiv3⟩, hb3⟩; have Hb3 := hI (bw_via Hb2.out hb3); have Hi3 := hI hiv3; clear hiv3 hb3)
      | (go_at_call 14; refine (HF.out _ Hb1.out).mono ?_; rintro e w2 ⟨rfl, hb2⟩; have Hb2 := hI (bw_via Hb1.out hb2); clear hb2)
      | (go_at_call 13; refine (HK.out _).mono ?_; rintro e w1 ⟨rfl, hb1⟩; have Hb1 := hI hb1; clear hb1))
     go_ret
     exact ⟨rfl, Hb13.out⟩
   ·have HSi := hI (fun w' => isingle_err n w' hn hr)
    have hr2 : (errL n.data.toList != 0) = true := by rw [bne_iff_ne]; exact hr
    have hr3 : (errL n.data.toList == errL n.data.toList) = true := by simp
    generalize errL n.data.toList = code at *
    by_cases he : normErr xs = 0
    ·obtain ⟨hsh, hse⟩ := hgood he
     have HCh := hI (fun v' w' (h' : Ivs w' v' (normL xs)) => icheck_any v' (normL xs) w' h' hsh)
     rw [hse] at HCh
     rw [he] at HN HR
     generalize normL xs = S at *
     clear h hs hf hn hgood hr he hsh hse
     generalize xs.length = m at *
     go_enter Tryz.func4, Tryz.ntmps4
     go_wp2_with (first
      | (go_at_call 21; have _t := Hb10; clear _t; refine (HCk.out _).mono ?_; rintro e w11 ⟨rfl, hb11⟩; have Hb11 := hI (bw_via Hb10.out hb11); have Hd11 := hI (bw_via Hd10.out hb11); clear hb11)
      | (have _t := Hb9; clear _t; go_at_call 26; refine (HSa.out _ _ [(⟨⟨#[]⟩, ⟨#[]⟩, 2, 2⟩ : Iv)] _ (ivs_one (x := ⟨⟨#[]⟩, ⟨#[]⟩, 2, 2⟩) (HB9.out.old _)) (ivs_one (x := ⟨⟨#[]⟩, ⟨#[]⟩, 2, 2⟩) (Blk.new w9 _ _)) Hl1.out).mono ?_; rintro e w10 ⟨rfl, hb10⟩; have Hb10 := hI (bw_via (bwA Hb9.out _) hb10); have Hd10 := hI (bw_via (bwA Hd9.out _) hb10); clear hb10)
      | (have _t := Hb8; clear _t; go_at_call 29; refine (HBt.out _ _ _ _ _).mono ?_; rintro e w9 ⟨rfl, hb9⟩; have Hb9 := hI (bw_via Hb8.out hb9); have Hd9 := hI (bw_via Hd8.out hb9); have HB9 := hI (HB8.out.below hb9); clear hb9)
      | (go_at_call 28; refine (HAl.out _).mono ?_; rintro e w8 ⟨v8, rfl, ⟨b8, rfl, hB8⟩, hb8⟩; have Hb8 := hI (bw_via Hb7.out hb8); have Hd8 := hI (bw_via Hd7.out hb8); have HB8 := hI hB8; clear hB8 hb8)
      | (go_at_call 27; refine (HCh.out _ _ Hi36.out).mono ?_; rintro e w7 ⟨rfl, hb7⟩; have Hb7 := hI (bw_via Hb6.out hb7); have Hd7 := hI (bw_via Hd6.out hb7); clear hb7)
      | (go_at_call 26; refine (HSa.out _ _ S _ Hi35.out Hi45.out Hle.out).mono ?_; rintro e w6 ⟨rfl, hb6⟩; have Hb6 := hI (bw_via Hb5.out hb6); have Hd6 := hI hb6; have Hi36 := hI (Hi35.out.mono hb6); clear hb6)
      | (go_at_call 25; refine (HSi.out _).mono ?_; rintro e w5 ⟨rfl, hb5⟩; have Hb5 := hI (bw_via Hb4.out hb5); have Hi35 := hI (Hi34.out.mono hb5); have Hi45 := hI (Hi4.out.mono hb5); clear hb5)
      | (go_at_call 24; refine (HR.out _ Hb3.out).mono ?_; rintro e w4 ⟨v4, rfl, ⟨a4, c4, rfl, hiv4⟩, hb4⟩; have Hb4 := hI (bw_via Hb3.out hb4); have Hi34 := hI (Hi3.out.mono hb4); have Hi4 := hI hiv4; clear hiv4 hb4)
      | (go_at_call 23; refine (HN.out _ Hb2.out).mono ?_; rintro e w3 ⟨v3, rfl, ⟨a3, c3, rfl, hiv3⟩, hb3⟩; have Hb3 := hI (bw_via Hb2.out hb3); have Hi3 := hI hiv3; clear hiv3 hb3)
      | (go_at_call 14; refine (HF.out _ Hb1.out).mono ?_; rintro e w2 ⟨rfl, hb2⟩; have Hb2 := hI (bw_via Hb1.out hb2); clear hb2)
      | (go_at_call 13; refine (HK.out _).mono ?_; rintro e w1 ⟨rfl, hb1⟩; have Hb1 := hI hb1; clear hb1))
     go_ret
     exact ⟨rfl, Hb11.out⟩
    ·have he2 : (normErr xs == 0) = false := by simpa using he
     have he3 : (normErr xs != normErr xs) = false := by simp
     generalize normErr xs = E at *
     generalize normL xs = S at *
     clear h hs hf hn hgood hr he
     generalize xs.length = m at *
     go_enter Tryz.func4, Tryz.ntmps4
     go_wp2_with (first
      | (go_at_call 21; have _t := Hb10; clear _t; refine (HCk.out _).mono ?_; rintro e w11 ⟨rfl, hb11⟩; have Hb11 := hI (bw_via Hb10.out hb11); have Hd11 := hI (bw_via Hd10.out hb11); clear hb11)
      | (have _t := Hb9; clear _t; go_at_call 26; refine (HSa.out _ _ [(⟨⟨#[]⟩, ⟨#[]⟩, 2, 2⟩ : Iv)] _ (ivs_one (x := ⟨⟨#[]⟩, ⟨#[]⟩, 2, 2⟩) (HB9.out.old _)) (ivs_one (x := ⟨⟨#[]⟩, ⟨#[]⟩, 2, 2⟩) (Blk.new w9 _ _)) Hl1.out).mono ?_; rintro e w10 ⟨rfl, hb10⟩; have Hb10 := hI (bw_via (bwA Hb9.out _) hb10); have Hd10 := hI (bw_via (bwA Hd9.out _) hb10); clear hb10)
      | (have _t := Hb8; clear _t; go_at_call 29; refine (HBt.out _ _ _ _ _).mono ?_; rintro e w9 ⟨rfl, hb9⟩; have Hb9 := hI (bw_via Hb8.out hb9); have Hd9 := hI (bw_via Hd8.out hb9); have HB9 := hI (HB8.out.below hb9); clear hb9)
      | (go_at_call 28; refine (HAl.out _).mono ?_; rintro e w8 ⟨v8, rfl, ⟨b8, rfl, hB8⟩, hb8⟩; have Hb8 := hI (bw_via Hb6.out hb8); have Hd8 := hI (bw_via Hd6.out hb8); have HB8 := hI hB8; clear hB8 hb8)
      | (go_at_call 26; refine (HSa.out _ _ S _ Hi35.out Hi45.out Hle.out).mono ?_; rintro e w6 ⟨rfl, hb6⟩; have Hb6 := hI (bw_via Hb5.out hb6); have Hd6 := hI hb6; have Hi36 := hI (Hi35.out.mono hb6); clear hb6)
      | (go_at_call 25; refine (HSi.out _).mono ?_; rintro e w5 ⟨rfl, hb5⟩; have Hb5 := hI (bw_via Hb4.out hb5); have Hi35 := hI (Hi34.out.mono hb5); have Hi45 := hI (Hi4.out.mono hb5); clear hb5)
      | (go_at_call 24; refine (HR.out _ Hb3.out).mono ?_; rintro e w4 ⟨v4, rfl, ⟨a4, c4, rfl, hiv4⟩, hb4⟩; have Hb4 := hI (bw_via Hb3.out hb4); have Hi34 := hI (Hi3.out.mono hb4); have Hi4 := hI hiv4; clear hiv4 hb4)
      | (go_at_call 23; refine (HN.out _ Hb2.out).mono ?_; rintro e w3 ⟨v3, rfl, ⟨a3, c3, rfl, hiv3⟩, hb3⟩; have Hb3 := hI (bw_via Hb2.out hb3); have Hi3 := hI hiv3; clear hiv3 hb3)
      | (go_at_call 14; refine (HF.out _ Hb1.out).mono ?_; rintro e w2 ⟨rfl, hb2⟩; have Hb2 := hI (bw_via Hb1.out hb2); clear hb2)
      | (go_at_call 13; refine (HK.out _).mono ?_; rintro e w1 ⟨rfl, hb1⟩; have Hb1 := hI hb1; clear hb1))
     go_ret
     exact ⟨rfl, Hb11.out⟩
end Go.Proofs.YtacihodamichhaaGreatDoor
namespace Go.Proofs.YtacihodamichhaaGreatDoor
open Go.ChangeShapes Go.WideShapes Go.ChangeAt Go.RowKit
theorem own : ownKnob Tryz.prog.godebug = none := by kernel_rfl
set_option maxRecDepth 100000 in
theorem lifted (os : Os) (started : os.Started) (H : Type) (enc : TypeId × Value → H) :
  ReturnsInHanded {} Tryz.checked os 4 .any (fun w args => (Rows.intervalNormalSpec.pre enc Tryz.prog Tryz.f4 [] false w args ∧ laidMetH Tryz.prog Rows.intervalNormalRow.laid w) ∧ sizedMet enc Tryz.prog Tryz.f4 (OpenSpec.ofChange Rows.intervalNormalSpec) false w args)
   (Rows.intervalNormalSpec.post enc Tryz.prog Tryz.f4 false true false false) := by
 refine returnsInHanded_of_change_and (C := Tryz.checked) (X := fun w _ => laidMetH Tryz.prog Rows.intervalNormalRow.laid w) (fun _ _ _ hh h => h.of_heap hh) own started (by kernel_rfl) Tryz.func4
  (ChangeSpec.witness_shaped (enc := enc) (C := Tryz.checked) (os := os) (X := fun w _ => laidMetH Tryz.prog Rows.intervalNormalRow.laid w) false (World.laidAll Tryz.prog os Rows.intervalNormalRow.laid) #[.slice none 0 0, .string ⟨#[]⟩] 8 (World.laidAll_os _ _ _)
   (World.shaped_of_ZipB (by kernel_rfl) (by kernel_rfl)) (by kernel_rfl) (by kernel_rfl) (by kernel_rfl)
   (by rw [MakeChecks.laidMetH_plain _ _ _ (by kernel_rfl)]; exact laidMet_laidAll _ (by kernel_rfl) (by kernel_rfl))) ?_
 intro W base args ds gs before hval0 hW _ _ hL _
 have hval : ∀ (j : Nat) t v, Tryz.f4.params[j]? = some t → args[j]? = some v → Value.okWide Tryz.prog W .any base t v := hval0
 have hW' := hW
 obtain ⟨p, q, hA0, hV, rfl, _, _⟩ := hW
 have hA : DataW.TrodAll enc Tryz.prog W 0 (fun _ => true) true Tryz.f4.params.toList args.toList ds p := hA0
 rw [Tryz.params4] at hA hval
 obtain ⟨v0, v1, d0, d1, p0, p1, rfl, rfl, rfl, h0, h1⟩ := trodAll_two hA
 obtain ⟨rfl, rfl⟩ := trodVars_none hV
 obtain ⟨x0, hx0⟩ := ivs_of_trod (hval 0 22 v0 rfl rfl) h0
 obtain ⟨n1, rfl⟩ := okWide_string Tryz.underlying23 (hval 1 23 v1 rfl rfl)
 simp only [List.append_nil] at hW'
 refine (normals_any v0 x0 n1 W hx0).mono fun e W' ⟨he, hb⟩ => ?_
 subst he
 refine ⟨_, rfl, post_of_below (pa := p0 ++ p1) (pv := []) hW' (fun _ _ _ => trodAll_mk1 (shut_bool Tryz.underlying4 true)) (fun sp hsp => ?_) (fun _ _ => rfl) (by simp) hb (ok_one (by kernel_rfl) rfl (okWide_bool_mk Tryz.underlying4 true))⟩
 have hlt : ∀ x ∈ p0 ++ p1, x.block < W.heap.size := fun x hx => hW'.lt x hx
 exact trodAll_mk2 (WideElems.Trod_stays try_laidOut (by kernel_rfl) (of_decide_eq_true (by kernel_rfl)) h0 (fun x hx => hb.same (hlt x (by simp [hx]))) (fun x hx => hsp x (by simp [hx])))
  (WideElems.Trod_stays try_laidOut (by kernel_rfl) (of_decide_eq_true (by kernel_rfl)) h1 (fun x hx => hb.same (hlt x (by simp [hx]))) (fun x hx => hsp x (by simp [hx])))
theorem fact1 : (Rows.intervalNormalRow.inPlace == Tryz.prog.inPlace 4) = true := by kernel_rfl
theorem fact2 : (Rows.intervalNormalRow.unfollowed == Tryz.prog.unfollowed 4) = true := by kernel_rfl
theorem fact3 : (Rows.intervalNormalRow.recurses == Tryz.prog.recurses 4) = true := by kernel_rfl
theorem fact4 : (Rows.intervalNormalRow.named == Tryz.prog.varsNamed 4) = true := by kernel_rfl
theorem facts : joinedFacts Tryz.prog 4 Tryz.f4 Rows.intervalNormalSpec Rows.intervalNormalRow = true := by
 unfold joinedFacts
 rw [fact1, fact2, fact3, fact4]
 kernel_rfl
theorem holds : Rows.IntervalNormalSaid :=
 OpenClaim.holds_of_wide 4 Tryz.f4 rfl rfl rfl rfl rfl rfl rfl ⟨rfl, rfl, rfl, rfl, rfl⟩ rfl rfl rfl rfl rfl (by kernel_rfl) Tryz.func4 facts
  (of_decide_eq_true (by kernel_rfl)) (by unfold Func.isWrapper; first | (rw [if_pos (by decide +kernel)]; kernel_rfl) | (rw [if_neg (by decide +kernel)]; exact ⟨rfl, rfl⟩))
  (fun os started H enc _ => lifted os started H enc)
theorem card_holds : Rows.IntervalNormalCardSaid :=
 Claim7.holds_tied_plain_at .later [] [.data, .data, .data, .data, .sentinel, .sentinel, .pinned] true (true, "de555170af92a675662fc8c55259e069d37d98ebe2ca20e51011936a24d26fa3") true holds (fun _ h => by cases h) (by kernel_rfl) (fun _ h => by cases h) intervalNormal_row_tie rfl ⟨rfl, rfl⟩ (by kernel_rfl) rfl
  (fun f fn hf hfn => by
   obtain rfl : f = 4 := Option.some.inj ((show Tryz.prog.funcNamed Tryz.f4.name = some 4 by kernel_rfl).symm.trans hf) |>.symm
   obtain rfl : fn = Tryz.f4 := (Option.some.inj (Tryz.func4.symm.trans hfn)).symm
   exact ⟨by kernel_rfl, fun j t ht => by
    rw [Tryz.params4] at ht
    have hm : t ∈ [22, 23] := by simpa using Array.mem_of_getElem? ht
    have hall : ([22, 23].all fun u => !Tryz.prog.wantsStandIn u) = true := by kernel_rfl
    exact (show Tryz.prog.wantsStandIn t = false by simpa using List.all_eq_true.1 hall t hm)⟩)
  (by kernel_rfl)
end Go.Proofs.YtacihodamichhaaGreatDoor
