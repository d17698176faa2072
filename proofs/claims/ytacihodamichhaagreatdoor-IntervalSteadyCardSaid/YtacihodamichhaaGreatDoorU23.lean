/-
  Parts of the proof: Known, Tx, Dten, Rt.
-/
import Derived.Laws.RangeString
import Derived.Test.YtacihodamichhaaGreatDoorU17
import Derived.Test.YtacihodamichhaaGreatDoorU21
import Derived.Test.YtacihodamichhaaGreatDoorU22
namespace Go.Proofs.YtacihodamichhaaGreatDoor
open Go.RowKit
theorem txt_m1 : (⟨(textI (-1)).toArray⟩ : ByteArray) = ⟨#[45, 49]⟩ := by decide +kernel
theorem txt_m3 : (⟨(textI (-3)).toArray⟩ : ByteArray) = ⟨#[45, 51]⟩ := by decide +kernel
theorem txt_32 : (⟨(textI 3).toArray⟩ ++ ⟨#[47]⟩ ++ ⟨(textI 2).toArray⟩ : ByteArray) = ⟨#[51, 47, 50]⟩ := by decide +kernel
theorem v_m2 : val ⟨#[45, 50]⟩ = -2 := by decide
theorem norm_c (b : Nat) (W : World) (hB : Blk W b #[.string ⟨#[50]⟩, .string ⟨#[51]⟩, .int .i64 1, .int .i64 0, .string ⟨#[48]⟩, .string ⟨#[49]⟩, .int .i64 0, .int .i64 1, .string ⟨#[49]⟩, .string ⟨#[50]⟩, .int .i64 0, .int .i64 0] 46) : Calls Tryz.prog 23 #[.slice (some ⟨b, 0, none⟩) 3 3] W (RetP (fun v w' => ∃ a c, v = .tuple #[.slice a 1 c, .int .i64 0] ∧ Ivs w' (.slice a 1 c) [⟨⟨#[48]⟩, ⟨#[51]⟩, 0, 0⟩]) W) :=
 normal_chain (.slice (some ⟨b, 0, none⟩) 3 3) xsN W (Ivs.blk xsN hB rfl rfl (by decide)) ok_N lh_N (by decide) (by decide) ⟨0, ⟨#[48]⟩, 1⟩ ⟨0, ⟨#[51]⟩, -1⟩ chain_N
theorem compl_c (b : Nat) (W : World) (hB : Blk W b #[.string ⟨#[48]⟩, .string ⟨#[49]⟩, .int .i64 0, .int .i64 1] 46) : Calls Tryz.prog 35 #[.slice (some ⟨b, 0, none⟩) 1 1] W (RetP (fun r w' => ∃ a c, r = .tuple #[.slice a 2 c, .int .i64 0] ∧ Ivs w' (.slice a 2 c) xsC) W) :=
 compl_known _ W (Ivs.blk xs1 hB rfl rfl (by decide))
theorem pick_c (b : Nat) (W : World) (hB : Blk W b #[.string ⟨#[49]⟩, .string ⟨#[50]⟩, .int .i64 0, .int .i64 0] 46) : Calls Tryz.prog 18 #[.slice (some ⟨b, 0, none⟩) 1 1] W (Ret (.tuple #[.string ⟨#[51, 47, 50]⟩, .bool true, .int .i64 0]) W) := by
 have := pick_open _ ⟨#[49]⟩ ⟨#[50]⟩ W (Ivs.blk [⟨⟨#[49]⟩, ⟨#[50]⟩, 0, 0⟩] hB rfl rfl (by decide)) wt_1 wt_2 v_1 v_2
 rw [txt_32] at this
 exact this
theorem map_c (b : Nat) (W : World) (hB : Blk W b #[.string ⟨#[49]⟩, .string ⟨#[50]⟩, .int .i64 0, .int .i64 1] 46) : Calls Tryz.prog 33 #[.slice (some ⟨b, 0, none⟩) 1 1, .string ⟨#[45, 50]⟩, .string ⟨#[49]⟩] W (RetP (fun v w' => ∃ a c, v = .tuple #[.slice a 1 c, .int .i64 0] ∧ Ivs w' (.slice a 1 c) [⟨⟨#[45, 51]⟩, ⟨#[45, 49]⟩, 1, 0⟩]) W) := by
 have h1 := wt_1
 have h2 := wt_2
 have hm := wt_m2
 rw [v_1] at h1
 rw [v_2] at h2
 rw [v_m2] at hm
 have := map_known _ W (Ivs.blk [⟨⟨#[49]⟩, ⟨#[50]⟩, 0, 1⟩] hB rfl rfl (by decide)) h1 h2 hm v_1 v_2
 rw [txt_m1, txt_m3] at this
 exact this
set_option maxHeartbeats 16000000 in
set_option maxRecDepth 10000 in
theorem known_true (w : World) : Calls Tryz.prog 13 #[] w (Ret (.bool true) w) := by
 have HBt := hI (fun lo hi le he w' => between_any lo hi le he w')
 have HNo := hI (fun b W hB => norm_c b W hB)
 have HCo := hI (fun b W hB => compl_c b W hB)
 have HNx := hI (fun u W h => next_known u W h)
 have HPi := hI (fun b W hB => pick_c b W hB)
 have HMa := hI (fun b W hB => map_c b W hB)
 have HSa := hI (fun u v xs W hx hy hn => same_true u v xs W hx hy hn)
 go_enter Tryz.func13, Tryz.ntmps13
 go_wp2_with (first
  | (go_at_call 26; have _t := H17; clear _t; refine (HSa.out _ _ [⟨⟨#[45, 51]⟩, ⟨#[45, 49]⟩, 1, 0⟩] _ (I11.out.mono (below1 w17 (.cells #[.string ⟨#[45, 51]⟩, .string ⟨#[45, 49]⟩, .int .i64 1, .int .i64 0] 46))) (Ivs.blk [⟨⟨#[45, 51]⟩, ⟨#[45, 49]⟩, 1, 0⟩] (Blk.new w17 _ _) rfl rfl (by decide)) (by decide)).mono ?_; rintro e w18 ⟨rfl, hb⟩; have st := bw_via (below1 w17 (.cells #[.string ⟨#[45, 51]⟩, .string ⟨#[45, 49]⟩, .int .i64 1, .int .i64 0] 46)) hb; have H18 := hI (bw_via H17.out st); have I4 := hI (I4.out.mono st); have I6 := hI (I6.out.mono st); have I11 := hI (I11.out.mono st); clear st hb)
  | (go_at_call 29; have _t := H16; clear _t; refine (HBt.out _ _ _ _ _).mono ?_; rintro e w17 ⟨rfl, hb⟩; have st := hb; have H17 := hI (bw_via H16.out st); have I4 := hI (I4.out.mono st); have I6 := hI (I6.out.mono st); have I11 := hI (I11.out.mono st); clear st hb)
  | (go_at_call 26; have _t := H15; clear _t; refine (HSa.out _ _ xsC _ (I6.out.mono (below1 w15 (.cells #[.string ⟨#[]⟩, .string ⟨#[48]⟩, .int .i64 2, .int .i64 1, .string ⟨#[49]⟩, .string ⟨#[]⟩, .int .i64 0, .int .i64 2] 46))) (Ivs.blk xsC (Blk.new w15 _ _) rfl rfl (by decide)) (by decide)).mono ?_; rintro e w16 ⟨rfl, hb⟩; have st := bw_via (below1 w15 (.cells #[.string ⟨#[]⟩, .string ⟨#[48]⟩, .int .i64 2, .int .i64 1, .string ⟨#[49]⟩, .string ⟨#[]⟩, .int .i64 0, .int .i64 2] 46)) hb; have H16 := hI (bw_via H15.out st); have I4 := hI (I4.out.mono st); have I6 := hI (I6.out.mono st); have I11 := hI (I11.out.mono st); clear st hb)
  | (go_at_call 29; have _t := H14; clear _t; refine (HBt.out _ _ _ _ _).mono ?_; rintro e w15 ⟨rfl, hb⟩; have st := hb; have H15 := hI (bw_via H14.out st); have I4 := hI (I4.out.mono st); have I6 := hI (I6.out.mono st); have I11 := hI (I11.out.mono st); clear st hb)
  | (go_at_call 29; have _t := H13; clear _t; refine (HBt.out _ _ _ _ _).mono ?_; rintro e w14 ⟨rfl, hb⟩; have st := hb; have H14 := hI (bw_via H13.out st); have I4 := hI (I4.out.mono st); have I6 := hI (I6.out.mono st); have I11 := hI (I11.out.mono st); clear st hb)
  | (go_at_call 26; have _t := H12; clear _t; refine (HSa.out _ _ [⟨⟨#[48]⟩, ⟨#[51]⟩, 0, 0⟩] _ (I4.out.mono (below1 w12 (.cells #[.string ⟨#[48]⟩, .string ⟨#[51]⟩, .int .i64 0, .int .i64 0] 46))) (Ivs.blk [⟨⟨#[48]⟩, ⟨#[51]⟩, 0, 0⟩] (Blk.new w12 _ _) rfl rfl (by decide)) (by decide)).mono ?_; rintro e w13 ⟨rfl, hb⟩; have st := bw_via (below1 w12 (.cells #[.string ⟨#[48]⟩, .string ⟨#[51]⟩, .int .i64 0, .int .i64 0] 46)) hb; have H13 := hI (bw_via H12.out st); have I4 := hI (I4.out.mono st); have I6 := hI (I6.out.mono st); have I11 := hI (I11.out.mono st); clear st hb)
  | (go_at_call 29; have _t := H11; clear _t; refine (HBt.out _ _ _ _ _).mono ?_; rintro e w12 ⟨rfl, hb⟩; have st := hb; have H12 := hI (bw_via H11.out st); have I4 := hI (I4.out.mono st); have I6 := hI (I6.out.mono st); have I11 := hI (I11.out.mono st); clear st hb)
  | (go_at_call 33; refine (HMa.out _ _ (Blk.new w10 _ _)).mono ?_; rintro e w11 ⟨v, rfl, ⟨a11, c11, rfl, hi⟩, hb⟩; have st := bw_via (below1 w10 (.cells #[.string ⟨#[49]⟩, .string ⟨#[50]⟩, .int .i64 0, .int .i64 1] 46)) hb; have H11 := hI (bw_via H10.out st); have I4 := hI (I4.out.mono st); have I6 := hI (I6.out.mono st); have I11 := hI hi; clear hi; clear st hb)
  | (go_at_call 29; have _t := H9; clear _t; refine (HBt.out _ _ _ _ _).mono ?_; rintro e w10 ⟨rfl, hb⟩; have st := hb; have H10 := hI (bw_via H9.out st); have I4 := hI (I4.out.mono st); have I6 := hI (I6.out.mono st); clear st hb)
  | (go_at_call 18; refine (HPi.out _ _ (Blk.new w8 _ _)).mono ?_; rintro e w9 ⟨rfl, hb⟩; have st := bw_via (below1 w8 (.cells #[.string ⟨#[49]⟩, .string ⟨#[50]⟩, .int .i64 0, .int .i64 0] 46)) hb; have H9 := hI (bw_via H8.out st); have I4 := hI (I4.out.mono st); have I6 := hI (I6.out.mono st); clear st hb)
  | (go_at_call 29; have _t := H7; clear _t; refine (HBt.out _ _ _ _ _).mono ?_; rintro e w8 ⟨rfl, hb⟩; have st := hb; have H8 := hI (bw_via H7.out st); have I4 := hI (I4.out.mono st); have I6 := hI (I6.out.mono st); clear st hb)
  | (go_at_call 20; refine (HNx.out _ _ I6.out).mono ?_; rintro e w7 ⟨rfl, hb⟩; have st := hb; have H7 := hI (bw_via H6.out st); have I4 := hI (I4.out.mono st); have I6 := hI (I6.out.mono st); clear st hb)
  | (go_at_call 35; refine (HCo.out _ _ (Blk.new w5 _ _)).mono ?_; rintro e w6 ⟨v, rfl, ⟨a6, c6, rfl, hi⟩, hb⟩; have st := bw_via (below1 w5 (.cells #[.string ⟨#[48]⟩, .string ⟨#[49]⟩, .int .i64 0, .int .i64 1] 46)) hb; have H6 := hI (bw_via H5.out st); have I4 := hI (I4.out.mono st); have I6 := hI hi; clear hi; clear st hb)
  | (go_at_call 29; have _t := H4; clear _t; refine (HBt.out _ _ _ _ _).mono ?_; rintro e w5 ⟨rfl, hb⟩; have st := hb; have H5 := hI (bw_via H4.out st); have I4 := hI (I4.out.mono st); clear st hb)
  | (go_at_call 23; refine (HNo.out _ _ (Blk.new w3 _ _)).mono ?_; rintro e w4 ⟨v, rfl, ⟨a4, c4, rfl, hi⟩, hb⟩; have st := bw_via (below1 w3 (.cells #[.string ⟨#[50]⟩, .string ⟨#[51]⟩, .int .i64 1, .int .i64 0, .string ⟨#[48]⟩, .string ⟨#[49]⟩, .int .i64 0, .int .i64 1, .string ⟨#[49]⟩, .string ⟨#[50]⟩, .int .i64 0, .int .i64 0] 46)) hb; have H4 := hI (bw_via H3.out st); have I4 := hI hi; clear hi; clear st hb)
  | (go_at_call 29; have _t := H2; clear _t; refine (HBt.out _ _ _ _ _).mono ?_; rintro e w3 ⟨rfl, hb⟩; have st := hb; have H3 := hI (bw_via H2.out st); clear st hb)
  | (go_at_call 29; have _t := H1; clear _t; refine (HBt.out _ _ _ _ _).mono ?_; rintro e w2 ⟨rfl, hb⟩; have st := hb; have H2 := hI (bw_via H1.out st); clear st hb)
  | (go_at_call 29; refine (HBt.out _ _ _ _ _).mono ?_; rintro e w1 ⟨rfl, hb⟩; have st := hb; have H1 := hI (hb); clear st hb))
 go_ret
 exact ⟨rfl, H18.out⟩
end Go.Proofs.YtacihodamichhaaGreatDoor
namespace Go.Proofs.YtacihodamichhaaGreatDoor
def isD (c : UInt8) : Bool := decide (48 ≤ c.toNat) && decide (c.toNat ≤ 57)
def dv (c : UInt8) : Nat := c.toNat - 48
theorem isD_iff {c : UInt8} : isD c = true ↔ 48 ≤ c.toNat ∧ c.toNat ≤ 57 := by simp [isD]
def valF (acc : Nat) (l : List UInt8) : Nat := l.foldl (fun a c => a * 10 + dv c) acc
theorem valF_nil (acc : Nat) : valF acc [] = acc := rfl
theorem valF_cons (acc : Nat) (c : UInt8) (l : List UInt8) : valF acc (c :: l) = valF (acc * 10 + dv c) l := by
 unfold valF
 rw [List.foldl_cons]
def valD (l : List UInt8) : Nat := valF 0 l
def AllD (l : List UInt8) : Prop := ∀ c ∈ l, isD c = true
theorem AllD.take {l : List UInt8} (h : AllD l) (k : Nat) : AllD (l.take k) := fun c hc => h c (List.mem_of_mem_take hc)
theorem AllD.drop {l : List UInt8} (h : AllD l) (k : Nat) : AllD (l.drop k) := fun c hc => h c (List.mem_of_mem_drop hc)
theorem valF_append (a : List UInt8) (acc : Nat) (b : List UInt8) : valF acc (a ++ b) = valF (valF acc a) b := List.foldl_append
theorem valF_eq (l : List UInt8) : ∀ acc : Nat, valF acc l = acc * 10 ^ l.length + valF 0 l := by
 induction l with
 | nil => intro acc; simp [valF_nil]
 | cons c l ih =>
  intro acc
  have h1 := ih (acc * 10 + dv c)
  have h2 := ih (0 * 10 + dv c)
  rw [valF_cons, valF_cons, h1, h2, List.length_cons, Nat.pow_succ, Nat.zero_mul, Nat.zero_add, Nat.add_mul, Nat.mul_assoc acc]
  rw [Nat.mul_comm 10, Nat.add_assoc]
theorem valD_append (a b : List UInt8) : valD (a ++ b) = valD a * 10 ^ b.length + valD b := by
 unfold valD
 rw [valF_append, valF_eq]
theorem dv_le {c : UInt8} (h : isD c = true) : dv c ≤ 9 := by
 have := (isD_iff.1 h).2
 unfold dv
 omega
theorem valD_lt : ∀ {l : List UInt8}, AllD l → valD l < 10 ^ l.length
 | [], _ => by simp [valD, valF_nil]
 | c :: l, h => by
  have ih := valD_lt (l := l) (fun x hx => h x (by simp [hx]))
  have h1 : valD (c :: l) = dv c * 10 ^ l.length + valD l := by
   have := valD_append [c] l
   simpa [valD, valF_cons, valF_nil] using this
  have h2 := dv_le (h c (by simp))
  rw [h1, List.length_cons, Nat.pow_succ]
  have h3 : dv c * 10 ^ l.length ≤ 9 * 10 ^ l.length := Nat.mul_le_mul_right _ h2
  omega
theorem parseM_of : ∀ {l : List UInt8} {acc : Nat}, AllD l → acc * 10 ^ l.length + valD l < 1000000000 → Lib.parseUintM 4294967295 acc l = .ok (valF acc l)
 | [], acc, _, _ => rfl
 | c :: l, acc, h, hb => by
  have hc := isD_iff.1 (h c (by simp))
  have h1 : valD (c :: l) = dv c * 10 ^ l.length + valD l := by
   have := valD_append [c] l
   simpa [valD, valF_cons, valF_nil] using this
  have e : (acc * 10 + dv c) * 10 ^ l.length + valD l = acc * 10 ^ (c :: l).length + valD (c :: l) := by
   rw [h1, List.length_cons, Nat.pow_succ, Nat.add_mul, Nat.mul_assoc acc, Nat.mul_comm 10]
   omega
  have hp : 1 ≤ 10 ^ l.length := Nat.pow_pos (by decide)
  have h2 : (acc * 10 + dv c) * 1 ≤ (acc * 10 + dv c) * 10 ^ l.length := Nat.mul_le_mul_left _ hp
  unfold Lib.parseUintM
  rw [if_pos hc, if_neg (by unfold dv at *; omega), if_neg (by unfold dv at *; omega)]
  exact parseM_of (fun x hx => h x (by simp [hx])) (by rw [← e] at hb; exact hb)
theorem parse9 {l : List UInt8} (h : AllD l) (hne : l ≠ []) (hl : l.length ≤ 9) : Lib.parseUintB 32 l = .ok (valD l) ∧ valD l < 1000000000 := by
 have h1 := valD_lt h
 have h2 : (10 : Nat) ^ l.length ≤ 10 ^ 9 := Nat.pow_le_pow_right (by decide) hl
 have h3 : valD l < 1000000000 := by omega
 refine ⟨?_, h3⟩
 unfold Lib.parseUintB
 rw [if_neg hne]
 exact parseM_of h (by omega)
theorem idx_none {l : List UInt8} (h : AllD l) : Lib.idxFunc noDig true ⟨l.toArray⟩ = -1 := by
 have key : ∀ (f pos : Nat), Lib.idxFuncFrom noDig true ⟨l.toArray⟩ f pos = -1 := by
  intro f
  induction f with
  | zero => intro pos; rfl
  | succ f ih =>
   intro pos
   unfold Lib.idxFuncFrom
   split
   ·rename_i hp
    have hd := isD_iff.1 (h ((⟨l.toArray⟩ : ByteArray)[pos]'hp) (by
     have : (⟨l.toArray⟩ : ByteArray)[pos]'hp = l[pos]'(by rw [Lib.size_eq] at hp; exact hp) := rfl
     rw [this]
     exact List.getElem_mem _))
    rw [decode_ascii _ _ hp (by omega)]
    simp only
    rw [if_neg, ih]
    unfold noDig
    rw [decide_eq_false (by omega), decide_eq_false (by omega)]
    decide
   ·rfl
 exact key _ _
theorem dropWhile_nil {α : Type} {p : α → Bool} : ∀ {l : List α}, l.dropWhile p = [] ↔ ∀ x ∈ l, p x = true
 | [] => by simp
 | a :: l => by
  have ih := dropWhile_nil (p := p) (l := l)
  rw [List.dropWhile_cons]
  by_cases h : p a = true
  ·simp only [h, if_true, List.mem_cons, forall_eq_or_imp, true_and]; exact ih
  ·simp only [Bool.not_eq_true] at h; simp [h]
theorem trimS_nil {l cs : List UInt8} : Lib.trimS l cs = [] ↔ ∀ c ∈ l, cs.contains c = true := by
 unfold Lib.trimS Lib.trimLeftS Lib.trimRightS
 constructor
 ·intro h
  have h1 := dropWhile_nil.1 h
  intro c hc
  have h2 : ∀ x ∈ (l.reverse.dropWhile (cs.contains ·)), cs.contains x = true := fun x hx => h1 x (List.mem_reverse.2 hx)
  have h3 := List.takeWhile_append_dropWhile (p := (cs.contains ·)) (l := l.reverse)
  have h4 : c ∈ l.reverse := List.mem_reverse.2 hc
  rw [← h3] at h4
  rcases List.mem_append.1 h4 with h5 | h5
  ·exact List.all_eq_true.1 List.all_takeWhile c h5
  ·exact h2 c h5
 ·intro h
  have h1 : l.reverse.dropWhile (cs.contains ·) = [] := dropWhile_nil.2 (fun x hx => h x (List.mem_reverse.1 hx))
  rw [h1]
  rfl
theorem cut10_iff {c : UInt8} : cut10.contains c = true ↔ isD c = true := by
 rw [isD_iff]
 have h : ∀ n : Fin 256, (cut10.contains (UInt8.ofNat n.val) = true) ↔ (48 ≤ n.val ∧ n.val ≤ 57) := by decide +kernel
 have hc : c.toNat < 256 := c.toNat_lt
 have h2 := h ⟨c.toNat, hc⟩
 simp only [UInt8.ofNat_toNat] at h2
 exact h2
theorem trim_digits {l : List UInt8} : Lib.trimS l cut10 = [] ↔ AllD l := by
 rw [trimS_nil]
 exact ⟨fun h c hc => cut10_iff.1 (h c hc), fun h c hc => cut10_iff.2 (h c hc)⟩
theorem trim_zeros {l : List UInt8} : Lib.trimS l [48] = [] ↔ ∀ c ∈ l, c = 48 := by
 rw [trimS_nil]
 simp
end Go.Proofs.YtacihodamichhaaGreatDoor
namespace Go.Proofs.YtacihodamichhaaGreatDoor.D10
open Go.RowKit
def natL : List Nat → Nat
 | [] => 0
 | d :: l => d + 10 * natL l
def Dg (l : List Nat) : Prop := ∀ d ∈ l, d < 10
theorem natL_append : ∀ a b : List Nat, natL (a ++ b) = natL a + 10 ^ a.length * natL b
 | [], b => by simp [natL]
 | d :: a, b => by
  have ih := natL_append a b
  simp only [List.cons_append, natL, ih, List.length_cons, Nat.pow_succ]
  rw [Nat.mul_add, Nat.add_assoc]
  congr 2
  rw [Nat.mul_comm (10 ^ a.length) 10, Nat.mul_assoc]
theorem natL_snoc (a : List Nat) (d : Nat) : natL (a ++ [d]) = natL a + 10 ^ a.length * d := by
 rw [natL_append]; simp [natL]
theorem natL_zeros : ∀ n, natL (List.replicate n 0) = 0
 | 0 => rfl
 | n + 1 => by rw [List.replicate_succ, natL, natL_zeros n, Nat.mul_zero]
theorem Dg.append {a b : List Nat} (ha : Dg a) (hb : Dg b) : Dg (a ++ b) := fun d hd => by
 rcases List.mem_append.1 hd with h | h
 ·exact ha d h
 ·exact hb d h
theorem Dg.one {d : Nat} (h : d < 10) : Dg [d] := fun x hx => by
 obtain rfl := List.mem_singleton.1 hx
 exact h
theorem Dg.take {l : List Nat} (h : Dg l) (k : Nat) : Dg (l.take k) := fun d hd => h d (List.mem_of_mem_take hd)
theorem Dg.zeros (n : Nat) : Dg (List.replicate n 0) := fun d hd => by
 obtain rfl := List.eq_of_mem_replicate hd
 decide
theorem natL_lt : ∀ {l : List Nat}, Dg l → natL l < 10 ^ l.length
 | [], _ => by simp [natL]
 | d :: l, h => by
  have ih := natL_lt (l := l) (fun x hx => h x (by simp [hx]))
  have hd := h d (by simp)
  have h1 : natL l + 1 ≤ 10 ^ l.length := ih
  have h2 : 10 * (natL l + 1) ≤ 10 * 10 ^ l.length := Nat.mul_le_mul_left _ h1
  simp only [natL, List.length_cons, Nat.pow_succ]
  rw [Nat.mul_comm (10 ^ l.length)]
  rw [Nat.mul_add] at h2
  omega
def limbs (n : Nat) : List Nat := if h : n = 0 then [] else (n % 10) :: limbs (n / 10)
termination_by n
decreasing_by exact Nat.div_lt_self (by omega) (by decide)
theorem limbs_zero : limbs 0 = [] := by rw [limbs]; simp
theorem limbs_pos {n : Nat} (h : n ≠ 0) : limbs n = (n % 10) :: limbs (n / 10) := by rw [limbs, dif_neg h]
theorem natL_limbs (n : Nat) : natL (limbs n) = n := by
 induction n using Nat.strongRecOn with
 | ind n ih =>
  by_cases h : n = 0
  ·subst h; rw [limbs_zero]; rfl
  ·rw [limbs_pos h, natL, ih _ (Nat.div_lt_self (by omega) (by decide)), Nat.mod_add_div]
theorem limbs_dg (n : Nat) : Dg (limbs n) := by
 induction n using Nat.strongRecOn with
 | ind n ih =>
  by_cases h : n = 0
  ·subst h; rw [limbs_zero]; intro d hd; simp at hd
  ·rw [limbs_pos h]
   intro d hd
   rcases List.mem_cons.1 hd with rfl | hd
   ·exact Nat.mod_lt _ (by decide)
   ·exact ih _ (Nat.div_lt_self (by omega) (by decide)) d hd
theorem limbs_nil {n : Nat} : limbs n = [] ↔ n = 0 := by
 constructor
 ·intro h
  have := natL_limbs n
  rw [h] at this
  exact this.symm
 ·rintro rfl; exact limbs_zero
theorem limbs_of : ∀ {l : List Nat}, Dg l → (∀ d, l.getLast? = some d → d ≠ 0) → limbs (natL l) = l
 | [], _, _ => limbs_zero
 | d :: l, h, hn => by
  have hd := h d (by simp)
  have hdl : Dg l := fun x hx => h x (by simp [hx])
  have hl : ∀ e, l.getLast? = some e → e ≠ 0 := fun e he => hn e (by
   cases l with
   | nil => simp at he
   | cons a l => rw [List.getLast?_cons_cons]; exact he)
  have ih := limbs_of hdl hl
  have hne : natL (d :: l) ≠ 0 := by
   cases l with
   | nil =>
    have := hn d (by simp)
    simp only [natL]
    omega
   | cons a l =>
    have : natL (a :: l) ≠ 0 := fun h0 => by rw [h0, limbs_zero] at ih; cases ih
    simp only [natL] at this ⊢
    omega
  rw [limbs_pos hne]
  have h1 : natL (d :: l) % 10 = d := by simp only [natL]; omega
  have h2 : natL (d :: l) / 10 = natL l := by simp only [natL]; omega
  rw [h1, h2, ih]
theorem limbs_take {l : List Nat} (hd : Dg l) : ∃ k, k ≤ l.length ∧ limbs (natL l) = l.take k := by
 have key : ∀ k, k ≤ l.length → natL (l.take k) = natL l → ∃ k, k ≤ l.length ∧ limbs (natL l) = l.take k := by
  intro k
  induction k with
  | zero => intro _ h; exact ⟨0, Nat.zero_le _, by rw [← h, List.take_zero]; exact limbs_zero⟩
  | succ j ih =>
   intro hk h
   have hg : l[j]? = some (l[j]'(by omega)) := by simp
   by_cases hz : l[j]'(by omega) = 0
   ·refine ih (by omega) ?_
    rw [List.take_add_one, hg, hz] at h
    rw [← h, Option.toList_some, natL_snoc]
    simp
   ·refine ⟨j + 1, hk, ?_⟩
    rw [← h]
    refine limbs_of (hd.take _) (fun e he => ?_)
    rw [List.take_add_one, hg, Option.toList_some, List.getLast?_concat] at he
    cases he
    exact hz
 exact key l.length (Nat.le_refl _) (by rw [List.take_length])
theorem limbs_last {n d : Nat} (h : (limbs n).getLast? = some d) : d ≠ 0 := by
 induction n using Nat.strongRecOn generalizing d with
 | ind n ih =>
  by_cases h0 : n = 0
  ·subst h0; rw [limbs_zero] at h; simp at h
  ·rw [limbs_pos h0] at h
   by_cases h1 : n / 10 = 0
   ·rw [h1, limbs_zero] at h
    simp at h
    omega
   ·cases hl : limbs (n / 10) with
    | nil => exact absurd (limbs_nil.1 hl) h1
    | cons a l =>
     rw [hl, List.getLast?_cons_cons, ← hl] at h
     exact ih _ (Nat.div_lt_self (by omega) (by decide)) h
theorem limbs_pow {n : Nat} (h : n ≠ 0) : 10 ^ ((limbs n).length - 1) ≤ n := by
 induction n using Nat.strongRecOn with
 | ind n ih =>
  rw [limbs_pos h]
  simp only [List.length_cons, Nat.add_sub_cancel]
  by_cases h1 : n / 10 = 0
  ·rw [h1, limbs_zero]; simp; omega
  ·have := ih _ (Nat.div_lt_self (by omega) (by decide)) h1
   have hl : (limbs (n / 10)).length ≠ 0 := fun h2 => h1 (limbs_nil.1 (List.length_eq_zero_iff.1 h2))
   have e : (limbs (n / 10)).length = ((limbs (n / 10)).length - 1) + 1 := by omega
   rw [e, Nat.pow_succ]
   have h3 : 10 ^ ((limbs (n / 10)).length - 1) * 10 ≤ n / 10 * 10 := Nat.mul_le_mul_right _ this
   exact Nat.le_trans h3 (Nat.div_mul_le_self n 10)
theorem limbs_len_lt {a b : Nat} (h : (limbs a).length < (limbs b).length) : a < b := by
 have h1 := natL_lt (limbs_dg a)
 rw [natL_limbs] at h1
 have hb : b ≠ 0 := fun h0 => by subst h0; rw [limbs_zero] at h; simp at h
 have h2 := limbs_pow hb
 have h3 : 10 ^ (limbs a).length ≤ 10 ^ ((limbs b).length - 1) := Nat.pow_le_pow_right (by decide) (by omega)
 omega
theorem limbs_len_le {a b : Nat} (h : a ≤ b) : (limbs a).length ≤ (limbs b).length := by
 rcases Nat.lt_or_ge (limbs b).length (limbs a).length with h1 | h1
 ·have := limbs_len_lt h1; omega
 ·exact h1
theorem natL_cmp {a b : List Nat} (hl : a.length = b.length) {k : Nat} (hk : k < a.length) (ha : Dg a) (hs : a.drop (k + 1) = b.drop (k + 1)) (hlt : a.getD k 0 < b.getD k 0) : natL a < natL b := by
 have e1 : a = a.take k ++ (a.getD k 0 :: a.drop (k + 1)) := by
  rw [List.getD_eq_getElem?_getD, List.getElem?_eq_getElem hk, Option.getD_some, ← List.drop_eq_getElem_cons hk, List.take_append_drop]
 have e2 : b = b.take k ++ (b.getD k 0 :: b.drop (k + 1)) := by
  rw [List.getD_eq_getElem?_getD, List.getElem?_eq_getElem (by omega), Option.getD_some, ← List.drop_eq_getElem_cons (by omega), List.take_append_drop]
 have h1 := natL_lt (ha.take k)
 rw [List.length_take, Nat.min_eq_left (by omega)] at h1
 rw [e1, e2, natL_append, natL_append, hs, List.length_take, List.length_take, Nat.min_eq_left (by omega), Nat.min_eq_left (by omega)]
 simp only [natL]
 have h2 : a.getD k 0 + 1 + 10 * natL (b.drop (k + 1)) ≤ b.getD k 0 + 10 * natL (b.drop (k + 1)) := by omega
 have h3 : 10 ^ k * (a.getD k 0 + 1 + 10 * natL (b.drop (k + 1))) ≤ 10 ^ k * (b.getD k 0 + 10 * natL (b.drop (k + 1))) := Nat.mul_le_mul_left _ h2
 have h4 : 10 ^ k * (a.getD k 0 + 1 + 10 * natL (b.drop (k + 1))) = 10 ^ k * (a.getD k 0 + 10 * natL (b.drop (k + 1))) + 10 ^ k := by
  rw [show a.getD k 0 + 1 + 10 * natL (b.drop (k + 1)) = a.getD k 0 + 10 * natL (b.drop (k + 1)) + 1 by omega, Nat.mul_add, Nat.mul_one]
 omega
theorem natL_set {l : List Nat} {j : Nat} (h : j < l.length) (v : Nat) : natL (l.set j v) + 10 ^ j * l.getD j 0 = natL l + 10 ^ j * v := by
 have e1 : l = l.take j ++ (l.getD j 0 :: l.drop (j + 1)) := by
  rw [List.getD_eq_getElem?_getD, List.getElem?_eq_getElem h, Option.getD_some, ← List.drop_eq_getElem_cons h, List.take_append_drop]
 have e2 : l.set j v = l.take j ++ (v :: l.drop (j + 1)) := by
  rw [List.set_eq_take_append_cons_drop, if_pos h]
 have h2 : natL l = natL (l.take j) + 10 ^ j * (l.getD j 0 + 10 * natL (l.drop (j + 1))) := by
  conv => lhs; rw [e1]
  rw [natL_append, List.length_take, Nat.min_eq_left (by omega), natL]
 rw [e2, natL_append, List.length_take, Nat.min_eq_left (by omega), natL, h2]
 rw [Nat.mul_add, Nat.mul_add]
 omega
theorem take_next {l : List Nat} {i d : Nat} (h : l[i]? = some d) : natL (l.take (i + 1)) = natL (l.take i) + 10 ^ i * d := by
 have hi : i < l.length := by
  rcases Nat.lt_or_ge i l.length with h' | h'
  ·exact h'
  ·rw [List.getElem?_eq_none h'] at h; cases h
 rw [List.take_add_one, h, Option.toList_some, natL_snoc, List.length_take, Nat.min_eq_left (by omega)]
theorem carry_step {done : List Nat} {i t c S : Nat} (hl : done.length = i) (h : natL done + 10 ^ i * c = S) {T : Nat} (ht : t = c + T) : natL (done ++ [t % 10]) + 10 ^ (i + 1) * (t / 10) = S + 10 ^ i * T := by
 rw [natL_snoc, hl, Nat.pow_succ, Nat.mul_assoc]
 have h1 : 10 ^ i * (t % 10) + 10 ^ i * (10 * (t / 10)) = 10 ^ i * t := by rw [← Nat.mul_add, Nat.mod_add_div]
 have h2 : 10 ^ i * t = 10 ^ i * c + 10 ^ i * T := by rw [ht, Nat.mul_add]
 omega
theorem borrow_step {done : List Nat} {i d y x bo bo' A C : Nat} (hl : done.length = i) (h : A + 10 ^ i * bo = natL done + C) (hx : d + 10 * bo' = x + y + bo) : (A + 10 ^ i * d) + 10 ^ (i + 1) * bo' = natL (done ++ [x]) + (C + 10 ^ i * y) := by
 rw [natL_snoc, hl, Nat.pow_succ, Nat.mul_assoc]
 have h1 : 10 ^ i * (d + 10 * bo') = 10 ^ i * (x + y + bo) := by rw [hx]
 rw [Nat.mul_add, Nat.mul_add, Nat.mul_add] at h1
 omega
theorem short_step {done : List Nat} {d rest by' : Nat} {S : Nat} (h : natL done * by' + rest = S) : natL ((rest * 10 + d) / by' :: done) * by' + (rest * 10 + d) % by' = d + 10 * S := by
 have h1 := Nat.div_add_mod (rest * 10 + d) by'
 rw [Nat.mul_comm] at h1
 simp only [natL]
 rw [Nat.add_mul, ← h, Nat.mul_add, Nat.mul_assoc]
 have h2 : rest * 10 = 10 * rest := Nat.mul_comm _ _
 omega
theorem natL_drop {l : List Nat} {i d : Nat} (h : l[i]? = some d) : natL (l.drop i) = d + 10 * natL (l.drop (i + 1)) := by
 have hi : i < l.length := by
  rcases Nat.lt_or_ge i l.length with h' | h'
  ·exact h'
  ·rw [List.getElem?_eq_none h'] at h; cases h
 rw [List.getElem?_eq_getElem hi] at h
 rw [List.drop_eq_getElem_cons hi, natL, Option.some.inj h]
theorem put_done (done : List Nat) (n x : Nat) : (done ++ List.replicate (n + 1) 0).set done.length x = (done ++ [x]) ++ List.replicate n 0 := by
 rw [List.replicate_succ, List.set_append_right _ _ (Nat.le_refl _), Nat.sub_self, List.set_cons_zero, List.append_assoc]; rfl
theorem put_down (done : List Nat) (n x : Nat) : (List.replicate (n + 1) 0 ++ done).set n x = List.replicate n 0 ++ (x :: done) := by
 rw [List.replicate_succ', List.append_assoc, List.set_append_right _ _ (by simp), List.length_replicate, Nat.sub_self]; rfl
theorem natL_text : ∀ l : List UInt8, natL (l.reverse.map dv) = valD l
 | [] => rfl
 | c :: l => by
  have ih := natL_text l
  rw [List.reverse_cons, List.map_append, natL_append, ih, List.length_map, List.length_reverse]
  have h1 : valD (c :: l) = dv c * 10 ^ l.length + valD l := by
   have := valD_append [c] l
   simpa [valD, valF_cons, valF_nil] using this
  rw [h1]
  simp only [List.map_cons, List.map_nil, natL, Nat.mul_zero, Nat.add_zero]
  rw [Nat.mul_comm (dv c)]
  omega
theorem dg_text {l : List UInt8} (h : AllD l) : Dg (l.reverse.map dv) := fun d hd => by
 obtain ⟨c, hc, rfl⟩ := List.mem_map.1 hd
 have := dv_le (h c (List.mem_reverse.1 hc))
 omega
end Go.Proofs.YtacihodamichhaaGreatDoor.D10
namespace Go.Proofs.YtacihodamichhaaGreatDoor
open Go.RowKit
theorem Ints.take {w : World} {a : Option Addr} {n cap : Nat} {l : List Int} (h : Ints w (.slice a n cap) l) {k : Nat} (hk : k ≤ n) : Ints w (.slice a k cap) (l.take k) := by
 obtain ⟨a', cap', hv, hc, hm, hh⟩ := h
 cases hv
 simp only [List.length_map] at hc hh hk
 have hl : (((l.take k).map (Value.int .i64)).map c1).length = k := by simp; omega
 refine ⟨a, cap, by rw [hl], by rw [hl]; omega, hm, ?_⟩
 rcases hh with h0 | ⟨b, off, ha, hlt, hcell⟩
 ·exact .inl h0
 ·refine .inr ⟨b, off, ha, hlt, fun i j hi hj => ?_⟩
  rw [hl] at hi
  rw [hcell i j (by omega) hj]
  simp [List.getD_eq_getElem?_getD, hi]
theorem natsI_take (d : List Nat) (k : Nat) : natsI (d.take k) = (natsI d).take k := by unfold natsI; rw [List.map_take]
theorem natsI_len (d : List Nat) : (natsI d).length = d.length := by unfold natsI; rw [List.length_map]
theorem natsI_get {d : List Nat} {k : Nat} {x : Int} (h : (natsI d)[k]? = some x) : ∃ y, d[k]? = some y ∧ x = (y : Int) := by
 unfold natsI at h
 simp only [List.getElem?_map, Option.map_eq_some_iff] at h
 obtain ⟨y, hy, rfl⟩ := h
 exact ⟨y, hy, rfl⟩
set_option maxHeartbeats 2000000 in
theorem rtrim_any (a : Option Addr) (n c : Nat) (l : List Nat) (w : World) (hL : Ints w (.slice a n c) (natsI l)) (hd : D10.Dg l) :
  Calls Tryz.prog 157 #[.slice a n c] w (fun e w' => e = .returned (.slice a (D10.limbs (D10.natL l)).length c) ∧ Ints w (.slice a (D10.limbs (D10.natL l)).length c) (natsI (D10.limbs (D10.natL l))) ∧ Below w.heap.size w w') := by
 have h' := hL
 obtain ⟨_, _, hq, hc1, hc2⟩ := hL.open
 cases hq
 unfold maxLen at hc2
 rw [natsI_len] at *
 have HL := hI h'
 have Hd := hI hd
 clear hL hd h'
 generalize hn : l.length = n at *
 have Hn := hI hn
 clear hn
 go_enter Tryz.func157, Tryz.ntmps157
 go_wp2_with fail
 go_loopw [3] (fun m wr => ∃ k : Nat, k ≤ n ∧ m = .int .i64 (k : Int) ∧ Below w.heap.size w wr ∧ Hid (D10.natL (l.take k) = D10.natL l)) (fun m _ => (intOf m).toNat)
 case atStart => exact ⟨n, Nat.le_refl _, rfl, Below.refl _ _, by unfold Hid; rw [← Hn.out, List.take_length]⟩
 case round =>
  obtain ⟨k, hk, rfl, hbw, hpre⟩ := hrel
  rcases k with _ | j
  ·have hl0 : D10.limbs (D10.natL l) = [] := by rw [← hpre.out]; exact D10.limbs_zero
   have Hl0 := hI hl0
   have hc0 : (0 : Int) ≤ (c : Int) := Int.natCast_nonneg _
   clear hl0
   go_wp2_with fail
   go_ret
   refine ⟨?_, ?_, hbw⟩
   ·rw [Hl0.out]; rfl
   ·rw [Hl0.out]; exact HL.out.take (Nat.zero_le _)
  ·obtain ⟨b, off, x, rfl, hx, c0⟩ := HL.out.at hbw (show j < n by omega)
   obtain ⟨d, hdk, rfl⟩ := natsI_get hx
   have Hdk := hI hdk
   have hj1 : (0 : Int) < ((j + 1 : Nat) : Int) := by omega
   have hj2 : IntKind.i64.wrap (j : Int) = j := IntWalk.i64_in _ (by omega)
   have hj3 : (((j + 1 : Nat) : Int) - 1) = (j : Int) := by omega
   have hjn : (j : Int) < (n : Int) := by omega
   have hj5 : (0 : Int) ≤ (j : Int) := by omega
   have hj7 : (0 : Int) < (j : Int) + 1 := by omega
   have hj8 : (0 : Int) ≤ (j : Int) + 1 := by omega
   have hj9 : (j : Int) + 1 ≤ (c : Int) := by omega
   clear hdk hx
   by_cases hz : d = 0
   ·subst hz
    go_wp2_with fail
    go_roundw
    case rel => exact ⟨j, by omega, by go_num, hbw, by unfold Hid; rw [← hpre.out, D10.take_next Hdk.out]; simp⟩
    case measure => simp [intOf] <;> omega
   ·have hz2 : ((d : Int) == 0) = false := by simpa using hz
    have hfin : D10.limbs (D10.natL l) = l.take (j + 1) := by
     rw [← hpre.out]
     refine D10.limbs_of (Hd.out.take _) (fun e he => ?_)
     have ht : (l.take (j + 1)).getLast? = some d := take_last Hdk.out
     rw [ht] at he
     cases he
     exact hz
    have hlen : (D10.limbs (D10.natL l)).length = j + 1 := by rw [hfin, List.length_take, Hn.out]; omega
    have Hfin := hI hfin
    have Hlen := hI hlen
    clear hfin hlen
    go_wp2_with fail
    go_ret
    refine ⟨?_, ?_, hbw⟩
    ·rw [Hlen.out]; rfl
    ·rw [Hlen.out, Hfin.out, natsI_take]; exact HL.out.take (by omega)
end Go.Proofs.YtacihodamichhaaGreatDoor
