/-
  Parts of the proof: Gc, Rcq.
-/
import Derived.Test.YtacihodamichhaaGreatDoorU35
import Derived.Test.YtacihodamichhaaGreatDoorU37
namespace Go.Proofs.YtacihodamichhaaGreatDoor
open Go.RowKit
theorem few_ten {M k : Nat} (h : M < 10 ^ k) (hk : k ≤ 70) : Few M := limbs_ten h hk
theorem errL_dig {l : List UInt8} (h : errL l = 0) : AllD (absL (topL l)) ∧ (divB l = true → AllD (botL l)) := by
 unfold errL at h
 split at h
 ·exact absurd h (by decide)
 ·rename_i h1
  simp only [Bool.or_eq_true, Bool.not_eq_true', Bool.and_eq_true, not_or, Bool.not_eq_false, not_and] at h1
  exact ⟨(digB_iff.1 h1.1).2, fun hd => (digB_iff.1 (h1.2 hd)).2⟩
theorem fewR_of {l : List UInt8} (hl : l.length ≤ 60) : FewR (numR l) (denR l) := by
 unfold FewR numR denR
 by_cases h0 : errL l = 0
 ·rw [if_pos h0, if_pos h0]
  obtain ⟨h1, h2⟩ := errL_dig h0
  refine ⟨?_, ?_⟩
  ·unfold numL
   rw [sgn_abs]
   exact few_ten (valD_lt h1) (Nat.le_trans (absL_len _) (Nat.le_trans (topL_len l) (by omega)))
  ·unfold denL
   by_cases hd : divB l = true
   ·rw [if_pos hd]
    unfold dn
    split
    ·exact limbs_ten (k := 1) (by decide) (by decide)
    ·exact few_ten (valD_lt (h2 hd)) (Nat.le_trans (botL_len l) (by omega))
   ·rw [if_neg hd]
    exact limbs_ten (k := 1) (by decide) (by decide)
 ·rw [if_neg h0, if_neg h0]
  exact ⟨limbs_ten (k := 1) (by decide) (by decide), limbs_ten (k := 1) (by decide) (by decide)⟩
def cmpG (x y : Cut) : Int := or3 (cmpZ x.b y.b) (cmpQ (numR x.s.data.toList) (denR x.s.data.toList) (numR y.s.data.toList) (denR y.s.data.toList)) (cmpZ x.d y.d)
theorem cmpG_self (x : Cut) : cmpG x x = 0 := by
 unfold cmpG cmpQ or3
 rw [(@cmpZ_eq x.b x.b).2 rfl, (@cmpZ_eq x.d x.d).2 rfl, (cmpZ_eq).2 rfl]
 rfl
structure GC where
 c : Cut
 x : Bool
 a : Option Addr
 n : Nat
 cap : Nat
 y : Bool
 e : Option Addr
 m : Nat
 cap2 : Nat
def GC.cells (k : GC) : List Value := [.int .i64 k.c.b, .string k.c.s, .int .i64 k.c.d, .bool k.x, .slice k.a k.n k.cap, .bool k.y, .slice k.e k.m k.cap2]
def GC.agg (k : GC) : Value := .agg #[.int .i64 k.c.b, .string k.c.s, .int .i64 k.c.d, .bool k.x, .slice k.a k.n k.cap, .bool k.y, .slice k.e k.m k.cap2]
def GC.ok (w : World) (k : GC) : Prop := RatV w (.agg #[.bool k.x, .slice k.a k.n k.cap, .bool k.y, .slice k.e k.m k.cap2]) (numR k.c.s.data.toList) (denR k.c.s.data.toList) ∧ (AU w k.a ∧ AU w k.e) ∧ k.c.s.size ≤ 60
theorem GC.ok.mono {w w' : World} {k : GC} (h : k.ok w) (hb : Below w.heap.size w w') : k.ok w' := ⟨h.1.mono hb, ⟨h.2.1.1.mono hb, h.2.1.2.mono hb⟩, h.2.2⟩
theorem RatV.grown {w w' : World} {B e sz n k c k' c' : Nat} {v : Value} {xs : List Value} {x x' : Bool} {a a' : Option Addr} {p q : Int} (h : RatV w (.agg #[.bool x, .slice a k c, .bool x', .slice a' k' c']) p q) (ha : AU w a) (ha' : AU w a') (hown : w.ownsRow B e sz v n xs) (he : e ≠ 62) (hg : w.grownBy w' v.ownBlock) : RatV w' (.agg #[.bool x, .slice a k c, .bool x', .slice a' k' c']) p q :=
 RatV.mk (h.parts.1.grown ha hown he hg) (h.parts.2.grown ha' hown he hg)
theorem GC.ok.grown {w w' : World} {B e sz n : Nat} {v : Value} {xs : List Value} {k : GC} (h : k.ok w) (hown : w.ownsRow B e sz v n xs) (he : e ≠ 62) (hg : w.grownBy w' v.ownBlock) : k.ok w' := ⟨h.1.grown h.2.1.1 h.2.1.2 hown he hg, ⟨h.2.1.1.grown hown he hg, h.2.1.2.grown hown he hg⟩, h.2.2⟩
set_option maxHeartbeats 8000000 in
theorem cutcmp_g (k l : GC) (w : World) (hk : k.ok w) (hl : l.ok w) : Calls Tryz.prog 73 #[k.agg, l.agg] w (Ret (.int .i64 (cmpG k.c l.c)) w) := by
 unfold GC.agg
 obtain ⟨hk, -, hks⟩ := hk
 obtain ⟨hl, -, hls⟩ := hl
 obtain ⟨⟨b, s, d⟩, x, a, n, c, y, e, m, r⟩ := k
 obtain ⟨⟨b', s', d'⟩, x', a', n', c', y', e', m', r'⟩ := l
 dsimp only at hk hl hks hls ⊢
 have hf := fewR_of (l := s.data.toList) (by rw [← Lib.size_eq]; exact hks)
 have hf' := fewR_of (l := s'.data.toList) (by rw [← Lib.size_eq]; exact hls)
 have hA : Blk ((w.alloc (.cells #[.int .i64 b, .string s, .int .i64 d, .bool x, .slice a n c, .bool y, .slice e m r] 79)).alloc (.cells #[.int .i64 b', .string s', .int .i64 d', .bool x', .slice a' n' c', .bool y', .slice e' m' r'] 79)) w.heap.size #[.int .i64 b, .string s, .int .i64 d, .bool x, .slice a n c, .bool y, .slice e m r] 79 := (Blk.new w _ _).old _
 have hB : Blk ((w.alloc (.cells #[.int .i64 b, .string s, .int .i64 d, .bool x, .slice a n c, .bool y, .slice e m r] 79)).alloc (.cells #[.int .i64 b', .string s', .int .i64 d', .bool x', .slice a' n' c', .bool y', .slice e' m' r'] 79)) (w.heap.size + 1) #[.int .i64 b', .string s', .int .i64 d', .bool x', .slice a' n' c', .bool y', .slice e' m' r'] 79 := by
  have h := Blk.new (w.alloc (.cells #[.int .i64 b, .string s, .int .i64 d, .bool x, .slice a n c, .bool y, .slice e m r] 79)) #[.int .i64 b', .string s', .int .i64 d', .bool x', .slice a' n' c', .bool y', .slice e' m' r'] 79
  simpa using h
 have HS := hI (fun w' (hb : Below ((w.alloc (.cells #[.int .i64 b, .string s, .int .i64 d, .bool x, .slice a n c, .bool y, .slice e m r] 79)).alloc (.cells #[.int .i64 b', .string s', .int .i64 d', .bool x', .slice a' n' c', .bool y', .slice e' m' r'] 79)).heap.size ((w.alloc (.cells #[.int .i64 b, .string s, .int .i64 d, .bool x, .slice a n c, .bool y, .slice e m r] 79)).alloc (.cells #[.int .i64 b', .string s', .int .i64 d', .bool x', .slice a' n' c', .bool y', .slice e' m' r'] 79)) w') => And.intro (cells7 hA hb) (cells7 hB hb))
 have H1 := hI (fun w' (hb : Below ((w.alloc (.cells #[.int .i64 b, .string s, .int .i64 d, .bool x, .slice a n c, .bool y, .slice e m r] 79)).alloc (.cells #[.int .i64 b', .string s', .int .i64 d', .bool x', .slice a' n' c', .bool y', .slice e' m' r'] 79)).heap.size ((w.alloc (.cells #[.int .i64 b, .string s, .int .i64 d, .bool x, .slice a n c, .bool y, .slice e m r] 79)).alloc (.cells #[.int .i64 b', .string s', .int .i64 d', .bool x', .slice a' n' c', .bool y', .slice e' m' r'] 79)) w') => rcmp_g _ _ _ _ _ _ w' (hk.mono ((below2 w (.cells #[.int .i64 b, .string s, .int .i64 d, .bool x, .slice a n c, .bool y, .slice e m r] 79) (.cells #[.int .i64 b', .string s', .int .i64 d', .bool x', .slice a' n' c', .bool y', .slice e' m' r'] 79)).via hb (below2 w (.cells #[.int .i64 b, .string s, .int .i64 d, .bool x, .slice a n c, .bool y, .slice e m r] 79) (.cells #[.int .i64 b', .string s', .int .i64 d', .bool x', .slice a' n' c', .bool y', .slice e' m' r'] 79)).size)) (hl.mono ((below2 w (.cells #[.int .i64 b, .string s, .int .i64 d, .bool x, .slice a n c, .bool y, .slice e m r] 79) (.cells #[.int .i64 b', .string s', .int .i64 d', .bool x', .slice a' n' c', .bool y', .slice e' m' r'] 79)).via hb (below2 w (.cells #[.int .i64 b, .string s, .int .i64 d, .bool x, .slice a n c, .bool y, .slice e m r] 79) (.cells #[.int .i64 b', .string s', .int .i64 d', .bool x', .slice a' n' c', .bool y', .slice e' m' r'] 79)).size)) hf hf')
 have H2 := hI (fun p q w' => Tryz.cmp_Compare_int p q w')
 have H3 := hI (fun bb cc p q r w' (hB : Blk w' bb #[.int .i64 p, .int .i64 q, .int .i64 r] 3) => (or_d bb cc p q r w' hB).mono fun _ _ h => h.ret)
 have hE : b = b' → s.toList = s'.toList → d = d' → cmpG ⟨b, s, d⟩ ⟨b', s', d'⟩ = 0 := fun h1 h2 h3 => by
  subst h1 h3; rw [bytes_inj h2]; exact cmpG_self _
 have HE := hI hE
 have HC := hI (show cmpG ⟨b, s, d⟩ ⟨b', s', d'⟩ = or3 (Lib.compareInt b b') (cmpQ (numR s.data.toList) (denR s.data.toList) (numR s'.data.toList) (denR s'.data.toList)) (Lib.compareInt d d') by rw [compareInt_eq, compareInt_eq]; rfl)
 generalize cmpG ⟨b, s, d⟩ ⟨b', s', d'⟩ = R at *
 generalize cmpQ (numR s.data.toList) (denR s.data.toList) (numR s'.data.toList) (denR s'.data.toList) = Z at *
 have HK := hI (below2 w (.cells #[.int .i64 b, .string s, .int .i64 d, .bool x, .slice a n c, .bool y, .slice e m r] 79) (.cells #[.int .i64 b', .string s', .int .i64 d', .bool x', .slice a' n' c', .bool y', .slice e' m' r'] 79))
 clear hk hl hA hB hE hf hf' hks hls
 go_enter Tryz.func73, Tryz.ntmps73
 go_wp2_with fail
 case isTrue.isTrue.isFalse =>
  clear HE
  have hbb : b = b' := by assumption
  subst hbb
  refine wp_region_held_drew (S := (fun w' => w'.cell? ⟨w.heap.size, 0, none⟩ = some (.int .i64 b) ∧ w'.cell? ⟨w.heap.size, 1, none⟩ = some (.string s) ∧ w'.cell? ⟨w.heap.size, 2, none⟩ = some (.int .i64 d) ∧ w'.cell? ⟨w.heap.size, 3, none⟩ = some (.bool x) ∧ w'.cell? ⟨w.heap.size, 4, none⟩ = some (.slice a n c) ∧ w'.cell? ⟨w.heap.size, 5, none⟩ = some (.bool y) ∧ w'.cell? ⟨w.heap.size, 6, none⟩ = some (.slice e m r) ∧ w'.cell? ⟨w.heap.size + 1, 0, none⟩ = some (.int .i64 b) ∧ w'.cell? ⟨w.heap.size + 1, 1, none⟩ = some (.string s') ∧ w'.cell? ⟨w.heap.size + 1, 2, none⟩ = some (.int .i64 d') ∧ w'.cell? ⟨w.heap.size + 1, 3, none⟩ = some (.bool x') ∧ w'.cell? ⟨w.heap.size + 1, 4, none⟩ = some (.slice a' n' c') ∧ w'.cell? ⟨w.heap.size + 1, 5, none⟩ = some (.bool y') ∧ w'.cell? ⟨w.heap.size + 1, 6, none⟩ = some (.slice e' m' r'))) (by kernel_rfl) (by exact (fun h => ⟨h.1.1, h.1.2.1, h.1.2.2.1, h.1.2.2.2.1, h.1.2.2.2.2.1, h.1.2.2.2.2.2.1, h.1.2.2.2.2.2.2, h.2⟩) (HS.out _ ((Below.refl _ _).dn 1))) (fun hHeld => ?_)
  refine wpAnyH_take (i := 0) (v := ?v1) rfl (by kernel_rfl) (by kernel_rfl) (by kernel_rfl) (fun _ _ _ h => h) (Or.inl ⟨by rfl, ?hy1⟩) (by assumption) ?rest1
  case hy1 => (intro w hSw; (try dsimp only at hSw); go_simp; try (with_reducible rfl))
  try simp only [Act.put, List.getElem_toArray, List.getElem_cons_zero, List.setIfInBounds_toArray, List.set_cons_zero, List.set_cons_succ]
  refine' tk 1 ?_; (try simp only [tkS]); refine' tk 2 ?_; (try simp only [tkS]); refine' tk 3 ?_; (try simp only [tkS]); refine' tk 4 ?_; (try simp only [tkS]); refine' tk 5 ?_; (try simp only [tkS]); refine' tk 7 ?_; (try simp only [tkS]); refine' tk 8 ?_; (try simp only [tkS]); refine' tk 9 ?_; (try simp only [tkS]); refine' tk 10 ?_; (try simp only [tkS]); refine' tk 12 ?_; (try simp only [tkS]); refine' tk 13 ?_; (try simp only [tkS]); refine' tk 14 ?_; (try simp only [tkS]); refine' tk 15 ?_; (try simp only [tkS]); refine' tk 16 ?_; (try simp only [tkS]); refine' tk 17 ?_; (try simp only [tkS])
  refine tk1 6 (fun K hK => ?_)
  go_simp
  go_at_call 124
  refine (H2.out b b _).mono ?_
  rintro e5 w5 ⟨rfl, rfl⟩
  refine hK.out _ _ (by exact (fun h => ⟨h.1.1, h.1.2.1, h.1.2.2.1, h.1.2.2.2.1, h.1.2.2.2.2.1, h.1.2.2.2.2.2.1, h.1.2.2.2.2.2.2, h.2⟩) (HS.out _ ((Below.refl _ _).dn 1))) (fun hHeld => ?_)
  clear hK K; (try simp only [tkS])
  refine tk1 11 (fun K hK => ?_)
  go_simp
  go_at_call 64
  refine (H1.out _ ((Below.refl _ _).dn 1)).mono ?_
  rintro e5 w11 ⟨rfl, hb11⟩
  have Hb11 := hI (bw_via ((Below.refl _ _).dn 1) hb11)
  clear hb11
  refine hK.out _ _ (by exact (fun h => ⟨h.1.1, h.1.2.1, h.1.2.2.1, h.1.2.2.2.1, h.1.2.2.2.2.1, h.1.2.2.2.2.2.1, h.1.2.2.2.2.2.2, h.2⟩) (HS.out _ (Hb11.out))) (fun hHeld => ?_)
  clear hK K; (try simp only [tkS])
  refine tk1 18 (fun K hK => ?_)
  go_simp
  go_at_call 124
  refine (H2.out d d' _).mono ?_
  rintro e5 w5 ⟨rfl, rfl⟩
  refine hK.out _ _ (by exact (fun h => ⟨h.1.1, h.1.2.1, h.1.2.2.1, h.1.2.2.2.1, h.1.2.2.2.2.1, h.1.2.2.2.2.2.1, h.1.2.2.2.2.2.2, h.2⟩) (HS.out _ (Hb11.out))) (fun hHeld => ?_)
  clear hK K; (try simp only [tkS])
  refine tk1 19 (fun K hK => ?_)
  generalize hX : Lib.compareInt b b = X1 at *
  generalize hY : Lib.compareInt d d' = X3 at *
  go_simp
  refine hK.out _ _ (by exact (fun h => ⟨h.1.1, h.1.2.1, h.1.2.2.1, h.1.2.2.2.1, h.1.2.2.2.2.1, h.1.2.2.2.2.2.1, h.1.2.2.2.2.2.2, h.2⟩) (HS.out _ ((Hb11.out).alloc ((Hb11.out).size) (.cells #[.int .i64 X1, .int .i64 Z, .int .i64 X3] 3)))) (fun hHeld => ?_)
  clear hK K; (try simp only [tkS])
  refine tk1 20 (fun K hK => ?_)
  go_simp
  go_at_call 123
  refine (H3.out _ _ _ _ _ _ (Blk.new _ _ _)).mono ?_
  rintro e5 w20 ⟨rfl, hb20⟩
  have Hb20 := hI (bw_via ((Hb11.out).alloc ((Hb11.out).size) (.cells #[.int .i64 X1, .int .i64 Z, .int .i64 X3] 3)) hb20)
  clear hb20
  refine hK.out _ _ (by exact (fun h => ⟨h.1.1, h.1.2.1, h.1.2.2.1, h.1.2.2.2.1, h.1.2.2.2.2.1, h.1.2.2.2.2.2.1, h.1.2.2.2.2.2.2, h.2⟩) (HS.out _ (Hb20.out))) (fun hHeld => ?_)
  clear hK K; (try simp only [tkS])
  refine' tk 21 ?_; (try simp only [tkS])
  refine tkD ?_ _
  go_wp2_with fail
  go_ret
  exact ⟨by rw [HC.out]; first | rfl | skip, HK.out.via (Hb20.out) HK.out.size⟩
 case isTrue.isFalse =>
  clear HE
  have hbb : b = b' := by assumption
  subst hbb
  refine wp_region_held_drew (S := (fun w' => w'.cell? ⟨w.heap.size, 0, none⟩ = some (.int .i64 b) ∧ w'.cell? ⟨w.heap.size, 1, none⟩ = some (.string s) ∧ w'.cell? ⟨w.heap.size, 2, none⟩ = some (.int .i64 d) ∧ w'.cell? ⟨w.heap.size, 3, none⟩ = some (.bool x) ∧ w'.cell? ⟨w.heap.size, 4, none⟩ = some (.slice a n c) ∧ w'.cell? ⟨w.heap.size, 5, none⟩ = some (.bool y) ∧ w'.cell? ⟨w.heap.size, 6, none⟩ = some (.slice e m r) ∧ w'.cell? ⟨w.heap.size + 1, 0, none⟩ = some (.int .i64 b) ∧ w'.cell? ⟨w.heap.size + 1, 1, none⟩ = some (.string s') ∧ w'.cell? ⟨w.heap.size + 1, 2, none⟩ = some (.int .i64 d') ∧ w'.cell? ⟨w.heap.size + 1, 3, none⟩ = some (.bool x') ∧ w'.cell? ⟨w.heap.size + 1, 4, none⟩ = some (.slice a' n' c') ∧ w'.cell? ⟨w.heap.size + 1, 5, none⟩ = some (.bool y') ∧ w'.cell? ⟨w.heap.size + 1, 6, none⟩ = some (.slice e' m' r'))) (by kernel_rfl) (by exact (fun h => ⟨h.1.1, h.1.2.1, h.1.2.2.1, h.1.2.2.2.1, h.1.2.2.2.2.1, h.1.2.2.2.2.2.1, h.1.2.2.2.2.2.2, h.2⟩) (HS.out _ ((Below.refl _ _).dn 1))) (fun hHeld => ?_)
  refine wpAnyH_take (i := 0) (v := ?v18) rfl (by kernel_rfl) (by kernel_rfl) (by kernel_rfl) (fun _ _ _ h => h) (Or.inl ⟨by rfl, ?hy18⟩) (by assumption) ?rest18
  case hy18 => (intro w hSw; (try dsimp only at hSw); go_simp; try (with_reducible rfl))
  try simp only [Act.put, List.getElem_toArray, List.getElem_cons_zero, List.setIfInBounds_toArray, List.set_cons_zero, List.set_cons_succ]
  refine' tk 1 ?_; (try simp only [tkS]); refine' tk 2 ?_; (try simp only [tkS]); refine' tk 3 ?_; (try simp only [tkS]); refine' tk 4 ?_; (try simp only [tkS]); refine' tk 5 ?_; (try simp only [tkS]); refine' tk 7 ?_; (try simp only [tkS]); refine' tk 8 ?_; (try simp only [tkS]); refine' tk 9 ?_; (try simp only [tkS]); refine' tk 10 ?_; (try simp only [tkS]); refine' tk 12 ?_; (try simp only [tkS]); refine' tk 13 ?_; (try simp only [tkS]); refine' tk 14 ?_; (try simp only [tkS]); refine' tk 15 ?_; (try simp only [tkS]); refine' tk 16 ?_; (try simp only [tkS]); refine' tk 17 ?_; (try simp only [tkS])
  refine tk1 6 (fun K hK => ?_)
  go_simp
  go_at_call 124
  refine (H2.out b b _).mono ?_
  rintro e5 w5 ⟨rfl, rfl⟩
  refine hK.out _ _ (by exact (fun h => ⟨h.1.1, h.1.2.1, h.1.2.2.1, h.1.2.2.2.1, h.1.2.2.2.2.1, h.1.2.2.2.2.2.1, h.1.2.2.2.2.2.2, h.2⟩) (HS.out _ ((Below.refl _ _).dn 1))) (fun hHeld => ?_)
  clear hK K; (try simp only [tkS])
  refine tk1 11 (fun K hK => ?_)
  go_simp
  go_at_call 64
  refine (H1.out _ ((Below.refl _ _).dn 1)).mono ?_
  rintro e5 w11 ⟨rfl, hb11⟩
  have Hb11 := hI (bw_via ((Below.refl _ _).dn 1) hb11)
  clear hb11
  refine hK.out _ _ (by exact (fun h => ⟨h.1.1, h.1.2.1, h.1.2.2.1, h.1.2.2.2.1, h.1.2.2.2.2.1, h.1.2.2.2.2.2.1, h.1.2.2.2.2.2.2, h.2⟩) (HS.out _ (Hb11.out))) (fun hHeld => ?_)
  clear hK K; (try simp only [tkS])
  refine tk1 18 (fun K hK => ?_)
  go_simp
  go_at_call 124
  refine (H2.out d d' _).mono ?_
  rintro e5 w5 ⟨rfl, rfl⟩
  refine hK.out _ _ (by exact (fun h => ⟨h.1.1, h.1.2.1, h.1.2.2.1, h.1.2.2.2.1, h.1.2.2.2.2.1, h.1.2.2.2.2.2.1, h.1.2.2.2.2.2.2, h.2⟩) (HS.out _ (Hb11.out))) (fun hHeld => ?_)
  clear hK K; (try simp only [tkS])
  refine tk1 19 (fun K hK => ?_)
  generalize hX : Lib.compareInt b b = X1 at *
  generalize hY : Lib.compareInt d d' = X3 at *
  go_simp
  refine hK.out _ _ (by exact (fun h => ⟨h.1.1, h.1.2.1, h.1.2.2.1, h.1.2.2.2.1, h.1.2.2.2.2.1, h.1.2.2.2.2.2.1, h.1.2.2.2.2.2.2, h.2⟩) (HS.out _ ((Hb11.out).alloc ((Hb11.out).size) (.cells #[.int .i64 X1, .int .i64 Z, .int .i64 X3] 3)))) (fun hHeld => ?_)
  clear hK K; (try simp only [tkS])
  refine tk1 20 (fun K hK => ?_)
  go_simp
  go_at_call 123
  refine (H3.out _ _ _ _ _ _ (Blk.new _ _ _)).mono ?_
  rintro e5 w20 ⟨rfl, hb20⟩
  have Hb20 := hI (bw_via ((Hb11.out).alloc ((Hb11.out).size) (.cells #[.int .i64 X1, .int .i64 Z, .int .i64 X3] 3)) hb20)
  clear hb20
  refine hK.out _ _ (by exact (fun h => ⟨h.1.1, h.1.2.1, h.1.2.2.1, h.1.2.2.2.1, h.1.2.2.2.2.1, h.1.2.2.2.2.2.1, h.1.2.2.2.2.2.2, h.2⟩) (HS.out _ (Hb20.out))) (fun hHeld => ?_)
  clear hK K; (try simp only [tkS])
  refine' tk 21 ?_; (try simp only [tkS])
  refine tkD ?_ _
  go_wp2_with fail
  go_ret
  exact ⟨by rw [HC.out]; first | rfl | skip, HK.out.via (Hb20.out) HK.out.size⟩
 case isFalse =>
  clear HE
  refine wp_region_held_drew (S := (fun w' => w'.cell? ⟨w.heap.size, 0, none⟩ = some (.int .i64 b) ∧ w'.cell? ⟨w.heap.size, 1, none⟩ = some (.string s) ∧ w'.cell? ⟨w.heap.size, 2, none⟩ = some (.int .i64 d) ∧ w'.cell? ⟨w.heap.size, 3, none⟩ = some (.bool x) ∧ w'.cell? ⟨w.heap.size, 4, none⟩ = some (.slice a n c) ∧ w'.cell? ⟨w.heap.size, 5, none⟩ = some (.bool y) ∧ w'.cell? ⟨w.heap.size, 6, none⟩ = some (.slice e m r) ∧ w'.cell? ⟨w.heap.size + 1, 0, none⟩ = some (.int .i64 b') ∧ w'.cell? ⟨w.heap.size + 1, 1, none⟩ = some (.string s') ∧ w'.cell? ⟨w.heap.size + 1, 2, none⟩ = some (.int .i64 d') ∧ w'.cell? ⟨w.heap.size + 1, 3, none⟩ = some (.bool x') ∧ w'.cell? ⟨w.heap.size + 1, 4, none⟩ = some (.slice a' n' c') ∧ w'.cell? ⟨w.heap.size + 1, 5, none⟩ = some (.bool y') ∧ w'.cell? ⟨w.heap.size + 1, 6, none⟩ = some (.slice e' m' r'))) (by kernel_rfl) (by exact (fun h => ⟨h.1.1, h.1.2.1, h.1.2.2.1, h.1.2.2.2.1, h.1.2.2.2.2.1, h.1.2.2.2.2.2.1, h.1.2.2.2.2.2.2, h.2⟩) (HS.out _ ((Below.refl _ _).dn 1))) (fun hHeld => ?_)
  refine wpAnyH_take (i := 0) (v := ?v35) rfl (by kernel_rfl) (by kernel_rfl) (by kernel_rfl) (fun _ _ _ h => h) (Or.inl ⟨by rfl, ?hy35⟩) (by assumption) ?rest35
  case hy35 => (intro w hSw; (try dsimp only at hSw); go_simp; try (with_reducible rfl))
  try simp only [Act.put, List.getElem_toArray, List.getElem_cons_zero, List.setIfInBounds_toArray, List.set_cons_zero, List.set_cons_succ]
  refine' tk 1 ?_; (try simp only [tkS]); refine' tk 2 ?_; (try simp only [tkS]); refine' tk 3 ?_; (try simp only [tkS]); refine' tk 4 ?_; (try simp only [tkS]); refine' tk 5 ?_; (try simp only [tkS]); refine' tk 7 ?_; (try simp only [tkS]); refine' tk 8 ?_; (try simp only [tkS]); refine' tk 9 ?_; (try simp only [tkS]); refine' tk 10 ?_; (try simp only [tkS]); refine' tk 12 ?_; (try simp only [tkS]); refine' tk 13 ?_; (try simp only [tkS]); refine' tk 14 ?_; (try simp only [tkS]); refine' tk 15 ?_; (try simp only [tkS]); refine' tk 16 ?_; (try simp only [tkS]); refine' tk 17 ?_; (try simp only [tkS])
  refine tk1 6 (fun K hK => ?_)
  go_simp
  go_at_call 124
  refine (H2.out b b' _).mono ?_
  rintro e5 w5 ⟨rfl, rfl⟩
  refine hK.out _ _ (by exact (fun h => ⟨h.1.1, h.1.2.1, h.1.2.2.1, h.1.2.2.2.1, h.1.2.2.2.2.1, h.1.2.2.2.2.2.1, h.1.2.2.2.2.2.2, h.2⟩) (HS.out _ ((Below.refl _ _).dn 1))) (fun hHeld => ?_)
  clear hK K; (try simp only [tkS])
  refine tk1 11 (fun K hK => ?_)
  go_simp
  go_at_call 64
  refine (H1.out _ ((Below.refl _ _).dn 1)).mono ?_
  rintro e5 w11 ⟨rfl, hb11⟩
  have Hb11 := hI (bw_via ((Below.refl _ _).dn 1) hb11)
  clear hb11
  refine hK.out _ _ (by exact (fun h => ⟨h.1.1, h.1.2.1, h.1.2.2.1, h.1.2.2.2.1, h.1.2.2.2.2.1, h.1.2.2.2.2.2.1, h.1.2.2.2.2.2.2, h.2⟩) (HS.out _ (Hb11.out))) (fun hHeld => ?_)
  clear hK K; (try simp only [tkS])
  refine tk1 18 (fun K hK => ?_)
  go_simp
  go_at_call 124
  refine (H2.out d d' _).mono ?_
  rintro e5 w5 ⟨rfl, rfl⟩
  refine hK.out _ _ (by exact (fun h => ⟨h.1.1, h.1.2.1, h.1.2.2.1, h.1.2.2.2.1, h.1.2.2.2.2.1, h.1.2.2.2.2.2.1, h.1.2.2.2.2.2.2, h.2⟩) (HS.out _ (Hb11.out))) (fun hHeld => ?_)
  clear hK K; (try simp only [tkS])
  refine tk1 19 (fun K hK => ?_)
  generalize hX : Lib.compareInt b b' = X1 at *
  generalize hY : Lib.compareInt d d' = X3 at *
  go_simp
  refine hK.out _ _ (by exact (fun h => ⟨h.1.1, h.1.2.1, h.1.2.2.1, h.1.2.2.2.1, h.1.2.2.2.2.1, h.1.2.2.2.2.2.1, h.1.2.2.2.2.2.2, h.2⟩) (HS.out _ ((Hb11.out).alloc ((Hb11.out).size) (.cells #[.int .i64 X1, .int .i64 Z, .int .i64 X3] 3)))) (fun hHeld => ?_)
  clear hK K; (try simp only [tkS])
  refine tk1 20 (fun K hK => ?_)
  go_simp
  go_at_call 123
  refine (H3.out _ _ _ _ _ _ (Blk.new _ _ _)).mono ?_
  rintro e5 w20 ⟨rfl, hb20⟩
  have Hb20 := hI (bw_via ((Hb11.out).alloc ((Hb11.out).size) (.cells #[.int .i64 X1, .int .i64 Z, .int .i64 X3] 3)) hb20)
  clear hb20
  refine hK.out _ _ (by exact (fun h => ⟨h.1.1, h.1.2.1, h.1.2.2.1, h.1.2.2.2.1, h.1.2.2.2.2.1, h.1.2.2.2.2.2.1, h.1.2.2.2.2.2.2, h.2⟩) (HS.out _ (Hb20.out))) (fun hHeld => ?_)
  clear hK K; (try simp only [tkS])
  refine' tk 21 ?_; (try simp only [tkS])
  refine tkD ?_ _
  go_wp2_with fail
  go_ret
  exact ⟨by rw [HC.out]; first | rfl | skip, HK.out.via (Hb20.out) HK.out.size⟩
 have hcc : R = 0 := HE.out (by assumption) (by assumption) (by assumption)
 rw [hcc]
 go_ret
 exact ⟨rfl, below2 w _ _⟩
end Go.Proofs.YtacihodamichhaaGreatDoor
namespace Go.Proofs.YtacihodamichhaaGreatDoor
open Go.RowKit
theorem limbs10_le {N k : Nat} (h : N < 10 ^ k) : (D10.limbs N).length ≤ k := by
 rcases Nat.lt_or_ge k (D10.limbs N).length with h3 | h3
 ·exfalso
  have h0 : N ≠ 0 := fun e => by rw [e, D10.limbs_zero] at h3; simp at h3
  have h4 := D10.limbs_pow h0
  have h5 : (D10.limbs N).length - 1 < k := (Nat.pow_lt_pow_iff_right (by decide)).1 (Nat.lt_of_le_of_lt h4 h)
  omega
 ·exact h3
theorem err_parts {l : List UInt8} (h : errL l = 0) (hl : l.length ≤ 60) : topL l = txtZ (numL l) ∧ (numL l).natAbs < 10 ^ 60 ∧ ∃ D : Nat, denT l = txtZ (D : Int) ∧ dn (denL l : Int) = (D : Int) ∧ D < 10 ^ 60 := by
 have hr := errR_eq l
 rw [h] at hr
 unfold errL at h
 by_cases h1 : digB (absL (topL l)) = true
 ·by_cases h6 : badI (absL (topL l)) (negB (topL l)) = true
  ·exfalso
   by_cases h2 : divB l = true
   ·by_cases h3 : digB (botL l) = true
    ·by_cases h4 : zerB (botL l) = true
     ·simp [h1, h2, h3, h4] at h
     ·simp [h1, h2, h3, h4, h6] at h
    ·simp [h1, h2, h3] at h
   ·simp [h1, h2, h6] at h
  ·simp only [Bool.not_eq_true] at h6
   have hd := (digB_iff.1 h1).2
   have ht : (absL (topL l)).length ≤ 60 := Nat.le_trans (absL_len _) (Nat.le_trans (topL_len l) hl)
   refine ⟨canon_top h1 h6, ?_, ?_⟩
   ·unfold numL
    rw [sgn_abs]
    exact Nat.lt_of_lt_of_le (valD_lt hd) (Nat.pow_le_pow_right (by decide) ht)
   ·by_cases h2 : divB l = true
    ·unfold denT denL
     rw [if_pos h2, if_pos h2]
     by_cases h3 : digB (botL l) = true
     ·by_cases h7 : badI (botL l) false = true
      ·exfalso
       by_cases h4 : zerB (botL l) = true
       ·simp [h1, h2, h3, h4] at h
       ·simp [h1, h2, h3, h4, h6, h7] at h
      ·simp only [Bool.not_eq_true] at h7
       have h4 : zerB (botL l) = false := by
        cases h4 : zerB (botL l) with
        | false => rfl
        | true => simp [h1, h2, h3, h4] at h
       have hh : (botL l).head? ≠ some 48 := by
        have := head_bad h3 h4
        rw [h7, beq_eq_false_iff_ne] at this
        exact this
       have hb : (botL l).length ≤ 60 := Nat.le_trans (botL_len l) hl
       refine ⟨valD (botL l), by rw [txtZ_nat]; exact canon_den h3 hh, ?_, Nat.lt_of_lt_of_le (valD_lt (digB_iff.1 h3).2) (Nat.pow_le_pow_right (by decide) hb)⟩
       have hne : valD (botL l) ≠ 0 := by
        intro e
        have hc := canon_den h3 hh
        rw [e, txtN_zero] at hc
        exact hh (by rw [hc]; rfl)
       unfold dn
       rw [if_neg (by omega)]
     ·exfalso
      simp [h1, h2, h3] at h
    ·unfold denT denL
     rw [if_neg h2, if_neg h2]
     exact ⟨1, by rw [txtZ_nat, txtN_one], rfl, by decide⟩
 ·exfalso
  simp [h1] at h
theorem num_of {l : List UInt8} (h : errL l = 0) : numR l = numL l ∧ denR l = (denL l : Int) := by
 unfold numR denR
 rw [if_pos h, if_pos h]
 exact ⟨rfl, rfl⟩
theorem mul_few {x : Int} {D : Nat} (h : x.natAbs < 10 ^ 60) (hD : D < 10 ^ 60) : Few10 (x * (D : Int)).natAbs := by
 rw [Int.natAbs_mul, Int.natAbs_natCast]
 refine few10_lt (k := 120) ?_ (by decide)
 exact Nat.lt_of_lt_of_le (Nat.mul_lt_mul'' h hD) (by decide)
set_option maxHeartbeats 4000000 in
theorem qcmp_any (l m : List UInt8) (w : World) (hl : l.length ≤ 60) (hm : m.length ≤ 60) (h : errL l = 0) (h' : errL m = 0) : Calls Tryz.prog 22 #[.string ⟨l.toArray⟩, .string ⟨m.toArray⟩] w (Ret (.int .i64 (cmpQ (numR l) (denR l) (numR m) (denR m))) w) := by
 obtain ⟨t1, f1, D, b1, e1, g1⟩ := err_parts h hl
 obtain ⟨t2, f2, E, b2, e2, g2⟩ := err_parts h' hm
 rw [(num_of h).1, (num_of h).2, (num_of h').1, (num_of h').2]
 unfold cmpQ
 rw [e1, e2]
 have H1 := hI (fun w' => qparts_any l w' (by omega))
 have H2 := hI (fun w' => qparts_any m w' (by omega))
 rw [t1, b1] at H1
 rw [t2, b2] at H2
 have H3 := hI (fun w' => zmul_any (numL l) (E : Int) w' (Nat.le_trans (limbs10_le f1) (by decide)) (Nat.le_trans (limbs10_le (by rw [Int.natAbs_natCast]; exact g2)) (by decide)))
 have H4 := hI (fun w' => zmul_any (numL m) (D : Int) w' (Nat.le_trans (limbs10_le f2) (by decide)) (Nat.le_trans (limbs10_le (by rw [Int.natAbs_natCast]; exact g1)) (by decide)))
 have H5 := hI (fun w' => zcmp_any (numL l * (E : Int)) (numL m * (D : Int)) w' (mul_few f1 g2) (mul_few f2 g1))
 generalize cmpZ (numL l * (E : Int)) (numL m * (D : Int)) = R at *
 generalize (⟨(txtZ (numL l * (E : Int))).toArray⟩ : ByteArray) = P1 at *
 generalize (⟨(txtZ (numL m * (D : Int))).toArray⟩ : ByteArray) = P2 at *
 generalize (⟨(txtZ (numL l)).toArray⟩ : ByteArray) = N1 at *
 generalize (⟨(txtZ (numL m)).toArray⟩ : ByteArray) = N2 at *
 generalize (⟨(txtZ (D : Int)).toArray⟩ : ByteArray) = S1 at *
 generalize (⟨(txtZ (E : Int)).toArray⟩ : ByteArray) = S2 at *
 generalize (⟨l.toArray⟩ : ByteArray) = L at *
 generalize (⟨m.toArray⟩ : ByteArray) = M at *
 clear t1 t2 b1 b2 e1 e2 f1 f2 g1 g2 h h' hl hm
 go_enter Tryz.func22, Tryz.ntmps22
 go_wp2_with (first
  | (have _t := Hb1; clear _t; go_at_call 65; refine (H2.out _).mono ?_; rintro e w2 ⟨rfl, hb2⟩; have Hb2 := hI (bw_via Hb1.out hb2); clear hb2)
  | (go_at_call 65; refine (H1.out _).mono ?_; rintro e w1 ⟨rfl, hb1⟩; have Hb1 := hI hb1; clear hb1)
  | (have _t := Hb3; clear _t; go_at_call 71; refine (H4.out _).mono ?_; rintro e w4 ⟨rfl, hb4⟩; have Hb4 := hI (bw_via Hb3.out hb4); clear hb4)
  | (go_at_call 71; refine (H3.out _).mono ?_; rintro e w3 ⟨rfl, hb3⟩; have Hb3 := hI (bw_via Hb2.out hb3); clear hb3)
  | (go_at_call 70; refine (H5.out _).mono ?_; rintro e w5 ⟨rfl, hb5⟩))
 go_ret
 exact ⟨rfl, bw_via Hb4.out hb5⟩
end Go.Proofs.YtacihodamichhaaGreatDoor
