/-
  Parts of the proof: Cut, Rat, Rat2, Rat3.
-/
import Derived.Test.YtacihodamichhaaGreatDoorU06
namespace Go.Proofs.YtacihodamichhaaGreatDoor
open Go.RowKit
def natS (l : List UInt8) : Nat := l.foldl (fun n c => n * 10 + (c.toNat - 48)) 0
def valS : List UInt8 → Int
 | [] => 0
 | c :: r => if c = 45 then -(natS r : Int) else natS (c :: r)
def val (s : ByteArray) : Int := valS s.data.toList
structure Cut where
 b : Int
 s : ByteArray
 d : Int
def or3 (x y z : Int) : Int := if x ≠ 0 then x else if y ≠ 0 then y else z
def cmpC (x y : Cut) : Int := or3 (cmpZ x.b y.b) (cmpZ (val x.s) (val y.s)) (cmpZ x.d y.d)
theorem cmpZ_lt {a b : Int} : cmpZ a b < 0 ↔ a < b := by
 unfold cmpZ; split
 ·simp [*]
 ·split <;> simp <;> omega
theorem cmpZ_eq {a b : Int} : cmpZ a b = 0 ↔ a = b := by
 unfold cmpZ; split
 ·simp; omega
 ·split <;> simp <;> omega
theorem cmpZ_neg (a b : Int) : cmpZ b a = -cmpZ a b := by
 unfold cmpZ; split <;> split <;> first | rfl | omega | (split <;> first | rfl | omega)
def CLt (x y : Cut) : Prop := x.b < y.b ∨ (x.b = y.b ∧ (val x.s < val y.s ∨ (val x.s = val y.s ∧ x.d < y.d)))
instance (x y : Cut) : Decidable (CLt x y) := by unfold CLt; infer_instance
theorem cmpC_lt {x y : Cut} : cmpC x y < 0 ↔ CLt x y := by
 have a := @cmpZ_lt x.b y.b; have a' := @cmpZ_eq x.b y.b; have b := @cmpZ_lt (val x.s) (val y.s); have b' := @cmpZ_eq (val x.s) (val y.s); have c := @cmpZ_lt x.d y.d
 unfold cmpC or3 CLt
 split
 ·omega
 ·split <;> omega
theorem cmpC_neg (x y : Cut) : cmpC y x = -cmpC x y := by
 have a := cmpZ_neg x.b y.b; have b := cmpZ_neg (val x.s) (val y.s); have c := cmpZ_neg x.d y.d
 unfold cmpC or3
 rw [a, b, c]
 split <;> split <;> (try split) <;> (try split) <;> omega
theorem cmpC_gt {x y : Cut} : 0 < cmpC x y ↔ CLt y x := by
 rw [← cmpC_lt, cmpC_neg y x]; omega
theorem CLt.trans {x y z : Cut} (h : CLt x y) (k : CLt y z) : CLt x z := by unfold CLt at *; omega
theorem CLt.irrefl (x : Cut) : ¬ CLt x x := by unfold CLt; omega
theorem cmpC_self (x : Cut) : cmpC x x = 0 := by
 have a := (@cmpZ_eq x.b x.b).2 rfl; have b := (@cmpZ_eq (val x.s) (val x.s)).2 rfl; have c := (@cmpZ_eq x.d x.d).2 rfl
 unfold cmpC or3; rw [a, b, c]; rfl
theorem CLt.ntrans {x y z : Cut} (h : ¬ CLt x y) (k : ¬ CLt y z) : ¬ CLt x z := by unfold CLt at *; omega
end Go.Proofs.YtacihodamichhaaGreatDoor
namespace Go.Proofs.YtacihodamichhaaGreatDoor
open Go.RowKit
def RatV (w : World) (v : Value) (p q : Int) : Prop := ∃ x a n c x' a' n' c', v = .agg #[.bool x, .slice a n c, .bool x', .slice a' n' c'] ∧ IntV w (.agg #[.bool x, .slice a n c]) p ∧ IntV w (.agg #[.bool x', .slice a' n' c']) q
theorem RatV.mono {w w' : World} {v : Value} {p q : Int} (h : RatV w v p q) (hb : Below w.heap.size w w') : RatV w' v p q := by
 obtain ⟨x, a, n, c, x', a', n', c', hv, h1, h2⟩ := h
 exact ⟨x, a, n, c, x', a', n', c', hv, h1.mono hb, h2.mono hb⟩
theorem IntV.zero (w : World) : IntV w (.agg #[.bool false, .slice none 0 0]) 0 := by
 have h0 : limbs (Int.natAbs 0) = [] := limbs_zero
 exact ⟨none, 0, by rw [h0]; rfl, by rw [h0]; exact Ls.nil w⟩
theorem put_below {B b : Nat} {w w1 : World} (x : Bool) (a : Option Addr) (k c : Nat) (h : Below B w w1) (hB : B ≤ b) : Below B w ((w1.setCell ⟨b, 0, none⟩ (.bool x)).setCell ⟨b, 1, none⟩ (.slice a k c)) :=
 (h.setCell (p := ⟨b, 0, none⟩) hB _).setCell (p := ⟨b, 1, none⟩) hB _
theorem bw_via {a b c : World} (h : Below a.heap.size a b) (k : Below b.heap.size b c) : Below a.heap.size a c := h.via k h.size
theorem cells4 {w w' : World} {b : Nat} {x0 x1 x2 x3 : Value} {T : TypeId} (h : Blk w b #[x0, x1, x2, x3] T) (hb : Below w.heap.size w w') :
  w'.cell? ⟨b, 0, none⟩ = some x0 ∧ w'.cell? ⟨b, 1, none⟩ = some x1 ∧ w'.cell? ⟨b, 2, none⟩ = some x2 ∧ w'.cell? ⟨b, 3, none⟩ = some x3 := by
 have h' := h.below hb
 exact ⟨by rw [h'.cell]; rfl, by rw [h'.cell]; rfl, by rw [h'.cell]; rfl, by rw [h'.cell]; rfl⟩
theorem cell_keep {W W' : World} {p : Addr} {v : Value} (hb : Below W.heap.size W W') (h : W.cell? p = some v) : W'.cell? p = some v := by
 rcases p with ⟨b, o, x⟩
 have hlt : b < W.heap.size := World.block_lt_of_cell? W _ h
 have := hb.block b hlt
 unfold World.cell? at *
 simp only [this]
 exact h
set_option maxHeartbeats 1000000 in
theorem one_any (w : World) : Calls Tryz.prog 141 #[] w (RetP (fun v w' => IntV w' v 1) w) := by
 have H := hI (fun w' => from_any 1 w' (by decide) (by decide))
 have hR := Blk.new w #[.bool false, .slice none 0 0] 75
 have HR := hI hR
 clear hR
 go_enter Tryz.func141, Tryz.ntmps141
 go_wp2_with (go_at_call 108; refine (H.out _).mono ?_; rintro e w1 ⟨v, rfl, hv, hb⟩; obtain ⟨x, a, k, c, rfl, hv⟩ := hv.open; have hr := HR.out.below hb; obtain ⟨⟨r0, r1⟩, f0, f1⟩ := blk2v hr; obtain ⟨hv6, hb6⟩ := IntV.put2 hv hr; have Hv6 := hI hv6; have Hb6 := hI hb6; have Hbel := hI (put_below x a k c ((below1 w (.cells #[.bool false, .slice none 0 0] 75)).via hb (below1 w _).size) (Nat.le_refl w.heap.size)); clear hr hv6 hb6 hb hv)
 obtain ⟨⟨q0, q1⟩, -⟩ := blk2v Hb6.out
 exact bodyPost_ret (v := .agg #[.bool x, .slice a k c]) (by simp [results, Tryz.results141, go_sem, q0, q1]) rfl ⟨_, rfl, Hv6.out, Hbel.out⟩
set_option maxHeartbeats 2000000 in
theorem whole_d (v : Value) (p : Int) (w : World) (h : RatV w v p 0) : Calls Tryz.prog 109 #[v] w (RetD (.bool true) w) := by
 obtain ⟨x, a, n, c, x', a', n', c', rfl, h1, h2⟩ := h
 have hB := Blk.new w #[.bool x, .slice a n c, .bool x', .slice a' n' c'] 77
 have HS := hI (fun w' (hb : Below (w.alloc (.cells #[.bool x, .slice a n c, .bool x', .slice a' n' c'] 77)).heap.size (w.alloc (.cells #[.bool x, .slice a n c, .bool x', .slice a' n' c'] 77)) w') => cells4 hB hb)
 have HV := hI (fun w' (hb : Below (w.alloc (.cells #[.bool x, .slice a n c, .bool x', .slice a' n' c'] 77)).heap.size (w.alloc (.cells #[.bool x, .slice a n c, .bool x', .slice a' n' c'] 77)) w') => h2.mono ((below1 w _).via hb (below1 w _).size))
 have H1 := hI (fun w' (hb : BD (w.alloc (.cells #[.bool x, .slice a n c, .bool x', .slice a' n' c'] 77)) w') => sign_d _ 0 w' (HV.out _ hb.1))
 rw [show Int.sign 0 = 0 from rfl] at H1
 clear h1 h2 hB
 go_enter Tryz.func109, Tryz.ntmps109
 go_wp2_with fail
 refine wp_region_held_drew (S := (fun w' => w'.cell? ⟨w.heap.size, 0, none⟩ = some (.bool x) ∧ w'.cell? ⟨w.heap.size, 1, none⟩ = some (.slice a n c) ∧ w'.cell? ⟨w.heap.size, 2, none⟩ = some (.bool x') ∧ w'.cell? ⟨w.heap.size, 3, none⟩ = some (.slice a' n' c'))) (by kernel_rfl) (by exact HS.out _ ((BD.refl _).dn 1).1) (fun hHeld => ?_)
 refine wpAnyH_take (i := 0) (v := ?v1) rfl (by kernel_rfl) (by kernel_rfl) (by kernel_rfl) (fun _ _ _ h => h) (Or.inl ⟨by rfl, ?hy1⟩) (by assumption) ?rest1
 case hy1 => (intro w hSw; (try dsimp only at hSw); go_simp; try (with_reducible rfl))
 try simp only [Act.put, List.getElem_toArray, List.getElem_cons_zero, List.setIfInBounds_toArray, List.set_cons_zero, List.set_cons_succ]
 refine' tk 1 ?_; (try simp only [tkS])
 refine tk1 2 (fun K hK => ?_)
 go_simp
 go_at_call 131
 refine (H1.out _ ((BD.refl _).dn 1)).mono ?_
 rintro e5 w2 ⟨rfl, hb2⟩
 have Hb2 := hI (((BD.refl _).dn 1).via hb2)
 clear hb2
 refine hK.out _ _ (by exact HS.out _ (Hb2.out).1) (fun hHeld => ?_)
 clear hK K; (try simp only [tkS])
 refine' tk 3 ?_; (try simp only [tkS]); refine' tk 4 ?_; (try simp only [tkS]); refine' tkU 5 ?_; (try simp only [tkS]); refine' tkU 6 ?_; (try simp only [tkS]); refine' tkU 7 ?_; (try simp only [tkS]); refine' tkU 8 ?_; (try simp only [tkS]); refine' tkU 9 ?_; (try simp only [tkS]); refine' tk 10 ?_; (try simp only [tkS]); refine' tk 11 ?_; (try simp only [tkS])
 refine tkD ?_ _
 go_wp2_with fail
 go_ret
 exact ⟨rfl, (bd1 w _).via Hb2.out⟩
set_option maxHeartbeats 2000000 in
theorem whole_q (v : Value) (p q : Int) (w : World) (h : RatV w v p q) (h0 : q ≠ 0) : Calls Tryz.prog 109 #[v] w (Ret (.bool (decide (q = 1))) w) := by
 obtain ⟨x, a, n, c, x', a', n', c', rfl, h1, h2⟩ := h
 have hB := Blk.new w #[.bool x, .slice a n c, .bool x', .slice a' n' c'] 77
 have HS := hI (fun w' (hb : Below (w.alloc (.cells #[.bool x, .slice a n c, .bool x', .slice a' n' c'] 77)).heap.size (w.alloc (.cells #[.bool x, .slice a n c, .bool x', .slice a' n' c'] 77)) w') => cells4 hB hb)
 have HV := hI (fun w' (hb : Below (w.alloc (.cells #[.bool x, .slice a n c, .bool x', .slice a' n' c'] 77)).heap.size (w.alloc (.cells #[.bool x, .slice a n c, .bool x', .slice a' n' c'] 77)) w') => h2.mono ((below1 w _).via hb (below1 w _).size))
 have hsg : ((q.sign : Int) == 0) = false := by simpa using h0
 have H1 := hI (fun w' (hb : Below (w.alloc (.cells #[.bool x, .slice a n c, .bool x', .slice a' n' c'] 77)).heap.size (w.alloc (.cells #[.bool x, .slice a n c, .bool x', .slice a' n' c'] 77)) w') => sign_any _ q w' (HV.out _ hb))
 have H2 := hI (fun w' => one_any w')
 have H3 := hI (fun w' u (hb : Below (w.alloc (.cells #[.bool x, .slice a n c, .bool x', .slice a' n' c'] 77)).heap.size (w.alloc (.cells #[.bool x, .slice a n c, .bool x', .slice a' n' c'] 77)) w') (hu : IntV w' u 1) => compare_any _ _ q 1 w' (HV.out _ hb) hu)
 have hc : (cmpZ q 1 == 0) = decide (q = 1) := by
  have := @cmpZ_eq q 1
  rw [Bool.eq_iff_iff]; simp [this]
 rw [← hc]
 generalize q.sign = sg at *
 generalize cmpZ q 1 = cz at *
 clear h1 h2 hB hc h0
 go_enter Tryz.func109, Tryz.ntmps109
 go_wp2_with fail
 refine wp_region_held_drew (S := (fun w' => w'.cell? ⟨w.heap.size, 0, none⟩ = some (.bool x) ∧ w'.cell? ⟨w.heap.size, 1, none⟩ = some (.slice a n c) ∧ w'.cell? ⟨w.heap.size, 2, none⟩ = some (.bool x') ∧ w'.cell? ⟨w.heap.size, 3, none⟩ = some (.slice a' n' c'))) (by kernel_rfl) (by exact HS.out _ ((Below.refl _ _).dn 1)) (fun hHeld => ?_)
 refine wpAnyH_take (i := 0) (v := ?v12) rfl (by kernel_rfl) (by kernel_rfl) (by kernel_rfl) (fun _ _ _ h => h) (Or.inl ⟨by rfl, ?hy12⟩) (by assumption) ?rest12
 case hy12 => (intro w hSw; (try dsimp only at hSw); go_simp; try (with_reducible rfl))
 try simp only [Act.put, List.getElem_toArray, List.getElem_cons_zero, List.setIfInBounds_toArray, List.set_cons_zero, List.set_cons_succ]
 refine' tk 1 ?_; (try simp only [tkS])
 refine tk1 2 (fun K hK => ?_)
 go_simp
 go_at_call 131
 refine (H1.out _ ((Below.refl _ _).dn 1)).mono ?_
 rintro e5 w2 ⟨rfl, hb2⟩
 have Hb2 := hI (bw_via ((Below.refl _ _).dn 1) hb2)
 clear hb2
 refine hK.out _ _ (by exact HS.out _ (Hb2.out)) (fun hHeld => ?_)
 clear hK K; (try simp only [tkS])
 refine' tk 3 ?_; (try simp only [tkS]); refine' tk 4 ?_; (try simp only [tkS]); refine' tk 5 ?_; (try simp only [tkS]); refine' tk 6 ?_; (try simp only [tkS])
 refine tk1 7 (fun K hK => ?_)
 go_simp
 go_at_call 141
 refine (H2.out _).mono ?_
 rintro e5 w7 ⟨v7, rfl, hv7, hb7⟩
 have Hb7 := hI (bw_via (Hb2.out) hb7)
 have Hv7 := hI hv7
 clear hv7
 clear hb7
 refine hK.out _ _ (by exact HS.out _ (Hb7.out)) (fun hHeld => ?_)
 clear hK K; (try simp only [tkS])
 refine tk1 8 (fun K hK => ?_)
 go_simp
 go_at_call 116
 refine (H3.out _ _ (Hb7.out) Hv7.out).mono ?_
 rintro e5 w8 ⟨rfl, hb8⟩
 have Hv7 := hI (Hv7.out.mono hb8)
 have Hb8 := hI (bw_via (Hb7.out) hb8)
 clear hb8
 refine hK.out _ _ (by exact HS.out _ (Hb8.out)) (fun hHeld => ?_)
 clear hK K; (try simp only [tkS])
 refine' tk 9 ?_; (try simp only [tkS]); refine' tk 10 ?_; (try simp only [tkS]); refine' tk 11 ?_; (try simp only [tkS])
 refine tkD ?_ _
 go_wp2_with fail
 go_ret
 exact ⟨rfl, (below1 w _).via Hb8.out (below1 w _).size⟩
end Go.Proofs.YtacihodamichhaaGreatDoor
namespace Go.Proofs.YtacihodamichhaaGreatDoor
open Go.RowKit
theorem noU4 {x x' : Bool} {a a' : Option Addr} {n c n' c' : Nat} : NoU #[.bool x, .slice a n c, .bool x', .slice a' n' c'] := by
 intro v hv d
 simp at hv
 rcases hv with rfl | rfl | rfl | rfl <;> simp
theorem RatV.put {w : World} {v : Value} {p q : Int} (h : RatV w v p q) {R i : Nat} {cs : Array Value} {T : TypeId} (hB : Blk w R cs T) (hcs : NoU cs) (u : Value) : RatV (w.setCell ⟨R, i, none⟩ u) v p q := by
 obtain ⟨x, a, n, c, x', a', n', c', hv, h1, h2⟩ := h
 exact ⟨x, a, n, c, x', a', n', c', hv, h1.put hB hcs u, h2.put hB hcs u⟩
theorem RatV.put4 {w : World} {p q : Int} {R n c n' c' m k m' k' : Nat} {x x' y y' : Bool} {a a' e e' : Option Addr} {T : TypeId} (h : RatV w (.agg #[.bool x, .slice a n c, .bool x', .slice a' n' c']) p q) (hB : Blk w R #[.bool y, .slice e m k, .bool y', .slice e' m' k'] T) :
  RatV ((((w.setCell ⟨R, 0, none⟩ (.bool x)).setCell ⟨R, 1, none⟩ (.slice a n c)).setCell ⟨R, 2, none⟩ (.bool x')).setCell ⟨R, 3, none⟩ (.slice a' n' c')) (.agg #[.bool x, .slice a n c, .bool x', .slice a' n' c']) p q ∧
  Blk ((((w.setCell ⟨R, 0, none⟩ (.bool x)).setCell ⟨R, 1, none⟩ (.slice a n c)).setCell ⟨R, 2, none⟩ (.bool x')).setCell ⟨R, 3, none⟩ (.slice a' n' c')) R #[.bool x, .slice a n c, .bool x', .slice a' n' c'] T := by
 have h1 := hB.set 0 (.bool x)
 have h2 := h1.set 1 (.slice a n c)
 have h3 := h2.set 2 (.bool x')
 have h4 := h3.set 3 (.slice a' n' c')
 simp at h1 h2 h3 h4
 exact ⟨(((h.put hB noU4 _).put h1 noU4 _).put h2 noU4 _).put h3 noU4 _, h4⟩
theorem put_below4 {B b : Nat} {w w1 : World} (v0 v1 v2 v3 : Value) (h : Below B w w1) (hB : B ≤ b) : Below B w ((((w1.setCell ⟨b, 0, none⟩ v0).setCell ⟨b, 1, none⟩ v1).setCell ⟨b, 2, none⟩ v2).setCell ⟨b, 3, none⟩ v3) :=
 (((h.setCell (p := ⟨b, 0, none⟩) hB _).setCell (p := ⟨b, 1, none⟩) hB _).setCell (p := ⟨b, 2, none⟩) hB _).setCell (p := ⟨b, 3, none⟩) hB _
theorem blk4v {w : World} {b : Nat} {x0 x1 x2 x3 : Value} {T : TypeId} (h : Blk w b #[x0, x1, x2, x3] T) :
  (w.cell? ⟨b, 0, none⟩ = some x0 ∧ w.cell? ⟨b, 1, none⟩ = some x1 ∧ w.cell? ⟨b, 2, none⟩ = some x2 ∧ w.cell? ⟨b, 3, none⟩ = some x3) ∧ w.frozen? ⟨b, 0, none⟩ = false ∧ w.frozen? ⟨b, 1, none⟩ = false ∧ w.frozen? ⟨b, 2, none⟩ = false ∧ w.frozen? ⟨b, 3, none⟩ = false :=
 ⟨⟨by rw [h.cell]; rfl, by rw [h.cell]; rfl, by rw [h.cell]; rfl, by rw [h.cell]; rfl⟩, h.free 0, h.free 1, h.free 2, h.free 3⟩
theorem RatV.open {w : World} {v : Value} {p q : Int} (h : RatV w v p q) : ∃ x a n c x' a' n' c', v = .agg #[.bool x, .slice a n c, .bool x', .slice a' n' c'] ∧ RatV w (.agg #[.bool x, .slice a n c, .bool x', .slice a' n' c']) p q := by
 obtain ⟨x, a, n, c, x', a', n', c', rfl, h1, h2⟩ := h
 exact ⟨x, a, n, c, x', a', n', c', rfl, x, a, n, c, x', a', n', c', rfl, h1, h2⟩
theorem RatV.parts {w : World} {p q : Int} {n c n' c' : Nat} {x x' : Bool} {a a' : Option Addr} (h : RatV w (.agg #[.bool x, .slice a n c, .bool x', .slice a' n' c']) p q) : IntV w (.agg #[.bool x, .slice a n c]) p ∧ IntV w (.agg #[.bool x', .slice a' n' c']) q := by
 obtain ⟨x, a, n, c, x', a', n', c', hv, h1, h2⟩ := h
 cases hv
 exact ⟨h1, h2⟩
theorem RatV.whole0 {w : World} {p : Int} {n c : Nat} {x : Bool} {a : Option Addr} (h : IntV w (.agg #[.bool x, .slice a n c]) p) : RatV w (.agg #[.bool x, .slice a n c, .bool false, .slice none 0 0]) p 0 := ⟨x, a, n, c, _, _, _, _, rfl, h, IntV.zero w⟩
theorem RatV.zero (w : World) : RatV w (.agg #[.bool false, .slice none 0 0, .bool false, .slice none 0 0]) 0 0 := RatV.whole0 (IntV.zero w)
set_option maxHeartbeats 2000000 in
theorem rfrom_any (n : Int) (w : World) (h1 : -9223372036854775808 ≤ n) (h2 : n ≤ 9223372036854775807) :
  Calls Tryz.prog 57 #[.int .i64 n] w (RetP (fun v w' => RatV w' v n 0) w) := by
 have H := hI (fun w' => from_any n w' h1 h2)
 have HR := hI (Blk.new w #[.bool false, .slice none 0 0, .bool false, .slice none 0 0] 77)
 clear h1 h2
 go_enter Tryz.func57, Tryz.ntmps57
 go_wp2_with (go_at_call 108; refine (H.out _).mono ?_; rintro e w1 ⟨v, rfl, hv, hb⟩; obtain ⟨x5, a5, n5, c5, rfl, hv⟩ := hv.open; have hr := HR.out.below hb; obtain ⟨⟨r0, r1, r2, r3⟩, f0, f1, f2, f3⟩ := blk4v hr; obtain ⟨hv6, hb6⟩ := RatV.put4 (RatV.whole0 hv) hr; have Hv6 := hI hv6; have Hb6 := hI hb6; have Hbel := hI (put_below4 (b := w.heap.size) (.bool x5) (.slice a5 n5 c5) (.bool false) (.slice none 0 0) ((below1 w (.cells #[.bool false, .slice none 0 0, .bool false, .slice none 0 0] 77)).via hb (below1 w _).size) (by omega)); clear hv6 hb6; clear hv hb hr)
 obtain ⟨⟨q0, q1, q2, q3⟩, -⟩ := blk4v Hb6.out
 refine bodyPost_ret (v := .agg #[.bool x5, .slice a5 n5 c5, .bool false, .slice none 0 0]) (by simp [results, Tryz.results57, go_sem, q0, q1, q2, q3]) rfl ⟨_, rfl, ?_, Hbel.out⟩
 exact Hv6.out
set_option maxHeartbeats 2000000 in
theorem rsign_any (v : Value) (p q : Int) (w : World) (h : RatV w v p q) : Calls Tryz.prog 84 #[v] w (Ret (.int .i64 p.sign) w) := by
 obtain ⟨x, a, n, c, x', a', n', c', rfl, h1, -⟩ := h
 have hB := Blk.new w #[.bool x, .slice a n c, .bool x', .slice a' n' c'] 77
 have H := hI (sign_any _ p _ (h1.mono (below1 w (.cells #[.bool x, .slice a n c, .bool x', .slice a' n' c'] 77))))
 generalize p.sign = sg at *
 clear h1
 go_enter Tryz.func84, Tryz.ntmps84
 go_wp2_with (go_at_call 131; refine (H.out).mono ?_; rintro e w1 ⟨rfl, hb⟩)
 go_ret
 exact ⟨rfl, (below1 w _).via hb (below1 w _).size⟩
set_option maxHeartbeats 4000000 in
theorem rcmp_d (u v : Value) (p q : Int) (w : World) (h : RatV w u p 0) (h' : RatV w v q 0) : Calls Tryz.prog 64 #[u, v] w (RetD (.int .i64 (cmpZ p q)) w) := by
 obtain ⟨x, a, n, c, x', a', n', c', rfl, h⟩ := h.open
 obtain ⟨y, e, m, k, y', e', m', k', rfl, h'⟩ := h'.open
 have hA : Blk ((w.alloc (.cells #[.bool x, .slice a n c, .bool x', .slice a' n' c'] 77)).alloc (.cells #[.bool y, .slice e m k, .bool y', .slice e' m' k'] 77)) w.heap.size #[.bool x, .slice a n c, .bool x', .slice a' n' c'] 77 := (Blk.new w _ _).old _
 have hB : Blk ((w.alloc (.cells #[.bool x, .slice a n c, .bool x', .slice a' n' c'] 77)).alloc (.cells #[.bool y, .slice e m k, .bool y', .slice e' m' k'] 77)) (w.heap.size + 1) #[.bool y, .slice e m k, .bool y', .slice e' m' k'] 77 := by
  have h := Blk.new (w.alloc (.cells #[.bool x, .slice a n c, .bool x', .slice a' n' c'] 77)) #[.bool y, .slice e m k, .bool y', .slice e' m' k'] 77
  simpa using h
 have HA := hI (fun w' (hb : Below ((w.alloc (.cells #[.bool x, .slice a n c, .bool x', .slice a' n' c'] 77)).alloc (.cells #[.bool y, .slice e m k, .bool y', .slice e' m' k'] 77)).heap.size ((w.alloc (.cells #[.bool x, .slice a n c, .bool x', .slice a' n' c'] 77)).alloc (.cells #[.bool y, .slice e m k, .bool y', .slice e' m' k'] 77)) w') => cells4 hA hb)
 have HB := hI (fun w' (hb : Below ((w.alloc (.cells #[.bool x, .slice a n c, .bool x', .slice a' n' c'] 77)).alloc (.cells #[.bool y, .slice e m k, .bool y', .slice e' m' k'] 77)).heap.size ((w.alloc (.cells #[.bool x, .slice a n c, .bool x', .slice a' n' c'] 77)).alloc (.cells #[.bool y, .slice e m k, .bool y', .slice e' m' k'] 77)) w') => cells4 hB hb)
 have H1 := hI (fun w' (hb : BD w w') => whole_d _ p w' (h.mono hb.1))
 have H2 := hI (fun w' (hb : BD w w') => whole_d _ q w' (h'.mono hb.1))
 have H3 := hI (fun w' (hb : BD w w') => compare_d _ _ p q w' (h.parts.1.mono hb.1) (h'.parts.1.mono hb.1))
 clear h h' hA hB
 generalize cmpZ p q = R at *
 go_enter Tryz.func64, Tryz.ntmps64
 go_wp2_with (first
  | (go_at_call 109; refine (H2.out _ ((bd2 w _ _).via hb1)).mono ?_; rintro e2 w2 ⟨rfl, hb2⟩; obtain ⟨c0, c1, c2, c3⟩ := HA.out _ (hb1.via hb2).1; obtain ⟨d0, d1, d2, d3⟩ := HB.out _ (hb1.via hb2).1)
  | (go_at_call 109; refine (H1.out _ (bd2 w _ _)).mono ?_; rintro e1 w1 ⟨rfl, hb1⟩; obtain ⟨d0, d1, d2, d3⟩ := HB.out _ hb1.1)
  | (go_at_call 116; refine (H3.out _ ((bd2 w _ _).via (hb1.via hb2))).mono ?_; rintro e3 w3 ⟨rfl, hb3⟩))
 go_ret
 exact ⟨rfl, (bd2 w _ _).via ((hb1.via hb2).via hb3)⟩
end Go.Proofs.YtacihodamichhaaGreatDoor
namespace Go.Proofs.YtacihodamichhaaGreatDoor
open Go.RowKit
set_option maxHeartbeats 4000000 in
theorem radd_w (u v : Value) (p q : Int) (w : World) (h : RatV w u p 0) (h' : RatV w v q 0) (hl1 : (limbs p.natAbs).length < 1000000) (hl2 : (limbs q.natAbs).length < 1000000) : Calls Tryz.prog 58 #[u, v] w (RetP (fun r w' => RatV w' r (p + q) 0) w) := by
 obtain ⟨x, a, n, c, x', a', n', c', rfl, h⟩ := h.open
 obtain ⟨y, e, m, k, y', e', m', k', rfl, h'⟩ := h'.open
 have hA : Blk (((w.alloc (.cells #[.bool x, .slice a n c, .bool x', .slice a' n' c'] 77)).alloc (.cells #[.bool y, .slice e m k, .bool y', .slice e' m' k'] 77)).alloc (.cells #[.bool false, .slice none 0 0, .bool false, .slice none 0 0] 77)) w.heap.size #[.bool x, .slice a n c, .bool x', .slice a' n' c'] 77 := ((Blk.new w _ _).old _).old _
 have hB : Blk (((w.alloc (.cells #[.bool x, .slice a n c, .bool x', .slice a' n' c'] 77)).alloc (.cells #[.bool y, .slice e m k, .bool y', .slice e' m' k'] 77)).alloc (.cells #[.bool false, .slice none 0 0, .bool false, .slice none 0 0] 77)) (w.heap.size + 1) #[.bool y, .slice e m k, .bool y', .slice e' m' k'] 77 := by
  have h := (Blk.new (w.alloc (.cells #[.bool x, .slice a n c, .bool x', .slice a' n' c'] 77)) #[.bool y, .slice e m k, .bool y', .slice e' m' k'] 77).old (.cells #[.bool false, .slice none 0 0, .bool false, .slice none 0 0] 77)
  simpa using h
 have hR : Blk (((w.alloc (.cells #[.bool x, .slice a n c, .bool x', .slice a' n' c'] 77)).alloc (.cells #[.bool y, .slice e m k, .bool y', .slice e' m' k'] 77)).alloc (.cells #[.bool false, .slice none 0 0, .bool false, .slice none 0 0] 77)) (w.heap.size + 1 + 1) #[.bool false, .slice none 0 0, .bool false, .slice none 0 0] 77 := by
  have h := Blk.new ((w.alloc (.cells #[.bool x, .slice a n c, .bool x', .slice a' n' c'] 77)).alloc (.cells #[.bool y, .slice e m k, .bool y', .slice e' m' k'] 77)) #[.bool false, .slice none 0 0, .bool false, .slice none 0 0] 77
  simpa using h
 have HA := hI (fun w' (hb : Below (((w.alloc (.cells #[.bool x, .slice a n c, .bool x', .slice a' n' c'] 77)).alloc (.cells #[.bool y, .slice e m k, .bool y', .slice e' m' k'] 77)).alloc (.cells #[.bool false, .slice none 0 0, .bool false, .slice none 0 0] 77)).heap.size (((w.alloc (.cells #[.bool x, .slice a n c, .bool x', .slice a' n' c'] 77)).alloc (.cells #[.bool y, .slice e m k, .bool y', .slice e' m' k'] 77)).alloc (.cells #[.bool false, .slice none 0 0, .bool false, .slice none 0 0] 77)) w') => cells4 hA hb)
 have HB := hI (fun w' (hb : Below (((w.alloc (.cells #[.bool x, .slice a n c, .bool x', .slice a' n' c'] 77)).alloc (.cells #[.bool y, .slice e m k, .bool y', .slice e' m' k'] 77)).alloc (.cells #[.bool false, .slice none 0 0, .bool false, .slice none 0 0] 77)).heap.size (((w.alloc (.cells #[.bool x, .slice a n c, .bool x', .slice a' n' c'] 77)).alloc (.cells #[.bool y, .slice e m k, .bool y', .slice e' m' k'] 77)).alloc (.cells #[.bool false, .slice none 0 0, .bool false, .slice none 0 0] 77)) w') => cells4 hB hb)
 have HR := hI hR
 have HK := hI (below3 w (.cells #[.bool x, .slice a n c, .bool x', .slice a' n' c'] 77) (.cells #[.bool y, .slice e m k, .bool y', .slice e' m' k'] 77) (.cells #[.bool false, .slice none 0 0, .bool false, .slice none 0 0] 77))
 have H1 := hI (fun w' (hb : Below w.heap.size w w') => (whole_d _ p w' (h.mono hb)).mono fun _ _ h => h.ret)
 have H2 := hI (fun w' (hb : Below w.heap.size w w') => (whole_d _ q w' (h'.mono hb)).mono fun _ _ h => h.ret)
 have H3 := hI (fun w' (hb : Below w.heap.size w w') => add_any _ _ p q w' (h.parts.1.mono hb) (h'.parts.1.mono hb) hl1 hl2)
 clear h h' hA hB hR hl1 hl2
 go_enter Tryz.func58, Tryz.ntmps58
 go_wp2_with (first
  | (go_at_call 109; refine (H2.out _ (HK.out.via hb1 HK.out.size)).mono ?_; rintro e2 w2 ⟨rfl, hb2⟩; obtain ⟨c0, c1, c2, c3⟩ := HA.out _ (bw_via hb1 hb2); obtain ⟨d0, d1, d2, d3⟩ := HB.out _ (bw_via hb1 hb2))
  | (go_at_call 109; refine (H1.out _ HK.out).mono ?_; rintro e1 w1 ⟨rfl, hb1⟩; obtain ⟨d0, d1, d2, d3⟩ := HB.out _ hb1)
  | (go_at_call 110; refine (H3.out _ (HK.out.via (bw_via hb1 hb2) HK.out.size)).mono ?_; rintro e3 w3 ⟨v5, rfl, hv, hb3⟩; obtain ⟨x5, a5, n5, c5, rfl, hv⟩ := hv.open; have hr := HR.out.below (bw_via hb1 (bw_via hb2 hb3)); obtain ⟨⟨r0, r1, r2, r3⟩, f0, f1, f2, f3⟩ := blk4v hr; obtain ⟨hv6, hb6⟩ := RatV.put4 (RatV.whole0 hv) hr; have Hv6 := hI hv6; have Hb6 := hI hb6; have Hbel := hI (put_below4 (b := w.heap.size + 1 + 1) (.bool x5) (.slice a5 n5 c5) (.bool false) (.slice none 0 0) (HK.out.via (bw_via hb1 (bw_via hb2 hb3)) HK.out.size) (by omega)); clear hv6 hb6; clear hv hr))
 obtain ⟨⟨q0, q1, q2, q3⟩, -⟩ := blk4v Hb6.out
 refine bodyPost_ret (v := .agg #[.bool x5, .slice a5 n5 c5, .bool false, .slice none 0 0]) (by simp [results, Tryz.results58, go_sem, q0, q1, q2, q3]) rfl ⟨_, rfl, ?_, Hbel.out⟩
 exact Hv6.out
set_option maxHeartbeats 4000000 in
theorem rmul_w (u v : Value) (p q : Int) (w : World) (h : RatV w u p 0) (h' : RatV w v q 0) (hl1 : (limbs p.natAbs).length < 1000000) (hl2 : (limbs q.natAbs).length < 1000000) : Calls Tryz.prog 86 #[u, v] w (RetP (fun r w' => RatV w' r (p * q) 0) w) := by
 obtain ⟨x, a, n, c, x', a', n', c', rfl, h⟩ := h.open
 obtain ⟨y, e, m, k, y', e', m', k', rfl, h'⟩ := h'.open
 have hA : Blk (((w.alloc (.cells #[.bool x, .slice a n c, .bool x', .slice a' n' c'] 77)).alloc (.cells #[.bool y, .slice e m k, .bool y', .slice e' m' k'] 77)).alloc (.cells #[.bool false, .slice none 0 0, .bool false, .slice none 0 0] 77)) w.heap.size #[.bool x, .slice a n c, .bool x', .slice a' n' c'] 77 := ((Blk.new w _ _).old _).old _
 have hB : Blk (((w.alloc (.cells #[.bool x, .slice a n c, .bool x', .slice a' n' c'] 77)).alloc (.cells #[.bool y, .slice e m k, .bool y', .slice e' m' k'] 77)).alloc (.cells #[.bool false, .slice none 0 0, .bool false, .slice none 0 0] 77)) (w.heap.size + 1) #[.bool y, .slice e m k, .bool y', .slice e' m' k'] 77 := by
  have h := (Blk.new (w.alloc (.cells #[.bool x, .slice a n c, .bool x', .slice a' n' c'] 77)) #[.bool y, .slice e m k, .bool y', .slice e' m' k'] 77).old (.cells #[.bool false, .slice none 0 0, .bool false, .slice none 0 0] 77)
  simpa using h
 have hR : Blk (((w.alloc (.cells #[.bool x, .slice a n c, .bool x', .slice a' n' c'] 77)).alloc (.cells #[.bool y, .slice e m k, .bool y', .slice e' m' k'] 77)).alloc (.cells #[.bool false, .slice none 0 0, .bool false, .slice none 0 0] 77)) (w.heap.size + 1 + 1) #[.bool false, .slice none 0 0, .bool false, .slice none 0 0] 77 := by
  have h := Blk.new ((w.alloc (.cells #[.bool x, .slice a n c, .bool x', .slice a' n' c'] 77)).alloc (.cells #[.bool y, .slice e m k, .bool y', .slice e' m' k'] 77)) #[.bool false, .slice none 0 0, .bool false, .slice none 0 0] 77
  simpa using h
 have HA := hI (fun w' (hb : Below (((w.alloc (.cells #[.bool x, .slice a n c, .bool x', .slice a' n' c'] 77)).alloc (.cells #[.bool y, .slice e m k, .bool y', .slice e' m' k'] 77)).alloc (.cells #[.bool false, .slice none 0 0, .bool false, .slice none 0 0] 77)).heap.size (((w.alloc (.cells #[.bool x, .slice a n c, .bool x', .slice a' n' c'] 77)).alloc (.cells #[.bool y, .slice e m k, .bool y', .slice e' m' k'] 77)).alloc (.cells #[.bool false, .slice none 0 0, .bool false, .slice none 0 0] 77)) w') => cells4 hA hb)
 have HB := hI (fun w' (hb : Below (((w.alloc (.cells #[.bool x, .slice a n c, .bool x', .slice a' n' c'] 77)).alloc (.cells #[.bool y, .slice e m k, .bool y', .slice e' m' k'] 77)).alloc (.cells #[.bool false, .slice none 0 0, .bool false, .slice none 0 0] 77)).heap.size (((w.alloc (.cells #[.bool x, .slice a n c, .bool x', .slice a' n' c'] 77)).alloc (.cells #[.bool y, .slice e m k, .bool y', .slice e' m' k'] 77)).alloc (.cells #[.bool false, .slice none 0 0, .bool false, .slice none 0 0] 77)) w') => cells4 hB hb)
 have HR := hI hR
 have HK := hI (below3 w (.cells #[.bool x, .slice a n c, .bool x', .slice a' n' c'] 77) (.cells #[.bool y, .slice e m k, .bool y', .slice e' m' k'] 77) (.cells #[.bool false, .slice none 0 0, .bool false, .slice none 0 0] 77))
 have H1 := hI (fun w' (hb : Below w.heap.size w w') => (whole_d _ p w' (h.mono hb)).mono fun _ _ h => h.ret)
 have H2 := hI (fun w' (hb : Below w.heap.size w w') => (whole_d _ q w' (h'.mono hb)).mono fun _ _ h => h.ret)
 have H3 := hI (fun w' (hb : Below w.heap.size w w') => mul_any _ _ p q w' (h.parts.1.mono hb) (h'.parts.1.mono hb) hl1 hl2)
 clear h h' hA hB hR hl1 hl2
 go_enter Tryz.func86, Tryz.ntmps86
 go_wp2_with (first
  | (go_at_call 109; refine (H2.out _ (HK.out.via hb1 HK.out.size)).mono ?_; rintro e2 w2 ⟨rfl, hb2⟩; obtain ⟨c0, c1, c2, c3⟩ := HA.out _ (bw_via hb1 hb2); obtain ⟨d0, d1, d2, d3⟩ := HB.out _ (bw_via hb1 hb2))
  | (go_at_call 109; refine (H1.out _ HK.out).mono ?_; rintro e1 w1 ⟨rfl, hb1⟩; obtain ⟨d0, d1, d2, d3⟩ := HB.out _ hb1)
  | (go_at_call 112; refine (H3.out _ (HK.out.via (bw_via hb1 hb2) HK.out.size)).mono ?_; rintro e3 w3 ⟨v5, rfl, hv, hb3⟩; obtain ⟨x5, a5, n5, c5, rfl, hv⟩ := hv.open; have hr := HR.out.below (bw_via hb1 (bw_via hb2 hb3)); obtain ⟨⟨r0, r1, r2, r3⟩, f0, f1, f2, f3⟩ := blk4v hr; obtain ⟨hv6, hb6⟩ := RatV.put4 (RatV.whole0 hv) hr; have Hv6 := hI hv6; have Hb6 := hI hb6; have Hbel := hI (put_below4 (b := w.heap.size + 1 + 1) (.bool x5) (.slice a5 n5 c5) (.bool false) (.slice none 0 0) (HK.out.via (bw_via hb1 (bw_via hb2 hb3)) HK.out.size) (by omega)); clear hv6 hb6; clear hv hr))
 obtain ⟨⟨q0, q1, q2, q3⟩, -⟩ := blk4v Hb6.out
 refine bodyPost_ret (v := .agg #[.bool x5, .slice a5 n5 c5, .bool false, .slice none 0 0]) (by simp [results, Tryz.results86, go_sem, q0, q1, q2, q3]) rfl ⟨_, rfl, ?_, Hbel.out⟩
 exact Hv6.out
set_option maxHeartbeats 2000000 in
theorem den0_any (v : Value) (p : Int) (w : World) (h : RatV w v p 0) : Calls Tryz.prog 113 #[v] w (RetP (fun r w' => IntV w' r 1) w) := by
 obtain ⟨x, a, n, c, x', a', n', c', rfl, h⟩ := h.open
 have hR : Blk ((w.alloc (.cells #[.bool x, .slice a n c, .bool x', .slice a' n' c'] 77)).alloc (.cells #[.bool false, .slice none 0 0] 75)) (w.heap.size + 1) #[.bool false, .slice none 0 0] 75 := by
  have h := Blk.new (w.alloc (.cells #[.bool x, .slice a n c, .bool x', .slice a' n' c'] 77)) #[.bool false, .slice none 0 0] 75
  simpa using h
 have HR := hI hR
 have HK := hI (below2 w (.cells #[.bool x, .slice a n c, .bool x', .slice a' n' c'] 77) (.cells #[.bool false, .slice none 0 0] 75))
 have H1 := hI (sign_any _ 0 ((w.alloc (.cells #[.bool x, .slice a n c, .bool x', .slice a' n' c'] 77)).alloc (.cells #[.bool false, .slice none 0 0] 75)) (h.parts.2.mono HK.out))
 rw [show Int.sign 0 = 0 from rfl] at H1
 have H2 := hI (fun w' => one_any w')
 clear h hR
 go_enter Tryz.func113, Tryz.ntmps113
 go_wp2_with (first
  | (go_at_call 131; refine (H1.out).mono ?_; rintro e1 w1 ⟨rfl, hb1⟩)
  | (go_at_call 141; refine (H2.out _).mono ?_; rintro e2 w2 ⟨v5, rfl, hv, hb2⟩; obtain ⟨x5, a5, k5, c5, rfl, hv⟩ := hv.open; have hr := HR.out.below (bw_via hb1 hb2); obtain ⟨⟨r0, r1⟩, f0, f1⟩ := blk2v hr; obtain ⟨hv6, hb6⟩ := IntV.put2 hv hr; have Hv6 := hI hv6; have Hb6 := hI hb6; have Hbel := hI (put_below (b := w.heap.size + 1) x5 a5 k5 c5 (HK.out.via (bw_via hb1 hb2) HK.out.size) (by omega)); clear hr hv6 hb6 hv))
 obtain ⟨⟨q0, q1⟩, -⟩ := blk2v Hb6.out
 exact bodyPost_ret (v := .agg #[.bool x5, .slice a5 k5 c5]) (by simp [results, Tryz.results113, go_sem, q0, q1]) rfl ⟨_, rfl, Hv6.out, Hbel.out⟩
end Go.Proofs.YtacihodamichhaaGreatDoor
