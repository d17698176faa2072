/-
  Parts of the proof: Gcd, Cut, Rat, Rat2, Dvx.
-/
import Derived.Test.YtlcmhbkmpkcajaaGreatDoorN08
namespace Go.Proofs.YtlcmhbkmpkcajaaGreatDoor
open Go.RowKit
theorem few_le {a b : Nat} (h : a ≤ b) (hb : Few b) : Few a := Nat.lt_of_le_of_lt (limbs_len_le h) hb
theorem divide_any (a b : Option Addr) (n m c c' : Nat) (x y : Nat) (w : World) (hA : Ls w (.slice a n c) (limbs x)) (hB : Ls w (.slice b m c') (limbs y)) (h0 : y ≠ 0) (hn : (limbs x).length < 1000000) :
    Calls Tryz.prog 116 #[.slice a n c, .slice b m c'] w (fun e w' => ∃ q r, e = .returned (.tuple #[q, r]) ∧ MagV w' q (x / y) ∧ MagV w' r (x % y) ∧ Below w.heap.size w w') := by
  rcases Nat.lt_or_ge x y with h | h
  · exact divide_small a b n m c c' x y w hA hB h
  · have h1 : (limbs y).length ≠ 0 := fun e => h0 (limbs_len0.1 e)
    by_cases h2 : (limbs y).length = 1
    · exact divide_one a b n m c c' x y w hA hB h h2 hn
    · exact divide_long a b n m c c' x y w hA hB h (by omega) hn
set_option maxHeartbeats 4000000 in
theorem gcd_any (u v : Value) (y z : Int) (w : World) (h : IntV w u y) (h' : IntV w v z) (hl1 : (limbs y.natAbs).length < 1000000) (hl2 : (limbs z.natAbs).length < 1000000) :
    Calls Tryz.prog 73 #[u, v] w (RetP (fun r w' => IntV w' r (Nat.gcd y.natAbs z.natAbs : Nat)) w) := by
  obtain ⟨a, c, rfl, hl⟩ := h
  obtain ⟨a', c', rfl, hl'⟩ := h'
  generalize decide (y < 0) = s1
  generalize decide (z < 0) = s2
  have hK := below3 w (.cells #[.bool s1, .slice a (limbs y.natAbs).length c] 59) (.cells #[.bool s2, .slice a' (limbs z.natAbs).length c'] 59) (.cells #[.bool false, .slice none 0 0] 59)
  have hR : Blk (((w.alloc (.cells #[.bool s1, .slice a (limbs y.natAbs).length c] 59)).alloc (.cells #[.bool s2, .slice a' (limbs z.natAbs).length c'] 59)).alloc (.cells #[.bool false, .slice none 0 0] 59)) (w.heap.size + 1 + 1) #[.bool false, .slice none 0 0] 59 := by
    have h := Blk.new ((w.alloc (.cells #[.bool s1, .slice a (limbs y.natAbs).length c] 59)).alloc (.cells #[.bool s2, .slice a' (limbs z.natAbs).length c'] 59)) #[.bool false, .slice none 0 0] 59
    simpa using h
  have HK := hI hK
  have HR := hI hR
  generalize y.natAbs = Y at *
  generalize z.natAbs = Z at *
  have HX := hI (show MagV w (.slice a (limbs Y).length c) Y ∧ MagV w (.slice a' (limbs Z).length c') Z from ⟨⟨_, _, rfl, hl⟩, ⟨_, _, rfl, hl'⟩⟩)
  have Hl1 := hI (show Few Y from hl1)
  have Hl2 := hI (show Few Z from hl2)
  clear hl hl' hK hR hl1 hl2
  generalize (limbs Y).length = k0 at *
  generalize (limbs Z).length = k1 at *
  go_enter Tryz.func73, Tryz.ntmps73
  go_wp2_with fail
  go_quiet (fail)
  go_wp2_with fail
  go_loopg [5, 6] Z (fun k u v wr => ∃ X, MagV wr u X ∧ MagV wr v k ∧ Few k ∧ Few X ∧ Below (((w.alloc (.cells #[.bool s1, .slice a k0 c] 59)).alloc (.cells #[.bool s2, .slice a' k1 c'] 59)).alloc (.cells #[.bool false, .slice none 0 0] 59)).heap.size (((w.alloc (.cells #[.bool s1, .slice a k0 c] 59)).alloc (.cells #[.bool s2, .slice a' k1 c'] 59)).alloc (.cells #[.bool false, .slice none 0 0] 59)) wr ∧ Hid (Nat.gcd X k = Nat.gcd Y Z))
  case atStart => exact ⟨Y, HX.out.1.mono ((HK.out).dn _), HX.out.2.mono ((HK.out).dn _), Hl2.out, Hl1.out, (Below.refl _ _).dn _, rfl⟩
  case round =>
    obtain ⟨X, hX, hY, hk, hlx, hb, hg⟩ := hrel
    have hr := HR.out.below hb
    obtain ⟨⟨r0, r1⟩, f0, f1⟩ := blk2v hr
    obtain ⟨ax, cx, rfl, hX⟩ := hX
    obtain ⟨ay, cy, rfl, hY⟩ := hY
    have Hb := hI hb
    have Hr := hI hr
    clear hb hr
    rcases Nat.eq_zero_or_pos gk with rfl | hpos
    · have h0 : (limbs 0).length = 0 := by rw [limbs_zero]; rfl
      rw [h0]
      have he : Nat.gcd Y Z = X := by rw [← hg.out, Nat.gcd_zero_right]
      have He := hI he
      have HXl := hI hX
      have hiv : IntV wr (.agg #[.bool false, .slice ax (limbs X).length cx]) (X : Int) := ⟨ax, cx, by simp, hX⟩
      obtain ⟨hv2, hb2⟩ := IntV.put2 hiv Hr.out
      have Hv2 := hI hv2
      have Hb2 := hI hb2
      have hbel := (((HK.out.via Hb.out HK.out.size).setCell (p := ⟨w.heap.size + 1 + 1, 0, none⟩) (by show w.heap.size ≤ w.heap.size + 1 + 1; omega) (.bool false)).setCell (p := ⟨w.heap.size + 1 + 1, 1, none⟩) (by show w.heap.size ≤ w.heap.size + 1 + 1; omega) (.slice ax (limbs X).length cx))
      have Hbel := hI hbel
      clear hv2 hb2 hbel hiv hX hY he hg h0 hlx
      generalize (limbs X).length = kx at *
      go_wp2_with fail
      obtain ⟨⟨q0, q1⟩, -⟩ := blk2v Hb2.out
      refine bodyPost_ret (v := .agg #[.bool false, .slice ax kx cx]) (by simp [results, Tryz.results73, go_sem, q0, q1]) rfl ⟨_, rfl, ?_, Hbel.out⟩
      rw [He.out]
      exact Hv2.out
    · have HD := hI (divide_any _ _ _ _ _ _ _ _ wr hX hY (by omega) hlx)
      have hlen : 0 < (limbs gk).length := by
        rcases Nat.eq_zero_or_pos (limbs gk).length with h | h
        · rw [limbs_len0] at h; omega
        · exact h
      have HY := hI (show MagV wr (.slice ay (limbs gk).length cy) gk from ⟨_, _, rfl, hY⟩)
      have Hlk := hI hk
      clear hX hY
      generalize (limbs gk).length = ky at *
      have hlen2 : (0 : Int) < (ky : Int) := by omega
      go_wp2_with (go_at_call 116; refine (HD.out).mono ?_; rintro e w2 ⟨q, r, rfl, hq, hr2, hb2⟩)
      go_roundg (X % gk)
      case measure => exact Nat.mod_lt _ hpos
      case rel =>
        exact ⟨gk, HY.out.mono hb2, hr2, few_le (Nat.le_of_lt (Nat.mod_lt _ hpos)) Hlk.out, Hlk.out, Hb.out.via hb2 Hb.out.size, by unfold Hid; rw [← hg.out, Nat.gcd_comm X gk, Nat.gcd_rec gk X, Nat.gcd_comm]⟩
end Go.Proofs.YtlcmhbkmpkcajaaGreatDoor
namespace Go.Proofs.YtlcmhbkmpkcajaaGreatDoor
open Go.RowKit
def natS (l : List UInt8) : Nat := l.foldl (fun n c => n * 10 + (c.toNat - 48)) 0
def valS : List UInt8 → Int
  | [] => 0
  | c :: r => if c = 45 then -(natS r : Int) else natS (c :: r)
def val (s : ByteArray) : Int := valS s.data.toList
structure Cut where
  b : Int
  s : ByteArray
  d : Int
theorem cmpZ_eq {a b : Int} : cmpZ a b = 0 ↔ a = b := by
  unfold cmpZ; split
  · simp; omega
  · split <;> simp <;> omega
def CLt (x y : Cut) : Prop := x.b < y.b ∨ (x.b = y.b ∧ (val x.s < val y.s ∨ (val x.s = val y.s ∧ x.d < y.d)))
instance (x y : Cut) : Decidable (CLt x y) := by unfold CLt; infer_instance
end Go.Proofs.YtlcmhbkmpkcajaaGreatDoor
namespace Go.Proofs.YtlcmhbkmpkcajaaGreatDoor
open Go.RowKit
def RatV (w : World) (v : Value) (p q : Int) : Prop := ∃ x a n c x' a' n' c', v = .agg #[.bool x, .slice a n c, .bool x', .slice a' n' c'] ∧ IntV w (.agg #[.bool x, .slice a n c]) p ∧ IntV w (.agg #[.bool x', .slice a' n' c']) q
theorem RatV.mono {w w' : World} {v : Value} {p q : Int} (h : RatV w v p q) (hb : Below w.heap.size w w') : RatV w' v p q := by
  obtain ⟨x, a, n, c, x', a', n', c', hv, h1, h2⟩ := h
  exact ⟨x, a, n, c, x', a', n', c', hv, h1.mono hb, h2.mono hb⟩
theorem IntV.zero (w : World) : IntV w (.agg #[.bool false, .slice none 0 0]) 0 := by
  have h0 : limbs (Int.natAbs 0) = [] := limbs_zero
  exact ⟨none, 0, by rw [h0]; rfl, by rw [h0]; exact Ls.nil w⟩
theorem put_below {B b : Nat} {w w1 : World} (x : Bool) (a : Option Addr) (k c : Nat) (h : Below B w w1) (hB : B ≤ b) : Below B w ((w1.setCell ⟨b, 0, none⟩ (.bool x)).setCell ⟨b, 1, none⟩ (.slice a k c)) :=
  (h.setCell (p := ⟨b, 0, none⟩) hB _).setCell (p := ⟨b, 1, none⟩) hB _
theorem bw_via {a b c : World} (h : Below a.heap.size a b) (k : Below b.heap.size b c) : Below a.heap.size a c := h.via k h.size
theorem cells4 {w w' : World} {b : Nat} {x0 x1 x2 x3 : Value} {T : TypeId} (h : Blk w b #[x0, x1, x2, x3] T) (hb : Below w.heap.size w w') :
    w'.cell? ⟨b, 0, none⟩ = some x0 ∧ w'.cell? ⟨b, 1, none⟩ = some x1 ∧ w'.cell? ⟨b, 2, none⟩ = some x2 ∧ w'.cell? ⟨b, 3, none⟩ = some x3 := by
  have h' := h.below hb
  exact ⟨by rw [h'.cell]; rfl, by rw [h'.cell]; rfl, by rw [h'.cell]; rfl, by rw [h'.cell]; rfl⟩
theorem cell_keep {W W' : World} {p : Addr} {v : Value} (hb : Below W.heap.size W W') (h : W.cell? p = some v) : W'.cell? p = some v := by
  rcases p with ⟨b, o, x⟩
  have hlt : b < W.heap.size := World.block_lt_of_cell? W _ h
  have := hb.block b hlt
  unfold World.cell? at *
  simp only [this]
  exact h
set_option maxHeartbeats 1000000 in
theorem one_any (w : World) : Calls Tryz.prog 62 #[] w (RetP (fun v w' => IntV w' v 1) w) := by
  have H := hI (fun w' => from_any 1 w' (by decide) (by decide))
  have hR := Blk.new w #[.bool false, .slice none 0 0] 59
  have HR := hI hR
  clear hR
  go_enter Tryz.func62, Tryz.ntmps62
  go_wp2_with (go_at_call 74; refine (H.out _).mono ?_; rintro e w1 ⟨v, rfl, hv, hb⟩; obtain ⟨x, a, k, c, rfl, hv⟩ := hv.open; have hr := HR.out.below hb; obtain ⟨⟨r0, r1⟩, f0, f1⟩ := blk2v hr; obtain ⟨hv6, hb6⟩ := IntV.put2 hv hr; have Hv6 := hI hv6; have Hb6 := hI hb6; have Hbel := hI (put_below x a k c ((below1 w (.cells #[.bool false, .slice none 0 0] 59)).via hb (below1 w _).size) (Nat.le_refl w.heap.size)); clear hr hv6 hb6 hb hv)
  obtain ⟨⟨q0, q1⟩, -⟩ := blk2v Hb6.out
  exact bodyPost_ret (v := .agg #[.bool x, .slice a k c]) (by simp [results, Tryz.results62, go_sem, q0, q1]) rfl ⟨_, rfl, Hv6.out, Hbel.out⟩
set_option maxHeartbeats 2000000 in
theorem whole_d (v : Value) (p : Int) (w : World) (h : RatV w v p 0) : Calls Tryz.prog 36 #[v] w (RetD (.bool true) w) := by
  obtain ⟨x, a, n, c, x', a', n', c', rfl, h1, h2⟩ := h
  have hB := Blk.new w #[.bool x, .slice a n c, .bool x', .slice a' n' c'] 61
  have HS := hI (fun w' (hb : Below (w.alloc (.cells #[.bool x, .slice a n c, .bool x', .slice a' n' c'] 61)).heap.size (w.alloc (.cells #[.bool x, .slice a n c, .bool x', .slice a' n' c'] 61)) w') => cells4 hB hb)
  have HV := hI (fun w' (hb : Below (w.alloc (.cells #[.bool x, .slice a n c, .bool x', .slice a' n' c'] 61)).heap.size (w.alloc (.cells #[.bool x, .slice a n c, .bool x', .slice a' n' c'] 61)) w') => h2.mono ((below1 w _).via hb (below1 w _).size))
  have H1 := hI (fun w' (hb : BD (w.alloc (.cells #[.bool x, .slice a n c, .bool x', .slice a' n' c'] 61)) w') => sign_d _ 0 w' (HV.out _ hb.1))
  rw [show Int.sign 0 = 0 from rfl] at H1
  clear h1 h2 hB
  go_enter Tryz.func36, Tryz.ntmps36
  go_wp2_with fail
  refine wp_region_held_drew (S := (fun w' => w'.cell? ⟨w.heap.size, 0, none⟩ = some (.bool x) ∧ w'.cell? ⟨w.heap.size, 1, none⟩ = some (.slice a n c) ∧ w'.cell? ⟨w.heap.size, 2, none⟩ = some (.bool x') ∧ w'.cell? ⟨w.heap.size, 3, none⟩ = some (.slice a' n' c'))) (by kernel_rfl) (by exact HS.out _ ((BD.refl _).dn 1).1) (fun hHeld => ?_)
  refine wpAnyH_take (i := 0) (v := ?v1) rfl (by kernel_rfl) (by kernel_rfl) (by kernel_rfl) (fun _ _ _ h => h) (Or.inl ⟨by rfl, ?hy1⟩) (by assumption) ?rest1
  case hy1 => (intro w hSw; (try dsimp only at hSw); go_simp; try (with_reducible rfl))
  try simp only [Act.put, List.getElem_toArray, List.getElem_cons_zero, List.setIfInBounds_toArray, List.set_cons_zero, List.set_cons_succ]
  refine' tk 1 ?_; (try simp only [tkS])
  refine tk1 2 (fun K hK => ?_)
  go_simp
  go_at_call 34
  refine (H1.out _ ((BD.refl _).dn 1)).mono ?_
  rintro e5 w2 ⟨rfl, hb2⟩
  have Hb2 := hI (((BD.refl _).dn 1).via hb2)
  clear hb2
  refine hK.out _ _ (by exact HS.out _ (Hb2.out).1) (fun hHeld => ?_)
  clear hK K; (try simp only [tkS])
  refine' tk 3 ?_; (try simp only [tkS]); refine' tk 4 ?_; (try simp only [tkS]); refine' tkU 5 ?_; (try simp only [tkS]); refine' tkU 6 ?_; (try simp only [tkS]); refine' tkU 7 ?_; (try simp only [tkS]); refine' tkU 8 ?_; (try simp only [tkS]); refine' tkU 9 ?_; (try simp only [tkS]); refine' tk 10 ?_; (try simp only [tkS]); refine' tk 11 ?_; (try simp only [tkS])
  refine tkD ?_ _
  go_wp2_with fail
  go_ret
  exact ⟨rfl, (bd1 w _).via Hb2.out⟩
set_option maxHeartbeats 2000000 in
theorem whole_q (v : Value) (p q : Int) (w : World) (h : RatV w v p q) (h0 : q ≠ 0) : Calls Tryz.prog 36 #[v] w (Ret (.bool (decide (q = 1))) w) := by
  obtain ⟨x, a, n, c, x', a', n', c', rfl, h1, h2⟩ := h
  have hB := Blk.new w #[.bool x, .slice a n c, .bool x', .slice a' n' c'] 61
  have HS := hI (fun w' (hb : Below (w.alloc (.cells #[.bool x, .slice a n c, .bool x', .slice a' n' c'] 61)).heap.size (w.alloc (.cells #[.bool x, .slice a n c, .bool x', .slice a' n' c'] 61)) w') => cells4 hB hb)
  have HV := hI (fun w' (hb : Below (w.alloc (.cells #[.bool x, .slice a n c, .bool x', .slice a' n' c'] 61)).heap.size (w.alloc (.cells #[.bool x, .slice a n c, .bool x', .slice a' n' c'] 61)) w') => h2.mono ((below1 w _).via hb (below1 w _).size))
  have hsg : ((q.sign : Int) == 0) = false := by simpa using h0
  have H1 := hI (fun w' (hb : Below (w.alloc (.cells #[.bool x, .slice a n c, .bool x', .slice a' n' c'] 61)).heap.size (w.alloc (.cells #[.bool x, .slice a n c, .bool x', .slice a' n' c'] 61)) w') => sign_any _ q w' (HV.out _ hb))
  have H2 := hI (fun w' => one_any w')
  have H3 := hI (fun w' u (hb : Below (w.alloc (.cells #[.bool x, .slice a n c, .bool x', .slice a' n' c'] 61)).heap.size (w.alloc (.cells #[.bool x, .slice a n c, .bool x', .slice a' n' c'] 61)) w') (hu : IntV w' u 1) => compare_any _ _ q 1 w' (HV.out _ hb) hu)
  have hc : (cmpZ q 1 == 0) = decide (q = 1) := by
    have := @cmpZ_eq q 1
    rw [Bool.eq_iff_iff]; simp [this]
  rw [← hc]
  generalize q.sign = sg at *
  generalize cmpZ q 1 = cz at *
  clear h1 h2 hB hc h0
  go_enter Tryz.func36, Tryz.ntmps36
  go_wp2_with fail
  refine wp_region_held_drew (S := (fun w' => w'.cell? ⟨w.heap.size, 0, none⟩ = some (.bool x) ∧ w'.cell? ⟨w.heap.size, 1, none⟩ = some (.slice a n c) ∧ w'.cell? ⟨w.heap.size, 2, none⟩ = some (.bool x') ∧ w'.cell? ⟨w.heap.size, 3, none⟩ = some (.slice a' n' c'))) (by kernel_rfl) (by exact HS.out _ ((Below.refl _ _).dn 1)) (fun hHeld => ?_)
  refine wpAnyH_take (i := 0) (v := ?v12) rfl (by kernel_rfl) (by kernel_rfl) (by kernel_rfl) (fun _ _ _ h => h) (Or.inl ⟨by rfl, ?hy12⟩) (by assumption) ?rest12
  case hy12 => (intro w hSw; (try dsimp only at hSw); go_simp; try (with_reducible rfl))
  try simp only [Act.put, List.getElem_toArray, List.getElem_cons_zero, List.setIfInBounds_toArray, List.set_cons_zero, List.set_cons_succ]
  refine' tk 1 ?_; (try simp only [tkS])
  refine tk1 2 (fun K hK => ?_)
  go_simp
  go_at_call 34
  refine (H1.out _ ((Below.refl _ _).dn 1)).mono ?_
  rintro e5 w2 ⟨rfl, hb2⟩
  have Hb2 := hI (bw_via ((Below.refl _ _).dn 1) hb2)
  clear hb2
  refine hK.out _ _ (by exact HS.out _ (Hb2.out)) (fun hHeld => ?_)
  clear hK K; (try simp only [tkS])
  refine' tk 3 ?_; (try simp only [tkS]); refine' tk 4 ?_; (try simp only [tkS]); refine' tk 5 ?_; (try simp only [tkS]); refine' tk 6 ?_; (try simp only [tkS])
  refine tk1 7 (fun K hK => ?_)
  go_simp
  go_at_call 62
  refine (H2.out _).mono ?_
  rintro e5 w7 ⟨v7, rfl, hv7, hb7⟩
  have Hb7 := hI (bw_via (Hb2.out) hb7)
  have Hv7 := hI hv7
  clear hv7
  clear hb7
  refine hK.out _ _ (by exact HS.out _ (Hb7.out)) (fun hHeld => ?_)
  clear hK K; (try simp only [tkS])
  refine tk1 8 (fun K hK => ?_)
  go_simp
  go_at_call 61
  refine (H3.out _ _ (Hb7.out) Hv7.out).mono ?_
  rintro e5 w8 ⟨rfl, hb8⟩
  have Hv7 := hI (Hv7.out.mono hb8)
  have Hb8 := hI (bw_via (Hb7.out) hb8)
  clear hb8
  refine hK.out _ _ (by exact HS.out _ (Hb8.out)) (fun hHeld => ?_)
  clear hK K; (try simp only [tkS])
  refine' tk 9 ?_; (try simp only [tkS]); refine' tk 10 ?_; (try simp only [tkS]); refine' tk 11 ?_; (try simp only [tkS])
  refine tkD ?_ _
  go_wp2_with fail
  go_ret
  exact ⟨rfl, (below1 w _).via Hb8.out (below1 w _).size⟩
end Go.Proofs.YtlcmhbkmpkcajaaGreatDoor
namespace Go.Proofs.YtlcmhbkmpkcajaaGreatDoor
open Go.RowKit
theorem noU4 {x x' : Bool} {a a' : Option Addr} {n c n' c' : Nat} : NoU #[.bool x, .slice a n c, .bool x', .slice a' n' c'] := by
  intro v hv d
  simp at hv
  rcases hv with rfl | rfl | rfl | rfl <;> simp
theorem RatV.put {w : World} {v : Value} {p q : Int} (h : RatV w v p q) {R i : Nat} {cs : Array Value} {T : TypeId} (hB : Blk w R cs T) (hcs : NoU cs) (u : Value) : RatV (w.setCell ⟨R, i, none⟩ u) v p q := by
  obtain ⟨x, a, n, c, x', a', n', c', hv, h1, h2⟩ := h
  exact ⟨x, a, n, c, x', a', n', c', hv, h1.put hB hcs u, h2.put hB hcs u⟩
theorem RatV.put4 {w : World} {p q : Int} {R n c n' c' m k m' k' : Nat} {x x' y y' : Bool} {a a' e e' : Option Addr} {T : TypeId} (h : RatV w (.agg #[.bool x, .slice a n c, .bool x', .slice a' n' c']) p q) (hB : Blk w R #[.bool y, .slice e m k, .bool y', .slice e' m' k'] T) :
    RatV ((((w.setCell ⟨R, 0, none⟩ (.bool x)).setCell ⟨R, 1, none⟩ (.slice a n c)).setCell ⟨R, 2, none⟩ (.bool x')).setCell ⟨R, 3, none⟩ (.slice a' n' c')) (.agg #[.bool x, .slice a n c, .bool x', .slice a' n' c']) p q ∧
    Blk ((((w.setCell ⟨R, 0, none⟩ (.bool x)).setCell ⟨R, 1, none⟩ (.slice a n c)).setCell ⟨R, 2, none⟩ (.bool x')).setCell ⟨R, 3, none⟩ (.slice a' n' c')) R #[.bool x, .slice a n c, .bool x', .slice a' n' c'] T := by
  have h1 := hB.set 0 (.bool x)
  have h2 := h1.set 1 (.slice a n c)
  have h3 := h2.set 2 (.bool x')
  have h4 := h3.set 3 (.slice a' n' c')
  simp at h1 h2 h3 h4
  exact ⟨(((h.put hB noU4 _).put h1 noU4 _).put h2 noU4 _).put h3 noU4 _, h4⟩
theorem put_below4 {B b : Nat} {w w1 : World} (v0 v1 v2 v3 : Value) (h : Below B w w1) (hB : B ≤ b) : Below B w ((((w1.setCell ⟨b, 0, none⟩ v0).setCell ⟨b, 1, none⟩ v1).setCell ⟨b, 2, none⟩ v2).setCell ⟨b, 3, none⟩ v3) :=
  (((h.setCell (p := ⟨b, 0, none⟩) hB _).setCell (p := ⟨b, 1, none⟩) hB _).setCell (p := ⟨b, 2, none⟩) hB _).setCell (p := ⟨b, 3, none⟩) hB _
theorem blk4v {w : World} {b : Nat} {x0 x1 x2 x3 : Value} {T : TypeId} (h : Blk w b #[x0, x1, x2, x3] T) :
    (w.cell? ⟨b, 0, none⟩ = some x0 ∧ w.cell? ⟨b, 1, none⟩ = some x1 ∧ w.cell? ⟨b, 2, none⟩ = some x2 ∧ w.cell? ⟨b, 3, none⟩ = some x3) ∧ w.frozen? ⟨b, 0, none⟩ = false ∧ w.frozen? ⟨b, 1, none⟩ = false ∧ w.frozen? ⟨b, 2, none⟩ = false ∧ w.frozen? ⟨b, 3, none⟩ = false :=
  ⟨⟨by rw [h.cell]; rfl, by rw [h.cell]; rfl, by rw [h.cell]; rfl, by rw [h.cell]; rfl⟩, h.free 0, h.free 1, h.free 2, h.free 3⟩
theorem RatV.open {w : World} {v : Value} {p q : Int} (h : RatV w v p q) : ∃ x a n c x' a' n' c', v = .agg #[.bool x, .slice a n c, .bool x', .slice a' n' c'] ∧ RatV w (.agg #[.bool x, .slice a n c, .bool x', .slice a' n' c']) p q := by
  obtain ⟨x, a, n, c, x', a', n', c', rfl, h1, h2⟩ := h
  exact ⟨x, a, n, c, x', a', n', c', rfl, x, a, n, c, x', a', n', c', rfl, h1, h2⟩
theorem RatV.parts {w : World} {p q : Int} {n c n' c' : Nat} {x x' : Bool} {a a' : Option Addr} (h : RatV w (.agg #[.bool x, .slice a n c, .bool x', .slice a' n' c']) p q) : IntV w (.agg #[.bool x, .slice a n c]) p ∧ IntV w (.agg #[.bool x', .slice a' n' c']) q := by
  obtain ⟨x, a, n, c, x', a', n', c', hv, h1, h2⟩ := h
  cases hv
  exact ⟨h1, h2⟩
theorem RatV.whole0 {w : World} {p : Int} {n c : Nat} {x : Bool} {a : Option Addr} (h : IntV w (.agg #[.bool x, .slice a n c]) p) : RatV w (.agg #[.bool x, .slice a n c, .bool false, .slice none 0 0]) p 0 := ⟨x, a, n, c, _, _, _, _, rfl, h, IntV.zero w⟩
theorem RatV.zero (w : World) : RatV w (.agg #[.bool false, .slice none 0 0, .bool false, .slice none 0 0]) 0 0 := RatV.whole0 (IntV.zero w)
set_option maxHeartbeats 2000000 in
theorem rfrom_any (n : Int) (w : World) (h1 : -9223372036854775808 ≤ n) (h2 : n ≤ 9223372036854775807) :
    Calls Tryz.prog 39 #[.int .i64 n] w (RetP (fun v w' => RatV w' v n 0) w) := by
  have H := hI (fun w' => from_any n w' h1 h2)
  have HR := hI (Blk.new w #[.bool false, .slice none 0 0, .bool false, .slice none 0 0] 61)
  clear h1 h2
  go_enter Tryz.func39, Tryz.ntmps39
  go_wp2_with (go_at_call 74; refine (H.out _).mono ?_; rintro e w1 ⟨v, rfl, hv, hb⟩; obtain ⟨x5, a5, n5, c5, rfl, hv⟩ := hv.open; have hr := HR.out.below hb; obtain ⟨⟨r0, r1, r2, r3⟩, f0, f1, f2, f3⟩ := blk4v hr; obtain ⟨hv6, hb6⟩ := RatV.put4 (RatV.whole0 hv) hr; have Hv6 := hI hv6; have Hb6 := hI hb6; have Hbel := hI (put_below4 (b := w.heap.size) (.bool x5) (.slice a5 n5 c5) (.bool false) (.slice none 0 0) ((below1 w (.cells #[.bool false, .slice none 0 0, .bool false, .slice none 0 0] 61)).via hb (below1 w _).size) (by omega)); clear hv6 hb6; clear hv hb hr)
  obtain ⟨⟨q0, q1, q2, q3⟩, -⟩ := blk4v Hb6.out
  refine bodyPost_ret (v := .agg #[.bool x5, .slice a5 n5 c5, .bool false, .slice none 0 0]) (by simp [results, Tryz.results39, go_sem, q0, q1, q2, q3]) rfl ⟨_, rfl, ?_, Hbel.out⟩
  exact Hv6.out
set_option maxHeartbeats 2000000 in
theorem rsign_any (v : Value) (p q : Int) (w : World) (h : RatV w v p q) : Calls Tryz.prog 23 #[v] w (Ret (.int .i64 p.sign) w) := by
  obtain ⟨x, a, n, c, x', a', n', c', rfl, h1, -⟩ := h
  have hB := Blk.new w #[.bool x, .slice a n c, .bool x', .slice a' n' c'] 61
  have H := hI (sign_any _ p _ (h1.mono (below1 w (.cells #[.bool x, .slice a n c, .bool x', .slice a' n' c'] 61))))
  generalize p.sign = sg at *
  clear h1
  go_enter Tryz.func23, Tryz.ntmps23
  go_wp2_with (go_at_call 34; refine (H.out).mono ?_; rintro e w1 ⟨rfl, hb⟩)
  go_ret
  exact ⟨rfl, (below1 w _).via hb (below1 w _).size⟩
end Go.Proofs.YtlcmhbkmpkcajaaGreatDoor
namespace Go.Proofs.YtlcmhbkmpkcajaaGreatDoor
open Go.RowKit
theorem stI {w : World} {b : Nat} {x' : Bool} {a' : Option Addr} {n' c' : Nat} {T : TypeId} (x : Bool) (a : Option Addr) (n c : Nat) (hB : Blk w b #[.bool x', .slice a' n' c'] T) :
    Blk ((w.setCell ⟨b, 0, none⟩ (.bool x)).setCell ⟨b, 1, none⟩ (.slice a n c)) b #[.bool x, .slice a n c] T ∧ (∀ v z, IntV w v z → IntV ((w.setCell ⟨b, 0, none⟩ (.bool x)).setCell ⟨b, 1, none⟩ (.slice a n c)) v z) ∧
    (∀ o zo To, Blk w o zo To → o ≠ b → Blk ((w.setCell ⟨b, 0, none⟩ (.bool x)).setCell ⟨b, 1, none⟩ (.slice a n c)) o zo To) ∧ (∀ B w0, Below B w0 w → B ≤ b → Below B w0 ((w.setCell ⟨b, 0, none⟩ (.bool x)).setCell ⟨b, 1, none⟩ (.slice a n c))) := by
  have h1 := hB.set 0 (.bool x)
  have h2 := h1.set 1 (.slice a n c)
  simp at h1 h2
  exact ⟨h2, fun v z h => (h.put hB noU2 _).put h1 noU2 _, fun o zo To h hne => (h.other hne _).other hne _, fun B w0 h hb => put_below x a n c h hb⟩
set_option maxHeartbeats 8000000 in
set_option maxRecDepth 10000 in
theorem divmod_y (u v : Value) (N : Int) (g : Nat) (w : World) (h : IntV w u N) (h' : IntV w v (g : Int)) (hg : 0 < g) (hd : (g : Int) ∣ N) (hf : Few N.natAbs) :
    Calls Tryz.prog 78 #[u, v] w (RetP (fun r w' => ∃ x5 a5 k5 c5 y5 b5 m5 d5, r = .tuple #[.agg #[.bool x5, .slice a5 k5 c5], .agg #[.bool y5, .slice b5 m5 d5], .int .i64 0] ∧ IntV w' (.agg #[.bool x5, .slice a5 k5 c5]) (N / (g : Int))) w) := by
  have H1 := hI (fun w' (hb : Below w.heap.size w w') => sign_any v (g : Int) w' (h'.mono hb))
  rw [Int.sign_eq_one_of_pos (show (0 : Int) < (g : Int) by omega)] at H1
  obtain ⟨a, c, rfl, hl⟩ := h
  obtain ⟨a', c', rfl, hl'⟩ := h'
  rw [Int.natAbs_natCast] at hl' H1
  rw [decide_eq_false (show ¬ (g : Int) < 0 by omega)] at H1
  rw [Int.natAbs_natCast, decide_eq_false (show ¬ (g : Int) < 0 by omega)]
  have H2 := hI (fun w' (hb : Below w.heap.size w w') => divide_any a a' _ _ c c' N.natAbs g w' (hl.mono hb) (hl'.mono hb) (by omega) hf)
  obtain ⟨q, rfl⟩ := hd
  have e1 : ((g : Int) * q).natAbs = g * q.natAbs := by rw [Int.natAbs_mul, Int.natAbs_natCast]
  have e2 : decide ((g : Int) * q < 0) = decide (q < 0) := by
    rw [decide_eq_decide]
    constructor
    · intro h
      rcases (show q < 0 ∨ 0 ≤ q by omega) with h3 | h3
      · exact h3
      · exact absurd (Int.mul_nonneg (show (0 : Int) ≤ (g : Int) by omega) h3) (by omega)
    · intro h; exact Int.mul_neg_of_pos_of_neg (by omega) h
  rw [Int.mul_ediv_cancel_left _ (by omega), e2]
  rw [e1, Nat.mul_div_cancel_left _ hg, Nat.mul_mod_right] at H2
  have H3 := hI (fun w' a n c (hL : Ls w' (.slice a n c) (limbs q.natAbs)) => signed_any (decide (q < 0)) a n c (limbs q.natAbs) w' hL (limbs_dg _))
  have H4 := hI (fun w' a n c (hL : Ls w' (.slice a n c) (limbs 0)) => signed_any (decide (q < 0)) a n c (limbs 0) w' hL (limbs_dg _))
  rw [natL_limbs, sgn_of] at H3
  rw [natL_limbs, show sgn (decide (q < 0)) 0 = 0 by cases decide (q < 0) <;> rfl] at H4
  have H5 := hI (fun w' v (hv : IntV w' v 0) => sign_any v 0 w' hv)
  rw [show Int.sign 0 = 0 from rfl] at H5
  rw [e1]
  generalize (limbs (g * q.natAbs)).length = k0 at *
  generalize (limbs g).length = k1 at *
  generalize decide (q < 0) = sx at *
  have hA : Blk ((((w.alloc (.cells #[.bool sx, .slice a k0 c] 59)).alloc (.cells #[.bool false, .slice a' k1 c'] 59)).alloc (.cells #[.bool false, .slice none 0 0] 59)).alloc (.cells #[.bool false, .slice none 0 0] 59)) w.heap.size #[.bool sx, .slice a k0 c] 59 := (((Blk.new w _ _).old _).old _).old _
  have hB : Blk ((((w.alloc (.cells #[.bool sx, .slice a k0 c] 59)).alloc (.cells #[.bool false, .slice a' k1 c'] 59)).alloc (.cells #[.bool false, .slice none 0 0] 59)).alloc (.cells #[.bool false, .slice none 0 0] 59)) (w.heap.size + 1) #[.bool false, .slice a' k1 c'] 59 := by
    have h := ((Blk.new (w.alloc (.cells #[.bool sx, .slice a k0 c] 59)) #[.bool false, .slice a' k1 c'] 59).old (.cells #[.bool false, .slice none 0 0] 59)).old (.cells #[.bool false, .slice none 0 0] 59)
    simpa using h
  have hQ : Blk ((((w.alloc (.cells #[.bool sx, .slice a k0 c] 59)).alloc (.cells #[.bool false, .slice a' k1 c'] 59)).alloc (.cells #[.bool false, .slice none 0 0] 59)).alloc (.cells #[.bool false, .slice none 0 0] 59)) (w.heap.size + 1 + 1) #[.bool false, .slice none 0 0] 59 := by
    have h := (Blk.new ((w.alloc (.cells #[.bool sx, .slice a k0 c] 59)).alloc (.cells #[.bool false, .slice a' k1 c'] 59)) #[.bool false, .slice none 0 0] 59).old (.cells #[.bool false, .slice none 0 0] 59)
    simpa using h
  have hR : Blk ((((w.alloc (.cells #[.bool sx, .slice a k0 c] 59)).alloc (.cells #[.bool false, .slice a' k1 c'] 59)).alloc (.cells #[.bool false, .slice none 0 0] 59)).alloc (.cells #[.bool false, .slice none 0 0] 59)) (w.heap.size + 1 + 1 + 1) #[.bool false, .slice none 0 0] 59 := by
    have h := Blk.new (((w.alloc (.cells #[.bool sx, .slice a k0 c] 59)).alloc (.cells #[.bool false, .slice a' k1 c'] 59)).alloc (.cells #[.bool false, .slice none 0 0] 59)) #[.bool false, .slice none 0 0] 59
    simpa using h
  have HK := hI ((below3 w (.cells #[.bool sx, .slice a k0 c] 59) (.cells #[.bool false, .slice a' k1 c'] 59) (.cells #[.bool false, .slice none 0 0] 59)).alloc (by simp; omega) (.cells #[.bool false, .slice none 0 0] 59))
  have HA := hI hA
  have HB := hI hB
  have HQ := hI hQ
  have HR := hI hR
  clear hA hB hQ hR hl hl' e1 e2 hf hg
  go_enter Tryz.func78, Tryz.ntmps78
  go_wp2_with (first
    | (go_at_call 34; refine (H1.out _ HK.out).mono ?_; rintro e w1 ⟨rfl, hb1⟩; have Hb1 := hI hb1; obtain ⟨⟨c0, c1⟩, -⟩ := blk2v (HA.out.below hb1); obtain ⟨⟨d0, d1⟩, -⟩ := blk2v (HB.out.below hb1); clear hb1)
    | (go_at_call 116; refine (H2.out _ (HK.out.via Hb1.out HK.out.size)).mono ?_; rintro e w2 ⟨q2, r2, rfl, hq2, hr2, hb2⟩; obtain ⟨aq, cq, rfl, hq2⟩ := hq2; obtain ⟨ar, cr, rfl, hr2⟩ := hr2; have HQ2 := hI hq2; have HR2 := hI hr2; have Hb2 := hI (bw_via Hb1.out hb2); obtain ⟨⟨c0, c1⟩, -⟩ := blk2v (HA.out.below Hb2.out); obtain ⟨⟨d0, d1⟩, -⟩ := blk2v (HB.out.below Hb2.out); clear hq2 hr2 hb2))
  generalize (limbs q.natAbs).length = k2 at *
  generalize (limbs 0).length = k3 at *
  refine wp_region_held_drew (S := (fun w' => w'.cell? ⟨w.heap.size, 0, none⟩ = some (.bool sx) ∧ w'.cell? ⟨w.heap.size + 1, 0, none⟩ = some (.bool false))) (by kernel_rfl) (by exact ⟨(blk2v (HA.out.below (Hb2.out.dn 1))).1.1, (blk2v (HB.out.below (Hb2.out.dn 1))).1.1⟩) (fun hHeld => ?_)
  refine' tk 0 ?_; (try simp only [tkS]); refine' tk 1 ?_; (try simp only [tkS]); refine' tk 2 ?_; (try simp only [tkS]); refine' tk 3 ?_; (try simp only [tkS]); refine' tk 4 ?_; (try simp only [tkS]); refine' tk 5 ?_; (try simp only [tkS]); refine' tk 7 ?_; (try simp only [tkS]); refine' tk 8 ?_; (try simp only [tkS]); refine' tk 9 ?_; (try simp only [tkS])
  refine tk1 6 (fun K hK => ?_)
  go_simp
  go_at_call 92
  refine (H3.out _ _ _ _ (HQ2.out.mono ((Below.refl _ _).dn 1))).mono ?_
  rintro e w6 ⟨v6, rfl, hv6, hb6⟩
  obtain ⟨x6, a6, k6, c6, rfl, hv6⟩ := hv6.open
  have HV6 := hI hv6
  have Hb26 := hI (bw_via ((Below.refl _ _).dn 1) hb6)
  have Hb6 := hI (bw_via Hb2.out Hb26.out)
  clear hv6 hb6
  refine hK.out _ _ (by exact ⟨(blk2v (HA.out.below (Hb6.out))).1.1, (blk2v (HB.out.below (Hb6.out))).1.1⟩) (fun hHeld => ?_)
  clear hK K; (try simp only [tkS])
  refine tk1 10 (fun K hK => ?_)
  go_simp
  go_at_call 92
  refine (H4.out _ _ _ _ (HR2.out.mono Hb26.out)).mono ?_
  rintro e w10 ⟨v10, rfl, hv10, hb10⟩
  obtain ⟨x10, a10, k10, c10, rfl, hv10⟩ := hv10.open
  have HV10 := hI hv10
  have HV6 := hI (HV6.out.mono hb10)
  have Hb10 := hI (bw_via Hb6.out hb10)
  clear hv10 hb10
  refine hK.out _ _ (by exact ⟨(blk2v (HA.out.below (Hb10.out))).1.1, (blk2v (HB.out.below (Hb10.out))).1.1⟩) (fun hHeld => ?_)
  clear hK K; (try simp only [tkS])
  refine tk1 11 (fun K hK => ?_)
  have hq := HQ.out.below Hb10.out
  obtain ⟨⟨r0, r1⟩, f0, f1⟩ := blk2v hq
  obtain ⟨s1, s2, s3, s4⟩ := stI x6 a6 k6 c6 hq
  have HQ11 := hI s1
  have HV11 := hI (s2 _ _ HV6.out)
  have HW11 := hI (s2 _ _ HV10.out)
  have HA11 := hI (s3 _ _ _ (HA.out.below Hb10.out) (show w.heap.size ≠ w.heap.size + 1 + 1 by omega))
  have HB11 := hI (s3 _ _ _ (HB.out.below Hb10.out) (show w.heap.size + 1 ≠ w.heap.size + 1 + 1 by omega))
  have HR11 := hI (s3 _ _ _ (HR.out.below Hb10.out) (show w.heap.size + 1 + 1 + 1 ≠ w.heap.size + 1 + 1 by omega))
  have Hb11 := hI (s4 _ _ (HK.out.via Hb10.out HK.out.size) (by omega))
  clear s1 s2 s3 s4 hq
  go_simp
  refine hK.out _ _ (by exact ⟨(blk2v HA11.out).1.1, (blk2v HB11.out).1.1⟩) (fun hHeld => ?_)
  clear hK K; (try simp only [tkS])
  refine tk1 12 (fun K hK => ?_)
  obtain ⟨⟨t0, t1⟩, g0, g1⟩ := blk2v HR11.out
  obtain ⟨s1, s2, s3, s4⟩ := stI x10 a10 k10 c10 HR11.out
  have HR12 := hI s1
  have HV12 := hI (s2 _ _ HV11.out)
  have HW12 := hI (s2 _ _ HW11.out)
  have HA12 := hI (s3 _ _ _ HA11.out (show w.heap.size ≠ w.heap.size + 1 + 1 + 1 by omega))
  have HB12 := hI (s3 _ _ _ HB11.out (show w.heap.size + 1 ≠ w.heap.size + 1 + 1 + 1 by omega))
  have HQ12 := hI (s3 _ _ _ HQ11.out (show w.heap.size + 1 + 1 ≠ w.heap.size + 1 + 1 + 1 by omega))
  have Hb12 := hI (s4 _ _ Hb11.out (by omega))
  clear s1 s2 s3 s4
  go_simp
  refine hK.out _ _ (by exact ⟨(blk2v HA12.out).1.1, (blk2v HB12.out).1.1⟩) (fun hHeld => ?_)
  clear hK K; (try simp only [tkS])
  refine tkD ?_ _
  generalize hW : ((((w10.setCell ⟨w.heap.size + 1 + 1, 0, none⟩ (.bool x6)).setCell ⟨w.heap.size + 1 + 1, 1, none⟩ (.slice a6 k6 c6)).setCell ⟨w.heap.size + 1 + 1 + 1, 0, none⟩ (.bool x10)).setCell ⟨w.heap.size + 1 + 1 + 1, 1, none⟩ (.slice a10 k10 c10)) = W at *
  clear hW
  obtain ⟨⟨c0, c1⟩, d0, d1⟩ := blk2v HQ12.out
  obtain ⟨⟨e0, e1⟩, g0, g1⟩ := blk2v HR12.out
  go_wp2_with (go_at_call 34; refine (H5.out _ _ HW12.out).mono ?_; rintro e w13 ⟨rfl, hb13⟩; have HV13 := hI (HV12.out.mono hb13); have HQ13 := hI (HQ12.out.below hb13); have HR13 := hI (HR12.out.below hb13); have Hb13 := hI (Hb12.out.via hb13 Hb12.out.size); obtain ⟨⟨c0, c1⟩, d0, d1⟩ := blk2v HQ13.out; obtain ⟨⟨e0, e1⟩, g0, g1⟩ := blk2v HR13.out; clear hb13)
  refine wp_region_held_drew (S := (fun w' => w'.cell? ⟨w.heap.size + 1 + 1, 0, none⟩ = some (.bool x6) ∧ w'.cell? ⟨w.heap.size + 1 + 1, 1, none⟩ = some (.slice a6 k6 c6) ∧ w'.cell? ⟨w.heap.size + 1 + 1 + 1, 0, none⟩ = some (.bool x10) ∧ w'.cell? ⟨w.heap.size + 1 + 1 + 1, 1, none⟩ = some (.slice a10 k10 c10))) (by kernel_rfl) (by exact ⟨(blk2v (HQ13.out.below ((Below.refl _ _).dn 1))).1.1, (blk2v (HQ13.out.below ((Below.refl _ _).dn 1))).1.2, (blk2v (HR13.out.below ((Below.refl _ _).dn 1))).1.1, (blk2v (HR13.out.below ((Below.refl _ _).dn 1))).1.2⟩) (fun hHeld => ?_)
  refine' tk 0 ?_; (try simp only [tkS]); refine' tk 1 ?_; (try simp only [tkS])
  refine tk1 2 (fun K hK => ?_)
  have hq := HQ13.out.below ((Below.refl w13.heap.size w13).dn 1)
  have hr := HR13.out.below ((Below.refl w13.heap.size w13).dn 1)
  obtain ⟨⟨r0, r1⟩, f0, f1⟩ := blk2v hq
  obtain ⟨s1, s2, s3, s4⟩ := stI x6 a6 k6 c6 hq
  have HQ14 := hI s1
  have HV14 := hI (s2 _ _ (HV13.out.mono ((Below.refl w13.heap.size w13).dn 1)))
  have HR14 := hI (s3 _ _ _ hr (show w.heap.size + 1 + 1 + 1 ≠ w.heap.size + 1 + 1 by omega))
  have Hb14 := hI (s4 _ _ (Hb13.out.dn 1) (by omega))
  clear s1 s2 s3 s4 hq hr
  go_simp
  refine hK.out _ _ (by exact ⟨(blk2v HQ14.out).1.1, (blk2v HQ14.out).1.2, (blk2v HR14.out).1.1, (blk2v HR14.out).1.2⟩) (fun hHeld => ?_)
  clear hK K; (try simp only [tkS])
  refine tk1 3 (fun K hK => ?_)
  obtain ⟨⟨t0, t1⟩, g0, g1⟩ := blk2v HR14.out
  obtain ⟨s1, s2, s3, s4⟩ := stI x10 a10 k10 c10 HR14.out
  have HR15 := hI s1
  have HV15 := hI (s2 _ _ HV14.out)
  have HQ15 := hI (s3 _ _ _ HQ14.out (show w.heap.size + 1 + 1 ≠ w.heap.size + 1 + 1 + 1 by omega))
  have Hb15 := hI (s4 _ _ Hb14.out (by omega))
  clear s1 s2 s3 s4
  go_simp
  refine hK.out _ _ (by exact ⟨(blk2v HQ15.out).1.1, (blk2v HQ15.out).1.2, (blk2v HR15.out).1.1, (blk2v HR15.out).1.2⟩) (fun hHeld => ?_)
  clear hK K; (try simp only [tkS])
  refine' tk 4 ?_; (try simp only [tkS])
  refine tkD ?_ _
  go_wp2_with fail
  obtain ⟨⟨q0, q1⟩, -⟩ := blk2v HQ15.out
  obtain ⟨⟨q2, q3⟩, -⟩ := blk2v HR15.out
  exact bodyPost_ret (v := .tuple #[.agg #[.bool x6, .slice a6 k6 c6], .agg #[.bool x10, .slice a10 k10 c10], .int .i64 0]) (by simp [results, Tryz.results78, go_sem, c0, c1, e0, e1]) rfl ⟨_, rfl, ⟨x6, a6, k6, c6, _, _, _, _, rfl, HV15.out⟩, Hb15.out⟩
theorem divmod_x (u v : Value) (N : Int) (g : Nat) (w : World) (h : IntV w u N) (h' : IntV w v (g : Int)) (hg : 0 < g) (hd : (g : Int) ∣ N) (hf : Few N.natAbs) :
    Calls Tryz.prog 78 #[u, v] w (RetP (fun r w' => ∃ x5 a5 k5 c5 r0, r = .tuple #[.agg #[.bool x5, .slice a5 k5 c5], r0, .int .i64 0] ∧ IntV w' (.agg #[.bool x5, .slice a5 k5 c5]) (N / (g : Int))) w) :=
  (divmod_y u v N g w h h' hg hd hf).mono fun _ _ ⟨v, hv, ⟨x, a, k, c, _y, _b, _m, _d, he, hi⟩, hb⟩ => ⟨v, hv, ⟨x, a, k, c, _, he, hi⟩, hb⟩
end Go.Proofs.YtlcmhbkmpkcajaaGreatDoor
