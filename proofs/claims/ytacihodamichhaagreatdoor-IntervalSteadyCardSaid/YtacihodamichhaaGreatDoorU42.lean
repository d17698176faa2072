/-
  Parts of the proof: Rch, Rg, Rint, Lin.
-/
import Derived.Test.YtacihodamichhaaGreatDoorU41
namespace Go.Proofs.YtacihodamichhaaGreatDoor
open Go.RowKit
def loC (n : ByteArray) (kind : Int) : Cut := if kind = 2 then ⟨-1, ⟨#[]⟩, 0⟩ else if kind = 0 then ⟨0, n, 1⟩ else ⟨0, n, 0⟩
def upC (n : ByteArray) (kind : Int) : Cut := if kind = 2 then ⟨1, ⟨#[]⟩, 0⟩ else if kind = 0 then ⟨0, n, 0⟩ else ⟨0, n, 1⟩
def rcA (c : Cut) : Value := rcut c.b c.s c.d
theorem loR_eq (n : ByteArray) (kind : Int) : loR n kind = rcA (loC n kind) := by
 unfold loR loC rcA
 split
 ·rfl
 ·split <;> rfl
theorem upR_eq (n : ByteArray) (kind : Int) : upR n kind = rcA (upC n kind) := by
 unfold upR upC rcA
 split
 ·rfl
 ·split <;> rfl
theorem lower_c (n : ByteArray) (kind : Int) (w : World) : Calls Tryz.prog 89 #[.string n, .int .i64 kind] w (Ret (rcA (loC n kind)) w) := by
 have := rlower_any n kind w
 rwa [loR_eq] at this
theorem upper_c (n : ByteArray) (kind : Int) (w : World) : Calls Tryz.prog 90 #[.string n, .int .i64 kind] w (Ret (rcA (upC n kind)) w) := by
 have := rupper_any n kind w
 rwa [upR_eq] at this
def toP (r : Cut) : Cut := ⟨r.b, r.s, if r.b = 0 then 2 * r.d - 1 else 0⟩
def RokC (r : Cut) : Prop := (r.b = 0 ∧ r.s.size ≤ 60 ∧ errL r.s.data.toList = 0 ∧ 0 ≤ r.d ∧ r.d ≤ 1) ∨ ((r.b = 1 ∨ r.b = -1) ∧ r.s = ⟨#[]⟩ ∧ r.d = 0)
def ordC (x y : Cut) : Int := ordR x.b x.s x.d y.b y.s y.d
theorem same_toP {r : Cut} (h : RokC r) : SamePl r.b r.s r.d (toP r) := by
 refine ⟨rfl, rfl, fun h0 => ?_, fun h0 => ?_⟩
 ·unfold toP; dsimp only; rw [if_pos h0]
 ·rcases h with ⟨h1, _⟩ | ⟨_, h2, _⟩
  ·exact absurd h1 h0
  ·refine ⟨h2, ?_⟩
   unfold toP; dsimp only; rw [if_neg h0]
theorem ord_toP {x y : Cut} (h : RokC x) (k : RokC y) : ordC x y = cmpG (toP x) (toP y) := ord_cmp (same_toP h) (same_toP k)
theorem order_c (x y : Cut) (w : World) (h : RokC x) (k : RokC y) : Calls Tryz.prog 99 #[rcA x, rcA y] w (Ret (.int .i64 (cmpG (toP x) (toP y))) w) := by
 rw [← ord_toP h k]
 refine order4_any x.b x.d y.b y.d x.s y.s w ?_ ?_ ?_ ?_ ?_
 ·rcases h with h | h <;> omega
 ·rcases k with h | h <;> omega
 ·rcases h with h | h <;> omega
 ·rcases k with h | h <;> omega
 ·intro h0 k0
  rcases h with ⟨_, h1, h2, _⟩ | h
  ·rcases k with ⟨_, k1, k2, _⟩ | k
   ·exact ⟨h1, k1, h2, k2⟩
   ·omega
  ·omega
theorem end_rok {n : ByteArray} {kind : Int} (hk : 0 ≤ kind ∧ kind ≤ 2) (hn : n.size ≤ 60) (h : endErr n kind = 0) : RokC (loC n kind) ∧ RokC (upC n kind) ∧ toP (loC n kind) = cutOf n kind 1 ∧ toP (upC n kind) = cutOf n kind (-1) := by
 unfold endErr at h
 unfold loC upC cutOf toP
 by_cases h2 : kind = 2
 ·subst h2
  exact ⟨.inr ⟨.inr rfl, rfl, rfl⟩, .inr ⟨.inl rfl, rfl, rfl⟩, rfl, rfl⟩
 ·rw [if_neg h2] at h
  rw [if_neg h2, if_neg h2, if_neg h2, if_neg h2]
  by_cases h0 : kind = 0
  ·subst h0
   exact ⟨.inl ⟨rfl, hn, h, (by show (0 : Int) ≤ 1; decide), (by show (1 : Int) ≤ 1; decide)⟩, .inl ⟨rfl, hn, h, (by show (0 : Int) ≤ 0; decide), (by show (0 : Int) ≤ 1; decide)⟩, rfl, rfl⟩
  ·rw [if_neg h0, if_neg h0]
   obtain rfl : kind = 1 := by omega
   exact ⟨.inl ⟨rfl, hn, h, (by show (0 : Int) ≤ 0; decide), (by show (0 : Int) ≤ 1; decide)⟩, .inl ⟨rfl, hn, h, (by show (0 : Int) ≤ 1; decide), (by show (1 : Int) ≤ 1; decide)⟩, rfl, rfl⟩
theorem iv_rok {x : Iv} (hs : x.short) (h : ivErr x = 0) : RokC (loC x.lo x.le) ∧ RokC (upC x.hi x.he) ∧ toP (loC x.lo x.le) = x.low ∧ toP (upC x.hi x.he) = x.high := by
 unfold ivErr at h
 split at h
 ·cases h
 rename_i hk
 split at h
 ·rename_i h1; exact absurd h h1
 rename_i h1
 obtain ⟨a, _, b, _⟩ := end_rok (kind := x.le) (by omega) hs.1 (by simpa using h1)
 obtain ⟨_, c, _, d⟩ := end_rok (kind := x.he) (by omega) hs.2 h
 exact ⟨a, c, b, d⟩
end Go.Proofs.YtacihodamichhaaGreatDoor
namespace Go.Proofs.YtacihodamichhaaGreatDoor
open Go.RowKit
abbrev RP := Cut × Cut
def rrow (r : RP) : List Value := [.int .i64 r.1.b, .string r.1.s, .int .i64 r.1.d, .int .i64 r.2.b, .string r.2.s, .int .i64 r.2.d]
def Rgs (w : World) (v : Value) (rs : List RP) : Prop := Sl w 6 v (rs.map rrow)
theorem Rgs.open {w : World} {v : Value} {rs : List RP} (h : Rgs w v rs) : ∃ a cap, v = .slice a rs.length cap ∧ rs.length ≤ cap ∧ cap ≤ maxLen := by
 have := Sl.open h; simpa using this
def RCells (w : World) (b o : Nat) (r : RP) : Prop := w.cell? ⟨b, o, none⟩ = some (.int .i64 r.1.b) ∧ w.cell? ⟨b, o + 1, none⟩ = some (.string r.1.s) ∧ w.cell? ⟨b, o + 2, none⟩ = some (.int .i64 r.1.d) ∧ w.cell? ⟨b, o + 3, none⟩ = some (.int .i64 r.2.b) ∧ w.cell? ⟨b, o + 4, none⟩ = some (.string r.2.s) ∧ w.cell? ⟨b, o + 5, none⟩ = some (.int .i64 r.2.d)
theorem Rgs.at {w wr : World} {n cap : Nat} {a : Option Addr} {rs : List RP} (h : Rgs w (.slice a n cap) rs) (hb : Below w.heap.size w wr) {k : Nat} (hk : k < n) :
  ∃ b off r, a = some ⟨b, off, none⟩ ∧ rs[k]? = some r ∧ RCells wr b (off + k * 6) r := by
 obtain ⟨b, off, ha, hlt, r, hr, hc⟩ := Sl.row h hb hk
 simp only [List.getElem?_map, Option.map_eq_some_iff] at hr
 obtain ⟨l, hl, rfl⟩ := hr
 exact ⟨b, off, l, ha, hl, hc 0 (by decide), hc 1 (by decide), hc 2 (by decide), hc 3 (by decide), hc 4 (by decide), hc 5 (by decide)⟩
def rgRow (rs : List RP) : List Value := (rs.map rrow).flatten
theorem rgRow_snoc (rs : List RP) (r : RP) : rgRow (rs ++ [r]) = rgRow rs ++ rrow r := by
 unfold rgRow; rw [List.map_append, List.flatten_append, List.map_singleton, List.flatten_cons, List.flatten_nil, List.append_nil]
theorem own_rgs {w : World} {B n : Nat} {v : Value} {rs : List RP} (h : w.ownsRow B 119 6 v n (rgRow rs)) : Rgs w v rs :=
 Sl.own h (fun r hr => by obtain ⟨p, _, rfl⟩ := List.mem_map.1 hr; rfl) (by decide)
theorem ER : ElemTy 104 119 6 64 := ⟨Tryz.underlying104, by kernel_rfl⟩
theorem one6 (r : RP) : ∀ u ∈ rrow r, u.oneCell' = true := by
 intro u hu
 simp [rrow] at hu
 rcases hu with rfl | rfl | rfl | rfl | rfl | rfl <;> rfl
def rgOf (x : Iv) : RP := (loC x.lo x.le, upC x.hi x.he)
theorem take_snoc1 {α : Type} {l : List α} {k : Nat} {x : α} (h : l[k]? = some x) : l.take (k + 1) = l.take k ++ [x] := by
 obtain ⟨hi, rfl⟩ := List.getElem?_eq_some_iff.1 h
 rw [List.take_succ_eq_append_getElem hi]
set_option maxHeartbeats 8000000 in
set_option maxRecDepth 10000 in
theorem ranges_any (v : Value) (xs : List Iv) (w : World) (h : Ivs w v xs) (hn : xs.length < 100000) :
  Calls Tryz.prog 80 #[v] w (RetP (fun r w' => w'.ownsRow w.heap.size 119 6 r xs.length (rgRow (xs.map rgOf))) w) := by
 obtain ⟨a, c, rfl, hc1, hc2⟩ := h.open
 unfold maxLen at hc2
 have HX := hI h
 clear h
 generalize hln : xs.length = n at *
 have Hln := hI hln
 clear hln
 have HL := hI (fun s k w' => lower_c s k w')
 have HU := hI (fun s k w' => upper_c s k w')
 have HN := hI (fun W : World => World.ownsRow_nil W W.heap.size 119 6)
 go_enter Tryz.func80, Tryz.ntmps80
 go_wp2_with fail
 go_loopw [4, 3] (fun i out wr => ∃ (k : Nat), k ≤ n ∧ i = .int .i64 (k : Int) ∧ Below w.heap.size w wr ∧ wr.ownsRow w.heap.size 119 6 out k (rgRow ((xs.take k).map rgOf))) (fun i _ _ => n - (intOf i).toNat)
 case atStart => exact ⟨0, by omega, rfl, Below.refl _ _, HN.out _⟩
 case round =>
  obtain ⟨k, hk, rfl, hbw, hown⟩ := hrel
  have Hbw := hI hbw
  have Hown := hI hown
  rcases Nat.lt_or_ge k n with hlt | hge
  ·obtain ⟨b, off, x, rfl, hx, d0, d1, d2, d3⟩ := HX.out.at (Below.refl _ _) hlt
   have hkn : (k : Int) < (n : Int) := by omega
   have hk0 : (0 : Int) ≤ (k : Int) := Int.natCast_nonneg _
   have hkw : IntKind.i64.wrap ((k : Int) + 1) = (k : Int) + 1 := IntWalk.i64_in _ (by omega)
   have Hxc := hI (show rgRow ((xs.take (k + 1)).map rgOf) = rgRow ((xs.take k).map rgOf) ++ rrow (loC x.lo x.le, upC x.hi x.he) by rw [take_snoc1 hx, List.map_append, ← rgRow_snoc]; rfl)
   have Hcell := hI (fun w' (hb : Below w.heap.size w w') => And.intro ((hb.cell (p := ⟨b, off + k * 4, none⟩) (World.block_lt_of_cell? _ _ d0)).trans d0) (And.intro ((hb.cell (p := ⟨b, off + k * 4 + 1, none⟩) (World.block_lt_of_cell? _ _ d1)).trans d1) (And.intro ((hb.cell (p := ⟨b, off + k * 4 + 2, none⟩) (World.block_lt_of_cell? _ _ d2)).trans d2) ((hb.cell (p := ⟨b, off + k * 4 + 3, none⟩) (World.block_lt_of_cell? _ _ d3)).trans d3))))
   obtain ⟨c0, c1, c2, c3⟩ := Hcell.out _ hbw
   have HLx := hI (fun w' => HL.out x.lo x.le w')
   have HUx := hI (fun w' => HU.out x.hi x.he w')
   unfold rcA rcut at HLx HUx
   clear hx hbw hown HL HU d0 d1 d2 d3
   generalize loC x.lo x.le = lc at *
   generalize upC x.hi x.he = uc at *
   go_upto_region 5 with fail
   refine wp_region_held_drew (S := (fun w' => w'.cell? ⟨b, off + k * 4, none⟩ = some (.string x.lo) ∧ w'.cell? ⟨b, off + k * 4 + 1, none⟩ = some (.string x.hi) ∧ w'.cell? ⟨b, off + k * 4 + 2, none⟩ = some (.int .i64 x.le) ∧ w'.cell? ⟨b, off + k * 4 + 3, none⟩ = some (.int .i64 x.he))) (by kernel_rfl) (by exact Hcell.out _ (Below.via Hbw.out (bwD wr) Hbw.out.size)) (fun hHeld => ?_)
   refine' tk 0 ?_; (try simp only [tkS]); refine' tk 1 ?_; (try simp only [tkS]); refine' tk 2 ?_; (try simp only [tkS]); refine' tk 3 ?_; (try simp only [tkS]); refine' tk 4 ?_; (try simp only [tkS]); refine' tk 5 ?_; (try simp only [tkS]); refine' tk 6 ?_; (try simp only [tkS]); refine' tk 7 ?_; (try simp only [tkS]); refine' tk 8 ?_; (try simp only [tkS]); refine' tk 9 ?_; (try simp only [tkS]); refine' tk 10 ?_; (try simp only [tkS]); refine' tk 12 ?_; (try simp only [tkS]); refine' tk 13 ?_; (try simp only [tkS]); refine' tk 14 ?_; (try simp only [tkS]); refine' tk 15 ?_; (try simp only [tkS]); refine' tk 16 ?_; (try simp only [tkS]); refine' tk 17 ?_; (try simp only [tkS]); refine' tk 18 ?_; (try simp only [tkS]); refine' tk 19 ?_; (try simp only [tkS]); refine' tk 20 ?_; (try simp only [tkS]); refine' tk 21 ?_; (try simp only [tkS])
   refine tk1 11 (fun K hK => ?_)
   go_simp
   go_at_call 89
   refine (HLx.out _).mono ?_
   rintro e5 w11 ⟨rfl, hb11⟩
   have H11 := hI (Below.via (Below.via Hbw.out (bwD wr) Hbw.out.size) hb11 (Below.size (Below.via Hbw.out (bwD wr) Hbw.out.size)))
   have Hbo11 := hI hb11
   clear hb11
   refine hK.out _ _ (by exact Hcell.out _ (H11.out)) (fun hHeld => ?_)
   clear hK K; (try simp only [tkS])
   refine tk1 22 (fun K hK => ?_)
   go_simp
   go_at_call 90
   refine (HUx.out _).mono ?_
   rintro e5 w22 ⟨rfl, hb22⟩
   have H22 := hI (Below.via (H11.out) hb22 (Below.size (H11.out)))
   have Hbo22 := hI hb22
   clear hb22
   refine hK.out _ _ (by exact Hcell.out _ (H22.out)) (fun hHeld => ?_)
   clear hK K; (try simp only [tkS])
   refine' tk 23 ?_; (try simp only [tkS])
   refine tk1 24 (fun K hK => ?_)
   go_simp
   refine hK.out _ _ (by exact Hcell.out _ (Below.alloc (H22.out) (Below.size (H22.out)) (.cells #[.int .i64 lc.b, .string lc.s, .int .i64 lc.d, .int .i64 uc.b, .string uc.s, .int .i64 uc.d] 119))) (fun hHeld => ?_)
   clear hK K; (try simp only [tkS])
   refine tk1 25 (fun K hK => ?_)
   refine stepApp ER (by decide) (rrow (lc, uc)) (by rfl) _ _ (by rfl) w.heap.size k _ _ _ (by rfl) (by rfl) (by exact World.ownsRow.alloc (own_below (own_below (own_below Hown.out (bwD wr)) Hbo11.out) Hbo22.out) _) (by exact heap_alloc_new _ _) (by rfl) (one6 (lc, uc)) (by omega) (by decide) (by exact Below.size (Below.alloc (H22.out) (Below.size (H22.out)) (.cells #[.int .i64 lc.b, .string lc.s, .int .i64 lc.d, .int .i64 uc.b, .string uc.s, .int .i64 uc.d] 119))) ?_
   intro g5 cap5 w5 hown' hg' _ _
   have Hb5 := hI (Below.grown (Below.alloc (H22.out) (Below.size (H22.out)) (.cells #[.int .i64 lc.b, .string lc.s, .int .i64 lc.d, .int .i64 uc.b, .string uc.s, .int .i64 uc.d] 119)) hg' (Below.size (Below.alloc (H22.out) (Below.size (H22.out)) (.cells #[.int .i64 lc.b, .string lc.s, .int .i64 lc.d, .int .i64 uc.b, .string uc.s, .int .i64 uc.d] 119))) (fun q hq => (Hown.out.lt q hq).1))
   have Hown5 := hI hown'
   clear hown' hg'
   refine hK.out _ _ (by exact Hcell.out _ (Hb5.out)) (fun hHeld => ?_)
   clear hK K; (try simp only [tkS])
   refine' tk 26 ?_; (try simp only [tkS])
   refine tkD ?_ _
   go_wp2_with fail
   go_roundw
   case rel => exact ⟨k + 1, by omega, by go_num, Hb5.out, by rw [Hxc.out]; exact Hown5.out⟩
   case measure => simp [intOf] <;> omega
  ·obtain rfl : k = n := by omega
   have hkn : ¬ (k : Int) < (k : Int) := by omega
   go_wp2_with fail
   go_ret
   exact ⟨_, rfl, by have := Hown.out; rw [List.take_of_length_le (by rw [Hln.out]; exact Nat.le_refl _)] at this; exact this, Hbw.out⟩
end Go.Proofs.YtacihodamichhaaGreatDoor
namespace Go.Proofs.YtacihodamichhaaGreatDoor
open Go.RowKit
def ivR (r : RP) : Iv := ⟨if r.1.b = 0 then r.1.s else ⟨#[]⟩, if r.2.b = 0 then r.2.s else ⟨#[]⟩, if r.1.b = 0 then (if r.1.d = 1 then 0 else 1) else 2, if r.2.b = 0 then (if r.2.d = 1 then 1 else 0) else 2⟩
set_option maxHeartbeats 8000000 in
set_option maxRecDepth 10000 in
theorem rintervals_any (v : Value) (rs : List RP) (w : World) (h : Rgs w v rs) (hn : rs.length < 100000) :
  Calls Tryz.prog 78 #[v] w (RetP (fun r w' => ∃ a c, r = .slice a rs.length c ∧ Ivs w' (.slice a rs.length c) (rs.map ivR)) w) := by
 obtain ⟨a, c, rfl, hc1, hc2⟩ := h.open
 unfold maxLen at hc2
 have HX := hI h
 clear h
 generalize hln : rs.length = n at *
 have Hln := hI hln
 clear hln
 have HN := hI (fun W : World => World.ownsRow_nil W W.heap.size 46 4)
 go_enter Tryz.func78, Tryz.ntmps78
 go_wp2_with fail
 go_loopw [4, 3] (fun i out wr => ∃ (k : Nat), k ≤ n ∧ i = .int .i64 (k : Int) ∧ Below w.heap.size w wr ∧ wr.ownsRow w.heap.size 46 4 out k ((((rs.take k).map ivR).map Iv.row).flatten)) (fun i _ _ => n - (intOf i).toNat)
 case atStart => exact ⟨0, by omega, rfl, Below.refl _ _, HN.out _⟩
 case round =>
  obtain ⟨k, hk, rfl, hbw, hown⟩ := hrel
  have Hbw := hI hbw
  have Hown := hI hown
  rcases Nat.lt_or_ge k n with hlt | hge
  ·obtain ⟨b, off, r, rfl, hx, c0, c1, c2, c3, c4, c5⟩ := HX.out.at hbw hlt
   have hkn : (k : Int) < (n : Int) := by omega
   have hk0 : (0 : Int) ≤ (k : Int) := Int.natCast_nonneg _
   have hkw : IntKind.i64.wrap ((k : Int) + 1) = (k : Int) + 1 := IntWalk.i64_in _ (by omega)
   have Hxc := hI (show ((rs.take (k + 1)).map ivR).map Iv.row = ((rs.take k).map ivR).map Iv.row ++ [(ivR r).row] by rw [take_snoc1 hx, List.map_append, List.map_append]; rfl)
   have hblt := World.block_lt_of_cell? _ _ c0
   obtain ⟨⟨b1, s1, d1⟩, b2, s2, d2⟩ := r
   dsimp only at c0 c1 c2 c3 c4 c5
   obtain ⟨lo, hlo⟩ : ∃ x, (ivR (⟨b1, s1, d1⟩, ⟨b2, s2, d2⟩)).lo = x := ⟨_, rfl⟩
   obtain ⟨hi, hhi⟩ : ∃ x, (ivR (⟨b1, s1, d1⟩, ⟨b2, s2, d2⟩)).hi = x := ⟨_, rfl⟩
   obtain ⟨le, hle⟩ : ∃ x, (ivR (⟨b1, s1, d1⟩, ⟨b2, s2, d2⟩)).le = x := ⟨_, rfl⟩
   obtain ⟨he, hhe⟩ : ∃ x, (ivR (⟨b1, s1, d1⟩, ⟨b2, s2, d2⟩)).he = x := ⟨_, rfl⟩
   have hiv : ivR (⟨b1, s1, d1⟩, ⟨b2, s2, d2⟩) = ⟨lo, hi, le, he⟩ := by rw [← hlo, ← hhi, ← hle, ← hhe]
   rw [hiv] at Hxc
   have Hcs := hI (And.intro hlo (And.intro hhi (And.intro hle hhe)))
   clear hx hbw hown hlo hhi hle hhe hiv
   have Hcell := hI (fun w' (hb : Below wr.heap.size wr w') => And.intro ((hb.cell (p := ⟨b, off + k * 6 + 3, none⟩) hblt).trans c3) (And.intro ((hb.cell (p := ⟨b, off + k * 6 + 4, none⟩) hblt).trans c4) ((hb.cell (p := ⟨b, off + k * 6 + 5, none⟩) hblt).trans c5)))
   go_upto_if 22 with fail
   go_cut [6] from 12 to 50 (fun _ wx => Below wr.heap.size wr wx ∧ Blk wx wr.heap.size #[.string lo, .string ⟨#[]⟩, .int .i64 le, .int .i64 2] 46)
   case first =>
    have hlo := Hcs.out.1
    have hle := Hcs.out.2.2.1
    unfold ivR at hlo hle
    dsimp only at hlo hle
    clear Hcs Hxc Hown HN Hcell
    rcases Classical.em (b1 = 0) with h1 | h1
    ·subst h1
     rw [if_pos rfl] at hlo hle
     rcases Classical.em (d1 = 1) with e1 | e1
     ·subst e1
      rw [if_pos rfl] at hle
      subst hlo hle
      go_wp2_with fail
      go_meet
      exact ⟨below2 wr (.cells #[.string s1, .string ⟨#[]⟩, .int .i64 0, .int .i64 2] 46) (.cells #[.int .i64 0, .string s1, .int .i64 1] 116), (Blk.new wr _ _).old _⟩
     ·rw [if_neg e1] at hle
      subst hlo hle
      have e1b : (d1 == 1) = false := beq_eq_false_iff_ne.2 e1
      clear e1
      go_wp2_with fail
      go_meet
      exact ⟨below2 wr (.cells #[.string s1, .string ⟨#[]⟩, .int .i64 1, .int .i64 2] 46) (.cells #[.int .i64 0, .string s1, .int .i64 d1] 116), (Blk.new wr _ _).old _⟩
    ·rw [if_neg h1] at hlo hle
     subst hlo hle
     have h1b : (b1 == 0) = false := beq_eq_false_iff_ne.2 h1
     clear h1
     go_wp2_with fail
     go_meet
     exact ⟨below2 wr (.cells #[.string ⟨#[]⟩, .string ⟨#[]⟩, .int .i64 2, .int .i64 2] 46) (.cells #[.int .i64 b1, .string s1, .int .i64 d1] 116), (Blk.new wr _ _).old _⟩
   case rest =>
    obtain ⟨hbx, hB5⟩ := hcut
    rename World => wx
    obtain ⟨c3, c4, c5⟩ := Hcell.out _ hbx
    obtain ⟨⟨p0, p1, p2, p3⟩, f0, f1, f2, f3⟩ := blk4v hB5
    have hlt5 := hB5.lt
    have HB5 := hI hB5
    have Hbx := hI hbx
    generalize hg5 : wr.heap.size = B5 at *
    have Hg5 := hI hg5
    clear hbx hB5 hg5 Hcell c0 c1 c2
    go_upto_if 38 with fail
    go_cut [7] from 12 to 50 (fun _ wy => Below B5 wr wy ∧ Blk wy B5 #[.string lo, .string hi, .int .i64 le, .int .i64 he] 46)
    case first =>
     have hhi := Hcs.out.2.1
     have hhe := Hcs.out.2.2.2
     unfold ivR at hhi hhe
     dsimp only at hhi hhe
     clear Hcs Hxc Hown HN
     rcases Classical.em (b2 = 0) with h2 | h2
     ·subst h2
      rw [if_pos rfl] at hhi hhe
      rcases Classical.em (d2 = 1) with e2 | e2
      ·subst e2
       rw [if_pos rfl] at hhe
       subst hhi hhe
       go_wp2_with fail
       go_meet
       exact ⟨((((Hbx.out.setCell (p := ⟨B5, 1, none⟩) (Nat.le_refl _) (.string s2)).setCell (p := ⟨B5, 3, none⟩) (Nat.le_refl _) (.int .i64 0)).setCell (p := ⟨B5, 3, none⟩) (Nat.le_refl _) (.int .i64 1)).alloc (by simp only [World.size_setCell]; exact Nat.le_of_lt hlt5) (.cells #[.int .i64 0, .string s2, .int .i64 1] 116)), ((((HB5.out.set 1 (.string s2)).set 3 (.int .i64 0)).set 3 (.int .i64 1)).old (.cells #[.int .i64 0, .string s2, .int .i64 1] 116))⟩
      ·rw [if_neg e2] at hhe
       subst hhi hhe
       have e2b : (d2 == 1) = false := beq_eq_false_iff_ne.2 e2
       clear e2
       go_wp2_with fail
       go_meet
       exact ⟨(((Hbx.out.setCell (p := ⟨B5, 1, none⟩) (Nat.le_refl _) (.string s2)).setCell (p := ⟨B5, 3, none⟩) (Nat.le_refl _) (.int .i64 0)).alloc (by simp only [World.size_setCell]; exact Nat.le_of_lt hlt5) (.cells #[.int .i64 0, .string s2, .int .i64 d2] 116)), (((HB5.out.set 1 (.string s2)).set 3 (.int .i64 0)).old (.cells #[.int .i64 0, .string s2, .int .i64 d2] 116))⟩
     ·rw [if_neg h2] at hhi hhe
      subst hhi hhe
      have h2b : (b2 == 0) = false := beq_eq_false_iff_ne.2 h2
      clear h2
      go_wp2_with fail
      go_meet
      exact ⟨(Hbx.out.alloc (Nat.le_of_lt hlt5) (.cells #[.int .i64 b2, .string s2, .int .i64 d2] 116)), (HB5.out.old (.cells #[.int .i64 b2, .string s2, .int .i64 d2] 116))⟩
    case rest =>
     obtain ⟨hby, hB⟩ := hcut
     rw [← Hg5.out] at hby
     have Hbx := hI (Hbw.out.via hby Hbw.out.size)
     have Hown4 := hI (own_below Hown.out hby)
     obtain ⟨⟨p0, p1, p2, p3⟩, -⟩ := blk4v hB
     clear hby hB f0 f1 f2 f3
     go_wp2_with (at_builtin; refine wpApp EI (by decide) (Iv.row ⟨lo, hi, le, he⟩) rfl _ _ rfl w.heap.size _ _ _ rfl rfl Hown4.out rfl (one4 ⟨lo, hi, le, he⟩) (by omega) (by decide) Hbx.out.size ?_; intro v' w5 hown' hg'; have Hb5 := hI (below_app Hbx.out Hown4.out hg' Hbx.out.size); have Hown5 := hI hown'; clear hown' hg')
     go_roundw
     case rel => exact ⟨k + 1, by omega, by go_num, Hb5.out, by rw [Hxc.out, List.flatten_append, List.flatten_cons, List.flatten_nil, List.append_nil]; exact Hown5.out⟩
     case measure => simp [intOf] <;> omega
  ·obtain rfl : k = n := by omega
   have hkn : ¬ (k : Int) < (k : Int) := by omega
   obtain ⟨aa, cap, rfl, -, -⟩ := own_open hown
   have Hres := hI (show Ivs wr (.slice aa k cap) (rs.map ivR) by have := own_ivs hown; rwa [List.take_of_length_le (by rw [Hln.out]; exact Nat.le_refl _)] at this)
   go_wp2_with fail
   go_ret
   exact ⟨_, rfl, ⟨aa, cap, rfl, Hres.out⟩, Hbw.out⟩
end Go.Proofs.YtacihodamichhaaGreatDoor
namespace Go.Proofs.YtacihodamichhaaGreatDoor
structure SWk {α : Type} (lt : α → α → Prop) : Prop where
 irr : ∀ x, ¬ lt x x
 tr : ∀ {x y z}, lt x y → lt y z → lt x z
 ntr : ∀ {x y z}, ¬ lt x y → ¬ lt y z → ¬ lt x z
theorem SWk.asym {α : Type} {lt : α → α → Prop} (H : SWk lt) {x y : α} (h : lt x y) : ¬ lt y x := fun k => H.irr _ (H.tr h k)
theorem SWk.lt_of_le {α : Type} {lt : α → α → Prop} (H : SWk lt) {x y z : α} (h : ¬ lt y x) (k : lt y z) : lt x z := Classical.byContradiction fun hn => by
 have h1 : ¬ lt y z := H.ntr h hn
 exact h1 k
theorem SWk.lt_le {α : Type} {lt : α → α → Prop} (H : SWk lt) {x y z : α} (h : lt x y) (k : ¬ lt z y) : lt x z := Classical.byContradiction fun hn => by
 have h1 : ¬ lt x y := H.ntr hn k
 exact h1 h
def Mem {α : Type} (lt : α → α → Prop) (X : List (α × α)) (c : α) : Prop := ∃ p ∈ X, ¬ lt c p.1 ∧ lt c p.2
structure IsSet {α : Type} (lt : α → α → Prop) (X : List (α × α)) : Prop where
 ne : ∀ p ∈ X, lt p.1 p.2
 gap : X.Pairwise fun p q => lt p.2 q.1
theorem Mem.nil {α : Type} {lt : α → α → Prop} {c : α} : ¬ Mem lt [] c := fun ⟨_, h, _⟩ => by cases h
theorem Mem.cons {α : Type} {lt : α → α → Prop} {p : α × α} {X : List (α × α)} {c : α} : Mem lt (p :: X) c ↔ (¬ lt c p.1 ∧ lt c p.2) ∨ Mem lt X c := by
 unfold Mem; simp
theorem Mem.app {α : Type} {lt : α → α → Prop} {X Y : List (α × α)} {c : α} : Mem lt (X ++ Y) c ↔ Mem lt X c ∨ Mem lt Y c := by
 unfold Mem; simp only [List.mem_append]
 exact ⟨fun ⟨p, h, k⟩ => h.elim (fun h => .inl ⟨p, h, k⟩) (fun h => .inr ⟨p, h, k⟩), fun h => h.elim (fun ⟨p, h, k⟩ => ⟨p, .inl h, k⟩) (fun ⟨p, h, k⟩ => ⟨p, .inr h, k⟩)⟩
theorem IsSet.nil {α : Type} {lt : α → α → Prop} : IsSet lt ([] : List (α × α)) := ⟨fun _ h => (by cases h), List.Pairwise.nil⟩
theorem IsSet.tail {α : Type} {lt : α → α → Prop} {p : α × α} {X : List (α × α)} (h : IsSet lt (p :: X)) : IsSet lt X := ⟨fun q hq => h.ne q (List.mem_cons_of_mem _ hq), (List.pairwise_cons.1 h.gap).2⟩
def putR {α : Type} (lt : α → α → Prop) [DecidableRel lt] (O : List (α × α)) (p : α × α) : List (α × α) :=
 match O.getLast? with
 | none => [p]
 | some q => if lt q.2 p.1 then O ++ [p] else if lt q.2 p.2 then O.dropLast ++ [(q.1, p.2)] else O
def mergeR {α : Type} (lt : α → α → Prop) [DecidableRel lt] (l : List (α × α)) : List (α × α) := l.foldl (putR lt) []
theorem getLast_snoc {β : Type} {O : List β} {q : β} (h : O.getLast? = some q) : O = O.dropLast ++ [q] := by
 obtain ⟨ys, rfl⟩ := List.getLast?_eq_some_iff.1 h
 rw [List.dropLast_concat]
theorem isSet_snoc {α : Type} {lt : α → α → Prop} {O : List (α × α)} {p : α × α} (h : IsSet lt O) (hp : lt p.1 p.2) (hg : ∀ q ∈ O, lt q.2 p.1) : IsSet lt (O ++ [p]) :=
 ⟨fun q hq => by
  rcases List.mem_append.1 hq with h1 | h1
  ·exact h.ne q h1
  ·cases List.mem_singleton.1 h1; exact hp, List.pairwise_append.2 ⟨h.gap, List.pairwise_singleton _ _, fun a ha b hb => by cases List.mem_singleton.1 hb; exact hg a ha⟩⟩
theorem isSet_init {α : Type} {lt : α → α → Prop} {O : List (α × α)} {p : α × α} (h : IsSet lt (O ++ [p])) : IsSet lt O ∧ lt p.1 p.2 ∧ ∀ q ∈ O, lt q.2 p.1 :=
 ⟨⟨fun q hq => h.ne q (List.mem_append_left _ hq), (List.pairwise_append.1 h.gap).1⟩, h.ne p (List.mem_append_right _ (List.mem_singleton.2 rfl)), fun q hq => (List.pairwise_append.1 h.gap).2.2 q hq p (List.mem_singleton.2 rfl)⟩
theorem putR_ok {α : Type} {lt : α → α → Prop} [DecidableRel lt] (H : SWk lt) {O : List (α × α)} {p : α × α} (h : IsSet lt O) (hp : lt p.1 p.2) (hl : ∀ q ∈ O, ¬ lt p.1 q.1) :
  IsSet lt (putR lt O p) ∧ (∀ c, Mem lt (putR lt O p) c ↔ Mem lt O c ∨ (¬ lt c p.1 ∧ lt c p.2)) ∧ ∀ q ∈ putR lt O p, ¬ lt p.1 q.1 := by
 unfold putR
 cases e : O.getLast? with
 | none =>
  rw [List.getLast?_eq_none_iff] at e
  subst e
  refine ⟨⟨fun q hq => ?_, List.pairwise_singleton _ _⟩, fun c => ?_, fun q hq => ?_⟩
  ·cases List.mem_singleton.1 hq; exact hp
  ·constructor
   ·intro hm
    rcases Mem.cons.1 hm with h1 | h1
    ·exact .inr h1
    ·exact absurd h1 Mem.nil
   ·intro hm
    rcases hm with h1 | h1
    ·exact absurd h1 Mem.nil
    ·exact Mem.cons.2 (.inl h1)
  ·cases List.mem_singleton.1 hq; exact H.irr _
 | some q =>
  have hO := getLast_snoc e
  generalize O.dropLast = I at hO
  subst hO
  obtain ⟨hI, hq, hgI⟩ := isSet_init h
  have hlq : ¬ lt p.1 q.1 := hl q (List.mem_append_right _ (List.mem_singleton.2 rfl))
  dsimp only
  split
  ·rename_i h1
   refine ⟨isSet_snoc h hp fun r hr => ?_, fun c => ?_, fun r hr => ?_⟩
   ·rcases List.mem_append.1 hr with h2 | h2
    ·exact H.tr (H.tr (hgI r h2) hq) h1
    ·cases List.mem_singleton.1 h2; exact h1
   ·rw [Mem.app (X := I ++ [q])]
    exact or_congr Iff.rfl ⟨fun hm => (Mem.cons.1 hm).elim id (fun h => absurd h Mem.nil), fun hm => Mem.cons.2 (.inl hm)⟩
   ·rcases List.mem_append.1 hr with h2 | h2
    ·exact hl r h2
    ·cases List.mem_singleton.1 h2; exact H.irr _
  ·rename_i h1
   split
   ·rename_i h2
    refine ⟨isSet_snoc hI (H.tr hq h2) hgI, fun c => ?_, fun r hr => ?_⟩
    ·rw [Mem.app, Mem.app, Mem.cons, Mem.cons]
     have n1 := @Mem.nil α lt c
     constructor
     ·rintro (a | ⟨a, b⟩ | a)
      ·exact .inl (.inl a)
      ·by_cases hc : lt c q.2
       ·exact .inl (.inr (.inl ⟨a, hc⟩))
       ·exact .inr ⟨fun hh => hc (H.lt_le hh h1), b⟩
      ·exact absurd a n1
     ·rintro ((a | ⟨a, b⟩ | a) | ⟨a, b⟩)
      ·exact .inl a
      ·exact .inr (.inl ⟨a, H.tr b h2⟩)
      ·exact absurd a n1
      ·exact .inr (.inl ⟨H.ntr a hlq, b⟩)
    ·rcases List.mem_append.1 hr with h3 | h3
     ·exact hl r (List.mem_append_left _ h3)
     ·cases List.mem_singleton.1 h3; exact hlq
   ·rename_i h2
    refine ⟨h, fun c => ?_, hl⟩
    constructor
    ·exact .inl
    ·rintro (a | ⟨a, b⟩)
     ·exact a
     ·exact Mem.app.2 (.inr (Mem.cons.2 (.inl ⟨H.ntr a hlq, H.lt_le b h2⟩)))
theorem mergeR_from {α : Type} {lt : α → α → Prop} [DecidableRel lt] (H : SWk lt) : ∀ (l O : List (α × α)), IsSet lt O → (∀ p ∈ l, lt p.1 p.2) → l.Pairwise (fun p q => ¬ lt q.1 p.1) → (∀ p ∈ l, ∀ q ∈ O, ¬ lt p.1 q.1) →
  IsSet lt (l.foldl (putR lt) O) ∧ ∀ c, Mem lt (l.foldl (putR lt) O) c ↔ Mem lt O c ∨ Mem lt l c
 | [], O, hO, _, _, _ => ⟨hO, fun c => ⟨.inl, fun h => h.elim id fun h => absurd h Mem.nil⟩⟩
 | p :: l, O, hO, hne, hs, hlow => by
  obtain ⟨h1, h2, h3⟩ := putR_ok H hO (hne p (List.mem_cons_self ..)) (hlow p (List.mem_cons_self ..))
  obtain ⟨k1, k2⟩ := mergeR_from H l (putR lt O p) h1 (fun q hq => hne q (List.mem_cons_of_mem _ hq)) (List.pairwise_cons.1 hs).2 (fun q hq r hr => H.ntr ((List.pairwise_cons.1 hs).1 q hq) (h3 r hr))
  refine ⟨k1, fun c => ?_⟩
  rw [List.foldl_cons, k2, h2, Mem.cons, or_assoc]
theorem mergeR_ok {α : Type} {lt : α → α → Prop} [DecidableRel lt] (H : SWk lt) {l : List (α × α)} (hne : ∀ p ∈ l, lt p.1 p.2) (hs : l.Pairwise (fun p q => ¬ lt q.1 p.1)) : IsSet lt (mergeR lt l) ∧ ∀ c, Mem lt (mergeR lt l) c ↔ Mem lt l c := by
 obtain ⟨h1, h2⟩ := mergeR_from H l [] IsSet.nil hne hs (fun _ _ _ h => by cases h)
 exact ⟨h1, fun c => by rw [mergeR, h2]; exact ⟨fun h => h.elim (fun h => absurd h Mem.nil) id, .inr⟩⟩
theorem Mem.perm {α : Type} {lt : α → α → Prop} {X Y : List (α × α)} (h : X.Perm Y) (c : α) : Mem lt X c ↔ Mem lt Y c := ⟨fun ⟨p, hp, k⟩ => ⟨p, h.mem_iff.1 hp, k⟩, fun ⟨p, hp, k⟩ => ⟨p, h.mem_iff.2 hp, k⟩⟩
theorem mergeR_all {α : Type} {lt : α → α → Prop} [DecidableRel lt] {P : α → Prop} : ∀ (l O : List (α × α)), (∀ p ∈ l, P p.1 ∧ P p.2) → (∀ p ∈ O, P p.1 ∧ P p.2) → ∀ p ∈ l.foldl (putR lt) O, P p.1 ∧ P p.2
 | [], _, _, hO => hO
 | p :: l, O, hl, hO => by
  refine mergeR_all l _ (fun q hq => hl q (List.mem_cons_of_mem _ hq)) fun q hq => ?_
  have hp := hl p (List.mem_cons_self ..)
  unfold putR at hq
  cases e : O.getLast? with
  | none =>
   rw [e] at hq
   cases List.mem_singleton.1 hq; exact hp
  | some r =>
   rw [e] at hq
   have hr := hO r (List.mem_of_getLast? e)
   dsimp only at hq
   split at hq
   ·rcases List.mem_append.1 hq with h | h
    ·exact hO q h
    ·cases List.mem_singleton.1 h; exact hp
   ·split at hq
    ·rcases List.mem_append.1 hq with h | h
     ·exact hO q (List.dropLast_subset _ h)
     ·cases List.mem_singleton.1 h; exact ⟨hr.1, hp.2⟩
    ·exact hO q hq
theorem mem_filter {α : Type} {lt : α → α → Prop} [DecidableRel lt] (H : SWk lt) {X : List (α × α)} {c : α} : Mem lt (X.filter fun p => decide (lt p.1 p.2)) c ↔ Mem lt X c := by
 constructor
 ·rintro ⟨p, hp, k⟩
  exact ⟨p, (List.mem_filter.1 hp).1, k⟩
 ·rintro ⟨p, hp, k1, k2⟩
  exact ⟨p, List.mem_filter.2 ⟨hp, by simpa using H.lt_of_le k1 k2⟩, k1, k2⟩
end Go.Proofs.YtacihodamichhaaGreatDoor
