/-
  Parts of the proof.
-/
import Derived.Test.YtacihodamichhaaGreatDoorT43
import Derived.Test.YtacihodamichhaaGreatDoorT46
namespace Go.Proofs.YtacihodamichhaaGreatDoor
def shapeErr : List Iv → Int
 | [] => 0
 | x :: r => if ivErr x ≠ 0 then ivErr x else shapeErr r
def normErr (xs : List Iv) : Int := if 256 < xs.length then 6 else shapeErr xs
theorem shapeErr_ok : ∀ {xs : List Iv}, shapeErr xs = 0 → ∀ x ∈ xs, ivErr x = 0
 | [], _, x, h => by cases h
 | y :: r, he, x, h => by
  unfold shapeErr at he
  split at he
  ·rename_i h1; exact absurd he h1
  ·rename_i h1
   rcases List.mem_cons.1 h with rfl | h
   ·simpa using h1
   ·exact shapeErr_ok he x h
end Go.Proofs.YtacihodamichhaaGreatDoor
namespace Go.Proofs.YtacihodamichhaaGreatDoor
open Go.RowKit
theorem putR_len {α : Type} {lt : α → α → Prop} [DecidableRel lt] (O : List (α × α)) (p : α × α) : (putR lt O p).length ≤ O.length + 1 := by
 unfold putR
 cases e : O.getLast? with
 | none => simp
 | some q =>
  have hO := getLast_snoc e
  dsimp only
  split
  ·simp
  ·split
   ·rw [List.length_append, List.length_dropLast]
    have : 0 < O.length := by rw [hO]; simp
    simp <;> omega
   ·omega
theorem mergeR_len {α : Type} {lt : α → α → Prop} [DecidableRel lt] : ∀ (l O : List (α × α)), (l.foldl (putR lt) O).length ≤ O.length + l.length
 | [], O => Nat.le_refl _
 | p :: l, O => by
  have h1 := mergeR_len (lt := lt) l (putR lt O p)
  have h2 := putR_len (lt := lt) O p
  rw [List.foldl_cons, List.length_cons]
  omega
theorem joinR_len (rs : List RP) : (joinR rs).length ≤ rs.length := by
 have h1 := mergeR_len (lt := ltR) (sortR rs) []
 have h2 := (sortR_ok rs).2.length_eq
 have h3 := List.length_filter_le (fun r : RP => decide (ltR r.1 r.2)) rs
 unfold joinR mergeR
 simp only [List.length_nil, Nat.zero_add] at h1
 omega
def normL (xs : List Iv) : List Iv := if normErr xs = 0 then (joinR (xs.map rgOf)).map ivR else []
def setL (xs : List Iv) : List Iv := normL (xs.take 8)
theorem rgOf_ok {x : Iv} (hs : x.short) (h : ivErr x = 0) : OkR (rgOf x) := ⟨(iv_rok hs h).1, (iv_rok hs h).2.1⟩
def NormP (xs : List Iv) (v : Value) (w' : World) : Prop := ∃ a c, v = .tuple #[.slice a (normL xs).length c, .int .i64 (normErr xs)] ∧ Ivs w' (.slice a (normL xs).length c) (normL xs)
set_option maxHeartbeats 4000000 in
theorem normal_short (v : Value) (xs : List Iv) (w : World) (h : Ivs w v xs) (hs : ∀ x ∈ xs, x.short) (hn : xs.length ≤ 256) : Calls Tryz.prog 24 #[v] w (RetP (NormP xs) w) := by
 obtain ⟨a, c, rfl, hc1, hc2⟩ := h.open
 unfold maxLen at hc2
 have HX := hI h
 have Hsh := hI hs
 have HE := hI (show normErr xs = shapeErr xs by unfold normErr; rw [if_neg (by omega)])
 have HR := hI (fun w' (hb : Below w.heap.size w w') => ranges_any _ xs w' (h.mono hb) (by omega))
 clear h hs
 generalize hln : xs.length = n at *
 have Hln := hI hln
 clear hln
 have hn2 : ¬ (256 : Int) < (n : Int) := by omega
 go_enter Tryz.func24, Tryz.ntmps24
 go_wp2_with fail
 go_loopw [4] (fun i wr => ∃ k : Nat, k ≤ n ∧ i = .int .i64 (k : Int) ∧ Below w.heap.size w wr ∧ Hid (shapeErr xs = shapeErr (xs.drop k))) (fun i _ => n - (intOf i).toNat)
 case atStart => exact ⟨0, by omega, rfl, Below.refl _ _, by unfold Hid; rw [List.drop_zero]⟩
 case round =>
  obtain ⟨k, hk, rfl, hbw, hpre⟩ := hrel
  have Hbw := hI hbw
  have Hpre := hI hpre.out
  rcases Nat.lt_or_ge k n with hlt | hge
  ·obtain ⟨b, off, x, rfl, hx, c0, c1, c2, c3⟩ := HX.out.at hbw hlt
   have hkn : (k : Int) < (n : Int) := by omega
   have hk0 : (0 : Int) ≤ (k : Int) := Int.natCast_nonneg _
   have hkw : IntKind.i64.wrap ((k : Int) + 1) = (k : Int) + 1 := IntWalk.i64_in _ (by omega)
   have H1 := hI (fun w' => qshape_any x w' (Hsh.out x (List.mem_of_getElem? hx)))
   unfold Iv.agg at H1
   have hse := Hpre.out
   rw [drop_nexti hx] at hse
   have Hse := hI hse
   clear hx hbw hpre hse
   by_cases hiv : ivErr x = 0
   ·rw [hiv] at H1
    have Hnx := hI (show shapeErr xs = shapeErr (xs.drop (k + 1)) by rw [Hse.out, shapeErr, if_neg (by simpa using hiv)])
    clear hiv
    go_wp2_with (go_at_call 77; refine (H1.out _).mono ?_; rintro e w1 ⟨rfl, hb1⟩; have Hb1 := hI (Hbw.out.via hb1 Hbw.out.size); clear hb1)
    go_roundw
    case rel => exact ⟨k + 1, by omega, by go_num, Hb1.out, Hnx.out⟩
    case measure => simp [intOf] <;> omega
   ·have hcode : (ivErr x != 0) = true := by rw [bne_iff_ne]; exact hiv
    have Hres := hI (show normErr xs = ivErr x ∧ normL xs = [] by
     have h1 : normErr xs = ivErr x := by rw [HE.out, Hse.out, shapeErr, if_pos hiv]
     exact ⟨h1, by unfold normL; rw [if_neg (by rw [h1]; exact hiv)]⟩)
    generalize ivErr x = code at *
    clear hiv
    go_wp2_with (go_at_call 77; refine (H1.out _).mono ?_; rintro e w1 ⟨rfl, hb1⟩; have Hb1 := hI (Hbw.out.via hb1 Hbw.out.size); clear hb1)
    go_ret2
    exact ⟨_, rfl, ⟨none, 0, by rw [Hres.out.1, Hres.out.2]; rfl, by rw [Hres.out.2]; exact Sl.nil _ 4⟩, Hb1.out⟩
  ·obtain rfl : k = n := by omega
   have hkn : ¬ (k : Int) < (k : Int) := by omega
   have herr : shapeErr xs = 0 := by rw [Hpre.out, List.drop_of_length_le (by rw [Hln.out]; exact Nat.le_refl _)]; rfl
   have Hok := hI (show ∀ r ∈ xs.map rgOf, OkR r from fun r hr => by
    obtain ⟨x, hx, rfl⟩ := List.mem_map.1 hr
    exact rgOf_ok (Hsh.out x hx) (shapeErr_ok herr x hx))
   have Hres := hI (show normErr xs = 0 ∧ normL xs = (joinR (xs.map rgOf)).map ivR by
    have h1 : normErr xs = 0 := by rw [HE.out, herr]
    exact ⟨h1, by unfold normL; rw [if_pos h1]⟩)
   have HRr := hI (HR.out wr hbw)
   have Hlen := hI (show (xs.map rgOf).length ≤ 1000 by rw [List.length_map, Hln.out]; omega)
   have HJ := hI (fun v' w' (h : Rgs w' v' (xs.map rgOf)) => joined_any v' (xs.map rgOf) w' h Hok.out Hlen.out)
   have Hjl := hI (joinR_len (xs.map rgOf))
   have HI := hI (fun v' w' (h : Rgs w' v' (joinR (xs.map rgOf))) => rintervals_any v' (joinR (xs.map rgOf)) w' h (by have := Hjl.out; have := Hlen.out; omega))
   have Hfin := hI (show ((joinR (xs.map rgOf)).map ivR).length = (joinR (xs.map rgOf)).length from List.length_map ..)
   generalize joinR (xs.map rgOf) = J at *
   generalize hjn : J.length = jn at *
   clear hbw hpre herr HX HR
   go_wp2_with (first
    | (go_at_call 80; refine (HRr.out).mono ?_; rintro e w1 ⟨v1, rfl, hown, hb1⟩; have Hb1 := hI (Hbw.out.via hb1 Hbw.out.size); have Hr1 := hI (own_rgs hown); clear hown hb1)
    | (go_at_call 79; refine (HJ.out _ _ Hr1.out).mono ?_; rintro e w2 ⟨v2, rfl, hown2, hb2⟩; have Hb2 := hI (Hb1.out.via hb2 Hb1.out.size); have Hr2 := hI (own_rgs hown2); clear hown2 hb2)
    | (go_at_call 78; refine (HI.out _ _ Hr2.out).mono ?_; rintro e w3 ⟨v3, rfl, ⟨a3, c3, rfl, hiv⟩, hb3⟩; have Hb3 := hI (Hb2.out.via hb3 Hb2.out.size); have Hiv := hI hiv; clear hiv hb3))
   go_ret2
   exact ⟨_, rfl, ⟨a3, c3, by rw [Hres.out.1, Hres.out.2, Hfin.out]; rfl, by rw [Hres.out.2, Hfin.out]; exact Hiv.out⟩, Hb3.out⟩
end Go.Proofs.YtacihodamichhaaGreatDoor
namespace Go.Proofs.YtacihodamichhaaGreatDoor
open Go.RowKit
theorem lo_ok {c : Cut} (h : RokC c) (hb : c.b ≠ 1) : (endErr (if c.b = 0 then c.s else ⟨#[]⟩) (if c.b = 0 then (if c.d = 1 then 0 else 1) else 2) = 0 ∧ (if c.b = 0 then c.s else (⟨#[]⟩ : ByteArray)).size ≤ 60 ∧ cutOf (if c.b = 0 then c.s else ⟨#[]⟩) (if c.b = 0 then (if c.d = 1 then 0 else 1) else 2) 1 = toP c) ∧ (0 : Int) ≤ (if c.b = 0 then (if c.d = 1 then 0 else 1) else 2) ∧ (if c.b = 0 then (if c.d = 1 then 0 else 1) else 2 : Int) ≤ 2 := by
 obtain ⟨b, s, d⟩ := c
 rcases h with ⟨h1, h2, h3, h4, h5⟩ | ⟨h1, h2, h3⟩
 ·dsimp only at h1 h2 h3 h4 h5 ⊢
  subst h1
  rw [if_pos rfl, if_pos rfl]
  rcases (show d = 0 ∨ d = 1 by omega) with rfl | rfl
  ·exact ⟨⟨h3, h2, rfl⟩, (by split <;> decide), (by split <;> decide)⟩
  ·exact ⟨⟨h3, h2, rfl⟩, (by split <;> decide), (by split <;> decide)⟩
 ·dsimp only at h1 h2 h3 hb ⊢
  obtain rfl : b = -1 := h1.resolve_left hb
  subst h2 h3
  exact ⟨⟨rfl, by decide, rfl⟩, by decide, by decide⟩
theorem hi_ok {c : Cut} (h : RokC c) (hb : c.b ≠ -1) : (endErr (if c.b = 0 then c.s else ⟨#[]⟩) (if c.b = 0 then (if c.d = 1 then 1 else 0) else 2) = 0 ∧ (if c.b = 0 then c.s else (⟨#[]⟩ : ByteArray)).size ≤ 60 ∧ cutOf (if c.b = 0 then c.s else ⟨#[]⟩) (if c.b = 0 then (if c.d = 1 then 1 else 0) else 2) (-1) = toP c) ∧ (0 : Int) ≤ (if c.b = 0 then (if c.d = 1 then 1 else 0) else 2) ∧ (if c.b = 0 then (if c.d = 1 then 1 else 0) else 2 : Int) ≤ 2 := by
 obtain ⟨b, s, d⟩ := c
 rcases h with ⟨h1, h2, h3, h4, h5⟩ | ⟨h1, h2, h3⟩
 ·dsimp only at h1 h2 h3 h4 h5 ⊢
  subst h1
  rw [if_pos rfl, if_pos rfl]
  rcases (show d = 0 ∨ d = 1 by omega) with rfl | rfl
  ·exact ⟨⟨h3, h2, rfl⟩, (by split <;> decide), (by split <;> decide)⟩
  ·exact ⟨⟨h3, h2, rfl⟩, (by split <;> decide), (by split <;> decide)⟩
 ·dsimp only at h1 h2 h3 hb ⊢
  obtain rfl : b = 1 := h1.resolve_right hb
  subst h2 h3
  exact ⟨⟨rfl, by decide, rfl⟩, by decide, by decide⟩
theorem rok_b {c : Cut} (h : RokC c) : -1 ≤ c.b ∧ c.b ≤ 1 := by rcases h with ⟨h, _⟩ | ⟨h | h, _⟩ <;> omega
theorem rok_far {c : Cut} (h : RokC c) (hb : c.b ≠ 0) : toP c = ⟨c.b, ⟨#[]⟩, 0⟩ := by
 rcases h with ⟨h, _⟩ | ⟨_, h2, _⟩
 ·exact absurd h hb
 ·unfold toP
  rw [if_neg hb, h2]
theorem low_b {x y : Cut} (hx : RokC x) (hy : RokC y) (h : ltR x y) : x.b ≠ 1 ∧ y.b ≠ -1 := by
 have h' : CG (toP x) (toP y) := h
 have a := rok_b hx; have b := rok_b hy
 rw [cg_iff] at h'
 constructor
 ·intro e
  have hyb : y.b = 1 := by
   rcases h' with h1 | ⟨h1, _⟩
   ·have h1 : x.b < y.b := h1
    omega
   ·have h1 : x.b = y.b := h1
    omega
  have e1 := rok_far hx (by omega); have e2 := rok_far hy (by omega)
  refine ltR_swk.irr x ?_
  unfold ltR at h ⊢
  rw [e2, hyb] at h
  rw [e1, e] at h ⊢
  exact h
 ·intro e
  have hxb : x.b = -1 := by
   rcases h' with h1 | ⟨h1, _⟩
   ·have h1 : x.b < y.b := h1
    omega
   ·have h1 : x.b = y.b := h1
    omega
  have e1 := rok_far hx (by omega); have e2 := rok_far hy (by omega)
  refine ltR_swk.irr x ?_
  unfold ltR at h ⊢
  rw [e2, e] at h
  rw [e1, hxb] at h ⊢
  exact h
theorem ivR_ok {r : RP} (h : OkR r) (hl : ltR r.1 r.2) : ivErr (ivR r) = 0 ∧ (ivR r).short ∧ (ivR r).low = toP r.1 ∧ (ivR r).high = toP r.2 := by
 obtain ⟨hb1, hb2⟩ := low_b h.1 h.2 hl
 obtain ⟨⟨a1, a2, a3⟩, a4, a5⟩ := lo_ok h.1 hb1
 obtain ⟨⟨b1, b2, b3⟩, b4, b5⟩ := hi_ok h.2 hb2
 refine ⟨?_, ⟨a2, b2⟩, a3, b3⟩
 unfold ivErr ivR
 dsimp only
 rw [if_neg (by omega), a1, if_neg (fun h => h rfl)]
 exact b1
theorem errFrom_set : ∀ (J : List RP) (c : Option Cut), (∀ r ∈ J, OkR r) → IsSet ltR J → (∀ d, c = some d → ∀ r ∈ J, CG d (toP r.1)) → errFrom c (J.map ivR) = 0
 | [], c, _, _, _ => by cases c <;> rfl
 | r :: J, c, hok, hset, hc => by
  have hne := hset.ne r (List.mem_cons_self ..)
  obtain ⟨e1, -, e3, e4⟩ := ivR_ok (hok r (List.mem_cons_self ..)) hne
  have hlt : ¬ 0 ≤ cmpG (ivR r).low (ivR r).high := by
   rw [e3, e4]
   have : CG (toP r.1) (toP r.2) := hne
   unfold CG at this
   omega
  have ih := errFrom_set J (some (toP r.2)) (fun s hs => hok s (List.mem_cons_of_mem _ hs)) hset.tail (fun d hd s hs => by
   cases hd
   exact (List.pairwise_cons.1 hset.gap).1 s hs)
  rw [List.map_cons]
  cases c with
  | none => rw [errFrom_first e1 hlt, e4]; exact ih
  | some d =>
   have hd : CG d (toP r.1) := hc d rfl r (List.mem_cons_self ..)
   rw [errFrom_next e1 hlt (by rw [e3]; unfold CG at hd; omega), e4]
   exact ih
structure SetI (xs : List Iv) (J : List RP) : Prop where
 eq : xs = J.map ivR
 ok : ∀ r ∈ J, OkR r
 set : IsSet ltR J
 len : J.length ≤ 256
theorem SetI.err {xs : List Iv} {J : List RP} (h : SetI xs J) : setErr xs = 0 := by
 have hl : ¬ 256 < xs.length := by rw [h.eq, List.length_map]; have := h.len; omega
 unfold setErr
 rw [if_neg hl, h.eq]
 exact errFrom_set J none h.ok h.set (fun d hd => by cases hd)
theorem SetI.short {xs : List Iv} {J : List RP} (h : SetI xs J) : ∀ x ∈ xs, x.short := fun x hx => by
 rw [h.eq] at hx
 obtain ⟨r, hr, rfl⟩ := List.mem_map.1 hx
 exact (ivR_ok (h.ok r hr) (h.set.ne r hr)).2.1
theorem SetI.iv {xs : List Iv} {J : List RP} (h : SetI xs J) : ∀ x ∈ xs, ivErr x = 0 := fun x hx => by
 rw [h.eq] at hx
 obtain ⟨r, hr, rfl⟩ := List.mem_map.1 hx
 exact (ivR_ok (h.ok r hr) (h.set.ne r hr)).1
theorem SetI.length {xs : List Iv} {J : List RP} (h : SetI xs J) : xs.length = J.length := by rw [h.eq, List.length_map]
theorem SetI.nil : SetI [] [] := ⟨rfl, fun r hr => (by cases hr), IsSet.nil, by decide⟩
theorem norm_set {xs : List Iv} (hs : ∀ x ∈ xs, x.short) (hn : xs.length ≤ 256) : ∃ J, SetI (normL xs) J ∧ J.length ≤ xs.length := by
 unfold normL
 by_cases he : normErr xs = 0
 ·rw [if_pos he]
  have he' : shapeErr xs = 0 := by unfold normErr at he; rwa [if_neg (by omega)] at he
  have hok : ∀ r ∈ xs.map rgOf, OkR r := fun r hr => by
   obtain ⟨x, hx, rfl⟩ := List.mem_map.1 hr
   exact rgOf_ok (hs x hx) (shapeErr_ok he' x hx)
  have hl := joinR_len (xs.map rgOf)
  rw [List.length_map] at hl
  exact ⟨joinR (xs.map rgOf), ⟨rfl, joinR_all (P := RokC) hok, (joinR_ok _).1, by omega⟩, hl⟩
 ·rw [if_neg he]
  exact ⟨[], SetI.nil, Nat.zero_le _⟩
theorem set_set {xs : List Iv} (hs : ∀ x ∈ xs, x.short) : ∃ J, SetI (setL xs) J ∧ J.length ≤ 8 := by
 obtain ⟨J, h1, h2⟩ := norm_set (xs := xs.take 8) (fun x hx => hs x (List.mem_of_mem_take hx)) (by rw [List.length_take]; omega)
 exact ⟨J, h1, by rw [List.length_take] at h2; omega⟩
end Go.Proofs.YtacihodamichhaaGreatDoor
namespace Go.Proofs.YtacihodamichhaaGreatDoor
open Go.RowKit
theorem Sl.takeC {w : World} {sz n cap k : Nat} {a : Option Addr} {rows : List (List Value)} (h : Sl w sz (.slice a n cap) rows) (hk : k ≤ n) : Sl w sz (.slice a k cap) (rows.take k) := by
 obtain ⟨a', cap', hv, hc, hm, h⟩ := h
 simp only [Value.slice.injEq] at hv
 obtain ⟨rfl, rfl, rfl⟩ := hv
 refine ⟨a, cap, by rw [List.length_take, Nat.min_eq_left hk], by rw [List.length_take]; omega, hm, ?_⟩
 rcases h with h | ⟨b, off, rfl, hb, h⟩
 ·exact .inl h
 ·refine .inr ⟨b, off, rfl, hb, fun i j hi hj => ?_⟩
  rw [List.length_take] at hi
  rw [h i j (by omega) hj]
  simp only [List.getD_eq_getElem?_getD]
  rw [List.getElem?_take_of_lt (by omega)]
set_option maxHeartbeats 4000000 in
theorem set_any (v : Value) (xs : List Iv) (w : World) (h : Ivs w v xs) (hs : ∀ x ∈ xs, x.short) : Calls Tryz.prog 15 #[v] w (RetP (fun r w' => ∃ a c, r = .slice a (setL xs).length c ∧ Ivs w' (.slice a (setL xs).length c) (setL xs)) w) := by
 obtain ⟨a, c, rfl, hc1, hc2⟩ := h.open
 unfold maxLen at hc2
 obtain ⟨m, hm⟩ : ∃ m, min xs.length 8 = m := ⟨_, rfl⟩
 have hmin : min ((xs.length : Nat) : Int) 8 = (m : Int) := by omega
 have hm8 : m ≤ 8 := by omega
 have hml : m ≤ xs.length := by omega
 have htk : xs.take 8 = xs.take m := by
  rcases Nat.lt_or_ge xs.length 8 with h8 | h8
  ·rw [List.take_of_length_le (by omega), List.take_of_length_le (by omega)]
  ·rw [show m = 8 by omega]
 have hIv : Ivs w (.slice a m c) (xs.take m) := by
  have := Sl.takeC h hml
  rw [← List.map_take] at this
  exact this
 have hlen : (xs.take m).length = m := by rw [List.length_take]; omega
 have HN := hI (normal_short (.slice a m c) (xs.take m) w hIv (fun x hx => hs x (List.mem_of_mem_take hx)) (by omega))
 have Hse := hI (show setL xs = normL (xs.take m) by unfold setL; rw [htk])
 have hmc : (m : Int) ≤ (c : Int) := by omega
 have hm0 : (0 : Int) ≤ (m : Int) := Int.natCast_nonneg _
 have hmt : ((m : Int)).toNat = m := by omega
 clear h hs hm hIv hlen htk hm8
 generalize xs.length = n at *
 unfold NormP at HN
 go_enter Tryz.func15, Tryz.ntmps15
 go_wp2_with (go_at_call 24; refine (HN.out).mono ?_; rintro e w1 ⟨v1, rfl, ⟨a1, c1, rfl, hiv⟩, hb1⟩; have Hiv := hI hiv; have Hb1 := hI hb1; clear hiv hb1)
 go_ret
 exact ⟨_, rfl, ⟨a1, c1, by rw [Hse.out]; rfl, by rw [Hse.out]; exact Hiv.out⟩, Hb1.out⟩
end Go.Proofs.YtacihodamichhaaGreatDoor
namespace Go.Proofs.YtacihodamichhaaGreatDoor
open Go.RowKit
def shB (x : Iv) : Bool := decide (x.lo.size ≤ 60) && decide (x.hi.size ≤ 60)
def fewB (xs : List Iv) : Bool := !(decide (260 < xs.length) || (decide (8 < xs.length) && decide (xs.length < 257))) && xs.all shB
theorem few_short {xs : List Iv} (h : fewB xs = true) : ∀ x ∈ xs, x.short := by
 unfold fewB at h
 rw [Bool.and_eq_true] at h
 intro x hx
 have := List.all_eq_true.1 h.2 x hx
 unfold shB at this
 simp at this
 exact this
set_option maxHeartbeats 8000000 in
theorem few_any (v : Value) (xs : List Iv) (w : World) (h : Ivs w v xs) (hln : xs.length < 1000000) : Calls Tryz.prog 14 #[v] w (Ret (.bool (fewB xs)) w) := by
 obtain ⟨a, c, rfl, hc1, hc2⟩ := h.open
 have HX := hI h
 obtain ⟨T, hT⟩ : ∃ T, fewB xs = T := ⟨_, rfl⟩
 rw [hT]
 have HT0 := hI (show T = (!(decide (260 < xs.length) || (decide (8 < xs.length) && decide (xs.length < 257))) && xs.all shB) from hT.symm)
 generalize hn : xs.length = n at *
 have Hn := hI hn
 clear h hn hT
 by_cases h1 : 260 < n
 ·have Hfin := hI (show T = false by rw [HT0.out, decide_eq_true h1]; rfl)
  have g1 : (260 : Int) < (n : Int) := by omega
  go_enter Tryz.func14, Tryz.ntmps14
  go_wp2_with fail
  go_ret
  exact ⟨by rw [Hfin.out]; rfl, Below.refl _ _⟩
 ·have g1 : ¬ (260 : Int) < (n : Int) := by omega
  by_cases h2 : 8 < n
  ·have g2 : (8 : Int) < (n : Int) := by omega
   by_cases h3 : n < 257
   ·have Hfin := hI (show T = false by rw [HT0.out, decide_eq_true h2, decide_eq_true h3, Bool.true_and, Bool.or_true]; rfl)
    have g3 : (n : Int) < 257 := by omega
    go_enter Tryz.func14, Tryz.ntmps14
    go_wp2_with fail
    go_ret
    exact ⟨by rw [Hfin.out]; rfl, Below.refl _ _⟩
   ·have HT := hI (show T = (true && xs.all shB) by rw [HT0.out, decide_eq_false h1, decide_eq_false h3, Bool.and_false, Bool.or_false]; rfl)
    have g3 : ¬ (n : Int) < 257 := by omega
    clear h1 h2 h3 HT0
    go_enter Tryz.func14, Tryz.ntmps14
    go_wp2_with fail
    go_loopw [3] (fun i wr => wr = w ∧ ∃ k : Nat, k ≤ n ∧ i = .int .i64 (k : Int) ∧ Hid (xs.all shB = (xs.drop k).all shB)) (fun i _ => n - (intOf i).toNat)
    case atStart => exact ⟨rfl, 0, Nat.zero_le _, rfl, by unfold Hid; rw [List.drop_zero]⟩
    case round =>
     obtain ⟨rfl, k, hk, rfl, hpre⟩ := hrel
     rcases Nat.lt_or_ge k n with hlt | hge
     ·obtain ⟨b, off, x, rfl, hx, c0, c1, c2, c3⟩ := HX.out.at (Below.refl _ _) hlt
      have hkn : (k : Int) < (n : Int) := by omega
      have hk0 : (0 : Int) ≤ (k : Int) := Int.natCast_nonneg _
      have hkw : IntKind.i64.wrap ((k : Int) + 1) = (k : Int) + 1 := IntWalk.i64_in _ (by omega)
      have hpr := hpre.out
      rw [drop_nexti hx, List.all_cons] at hpr
      by_cases h1 : 60 < x.lo.size
      ·have hf : xs.all shB = false := by rw [hpr]; simp [shB]; omega
       have Hfin := hI (show T = false by rw [HT.out, hf, Bool.and_false])
       have g1 : (60 : Int) < (x.lo.size : Int) := by omega
       clear hpr hx hf
       go_wp2_with fail
       go_ret
       exact ⟨by rw [Hfin.out]; rfl, Below.refl _ _⟩
      ·have g1 : ¬ (60 : Int) < (x.lo.size : Int) := by omega
       by_cases h2 : 60 < x.hi.size
       ·have hf : xs.all shB = false := by rw [hpr]; simp [shB]; omega
        have Hfin := hI (show T = false by rw [HT.out, hf, Bool.and_false])
        have g2 : (60 : Int) < (x.hi.size : Int) := by omega
        clear hpr hx hf
        go_wp2_with fail
        go_ret
        exact ⟨by rw [Hfin.out]; rfl, Below.refl _ _⟩
       ·have g2 : ¬ (60 : Int) < (x.hi.size : Int) := by omega
        have Hnx := hI (show xs.all shB = (xs.drop (k + 1)).all shB by
         rw [hpr, show shB x = true by unfold shB; rw [decide_eq_true (by omega), decide_eq_true (by omega)]; rfl, Bool.true_and])
        clear hpr hx h1 h2
        go_wp2_with fail
        go_roundw
        case rel => exact ⟨trivial, k + 1, by omega, by go_num, Hnx.out⟩
        case measure => simp [intOf] <;> omega
     ·obtain rfl : k = n := by omega
      have hkn : ¬ (k : Int) < (k : Int) := by omega
      have Hfin := hI (show T = true by rw [HT.out, hpre.out, List.drop_of_length_le (by rw [Hn.out]; exact Nat.le_refl _)]; rfl)
      go_wp2_with fail
      go_ret
      exact ⟨by rw [Hfin.out]; rfl, Below.refl _ _⟩
  ·have g2 : ¬ (8 : Int) < (n : Int) := by omega
   have HT := hI (show T = (true && xs.all shB) by rw [HT0.out, decide_eq_false h1, decide_eq_false h2, Bool.false_and, Bool.or_false]; rfl)
   clear h1 h2 HT0
   go_enter Tryz.func14, Tryz.ntmps14
   go_wp2_with fail
   go_loopw [3] (fun i wr => wr = w ∧ ∃ k : Nat, k ≤ n ∧ i = .int .i64 (k : Int) ∧ Hid (xs.all shB = (xs.drop k).all shB)) (fun i _ => n - (intOf i).toNat)
   case atStart => exact ⟨rfl, 0, Nat.zero_le _, rfl, by unfold Hid; rw [List.drop_zero]⟩
   case round =>
    obtain ⟨rfl, k, hk, rfl, hpre⟩ := hrel
    rcases Nat.lt_or_ge k n with hlt | hge
    ·obtain ⟨b, off, x, rfl, hx, c0, c1, c2, c3⟩ := HX.out.at (Below.refl _ _) hlt
     have hkn : (k : Int) < (n : Int) := by omega
     have hk0 : (0 : Int) ≤ (k : Int) := Int.natCast_nonneg _
     have hkw : IntKind.i64.wrap ((k : Int) + 1) = (k : Int) + 1 := IntWalk.i64_in _ (by omega)
     have hpr := hpre.out
     rw [drop_nexti hx, List.all_cons] at hpr
     by_cases h1 : 60 < x.lo.size
     ·have hf : xs.all shB = false := by rw [hpr]; simp [shB]; omega
      have Hfin := hI (show T = false by rw [HT.out, hf, Bool.and_false])
      have g1 : (60 : Int) < (x.lo.size : Int) := by omega
      clear hpr hx hf
      go_wp2_with fail
      go_ret
      exact ⟨by rw [Hfin.out]; rfl, Below.refl _ _⟩
     ·have g1 : ¬ (60 : Int) < (x.lo.size : Int) := by omega
      by_cases h2 : 60 < x.hi.size
      ·have hf : xs.all shB = false := by rw [hpr]; simp [shB]; omega
       have Hfin := hI (show T = false by rw [HT.out, hf, Bool.and_false])
       have g2 : (60 : Int) < (x.hi.size : Int) := by omega
       clear hpr hx hf
       go_wp2_with fail
       go_ret
       exact ⟨by rw [Hfin.out]; rfl, Below.refl _ _⟩
      ·have g2 : ¬ (60 : Int) < (x.hi.size : Int) := by omega
       have Hnx := hI (show xs.all shB = (xs.drop (k + 1)).all shB by
        rw [hpr, show shB x = true by unfold shB; rw [decide_eq_true (by omega), decide_eq_true (by omega)]; rfl, Bool.true_and])
       clear hpr hx h1 h2
       go_wp2_with fail
       go_roundw
       case rel => exact ⟨trivial, k + 1, by omega, by go_num, Hnx.out⟩
       case measure => simp [intOf] <;> omega
    ·obtain rfl : k = n := by omega
     have hkn : ¬ (k : Int) < (k : Int) := by omega
     have Hfin := hI (show T = true by rw [HT.out, hpre.out, List.drop_of_length_le (by rw [Hn.out]; exact Nat.le_refl _)]; rfl)
     go_wp2_with fail
     go_ret
     exact ⟨by rw [Hfin.out]; rfl, Below.refl _ _⟩
end Go.Proofs.YtacihodamichhaaGreatDoor
namespace Go.Proofs.YtacihodamichhaaGreatDoor
open Go.RowKit
set_option maxHeartbeats 1000000 in
theorem few_long (v : Value) (xs : List Iv) (w : World) (h : Ivs w v xs) (hn : 260 < xs.length) : Calls Tryz.prog 14 #[v] w (Ret (.bool false) w) := by
 obtain ⟨a, c, rfl, hc1, hc2⟩ := h.open
 clear h
 generalize xs.length = n at *
 have g1 : (260 : Int) < (n : Int) := by omega
 go_enter Tryz.func14, Tryz.ntmps14
 go_wp2_with fail
 go_ret
 exact ⟨rfl, Below.refl _ _⟩
theorem few_all (v : Value) (xs : List Iv) (w : World) (h : Ivs w v xs) : Calls Tryz.prog 14 #[v] w (Ret (.bool (fewB xs)) w) := by
 rcases Nat.lt_or_ge 260 xs.length with hn | hn
 ·rw [show fewB xs = false by unfold fewB; rw [decide_eq_true hn]; rfl]
  exact few_long v xs w h hn
 ·exact few_any v xs w h (by omega)
end Go.Proofs.YtacihodamichhaaGreatDoor
namespace Go.Proofs.YtacihodamichhaaGreatDoor
open Go.RowKit
theorem check_n (n : ByteArray) (w : World) (hn : n.size ≤ 60) : Calls Tryz.prog 21 #[.string n, .int .i64 65536] w (Ret (.int .i64 (errL n.data.toList)) w) := by
 have H := qcheck_any n.data.toList w (by rw [← Lib.size_eq]; exact hn)
 rwa [← bytes_of (s := n) rfl] at H
set_option maxHeartbeats 4000000 in
theorem contains_any (v : Value) (xs : List Iv) (n : ByteArray) (w : World) (h : Ivs w v xs) : Calls Tryz.prog 7 #[v, .string n] w (Ret (.bool true) w) := by
 have HK := hI (fun w' => known_true w')
 have HF := hI (fun w' (hb : Below w.heap.size w w') => few_all v xs w' (h.mono hb))
 obtain ⟨a, c, rfl, hc1, hc2⟩ := h.open
 cases hf : fewB xs with
 | false =>
  rw [hf] at HF
  clear h hf
  generalize xs.length = m at *
  go_enter Tryz.func7, Tryz.ntmps7
  go_wp2_with (first
   | (go_at_call 14; refine (HF.out _ Hb1.out).mono ?_; rintro e w2 ⟨rfl, hb2⟩; have Hb2 := hI (bw_via Hb1.out hb2); clear hb2)
   | (go_at_call 13; have _t := Hb2; clear _t; refine (HK.out _).mono ?_; rintro e w3 ⟨rfl, hb3⟩; have Hb3 := hI (bw_via Hb2.out hb3); clear hb3)
   | (go_at_call 13; refine (HK.out _).mono ?_; rintro e w1 ⟨rfl, hb1⟩; have Hb1 := hI hb1; clear hb1))
  go_ret
  exact ⟨rfl, Hb3.out⟩
 | true =>
  have hs := few_short hf
  rw [hf] at HF
  rcases Nat.lt_or_ge 60 n.size with hn | hn
  ·have hn2 : (60 : Int) < (n.size : Int) := by omega
   clear h hf hs hn
   generalize xs.length = m at *
   go_enter Tryz.func7, Tryz.ntmps7
   go_wp2_with (first
    | (go_at_call 14; refine (HF.out _ Hb1.out).mono ?_; rintro e w2 ⟨rfl, hb2⟩; have Hb2 := hI (bw_via Hb1.out hb2); clear hb2)
    | (go_at_call 13; have _t := Hb2; clear _t; refine (HK.out _).mono ?_; rintro e w3 ⟨rfl, hb3⟩; have Hb3 := hI (bw_via Hb2.out hb3); clear hb3)
    | (go_at_call 13; refine (HK.out _).mono ?_; rintro e w1 ⟨rfl, hb1⟩; have Hb1 := hI hb1; clear hb1))
   go_ret
   exact ⟨rfl, Hb3.out⟩
  ·have hn2 : ¬ (60 : Int) < (n.size : Int) := by omega
   have HS := hI (fun w' (hb : Below w.heap.size w w') => set_any _ xs w' (h.mono hb) hs)
   have HCk := hI (fun w' => check_n n w' hn)
   obtain ⟨J, hJ, hJ8⟩ := set_set hs
   have hlen : (setL xs).length < 100000 := by rw [hJ.length]; omega
   by_cases hr : errL n.data.toList = 0
   ·have HC := hI (fun v' w' (h' : Ivs w' v' (setL xs)) => icontains_ok v' (setL xs) n w' h' hJ.short hJ.err hlen hn hr)
    have HH := hI (fun v' w' (h' : Ivs w' v' (setL xs)) => rhas_any v' (setL xs) n w' h' hJ.short hJ.iv hlen hn hr)
    rw [hr] at HCk
    clear h hs hf hJ hJ8 hlen hn hr
    generalize xs.length = m at *
    generalize setL xs = S at *
    generalize hasB S n = B at *
    have hB : (B == B) = true := by simp
    go_enter Tryz.func7, Tryz.ntmps7
    go_wp2_with (first
     | (go_at_call 13; refine (HK.out _).mono ?_; rintro e w1 ⟨rfl, hb1⟩; have Hb1 := hI hb1; clear hb1)
     | (go_at_call 14; refine (HF.out _ Hb1.out).mono ?_; rintro e w2 ⟨rfl, hb2⟩; have Hb2 := hI (bw_via Hb1.out hb2); clear hb2)
     | (go_at_call 15; refine (HS.out _ Hb2.out).mono ?_; rintro e w3 ⟨v3, rfl, ⟨a3, c3, rfl, hiv⟩, hb3⟩; have Hb3 := hI (bw_via Hb2.out hb3); have Hiv := hI hiv; clear hiv hb3)
     | (go_at_call 40; refine (HC.out _ _ Hiv.out).mono ?_; rintro e w4 ⟨rfl, hb4⟩; have Hb4 := hI (bw_via Hb3.out hb4); have Hiv4 := hI (Hiv.out.mono hb4); clear hb4)
     | (go_at_call 21; refine (HCk.out _).mono ?_; rintro e w5 ⟨rfl, hb5⟩; have Hb5 := hI (bw_via Hb4.out hb5); have Hiv5 := hI (Hiv4.out.mono hb5); clear hb5)
     | (go_at_call 41; refine (HH.out _ _ Hiv5.out).mono ?_; rintro e w6 ⟨rfl, hb6⟩; have Hb6 := hI (bw_via Hb5.out hb6); clear hb6))
    go_ret
    exact ⟨rfl, Hb6.out⟩
   ·have HC := hI (fun v' w' (h' : Ivs w' v' (setL xs)) => icontains_num v' (setL xs) n w' h' hJ.short hJ.err hn hr)
    have hc0 : (errL n.data.toList != 0) = true := by rw [bne_iff_ne]; exact hr
    have hcc : (errL n.data.toList == errL n.data.toList) = true := by simp
    generalize errL n.data.toList = code at *
    clear h hs hf hJ hJ8 hlen hn hr
    generalize xs.length = m at *
    generalize setL xs = S at *
    go_enter Tryz.func7, Tryz.ntmps7
    go_wp2_with (first
     | (go_at_call 13; refine (HK.out _).mono ?_; rintro e w1 ⟨rfl, hb1⟩; have Hb1 := hI hb1; clear hb1)
     | (go_at_call 14; refine (HF.out _ Hb1.out).mono ?_; rintro e w2 ⟨rfl, hb2⟩; have Hb2 := hI (bw_via Hb1.out hb2); clear hb2)
     | (go_at_call 15; refine (HS.out _ Hb2.out).mono ?_; rintro e w3 ⟨v3, rfl, ⟨a3, c3, rfl, hiv⟩, hb3⟩; have Hb3 := hI (bw_via Hb2.out hb3); have Hiv := hI hiv; clear hiv hb3)
     | (go_at_call 40; refine (HC.out _ _ Hiv.out).mono ?_; rintro e w4 ⟨rfl, hb4⟩; have Hb4 := hI (bw_via Hb3.out hb4); clear hb4)
     | (go_at_call 21; refine (HCk.out _).mono ?_; rintro e w5 ⟨rfl, hb5⟩; have Hb5 := hI (bw_via Hb4.out hb5); clear hb5))
    go_ret
    exact ⟨rfl, Hb5.out⟩
end Go.Proofs.YtacihodamichhaaGreatDoor
