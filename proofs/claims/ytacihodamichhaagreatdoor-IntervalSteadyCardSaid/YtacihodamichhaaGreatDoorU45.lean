/-
  Parts of the proof: Ne, Rw, Rnm, Rst, Rfew, Lfew.
-/
import Derived.ProofKit
import Derived.Lib.SmallJoins
import Derived.Deep.Slices
import Derived.Deep.Fields
import Derived.Deep.Matrix
import Derived.Deep.SlicePairs
import Derived.ChangeSame
import Derived.Test.YtacihodamichhaaGreatDoorU44
namespace Go.Proofs.YtacihodamichhaaGreatDoor
def shapeErr : List Iv → Int
 | [] => 0
 | x :: r => if ivErr x ≠ 0 then ivErr x else shapeErr r
def normErr (xs : List Iv) : Int := if 256 < xs.length then 6 else shapeErr xs
theorem shapeErr_ok : ∀ {xs : List Iv}, shapeErr xs = 0 → ∀ x ∈ xs, ivErr x = 0
 | [], _, x, h => by cases h
 | y :: r, he, x, h => by
  unfold shapeErr at he
  split at he
  ·rename_i h1; exact absurd he h1
  ·rename_i h1
   rcases List.mem_cons.1 h with rfl | h
   ·simpa using h1
   ·exact shapeErr_ok he x h
end Go.Proofs.YtacihodamichhaaGreatDoor
namespace Go.Proofs.YtacihodamichhaaGreatDoor
open Go.ChangeShapes Go.WideShapes Go.ChangeAt Go.RowKit
theorem try_laidOut : laidOutB Tryz.prog = true := by kernel_rfl
section
variable {H : Type} {enc : TypeId × Value → H} {P : Program}
theorem post_of_below {f : Func} {s : ChangeSpec} {apart fresh handsOn again : Bool} {W W' : World} {args : Array Value} {v : Value} {ds gs : List (DataW H)} {before pa pv : List MemPlace}
  (hW : DataW.Whole enc P f.params.toList s.vars apart W args.toList ds gs before)
  (hres : ∀ (b : Nat) (sp : Nat → Bool) (hd : Bool), DataW.TrodAll enc P W' b sp hd f.resultTypes.toList (v.resultList f.resultTypes.size) (s.fn H (ds ++ gs)).results [])
  (hargs : ∀ sp : Nat → Bool, (∀ p ∈ before, sp p.block = true) → DataW.TrodAll enc P W' 0 sp true f.params.toList args.toList (s.fn H (ds ++ gs)).args pa)
  (hvars : ∀ sp : Nat → Bool, (∀ p ∈ before, sp p.block = true) → DataW.TrodVars enc P W' sp s.vars (s.fn H (ds ++ gs)).vars pv)
  (hps : before = pa ++ pv) (hb : Below W.heap.size W W')
  (hok : ∀ (j : Nat) (t : TypeId) (r : Value), f.resultTypes[j]? = some t → (v.resultList f.resultTypes.size)[j]? = some r → Value.okWide P W' .any 0 t r) :
  s.post enc P f apart fresh handsOn again W args v W' := by
 have hlt : ∀ p ∈ before, p.block < W.heap.size := fun p hp => hW.lt p hp
 have hold : ∀ p ∈ before, (fun b => decide (b < W.heap.size)) p.block = true := fun p hp => by simpa using hlt p hp
 refine ⟨ds, gs, before, [], pa, pv, hW, hres _ _ _, hargs _ hold, hvars _ hold, World.keptBut_mono (fun p hp => ⟨hp, ?_⟩) (hb.frame (· ∈ before)), fun _ => ?_⟩
 ·rw [hps, List.mem_append] at hp
  exact Or.inr hp
 ·obtain ⟨_, _, _, _, _, hz, hn⟩ := hW
  refine ⟨hok, _, _, ([] ++ pa) ++ pv, ⟨[] ++ pa, pv, trodAll_append (hargs _ (fun _ _ => rfl)) (hres _ _ _), hvars _ (fun _ _ => rfl), rfl, ?_, ?_⟩, ?_⟩
  ·intro b off hp
   have hin : MemPlace.cell b off ∈ before := by rw [hps]; simpa using hp
   rw [hb.frozen (hlt _ hin)]
   exact hz b off hin
  ·intro ha
   have := hn ha
   rw [hps] at this
   simpa using this
  ·intro p hp _
   rw [hps]
   simpa using hp
end
section
variable {H : Type} {enc : TypeId × Value → H} {w : World} {base : Nat} {held : Bool}
theorem spot_none {a : Addr} {v : Value} (h : w.cell? a = some v) : a = ⟨a.block, a.off, none⟩ ∧ a.block < w.heap.size := by
 refine ⟨?_, World.block_lt_of_cell? w a h⟩
 obtain ⟨b, o, s⟩ := a
 cases s with
 | none => rfl
 | some n =>
  exfalso
  unfold World.cell? at h
  split at h <;> simp at h
theorem sl_of {a : Addr} {len cap sz : Nat} {rows : List (List Value)} (hsz : 0 < sz) (hr : rows.length = len) (hl : len ≤ cap) (hm : cap ≤ maxLen) (h : ∀ i j, i < cap → j < sz → ∃ v, w.cell? (a.add (i * sz + j)) = some v ∧ (i < len → v = (rows.getD i []).getD j undef)) : Sl w sz (.slice (some a) len cap) rows := by
 subst hr
 refine ⟨some a, cap, rfl, hl, hm, ?_⟩
 rcases Nat.eq_zero_or_pos cap with h0 | h0
 ·exact .inl h0
 ·obtain ⟨v0, hv0, _⟩ := h 0 0 h0 hsz
  rw [Nat.zero_mul, Nat.zero_add, show a.add 0 = a by simp [Addr.add]] at hv0
  obtain ⟨ha, hb⟩ := spot_none hv0
  obtain ⟨b, o, s⟩ := a
  simp only [Addr.mk.injEq, true_and] at ha
  subst ha
  refine .inr ⟨b, o, rfl, hb, fun i j hi hj => ?_⟩
  obtain ⟨v, hv, he⟩ := h i j (by omega) hj
  rw [← he hi, ← hv]
  congr 1
  unfold Addr.add
  split
  ·rename_i h0
   rw [Nat.add_assoc, h0, Nat.add_zero]
  ·rw [Nat.add_assoc]
instance : Inhabited Iv := ⟨⟨⟨#[]⟩, ⟨#[]⟩, 0, 0⟩⟩
set_option maxRecDepth 100000 in
theorem iv_cells {n : Nat} {cs : List Value} {x : DataW H × List MemPlace} (h : DataW.trod enc Tryz.prog w base (fun _ => true) held n 46 cs = some x) : ∃ y : Iv, cs = y.row := by
 have hu := Tryz.underlying46
 obtain ⟨ys, m, -, -, hlen, hyl, hf⟩ := DataW.trod_struct hu h
 have hl4 : cs.length = 4 := hlen.trans (by kernel_rfl)
 match cs, hl4 with
 | [c0, c1, c2, c3], _ =>
  have hyl4 : ys.length = 4 := hyl
  match ys, hyl4 with
  | [y0, y1, y2, y3], _ =>
   have g0 : DataW.trod enc Tryz.prog w base (fun _ => true) held m 23 (([c0, c1, c2, c3].drop 0).take (Tryz.prog.cellsOf 23)) = [y0, y1, y2, y3][0]? := hf 0 _ rfl
   have g1 : DataW.trod enc Tryz.prog w base (fun _ => true) held m 23 (([c0, c1, c2, c3].drop 1).take (Tryz.prog.cellsOf 23)) = [y0, y1, y2, y3][1]? := hf 1 _ rfl
   have g2 : DataW.trod enc Tryz.prog w base (fun _ => true) held m 3 (([c0, c1, c2, c3].drop 2).take (Tryz.prog.cellsOf 3)) = [y0, y1, y2, y3][2]? := hf 2 _ rfl
   have g3 : DataW.trod enc Tryz.prog w base (fun _ => true) held m 3 (([c0, c1, c2, c3].drop 3).take (Tryz.prog.cellsOf 3)) = [y0, y1, y2, y3][3]? := hf 3 _ rfl
   rw [show Tryz.prog.cellsOf 23 = 1 by kernel_rfl] at g0 g1
   rw [show Tryz.prog.cellsOf 3 = 1 by kernel_rfl] at g2 g3
   simp only [List.drop_zero, List.drop_succ_cons, List.take_succ_cons, List.take_zero, List.getElem?_cons_zero, List.getElem?_cons_succ] at g0 g1 g2 g3
   obtain ⟨s0, e0, -⟩ := DataW.trod_string Tryz.underlying23 g0
   obtain ⟨s1, e1, -⟩ := DataW.trod_string Tryz.underlying23 g1
   obtain ⟨z2, e2, -⟩ := DataW.trod_int Tryz.underlying3 g2
   obtain ⟨z3, e3, -⟩ := DataW.trod_int Tryz.underlying3 g3
   simp only [List.cons.injEq, and_true] at e0 e1 e2 e3
   exact ⟨⟨s0, s1, z2, z3⟩, by rw [e0, e1, e2, e3]; rfl⟩
set_option maxRecDepth 100000 in
theorem ivs_of_trod {v : Value} {r : Reach} {b0 : Nat} {d : DataW H} {p : List MemPlace} (hv : Value.okWide Tryz.prog w r b0 22 v) (h : DataW.Trod enc Tryz.prog w base (fun _ => true) held 22 v d p) :
  ∃ xs : List Iv, Ivs w v xs := by
 obtain ⟨a, len, cap, rfl⟩ := okWide_slice Tryz.underlying22 hv
 obtain ⟨fuel, hf⟩ := h
 rcases Go.Deep.open_slice Tryz.underlying22 hf with ⟨hc, _⟩ | ⟨a, len, cap, m, n, D, Pl, hc, hb, hl, hm, hmm, _, hx⟩
 ·simp [Value.cells] at hc
  obtain ⟨rfl, rfl, rfl⟩ := hc
  exact ⟨[], Sl.nil w 4⟩
 ·simp [Value.cells] at hc
  obtain ⟨rfl, rfl, rfl⟩ := hc
  simp only [if_true] at hmm
  have hmm' := hmm.symm
  subst hmm'
  have h4 : Tryz.prog.cellsOf 46 = 4 := by kernel_rfl
  obtain ⟨N, hN⟩ := Deep.choose_lt (α := Iv) (p := fun i y => ∀ j, j < 4 → w.cell? (a.add (i * 4 + j)) = y.row[j]?) (fun i hi => by
   obtain ⟨cs, hcs, ht⟩ := hx i hi
   obtain ⟨y, rfl⟩ := iv_cells ht
   rw [h4] at hcs
   obtain ⟨-, -, hat⟩ := World.cells?_some hcs
   exact ⟨y, fun j hj => by rw [← hat j hj, Go.Deep.add_add]⟩)
  refine ⟨(List.range len).map N, ?_⟩
  show Sl w 4 _ _
  refine sl_of (by omega) (by simp) hl hm fun i j hi hj => ?_
  have hj4 : j < (N i).row.length := hj
  refine ⟨(N i).row[j], (hN i hi j hj).trans (List.getElem?_eq_getElem hj4), fun hil => ?_⟩
  simp [hil, hj4]
end
end Go.Proofs.YtacihodamichhaaGreatDoor
namespace Go.Proofs.YtacihodamichhaaGreatDoor
open Go.RowKit
theorem putR_len {α : Type} {lt : α → α → Prop} [DecidableRel lt] (O : List (α × α)) (p : α × α) : (putR lt O p).length ≤ O.length + 1 := by
 unfold putR
 cases e : O.getLast? with
 | none => simp
 | some q =>
  have hO := getLast_snoc e
  dsimp only
  split
  ·simp
  ·split
   ·rw [List.length_append, List.length_dropLast]
    have : 0 < O.length := by rw [hO]; simp
    simp <;> omega
   ·omega
theorem mergeR_len {α : Type} {lt : α → α → Prop} [DecidableRel lt] : ∀ (l O : List (α × α)), (l.foldl (putR lt) O).length ≤ O.length + l.length
 | [], O => Nat.le_refl _
 | p :: l, O => by
  have h1 := mergeR_len (lt := lt) l (putR lt O p)
  have h2 := putR_len (lt := lt) O p
  rw [List.foldl_cons, List.length_cons]
  omega
theorem joinR_len (rs : List RP) : (joinR rs).length ≤ rs.length := by
 have h1 := mergeR_len (lt := ltR) (sortR rs) []
 have h2 := (sortR_ok rs).2.length_eq
 have h3 := List.length_filter_le (fun r : RP => decide (ltR r.1 r.2)) rs
 unfold joinR mergeR
 simp only [List.length_nil, Nat.zero_add] at h1
 omega
def normL (xs : List Iv) : List Iv := if normErr xs = 0 then (joinR (xs.map rgOf)).map ivR else []
def setL (xs : List Iv) : List Iv := normL (xs.take 8)
theorem rgOf_ok {x : Iv} (hs : x.short) (h : ivErr x = 0) : OkR (rgOf x) := ⟨(iv_rok hs h).1, (iv_rok hs h).2.1⟩
def NormP (xs : List Iv) (v : Value) (w' : World) : Prop := ∃ a c, v = .tuple #[.slice a (normL xs).length c, .int .i64 (normErr xs)] ∧ Ivs w' (.slice a (normL xs).length c) (normL xs)
set_option maxHeartbeats 4000000 in
theorem normal_short (v : Value) (xs : List Iv) (w : World) (h : Ivs w v xs) (hs : ∀ x ∈ xs, x.short) (hn : xs.length ≤ 256) : Calls Tryz.prog 24 #[v] w (RetP (NormP xs) w) := by
 obtain ⟨a, c, rfl, hc1, hc2⟩ := h.open
 unfold maxLen at hc2
 have HX := hI h
 have Hsh := hI hs
 have HE := hI (show normErr xs = shapeErr xs by unfold normErr; rw [if_neg (by omega)])
 have HR := hI (fun w' (hb : Below w.heap.size w w') => ranges_any _ xs w' (h.mono hb) (by omega))
 clear h hs
 generalize hln : xs.length = n at *
 have Hln := hI hln
 clear hln
 have hn2 : ¬ (256 : Int) < (n : Int) := by omega
 go_enter Tryz.func24, Tryz.ntmps24
 go_wp2_with fail
 go_loopw [4] (fun i wr => ∃ k : Nat, k ≤ n ∧ i = .int .i64 (k : Int) ∧ Below w.heap.size w wr ∧ Hid (shapeErr xs = shapeErr (xs.drop k))) (fun i _ => n - (intOf i).toNat)
 case atStart => exact ⟨0, by omega, rfl, Below.refl _ _, by unfold Hid; rw [List.drop_zero]⟩
 case round =>
  obtain ⟨k, hk, rfl, hbw, hpre⟩ := hrel
  have Hbw := hI hbw
  have Hpre := hI hpre.out
  rcases Nat.lt_or_ge k n with hlt | hge
  ·obtain ⟨b, off, x, rfl, hx, c0, c1, c2, c3⟩ := HX.out.at hbw hlt
   have hkn : (k : Int) < (n : Int) := by omega
   have hk0 : (0 : Int) ≤ (k : Int) := Int.natCast_nonneg _
   have hkw : IntKind.i64.wrap ((k : Int) + 1) = (k : Int) + 1 := IntWalk.i64_in _ (by omega)
   have H1 := hI (fun w' => qshape_any x w' (Hsh.out x (List.mem_of_getElem? hx)))
   unfold Iv.agg at H1
   have hse := Hpre.out
   rw [drop_nexti hx] at hse
   have Hse := hI hse
   clear hx hbw hpre hse
   by_cases hiv : ivErr x = 0
   ·rw [hiv] at H1
    have Hnx := hI (show shapeErr xs = shapeErr (xs.drop (k + 1)) by rw [Hse.out, shapeErr, if_neg (by simpa using hiv)])
    clear hiv
    go_wp2_with (go_at_call 77; refine (H1.out _).mono ?_; rintro e w1 ⟨rfl, hb1⟩; have Hb1 := hI (Hbw.out.via hb1 Hbw.out.size); clear hb1)
    go_roundw
    case rel => exact ⟨k + 1, by omega, by go_num, Hb1.out, Hnx.out⟩
    case measure => simp [intOf] <;> omega
   ·have hcode : (ivErr x != 0) = true := by rw [bne_iff_ne]; exact hiv
    have Hres := hI (show normErr xs = ivErr x ∧ normL xs = [] by
     have h1 : normErr xs = ivErr x := by rw [HE.out, Hse.out, shapeErr, if_pos hiv]
     exact ⟨h1, by unfold normL; rw [if_neg (by rw [h1]; exact hiv)]⟩)
    generalize ivErr x = code at *
    clear hiv
    go_wp2_with (go_at_call 77; refine (H1.out _).mono ?_; rintro e w1 ⟨rfl, hb1⟩; have Hb1 := hI (Hbw.out.via hb1 Hbw.out.size); clear hb1)
    go_ret2
    exact ⟨_, rfl, ⟨none, 0, by rw [Hres.out.1, Hres.out.2]; rfl, by rw [Hres.out.2]; exact Sl.nil _ 4⟩, Hb1.out⟩
  ·obtain rfl : k = n := by omega
   have hkn : ¬ (k : Int) < (k : Int) := by omega
   have herr : shapeErr xs = 0 := by rw [Hpre.out, List.drop_of_length_le (by rw [Hln.out]; exact Nat.le_refl _)]; rfl
   have Hok := hI (show ∀ r ∈ xs.map rgOf, OkR r from fun r hr => by
    obtain ⟨x, hx, rfl⟩ := List.mem_map.1 hr
    exact rgOf_ok (Hsh.out x hx) (shapeErr_ok herr x hx))
   have Hres := hI (show normErr xs = 0 ∧ normL xs = (joinR (xs.map rgOf)).map ivR by
    have h1 : normErr xs = 0 := by rw [HE.out, herr]
    exact ⟨h1, by unfold normL; rw [if_pos h1]⟩)
   have HRr := hI (HR.out wr hbw)
   have Hlen := hI (show (xs.map rgOf).length ≤ 1000 by rw [List.length_map, Hln.out]; omega)
   have HJ := hI (fun v' w' (h : Rgs w' v' (xs.map rgOf)) => joined_any v' (xs.map rgOf) w' h Hok.out Hlen.out)
   have Hjl := hI (joinR_len (xs.map rgOf))
   have HI := hI (fun v' w' (h : Rgs w' v' (joinR (xs.map rgOf))) => rintervals_any v' (joinR (xs.map rgOf)) w' h (by have := Hjl.out; have := Hlen.out; omega))
   have Hfin := hI (show ((joinR (xs.map rgOf)).map ivR).length = (joinR (xs.map rgOf)).length from List.length_map ..)
   generalize joinR (xs.map rgOf) = J at *
   generalize hjn : J.length = jn at *
   clear hbw hpre herr HX HR
   go_wp2_with (first
    | (go_at_call 80; refine (HRr.out).mono ?_; rintro e w1 ⟨v1, rfl, hown, hb1⟩; have Hb1 := hI (Hbw.out.via hb1 Hbw.out.size); have Hr1 := hI (own_rgs hown); clear hown hb1)
    | (go_at_call 79; refine (HJ.out _ _ Hr1.out).mono ?_; rintro e w2 ⟨v2, rfl, hown2, hb2⟩; have Hb2 := hI (Hb1.out.via hb2 Hb1.out.size); have Hr2 := hI (own_rgs hown2); clear hown2 hb2)
    | (go_at_call 78; refine (HI.out _ _ Hr2.out).mono ?_; rintro e w3 ⟨v3, rfl, ⟨a3, c3, rfl, hiv⟩, hb3⟩; have Hb3 := hI (Hb2.out.via hb3 Hb2.out.size); have Hiv := hI hiv; clear hiv hb3))
   go_ret2
   exact ⟨_, rfl, ⟨a3, c3, by rw [Hres.out.1, Hres.out.2, Hfin.out]; rfl, by rw [Hres.out.2, Hfin.out]; exact Hiv.out⟩, Hb3.out⟩
end Go.Proofs.YtacihodamichhaaGreatDoor
namespace Go.Proofs.YtacihodamichhaaGreatDoor
open Go.RowKit
theorem Sl.takeC {w : World} {sz n cap k : Nat} {a : Option Addr} {rows : List (List Value)} (h : Sl w sz (.slice a n cap) rows) (hk : k ≤ n) : Sl w sz (.slice a k cap) (rows.take k) := by
 obtain ⟨a', cap', hv, hc, hm, h⟩ := h
 simp only [Value.slice.injEq] at hv
 obtain ⟨rfl, rfl, rfl⟩ := hv
 refine ⟨a, cap, by rw [List.length_take, Nat.min_eq_left hk], by rw [List.length_take]; omega, hm, ?_⟩
 rcases h with h | ⟨b, off, rfl, hb, h⟩
 ·exact .inl h
 ·refine .inr ⟨b, off, rfl, hb, fun i j hi hj => ?_⟩
  rw [List.length_take] at hi
  rw [h i j (by omega) hj]
  simp only [List.getD_eq_getElem?_getD]
  rw [List.getElem?_take_of_lt (by omega)]
set_option maxHeartbeats 4000000 in
theorem set_any (v : Value) (xs : List Iv) (w : World) (h : Ivs w v xs) (hs : ∀ x ∈ xs, x.short) : Calls Tryz.prog 15 #[v] w (RetP (fun r w' => ∃ a c, r = .slice a (setL xs).length c ∧ Ivs w' (.slice a (setL xs).length c) (setL xs)) w) := by
 obtain ⟨a, c, rfl, hc1, hc2⟩ := h.open
 unfold maxLen at hc2
 obtain ⟨m, hm⟩ : ∃ m, min xs.length 8 = m := ⟨_, rfl⟩
 have hmin : min ((xs.length : Nat) : Int) 8 = (m : Int) := by omega
 have hm8 : m ≤ 8 := by omega
 have hml : m ≤ xs.length := by omega
 have htk : xs.take 8 = xs.take m := by
  rcases Nat.lt_or_ge xs.length 8 with h8 | h8
  ·rw [List.take_of_length_le (by omega), List.take_of_length_le (by omega)]
  ·rw [show m = 8 by omega]
 have hIv : Ivs w (.slice a m c) (xs.take m) := by
  have := Sl.takeC h hml
  rw [← List.map_take] at this
  exact this
 have hlen : (xs.take m).length = m := by rw [List.length_take]; omega
 have HN := hI (normal_short (.slice a m c) (xs.take m) w hIv (fun x hx => hs x (List.mem_of_mem_take hx)) (by omega))
 have Hse := hI (show setL xs = normL (xs.take m) by unfold setL; rw [htk])
 have hmc : (m : Int) ≤ (c : Int) := by omega
 have hm0 : (0 : Int) ≤ (m : Int) := Int.natCast_nonneg _
 have hmt : ((m : Int)).toNat = m := by omega
 clear h hs hm hIv hlen htk hm8
 generalize xs.length = n at *
 unfold NormP at HN
 go_enter Tryz.func15, Tryz.ntmps15
 go_wp2_with (go_at_call 24; refine (HN.out).mono ?_; rintro e w1 ⟨v1, rfl, ⟨a1, c1, rfl, hiv⟩, hb1⟩; have Hiv := hI hiv; have Hb1 := hI hb1; clear hiv hb1)
 go_ret
 exact ⟨_, rfl, ⟨a1, c1, by rw [Hse.out]; rfl, by rw [Hse.out]; exact Hiv.out⟩, Hb1.out⟩
end Go.Proofs.YtacihodamichhaaGreatDoor
namespace Go.Proofs.YtacihodamichhaaGreatDoor
open Go.RowKit
def shB (x : Iv) : Bool := decide (x.lo.size ≤ 60) && decide (x.hi.size ≤ 60)
def fewB (xs : List Iv) : Bool := !(decide (260 < xs.length) || (decide (8 < xs.length) && decide (xs.length < 257))) && xs.all shB
theorem few_short {xs : List Iv} (h : fewB xs = true) : ∀ x ∈ xs, x.short := by
 unfold fewB at h
 rw [Bool.and_eq_true] at h
 intro x hx
 have := List.all_eq_true.1 h.2 x hx
 unfold shB at this
 simp at this
 exact this
set_option maxHeartbeats 8000000 in
theorem few_any (v : Value) (xs : List Iv) (w : World) (h : Ivs w v xs) (hln : xs.length < 1000000) : Calls Tryz.prog 14 #[v] w (Ret (.bool (fewB xs)) w) := by
 obtain ⟨a, c, rfl, hc1, hc2⟩ := h.open
 have HX := hI h
 obtain ⟨T, hT⟩ : ∃ T, fewB xs = T := ⟨_, rfl⟩
 rw [hT]
 have HT0 := hI (show T = (!(decide (260 < xs.length) || (decide (8 < xs.length) && decide (xs.length < 257))) && xs.all shB) from hT.symm)
 generalize hn : xs.length = n at *
 have Hn := hI hn
 clear h hn hT
 by_cases h1 : 260 < n
 ·have Hfin := hI (show T = false by rw [HT0.out, decide_eq_true h1]; rfl)
  have g1 : (260 : Int) < (n : Int) := by omega
  go_enter Tryz.func14, Tryz.ntmps14
  go_wp2_with fail
  go_ret
  exact ⟨by rw [Hfin.out]; rfl, Below.refl _ _⟩
 ·have g1 : ¬ (260 : Int) < (n : Int) := by omega
  by_cases h2 : 8 < n
  ·have g2 : (8 : Int) < (n : Int) := by omega
   by_cases h3 : n < 257
   ·have Hfin := hI (show T = false by rw [HT0.out, decide_eq_true h2, decide_eq_true h3, Bool.true_and, Bool.or_true]; rfl)
    have g3 : (n : Int) < 257 := by omega
    go_enter Tryz.func14, Tryz.ntmps14
    go_wp2_with fail
    go_ret
    exact ⟨by rw [Hfin.out]; rfl, Below.refl _ _⟩
   ·have HT := hI (show T = (true && xs.all shB) by rw [HT0.out, decide_eq_false h1, decide_eq_false h3, Bool.and_false, Bool.or_false]; rfl)
    have g3 : ¬ (n : Int) < 257 := by omega
    clear h1 h2 h3 HT0
    go_enter Tryz.func14, Tryz.ntmps14
    go_wp2_with fail
    go_loopw [3] (fun i wr => wr = w ∧ ∃ k : Nat, k ≤ n ∧ i = .int .i64 (k : Int) ∧ Hid (xs.all shB = (xs.drop k).all shB)) (fun i _ => n - (intOf i).toNat)
    case atStart => exact ⟨rfl, 0, Nat.zero_le _, rfl, by unfold Hid; rw [List.drop_zero]⟩
    case round =>
     obtain ⟨rfl, k, hk, rfl, hpre⟩ := hrel
     rcases Nat.lt_or_ge k n with hlt | hge
     ·obtain ⟨b, off, x, rfl, hx, c0, c1, c2, c3⟩ := HX.out.at (Below.refl _ _) hlt
      have hkn : (k : Int) < (n : Int) := by omega
      have hk0 : (0 : Int) ≤ (k : Int) := Int.natCast_nonneg _
      have hkw : IntKind.i64.wrap ((k : Int) + 1) = (k : Int) + 1 := IntWalk.i64_in _ (by omega)
      have hpr := hpre.out
      rw [drop_nexti hx, List.all_cons] at hpr
      by_cases h1 : 60 < x.lo.size
      ·have hf : xs.all shB = false := by rw [hpr]; simp [shB]; omega
       have Hfin := hI (show T = false by rw [HT.out, hf, Bool.and_false])
       have g1 : (60 : Int) < (x.lo.size : Int) := by omega
       clear hpr hx hf
       go_wp2_with fail
       go_ret
       exact ⟨by rw [Hfin.out]; rfl, Below.refl _ _⟩
      ·have g1 : ¬ (60 : Int) < (x.lo.size : Int) := by omega
       by_cases h2 : 60 < x.hi.size
       ·have hf : xs.all shB = false := by rw [hpr]; simp [shB]; omega
        have Hfin := hI (show T = false by rw [HT.out, hf, Bool.and_false])
        have g2 : (60 : Int) < (x.hi.size : Int) := by omega
        clear hpr hx hf
        go_wp2_with fail
        go_ret
        exact ⟨by rw [Hfin.out]; rfl, Below.refl _ _⟩
       ·have g2 : ¬ (60 : Int) < (x.hi.size : Int) := by omega
        have Hnx := hI (show xs.all shB = (xs.drop (k + 1)).all shB by
         rw [hpr, show shB x = true by unfold shB; rw [decide_eq_true (by omega), decide_eq_true (by omega)]; rfl, Bool.true_and])
        clear hpr hx h1 h2
        go_wp2_with fail
        go_roundw
        case rel => exact ⟨trivial, k + 1, by omega, by go_num, Hnx.out⟩
        case measure => simp [intOf] <;> omega
     ·obtain rfl : k = n := by omega
      have hkn : ¬ (k : Int) < (k : Int) := by omega
      have Hfin := hI (show T = true by rw [HT.out, hpre.out, List.drop_of_length_le (by rw [Hn.out]; exact Nat.le_refl _)]; rfl)
      go_wp2_with fail
      go_ret
      exact ⟨by rw [Hfin.out]; rfl, Below.refl _ _⟩
  ·have g2 : ¬ (8 : Int) < (n : Int) := by omega
   have HT := hI (show T = (true && xs.all shB) by rw [HT0.out, decide_eq_false h1, decide_eq_false h2, Bool.false_and, Bool.or_false]; rfl)
   clear h1 h2 HT0
   go_enter Tryz.func14, Tryz.ntmps14
   go_wp2_with fail
   go_loopw [3] (fun i wr => wr = w ∧ ∃ k : Nat, k ≤ n ∧ i = .int .i64 (k : Int) ∧ Hid (xs.all shB = (xs.drop k).all shB)) (fun i _ => n - (intOf i).toNat)
   case atStart => exact ⟨rfl, 0, Nat.zero_le _, rfl, by unfold Hid; rw [List.drop_zero]⟩
   case round =>
    obtain ⟨rfl, k, hk, rfl, hpre⟩ := hrel
    rcases Nat.lt_or_ge k n with hlt | hge
    ·obtain ⟨b, off, x, rfl, hx, c0, c1, c2, c3⟩ := HX.out.at (Below.refl _ _) hlt
     have hkn : (k : Int) < (n : Int) := by omega
     have hk0 : (0 : Int) ≤ (k : Int) := Int.natCast_nonneg _
     have hkw : IntKind.i64.wrap ((k : Int) + 1) = (k : Int) + 1 := IntWalk.i64_in _ (by omega)
     have hpr := hpre.out
     rw [drop_nexti hx, List.all_cons] at hpr
     by_cases h1 : 60 < x.lo.size
     ·have hf : xs.all shB = false := by rw [hpr]; simp [shB]; omega
      have Hfin := hI (show T = false by rw [HT.out, hf, Bool.and_false])
      have g1 : (60 : Int) < (x.lo.size : Int) := by omega
      clear hpr hx hf
      go_wp2_with fail
      go_ret
      exact ⟨by rw [Hfin.out]; rfl, Below.refl _ _⟩
     ·have g1 : ¬ (60 : Int) < (x.lo.size : Int) := by omega
      by_cases h2 : 60 < x.hi.size
      ·have hf : xs.all shB = false := by rw [hpr]; simp [shB]; omega
       have Hfin := hI (show T = false by rw [HT.out, hf, Bool.and_false])
       have g2 : (60 : Int) < (x.hi.size : Int) := by omega
       clear hpr hx hf
       go_wp2_with fail
       go_ret
       exact ⟨by rw [Hfin.out]; rfl, Below.refl _ _⟩
      ·have g2 : ¬ (60 : Int) < (x.hi.size : Int) := by omega
       have Hnx := hI (show xs.all shB = (xs.drop (k + 1)).all shB by
        rw [hpr, show shB x = true by unfold shB; rw [decide_eq_true (by omega), decide_eq_true (by omega)]; rfl, Bool.true_and])
       clear hpr hx h1 h2
       go_wp2_with fail
       go_roundw
       case rel => exact ⟨trivial, k + 1, by omega, by go_num, Hnx.out⟩
       case measure => simp [intOf] <;> omega
    ·obtain rfl : k = n := by omega
     have hkn : ¬ (k : Int) < (k : Int) := by omega
     have Hfin := hI (show T = true by rw [HT.out, hpre.out, List.drop_of_length_le (by rw [Hn.out]; exact Nat.le_refl _)]; rfl)
     go_wp2_with fail
     go_ret
     exact ⟨by rw [Hfin.out]; rfl, Below.refl _ _⟩
end Go.Proofs.YtacihodamichhaaGreatDoor
namespace Go.Proofs.YtacihodamichhaaGreatDoor
open Go.RowKit
set_option maxHeartbeats 1000000 in
theorem few_long (v : Value) (xs : List Iv) (w : World) (h : Ivs w v xs) (hn : 260 < xs.length) : Calls Tryz.prog 14 #[v] w (Ret (.bool false) w) := by
 obtain ⟨a, c, rfl, hc1, hc2⟩ := h.open
 clear h
 generalize xs.length = n at *
 have g1 : (260 : Int) < (n : Int) := by omega
 go_enter Tryz.func14, Tryz.ntmps14
 go_wp2_with fail
 go_ret
 exact ⟨rfl, Below.refl _ _⟩
theorem few_all (v : Value) (xs : List Iv) (w : World) (h : Ivs w v xs) : Calls Tryz.prog 14 #[v] w (Ret (.bool (fewB xs)) w) := by
 rcases Nat.lt_or_ge 260 xs.length with hn | hn
 ·rw [show fewB xs = false by unfold fewB; rw [decide_eq_true hn]; rfl]
  exact few_long v xs w h hn
 ·exact few_any v xs w h (by omega)
end Go.Proofs.YtacihodamichhaaGreatDoor
