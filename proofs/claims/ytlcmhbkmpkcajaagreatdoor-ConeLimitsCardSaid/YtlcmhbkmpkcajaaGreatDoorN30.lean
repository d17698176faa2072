/-
  Parts of the proof: Qnu, Qnm, Qpa.
-/
import Derived.Test.YtlcmhbkmpkcajaaGreatDoorN29
namespace Go.Proofs.YtlcmhbkmpkcajaaGreatDoor
open Go.RowKit
theorem fillG_set {α : Type} {l : List α} {z x : α} {n k : Nat} (hl : l.length = n) (hx : l[k]? = some x) : (l.take k ++ List.replicate (n - k) z).set k x = l.take (k + 1) ++ List.replicate (n - (k + 1)) z := by
  have hk : k < n := by have := lt_of_get hx; omega
  rw [List.set_append_right _ _ (by rw [List.length_take]; omega), List.length_take, show k - min k l.length = 0 by omega, show n - k = (n - (k + 1)) + 1 by omega, List.replicate_succ, List.set_cons_zero, List.take_add_one, hx]
  simp
def SB (w : World) (g : Nat) (ss : List ByteArray) (n k : Nat) : Prop := Blk w g ((ss.take k ++ List.replicate (n - k) (⟨#[]⟩ : ByteArray)).map Value.string).toArray 24
theorem made_str (n : Nat) : (madeCells (Value.string ⟨#[]⟩).cells (n * 1)).toList = (List.replicate n (⟨#[]⟩ : ByteArray)).map Value.string := by
  simp only [madeCells, Value.cells, Nat.mul_one, List.map_replicate]
  apply List.ext_getElem <;> simp
  intro i hi
  simp [Nat.mod_one]
theorem SB.made {w : World} {M g n : Nat} {ss : List ByteArray} (h : w.ownsRow M 24 1 (.slice (some ⟨g, 0, none⟩) n n) n (madeCells (Value.string ⟨#[]⟩).cells (n * 1)).toList) : SB w g ss n 0 := by
  rw [made_str] at h
  rcases h.2 with ⟨hv, -⟩ | ⟨g2, cap2, cur, hv, -, hblk, -, -, hcs, htk⟩
  · cases hv
  · cases hv
    have : cur = ((List.replicate n (⟨#[]⟩ : ByteArray)).map Value.string).toArray := by
      apply Array.toList_inj.1
      rw [List.toList_toArray, ← htk, List.take_of_length_le (by rw [Array.length_toList, hcs]; exact Nat.le_refl _)]
    unfold SB Blk
    rw [hblk, this]
    simp
theorem SB.set {w : World} {g n k : Nat} {ss : List ByteArray} {s : ByteArray} (h : SB w g ss n k) (hl : ss.length = n) (hs : ss[k]? = some s) : SB (w.setCell ⟨g, k, none⟩ (.string s)) g ss n (k + 1) := by
  have h1 := Blk.set h k (.string s)
  rw [List.setIfInBounds_toArray, ← List.map_set, fillG_set hl hs] at h1
  exact h1
theorem SB.at {w : World} {g n k : Nat} {ss : List ByteArray} (h : SB w g ss n k) (hl : ss.length = n) (hk : k < n) : w.cell? ⟨g, k, none⟩ = some (.string ⟨#[]⟩) ∧ w.frozen? ⟨g, k, none⟩ = false := by
  refine ⟨?_, Blk.free h k⟩
  rw [Blk.cell h, List.getElem?_toArray, List.getElem?_map, List.getElem?_append_right (by rw [List.length_take]; omega), List.length_take, show k - min k ss.length = 0 by omega, List.getElem?_replicate, if_pos (by omega)]
  rfl
theorem SB.tv {w : World} {g n : Nat} {rs : List Rat} (h : SB w g (rs.map numS) n n) (hl : rs.length = n) (hm : n ≤ maxLen) : TV w (.slice (some ⟨g, 0, none⟩) n n) rs := by
  unfold SB at h
  rw [Nat.sub_self, List.take_of_length_le (by rw [List.length_map]; omega), List.replicate_zero, List.append_nil] at h
  refine ⟨?_, fun p m c hv => by cases hv; exact ⟨_, h⟩⟩
  have hn : (((rs.map numS).map Value.string).map c1).length = n := by simp [hl]
  refine ⟨some ⟨g, 0, none⟩, n, by rw [hn], by rw [hn]; exact Nat.le_refl _, hm, .inr ⟨g, 0, rfl, h.lt, fun i j hi hj => ?_⟩⟩
  obtain rfl : j = 0 := by omega
  rw [hn] at hi
  rw [h.cell, List.getElem?_toArray]
  have hi2 : i < ((rs.map numS).map Value.string).length := by simp; omega
  have e : ((((rs.map numS).map Value.string).map c1).getD i []) = [((rs.map numS).map Value.string)[i]] := by
    rw [List.getD_eq_getElem?_getD, List.getElem?_map, List.getElem?_eq_getElem hi2]
    rfl
  rw [show 0 + i * 1 + 0 = i by omega, List.getElem?_eq_getElem hi2, e]
  rfl
set_option maxHeartbeats 4000000 in
set_option maxRecDepth 10000 in
theorem numbers_v (u : Value) (rs : List Rat) (n : Nat) (w : World) (h : QV w u rs) (ha : rs.length = n) (hn : n ≤ 1000) (hz : ∀ r ∈ rs, Sz 100 r) (hT : Tab w) :
    Calls Tryz.prog 16 #[u] w (RetP (fun v w' => TV w' v rs) w) := by
  have HNu := hI (fun (k : Nat) (r : Rat) (hr : rs[k]? = some r) W v (hb : Below w.heap.size w W) (hv : RQ W v r) => show Calls Tryz.prog 25 #[v] W (Ret (.string (numS r)) W) from number_g v r 12 W hv ((hz r (List.mem_of_getElem? hr)).mono (by omega)) (by omega) (hT.mono hb))
  have HG := hI (fun (k : Nat) (r : Rat) (hr : rs[k]? = some r) => show (rs.map numS)[k]? = some (numS r) from by rw [List.getElem?_map, hr]; rfl)
  have HL := hI (show (rs.map numS).length = n from by rw [List.length_map]; exact ha)
  obtain ⟨ad, cap, rfl, hc1, hc2⟩ := h.open
  rw [ha] at h hc1 ⊢
  unfold maxLen at hc2
  have HX := hI h
  have Ha := hI ha
  obtain ⟨i1, hi1, hy0, hy1, hy2⟩ : ∃ i1, Tryz.prog.info? 24 = some i1 ∧ i1.zero = some (.string ⟨#[]⟩) ∧ i1.size = 1 ∧ i1.bytes = 16 := by
    have hi : (Tryz.prog.info? 24).map (fun i => (i.zero, i.size, i.bytes)) = some (some (.string ⟨#[]⟩), 1, 16) := by kernel_rfl
    rw [Option.map_eq_some_iff] at hi
    obtain ⟨i1, h, he⟩ := hi
    simp only [Prod.mk.injEq] at he
    exact ⟨i1, h, he.1, he.2.1, he.2.2⟩
  clear h ha hz hT
  go_enter Tryz.func16, Tryz.ntmps16
  go_wp2_with (at_make; go_loud (refine wpList_make_full _ rfl _ _ 23 rfl w.heap.size 24 i1 (.string ⟨#[]⟩) 1 Tryz.underlying23 hi1 hy0 hy1 .i64 .i64 _ _ n rfl rfl (by omega) (by omega) (by rw [hy2]; omega) (by unfold maxLen; omega) (by simp) ?_; intro wm hown hg; have Hvb := hI (show SB wm w.heap.size (rs.map numS) n 0 from SB.made hown); have Hb1 := hI ((Below.refl w.heap.size w).grown hg (Nat.le_refl _) (fun b hb => by cases hb)); clear hown hg))
  go_loopw [11] (fun i wr => ∃ q : Nat, q ≤ n ∧ i = .int .i64 (q : Int) ∧ Below w.heap.size w wr ∧ w.heap.size < wr.heap.size ∧ Hid (SB wr w.heap.size (rs.map numS) n q)) (fun i _ => n - (intOf i).toNat)
  case atStart => exact ⟨0, by omega, rfl, Hb1.out, Blk.lt Hvb.out, Hvb.out⟩
  case round =>
    obtain ⟨q, hq, rfl, hbx, hlt0, hvb⟩ := hrel
    have Hbx := hI hbx
    have HVB := hI hvb.out
    rcases Nat.lt_or_ge q n with hlt | hge
    · obtain ⟨b1, o1, x1, a1, n1, c1, y1, e1, l1, d1, r, rfl, hr, hR, z0, z1, z2, z3⟩ := HX.out.at hbx hlt
      have hkn : (q : Int) < (n : Int) := by omega
      have hk0 : (0 : Int) ≤ (q : Int) := Int.natCast_nonneg _
      have hkw : IntKind.i64.wrap ((q : Int) + 1) = (q : Int) + 1 := IntWalk.i64_in _ (by omega)
      have Hg := hI (HG.out q r hr)
      have HNx := hI (HNu.out q r hr _ _ (hbx.via (below1 wr (.cells #[.bool x1, .slice a1 n1 c1, .bool y1, .slice e1 l1 d1] 61)) hbx.size) (hR.mono (below1 wr (.cells #[.bool x1, .slice a1 n1 c1, .bool y1, .slice e1 l1 d1] 61))))
      have Hb2 := hI (below1 wr (.cells #[.bool x1, .slice a1 n1 c1, .bool y1, .slice e1 l1 d1] 61))
      generalize numS r = s at *
      clear hR hr hbx hvb
      go_wp2_with (go_at_call 25; refine (HNx.out).mono ?_; rintro e5 w5 ⟨rfl, hb5⟩; have hB2 := HVB.out.below (bw_via Hb2.out hb5); obtain ⟨p0, f0⟩ := SB.at hB2 HL.out hlt; have HB3 := hI (SB.set hB2 HL.out Hg.out); have Hb3 := hI ((Hbx.out.via (bw_via Hb2.out hb5) Hbx.out.size).setCell (p := ⟨w.heap.size, q, none⟩) (Nat.le_refl _) (.string s)); clear hB2 hb5)
      go_roundw
      case rel => exact ⟨q + 1, by omega, by go_num, Hb3.out, Blk.lt HB3.out, HB3.out⟩
      case measure => simp [intOf] <;> omega
    · obtain rfl : q = n := by omega
      have hkn : ¬ (q : Int) < (q : Int) := by omega
      have Hres := hI (SB.tv HVB.out Ha.out (by unfold maxLen; omega))
      clear hbx hvb
      go_wp2_with fail
      go_ret
      exact ⟨_, rfl, Hres.out, Hbx.out⟩
def TVs (w : World) (v : Value) (vs : List (List Rat)) : Prop := ∃ ps : List Value, ps.length = vs.length ∧ Sl w 1 v (ps.map c1) ∧ AT w 23 v ∧ ∀ (k : Nat) (p : Value) (a : List Rat), ps[k]? = some p → vs[k]? = some a → TV w p a
theorem TVs.keep {ok : TypeId → Prop} {w w' : World} {v : Value} {vs : List (List Rat)} (h : TVs w v vs) (hk : Keep ok w w') (h1 : ok 24) (h2 : ok 23) : TVs w' v vs := by
  obtain ⟨ps, hl, hS, ha, hq⟩ := h
  exact ⟨ps, hl, Sl.keep hS ha hk h2, ha.keep hk h2, fun k p a hp hv => (hq k p a hp hv).keep hk h1⟩
theorem TVs.mono {w w' : World} {v : Value} {vs : List (List Rat)} (h : TVs w v vs) (hb : Below w.heap.size w w') : TVs w' v vs := h.keep (ok := fun _ => True) (.below hb) trivial trivial
theorem TVs.open {w : World} {v : Value} {vs : List (List Rat)} (h : TVs w v vs) : ∃ a cap, v = .slice a vs.length cap ∧ vs.length ≤ cap ∧ cap ≤ maxLen := by
  obtain ⟨ps, hl, hS, -⟩ := h
  rw [← hl]
  have := Sl.open hS
  rwa [List.length_map] at this
theorem TVs.at {w wr : World} {n cap : Nat} {a : Option Addr} {vs : List (List Rat)} (h : TVs w (.slice a n cap) vs) (hb : Below w.heap.size w wr) {k : Nat} (hk : k < n) :
    ∃ b off p x, a = some ⟨b, off, none⟩ ∧ vs[k]? = some x ∧ wr.cell? ⟨b, off + k, none⟩ = some p ∧ TV wr p x := by
  obtain ⟨ps, hl, hS, -, hq⟩ := h
  obtain ⟨b, off, p, ha, hp, h0⟩ := Sl.at1 hS hb hk
  have hkl : k < vs.length := by rw [← hl]; exact lt_of_get hp
  exact ⟨b, off, p, _, ha, List.getElem?_eq_getElem hkl, h0, (hq k p _ hp (List.getElem?_eq_getElem hkl)).mono hb⟩
set_option maxHeartbeats 4000000 in
set_option maxRecDepth 10000 in
theorem trusted_g (u : Value) (vs : List (List Rat)) (d n : Nat) (w : World) (h : TVs w u vs) (ha : vs.length = n) (hn : n ≤ 1000) (hd : d ≤ 1000) (hz : ∀ v ∈ vs, FitV d v) :
    Calls Tryz.prog 19 #[u] w (RetP (fun v w' => OV w.heap.size w' v vs) w) := by
  have HRd := hI (fun (k : Nat) (x : List Rat) (hx : vs[k]? = some x) W v (hv : TV W v x) => reads_v v x d W hv (hz x (List.mem_of_getElem? hx)).1 hd (hz x (List.mem_of_getElem? hx)).2)
  obtain ⟨ad, cap, rfl, hc1, hc2⟩ := h.open
  rw [ha] at h hc1 ⊢
  unfold maxLen at hc2
  have HX := hI h
  have Ha := hI ha
  clear h ha hz
  go_enter Tryz.func19, Tryz.ntmps19
  go_wp2_with fail
  go_loopw [10, 3] (fun i o wr => ∃ q : Nat, q ≤ n ∧ i = .int .i64 (q : Int) ∧ Below w.heap.size w wr ∧ Hid (OV w.heap.size wr o (vs.take q))) (fun i _ _ => n - (intOf i).toNat)
  case atStart => exact ⟨0, by omega, rfl, Below.refl _ _, OV.nil _ _⟩
  case round =>
    obtain ⟨q, hq, rfl, hbx, hO⟩ := hrel
    have Hbx := hI hbx
    have HO := hI hO.out
    obtain ⟨oa, oc, rfl, ho1, ho2⟩ := hO.out.open
    have hlen : (vs.take q).length = q := by rw [List.length_take]; have := Ha.out; omega
    rw [hlen] at HO ho1 ⊢
    unfold maxLen at ho2
    have Hlen := hI hlen
    clear hlen hO
    rcases Nat.lt_or_ge q n with hlt | hge
    · obtain ⟨b1, o1, p, x, rfl, hx, c0, hp⟩ := HX.out.at hbx hlt
      obtain ⟨pa, pc, rfl, -, -⟩ := hp.open
      have hkn : (q : Int) < (n : Int) := by omega
      have hk0 : (0 : Int) ≤ (q : Int) := Int.natCast_nonneg _
      have hkw : IntKind.i64.wrap ((q : Int) + 1) = (q : Int) + 1 := IntWalk.i64_in _ (by omega)
      have HRx := hI (HRd.out q x hx wr _ hp)
      have Htk := hI (show vs.take (q + 1) = vs.take q ++ [x] from by rw [List.take_add_one, hx]; rfl)
      clear hx hp hbx
      go_wp2_with (first
        | (go_at_call 18; refine (HRx.out).mono ?_; rintro e5 w5 ⟨v5, rfl, ⟨r0, rfl, hv5⟩, hb5⟩; obtain ⟨qa, qc, rfl, -, -⟩ := hv5.open; have Hb5 := hI (bw_via hb5 (below1 w5 (.cells #[.slice qa x.length qc] 46))); have HQ5 := hI (hv5.mono (below1 w5 (.cells #[.slice qa x.length qc] 46))); have HBn := hI (Blk.new w5 #[.slice qa x.length qc] 46); clear hv5 hb5)
        | (at_builtin; obtain ⟨ps, hpl, hpo, hpq⟩ := HO.out.below Hb5.out; have hpo2 := hpo; rw [Hlen.out] at hpo2; refine wpAppL EVs (by decide) [.slice qa x.length qc] rfl _ _ rfl w.heap.size q _ ps _ rfl rfl hpo2 HBn.out rfl (one1 _ rfl) (by omega) (by decide) (Hbx.out.via Hb5.out Hbx.out.size).size ?_; intro g4 cap4 w4 hown' hg' _ _; have HV4 := hI (OV.snoc2 hpl hpq hpo HQ5.out hg' (by rw [Hlen.out]; exact hown')); have Hb4 := hI (Below.grown (Hbx.out.via Hb5.out Hbx.out.size) hg' (Hbx.out.via Hb5.out Hbx.out.size).size (fun q hq => (hpo.lt q hq).1)); clear hpl hpo hpq hpo2 hown' hg'))
      go_roundw
      case rel => exact ⟨q + 1, by omega, by go_num, Hb4.out, by rw [Htk.out]; exact HV4.out⟩
      case measure => simp [intOf] <;> omega
    · obtain rfl : q = n := by omega
      have hkn : ¬ (q : Int) < (q : Int) := by omega
      have hall : vs.take q = vs := List.take_of_length_le (by have := Ha.out; omega)
      rw [hall] at HO
      clear hbx hall
      go_wp2_with fail
      go_ret
      exact ⟨_, rfl, HO.out, Hbx.out⟩
end Go.Proofs.YtlcmhbkmpkcajaaGreatDoor
namespace Go.Proofs.YtlcmhbkmpkcajaaGreatDoor
open Go.RowKit
def nameL (a : List Rat) : List UInt8 := a.flatMap fun x => txtR x ++ [32]
theorem txtZ_blank (z : Int) : ∀ c ∈ txtZ z, c ≠ 32 := by
  intro c hc e
  subst e
  obtain ⟨-, hA, -⟩ := txtZ_abs z
  rw [neg_abs (txtZ z)] at hc
  split at hc
  · rcases List.mem_cons.1 hc with h | h
    · exact absurd h (by decide)
    · exact absurd (hA _ h) (by decide)
  · exact absurd (hA _ hc) (by decide)
theorem txtR_blank (r : Rat) : ∀ c ∈ txtR r, c ≠ 32 := by
  intro c hc
  unfold txtR at hc
  split at hc
  · exact txtZ_blank _ c hc
  · rcases List.mem_append.1 hc with h | h
    · exact txtZ_blank _ c h
    · rcases List.mem_cons.1 h with h | h
      · rw [h]; decide
      · exact txtZ_blank _ c h
theorem cut32 : ∀ {a b s t : List UInt8}, (∀ c ∈ a, c ≠ 32) → (∀ c ∈ b, c ≠ 32) → a ++ 32 :: s = b ++ 32 :: t → a = b ∧ s = t
  | [], [], s, t, _, _, h => ⟨rfl, by simpa using h⟩
  | [], y :: b, s, t, _, hb, h => by
    simp at h
    exact absurd h.1.symm (hb y (List.mem_cons_self ..))
  | x :: a, [], s, t, ha, _, h => by
    simp at h
    exact absurd h.1 (ha x (List.mem_cons_self ..))
  | x :: a, y :: b, s, t, ha, hb, h => by
    simp only [List.cons_append, List.cons.injEq] at h
    obtain ⟨h1, h2⟩ := cut32 (fun c hc => ha c (List.mem_cons_of_mem _ hc)) (fun c hc => hb c (List.mem_cons_of_mem _ hc)) h.2
    exact ⟨by rw [h.1, h1], h2⟩
theorem nameL_cons (x : Rat) (a : List Rat) : nameL (x :: a) = txtR x ++ 32 :: nameL a := by
  unfold nameL
  rw [List.flatMap_cons, List.append_assoc]
  rfl
theorem nameL_inj : ∀ {a b : List Rat}, nameL a = nameL b → a = b
  | [], [], _ => rfl
  | [], y :: b, h => by rw [nameL_cons] at h; simp [nameL] at h
  | x :: a, [], h => by rw [nameL_cons] at h; simp [nameL] at h
  | x :: a, y :: b, h => by
    rw [nameL_cons, nameL_cons] at h
    obtain ⟨h1, h2⟩ := cut32 (txtR_blank x) (txtR_blank y) h
    rw [txtR_inj h1, nameL_inj h2]
theorem nameL_snoc {a : List Rat} {k : Nat} {x : Rat} (h : a[k]? = some x) : nameL (a.take (k + 1)) = nameL (a.take k) ++ txtR x ++ [32] := by
  unfold nameL
  rw [List.take_add_one, h, Option.toList_some, List.flatMap_append]
  simp
theorem nameL_len {a : List Rat} {K : Nat} (h : ∀ x ∈ a, Sz K x) : (nameL a).length ≤ a.length * (2 * K + 5) := by
  induction a with
  | nil => simp [nameL]
  | cons x a ih =>
    have h1 := txtR_len (h x (List.mem_cons_self ..))
    have h2 := ih (fun y hy => h y (List.mem_cons_of_mem _ hy))
    rw [nameL_cons, List.length_append, List.length_cons, List.length_cons, Nat.add_mul]
    omega
theorem IsB.below {B b : Nat} {bs : List Value} {w w' : World} (h : IsB B b bs w) (hb : Below w.heap.size w w') : IsB B b bs w' := by
  rcases h with ⟨h1, v, h2, h3, h4⟩ | ⟨h1, v, h2, h3, h4⟩
  · exact .inl ⟨h1, v, by rw [hb.block b (heap_lt h2)]; exact h2, own_below h3 hb, h4⟩
  · exact .inr ⟨h1, v, by rw [hb.block b (heap_lt h2)]; exact h2, own_below h3 hb, h4⟩
set_option maxHeartbeats 4000000 in
set_option maxRecDepth 10000 in
theorem name_g (u : Value) (a : List Rat) (n : Nat) (w : World) (h : QV w u a) (ha : a.length = n) (hn : n ≤ 1000) (hz : ∀ r ∈ a, Sz 100 r) (hT : Tab w) :
    Calls Tryz.prog 49 #[u] w (Ret (.string ⟨(nameL a).toArray⟩) w) := by
  have HNu := Lib.hid (fun (k : Nat) (r : Rat) (hr : a[k]? = some r) W v (hb : Below w.heap.size w W) (hv : RQ W v r) => show Calls Tryz.prog 25 #[v] W (Ret (.string (numS r)) W) from number_g v r 12 W hv ((hz r (List.mem_of_getElem? hr)).mono (by omega)) (by omega) (hT.mono hb))
  have HLen := Lib.hid (fun k => show (nameL (a.take k)).length ≤ 205 * 1000 from by
    have h1 := nameL_len (K := 100) (a := a.take k) (fun x hx => hz x (List.mem_of_mem_take hx))
    have h2 : (a.take k).length ≤ 1000 := by rw [List.length_take]; omega
    have h3 := Nat.mul_le_mul_right 205 h2
    omega)
  have HTx := Lib.hid (fun (k : Nat) (r : Rat) (hr : a[k]? = some r) => show (numS r).size ≤ 1000 from by
    have := txtR_len (hz r (List.mem_of_getElem? hr))
    show (txtR r).length ≤ 1000
    omega)
  obtain ⟨ad, cap, rfl, hc1, hc2⟩ := h.open
  rw [ha] at h hc1 ⊢
  unfold maxLen at hc2
  have HX := Lib.hid h
  have Ha := Lib.hid ha
  clear h ha hz hT
  go_enter Tryz.func49, Tryz.ntmps49
  go_upto_region 2 with (fail)
  have HI0 := Lib.hid (show IsB w.heap.size w.heap.size (Lib.byteCells (nameL (a.take 0))) (w.alloc (.cells #[.pointer none, .slice none 0 0] 138)) from Lib.fresh_isBuilder _ _ w)
  have Hb0 := Lib.hid (below1 w (.cells #[.pointer none, .slice none 0 0] 138))
  generalize w.alloc (.cells #[.pointer none, .slice none 0 0] 138) = w0 at *
  go_wp2_with fail
  go_loopw [8] (fun i wr => ∃ q : Nat, q ≤ n ∧ i = .int .i64 (q : Int) ∧ Hid (Below w.heap.size w wr ∧ IsB w.heap.size w.heap.size (Lib.byteCells (nameL (a.take q))) wr)) (fun i _ => n - (intOf i).toNat)
  case atStart => exact ⟨0, by omega, rfl, Hb0.out, HI0.out⟩
  case round =>
    obtain ⟨q, hq, rfl, hP⟩ := hrel
    obtain ⟨hbx, hI⟩ := hP.out
    have Hbx := Lib.hid hbx
    have HI := Lib.hid hI
    clear hP hI
    have hk0 : (0 : Int) ≤ (q : Int) := Int.natCast_nonneg _
    rcases Nat.lt_or_ge q n with hlt | hge
    · obtain ⟨b1, o1, x1, a1, n1, c1, y1, e1, l1, d1, r, rfl, hr, hR, z0, z1, z2, z3⟩ := HX.out.at hbx hlt
      have hkn : (q : Int) < (n : Int) := by omega
      have hkw : IntKind.i64.wrap ((q : Int) + 1) = (q : Int) + 1 := IntWalk.i64_in _ (by omega)
      have hA := below1 wr (.cells #[.bool x1, .slice a1 n1 c1, .bool y1, .slice e1 l1 d1] 61)
      have HNx := Lib.hid (HNu.out q r hr _ _ (bw_via hbx hA) (hR.mono hA))
      have Hsn := Lib.hid (nameL_snoc hr)
      have hsz := HTx.out q r hr
      have hln := HLen.out q
      have HIa := Lib.hid (HI.out.below hA)
      have Hba := Lib.hid (bw_via hbx hA)
      have HsL := Lib.hid (show (Lib.byteCells (nameL (a.take q))).length = (nameL (a.take q)).length from Lib.byteCells_length _)
      have Hst := Lib.hid (show Lib.strCells (numS r) = Lib.byteCells (txtR r) from by rw [Lib.strCells_eq]; rfl)
      clear hR hr hbx hA
      go_wp2_with (first
        | (go_at_call 25; refine (HNx.out).mono ?_; rintro e5 w5 ⟨rfl, hb5⟩; have HI5 := Lib.hid (HIa.out.below hb5); have Hb5 := Lib.hid (bw_via Hba.out hb5); clear hb5)
        | (go_at_call 85; refine (wstr_g w.heap.size w.heap.size _ (numS r) _ HI5.out (by rw [HsL.out]; omega) Hb5.out.size).mono ?_; rintro e5 w6 ⟨rfl, hB6, hb6⟩; have HI6 := Lib.hid (show IsB w.heap.size w.heap.size (Lib.byteCells (nameL (a.take q) ++ txtR r)) w6 from by rw [Lib.byteCells_append, ← Hst.out]; exact .inr hB6); have Hb6 := Lib.hid (Hb5.out.trans hb6); clear hB6 hb6)
        | (go_at_call 86; refine (wbyte_g w.heap.size w.heap.size _ 32 _ HI6.out (by rw [Lib.byteCells_length, List.length_append]; have h9 : (txtR r).length ≤ 1000 := hsz; omega) Hb6.out.size).mono ?_; rintro e5 w7 ⟨rfl, hB7, hb7⟩; have HI7 := Lib.hid (show IsB w.heap.size w.heap.size (Lib.byteCells (nameL (a.take (q + 1)))) w7 from by rw [Hsn.out, Lib.byteCells_append]; exact .inr hB7); have Hb7 := Lib.hid (Hb6.out.trans hb7); clear hB7 hb7))
      go_roundw
      case rel => exact ⟨q + 1, by omega, by go_num, Hb7.out, HI7.out⟩
      case measure => simp [intOf] <;> omega
    · obtain rfl : q = n := by omega
      have hkn : ¬ (q : Int) < (q : Int) := by omega
      have hall : a.take q = a := List.take_of_length_le (by have := Ha.out; omega)
      rw [hall] at HI
      clear hbx hall
      go_wp2_with (go_at_call 87; refine (Tryz.Builder_String_any w.heap.size w.heap.size (nameL a) _ HI.out Hbx.out.size).mono ?_; rintro e5 w8 ⟨rfl, hb8⟩; have Hb8 := Lib.hid (Hbx.out.trans hb8); clear hb8)
      go_ret
      exact Ret.mk Hb8.out
end Go.Proofs.YtlcmhbkmpkcajaaGreatDoor
namespace Go.Proofs.YtlcmhbkmpkcajaaGreatDoor
open Go.RowKit
set_option maxHeartbeats 4000000 in
set_option maxRecDepth 10000 in
theorem make_g (u v : Value) (N : Int) (D : Nat) (w : World) (h : IntV w u N) (h' : IntV w v (D : Int)) (hD : 0 < D) (hf : Few N.natAbs) (hf' : Few D) :
    Calls Tryz.prog 79 #[u, v] w (RetP (fun x w' => ∃ r0, x = .tuple #[r0, .int .i64 0] ∧ RQ w' r0 (mkRat N D)) w) := by
  obtain ⟨x, a, n, c, rfl, h⟩ := h.open
  obtain ⟨y, e, m, k, rfl, h'⟩ := h'.open
  have hA : Blk (((w.alloc (.cells #[.bool x, .slice a n c] 59)).alloc (.cells #[.bool y, .slice e m k] 59)).alloc (.cells #[.bool false, .slice none 0 0, .bool false, .slice none 0 0] 61)) w.heap.size #[.bool x, .slice a n c] 59 := ((Blk.new w _ _).old _).old _
  have hB : Blk (((w.alloc (.cells #[.bool x, .slice a n c] 59)).alloc (.cells #[.bool y, .slice e m k] 59)).alloc (.cells #[.bool false, .slice none 0 0, .bool false, .slice none 0 0] 61)) (w.heap.size + 1) #[.bool y, .slice e m k] 59 := by
    have h := (Blk.new (w.alloc (.cells #[.bool x, .slice a n c] 59)) #[.bool y, .slice e m k] 59).old (.cells #[.bool false, .slice none 0 0, .bool false, .slice none 0 0] 61)
    simpa using h
  have hR : Blk (((w.alloc (.cells #[.bool x, .slice a n c] 59)).alloc (.cells #[.bool y, .slice e m k] 59)).alloc (.cells #[.bool false, .slice none 0 0, .bool false, .slice none 0 0] 61)) (w.heap.size + 1 + 1) #[.bool false, .slice none 0 0, .bool false, .slice none 0 0] 61 := by
    have h := Blk.new ((w.alloc (.cells #[.bool x, .slice a n c] 59)).alloc (.cells #[.bool y, .slice e m k] 59)) #[.bool false, .slice none 0 0, .bool false, .slice none 0 0] 61
    simpa using h
  have HS := hI (fun w' (hb : Below (((w.alloc (.cells #[.bool x, .slice a n c] 59)).alloc (.cells #[.bool y, .slice e m k] 59)).alloc (.cells #[.bool false, .slice none 0 0, .bool false, .slice none 0 0] 61)).heap.size (((w.alloc (.cells #[.bool x, .slice a n c] 59)).alloc (.cells #[.bool y, .slice e m k] 59)).alloc (.cells #[.bool false, .slice none 0 0, .bool false, .slice none 0 0] 61)) w') => And.intro (blk2v (hA.below hb)).1 (blk2v (hB.below hb)).1)
  have HR := hI hR
  have HK := hI (below3 w (.cells #[.bool x, .slice a n c] 59) (.cells #[.bool y, .slice e m k] 59) (.cells #[.bool false, .slice none 0 0, .bool false, .slice none 0 0] 61))
  have H1 := hI (fun w' (hb : Below w.heap.size w w') => sign_any _ (D : Int) w' (h'.mono hb))
  rw [Int.sign_eq_one_of_pos (show (0 : Int) < (D : Int) by omega)] at H1
  have H2 := hI (fun w' (hb : Below w.heap.size w w') => reduced_g _ _ N D w' (h.mono hb) (h'.mono hb) hD hf hf')
  generalize mkRat N D = Q at *
  clear h h' hA hB hR hf hf' hD
  go_enter Tryz.func79, Tryz.ntmps79
  go_wp2_with (first
    | (go_at_call 34; refine (H1.out _ HK.out).mono ?_; rintro e1 w1 ⟨rfl, hb1⟩; obtain ⟨⟨c0, c1⟩, d0, d1⟩ := HS.out _ hb1)
    | (go_at_call 57; refine (H2.out _ (HK.out.via hb1 HK.out.size)).mono ?_; rintro e2 w2 ⟨v2, rfl, hv, hb2⟩; obtain ⟨x5, a5, n5, c5, x6, a6, n6, c6, rfl, hv⟩ := hv.open; have hr := HR.out.below (bw_via hb1 hb2); obtain ⟨⟨r0, r1, r2, r3⟩, f0, f1, f2, f3⟩ := blk4v hr; obtain ⟨hv6, hb7⟩ := RQ.put4 hv hr; have Hv6 := hI hv6; have Hb7 := hI hb7; have Hbel := hI (put_below4 (b := w.heap.size + 1 + 1) (.bool x5) (.slice a5 n5 c5) (.bool x6) (.slice a6 n6 c6) (HK.out.via (bw_via hb1 hb2) HK.out.size) (by omega)); clear hv6 hb7 hr hv hb2))
  obtain ⟨⟨q0, q1, q2, q3⟩, -⟩ := blk4v Hb7.out
  exact bodyPost_ret (v := .tuple #[.agg #[.bool x5, .slice a5 n5 c5, .bool x6, .slice a6 n6 c6], .int .i64 0]) (by simp [results, Tryz.results79, go_sem, q0, q1, q2, q3]) rfl ⟨_, rfl, ⟨_, rfl, Hv6.out⟩, Hbel.out⟩
set_option maxHeartbeats 2000000 in
theorem num_g (v : Value) (r : Rat) (w : World) (h : RQ w v r) : Calls Tryz.prog 80 #[v] w (RetP (fun x w' => IntV w' x r.num) w) := by
  obtain ⟨q, h, -⟩ := h
  obtain ⟨x, a, n, c, x', a', n', c', rfl, h⟩ := h.open
  have hI := h.parts.1
  have hB : Blk ((w.alloc (.cells #[.bool x, .slice a n c, .bool x', .slice a' n' c'] 61)).alloc (.cells #[.bool x, .slice a n c] 59)) (w.heap.size + 1) #[.bool x, .slice a n c] 59 := by
    have h := Blk.new (w.alloc (.cells #[.bool x, .slice a n c, .bool x', .slice a' n' c'] 61)) #[.bool x, .slice a n c] 59
    simpa using h
  have Hb := Lib.hid (below2 w (.cells #[.bool x, .slice a n c, .bool x', .slice a' n' c'] 61) (.cells #[.bool x, .slice a n c] 59))
  have Hres := Lib.hid (hI.mono Hb.out)
  have HB := Lib.hid hB
  clear hI hB h
  go_enter Tryz.func80, Tryz.ntmps80
  go_wp2_with fail
  obtain ⟨⟨q0, q1⟩, -⟩ := blk2v HB.out
  exact bodyPost_ret (v := .agg #[.bool x, .slice a n c]) (by simp [results, Tryz.results80, go_sem, q0, q1]) rfl ⟨_, rfl, Hres.out, Hb.out⟩
end Go.Proofs.YtlcmhbkmpkcajaaGreatDoor
