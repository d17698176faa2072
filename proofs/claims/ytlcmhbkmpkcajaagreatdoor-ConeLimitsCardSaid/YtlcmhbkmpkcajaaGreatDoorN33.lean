/-
  Parts of the proof: Qix, Qam, Qdm.
-/
import Derived.Maps.OwnOps
import Derived.Maps.OwnSet
import Derived.Maps.Views
import Derived.Test.YtlcmhbkmpkcajaaGreatDoorN32
namespace Go.Proofs.YtlcmhbkmpkcajaaGreatDoor
open Go.RowKit
set_option maxHeartbeats 2000000 in
theorem addp_g (lv rv : Value) (X : Nat) (l row : List Rat) (n : Nat) (w : World) (hn : n ≤ 8) (h : QV w lv l) (hr : QV w rv row) (fl : FitV n l) (fr : FitV n row) (hX : w.cell? ⟨X, 0, none⟩ = some rv) :
    Calls Tryz.prog 41 #[lv, .pointer (some ⟨X, 0, none⟩)] w (Ret (.bool (decide (dotV row l ≠ 0))) w) := by
  have HDt := hI (dot_g rv lv row l n 100 w hr h fr.1 fl.1 fr.2 fl.2 (by have := Nat.mul_le_mul_right 201 (Nat.succ_le_succ hn); omega))
  have HSg := hI (fun W v r (hv : RQ W v r) => show Calls Tryz.prog 23 #[v] W (Ret (.int .i64 r.num.sign) W) from by
    obtain ⟨q, h, -⟩ := hv
    exact rsign_any v _ q W h)
  have hfin : ((dotV row l).num.sign != 0) = decide (dotV row l ≠ 0) := by
    rw [Bool.eq_iff_iff]
    simp [Int.sign_eq_zero_iff_zero, Rat.num_eq_zero]
  obtain ⟨ra, rc, rfl, -, -⟩ := hr.open
  generalize dotV row l = dv at *
  generalize decide (dv ≠ 0) = res at *
  clear h hr fl fr
  go_enter Tryz.func41, Tryz.ntmps41
  go_wp2_with (first
    | (go_at_call 22; refine (HDt.out).mono ?_; rintro e5 w1 ⟨v1, rfl, hv1, hb1⟩; have Hb1 := hI hb1; have HSx := hI (HSg.out _ _ _ hv1); clear hv1 hb1)
    | (go_at_call 23; refine (HSx.out).mono ?_; rintro e5 w2 ⟨rfl, hb2⟩; have Hb2 := hI (bw_via Hb1.out hb2); clear hb2))
  go_ret
  first | exact Ret.mk Hb2.out | exact ⟨ret_bool hfin, Hb2.out⟩
def ixV (pb : List Rat → Bool) (vs : List (List Rat)) : Int := match vs.findIdx? pb with | some k => (k : Int) | none => -1
theorem ixV_some {pb : List Rat → Bool} {vs : List (List Rat)} {k : Nat} {x : List Rat} (h : ∀ y ∈ vs.take k, pb y = false) (hk : vs[k]? = some x) (hx : pb x = true) : ixV pb vs = (k : Int) := by
  unfold ixV
  have : vs.findIdx? pb = some k := by
    rw [List.findIdx?_eq_some_iff_getElem]
    obtain ⟨hi, rfl⟩ := List.getElem?_eq_some_iff.1 hk
    refine ⟨hi, hx, fun j hj => ?_⟩
    have := h vs[j] (List.mem_iff_getElem.2 ⟨j, by rw [List.length_take]; omega, by rw [List.getElem_take]⟩)
    simpa using this
  rw [this]
theorem ixV_none {pb : List Rat → Bool} {vs : List (List Rat)} (h : ∀ y ∈ vs, pb y = false) : ixV pb vs = -1 := by
  unfold ixV
  have : vs.findIdx? pb = none := by
    rw [List.findIdx?_eq_none_iff]
    exact h
  rw [this]
set_option maxHeartbeats 2000000 in
theorem vix_g (g : Nat) (X : Addr) (eg : ∀ args w, (callFunc g args).run Tryz.prog w = .ok (.enter g args) w) (vs : List (List Rat)) (pb : List Rat → Bool) (v : Value) (w : World) (hS : Vs w v vs) (hlen : vs.length < 1000000)
    (hp : ∀ (k : Nat) (x : List Rat), vs[k]? = some x → ∀ w' p, Below w.heap.size w w' → QV w' p x → Calls Tryz.prog g #[p, .pointer (some X)] w' (Ret (.bool (pb x)) w')) :
    Calls Tryz.prog 40 #[v, .func (.func g) #[] #[.pointer (some X)]] w (Ret (.int .i64 (ixV pb vs)) w) := by
  obtain ⟨a, cp, rfl, -, -⟩ := hS.open
  have HS := hI hS
  have Hp := hI hp
  obtain ⟨n, hn⟩ : ∃ n, vs.length = n := ⟨_, rfl⟩
  rw [hn] at HS hlen
  have Hn := hI hn
  have HI := hI (fun k x (h : ∀ y ∈ vs.take k, pb y = false) (hk : vs[k]? = some x) (hx : pb x = true) => ixV_some h hk hx)
  have HN := hI (fun (h : ∀ y ∈ vs, pb y = false) => ixV_none h)
  rw [hn]
  generalize ixV pb vs = res at *
  clear hp hS hn
  go_enter Tryz.func40, Tryz.ntmps40
  go_wp2
  go_loopw [8] (fun i wr => ∃ k : Nat, k ≤ n ∧ i = .int .i64 (k : Int) ∧ Below w.heap.size w wr ∧ Hid (∀ y ∈ vs.take k, pb y = false)) (fun i _ => n - (intOf i).toNat)
  case atStart => exact ⟨0, Nat.zero_le _, rfl, Below.refl _ _, by intro l hl; simp at hl⟩
  case round =>
    obtain ⟨k, hk, rfl, hbw, hpre⟩ := hrel
    rcases Nat.lt_or_ge k n with hlt | hge
    · obtain ⟨b, off, p, x, rfl, hx, c0, hq⟩ := HS.out.at hbw hlt
      have hkn : (k : Int) < (n : Int) := by omega
      have hk0 : (0 : Int) ≤ (k : Int) := Int.natCast_nonneg _
      have hkw : IntKind.i64.wrap ((k : Int) + 1) = (k : Int) + 1 := IntWalk.i64_in _ (by omega)
      have Hc := hI (Hp.out k x hx wr p hbw hq)
      have Hx := hI hx
      have Hbw := hI hbw
      clear hx hq hbw
      cases hpb : pb x with
      | false =>
        rw [hpb] at Hc
        have Hpb := hI hpb
        clear hpb
        go_wp2_with (go_at_fn g; refine (Hc.out).mono ?_; rintro e w' ⟨rfl, hb'⟩)
        go_roundw
        case rel => exact ⟨k + 1, by omega, by go_num, Hbw.out.via hb' Hbw.out.size, take_succ_all hpre.out Hx.out Hpb.out⟩
        case measure => simp [intOf] <;> omega
      | true =>
        rw [hpb] at Hc
        have Hpb := hI hpb
        clear hpb
        go_wp2_with (go_at_fn g; refine (Hc.out).mono ?_; rintro e w' ⟨rfl, hb'⟩)
        go_ret
        exact ⟨ret_int (HI.out k x hpre.out Hx.out Hpb.out).symm, Hbw.out.via hb' Hbw.out.size⟩
    · obtain rfl : k = n := by omega
      have hkn : ¬ (k : Int) < (k : Int) := by omega
      have Hbw := hI hbw
      clear hbw
      go_wp2_with fail
      go_ret
      exact ⟨ret_int (HN.out (take_all hpre.out (by rw [Hn.out]; exact Nat.le_refl _))).symm, Hbw.out⟩
end Go.Proofs.YtlcmhbkmpkcajaaGreatDoor
namespace Go.Proofs.YtlcmhbkmpkcajaaGreatDoor
open Go.RowKit
def ORv (M : Nat) (wq w : World) (v : Value) (rs : List (List Rat × Nat)) : Prop := ∃ ps : List Value, ps.length = rs.length ∧ w.ownsRow M 89 17 v rs.length (List.zipWith (fun p (r : List Rat × Nat) => rayC p r.2) ps rs).flatten ∧ ∀ (k : Nat) (p : Value) (r : List Rat × Nat), ps[k]? = some p → rs[k]? = some r → QV wq p r.1
theorem ORv.nil (M : Nat) (wq w : World) : ORv M wq w (.slice none 0 0) [] := ⟨[], rfl, World.ownsRow_nil _ _ _ _, fun k p a hp => by simp at hp⟩
theorem ORv.or {M : Nat} {wq w : World} {v : Value} {rs : List (List Rat × Nat)} (h : ORv M wq w v rs) (hb : Below wq.heap.size wq w) : OR M w v rs := by
  obtain ⟨ps, hl, ho, hq⟩ := h
  exact ⟨ps, hl, ho, fun k p r hp hr => (hq k p r hp hr).mono hb⟩
theorem ORv.below {M : Nat} {wq w w' : World} {v : Value} {rs : List (List Rat × Nat)} (h : ORv M wq w v rs) (hb : Below w.heap.size w w') : ORv M wq w' v rs := by
  obtain ⟨ps, hl, ho, hq⟩ := h
  exact ⟨ps, hl, own_below ho hb, hq⟩
theorem ORv.keep {ok : TypeId → Prop} {M : Nat} {wq w w' : World} {v : Value} {rs : List (List Rat × Nat)} (h : ORv M wq w v rs) (hk : Keep ok w w') (h3 : ok 89) : ORv M wq w' v rs := by
  obtain ⟨ps, hl, ho, hq⟩ := h
  exact ⟨ps, hl, own_keep ho hk h3, hq⟩
theorem ORv.other {M : Nat} {wq w w' : World} {b : Option Nat} {v : Value} {rs : List (List Rat × Nat)} (h : ORv M wq w v rs) (hg : w.grownBy w' b) (hne : v.ownBlock = none ∨ v.ownBlock ≠ b) : ORv M wq w' v rs := by
  obtain ⟨ps, hl, ho, hq⟩ := h
  exact ⟨ps, hl, ho.kept hg hne, hq⟩
theorem ORv.open {M : Nat} {wq w : World} {v : Value} {rs : List (List Rat × Nat)} (h : ORv M wq w v rs) : ∃ a cap, v = .slice a rs.length cap ∧ rs.length ≤ cap ∧ cap ≤ maxLen := by
  obtain ⟨ps, hl, ho, hq⟩ := h
  exact own_open ho
theorem ORv.lt {M b : Nat} {wq w : World} {v : Value} {rs : List (List Rat × Nat)} (h : ORv M wq w v rs) (hb : v.ownBlock = some b) : M ≤ b ∧ b < w.heap.size := by
  obtain ⟨ps, hl, ho, hq⟩ := h
  exact ho.lt b hb
theorem ORv.own {M : Nat} {wq w : World} {v : Value} {rs : List (List Rat × Nat)} (h : ORv M wq w v rs) : ∃ xs, w.ownsRow M 89 17 v rs.length xs ∧ ∀ {w' : World} {v' p : Value} {r : List Rat × Nat}, QV wq p r.1 → w'.ownsRow M 89 17 v' (rs.length + 1) (xs ++ rayC p r.2) → ORv M wq w' v' (rs ++ [r]) := by
  obtain ⟨ps, hl, ho, hq⟩ := h
  refine ⟨_, ho, fun {w' v' p r} hp ho' => ⟨ps ++ [p], by simp [hl], ?_, fun k q b hq1 hv => ?_⟩⟩
  · rw [List.length_append, List.zipWith_append hl, List.flatten_append]
    simpa using ho'
  · rcases Nat.lt_trichotomy k ps.length with hlt | rfl | hgt
    · rw [List.getElem?_append_left hlt] at hq1
      rw [List.getElem?_append_left (by omega)] at hv
      exact hq k q b hq1 hv
    · rw [List.getElem?_append_right (Nat.le_refl _), Nat.sub_self] at hq1
      rw [List.getElem?_append_right (by omega), hl, Nat.sub_self] at hv
      cases hq1
      cases hv
      exact hp
    · have := lt_of_get hq1
      simp at this
      omega
def VO (M : Nat) (w : World) (v : Value) (l : List Rat) : Prop := ∃ rows : List (List Value), rows.length = l.length ∧ w.ownsRow M 61 4 v l.length rows.flatten ∧ (∀ row ∈ rows, row.length = 4) ∧ ∀ (k : Nat) (row : List Value) (r : Rat), rows[k]? = some row → l[k]? = some r → RQ w (.agg row.toArray) r
theorem VO.nil (M : Nat) (w : World) : VO M w (.slice none 0 0) [] := ⟨[], rfl, World.ownsRow_nil _ _ _ _, fun r hr => by simp at hr, fun k p a hp => by simp at hp⟩
theorem VO.qv {M : Nat} {w : World} {v : Value} {l : List Rat} (h : VO M w v l) : QV w v l := by
  obtain ⟨rows, hl, ho, h4, hq⟩ := h
  exact ⟨rows, hl, Sl.own ho h4 (by decide), AT.own ho, hq⟩
theorem VO.keep {ok : TypeId → Prop} {M : Nat} {w w' : World} {v : Value} {l : List Rat} (h : VO M w v l) (hk : Keep ok w w') (h1 : ok 110) (h2 : ok 61) : VO M w' v l := by
  obtain ⟨rows, hl, ho, h4, hq⟩ := h
  exact ⟨rows, hl, own_keep ho hk h2, h4, fun k p a hp hv => (hq k p a hp hv).keep hk h1⟩
theorem VO.below {M : Nat} {w w' : World} {v : Value} {l : List Rat} (h : VO M w v l) (hb : Below w.heap.size w w') : VO M w' v l := h.keep (ok := fun _ => True) (.below hb) trivial trivial
theorem VO.open {M : Nat} {w : World} {v : Value} {l : List Rat} (h : VO M w v l) : ∃ a cap, v = .slice a l.length cap ∧ l.length ≤ cap ∧ cap ≤ maxLen := by
  obtain ⟨rows, hl, ho, hq⟩ := h
  exact own_open ho
theorem VO.own {M : Nat} {w : World} {v : Value} {l : List Rat} (h : VO M w v l) : ∃ xs, w.ownsRow M 61 4 v l.length xs ∧ ∀ {w' : World} {v' : Value} {r : Rat} {row : List Value}, row.length = 4 → RQ w (.agg row.toArray) r → w.grownBy w' v.ownBlock → w'.ownsRow M 61 4 v' (l.length + 1) (xs ++ row) → VO M w' v' (l ++ [r]) := by
  obtain ⟨rows, hl, ho, h4, hq⟩ := h
  refine ⟨_, ho, fun {w' v' r row} hr4 hr hg ho' => ⟨rows ++ [row], by simp [hl], by rw [List.length_append, List.flatten_append]; simpa using ho', fun x hx => ?_, fun k q b hq1 hv => ?_⟩⟩
  · rcases List.mem_append.1 hx with h' | h'
    · exact h4 x h'
    · rw [List.mem_singleton] at h'
      rw [h']
      exact hr4
  · have hk : Keep (fun T => T ≠ 61) w w' := .grown ho (fun h => h rfl) hg
    rcases Nat.lt_trichotomy k rows.length with hlt | rfl | hgt
    · rw [List.getElem?_append_left hlt] at hq1
      rw [List.getElem?_append_left (by omega)] at hv
      exact (hq k q b hq1 hv).keep hk (by decide)
    · rw [List.getElem?_append_right (Nat.le_refl _), Nat.sub_self] at hq1
      rw [List.getElem?_append_right (by omega), hl, Nat.sub_self] at hv
      cases hq1
      cases hv
      exact hr.keep hk (by decide)
    · have := lt_of_get hq1
      simp at this
      omega
theorem behind_step {row : Vec} {rs : List (Vec × Nat)} {k : Nat} {r : Vec × Nat} (h : rs[k]? = some r) : behindB row (rs.take (k + 1)) = if 0 < dotV row r.1 then behindB row (rs.take k) ++ [r] else behindB row (rs.take k) := by
  unfold behindB
  rw [List.take_add_one, h, Option.toList_some, List.filter_append, List.filter_cons, List.filter_nil]
  split <;> simp_all
theorem kept_step {row : Vec} {n : Nat} {rs : List (Vec × Nat)} {k : Nat} {r : Vec × Nat} (h : rs[k]? = some r) : keptB row n (rs.take (k + 1)) = if 0 < dotV row r.1 then keptB row n (rs.take k) else keptB row n (rs.take k) ++ [if dotV row r.1 = 0 then (r.1, r.2 ||| 2 ^ n) else r] := by
  unfold keptB
  rw [List.take_add_one, h, Option.toList_some, List.filter_append, List.filter_cons, List.filter_nil, List.map_append]
  by_cases hp : 0 < dotV row r.1
  · rw [if_neg (by simpa using hp), if_pos hp]
    simp
  · rw [if_pos (by simpa using hp), if_neg hp]
    rfl
theorem behind_len (row : Vec) (rs : List (Vec × Nat)) (k : Nat) : (behindB row (rs.take k)).length ≤ k := Nat.le_trans (List.length_filter_le _ _) (List.length_take_le _ _)
theorem kept_len (row : Vec) (n : Nat) (rs : List (Vec × Nat)) (k : Nat) : (keptB row n (rs.take k)).length ≤ k := by
  unfold keptB
  rw [List.length_map]
  exact Nat.le_trans (List.length_filter_le _ _) (List.length_take_le _ _)
def prodB (row : Vec) (rs : List (Vec × Nat)) : List Rat := (behindB row rs).map fun r => dotV row r.1
theorem prod_step {row : Vec} {rs : List (Vec × Nat)} {k : Nat} {r : Vec × Nat} (h : rs[k]? = some r) : prodB row (rs.take (k + 1)) = if 0 < dotV row r.1 then prodB row (rs.take k) ++ [dotV row r.1] else prodB row (rs.take k) := by
  unfold prodB
  rw [behind_step h]
  split
  · rw [List.map_append]; rfl
  · rfl
def madeP (row : Vec) (n : Nat) (rays : List (Vec × Nat)) (i : Nat) : List (Vec × Nat) := ((behindB row rays).take i).flatMap fun p => (keptB row n rays).filterMap (madeOf row n rays p)
def madeQ (row : Vec) (n : Nat) (rays : List (Vec × Nat)) (p : Vec × Nat) (j : Nat) : List (Vec × Nat) := ((keptB row n rays).take j).filterMap (madeOf row n rays p)
theorem madeP_all (row : Vec) (n : Nat) (rays : List (Vec × Nat)) : madeP row n rays (behindB row rays).length = madeB row n rays := by
  unfold madeP madeB
  rw [List.take_length]
theorem madeP_step {row : Vec} {n : Nat} {rays : List (Vec × Nat)} {i : Nat} {p : Vec × Nat} (h : (behindB row rays)[i]? = some p) : madeP row n rays (i + 1) = madeP row n rays i ++ madeQ row n rays p (keptB row n rays).length := by
  unfold madeP madeQ
  rw [List.take_add_one, h, Option.toList_some, List.flatMap_append, List.take_length]
  simp
theorem madeQ_step {row : Vec} {n : Nat} {rays : List (Vec × Nat)} {p q : Vec × Nat} {j : Nat} (h : (keptB row n rays)[j]? = some q) : madeQ row n rays p (j + 1) = madeQ row n rays p j ++ (madeOf row n rays p q).toList := by
  unfold madeQ
  rw [List.take_add_one, h, Option.toList_some, List.filterMap_append]
  cases hm : madeOf row n rays p q <;> simp [hm]
theorem madeQ_len (row : Vec) (n : Nat) (rays : List (Vec × Nat)) (p : Vec × Nat) (j : Nat) : (madeQ row n rays p j).length ≤ j := Nat.le_trans (List.length_filterMap_le _ _) (List.length_take_le _ _)
theorem madeP_len (row : Vec) (n : Nat) (rays : List (Vec × Nat)) : ∀ i, i ≤ (behindB row rays).length → (madeP row n rays i).length ≤ i * (keptB row n rays).length
  | 0, _ => by simp [madeP]
  | i + 1, h => by
    obtain ⟨p, hp⟩ : ∃ p, (behindB row rays)[i]? = some p := ⟨_, List.getElem?_eq_getElem (by omega)⟩
    have h1 := madeP_len row n rays i (by omega)
    have h2 := madeQ_len row n rays p (keptB row n rays).length
    rw [madeP_step hp, List.length_append, Nat.add_mul]
    omega
theorem kept_mem {row : Vec} {n d : Nat} {rs : List (Vec × Nat)} (hn : n < 64) (h : ∀ r ∈ rs, FitV d r.1 ∧ r.2 < 18446744073709551616) : ∀ r ∈ keptB row n rs, FitV d r.1 ∧ r.2 < 18446744073709551616 := by
  intro r hr
  unfold keptB at hr
  obtain ⟨x, hx, rfl⟩ := List.mem_map.1 hr
  have h1 := h x (List.mem_filter.1 hx).1
  split
  · exact ⟨h1.1, or_bit64 h1.2 hn⟩
  · exact h1
theorem behind_mem {row : Vec} {rs : List (Vec × Nat)} {r : Vec × Nat} (h : r ∈ behindB row rs) : r ∈ rs ∧ 0 < dotV row r.1 := by
  have := List.mem_filter.1 h
  exact ⟨this.1, by simpa using this.2⟩
structure AS (w3 wr : World) (vk vb vp : Value) (K Bh : List (Vec × Nat)) (Pr : List Rat) : Prop where
  below : Below w3.heap.size w3 wr
  k : ORv w3.heap.size w3 wr vk K
  b : ORv w3.heap.size w3 wr vb Bh
  p : VO w3.heap.size wr vp Pr
  sep : ∀ b, vk.ownBlock = some b → vb.ownBlock ≠ some b
theorem AS.mono {w3 wr w' : World} {vk vb vp : Value} {K Bh : List (Vec × Nat)} {Pr : List Rat} (h : AS w3 wr vk vb vp K Bh Pr) (hb : Below wr.heap.size wr w') : AS w3 w' vk vb vp K Bh Pr :=
  ⟨bw_via h.below hb, h.k.below hb, h.b.below hb, h.p.below hb, h.sep⟩
theorem AS.cell {w3 wr : World} {vk vb vp u : Value} {K Bh : List (Vec × Nat)} {Pr : List Rat} {b i : Nat} {cs : Array Value} (h : AS w3 wr vk vb vp K Bh Pr) (hB : Blk wr b cs 89) (hw : w3.heap.size ≤ b) (h1 : vk.ownBlock ≠ some b) (h2 : vb.ownBlock ≠ some b) : AS w3 (wr.setCell ⟨b, i, none⟩ u) vk vb vp K Bh Pr := by
  have hk := Keep.set (ok := fun T => T ≠ 89) hB (fun k => k rfl) i u
  obtain ⟨ps, hl, ho, hq⟩ := h.k
  obtain ⟨ps', hl', ho', hq'⟩ := h.b
  exact ⟨h.below.setCell (p := ⟨b, i, none⟩) hw u, ⟨ps, hl, own_off ho h1, hq⟩, ⟨ps', hl', own_off ho' h2, hq'⟩, h.p.keep hk (by decide) (by decide), h.sep⟩
theorem AS.kept {w3 wr : World} {vk vb vp : Value} {K Bh : List (Vec × Nat)} {Pr : List Rat} (h : AS w3 wr vk vb vp K Bh Pr) : ∃ xs, wr.ownsRow w3.heap.size 89 17 vk K.length xs ∧
    ∀ {w' : World} {p : Value} {r : List Rat × Nat} {g m c : Nat}, QV w3 p r.1 → w'.ownsRow w3.heap.size 89 17 (.slice (some ⟨g, 0, none⟩) m c) (K.length + 1) (xs ++ rayC p r.2) → wr.grownBy w' vk.ownBlock → (vk.ownBlock = some g ∨ g = wr.heap.size) →
      AS w3 w' (.slice (some ⟨g, 0, none⟩) m c) vb vp (K ++ [r]) Bh Pr ∧ Keep (fun T => T ≠ 89) wr w' := by
  obtain ⟨xs, ho, hn⟩ := h.k.own
  refine ⟨xs, ho, fun {w' p r g m c} hp ho' hg hgo => ?_⟩
  have hk : Keep (fun T => T ≠ 89) wr w' := Keep.grown ho (fun k => k rfl) hg
  refine ⟨⟨Below.grown h.below hg h.below.size (fun q hq => (ho.lt q hq).1), hn hp ho', h.b.other hg ?_, h.p.keep hk (by decide) (by decide), fun b hb hvb => ?_⟩, hk⟩
  · cases hv : vk.ownBlock with
    | none =>
      cases hv2 : vb.ownBlock with
      | none => exact .inl rfl
      | some q => exact .inr (by simp)
    | some q => exact .inr (h.sep q hv)
  · obtain rfl : g = b := Option.some.inj hb
    rcases hgo with h1 | h1
    · exact h.sep g h1 hvb
    · have := (h.b.lt hvb).2
      omega
theorem AS.behind {w3 wr : World} {vk vb vp : Value} {K Bh : List (Vec × Nat)} {Pr : List Rat} (h : AS w3 wr vk vb vp K Bh Pr) : ∃ xs, wr.ownsRow w3.heap.size 89 17 vb Bh.length xs ∧
    ∀ {w' : World} {p : Value} {r : List Rat × Nat} {g m c : Nat}, QV w3 p r.1 → w'.ownsRow w3.heap.size 89 17 (.slice (some ⟨g, 0, none⟩) m c) (Bh.length + 1) (xs ++ rayC p r.2) → wr.grownBy w' vb.ownBlock → (vb.ownBlock = some g ∨ g = wr.heap.size) →
      AS w3 w' vk (.slice (some ⟨g, 0, none⟩) m c) vp K (Bh ++ [r]) Pr ∧ Keep (fun T => T ≠ 89) wr w' := by
  obtain ⟨xs, ho, hn⟩ := h.b.own
  refine ⟨xs, ho, fun {w' p r g m c} hp ho' hg hgo => ?_⟩
  have hk : Keep (fun T => T ≠ 89) wr w' := Keep.grown ho (fun k => k rfl) hg
  refine ⟨⟨Below.grown h.below hg h.below.size (fun q hq => (ho.lt q hq).1), h.k.other hg ?_, hn hp ho', h.p.keep hk (by decide) (by decide), fun b hb hvb => ?_⟩, hk⟩
  · cases hv : vk.ownBlock with
    | none => exact .inl rfl
    | some q => exact .inr (fun e => h.sep q hv e.symm)
  · obtain rfl : g = b := Option.some.inj hvb
    rcases hgo with h1 | h1
    · exact h.sep g hb h1
    · have := (h.k.lt hb).2
      omega
theorem AS.prod {w3 wr : World} {vk vb vp : Value} {K Bh : List (Vec × Nat)} {Pr : List Rat} (h : AS w3 wr vk vb vp K Bh Pr) : ∃ xs, wr.ownsRow w3.heap.size 61 4 vp Pr.length xs ∧
    ∀ {w' : World} {r : Rat} {row : List Value} {v' : Value}, row.length = 4 → RQ wr (.agg row.toArray) r → w'.ownsRow w3.heap.size 61 4 v' (Pr.length + 1) (xs ++ row) → wr.grownBy w' vp.ownBlock → AS w3 w' vk vb v' K Bh (Pr ++ [r]) := by
  obtain ⟨xs, ho, hn⟩ := h.p.own
  refine ⟨xs, ho, fun {w' r row v'} h4 hr ho' hg => ?_⟩
  have hk : Keep (fun T => T ≠ 61) wr w' := Keep.grown ho (fun k => k rfl) hg
  exact ⟨Below.grown h.below hg h.below.size (fun q hq => (ho.lt q hq).1), h.k.keep hk (by decide), h.b.keep hk (by decide), hn h4 hr hg ho', h.sep⟩
theorem OR.join {M M' : Nat} {w : World} {v u : Value} {rs us : List (List Rat × Nat)} (h : OR M w v rs) (h' : OR M' w u us) : ∃ xs rows, w.ownsRow M 89 17 v rs.length xs ∧ Sl w 17 u rows ∧ (∀ r ∈ rows, r.length = 17) ∧ (∀ r ∈ rows, ∀ x ∈ r, x.oneCell' = true) ∧
    (∀ (w' : World) (v' : Value), w'.ownsRow M 89 17 v' (rs.length + us.length) (xs ++ rows.flatten) → w.grownBy w' v.ownBlock → OR M w' v' (rs ++ us)) := by
  obtain ⟨ps, hl, ho, hq⟩ := h
  obtain ⟨ps', hl', ho', hq'⟩ := h'
  refine ⟨_, _, ho, Sl.own ho' zip_rayC_len (by decide), zip_rayC_len, ?_, fun w' v' hw hg => ?_⟩
  · intro r hr x hx
    obtain ⟨i, hi⟩ := List.getElem?_of_mem hr
    rw [List.getElem?_zipWith] at hi
    cases hp : ps'[i]? with
    | none => simp [hp] at hi
    | some p =>
      cases hy : us[i]? with
      | none => simp [hp, hy] at hi
      | some y =>
        simp [hp, hy] at hi
        subst hi
        obtain ⟨a, c, rfl, -, -⟩ := (hq' i p y hp hy).open
        exact rayC_one _ _ _ _ x hx
  · have hk : Keep (fun T => T ≠ 89) w w' := Keep.grown ho (fun k => k rfl) hg
    refine ⟨ps ++ ps', by simp [hl, hl'], by rw [List.length_append, List.zipWith_append hl, List.flatten_append]; exact hw, fun k p r hp hr => ?_⟩
    rcases Nat.lt_or_ge k ps.length with hlt | hge
    · rw [List.getElem?_append_left hlt] at hp
      rw [List.getElem?_append_left (by omega)] at hr
      exact (hq k p r hp hr).keep hk (by decide) (by decide)
    · rw [List.getElem?_append_right hge] at hp
      rw [List.getElem?_append_right (by omega), ← hl] at hr
      exact (hq' _ p r hp hr).keep hk (by decide) (by decide)
theorem wpList_load_mid_g {P : Program} {ops : Array Oper} {rest : List Oper} {op : Oper} {a : Act} {w : World} {Q : Exit → Act → World → Prop} (hw : Region.wanted op (yielded ops a.tmps) = true) (ty : TypeId) (x : Operand) (ho : op.op = .load ty x)
    (b o : Nat) (hx : a.eval x = .pointer (some ⟨b, o, none⟩)) (cs : List Value) (d : TypeDesc) (hc : w.rangeAt b o cs)
    (hu : P.underlying ty = some d) (hd : d.isRow = true) (hi : (P.info? ty).map (·.size) = some cs.length)
    (h : wpList P ops Q rest (a.put op.dst (.agg cs.toArray)) w) : wpList P ops Q (op :: rest) a w :=
  wpList_step fun K hK => by
    rw [if_pos hw]
    exact wp_load_mid ty x ho b o hx cs d hc hu hd hi (hK _ _ h)
theorem tC_set0L (a b : Nat) : (tC a).toList.toArray.setIfInBounds 0 (.int .u64 (b : Int)) = (tC b).toList.toArray := by
  rw [List.setIfInBounds_toArray]
  rfl
theorem built_ray (a : Option Addr) (n c t : Nat) : Tryz.prog.built 89 [(0, .slice a n c), (1, .agg (tC t))] = some (rayC (.slice a n c) t).toArray := by kernel_rfl
theorem wpList_bdRay {ops : Array Oper} {rest : List Oper} {o : Oper} {act : Act} {w : World} {Q : Exit → Act → World → Prop} (hg : o.guard = none) (x y : Operand) (ho : o.op = .build 89 #[(0, x), (1, y)]) (a : Option Addr) (n c t : Nat) (hx : act.eval x = .slice a n c) (hy : act.eval y = .agg (tC t))
    (h : wpList Tryz.prog ops Q rest (act.put o.dst (.agg (rayC (.slice a n c) t).toArray)) w) : wpList Tryz.prog ops Q (o :: rest) act w := by
  have e : Tryz.prog.built 89 ((#[(0, x), (1, y)] : Array (Nat × Operand)).map fun (i, x) => (i, act.eval x)).toList = some (rayC (.slice a n c) t).toArray := by
    have h1 : ((#[(0, x), (1, y)] : Array (Nat × Operand)).map fun (i, x) => (i, act.eval x)).toList = [(0, act.eval x), (1, act.eval y)] := by simp
    rw [h1, hx, hy]
    exact built_ray a n c t
  exact wpList_build hg _ _ ho (by rw [e]; rfl) (by rw [e]; exact h)
end Go.Proofs.YtlcmhbkmpkcajaaGreatDoor
namespace Go.Proofs.YtlcmhbkmpkcajaaGreatDoor
open Go.RowKit
def TVo (M : Nat) (w : World) (v : Value) (vs : List (List Rat)) : Prop := ∃ ps : List Value, ps.length = vs.length ∧ w.ownsRow M 23 1 v vs.length ps ∧ ∀ (k : Nat) (p : Value) (a : List Rat), ps[k]? = some p → vs[k]? = some a → TV w p a
theorem TVo.nil (M : Nat) (w : World) : TVo M w (.slice none 0 0) [] := ⟨[], rfl, World.ownsRow_nil _ _ _ _, fun k p a hp => by simp at hp⟩
theorem TVo.tvs {M : Nat} {w : World} {v : Value} {vs : List (List Rat)} (h : TVo M w v vs) : TVs w v vs := by
  obtain ⟨ps, hl, ho, hq⟩ := h
  exact ⟨ps, hl, Sl.own1 ho, AT.own ho, hq⟩
theorem TVo.keep {ok : TypeId → Prop} {M : Nat} {w w' : World} {v : Value} {vs : List (List Rat)} (h : TVo M w v vs) (hk : Keep ok w w') (h1 : ok 24) (h2 : ok 23) : TVo M w' v vs := by
  obtain ⟨ps, hl, ho, hq⟩ := h
  exact ⟨ps, hl, own_keep ho hk h2, fun k p a hp hv => (hq k p a hp hv).keep hk h1⟩
theorem TVo.below {M : Nat} {w w' : World} {v : Value} {vs : List (List Rat)} (h : TVo M w v vs) (hb : Below w.heap.size w w') : TVo M w' v vs := h.keep (ok := fun _ => True) (.below hb) trivial trivial
theorem TVo.open {M : Nat} {w : World} {v : Value} {vs : List (List Rat)} (h : TVo M w v vs) : ∃ a cap, v = .slice a vs.length cap ∧ vs.length ≤ cap ∧ cap ≤ maxLen := by
  obtain ⟨ps, hl, ho, hq⟩ := h
  exact own_open ho
theorem TVo.lt {M b : Nat} {w : World} {v : Value} {vs : List (List Rat)} (h : TVo M w v vs) (hb : v.ownBlock = some b) : M ≤ b ∧ b < w.heap.size := by
  obtain ⟨ps, hl, ho, hq⟩ := h
  exact ho.lt b hb
theorem TVo.other {M : Nat} {w w' : World} {b : Option Nat} {e sz n : Nat} {u v : Value} {xs : List Value} {vs : List (List Rat)} (h : TVo M w v vs) (hown : w.ownsRow M e sz u n xs) (he : e = 23) (hg : w.grownBy w' u.ownBlock) (hb : u.ownBlock = b) (hne : v.ownBlock = none ∨ v.ownBlock ≠ b) : TVo M w' v vs := by
  obtain ⟨ps, hl, ho, hq⟩ := h
  subst hb
  subst he
  exact ⟨ps, hl, ho.kept hg hne, fun k p a hp hv => (hq k p a hp hv).keep (Keep.grown (ok := fun T => T ≠ 23) hown (fun k => k rfl) hg) (by decide)⟩
theorem TVo.own {M : Nat} {w : World} {v : Value} {vs : List (List Rat)} (h : TVo M w v vs) : ∃ xs, w.ownsRow M 23 1 v vs.length xs ∧ ∀ {w' : World} {v' p : Value} {a : List Rat}, TV w p a → w.grownBy w' v.ownBlock → w'.ownsRow M 23 1 v' (vs.length + 1) (xs ++ [p]) → TVo M w' v' (vs ++ [a]) := by
  obtain ⟨ps, hl, ho, hq⟩ := h
  refine ⟨ps, ho, fun {w' v' p a} hp hg ho' => ⟨ps ++ [p], by simp [hl], by rw [List.length_append]; exact ho', fun k q b hq1 hv => ?_⟩⟩
  have hk : Keep (fun T => T ≠ 23) w w' := .grown ho (fun h => h rfl) hg
  rcases Nat.lt_trichotomy k ps.length with hlt | rfl | hgt
  · rw [List.getElem?_append_left hlt] at hq1
    rw [List.getElem?_append_left (by omega)] at hv
    exact (hq k q b hq1 hv).keep hk (by decide)
  · rw [List.getElem?_append_right (Nat.le_refl _), Nat.sub_self] at hq1
    rw [List.getElem?_append_right (by omega), hl, Nat.sub_self] at hv
    cases hq1
    cases hv
    exact hp.keep hk (by decide)
  · have := lt_of_get hq1
    simp at this
    omega
theorem ET : ElemTy 25 23 1 24 := ⟨Tryz.underlying25, by kernel_rfl⟩
def SMap (w : World) (b n : Nat) (seen : List Vec) : Prop :=
  ∃ D : DataW Unit, w.ownsMap Tryz.prog 9 (plainElem Tryz.prog 4) b n D ∧ Maps.IsMap D ∧ ∀ v : Vec, D.atKey (.string (nameL v)) (.lit (.bool false)) = .lit (.bool (decide (v ∈ seen)))
theorem SMap.made (w : World) : SMap (w.alloc (.map #[] 0)) w.heap.size 0 [] :=
  ⟨_, World.ownsMap_made w _ _ _, Maps.isMap_empty, fun v => by simp; rfl⟩
theorem SMap.below {w w' : World} {b n : Nat} {seen : List Vec} (h : SMap w b n seen) (hb : Below w.heap.size w w') : SMap w' b n seen := by
  obtain ⟨D, h1, h2, h3⟩ := h
  exact ⟨D, h1.kept (row := none) ⟨hb.os, hb.tape, hb.output, hb.size, fun k hk _ => hb.block k hk⟩ (by simp), h2, h3⟩
theorem SMap.kept {w w' : World} {b n : Nat} {seen : List Vec} {row : Option Nat} (h : SMap w b n seen) (hg : w.grownBy w' row) (hne : some b ≠ row) : SMap w' b n seen := by
  obtain ⟨D, h1, h2, h3⟩ := h
  exact ⟨D, h1.kept hg hne, h2, h3⟩
theorem zero_bool (w : World) : (zeroValue 4).run Tryz.prog w = .ok (.bool false) w := by kernel_rfl
set_option maxRecDepth 100000 in
theorem wpLookS {ops : Array Oper} {rest : List Oper} {o : Oper} {a : Act} {Q : Exit → Act → World → Prop} {w : World} (hg : o.guard = none) (m x : Operand) (hop : o.op = Op.lookup 98 m x false) (b n : Nat) (seen : List Vec) (v : Vec)
    (hm : a.eval m = .map (some b)) (hx : a.eval x = .string ⟨(nameL v).toArray⟩) (h : SMap w b n seen) (hs : (nameL v).length ≤ maxLen)
    (hK : wpList Tryz.prog ops Q rest (a.put o.dst (.bool (decide (v ∈ seen)))) w) : wpList Tryz.prog ops Q (o :: rest) a w := by
  obtain ⟨D, h1, h2, h3⟩ := h
  refine wpList_plain hg fun K' hK' => ?_
  obtain ⟨u, ps, hrun, hu⟩ := h1.lookup (Maps.string_keyed Tryz.underlying9) Tryz.underlying98 (zero_bool w) (plainElem_bool Tryz.underlying4 false) (WideMaps.keyOf_string_mk Tryz.underlying9 (s := ⟨(nameL v).toArray⟩) hs)
  have h4 : D.atKey (.string (⟨(nameL v).toArray⟩ : ByteArray).data.toList) (.lit (.bool false)) = .lit (.bool (decide (v ∈ seen))) := h3 v
  rw [h4] at hu
  have hv : u = .bool (decide (v ∈ seen)) := by
    unfold plainElem at hu
    rw [Tryz.underlying4] at hu
    cases u <;> simp at hu
    rw [← hu.1]
  subst hv
  unfold Oper.wp
  simp [execOp, hop, hm, hx, hrun, Result.andThen]
  exact hK' _ _ (by simpa using hK)
theorem wpPutS {ops : Array Oper} {rest : List Oper} {o : Oper} {a : Act} {Q : Exit → Act → World → Prop} {w : World} (hg : o.guard = none) (m x u : Operand) (hop : o.op = Op.mapUpdate 98 m x u) (b n : Nat) (seen : List Vec) (v : Vec)
    (hm : a.eval m = .map (some b)) (hx : a.eval x = .string ⟨(nameL v).toArray⟩) (hu : a.eval u = .bool true) (h : SMap w b n seen) (hn : n < maxLen) (hs : (nameL v).length ≤ maxLen)
    (hK : ∀ w', SMap w' b (n + 1) (seen ++ [v]) → w.grownBy w' (some b) → wpList Tryz.prog ops Q rest (a.put o.dst undef) w') : wpList Tryz.prog ops Q (o :: rest) a w := by
  obtain ⟨D, h1, h2, h3⟩ := h
  refine wpList_mapUpdate_own w hg m x u 98 hop 9 4 (Maps.string_keyed Tryz.underlying9) Tryz.underlying98 _ b n D hm h1 hn _ _ _ hx hu (WideMaps.keyOf_string_mk Tryz.underlying9 (s := ⟨(nameL v).toArray⟩) hs) (.lit (.bool true)) []
    (plainElem_bool Tryz.underlying4 true) ?_
  intro w' r1 r2
  refine hK w' ⟨_, r1, h2.put _ _, fun v' => ?_⟩ r2
  show (D.put (.string (nameL v)) (.lit (.bool true))).atKey (.string (nameL v')) (.lit (.bool false)) = _
  by_cases e : v' = v
  · subst e
    rw [Maps.atKey_put_same h2 (by simp [WideAt.IsKeyLit])]
    simp
  · rw [Maps.atKey_put_other (fun h => e (nameL_inj (by injection h))), h3 v']
    simp [e]
theorem Keep.map {ok : TypeId → Prop} {w w' : World} {b n : Nat} {seen : List Vec} (h : SMap w b n seen) (hg : w.grownBy w' (some b)) : Keep ok w w' := by
  obtain ⟨D, ⟨es, cl, hb, -⟩, -⟩ := h
  refine ⟨hg.size, fun T c cs _ hB => ?_⟩
  refine (hg.block c hB.lt ?_).trans hB
  intro e
  obtain rfl : c = b := Option.some.inj e
  unfold Blk at hB
  rw [hB] at hb
  cases hb
theorem dedup_snoc (l : List Vec) (x : Vec) : dedup (l ++ [x]) = if x ∈ dedup l then dedup l else dedup l ++ [x] := by
  unfold dedup
  rw [List.foldl_append]
  rfl
theorem dedup_len (l : List Vec) : (dedup l).length ≤ l.length := by
  suffices h : ∀ (l s : List Vec), (l.foldl (fun s x => if x ∈ s then s else s ++ [x]) s).length ≤ s.length + l.length by
    have := h l []
    simpa [dedup] using this
  intro l
  induction l with
  | nil => intro s; simp
  | cons x l ih =>
    intro s
    rw [List.foldl_cons, List.length_cons]
    refine Nat.le_trans (ih _) ?_
    split
    · omega
    · simp; omega
theorem dedup_mem (l : List Vec) : ∀ x ∈ dedup l, x ∈ l := by
  suffices h : ∀ (l s : List Vec), ∀ x ∈ l.foldl (fun s x => if x ∈ s then s else s ++ [x]) s, x ∈ s ∨ x ∈ l by
    intro x hx
    rcases h l [] x hx with h1 | h1
    · cases h1
    · exact h1
  intro l
  induction l with
  | nil => intro s x hx; exact .inl hx
  | cons y l ih =>
    intro s x hx
    rw [List.foldl_cons] at hx
    rcases ih _ x hx with h1 | h1
    · split at h1
      · exact .inl h1
      · rcases List.mem_append.1 h1 with h2 | h2
        · exact .inl h2
        · exact .inr (by rw [List.mem_singleton.1 h2]; exact List.mem_cons_self ..)
    · exact .inr (List.mem_cons_of_mem _ h1)
theorem piv_lt (m : List Vec) : ∀ k, ∀ p ∈ (RS0 m k).2, p < k
  | 0 => fun p hp => by cases hp
  | k + 1 => fun p hp => by
    rw [red_succ] at hp
    have h1 := piv_lt m k
    split at hp
    · unfold stepM at hp
      split at hp
      · have := h1 p hp; omega
      · rcases List.mem_append.1 hp with h2 | h2
        · have := h1 p h2; omega
        · rw [List.mem_singleton.1 h2]; omega
    · have := h1 p hp; omega
theorem reduce_len (m : List Vec) : (reduceM m).1.length = (reduceM m).2.length := by
  show ((RS0 m (m.headD []).length).1.take (RS0 m (m.headD []).length).2.length).length = (RS0 m (m.headD []).length).2.length
  rw [List.length_take, red_len]
  have := piv_le m (m.headD []).length
  omega
theorem reduce_mem {d : Nat} {m : List Vec} (hl : ∀ a ∈ m, a.length = d) (hf : FitM d m) : (∀ a ∈ (reduceM m).1, FitV d a) ∧ ∀ p ∈ (reduceM m).2, p < d := by
  cases m with
  | nil => exact ⟨fun a ha => (by cases ha), fun p hp => (by cases hp)⟩
  | cons a m =>
    have hc : a.length = d := hl a (List.mem_cons_self ..)
    constructor
    · intro x hx
      have h1 := RS0_fit hl hf ((a :: m).headD []).length (Nat.le_refl _) x (List.mem_of_mem_take hx)
      rw [show ((a :: m).headD []).length = d from hc] at h1
      exact h1
    · intro p hp
      have := piv_lt (a :: m) ((a :: m).headD []).length p hp
      rw [show ((a :: m).headD []).length = d from hc] at this
      exact this
theorem fold_take {lines : List Vec} {piv : List Nat} {z : Nat} {l : Vec} {p : Nat} {v : Vec} (hl : lines[z]? = some l) (hp : piv[z]? = some p) : ((List.zip lines piv).take (z + 1)).foldl shiftV v = mixV (((List.zip lines piv).take z).foldl shiftV v) 1 l (-((((List.zip lines piv).take z).foldl shiftV v).getD p 0)) := by
  have h : (List.zip lines piv)[z]? = some (l, p) := by
    rw [List.zip, List.getElem?_zipWith, hl, hp]
  rw [List.take_add_one, h, Option.toList_some, List.foldl_append]
  rfl
end Go.Proofs.YtlcmhbkmpkcajaaGreatDoor
