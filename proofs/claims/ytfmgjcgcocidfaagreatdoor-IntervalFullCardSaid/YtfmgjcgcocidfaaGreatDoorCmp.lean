/-
  Integers: Sign, Neg, order, Compare.
-/
import Derived.Test.YtfmgjcgcocidfaaGreatDoorInt
namespace Go.Proofs.YtfmgjcgcocidfaaGreatDoor
open Go.RowKit

/-- The world below is kept, and no draw is taken back. -/
def BD (w w' : World) : Prop := Below w.heap.size w w' ∧ w.drawn ≤ w'.drawn
theorem BD.refl (w : World) : BD w w := ⟨Below.refl _ _, Nat.le_refl _⟩
theorem BD.dn {w w' : World} (h : BD w w') (n : Nat) : BD w (w'.drewN n) := ⟨h.1.dn n, Nat.le_trans h.2 (Nat.le_add_right _ _)⟩
theorem BD.alloc {w w' : World} (h : BD w w') (o : Obj) : BD w (w'.alloc o) := ⟨h.1.alloc h.1.size _, h.2⟩
theorem BD.via {a b c : World} (h : BD a b) (k : BD b c) : BD a c := ⟨h.1.via k.1 h.1.size, Nat.le_trans h.2 k.2⟩
theorem bd1 (w : World) (o : Obj) : BD w (w.alloc o) := (BD.refl w).alloc o
theorem bd2 (w : World) (o o' : Obj) : BD w ((w.alloc o).alloc o') := (bd1 w o).alloc o'
/-- The result, and a world that is kept below. -/
def RetD (v : Value) (w : World) (e : Ending) (w' : World) : Prop := e = .returned v ∧ BD w w'
theorem RetD.ret {v : Value} {w w' : World} {e : Ending} (h : RetD v w e w') : Ret v w e w' := ⟨h.1, h.2.1⟩

theorem limbs_len0 {n : Nat} : (limbs n).length = 0 ↔ n = 0 := by rw [List.length_eq_zero_iff]; exact limbs_nil

set_option maxHeartbeats 1000000 in
theorem sign_d (v : Value) (z : Int) (w : World) (h : IntV w v z) : Calls Tryz.prog 59 #[v] w (RetD (.int .i64 z.sign) w) := by
  obtain ⟨a, c, rfl, hl⟩ := h
  clear hl
  by_cases h0 : z = 0
  · subst h0
    have e1 : (limbs (Int.natAbs 0)).length = 0 := by rw [limbs_len0]; rfl
    rw [e1]
    go_enter Tryz.func59, Tryz.ntmps59
    go_wp2_with fail
    go_ret
    exact ⟨rfl, bd1 w _⟩
  · have e1 : (limbs z.natAbs).length ≠ 0 := by rw [Ne, limbs_len0]; omega
    generalize (limbs z.natAbs).length = k at *
    have e2 : ((k : Int) == 0) = false := by simp; omega
    by_cases hz : z < 0
    · rw [decide_eq_true hz, Int.sign_eq_neg_one_of_neg hz]
      go_enter Tryz.func59, Tryz.ntmps59
      go_wp2_with fail
      go_ret
      exact ⟨rfl, bd1 w _⟩
    · rw [decide_eq_false hz, Int.sign_eq_one_of_pos (by omega)]
      go_enter Tryz.func59, Tryz.ntmps59
      go_wp2_with fail
      go_ret
      exact ⟨rfl, bd1 w _⟩

theorem sign_any (v : Value) (z : Int) (w : World) (h : IntV w v z) : Calls Tryz.prog 59 #[v] w (Ret (.int .i64 z.sign) w) := (sign_d v z w h).mono fun _ _ h => h.ret

theorem lt_get {l : List Nat} {i d : Nat} (h : l[i]? = some d) : i < l.length := by
  rcases Nat.lt_or_ge i l.length with h' | h'
  · exact h'
  · rw [List.getElem?_eq_none h'] at h; cases h
theorem get_of {l : List Nat} {i d : Nat} (h : l[i]? = some d) : l[i]'(lt_get h) = d := by
  have h2 := h
  rw [List.getElem?_eq_getElem (lt_get h)] at h2
  exact Option.some.inj h2
theorem getD_of {l : List Nat} {i d : Nat} (h : l[i]? = some d) : l.getD i 0 = d := by
  rw [List.getD_eq_getElem?_getD, h]; rfl
/-- How two numbers compare. -/
def cmpN (a b : Nat) : Int := if a < b then -1 else if b < a then 1 else 0

set_option maxHeartbeats 2000000 in
theorem order_d (a b : Option Addr) (n m ca cb : Nat) (x y : Nat) (w : World) (hA : Ls w (.slice a n ca) (limbs x)) (hB : Ls w (.slice b m cb) (limbs y)) :
    Calls Tryz.prog 81 #[.slice a n ca, .slice b m cb] w (RetD (.int .i64 (cmpN x y)) w) := by
  obtain ⟨_, _, hq, ha1, ha2⟩ := hA.open
  cases hq
  obtain ⟨_, _, hq, hb1, hb2⟩ := hB.open
  cases hq
  unfold maxLen at ha2 hb2
  have HA := Lib.hid hA
  have HB := Lib.hid hB
  clear hA hB
  by_cases hl : (limbs x).length = (limbs y).length
  · have Hl := Lib.hid hl
    have hc : cmpN x y = cmpN (natL (limbs x)) (natL (limbs y)) := by rw [natL_limbs, natL_limbs]
    rw [hc]
    have HK := Lib.hid (fun k (hk : k < (limbs x).length) (hs : (limbs x).drop (k + 1) = (limbs y).drop (k + 1)) => And.intro (fun (h : (limbs x).getD k 0 < (limbs y).getD k 0) => natL_cmp hl hk (limbs_dg x) hs h) (fun (h : (limbs y).getD k 0 < (limbs x).getD k 0) => natL_cmp hl.symm (hl ▸ hk) (limbs_dg y) hs.symm h))
    generalize limbs x = lx at *
    generalize limbs y = ly at *
    generalize hn : lx.length = n at *
    rw [← hl] at hb1
    rw [← Hl.out]
    have Hn := Lib.hid hn
    have hB2 := HB.out
    rw [← Hl.out] at hB2
    clear HB
    have HB := Lib.hid hB2
    clear hn hc hl hB2
    go_enter Tryz.func81, Tryz.ntmps81
    go_wp2_with fail
    go_loopw [5] (fun i wr => ∃ k : Nat, k ≤ n ∧ i = .int .i64 ((k : Int) - 1) ∧ BD w wr ∧ Hid (lx.drop k = ly.drop k)) (fun i _ => (intOf i + 1).toNat)
    case atStart => exact ⟨n, Nat.le_refl _, rfl, BD.refl _, by unfold Hid; rw [List.drop_eq_nil_of_le (by rw [Hn.out]; exact Nat.le_refl _), List.drop_eq_nil_of_le (by rw [← Hl.out]; exact Nat.le_refl _)]⟩
    case round =>
      obtain ⟨k, hk, rfl, hbw, hpre⟩ := hrel
      rcases k with _ | j
      · have he : lx = ly := by have := hpre.out; rwa [List.drop_zero, List.drop_zero] at this
        have He := Lib.hid he
        clear he
        go_wp2_with fail
        go_ret
        exact ⟨by rw [He.out]; simp [cmpN], hbw⟩
      · obtain ⟨ba, oa, d, rfl, hd, c0⟩ := HA.out.at hbw.1 (show j < n by omega)
        obtain ⟨bb, ob, e, rfl, he, d0⟩ := HB.out.at hbw.1 (show j < n by omega)
        have hij : ((((j + 1 : Nat) : Int) - 1)) = (j : Int) := by omega
        have hi64 : IntKind.i64.wrap (j : Int) = j := IntWalk.i64_in _ (by omega)
        have hi65 : IntKind.i64.wrap ((j : Int) - 1) = (j : Int) - 1 := IntWalk.i64_in _ (by omega)
        have hj0 : (0 : Int) ≤ (j : Int) := Int.natCast_nonneg _
        have hjn : (j : Int) < (n : Int) := by omega
        have Hd := Lib.hid hd
        have He := Lib.hid he
        rw [hij]
        clear hd he
        by_cases hde : d = e
        · subst hde
          have hne : ((d : Int) != (d : Int)) = false := by simp
          go_wp2_with fail
          go_quiet (fail)
          go_wp2_with fail
          go_roundw
          case rel => exact ⟨j, by omega, by go_num, hbw.dn _, by unfold Hid; rw [List.drop_eq_getElem_cons (lt_get Hd.out), List.drop_eq_getElem_cons (lt_get He.out), hpre.out, get_of Hd.out, get_of He.out]⟩
          case measure => simp [intOf] <;> omega
        · have hne : ((d : Int) != (e : Int)) = true := by simp; omega
          have hk2 := HK.out j (by omega) hpre.out
          rw [getD_of Hd.out, getD_of He.out] at hk2
          have Hk2 := Lib.hid hk2
          clear hk2
          rcases Nat.lt_or_ge d e with hlt | hge
          · have hlt2 : (d : Int) < (e : Int) := by omega
            have hfin : cmpN (natL lx) (natL ly) = -1 := by unfold cmpN; rw [if_pos (Hk2.out.1 hlt)]
            rw [hfin]
            clear hfin
            go_wp2_with fail
            go_quiet (fail)
            go_wp2_with fail
            go_quiet (fail)
            go_wp2_with fail
            go_ret
            exact ⟨rfl, (hbw.dn _).dn _⟩
          · have hlt2 : ¬ (d : Int) < (e : Int) := by omega
            have hgt := Hk2.out.2 (by omega)
            have hfin : cmpN (natL lx) (natL ly) = 1 := by unfold cmpN; rw [if_neg (by omega), if_pos hgt]
            rw [hfin]
            clear hfin
            go_wp2_with fail
            go_quiet (fail)
            go_wp2_with fail
            go_quiet (fail)
            go_wp2_with fail
            go_ret
            exact ⟨rfl, (hbw.dn _).dn _⟩
  · have hne : (((limbs x).length : Int) != ((limbs y).length : Int)) = true := by simp; omega
    rcases Nat.lt_or_ge (limbs x).length (limbs y).length with hlt | hge
    · have hfin : cmpN x y = -1 := by unfold cmpN; rw [if_pos (limbs_len_lt hlt)]
      rw [hfin]
      generalize (limbs x).length = n at *
      generalize (limbs y).length = m at *
      have hlt2 : (n : Int) < (m : Int) := by omega
      go_enter Tryz.func81, Tryz.ntmps81
      go_wp2_with fail
      go_ret
      exact ⟨rfl, BD.refl _⟩
    · have hgt := limbs_len_lt (show (limbs y).length < (limbs x).length by omega)
      have hfin : cmpN x y = 1 := by unfold cmpN; rw [if_neg (by omega), if_pos hgt]
      rw [hfin]
      generalize (limbs x).length = n at *
      generalize (limbs y).length = m at *
      have hlt2 : ¬ (n : Int) < (m : Int) := by omega
      go_enter Tryz.func81, Tryz.ntmps81
      go_wp2_with fail
      go_ret
      exact ⟨rfl, BD.refl _⟩

theorem order_any (a b : Option Addr) (n m ca cb : Nat) (x y : Nat) (w : World) (hA : Ls w (.slice a n ca) (limbs x)) (hB : Ls w (.slice b m cb) (limbs y)) :
    Calls Tryz.prog 81 #[.slice a n ca, .slice b m cb] w (Ret (.int .i64 (cmpN x y)) w) := (order_d a b n m ca cb x y w hA hB).mono fun _ _ h => h.ret

set_option maxHeartbeats 1000000 in
theorem neg_any (v : Value) (z : Int) (w : World) (h : IntV w v z) : Calls Tryz.prog 85 #[v] w (RetP (fun v' w' => IntV w' v' (-z)) w) := by
  obtain ⟨a, c, rfl, hl⟩ := h
  have hv : IntV w (.agg #[.bool (decide (-z < 0)), .slice a (limbs z.natAbs).length c]) (-z) := ⟨a, c, by rw [Int.natAbs_neg], by rw [Int.natAbs_neg]; exact hl⟩
  have hq : decide (-z < 0) = (!decide (z < 0) && decide (0 < (limbs z.natAbs).length)) := by
    have := limbs_len0 (n := z.natAbs)
    rw [Bool.eq_iff_iff]
    simp only [Bool.and_eq_true, Bool.not_eq_true', decide_eq_true_eq, decide_eq_false_iff_not]
    omega
  rw [hq] at hv
  have HV := Lib.hid hv
  clear hv hq hl
  generalize (limbs z.natAbs).length = k at *
  generalize decide (z < 0) = x at *
  cases x
  · by_cases hk : 0 < k
    · have hk2 : (0 : Int) < (k : Int) := by omega
      go_enter Tryz.func85, Tryz.ntmps85
      go_wp2_with fail
      exact bodyPost_ret (v := .agg #[.bool true, .slice a k c]) (by simp [results, Tryz.results85, go_sem]) rfl ⟨_, rfl, by have := HV.out.mono (below2 w (.cells #[.bool false, .slice a k c] 48) (.cells #[.bool true, .slice a k c] 48)); simpa [hk] using this, below2 w _ _⟩
    · have hk2 : ¬ (0 : Int) < (k : Int) := by omega
      go_enter Tryz.func85, Tryz.ntmps85
      go_wp2_with fail
      exact bodyPost_ret (v := .agg #[.bool false, .slice a k c]) (by simp [results, Tryz.results85, go_sem]) rfl ⟨_, rfl, by have := HV.out.mono (below2 w (.cells #[.bool false, .slice a k c] 48) (.cells #[.bool false, .slice a k c] 48)); simpa [hk] using this, below2 w _ _⟩
  · go_enter Tryz.func85, Tryz.ntmps85
    go_wp2_with fail
    exact bodyPost_ret (v := .agg #[.bool false, .slice a k c]) (by simp [results, Tryz.results85, go_sem]) rfl ⟨_, rfl, by have := HV.out.mono (below2 w (.cells #[.bool true, .slice a k c] 48) (.cells #[.bool false, .slice a k c] 48)); simpa using this, below2 w _ _⟩

/-- How two integers compare. -/
def cmpZ (a b : Int) : Int := if a < b then -1 else if b < a then 1 else 0

set_option maxHeartbeats 2000000 in
theorem compare_d (u v : Value) (y z : Int) (w : World) (h : IntV w u y) (h' : IntV w v z) : Calls Tryz.prog 50 #[u, v] w (RetD (.int .i64 (cmpZ y z)) w) := by
  obtain ⟨a, c, rfl, hl⟩ := h
  obtain ⟨a', c', rfl, hl'⟩ := h'
  have hb0 := below2 w (.cells #[.bool (decide (y < 0)), .slice a (limbs y.natAbs).length c] 48) (.cells #[.bool (decide (z < 0)), .slice a' (limbs z.natAbs).length c'] 48)
  have H1 := Lib.hid (order_d _ _ _ _ _ _ _ _ _ (hl.mono hb0) (hl'.mono hb0))
  have H2 := Lib.hid (order_d _ _ _ _ _ _ _ _ _ (hl'.mono hb0) (hl.mono hb0))
  have Hb0 := Lib.hid hb0
  have hp : y < 0 → z < 0 → cmpZ y z = cmpN z.natAbs y.natAbs := fun h1 h2 => by
    unfold cmpZ cmpN
    split <;> split <;> first | rfl | omega | (split <;> first | rfl | omega)
  have hq : ¬ y < 0 → ¬ z < 0 → cmpZ y z = cmpN y.natAbs z.natAbs := fun h1 h2 => by
    unfold cmpZ cmpN
    split <;> split <;> first | rfl | omega | (split <;> first | rfl | omega)
  have hr : y < 0 → ¬ z < 0 → cmpZ y z = -1 := fun h1 h2 => by unfold cmpZ; rw [if_pos (by omega)]
  have hs : ¬ y < 0 → z < 0 → cmpZ y z = 1 := fun h1 h2 => by unfold cmpZ; rw [if_neg (by omega), if_pos (by omega)]
  clear hl hl' hb0
  by_cases hy : y < 0 <;> by_cases hz : z < 0
  · rw [hp hy hz]
    rw [decide_eq_true hy, decide_eq_true hz] at *
    generalize cmpN z.natAbs y.natAbs = R at *
    clear hp hq hr hs
    go_enter Tryz.func50, Tryz.ntmps50
    go_wp2_with (go_at_call 81; refine (H2.out).mono ?_; rintro e w1 ⟨rfl, hb1⟩)
    go_ret
    exact ⟨rfl, (bd2 w _ _).via hb1⟩
  · rw [hr hy hz]
    rw [decide_eq_true hy, decide_eq_false hz] at *
    clear hp hq hr hs H1 H2
    go_enter Tryz.func50, Tryz.ntmps50
    go_wp2_with fail
    go_ret
    exact ⟨rfl, bd2 w _ _⟩
  · rw [hs hy hz]
    rw [decide_eq_false hy, decide_eq_true hz] at *
    clear hp hq hr hs H1 H2
    go_enter Tryz.func50, Tryz.ntmps50
    go_wp2_with fail
    go_ret
    exact ⟨rfl, bd2 w _ _⟩
  · rw [hq hy hz]
    rw [decide_eq_false hy, decide_eq_false hz] at *
    generalize cmpN y.natAbs z.natAbs = R at *
    clear hp hq hr hs
    go_enter Tryz.func50, Tryz.ntmps50
    go_wp2_with (go_at_call 81; refine (H1.out).mono ?_; rintro e w1 ⟨rfl, hb1⟩)
    go_ret
    exact ⟨rfl, (bd2 w _ _).via hb1⟩

theorem compare_any (u v : Value) (y z : Int) (w : World) (h : IntV w u y) (h' : IntV w v z) : Calls Tryz.prog 50 #[u, v] w (Ret (.int .i64 (cmpZ y z)) w) := (compare_d u v y z w h h').mono fun _ _ h => h.ret

end Go.Proofs.YtfmgjcgcocidfaaGreatDoor
