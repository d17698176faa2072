/-
  Products: the product under work; which instances stay; overrides.
-/
import Derived.Test.YtkphggmbimjhjaaPe
import Derived.Test.YtkphggmbimjhjaaDv
import Derived.Test.YtkphggmbimjhjaaCm
namespace Go.Proofs.Ytkphggmbimjhjaa
open Go.RowKit

theorem flat_set4 {d : Dim1} : ∀ {ds : List Dim1} {i : Nat}, i < ds.length →
    ((((ds.map dimC).flatten.set (i * 4) (.string d.1)).set (i * 4 + 1) (.int .i64 d.2.1)).set (i * 4 + 2) (.int .i64 d.2.2.1)).set (i * 4 + 3) (.int .i64 d.2.2.2) = ((ds.set i d).map dimC).flatten
  | [], _, h => by simp at h
  | x :: xs, 0, _ => by simp [dimC]
  | x :: xs, i + 1, h => by
    have ih := flat_set4 (d := d) (ds := xs) (i := i) (by simpa using h)
    have e : ∀ (j : Nat) (v : Value) (L : List Value), (dimC x ++ L).set ((i + 1) * 4 + j) v = dimC x ++ L.set (i * 4 + j) v := fun j v L => by
      rw [List.set_append_right _ _ (by simp [dimC]; omega)]
      congr 2
      simp [dimC]
      omega
    have e0 : ∀ (v : Value) (L : List Value), (dimC x ++ L).set ((i + 1) * 4) v = dimC x ++ L.set (i * 4) v := fun v L => e 0 v L
    simp only [List.map_cons, List.flatten_cons, List.set_cons_succ]
    rw [e0, e 1, e 2, e 3, ih]

/-- The product under work lies in the variable P; both its rows are the call's own. -/
structure PW (w0 w : World) (P : Nat) (nm : ByteArray) (v : Value) (ns : List ByteArray) (vd : Value) (ds : List Dim1) : Prop where
  blk : Blk w P #[.string nm, .slice none 0 0, v, vd, .slice none 0 0, .slice none 0 0] 35
  ins : w.ownsRow w0.heap.size 105 9 v ns.length (ns.map instC).flatten
  dms : w.ownsRow w0.heap.size 81 4 vd ds.length (ds.map dimC).flatten
  np1 : v.ownBlock ≠ some P
  np2 : vd.ownBlock ≠ some P
  bel : Below w0.heap.size w0 w
  hP : w0.heap.size ≤ P

theorem PW.below {w0 w w' : World} {P : Nat} {nm : ByteArray} {v : Value} {ns : List ByteArray} {vd : Value} {ds : List Dim1} (h : PW w0 w P nm v ns vd ds) (hb : Below w.heap.size w w') : PW w0 w' P nm v ns vd ds :=
  ⟨h.blk.below hb, own_below h.ins hb, own_below h.dms hb, h.np1, h.np2, h.bel.via hb h.bel.size, h.hP⟩

theorem PW.add {w0 W w' : World} {P n : Nat} {nm : ByteArray} {v : Value} {ns : List ByteArray} {vd : Value} {ds : List Dim1} (h : PW w0 W P nm v ns vd ds) {g cap : Nat} {s : ByteArray} (hn : ns.length = n)
    (hown : w'.ownsRow w0.heap.size 105 9 (.slice (some ⟨g, 0, none⟩) (n + 1) cap) (n + 1) ((ns.map instC).flatten ++ instC s)) (hg : W.grownBy w' v.ownBlock) (hat : v.ownBlock = some g ∨ g = W.heap.size) :
    PW w0 (w'.setCell ⟨P, 2, none⟩ (.slice (some ⟨g, 0, none⟩) (n + 1) cap)) P nm (.slice (some ⟨g, 0, none⟩) (n + 1) cap) (ns ++ [s]) vd ds := by
  have hlt := h.blk.lt
  have hgP : g ≠ P := by
    rcases hat with h1 | h1
    · intro e; exact h.np1 (by rw [h1, e])
    · omega
  have hb := h.blk.grown hg h.np1
  have he := (Eqb.refl (w := w') P).set 2 (.slice (some ⟨g, 0, none⟩) (n + 1) cap)
  have hl : (ns ++ [s]).length = n + 1 := by simp [hn]
  refine ⟨?_, ?_, ?_, ?_, h.np2, ?_, h.hP⟩
  · have := hb.set 2 (.slice (some ⟨g, 0, none⟩) (n + 1) cap)
    simpa using this
  · rw [hl, List.map_append, List.flatten_append]
    have := own_eqb hown he (fun b hb => by
      have h1 := hown.lt b hb
      simp only [Value.ownBlock, Option.some.injEq] at hb
      subst hb
      exact ⟨h1.2, hgP⟩)
    simpa using this
  · have hd := own_kept_e h.dms h.ins (by decide) hg
    exact own_eqb hd he (fun b hb => ⟨(hd.lt b hb).2, fun e => h.np2 (by rw [hb, e])⟩)
  · simp only [Value.ownBlock]; intro e; exact hgP (Option.some.inj e)
  · exact (h.bel.grown hg h.bel.size (fun b hb => (h.ins.lt b hb).1)).setCell (p := ⟨P, 2, none⟩) h.hP _

theorem PW.put {w0 w : World} {P : Nat} {nm : ByteArray} {v : Value} {ns : List ByteArray} {g m cap : Nat} {ds : List Dim1} (h : PW w0 w P nm v ns (.slice (some ⟨g, 0, none⟩) m cap) ds) (hm : ds.length = m) {i : Nat} (hi : i < m) (d : Dim1) :
    PW w0 ((((w.setCell ⟨g, i * 4, none⟩ (.string d.1)).setCell ⟨g, i * 4 + 1, none⟩ (.int .i64 d.2.1)).setCell ⟨g, i * 4 + 2, none⟩ (.int .i64 d.2.2.1)).setCell ⟨g, i * 4 + 3, none⟩ (.int .i64 d.2.2.2)) P nm v ns (.slice (some ⟨g, 0, none⟩) m cap) (ds.set i d) := by
  subst hm
  have hgP : P ≠ g := fun e => h.np2 (by rw [e]; rfl)
  have hgB := h.dms.lt g rfl
  have o1 := own_setCell h.dms (i := i * 4) (by omega) (.string d.1)
  have o2 := own_setCell o1 (i := i * 4 + 1) (by omega) (.int .i64 d.2.1)
  have o3 := own_setCell o2 (i := i * 4 + 2) (by omega) (.int .i64 d.2.2.1)
  have o4 := own_setCell o3 (i := i * 4 + 3) (by omega) (.int .i64 d.2.2.2)
  rw [flat_set4 hi] at o4
  have i1 := own_other h.ins h.dms (by decide) (i * 4) (.string d.1)
  have i2 := own_other i1 o1 (by decide) (i * 4 + 1) (.int .i64 d.2.1)
  have i3 := own_other i2 o2 (by decide) (i * 4 + 2) (.int .i64 d.2.2.1)
  have i4 := own_other i3 o3 (by decide) (i * 4 + 3) (.int .i64 d.2.2.2)
  refine ⟨(((h.blk.other (p := ⟨g, _, none⟩) hgP _).other (p := ⟨g, _, none⟩) hgP _).other (p := ⟨g, _, none⟩) hgP _).other (p := ⟨g, _, none⟩) hgP _, i4, by rw [List.length_set]; exact o4, h.np1, h.np2, ?_, h.hP⟩
  exact (((h.bel.setCell (p := ⟨g, _, none⟩) hgB.1 _).setCell (p := ⟨g, _, none⟩) hgB.1 _).setCell (p := ⟨g, _, none⟩) hgB.1 _).setCell (p := ⟨g, _, none⟩) hgB.1 _

/-- The instances that stay, of the first k; the overrides of the first k, done. -/
def insTo (keep : Nat → Bool) (ns : List ByteArray) (k : Nat) : List ByteArray := sel keep (ns.take k)
def ovrTo (app : List Lit1 → Bool) (os : List Ov1) (ds : List Dim1) : Nat → List Dim1
  | 0 => ds
  | k + 1 => match os[k]? with
    | none => ovrTo app os ds k
    | some o => if app o.1 then (ovrTo app os ds k).set o.2.1.toNat o.2.2 else ovrTo app os ds k
theorem ovrTo_len (app : List Lit1 → Bool) (os : List Ov1) (ds : List Dim1) : ∀ k, (ovrTo app os ds k).length = ds.length
  | 0 => rfl
  | k + 1 => by
    have ih := ovrTo_len app os ds k
    rw [ovrTo]
    split
    · exact ih
    · split
      · rw [List.length_set]; exact ih
      · exact ih
theorem ovrTo_yes {app : List Lit1 → Bool} {os : List Ov1} {ds : List Dim1} {k : Nat} {o : Ov1} (h : os[k]? = some o) (ha : app o.1 = true) : ovrTo app os ds (k + 1) = (ovrTo app os ds k).set o.2.1.toNat o.2.2 := by
  rw [ovrTo, h]; simp [ha]
theorem ovrTo_no {app : List Lit1 → Bool} {os : List Ov1} {ds : List Dim1} {k : Nat} {o : Ov1} (h : os[k]? = some o) (ha : app o.1 = false) : ovrTo app os ds (k + 1) = ovrTo app os ds k := by
  rw [ovrTo, h]; simp [ha]
theorem insTo_yes {keep : Nat → Bool} {ns : List ByteArray} {k : Nat} {s : ByteArray} (h : ns[k]? = some s) (ha : keep k = true) : insTo keep ns (k + 1) = insTo keep ns k ++ [s] := by
  unfold insTo; rw [sel_take_succ keep h, ha]; rfl
theorem insTo_no {keep : Nat → Bool} {ns : List ByteArray} {k : Nat} {s : ByteArray} (h : ns[k]? = some s) (ha : keep k = false) : insTo keep ns (k + 1) = insTo keep ns k := by
  unfold insTo; rw [sel_take_succ keep h, ha]; simp
theorem insTo_len (keep : Nat → Bool) (ns : List ByteArray) (k : Nat) : (insTo keep ns k).length ≤ k := sel_take_len keep ns k

/-- Some guard keeps instance i away. -/
def awayB (app : List Lit1 → Bool) (gs : List Guard1) (i : Nat) : Bool := gs.any fun g => (g.1 == (i : Int)) && !app g.2

theorem enters72 : ∀ args w, (callFunc 72 args).run Try.prog w = .ok (.enter 72 args) w := enters_of Try.func72 (by kernel_rfl) rfl

set_option maxHeartbeats 1000000 in
theorem grd1_any (c gi i : Int) (ls : List Lit1) (lv : Value) (A B : Nat) (w : World) (hL : Lits w lv ls) (hok : LitsOk 12 ls) (hlen : ls.length < 1000) (hc : 0 ≤ c) (hc2 : c < 18446744073709551616)
    (hA : w.cell? ⟨A, 0, none⟩ = some (.int .i64 i)) (hB : w.cell? ⟨B, 0, none⟩ = some (.int .u64 c)) :
    Calls Try.prog 72 #[.agg #[.int .i64 gi, lv], .pointer (some ⟨A, 0, none⟩), .pointer (some ⟨B, 0, none⟩)] w (Ret (.bool ((gi == i) && !cHolds c ls)) w) := by
  obtain ⟨la, lc, rfl, -, -⟩ := hL.open
  have hAl := blt hA
  have hBl := blt hB
  have hb0 := below1 w (.cells #[.int .i64 gi, .slice la ls.length lc] 79)
  have H62 := Lib.hid (holds_any c ls (.slice la ls.length lc) _ (hL.mono hb0) hok hlen hc hc2)
  generalize cHolds c ls = q at *
  generalize ls.length = n at *
  clear hL
  by_cases he : gi = i
  · subst he
    have hee : (gi == gi) = true := by simp
    rw [hee]
    go_enter Try.func72, Try.ntmps72
    go_wp2_with (go_at_call 62; refine (H62.out).mono ?_; rintro e w1 ⟨rfl, hb1⟩)
    go_ret
    exact ⟨by simp, hb0.via hb1 hb0.size⟩
  · have hee : (gi == i) = false := by simpa using he
    rw [hee]
    go_enter Try.func72, Try.ntmps72
    go_wp2_with fail
    go_ret
    exact ⟨by simp, hb0⟩

theorem away_any (c : Int) (i : Nat) (gs : List Guard1) (v : Value) (A B : Nat) (w : World) (hG : Gds w v gs) (hok : ∀ g ∈ gs, LitsOk 12 g.2 ∧ g.2.length < 1000) (hlen : gs.length < 1000) (hc : 0 ≤ c) (hc2 : c < 18446744073709551616)
    (hA : w.cell? ⟨A, 0, none⟩ = some (.int .i64 i)) (hB : w.cell? ⟨B, 0, none⟩ = some (.int .u64 c)) :
    Calls Try.prog 71 #[v, .func (.func 72) #[] #[.pointer (some ⟨A, 0, none⟩), .pointer (some ⟨B, 0, none⟩)]] w (Ret (.bool (awayB (cHolds c) gs i)) w) := by
  obtain ⟨gv, h1, h2, h3⟩ := hG
  have H := cf71 72 #[.pointer (some ⟨A, 0, none⟩), .pointer (some ⟨B, 0, none⟩)] gv (gs.map fun g => (g.1 == (i : Int)) && !cHolds c g.2) v w h1
    ⟨enters72, by simpa using h2, fun w' hb k x b hx hbk => by
      simp only [List.getElem?_map, Option.map_eq_some_iff] at hbk
      obtain ⟨g, hgk, rfl⟩ := hbk
      have hg := hok g (List.mem_of_getElem? hgk)
      have h4 := h3 k x g hx hgk
      rw [h4.1]
      exact grd1_any c g.1 i g.2 x.2 A B w' (h4.2.mono hb) hg.1 hg.2 hc hc2 (cell_le hA hb) (cell_le hB hb)⟩ (by omega)
  rw [List.any_map] at H
  exact H

end Go.Proofs.Ytkphggmbimjhjaa
