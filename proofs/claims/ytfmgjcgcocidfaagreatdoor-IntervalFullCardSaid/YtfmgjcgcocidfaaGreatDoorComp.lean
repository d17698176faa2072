/-
  Places that are all different are left as they are.
-/
import Derived.Test.YtfmgjcgcocidfaaGreatDoorSort
namespace Go.Proofs.YtfmgjcgcocidfaaGreatDoor
open Go.RowKit

/-- A slice of places. -/
def Cuts (w : World) (v : Value) (P : List CC) : Prop := Sl w 7 v (P.map CC.cells) ∧ ∀ k ∈ P, k.ok w
theorem Cuts.mono {w w' : World} {v : Value} {P : List CC} (h : Cuts w v P) (hb : Below w.heap.size w w') : Cuts w' v P := ⟨Sl.mono h.1 hb, fun p hp => (h.2 p hp).mono hb⟩
def CCells (w : World) (b o : Nat) (k : CC) : Prop := w.cell? ⟨b, o, none⟩ = some (.int .i64 k.c.b) ∧ w.cell? ⟨b, o + 1, none⟩ = some (.string k.c.s) ∧ w.cell? ⟨b, o + 2, none⟩ = some (.int .i64 k.c.d) ∧ w.cell? ⟨b, o + 3, none⟩ = some (.bool k.x) ∧ w.cell? ⟨b, o + 4, none⟩ = some (.slice k.a k.n k.cap) ∧ w.cell? ⟨b, o + 5, none⟩ = some (.bool false) ∧ w.cell? ⟨b, o + 6, none⟩ = some (.slice none 0 0)
theorem Cuts.at {w wr : World} {n cap : Nat} {a : Option Addr} {P : List CC} (h : Cuts w (.slice a n cap) P) (hb : Below w.heap.size w wr) {k : Nat} (hk : k < n) :
    ∃ b off p, a = some ⟨b, off, none⟩ ∧ P[k]? = some p ∧ p.ok wr ∧ CCells wr b (off + k * 7) p := by
  obtain ⟨b, off, ha, hlt, r, hr, hc⟩ := Sl.row h.1 hb hk
  simp only [List.getElem?_map, Option.map_eq_some_iff] at hr
  obtain ⟨l, hl, rfl⟩ := hr
  exact ⟨b, off, l, ha, hl, (h.2 l (List.mem_of_getElem? hl)).mono hb, hc 0 (by decide), hc 1 (by decide), hc 2 (by decide), hc 3 (by decide), hc 4 (by decide), hc 5 (by decide), hc 6 (by decide)⟩

set_option maxHeartbeats 4000000 in
theorem eqcut_any (k l : CC) (w : World) (hk : k.ok w) (hl : l.ok w) : Calls Tryz.prog 41 #[k.agg, l.agg] w (Ret (.bool (cmpC k.c l.c == 0)) w) := by
  have H := Lib.hid (fun w' (hb : Below w.heap.size w w') => cutcmp_d k l w' (hk.mono hb) (hl.mono hb))
  unfold CC.agg at H ⊢
  generalize cmpC k.c l.c = R at *
  have hB : Blk ((w.alloc (.cells #[.int .i64 k.c.b, .string k.c.s, .int .i64 k.c.d, .bool k.x, .slice k.a k.n k.cap, .bool false, .slice none 0 0] 52)).alloc (.cells #[.int .i64 l.c.b, .string l.c.s, .int .i64 l.c.d, .bool l.x, .slice l.a l.n l.cap, .bool false, .slice none 0 0] 52)) w.heap.size #[.int .i64 k.c.b, .string k.c.s, .int .i64 k.c.d, .bool k.x, .slice k.a k.n k.cap, .bool false, .slice none 0 0] 52 := (Blk.new w _ _).old _
  clear hk hl hB
  go_enter Tryz.func41, Tryz.ntmps41
  go_wp2_with (go_at_call 19; refine (H.out _ (below2 w _ _)).mono ?_; rintro e w1 ⟨rfl, hb1⟩)
  go_ret
  exact ⟨rfl, (below2 w _ _).via hb1.1 (below2 w _ _).size⟩

set_option maxHeartbeats 8000000 in
theorem compact_none (v : Value) (P : List CC) (w : World) (h : Cuts w v P) (hn : P.length ≤ 2000) (h2 : 2 ≤ P.length) (hd : ∀ (i : Nat) (x y : CC), P[i]? = some x → P[i + 1]? = some y → cmpC y.c x.c ≠ 0) :
    Calls Tryz.prog 40 #[v, .func (.func 41) #[] #[]] w (Ret v w) := by
  obtain ⟨a, c, rfl, hc1, hc2⟩ := Sl.open h.1
  rw [List.length_map] at hc1 h ⊢
  unfold maxLen at hc2
  have HX := Lib.hid h
  have Hd := Lib.hid hd
  clear h hd
  generalize hln : P.length = n at *
  have Hln := Lib.hid hln
  clear hln
  have hn2 : ¬ (n : Int) < 2 := by omega
  go_enter Tryz.func40, Tryz.ntmps40
  go_wp2_with fail
  go_loopw [5] (fun i wr => ∃ k : Nat, 1 ≤ k ∧ k ≤ n ∧ i = .int .i64 (k : Int) ∧ Below w.heap.size w wr) (fun i _ => n - (intOf i).toNat)
  case atStart => exact ⟨1, by omega, by omega, rfl, Below.refl _ _⟩
  case round =>
    obtain ⟨k, hk1, hk, rfl, hbw⟩ := hrel
    rcases Nat.lt_or_ge k n with hlt | hge
    · obtain ⟨j, rfl⟩ : ∃ j, k = j + 1 := ⟨k - 1, by omega⟩
      obtain ⟨b, off, p, rfl, hp, hpok, hpc⟩ := HX.out.at hbw (show j + 1 < n from hlt)
      obtain ⟨b', off', q, hq0, hq, hqok, hqc⟩ := HX.out.at hbw (show j < n by omega)
      cases hq0
      have hkn : ((j + 1 : Nat) : Int) < (n : Int) := by omega
      have hkn2 : (j : Int) + 1 < (n : Int) := by omega
      have hik : IntKind.i64.wrap ((j : Int) + 1) = (j : Int) + 1 := IntWalk.i64_in _ (by omega)
      have hik2 : IntKind.i64.wrap ((j : Int) + 1 + 1) = (j : Int) + 1 + 1 := IntWalk.i64_in _ (by omega)
      have hj2 : IntKind.i64.wrap (j : Int) = j := IntWalk.i64_in _ (by omega)
      have hj3 : (((j + 1 : Nat) : Int) - 1) = (j : Int) := by omega
      have hj4 : (j : Int) < (n : Int) := by omega
      have hj5 : (0 : Int) ≤ (j : Int) := by omega
      have hj6 : (0 : Int) ≤ (j : Int) + 1 := by omega
      have hj7 : ((j : Int) + 1).toNat = j + 1 := by omega
      have hj8 : j + 1 < n := hlt
      have hj9 : j < n := by omega
      have H := Lib.hid (fun w' (hb : Below wr.heap.size wr w') => eqcut_any p q w' (hpok.mono hb) (hqok.mono hb))
      have hne := Hd.out j q p hq hp
      have hne2 : (cmpC p.c q.c == 0) = false := by simpa using hne
      rw [hne2] at H
      unfold CC.agg at H
      have HSx := Lib.hid (fun w' (hb : Below wr.heap.size wr w') => show w'.cell? ⟨b, off + (j + 1) * 7, none⟩ = some (.int .i64 p.c.b) ∧ w'.cell? ⟨b, off + (j + 1) * 7 + 1, none⟩ = some (.string p.c.s) ∧ w'.cell? ⟨b, off + (j + 1) * 7 + 2, none⟩ = some (.int .i64 p.c.d) ∧ w'.cell? ⟨b, off + (j + 1) * 7 + 3, none⟩ = some (.bool p.x) ∧ w'.cell? ⟨b, off + (j + 1) * 7 + 4, none⟩ = some (.slice p.a p.n p.cap) ∧ w'.cell? ⟨b, off + (j + 1) * 7 + 5, none⟩ = some (.bool false) ∧ w'.cell? ⟨b, off + (j + 1) * 7 + 6, none⟩ = some (.slice none 0 0) ∧ w'.cell? ⟨b, off + j * 7, none⟩ = some (.int .i64 q.c.b) ∧ w'.cell? ⟨b, off + j * 7 + 1, none⟩ = some (.string q.c.s) ∧ w'.cell? ⟨b, off + j * 7 + 2, none⟩ = some (.int .i64 q.c.d) ∧ w'.cell? ⟨b, off + j * 7 + 3, none⟩ = some (.bool q.x) ∧ w'.cell? ⟨b, off + j * 7 + 4, none⟩ = some (.slice q.a q.n q.cap) ∧ w'.cell? ⟨b, off + j * 7 + 5, none⟩ = some (.bool false) ∧ w'.cell? ⟨b, off + j * 7 + 6, none⟩ = some (.slice none 0 0) from ⟨cell_keep hb hpc.1, cell_keep hb hpc.2.1, cell_keep hb hpc.2.2.1, cell_keep hb hpc.2.2.2.1, cell_keep hb hpc.2.2.2.2.1, cell_keep hb hpc.2.2.2.2.2.1, cell_keep hb hpc.2.2.2.2.2.2, cell_keep hb hqc.1, cell_keep hb hqc.2.1, cell_keep hb hqc.2.2.1, cell_keep hb hqc.2.2.2.1, cell_keep hb hqc.2.2.2.2.1, cell_keep hb hqc.2.2.2.2.2.1, cell_keep hb hqc.2.2.2.2.2.2⟩)
      have Hbw := Lib.hid hbw
      clear hp hpok hpc hq hqok hqc hne hne2 hbw
      go_wp2_with fail
      refine wp_region_held_drew (S := (fun w' => w'.cell? ⟨b, off + (j + 1) * 7, none⟩ = some (.int .i64 p.c.b) ∧ w'.cell? ⟨b, off + (j + 1) * 7 + 1, none⟩ = some (.string p.c.s) ∧ w'.cell? ⟨b, off + (j + 1) * 7 + 2, none⟩ = some (.int .i64 p.c.d) ∧ w'.cell? ⟨b, off + (j + 1) * 7 + 3, none⟩ = some (.bool p.x) ∧ w'.cell? ⟨b, off + (j + 1) * 7 + 4, none⟩ = some (.slice p.a p.n p.cap) ∧ w'.cell? ⟨b, off + (j + 1) * 7 + 5, none⟩ = some (.bool false) ∧ w'.cell? ⟨b, off + (j + 1) * 7 + 6, none⟩ = some (.slice none 0 0) ∧ w'.cell? ⟨b, off + j * 7, none⟩ = some (.int .i64 q.c.b) ∧ w'.cell? ⟨b, off + j * 7 + 1, none⟩ = some (.string q.c.s) ∧ w'.cell? ⟨b, off + j * 7 + 2, none⟩ = some (.int .i64 q.c.d) ∧ w'.cell? ⟨b, off + j * 7 + 3, none⟩ = some (.bool q.x) ∧ w'.cell? ⟨b, off + j * 7 + 4, none⟩ = some (.slice q.a q.n q.cap) ∧ w'.cell? ⟨b, off + j * 7 + 5, none⟩ = some (.bool false) ∧ w'.cell? ⟨b, off + j * 7 + 6, none⟩ = some (.slice none 0 0))) (by kernel_rfl) (by exact HSx.out _ ((Below.refl _ _).dn 1)) (fun hHeld => ?_)
      refine wpAnyH_take (i := 0) (v := ?v1) rfl (by kernel_rfl) (by kernel_rfl) (by kernel_rfl) (fun _ _ _ h => h) (Or.inl ⟨by rfl, ?hy1⟩) (by assumption) ?rest1
      case hy1 => (intro w hSw; (try dsimp only at hSw); go_simp; try (with_reducible rfl))
      try simp only [Act.put, List.getElem_toArray, List.getElem_cons_zero, List.getElem_cons_succ, List.setIfInBounds_toArray, List.set_cons_zero, List.set_cons_succ]
      refine wpAnyH_take (i := 1) (v := ?v2) rfl (by kernel_rfl) (by kernel_rfl) (by kernel_rfl) (fun _ _ _ h => h) (Or.inl ⟨by rfl, ?hy2⟩) (by assumption) ?rest2
      case hy2 => (intro w hSw; (try dsimp only at hSw); go_simp; try (with_reducible rfl))
      try simp only [Act.put, List.getElem_toArray, List.getElem_cons_zero, List.getElem_cons_succ, List.setIfInBounds_toArray, List.set_cons_zero, List.set_cons_succ]
      refine wpAnyH_take (i := 2) (v := ?v3) rfl (by kernel_rfl) (by kernel_rfl) (by kernel_rfl) (fun _ _ _ h => h) (Or.inl ⟨by rfl, ?hy3⟩) (by assumption) ?rest3
      case hy3 => (intro w hSw; (try dsimp only at hSw); go_simp; try (with_reducible rfl))
      try simp only [Act.put, List.getElem_toArray, List.getElem_cons_zero, List.getElem_cons_succ, List.setIfInBounds_toArray, List.set_cons_zero, List.set_cons_succ]
      refine wpAnyH_take (i := 3) (v := ?v4) rfl (by kernel_rfl) (by kernel_rfl) (by kernel_rfl) (fun _ _ _ h => h) (Or.inl ⟨by rfl, ?hy4⟩) (by assumption) ?rest4
      case hy4 => (intro w hSw; (try dsimp only at hSw); go_simp; try (with_reducible rfl))
      try simp only [Act.put, List.getElem_toArray, List.getElem_cons_zero, List.getElem_cons_succ, List.setIfInBounds_toArray, List.set_cons_zero, List.set_cons_succ]
      refine wpAnyH_take (i := 4) (v := ?v5) rfl (by kernel_rfl) (by kernel_rfl) (by kernel_rfl) (fun _ _ _ h => h) (Or.inl ⟨by rfl, ?hy5⟩) (by assumption) ?rest5
      case hy5 => (intro w hSw; (try dsimp only at hSw); go_simp; try (with_reducible rfl))
      try simp only [Act.put, List.getElem_toArray, List.getElem_cons_zero, List.getElem_cons_succ, List.setIfInBounds_toArray, List.set_cons_zero, List.set_cons_succ]
      refine wpAnyH_take (i := 5) (v := ?v6) rfl (by kernel_rfl) (by kernel_rfl) (by kernel_rfl) (fun _ _ _ h => h) (Or.inl ⟨by rfl, ?hy6⟩) (by assumption) ?rest6
      case hy6 => (intro w hSw; (try dsimp only at hSw); go_simp; try (with_reducible rfl))
      try simp only [Act.put, List.getElem_toArray, List.getElem_cons_zero, List.getElem_cons_succ, List.setIfInBounds_toArray, List.set_cons_zero, List.set_cons_succ]
      refine wpAnyH_take (i := 6) (v := ?v7) rfl (by kernel_rfl) (by kernel_rfl) (by kernel_rfl) (fun _ _ _ h => h) (Or.inl ⟨by rfl, ?hy7⟩) (by assumption) ?rest7
      case hy7 => (intro w hSw; (try dsimp only at hSw); go_simp; try (with_reducible rfl))
      try simp only [Act.put, List.getElem_toArray, List.getElem_cons_zero, List.getElem_cons_succ, List.setIfInBounds_toArray, List.set_cons_zero, List.set_cons_succ]
      refine wpAnyH_take (i := 7) (v := ?v8) rfl (by kernel_rfl) (by kernel_rfl) (by kernel_rfl) (fun _ _ _ h => h) (Or.inl ⟨by rfl, ?hy8⟩) (by assumption) ?rest8
      case hy8 => (intro w hSw; (try dsimp only at hSw); go_simp; try (with_reducible rfl))
      try simp only [Act.put, List.getElem_toArray, List.getElem_cons_zero, List.getElem_cons_succ, List.setIfInBounds_toArray, List.set_cons_zero, List.set_cons_succ]
      refine wpAnyH_take (i := 8) (v := ?v9) rfl (by kernel_rfl) (by kernel_rfl) (by kernel_rfl) (fun _ _ _ h => h) (Or.inl ⟨by rfl, ?hy9⟩) (by assumption) ?rest9
      case hy9 => (intro w hSw; (try dsimp only at hSw); go_simp; try (with_reducible rfl))
      try simp only [Act.put, List.getElem_toArray, List.getElem_cons_zero, List.getElem_cons_succ, List.setIfInBounds_toArray, List.set_cons_zero, List.set_cons_succ]
      refine wpAnyH_take (i := 9) (v := ?v10) rfl (by kernel_rfl) (by kernel_rfl) (by kernel_rfl) (fun _ _ _ h => h) (Or.inl ⟨by rfl, ?hy10⟩) (by assumption) ?rest10
      case hy10 => (intro w hSw; (try dsimp only at hSw); go_simp; try (with_reducible rfl))
      try simp only [Act.put, List.getElem_toArray, List.getElem_cons_zero, List.getElem_cons_succ, List.setIfInBounds_toArray, List.set_cons_zero, List.set_cons_succ]
      refine wpAnyH_ready (rs := [10]) (by kernel_rfl) (by simp) ?_
      refine AllReadyH.cons rfl (fun K hK => ?_) AllReadyH.nil
      go_simp
      go_at_call 41
      refine (H.out _ ((Below.refl _ _).dn 1)).mono ?_
      rintro e5 w10 ⟨rfl, hb10⟩
      have Hb10 := Lib.hid (bw_via ((Below.refl _ _).dn 1) hb10)
      clear hb10
      refine hK.out _ _ (by exact HSx.out _ (Hb10.out)) (fun hHeld => ?_)
      clear hK K
      try simp only [Act.put, List.setIfInBounds_toArray, List.set_cons_zero, List.set_cons_succ]
      refine wpAnyH_done (by kernel_rfl) ?_ _
      go_wp2_with fail
      go_roundw
      case rel => exact ⟨j + 1 + 1, by omega, by omega, by go_num, Hbw.out.via Hb10.out Hbw.out.size⟩
      case measure => simp [intOf] <;> omega
    · obtain rfl : k = n := by omega
      have hkn : ¬ (k : Int) < (k : Int) := by omega
      go_wp2_with fail
      go_ret
      exact ⟨rfl, hbw⟩

end Go.Proofs.YtfmgjcgcocidfaaGreatDoor
