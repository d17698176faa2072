/-
  Parts of the proof: Kg, Ne, Comp, Run, Wk.
-/
import Derived.Test.YtacihodamichhaaGreatDoorN22
import Derived.Test.YtacihodamichhaaGreatDoorN25
namespace Go.Proofs.YtacihodamichhaaGreatDoor
open Go.RowKit
theorem kind_g (k : GC) (side : Int) (w : World) : Calls Tryz.prog 127 #[k.agg, .int .i64 side] w (Ret (.int .i64 (kindOf k.c side)) w) := by
 unfold GC.agg kindOf
 obtain ⟨⟨b, s, d⟩, x, a, n, c, y, e, m, r⟩ := k
 dsimp only
 by_cases hb : b = 0
 ·rw [if_neg (by simpa using hb)]
  have e1 : (b != 0) = false := by simpa using hb
  by_cases hd : d = side
  ·rw [if_pos hd]
   have e2 : (d == side) = true := by simpa using hd
   clear hb hd
   go_enter Tryz.func127, Tryz.ntmps127
   go_wp2_with fail
   go_ret
   exact ⟨rfl, below1 w _⟩
  ·rw [if_neg hd]
   have e2 : (d == side) = false := by simpa using hd
   clear hb hd
   go_enter Tryz.func127, Tryz.ntmps127
   go_wp2_with fail
   go_ret
   exact ⟨rfl, below1 w _⟩
 ·rw [if_pos hb]
  have e1 : (b != 0) = true := by simpa using hb
  clear hb
  go_enter Tryz.func127, Tryz.ntmps127
  go_wp2_with fail
  go_ret
  exact ⟨rfl, below1 w _⟩
def GP.iv (p : GP) : Iv := ⟨p.l.c.s, p.h.c.s, kindOf p.l.c 1, kindOf p.h.c (-1)⟩
set_option maxHeartbeats 16000000 in
set_option maxRecDepth 10000 in
theorem intervals_g (v : Value) (ps : List GP) (w : World) (h : GParts w v ps) (hn : ps.length ≤ 1000) :
  Calls Tryz.prog 76 #[v] w (RetP (fun v w' => ∃ a c, v = .slice a ps.length c ∧ Ivs w' (.slice a ps.length c) (ps.map GP.iv)) w) := by
 obtain ⟨a, c, rfl, hc1, hc2⟩ := h.open
 unfold maxLen at hc2
 have HX := hI h
 clear h
 generalize hln : ps.length = n at *
 have Hln := hI hln
 clear hln
 have HN := hI (fun W : World => World.ownsRow_nil W w.heap.size 46 4)
 go_enter Tryz.func76, Tryz.ntmps76
 go_wp2_with fail
 go_loopw [9, 3] (fun i out wr => ∃ k : Nat, k ≤ n ∧ i = .int .i64 (k : Int) ∧ Below w.heap.size w wr ∧ wr.ownsRow w.heap.size 46 4 out k ((((ps.take k).map GP.iv).map Iv.row).flatten)) (fun i _ _ => n - (intOf i).toNat)
 case atStart => exact ⟨0, by omega, rfl, Below.refl _ _, HN.out _⟩
 case round =>
  obtain ⟨k, hk, rfl, hbw, hown⟩ := hrel
  rcases Nat.lt_or_ge k n with hlt | hge
  ·obtain ⟨b, off, p, rfl, hx, -, cells⟩ := HX.out.at hbw hlt
   obtain ⟨e0, e1, e2, e3, e4, e5, e6, e7, e8, e9, e10, e11, e12, e13⟩ := cells
   have hkn : (k : Int) < (n : Int) := by omega
   have hik : IntKind.i64.wrap ((k : Int) + 1) = (k : Int) + 1 := IntWalk.i64_in _ (by omega)
   have Htk := hI (show ((((ps.take k).map GP.iv).map Iv.row).flatten) ++ Iv.row p.iv = ((((ps.take (k + 1)).map GP.iv).map Iv.row).flatten) by rw [geti hx]; simp)
   have Hbw := hI hbw
   have Hown := hI hown
   have hPB : Blk ((wr.alloc (.cells #[.int .i64 p.l.c.b, .string p.l.c.s, .int .i64 p.l.c.d, .bool p.l.x, .slice p.l.a p.l.n p.l.cap, .bool p.l.y, .slice p.l.e p.l.m p.l.cap2, .int .i64 p.h.c.b, .string p.h.c.s, .int .i64 p.h.c.d, .bool p.h.x, .slice p.h.a p.h.n p.h.cap, .bool p.h.y, .slice p.h.e p.h.m p.h.cap2] 84)).alloc (.cells #[.string p.l.c.s, .string p.h.c.s, .int .i64 0, .int .i64 0] 46)) wr.heap.size #[.int .i64 p.l.c.b, .string p.l.c.s, .int .i64 p.l.c.d, .bool p.l.x, .slice p.l.a p.l.n p.l.cap, .bool p.l.y, .slice p.l.e p.l.m p.l.cap2, .int .i64 p.h.c.b, .string p.h.c.s, .int .i64 p.h.c.d, .bool p.h.x, .slice p.h.a p.h.n p.h.cap, .bool p.h.y, .slice p.h.e p.h.m p.h.cap2] 84 := (Blk.new wr _ _).old _
   have hXB : Blk ((wr.alloc (.cells #[.int .i64 p.l.c.b, .string p.l.c.s, .int .i64 p.l.c.d, .bool p.l.x, .slice p.l.a p.l.n p.l.cap, .bool p.l.y, .slice p.l.e p.l.m p.l.cap2, .int .i64 p.h.c.b, .string p.h.c.s, .int .i64 p.h.c.d, .bool p.h.x, .slice p.h.a p.h.n p.h.cap, .bool p.h.y, .slice p.h.e p.h.m p.h.cap2] 84)).alloc (.cells #[.string p.l.c.s, .string p.h.c.s, .int .i64 0, .int .i64 0] 46)) (wr.heap.size + 1) #[.string p.l.c.s, .string p.h.c.s, .int .i64 0, .int .i64 0] 46 := by
    have h := Blk.new (wr.alloc (.cells #[.int .i64 p.l.c.b, .string p.l.c.s, .int .i64 p.l.c.d, .bool p.l.x, .slice p.l.a p.l.n p.l.cap, .bool p.l.y, .slice p.l.e p.l.m p.l.cap2, .int .i64 p.h.c.b, .string p.h.c.s, .int .i64 p.h.c.d, .bool p.h.x, .slice p.h.a p.h.n p.h.cap, .bool p.h.y, .slice p.h.e p.h.m p.h.cap2] 84)) #[.string p.l.c.s, .string p.h.c.s, .int .i64 0, .int .i64 0] 46
    simpa using h
   have HPB := hI hPB
   have HXB := hI hXB
   have HK2 := hI (below2 wr (.cells #[.int .i64 p.l.c.b, .string p.l.c.s, .int .i64 p.l.c.d, .bool p.l.x, .slice p.l.a p.l.n p.l.cap, .bool p.l.y, .slice p.l.e p.l.m p.l.cap2, .int .i64 p.h.c.b, .string p.h.c.s, .int .i64 p.h.c.d, .bool p.h.x, .slice p.h.a p.h.n p.h.cap, .bool p.h.y, .slice p.h.e p.h.m p.h.cap2] 84) (.cells #[.string p.l.c.s, .string p.h.c.s, .int .i64 0, .int .i64 0] 46))
   have HS := hI (fun w' (hb : Below ((wr.alloc (.cells #[.int .i64 p.l.c.b, .string p.l.c.s, .int .i64 p.l.c.d, .bool p.l.x, .slice p.l.a p.l.n p.l.cap, .bool p.l.y, .slice p.l.e p.l.m p.l.cap2, .int .i64 p.h.c.b, .string p.h.c.s, .int .i64 p.h.c.d, .bool p.h.x, .slice p.h.a p.h.n p.h.cap, .bool p.h.y, .slice p.h.e p.h.m p.h.cap2] 84)).alloc (.cells #[.string p.l.c.s, .string p.h.c.s, .int .i64 0, .int .i64 0] 46)).heap.size ((wr.alloc (.cells #[.int .i64 p.l.c.b, .string p.l.c.s, .int .i64 p.l.c.d, .bool p.l.x, .slice p.l.a p.l.n p.l.cap, .bool p.l.y, .slice p.l.e p.l.m p.l.cap2, .int .i64 p.h.c.b, .string p.h.c.s, .int .i64 p.h.c.d, .bool p.h.x, .slice p.h.a p.h.n p.h.cap, .bool p.h.y, .slice p.h.e p.h.m p.h.cap2] 84)).alloc (.cells #[.string p.l.c.s, .string p.h.c.s, .int .i64 0, .int .i64 0] 46)) w') => cells14 hPB hb)
   have H1 := hI (fun w' => kind_g p.l 1 w')
   have H2 := hI (fun w' => kind_g p.h (-1) w')
   have Hiv := hI (show p.iv = ⟨p.l.c.s, p.h.c.s, kindOf p.l.c 1, kindOf p.h.c (-1)⟩ from rfl)
   generalize kindOf p.l.c 1 = K1 at *
   generalize kindOf p.h.c (-1) = K2 at *
   unfold GC.agg at H1 H2
   clear hx hbw hown hPB hXB
   go_wp2_with fail
   refine wp_region_pop (S := (fun w' => w'.cell? ⟨wr.heap.size, 0, none⟩ = some (.int .i64 p.l.c.b) ∧ w'.cell? ⟨wr.heap.size, 1, none⟩ = some (.string p.l.c.s) ∧ w'.cell? ⟨wr.heap.size, 2, none⟩ = some (.int .i64 p.l.c.d) ∧ w'.cell? ⟨wr.heap.size, 3, none⟩ = some (.bool p.l.x) ∧ w'.cell? ⟨wr.heap.size, 4, none⟩ = some (.slice p.l.a p.l.n p.l.cap) ∧ w'.cell? ⟨wr.heap.size, 5, none⟩ = some (.bool p.l.y) ∧ w'.cell? ⟨wr.heap.size, 6, none⟩ = some (.slice p.l.e p.l.m p.l.cap2) ∧ w'.cell? ⟨wr.heap.size, 7, none⟩ = some (.int .i64 p.h.c.b) ∧ w'.cell? ⟨wr.heap.size, 8, none⟩ = some (.string p.h.c.s) ∧ w'.cell? ⟨wr.heap.size, 9, none⟩ = some (.int .i64 p.h.c.d) ∧ w'.cell? ⟨wr.heap.size, 10, none⟩ = some (.bool p.h.x) ∧ w'.cell? ⟨wr.heap.size, 11, none⟩ = some (.slice p.h.a p.h.n p.h.cap) ∧ w'.cell? ⟨wr.heap.size, 12, none⟩ = some (.bool p.h.y) ∧ w'.cell? ⟨wr.heap.size, 13, none⟩ = some (.slice p.h.e p.h.m p.h.cap2))) 9 (by kernel_rfl) (by kernel_rfl) (by exact HS.out _ ((Below.refl _ _).dn 1)) (fun hHeld => ?_)
   simp only [List.take_succ_cons, List.take_zero, List.drop_succ_cons, List.drop_zero]
   refine wpAnyH_take (i := 0) (v := ?v1) rfl (by kernel_rfl) (by kernel_rfl) (by kernel_rfl) (fun _ _ _ h => h) (Or.inl ⟨by rfl, ?hy1⟩) (by assumption) ?rest1
   case hy1 => (intro w hSw; (try dsimp only at hSw); go_simp; try (with_reducible rfl))
   try simp only [Act.put, List.getElem_toArray, List.getElem_cons_zero, List.setIfInBounds_toArray, List.set_cons_zero, List.set_cons_succ]
   refine' tk 1 ?_; (try simp only [tkS]); refine' tk 3 ?_; (try simp only [tkS]); refine' tk 4 ?_; (try simp only [tkS])
   refine tk1 2 (fun K hK => ?_)
   go_simp
   go_at_call 127
   refine (H1.out _).mono ?_
   rintro e5 w2 ⟨rfl, hb2⟩
   have Hb2 := hI (bw_via ((Below.refl _ _).dn 1) hb2)
   clear hb2
   refine hK.out _ _ (by exact HS.out _ (Hb2.out)) (fun hHeld => ?_)
   clear hK K; (try simp only [tkS])
   refine' tk 6 ?_; (try simp only [tkS])
   refine tk1 5 (fun K hK => ?_)
   go_simp
   go_at_call 127
   refine (H2.out _).mono ?_
   rintro e5 w5 ⟨rfl, hb5⟩
   have Hb5 := hI (bw_via (Hb2.out) hb5)
   clear hb5
   refine hK.out _ _ (by exact HS.out _ (Hb5.out)) (fun hHeld => ?_)
   clear hK K; (try simp only [tkS])
   refine tk1 7 (fun K hK => ?_)
   have Hbk := hI (Hb5.out)
   have hX8 := HXB.out.below Hbk.out
   have HX9 := hX8.set 2 (.int .i64 K1)
   have HX10 := HX9.set 3 (.int .i64 K2)
   simp at HX9 HX10
   have g0 := hX8.free 2
   have g1 := hX8.free 3
   have s2 := hX8.cell 2
   have s3 := hX8.cell 3
   have z2 := HX9.cell 3
   have z3 := HX9.free 3
   simp only [List.getElem?_toArray, List.getElem?_cons_succ, List.getElem?_cons_zero] at s2 s3 z2
   have HX11 := hI HX10
   have HS9 := hI (HS.out _ Hbk.out)
   have Hbk2 := hI ((Hbw.out.via (bw_via HK2.out Hbk.out) Hbw.out.size))
   clear hX8 HX9 HX10
   go_simp
   refine hK.out _ _ (by exact ⟨cell_far HS9.out.1 (show wr.heap.size + 1 ≠ wr.heap.size by omega), cell_far HS9.out.2.1 (show wr.heap.size + 1 ≠ wr.heap.size by omega), cell_far HS9.out.2.2.1 (show wr.heap.size + 1 ≠ wr.heap.size by omega), cell_far HS9.out.2.2.2.1 (show wr.heap.size + 1 ≠ wr.heap.size by omega), cell_far HS9.out.2.2.2.2.1 (show wr.heap.size + 1 ≠ wr.heap.size by omega), cell_far HS9.out.2.2.2.2.2.1 (show wr.heap.size + 1 ≠ wr.heap.size by omega), cell_far HS9.out.2.2.2.2.2.2.1 (show wr.heap.size + 1 ≠ wr.heap.size by omega), cell_far HS9.out.2.2.2.2.2.2.2.1 (show wr.heap.size + 1 ≠ wr.heap.size by omega), cell_far HS9.out.2.2.2.2.2.2.2.2.1 (show wr.heap.size + 1 ≠ wr.heap.size by omega), cell_far HS9.out.2.2.2.2.2.2.2.2.2.1 (show wr.heap.size + 1 ≠ wr.heap.size by omega), cell_far HS9.out.2.2.2.2.2.2.2.2.2.2.1 (show wr.heap.size + 1 ≠ wr.heap.size by omega), cell_far HS9.out.2.2.2.2.2.2.2.2.2.2.2.1 (show wr.heap.size + 1 ≠ wr.heap.size by omega), cell_far HS9.out.2.2.2.2.2.2.2.2.2.2.2.2.1 (show wr.heap.size + 1 ≠ wr.heap.size by omega), cell_far HS9.out.2.2.2.2.2.2.2.2.2.2.2.2.2 (show wr.heap.size + 1 ≠ wr.heap.size by omega)⟩) (fun hHeld => ?_)
   clear hK K; (try simp only [tkS])
   refine' tk 8 ?_; (try simp only [tkS])
   refine tkD ?_ _
   simp only [Exit.then]
   have Hb8 := hI ((Hbk2.out.setCell (p := ⟨wr.heap.size + 1, 2, none⟩) (Nat.le_trans Hbw.out.size (Nat.le_succ _)) (.int .i64 K1)).setCell (p := ⟨wr.heap.size + 1, 3, none⟩) (Nat.le_trans Hbw.out.size (Nat.le_succ _)) (.int .i64 K2))
   have Hb9 := hI (((HK2.out.via Hbk.out HK2.out.size).setCell (p := ⟨wr.heap.size + 1, 2, none⟩) (Nat.le_succ _) (.int .i64 K1)).setCell (p := ⟨wr.heap.size + 1, 3, none⟩) (Nat.le_succ _) (.int .i64 K2))
   have Hown4 := hI (own_below Hown.out Hb9.out)
   obtain ⟨y0, y1, y2, y3⟩ := cells4 HX11.out (Below.refl _ _)
   have hszz : ((w5.setCell ⟨wr.heap.size + 1, 2, none⟩ (.int .i64 K1)).setCell ⟨wr.heap.size + 1, 3, none⟩ (.int .i64 K2)).heap.size = w5.heap.size := by simp
   have Hblk := hI (show (((w5.setCell ⟨wr.heap.size + 1, 2, none⟩ (.int .i64 K1)).setCell ⟨wr.heap.size + 1, 3, none⟩ (.int .i64 K2)).alloc (.cells (Iv.row (⟨p.l.c.s, p.h.c.s, K1, K2⟩ : Iv)).toArray 46)).heap[w5.heap.size]? = some (.cells (Iv.row (⟨p.l.c.s, p.h.c.s, K1, K2⟩ : Iv)).toArray 46 (0, 0)) by have h := Blk.new ((w5.setCell ⟨wr.heap.size + 1, 2, none⟩ (.int .i64 K1)).setCell ⟨wr.heap.size + 1, 3, none⟩ (.int .i64 K2)) (Iv.row (⟨p.l.c.s, p.h.c.s, K1, K2⟩ : Iv)).toArray 46; unfold Blk at h; rw [hszz] at h; exact h)
   have Hown4a := hI (own_below Hown4.out (below1 _ (.cells (Iv.row (⟨p.l.c.s, p.h.c.s, K1, K2⟩ : Iv)).toArray 46)))
   clear hszz
   go_wp2_with (at_builtin; refine wpAppL EI (by decide) (Iv.row (⟨p.l.c.s, p.h.c.s, K1, K2⟩ : Iv)) rfl _ _ rfl w.heap.size _ _ _ _ rfl rfl Hown4a.out Hblk.out rfl (one4 _) (by omega) (by decide) (Nat.le_trans Hb8.out.size (below1 _ _).size) ?_; intro gg cap' w6 hown' hg' _ _; have Hbw3 := hI (below_app Hb8.out Hown4.out hg' Hb8.out.size); have Hown5 := hI hown'; clear hown' hg')
   go_roundw
   case rel => exact ⟨k + 1, by omega, by go_num, Hbw3.out, by have := Hown5.out; rw [← Hiv.out, Htk.out] at this; exact this⟩
   case measure => simp [intOf] <;> omega
  ·obtain rfl : k = n := by omega
   have hkn : ¬ (k : Int) < (k : Int) := by omega
   obtain ⟨aa, cap, rfl, -, -⟩ := own_open hown
   have hprt := own_ivs hown
   rw [List.take_of_length_le (by rw [Hln.out]; exact Nat.le_refl _)] at hprt
   have Hprt := hI hprt
   have Hbw := hI hbw
   clear hown hprt hbw
   go_wp2_with fail
   go_ret
   exact ⟨_, rfl, ⟨aa, cap, rfl, Hprt.out⟩, Hbw.out⟩
end Go.Proofs.YtacihodamichhaaGreatDoor
namespace Go.Proofs.YtacihodamichhaaGreatDoor
def shapeErr : List Iv → Int
 | [] => 0
 | x :: r => if ivErr x ≠ 0 then ivErr x else shapeErr r
def normErr (xs : List Iv) : Int := if 256 < xs.length then 6 else shapeErr xs
theorem shapeErr_ok : ∀ {xs : List Iv}, shapeErr xs = 0 → ∀ x ∈ xs, ivErr x = 0
 | [], _, x, h => by cases h
 | y :: r, he, x, h => by
  unfold shapeErr at he
  split at he
  ·rename_i h1; exact absurd he h1
  ·rename_i h1
   rcases List.mem_cons.1 h with rfl | h
   ·simpa using h1
   ·exact shapeErr_ok he x h
end Go.Proofs.YtacihodamichhaaGreatDoor
namespace Go.Proofs.YtacihodamichhaaGreatDoor
open Go.RowKit
def Cuts (w : World) (v : Value) (P : List CC) : Prop := Sl w 7 v (P.map CC.cells) ∧ ∀ k ∈ P, k.ok w
theorem Cuts.mono {w w' : World} {v : Value} {P : List CC} (h : Cuts w v P) (hb : Below w.heap.size w w') : Cuts w' v P := ⟨Sl.mono h.1 hb, fun p hp => (h.2 p hp).mono hb⟩
def CCells (w : World) (b o : Nat) (k : CC) : Prop := w.cell? ⟨b, o, none⟩ = some (.int .i64 k.c.b) ∧ w.cell? ⟨b, o + 1, none⟩ = some (.string k.c.s) ∧ w.cell? ⟨b, o + 2, none⟩ = some (.int .i64 k.c.d) ∧ w.cell? ⟨b, o + 3, none⟩ = some (.bool k.x) ∧ w.cell? ⟨b, o + 4, none⟩ = some (.slice k.a k.n k.cap) ∧ w.cell? ⟨b, o + 5, none⟩ = some (.bool false) ∧ w.cell? ⟨b, o + 6, none⟩ = some (.slice none 0 0)
theorem Cuts.at {w wr : World} {n cap : Nat} {a : Option Addr} {P : List CC} (h : Cuts w (.slice a n cap) P) (hb : Below w.heap.size w wr) {k : Nat} (hk : k < n) :
  ∃ b off p, a = some ⟨b, off, none⟩ ∧ P[k]? = some p ∧ p.ok wr ∧ CCells wr b (off + k * 7) p := by
 obtain ⟨b, off, ha, hlt, r, hr, hc⟩ := Sl.row h.1 hb hk
 simp only [List.getElem?_map, Option.map_eq_some_iff] at hr
 obtain ⟨l, hl, rfl⟩ := hr
 exact ⟨b, off, l, ha, hl, (h.2 l (List.mem_of_getElem? hl)).mono hb, hc 0 (by decide), hc 1 (by decide), hc 2 (by decide), hc 3 (by decide), hc 4 (by decide), hc 5 (by decide), hc 6 (by decide)⟩
set_option maxHeartbeats 4000000 in
theorem eqcut_any (k l : CC) (w : World) (hk : k.ok w) (hl : l.ok w) : Calls Tryz.prog 135 #[k.agg, l.agg] w (Ret (.bool (cmpC k.c l.c == 0)) w) := by
 have H := hI (fun w' (hb : Below w.heap.size w w') => cutcmp_d k l w' (hk.mono hb) (hl.mono hb))
 unfold CC.agg at H ⊢
 generalize cmpC k.c l.c = R at *
 have hB : Blk ((w.alloc (.cells #[.int .i64 k.c.b, .string k.c.s, .int .i64 k.c.d, .bool k.x, .slice k.a k.n k.cap, .bool false, .slice none 0 0] 79)).alloc (.cells #[.int .i64 l.c.b, .string l.c.s, .int .i64 l.c.d, .bool l.x, .slice l.a l.n l.cap, .bool false, .slice none 0 0] 79)) w.heap.size #[.int .i64 k.c.b, .string k.c.s, .int .i64 k.c.d, .bool k.x, .slice k.a k.n k.cap, .bool false, .slice none 0 0] 79 := (Blk.new w _ _).old _
 clear hk hl hB
 go_enter Tryz.func135, Tryz.ntmps135
 go_wp2_with (go_at_call 73; refine (H.out _ (below2 w _ _)).mono ?_; rintro e w1 ⟨rfl, hb1⟩)
 go_ret
 exact ⟨rfl, (below2 w _ _).via hb1.1 (below2 w _ _).size⟩
set_option maxHeartbeats 8000000 in
theorem compact_none (v : Value) (P : List CC) (w : World) (h : Cuts w v P) (hn : P.length ≤ 2000) (h2 : 2 ≤ P.length) (hd : ∀ (i : Nat) (x y : CC), P[i]? = some x → P[i + 1]? = some y → cmpC y.c x.c ≠ 0) :
  Calls Tryz.prog 134 #[v, .func (.func 135) #[] #[]] w (Ret v w) := by
 obtain ⟨a, c, rfl, hc1, hc2⟩ := Sl.open h.1
 rw [List.length_map] at hc1 h ⊢
 unfold maxLen at hc2
 have HX := hI h
 have Hd := hI hd
 clear h hd
 generalize hln : P.length = n at *
 have Hln := hI hln
 clear hln
 have hn2 : ¬ (n : Int) < 2 := by omega
 go_enter Tryz.func134, Tryz.ntmps134
 go_wp2_with fail
 go_loopw [5] (fun i wr => ∃ k : Nat, 1 ≤ k ∧ k ≤ n ∧ i = .int .i64 (k : Int) ∧ Below w.heap.size w wr) (fun i _ => n - (intOf i).toNat)
 case atStart => exact ⟨1, by omega, by omega, rfl, Below.refl _ _⟩
 case round =>
  obtain ⟨k, hk1, hk, rfl, hbw⟩ := hrel
  rcases Nat.lt_or_ge k n with hlt | hge
  ·obtain ⟨j, rfl⟩ : ∃ j, k = j + 1 := ⟨k - 1, by omega⟩
   obtain ⟨b, off, p, rfl, hp, hpok, hpc⟩ := HX.out.at hbw (show j + 1 < n from hlt)
   obtain ⟨b', off', q, hq0, hq, hqok, hqc⟩ := HX.out.at hbw (show j < n by omega)
   cases hq0
   have hkn : ((j + 1 : Nat) : Int) < (n : Int) := by omega
   have hkn2 : (j : Int) + 1 < (n : Int) := by omega
   have hik : IntKind.i64.wrap ((j : Int) + 1) = (j : Int) + 1 := IntWalk.i64_in _ (by omega)
   have hik2 : IntKind.i64.wrap ((j : Int) + 1 + 1) = (j : Int) + 1 + 1 := IntWalk.i64_in _ (by omega)
   have hj2 : IntKind.i64.wrap (j : Int) = j := IntWalk.i64_in _ (by omega)
   have hj3 : (((j + 1 : Nat) : Int) - 1) = (j : Int) := by omega
   have hj4 : (j : Int) < (n : Int) := by omega
   have hj5 : (0 : Int) ≤ (j : Int) := by omega
   have hj6 : (0 : Int) ≤ (j : Int) + 1 := by omega
   have hj7 : ((j : Int) + 1).toNat = j + 1 := by omega
   have hj8 : j + 1 < n := hlt
   have hj9 : j < n := by omega
   have H := hI (fun w' (hb : Below wr.heap.size wr w') => eqcut_any p q w' (hpok.mono hb) (hqok.mono hb))
   have hne := Hd.out j q p hq hp
   have hne2 : (cmpC p.c q.c == 0) = false := by simpa using hne
   rw [hne2] at H
   unfold CC.agg at H
   have HSx := hI (fun w' (hb : Below wr.heap.size wr w') => show w'.cell? ⟨b, off + (j + 1) * 7, none⟩ = some (.int .i64 p.c.b) ∧ w'.cell? ⟨b, off + (j + 1) * 7 + 1, none⟩ = some (.string p.c.s) ∧ w'.cell? ⟨b, off + (j + 1) * 7 + 2, none⟩ = some (.int .i64 p.c.d) ∧ w'.cell? ⟨b, off + (j + 1) * 7 + 3, none⟩ = some (.bool p.x) ∧ w'.cell? ⟨b, off + (j + 1) * 7 + 4, none⟩ = some (.slice p.a p.n p.cap) ∧ w'.cell? ⟨b, off + (j + 1) * 7 + 5, none⟩ = some (.bool false) ∧ w'.cell? ⟨b, off + (j + 1) * 7 + 6, none⟩ = some (.slice none 0 0) ∧ w'.cell? ⟨b, off + j * 7, none⟩ = some (.int .i64 q.c.b) ∧ w'.cell? ⟨b, off + j * 7 + 1, none⟩ = some (.string q.c.s) ∧ w'.cell? ⟨b, off + j * 7 + 2, none⟩ = some (.int .i64 q.c.d) ∧ w'.cell? ⟨b, off + j * 7 + 3, none⟩ = some (.bool q.x) ∧ w'.cell? ⟨b, off + j * 7 + 4, none⟩ = some (.slice q.a q.n q.cap) ∧ w'.cell? ⟨b, off + j * 7 + 5, none⟩ = some (.bool false) ∧ w'.cell? ⟨b, off + j * 7 + 6, none⟩ = some (.slice none 0 0) from ⟨cell_keep hb hpc.1, cell_keep hb hpc.2.1, cell_keep hb hpc.2.2.1, cell_keep hb hpc.2.2.2.1, cell_keep hb hpc.2.2.2.2.1, cell_keep hb hpc.2.2.2.2.2.1, cell_keep hb hpc.2.2.2.2.2.2, cell_keep hb hqc.1, cell_keep hb hqc.2.1, cell_keep hb hqc.2.2.1, cell_keep hb hqc.2.2.2.1, cell_keep hb hqc.2.2.2.2.1, cell_keep hb hqc.2.2.2.2.2.1, cell_keep hb hqc.2.2.2.2.2.2⟩)
   have Hbw := hI hbw
   clear hp hpok hpc hq hqok hqc hne hne2 hbw
   go_wp2_with fail
   refine wp_region_held_drew (S := (fun w' => w'.cell? ⟨b, off + (j + 1) * 7, none⟩ = some (.int .i64 p.c.b) ∧ w'.cell? ⟨b, off + (j + 1) * 7 + 1, none⟩ = some (.string p.c.s) ∧ w'.cell? ⟨b, off + (j + 1) * 7 + 2, none⟩ = some (.int .i64 p.c.d) ∧ w'.cell? ⟨b, off + (j + 1) * 7 + 3, none⟩ = some (.bool p.x) ∧ w'.cell? ⟨b, off + (j + 1) * 7 + 4, none⟩ = some (.slice p.a p.n p.cap) ∧ w'.cell? ⟨b, off + (j + 1) * 7 + 5, none⟩ = some (.bool false) ∧ w'.cell? ⟨b, off + (j + 1) * 7 + 6, none⟩ = some (.slice none 0 0) ∧ w'.cell? ⟨b, off + j * 7, none⟩ = some (.int .i64 q.c.b) ∧ w'.cell? ⟨b, off + j * 7 + 1, none⟩ = some (.string q.c.s) ∧ w'.cell? ⟨b, off + j * 7 + 2, none⟩ = some (.int .i64 q.c.d) ∧ w'.cell? ⟨b, off + j * 7 + 3, none⟩ = some (.bool q.x) ∧ w'.cell? ⟨b, off + j * 7 + 4, none⟩ = some (.slice q.a q.n q.cap) ∧ w'.cell? ⟨b, off + j * 7 + 5, none⟩ = some (.bool false) ∧ w'.cell? ⟨b, off + j * 7 + 6, none⟩ = some (.slice none 0 0))) (by kernel_rfl) (by exact HSx.out _ ((Below.refl _ _).dn 1)) (fun hHeld => ?_)
   refine wpAnyH_take (i := 0) (v := ?v1) rfl (by kernel_rfl) (by kernel_rfl) (by kernel_rfl) (fun _ _ _ h => h) (Or.inl ⟨by rfl, ?hy1⟩) (by assumption) ?rest1
   case hy1 => (intro w hSw; (try dsimp only at hSw); go_simp; try (with_reducible rfl))
   try simp only [Act.put, List.getElem_toArray, List.getElem_cons_zero, List.setIfInBounds_toArray, List.set_cons_zero, List.set_cons_succ]
   refine' tk 1 ?_; (try simp only [tkS]); refine' tk 2 ?_; (try simp only [tkS]); refine' tk 3 ?_; (try simp only [tkS]); refine' tk 4 ?_; (try simp only [tkS]); refine' tk 5 ?_; (try simp only [tkS]); refine' tk 6 ?_; (try simp only [tkS]); refine' tk 7 ?_; (try simp only [tkS]); refine' tk 8 ?_; (try simp only [tkS]); refine' tk 9 ?_; (try simp only [tkS])
   refine tk1 10 (fun K hK => ?_)
   go_simp
   go_at_call 135
   refine (H.out _ ((Below.refl _ _).dn 1)).mono ?_
   rintro e5 w10 ⟨rfl, hb10⟩
   have Hb10 := hI (bw_via ((Below.refl _ _).dn 1) hb10)
   clear hb10
   refine hK.out _ _ (by exact HSx.out _ (Hb10.out)) (fun hHeld => ?_)
   clear hK K; (try simp only [tkS])
   refine tkD ?_ _
   go_wp2_with fail
   go_roundw
   case rel => exact ⟨j + 1 + 1, by omega, by omega, by go_num, Hbw.out.via Hb10.out Hbw.out.size⟩
   case measure => simp [intOf] <;> omega
  ·obtain rfl : k = n := by omega
   have hkn : ¬ (k : Int) < (k : Int) := by omega
   go_wp2_with fail
   go_ret
   exact ⟨rfl, hbw⟩
end Go.Proofs.YtacihodamichhaaGreatDoor
namespace Go.Proofs.YtacihodamichhaaGreatDoor
open Go.RowKit
abbrev PC := Cut × Cut
def dropTo (low : Cut) : List PC → List PC
 | [] => []
 | p :: r => if cmpC p.2 low ≤ 0 then dropTo low r else p :: r
def begun (low : Cut) : List PC → Bool
 | [] => false
 | p :: _ => decide (cmpC p.1 low ≤ 0)
def nextO (keep : Bool → Bool → Bool) (low high : Cut) (X Y O : List PC) : List PC := if keep (begun low (dropTo low X)) (begun low (dropTo low Y)) = true then O ++ [(low, high)] else O
def runC (keep : Bool → Bool → Bool) : List Cut → List PC → List PC → List PC → List PC
 | low :: high :: r, X, Y, O => runC keep (high :: r) (dropTo low X) (dropTo low Y) (nextO keep low high X Y O)
 | [_], _, _, O => O
 | [], _, _, O => O
def NoMerge (keep : Bool → Bool → Bool) : List Cut → List PC → List PC → List PC → Prop
 | low :: high :: r, X, Y, O => (keep (begun low (dropTo low X)) (begun low (dropTo low Y)) = true → ∀ q, O.getLast? = some q → cmpC q.2 low ≠ 0) ∧ NoMerge keep (high :: r) (dropTo low X) (dropTo low Y) (nextO keep low high X Y O)
 | [_], _, _, _ => True
 | [], _, _, _ => True
def lowest : Cut := ⟨-1, ⟨#[]⟩, 0⟩
def highest : Cut := ⟨1, ⟨#[]⟩, 0⟩
def placesOf (l : List PC) : List Cut := [lowest, highest] ++ (l.map fun p => [p.1, p.2]).flatten
def ivOf (p : PC) : Iv := ⟨p.1.s, p.2.s, kindOf p.1 1, kindOf p.2 (-1)⟩
theorem sorted_unique : ∀ (P l : List Cut), P.Pairwise CLt → l.Pairwise (fun x y => ¬ CLt y x) → l.Perm P → l = P
 | [], l, _, _, h => List.Perm.eq_nil h
 | p :: P, l, hP, hl, h => by
  cases l with
  | nil => exact absurd h.symm.eq_nil (by simp)
  | cons a l' =>
   have hap : a = p := by
    rcases List.mem_cons.1 (h.mem_iff.1 (List.mem_cons_self ..)) with h1 | h1
    ·exact h1
    ·have h2 : CLt p a := (List.pairwise_cons.1 hP).1 a h1
     rcases List.mem_cons.1 (h.symm.mem_iff.1 (List.mem_cons_self ..)) with h3 | h3
     ·exact h3.symm
     ·exact absurd h2 ((List.pairwise_cons.1 hl).1 p h3)
   subst hap
   rw [sorted_unique P l' (List.pairwise_cons.1 hP).2 (List.pairwise_cons.1 hl).2 (List.Perm.cons_inv h)]
theorem pairwise_of_index {α : Type} {R : α → α → Prop} : ∀ {l : List α}, (∀ (i j : Nat) (x y : α), i < j → l[i]? = some x → l[j]? = some y → R x y) → l.Pairwise R
 | [], _ => List.Pairwise.nil
 | a :: l, h => List.Pairwise.cons (fun y hy => by
   obtain ⟨j, hj⟩ := List.mem_iff_getElem?.1 hy
   exact h 0 (j + 1) a y (by omega) rfl (by simpa using hj)) (pairwise_of_index fun i j x y hij hx hy => h (i + 1) (j + 1) x y (by omega) (by simpa using hx) (by simpa using hy))
theorem index_of_pairwise {α : Type} {R : α → α → Prop} {l : List α} (h : l.Pairwise R) {i j : Nat} {x y : α} (hij : i < j) (hx : l[i]? = some x) (hy : l[j]? = some y) : R x y := by
 obtain ⟨hi, rfl⟩ := List.getElem?_eq_some_iff.1 hx
 obtain ⟨hj, rfl⟩ := List.getElem?_eq_some_iff.1 hy
 exact List.pairwise_iff_getElem.1 h i j hi hj hij
end Go.Proofs.YtacihodamichhaaGreatDoor
namespace Go.Proofs.YtacihodamichhaaGreatDoor
open Go.RowKit
theorem bwD (w : World) : Below w.heap.size w (w.drewN 1) := (Below.refl _ _).dn 1
theorem bwA {w W : World} (h : Below w.heap.size w W) (o : Obj) : Below w.heap.size w (W.alloc o) := h.alloc h.size o
end Go.Proofs.YtacihodamichhaaGreatDoor
