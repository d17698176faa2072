/-
  Parts of the proof: Comb.
-/
import Derived.Test.YtacihodamichhaaGreatDoorU14
namespace Go.Proofs.YtacihodamichhaaGreatDoor
open Go.RowKit
theorem concat_n (b c : Nat) (ax ay : Option Addr) (nx cx ny cy : Nat) (px py : List PP) (w : World) (hB : Blk w b #[.slice ax nx cx, .slice ay ny cy] 80) (hx : Parts w (.slice ax nx cx) px) (hy : Parts w (.slice ay ny cy) py) (hnx : nx ≤ 300) (hny : ny ≤ 300) :
  Calls Tryz.prog 132 #[.slice (some ⟨b, 0, none⟩) 2 c] w (RetP (fun v w' => w'.ownsRow w.heap.size 84 14 v (nx + ny) (((px ++ py).map PP.row).flatten)) w) := by
 have hx' := hx
 obtain ⟨_, _, hv, _, _⟩ := hx.open
 obtain ⟨_, _, hv', _, _⟩ := hy.open
 have e1 : nx = px.length := by cases hv; rfl
 have e2 : ny = py.length := by cases hv'; rfl
 rw [e1] at hnx ⊢
 rw [e2] at hny ⊢
 exact concat_any b c _ _ px py w hB hx hy hnx hny
def kLow : CC := ⟨lowest, false, none, 0, 0⟩
def kHigh : CC := ⟨highest, false, none, 0, 0⟩
theorem kLow_ok (w : World) : kLow.ok w := ⟨IntV.zero w, AU.none w⟩
theorem kHigh_ok (w : World) : kHigh.ok w := ⟨IntV.zero w, AU.none w⟩
theorem wpApp2 {ops : Array Oper} {rest : List Oper} {o : Oper} {a : Act} {Q : Exit → Act → World → Prop} {W : World} (hgd : o.guard = none) (s x : Operand) (ho : o.op = .call { callee := .builtin .append, args := #[s, x], argTypes := #[68, 68] })
  (B n : Nat) (v : Value) (xs : List Value) (k l : CC) (g : Nat) (hs : a.eval s = v) (hx : a.eval x = .slice (some ⟨g, 0, none⟩) 2 2) (hown : W.ownsRow B 79 7 v n xs) (hblk : W.heap[g]? = some (.cells (k.cells ++ l.cells).toArray 79 (0, 0))) (hn : n < 1000000) (hB : B ≤ W.heap.size)
  (h : ∀ v' w', w'.ownsRow B 79 7 v' (n + 2) (xs ++ (k.cells ++ l.cells)) → W.grownBy w' v.ownBlock → wpList Tryz.prog ops Q rest (a.put o.dst v') w') : wpList Tryz.prog ops Q (o :: rest) a W := by
 have hi := EC.info
 simp only [Option.map_eq_some_iff, Prod.mk.injEq] at hi
 obtain ⟨i, hi, ⟨z, hz, hzs⟩, hsize, hby⟩ := hi
 refine wpList_append_own _ hgd s x 68 ho B 79 i z 7 96 EC.und hi hz hsize hby hzs (by decide) v n _ hs hown ⟨g, 0, none⟩ 2 2 (k.cells ++ l.cells) hx rfl (World.news_of_block (cs := (k.cells ++ l.cells).toArray) (t := 79) (fr := (0, 0)) (by simpa using hblk)) ?_ (by unfold maxLen; omega) (by omega) hB (fun v' w' a1 a2 _ => h v' w' a1 a2)
 intro u hu
 rcases List.mem_append.1 hu with h | h
 ·exact one7 k u h
 ·exact one7 l u h
theorem own_low (w : World) : (w.alloc (.cells #[.int .i64 (-1), .string ⟨#[]⟩, .int .i64 0, .bool false, .slice none 0 0, .bool false, .slice none 0 0, .int .i64 1, .string ⟨#[]⟩, .int .i64 0, .bool false, .slice none 0 0, .bool false, .slice none 0 0] 79)).ownsRow w.heap.size 79 7 (.slice (some ⟨w.heap.size, 0, none⟩) 2 2) 2 (([kLow, kHigh].map CC.cells).flatten) :=
 ⟨rfl, .inr ⟨w.heap.size, 2, _, rfl, Nat.le_refl _, Blk.new w _ _, Nat.le_refl _, by unfold maxLen; omega, rfl, rfl⟩⟩
def kcuts (ps : List PP) : List CC := [kLow, kHigh] ++ (ps.map fun p => [p.l, p.h]).flatten
theorem sort_n (P : List CC) (N : Nat) (hN : P.length = N) (w : World) (B g cap : Nat) (hne : P ≠ []) (hown : w.ownsRow B 79 7 (.slice (some ⟨g, 0, none⟩) N cap) N ((P.map CC.cells).flatten)) (hok : ∀ k ∈ P, k.ok w) (hsz : N < 4611686018427387904) :
  Calls Tryz.prog 133 #[.slice (some ⟨g, 0, none⟩) N cap, .func (.func 73) #[] #[]] w (fun e w' => e = .returned (.tuple #[]) ∧ w.grownBy w' (some g) ∧ ∃ P' : List CC, P'.Perm P ∧ (∀ (i j : Nat) (x y : CC), i < j → P'[i]? = some x → P'[j]? = some y → ¬ CLt y.c x.c) ∧ Cuts w' (.slice (some ⟨g, 0, none⟩) N cap) P') := by
 subst hN
 exact (sort_cuts P w B g cap hne hown hok hsz).mono fun e w' ⟨h1, h2, P', h3, h4, h5, h6⟩ => ⟨h1, h2, P', h3, h4, h5, h6⟩
theorem pairwise_map_of {P : List CC} (h : ∀ (i j : Nat) (x y : CC), i < j → P[i]? = some x → P[j]? = some y → ¬ CLt y.c x.c) : (P.map CC.c).Pairwise (fun x y => ¬ CLt y x) := by
 refine pairwise_of_index fun i j x y hij hx hy => ?_
 simp only [List.getElem?_map, Option.map_eq_some_iff] at hx hy
 obtain ⟨a, ha, rfl⟩ := hx
 obtain ⟨b, hb, rfl⟩ := hy
 exact h i j a b hij ha hb
theorem adj_ne {P' : List CC} {P : List Cut} (h : P'.map CC.c = P) (hP : P.Pairwise CLt) : ∀ (i : Nat) (x y : CC), P'[i]? = some x → P'[i + 1]? = some y → cmpC y.c x.c ≠ 0 := by
 intro i x y hx hy
 have h1 : P[i]? = some x.c := by rw [← h, List.getElem?_map, hx]; rfl
 have h2 : P[i + 1]? = some y.c := by rw [← h, List.getElem?_map, hy]; rfl
 have := cmpC_gt.2 (index_of_pairwise hP (Nat.lt_succ_self i) h1 h2)
 omega
theorem bw_refl (w : World) : Below w.heap.size w w := Below.refl _ _
theorem Blk.drew {w : World} {b : Nat} {cs : Array Value} {T : TypeId} (h : Blk w b cs T) : Blk w.drew b cs T := h
theorem bw_dn (w : World) : Below w.heap.size w (w.drewN 1) := (Below.refl _ _).dn 1
theorem bw_alloc {w W : World} (h : Below w.heap.size w W) (o : Obj) : Below w.heap.size w (W.alloc o) := h.alloc h.size o
theorem Parts.tail {w : World} {b off nr cq : Nat} {p : PP} {r : List PP} (h : Parts w (.slice (some ⟨b, off, none⟩) (nr + 1) cq) (p :: r)) : Parts w (.slice (if cq = 1 then some ⟨b, off, none⟩ else some ⟨b, off + 14, none⟩) nr (cq - 1)) r := by
 refine ⟨?_, fun q hq => h.2 q (List.mem_cons_of_mem _ hq)⟩
 obtain ⟨a, cap, hv, hc, hm, hh⟩ := h.1
 have hv' := hv
 simp only [List.map_cons, List.length_cons, List.length_map, Value.slice.injEq] at hv'
 obtain ⟨ha, hn, hcc⟩ := hv'
 simp only [List.map_cons, List.length_cons, List.length_map] at hc
 have hnr : nr = r.length := by omega
 refine ⟨_, _, by rw [List.length_map, hnr], by rw [List.length_map]; omega, by omega, ?_⟩
 by_cases h1 : cq = 1
 ·left; omega
 ·rw [if_neg h1]
  rcases hh with h0 | ⟨b', off', hb', hlt, hcell⟩
  ·left; omega
  ·rw [← ha] at hb'
   cases hb'
   refine .inr ⟨b, off + 14, rfl, hlt, fun i j hi hj => ?_⟩
   have := hcell (i + 1) j (by simpa using hi) hj
   rw [show off + 14 + i * 14 + j = off + (i + 1) * 14 + j by omega, this]
   simp
theorem step_inv {keep : Bool → Bool → Bool} {P : List Cut} {j : Nat} {lo hi : Cut} {X Y X' Y' O F : List PC} (hPd : P.drop j = lo :: hi :: P.drop (j + 2)) (hX : X' = dropTo lo X) (hY : Y' = dropTo lo Y) (hr : runC keep (P.drop j) X Y O = F) (hn : NoMerge keep (P.drop j) X Y O) :
  runC keep (P.drop (j + 1)) X' Y' (if keep (begun lo X') (begun lo Y') = true then O ++ [(lo, hi)] else O) = F ∧ NoMerge keep (P.drop (j + 1)) X' Y' (if keep (begun lo X') (begun lo Y') = true then O ++ [(lo, hi)] else O) ∧ (keep (begun lo X') (begun lo Y') = true → ∀ q, O.getLast? = some q → cmpC q.2 lo ≠ 0) := by
 have h1 : P.drop (j + 1) = hi :: P.drop (j + 2) := by
  have h2 : P.drop (j + 1) = (P.drop j).drop 1 := by rw [List.drop_drop]
  rw [h2, hPd]; rfl
 subst hX hY
 rw [hPd] at hr hn
 rw [h1]
 exact ⟨hr, hn.2, hn.1⟩
theorem kcuts_len (l : List PP) : (kcuts l).length = 2 + 2 * l.length := by
 unfold kcuts
 induction l with
 | nil => rfl
 | cons p l ih => simp at ih ⊢; omega
theorem kcuts_snoc (l : List PP) (p : PP) : ((kcuts l).map CC.cells).flatten ++ (p.l.cells ++ p.h.cells) = ((kcuts (l ++ [p])).map CC.cells).flatten := by simp [kcuts]
theorem kcuts_c (l : List PP) : (kcuts l).map CC.c = placesOf (l.map PP.cuts) := by
 unfold kcuts placesOf
 induction l with
 | nil => rfl
 | cons p l ih => simp [kLow, kHigh, PP.cuts] at ih ⊢; exact ih
theorem kcuts_ok {l : List PP} {w : World} (h : ∀ p ∈ l, p.ok w) : ∀ k ∈ kcuts l, k.ok w := by
 intro k hk
 unfold kcuts at hk
 rcases List.mem_append.1 hk with h1 | h1
 ·simp at h1
  rcases h1 with rfl | rfl
  ·exact kLow_ok w
  ·exact kHigh_ok w
 ·obtain ⟨r, hr, hkr⟩ := List.mem_flatten.1 h1
  obtain ⟨p, hp, rfl⟩ := List.mem_map.1 hr
  simp at hkr
  rcases hkr with rfl | rfl
  ·exact (h p hp).1
  ·exact (h p hp).2
set_option maxHeartbeats 16000000 in
set_option maxRecDepth 10000 in
theorem comb_any (g : Nat) (keep : Bool → Bool → Bool) (hkeep : ∀ (p q : Bool) (W : World), Calls Tryz.prog g #[.bool p, .bool q] W (Ret (.bool (keep p q)) W)) (heg : ∀ args w, (callFunc g args).run Tryz.prog w = .ok (.enter g args) w) (u v : Value) (xs ys : List Iv) (w : World) (hx : Ivs w u xs) (hy : Ivs w v ys) (hokx : ∀ x ∈ xs, x.ok) (hoky : ∀ x ∈ ys, x.ok) (hsx : SetOk (xs.map Iv.cuts)) (hsy : SetOk (ys.map Iv.cuts)) (hnx : xs.length ≤ 256) (hny : ys.length ≤ 256)
  (P : List Cut) (hP : P.Pairwise CLt) (hperm : (placesOf ((xs ++ ys).map Iv.cuts)).Perm P) (F : List PC) (hF : runC keep P (xs.map Iv.cuts) (ys.map Iv.cuts) [] = F) (hNM : NoMerge keep P (xs.map Iv.cuts) (ys.map Iv.cuts) []) :
  Calls Tryz.prog 91 #[u, v, .func (.func g) #[] #[]] w (RetP (fun r w' => (256 < F.length ∧ r = .tuple #[.slice none 0 0, .int .i64 6]) ∨ (F.length ≤ 256 ∧ ∃ a c, r = .tuple #[.slice a F.length c, .int .i64 0] ∧ Ivs w' (.slice a F.length c) (F.map ivOf))) w) := by
 have HPX := hI (fun w' (hb : Below w.heap.size w w') => parts_any u xs w' (hx.mono hb) hokx hsx hnx)
 have HPY := hI (fun w' (hb : Below w.heap.size w w') => parts_any v ys w' (hy.mono hb) hoky hsy hny)
 have hnn : ∀ (l : List PP), l.map PP.cuts = xs.map Iv.cuts → l.length ≤ 256 := fun l h => by have := congrArg List.length h; simp at this; omega
 have hnn2 : ∀ (l : List PP), l.map PP.cuts = ys.map Iv.cuts → l.length ≤ 256 := fun l h => by have := congrArg List.length h; simp at this; omega
 have HN := hI (And.intro hnn hnn2)
 have HPP := hI (And.intro hP hperm)
 have HFF := hI (And.intro hF hNM)
 have HKeep := hI hkeep
 clear hF hNM hkeep
 clear hx hy hokx hoky hsx hsy hnx hny hnn hnn2 hP hperm
 go_enter Tryz.func91, Tryz.ntmps91
 go_wp2_with (first
  | (go_at_call 56; have _t := Hb1; clear _t; refine (HPY.out _ Hb1.out).mono ?_; rintro e w2 ⟨r2, rfl, ⟨ay, cy, py, rfl, hpy, hcy⟩, hb2⟩; have Hpy := hI hpy; have Hcy := hI hcy; have Hb2 := hI hb2; obtain ⟨ny, hny⟩ : ∃ n, py.length = n := ⟨_, rfl⟩; rw [hny] at Hpy; rw [hny]; have Hny := hI hny; clear hpy hcy hb2 hny)
  | (go_at_call 56; refine (HPX.out _ (Below.refl _ _)).mono ?_; rintro e w1 ⟨r1, rfl, ⟨ax, cx, px, rfl, hpx, hcx⟩, hb1⟩; have Hpx := hI hpx; have Hcx := hI hcx; have Hb1 := hI hb1; obtain ⟨nx, hnx⟩ : ∃ n, px.length = n := ⟨_, rfl⟩; rw [hnx] at Hpx; rw [hnx]; have Hnx := hI hnx; clear hpx hcx hb1 hnx)
  | (go_at_call 132; have Hbl := hI (below2 w2 (.cells #[.int .i64 (-1), .string ⟨#[]⟩, .int .i64 0, .bool false, .slice none 0 0, .bool false, .slice none 0 0, .int .i64 1, .string ⟨#[]⟩, .int .i64 0, .bool false, .slice none 0 0, .bool false, .slice none 0 0] 79) (.cells #[.slice ax nx cx, .slice ay ny cy] 80)); have hB3 : Blk ((w2.alloc (.cells #[.int .i64 (-1), .string ⟨#[]⟩, .int .i64 0, .bool false, .slice none 0 0, .bool false, .slice none 0 0, .int .i64 1, .string ⟨#[]⟩, .int .i64 0, .bool false, .slice none 0 0, .bool false, .slice none 0 0] 79)).alloc (.cells #[.slice ax nx cx, .slice ay ny cy] 80)) (w2.heap.size + 1) #[.slice ax nx cx, .slice ay ny cy] 80 := (by have h := Blk.new (w2.alloc (.cells #[.int .i64 (-1), .string ⟨#[]⟩, .int .i64 0, .bool false, .slice none 0 0, .bool false, .slice none 0 0, .int .i64 1, .string ⟨#[]⟩, .int .i64 0, .bool false, .slice none 0 0, .bool false, .slice none 0 0] 79)) #[.slice ax nx cx, .slice ay ny cy] 80; simpa using h); refine (concat_n (w2.heap.size + 1) 2 ax ay nx cx ny cy px py _ hB3 (Hpx.out.mono (bw_via Hb2.out Hbl.out)) (Hpy.out.mono Hbl.out) (by have := HN.out.1 px Hcx.out; have := Hnx.out; omega) (by have := HN.out.2 py Hcy.out; have := Hny.out; omega)).mono ?_; rintro e w3 ⟨v3, rfl, hown3, hb3⟩; obtain ⟨n3, hn3⟩ : ∃ n, nx + ny = n := ⟨_, rfl⟩; rw [hn3] at hown3; obtain ⟨a3, c3, rfl, hc3, -⟩ := own_open hown3; have Hown3 := hI hown3; have Hb3 := hI hb3; have Hn3 := hI hn3; clear hown3 hb3 hn3))
 go_loopw [45, 11] (fun i out wr => ∃ k : Nat, k ≤ n3 ∧ i = .int .i64 (k : Int) ∧ Below w2.heap.size w2 wr ∧ wr.ownsRow w2.heap.size 84 14 (.slice a3 n3 c3) n3 (((px ++ py).map PP.row).flatten) ∧ wr.ownsRow w2.heap.size 79 7 out (2 + 2 * k) (((kcuts ((px ++ py).take k)).map CC.cells).flatten)) (fun i _ _ => n3 - (intOf i).toNat)
 case atStart => exact ⟨0, by omega, rfl, (bw_via (below2 w2 (.cells #[.int .i64 (-1), .string ⟨#[]⟩, .int .i64 0, .bool false, .slice none 0 0, .bool false, .slice none 0 0, .int .i64 1, .string ⟨#[]⟩, .int .i64 0, .bool false, .slice none 0 0, .bool false, .slice none 0 0] 79) (.cells #[.slice ax nx cx, .slice ay ny cy] 80)) Hb3.out), own_base Hown3.out (by simp <;> omega), own_below (own_low w2) (bw_via (below1 (w2.alloc (.cells #[.int .i64 (-1), .string ⟨#[]⟩, .int .i64 0, .bool false, .slice none 0 0, .bool false, .slice none 0 0, .int .i64 1, .string ⟨#[]⟩, .int .i64 0, .bool false, .slice none 0 0, .bool false, .slice none 0 0] 79)) (.cells #[.slice ax nx cx, .slice ay ny cy] 80)) Hb3.out)⟩
 case round =>
  obtain ⟨k, hk, rfl, hbw, hown, hplc⟩ := hrel
  rcases Nat.lt_or_ge k n3 with hlt | hge
  ·have hprt := own_parts hown (fun q hq => by
    rcases List.mem_append.1 hq with h | h
    ·exact ((Hpx.out.2 q h).mono Hb2.out).mono hbw
    ·exact (Hpy.out.2 q h).mono hbw)
   obtain ⟨g3, off, p, ha3, hp, hpok, cells⟩ := Parts.at hprt (Below.refl _ _) hlt
   have hoff : off = 0 := by
    obtain ⟨g', hg'⟩ := own_some hown (by omega)
    rw [ha3] at hg'
    cases hg'
    rfl
   subst ha3 hoff
   rw [Nat.zero_add] at cells
   obtain ⟨e0, e1, e2, e3, e4, e5, e6, e7, e8, e9, e10, e11, e12, e13⟩ := cells
   obtain ⟨ao, co, rfl, hco, -⟩ := own_open hplc
   have hn31 := Hn3.out
   have hnx1 := HN.out.1 px Hcx.out
   have hny1 := HN.out.2 py Hcy.out
   have hnx2 := Hnx.out
   have hny2 := Hny.out
   have hnle : n3 ≤ 512 := by omega
   have hkn : (k : Int) < (n3 : Int) := by omega
   have hik : IntKind.i64.wrap ((k : Int) + 1) = (k : Int) + 1 := IntWalk.i64_in _ (by omega)
   have Htk := hI (show ((kcuts ((px ++ py).take k)).map CC.cells).flatten ++ (p.l.cells ++ p.h.cells) = ((kcuts ((px ++ py).take (k + 1))).map CC.cells).flatten by rw [geti hp, kcuts_snoc])
   have hBn : ((wr.alloc (.cells #[.int .i64 p.l.c.b, .string p.l.c.s, .int .i64 p.l.c.d, .bool p.l.x, .slice p.l.a p.l.n p.l.cap, .bool false, .slice none 0 0, .int .i64 p.h.c.b, .string p.h.c.s, .int .i64 p.h.c.d, .bool p.h.x, .slice p.h.a p.h.n p.h.cap, .bool false, .slice none 0 0] 84)).alloc (.cells #[.int .i64 p.l.c.b, .string p.l.c.s, .int .i64 p.l.c.d, .bool p.l.x, .slice p.l.a p.l.n p.l.cap, .bool false, .slice none 0 0, .int .i64 p.h.c.b, .string p.h.c.s, .int .i64 p.h.c.d, .bool p.h.x, .slice p.h.a p.h.n p.h.cap, .bool false, .slice none 0 0] 79)).heap[wr.heap.size + 1]? = some (.cells (p.l.cells ++ p.h.cells).toArray 79 (0, 0)) := by
    have h := Blk.new (wr.alloc (.cells #[.int .i64 p.l.c.b, .string p.l.c.s, .int .i64 p.l.c.d, .bool p.l.x, .slice p.l.a p.l.n p.l.cap, .bool false, .slice none 0 0, .int .i64 p.h.c.b, .string p.h.c.s, .int .i64 p.h.c.d, .bool p.h.x, .slice p.h.a p.h.n p.h.cap, .bool false, .slice none 0 0] 84)) #[.int .i64 p.l.c.b, .string p.l.c.s, .int .i64 p.l.c.d, .bool p.l.x, .slice p.l.a p.l.n p.l.cap, .bool false, .slice none 0 0, .int .i64 p.h.c.b, .string p.h.c.s, .int .i64 p.h.c.d, .bool p.h.x, .slice p.h.a p.h.n p.h.cap, .bool false, .slice none 0 0] 79
    unfold Blk at h
    simpa [CC.cells] using h
   have HBn := hI hBn
   have Hpl := hI (own_below hplc (below2 wr (.cells #[.int .i64 p.l.c.b, .string p.l.c.s, .int .i64 p.l.c.d, .bool p.l.x, .slice p.l.a p.l.n p.l.cap, .bool false, .slice none 0 0, .int .i64 p.h.c.b, .string p.h.c.s, .int .i64 p.h.c.d, .bool p.h.x, .slice p.h.a p.h.n p.h.cap, .bool false, .slice none 0 0] 84) (.cells #[.int .i64 p.l.c.b, .string p.l.c.s, .int .i64 p.l.c.d, .bool p.l.x, .slice p.l.a p.l.n p.l.cap, .bool false, .slice none 0 0, .int .i64 p.h.c.b, .string p.h.c.s, .int .i64 p.h.c.d, .bool p.h.x, .slice p.h.a p.h.n p.h.cap, .bool false, .slice none 0 0] 79)))
   have Hpl0 := hI hplc
   have Hown := hI (own_below hown (below2 wr (.cells #[.int .i64 p.l.c.b, .string p.l.c.s, .int .i64 p.l.c.d, .bool p.l.x, .slice p.l.a p.l.n p.l.cap, .bool false, .slice none 0 0, .int .i64 p.h.c.b, .string p.h.c.s, .int .i64 p.h.c.d, .bool p.h.x, .slice p.h.a p.h.n p.h.cap, .bool false, .slice none 0 0] 84) (.cells #[.int .i64 p.l.c.b, .string p.l.c.s, .int .i64 p.l.c.d, .bool p.l.x, .slice p.l.a p.l.n p.l.cap, .bool false, .slice none 0 0, .int .i64 p.h.c.b, .string p.h.c.s, .int .i64 p.h.c.d, .bool p.h.x, .slice p.h.a p.h.n p.h.cap, .bool false, .slice none 0 0] 79)))
   have Hbw := hI hbw
   clear hn31 hnx1 hny1 hnx2 hny2 hBn hplc hown hbw hprt hp hpok
   go_wp2_with (at_builtin; refine wpApp2 rfl _ _ rfl w2.heap.size _ _ _ p.l p.h (wr.heap.size + 1) rfl rfl Hpl.out HBn.out (by omega) (Nat.le_trans Hbw.out.size (below2 wr _ _).size) ?_; intro v' w5 hown' hg'; have Hbw3 := hI (Below.grown (Hbw.out.via (below2 wr (.cells #[.int .i64 p.l.c.b, .string p.l.c.s, .int .i64 p.l.c.d, .bool p.l.x, .slice p.l.a p.l.n p.l.cap, .bool false, .slice none 0 0, .int .i64 p.h.c.b, .string p.h.c.s, .int .i64 p.h.c.d, .bool p.h.x, .slice p.h.a p.h.n p.h.cap, .bool false, .slice none 0 0] 84) (.cells #[.int .i64 p.l.c.b, .string p.l.c.s, .int .i64 p.l.c.d, .bool p.l.x, .slice p.l.a p.l.n p.l.cap, .bool false, .slice none 0 0, .int .i64 p.h.c.b, .string p.h.c.s, .int .i64 p.h.c.d, .bool p.h.x, .slice p.h.a p.h.n p.h.cap, .bool false, .slice none 0 0] 79)) Hbw.out.size) hg' (Nat.le_trans Hbw.out.size (below2 wr (.cells #[.int .i64 p.l.c.b, .string p.l.c.s, .int .i64 p.l.c.d, .bool p.l.x, .slice p.l.a p.l.n p.l.cap, .bool false, .slice none 0 0, .int .i64 p.h.c.b, .string p.h.c.s, .int .i64 p.h.c.d, .bool p.h.x, .slice p.h.a p.h.n p.h.cap, .bool false, .slice none 0 0] 84) (.cells #[.int .i64 p.l.c.b, .string p.l.c.s, .int .i64 p.l.c.d, .bool p.l.x, .slice p.l.a p.l.n p.l.cap, .bool false, .slice none 0 0, .int .i64 p.h.c.b, .string p.h.c.s, .int .i64 p.h.c.d, .bool p.h.x, .slice p.h.a p.h.n p.h.cap, .bool false, .slice none 0 0] 79)).size) (fun k hk => (Hpl.out.lt k hk).1)); have Hown5 := hI hown'; have Hown6 := hI (own_kept_e Hown.out Hpl.out (by decide) hg'); clear hown' hg')
   go_roundw
   case rel => exact ⟨k + 1, by omega, by go_num, Hbw3.out, Hown6.out, by have := Hown5.out; rw [Htk.out] at this; exact this⟩
   case measure => simp [intOf] <;> omega
  ·obtain rfl : k = n3 := by omega
   have hkn : ¬ (k : Int) < (k : Int) := by omega
   have hn31 := Hn3.out
   have hnx1 := HN.out.1 px Hcx.out
   have hny1 := HN.out.2 py Hcy.out
   have hnx2 := Hnx.out
   have hny2 := Hny.out
   have hnle : k ≤ 512 := by omega
   have hpql : (px ++ py).length = k := by rw [List.length_append]; omega
   rw [List.take_of_length_le (by rw [hpql]; exact Nat.le_refl _)] at hplc
   obtain ⟨ao, co, rfl, hco, -⟩ := own_open hplc
   obtain ⟨gp, rfl⟩ := own_some hplc (by omega)
   obtain ⟨N, hN⟩ : ∃ N, 2 + 2 * k = N := ⟨_, rfl⟩
   have hN2 : N ≤ 1026 := by omega
   have hN3 : 2 ≤ N := by omega
   rw [hN] at hplc hco ⊢
   have hkl : (kcuts (px ++ py)).length = N := by rw [kcuts_len, hpql, hN]
   have hkok := kcuts_ok (l := px ++ py) (w := wr) (fun q hq => by
    rcases List.mem_append.1 hq with h | h
    ·exact ((Hpx.out.2 q h).mono Hb2.out).mono hbw
    ·exact (Hpy.out.2 q h).mono hbw)
   have hkc : ((kcuts (px ++ py)).map CC.c).Perm P := by
    rw [kcuts_c, List.map_append, Hcx.out, Hcy.out, ← List.map_append]
    exact HPP.out.2
   have HS := hI (sort_n (kcuts (px ++ py)) N hkl wr _ gp co (by unfold kcuts; simp) hplc hkok (by omega))
   have HKc := hI (And.intro hkc hkl)
   have Hpl := hI hplc
   have Hbw := hI hbw
   clear hn31 hnx1 hny1 hnx2 hny2 hkc hkok hplc hown hkl hpql hbw hN
   have hNw : IntKind.i64.wrap ((N : Int) - 1) = (N : Int) - 1 := IntWalk.i64_in _ (by omega)
   go_wp2_with (first
    | (go_at_call 133; refine (HS.out).mono ?_; rintro e w6 ⟨rfl, hg6, P', hperm', hsort', hcuts'⟩; have Hb6 := hI (Below.grown Hbw.out hg6 Hbw.out.size (fun q hq => (Hpl.out.lt q (by rw [← hq]; rfl)).1)); have hPm := sorted_unique P (P'.map CC.c) HPP.out.1 (pairwise_map_of hsort') ((hperm'.map CC.c).trans HKc.out.1); have hPl : P'.length = N := hperm'.length_eq.trans HKc.out.2; have HCo := hI (compact_none _ P' w6 hcuts' (by omega) (by omega) (adj_ne hPm HPP.out.1)); have Hcuts := hI hcuts'; have HPm := hI hPm; have HPl := hI hPl; clear hg6 hperm' hsort' hcuts' hPm hPl)
    | (go_at_call 134; refine (HCo.out).mono ?_; rintro e w7 ⟨rfl, hb7⟩; have Hb7 := hI hb7; clear hb7))
   have HKN := hI (fun W : World => World.ownsRow_nil W w7.heap.size 84 14)
   have HX7 := hI ((Hpx.out.mono Hb2.out).mono (bw_via Hb6.out Hb7.out))
   have HY7 := hI (Hpy.out.mono (bw_via Hb6.out Hb7.out))
   have Hcu7 := hI (Hcuts.out.mono Hb7.out)
   have Hbase := hI (((Hb1.out.via Hb2.out Hb1.out.size).via Hb6.out (Nat.le_trans Hb1.out.size Hb2.out.size)).via Hb7.out (Nat.le_trans (Nat.le_trans Hb1.out.size Hb2.out.size) Hb6.out.size))
   clear Hown3 Hb3 Hpl Hbw HS HKc HCo Hpx Hpy Hcuts hco
   go_loopw [64, 8, 10, 14] (fun i xv yv out wr => ∃ (j nO : Nat) (XP YP OP : List PP), j + 1 ≤ N ∧ i = .int .i64 (j : Int) ∧ Parts w7 xv XP ∧ Parts w7 yv YP ∧ wr.ownsRow w7.heap.size 84 14 out nO ((OP.map PP.row).flatten) ∧ Below w7.heap.size w7 wr ∧ Hid (OP.length = nO ∧ nO ≤ j ∧ XP.length ≤ 300 ∧ YP.length ≤ 300 ∧ (∀ p ∈ OP, p.ok wr) ∧ runC keep (P.drop j) (XP.map PP.cuts) (YP.map PP.cuts) (OP.map PP.cuts) = F ∧ NoMerge keep (P.drop j) (XP.map PP.cuts) (YP.map PP.cuts) (OP.map PP.cuts))) (fun i _ _ _ _ => N - (intOf i).toNat)
   case atStart => exact ⟨0, 0, px, py, [], by omega, rfl, HX7.out, HY7.out, HKN.out _, Below.refl _ _, rfl, by omega, by have := HN.out.1 px Hcx.out; omega, by have := HN.out.2 py Hcy.out; omega, fun p hp => by simp at hp, by rw [Hcx.out, Hcy.out]; exact HFF.out.1, by rw [Hcx.out, Hcy.out]; exact HFF.out.2⟩
   case round =>
    obtain ⟨j, nO, XP, YP, OP, hjN, rfl, hXP, hYP, hown, hbw, hinv⟩ := hrel
    rcases Nat.lt_or_ge (j + 1) N with hlt | hge
    ·obtain ⟨bb, off, lo, hbb, hlo, hlook, hloc⟩ := Hcu7.out.at hbw (show j < N by omega)
     cases hbb
     obtain ⟨bb, off, hi, hbb, hhi, hhiok, hhic⟩ := Hcu7.out.at hbw (show j + 1 < N from hlt)
     cases hbb
     rw [Nat.zero_add] at hloc hhic
     have hPd : P.drop j = lo.c :: hi.c :: P.drop (j + 2) := by
      have h1 : P[j]? = some lo.c := by rw [← HPm.out, List.getElem?_map, hlo]; rfl
      have h2 : P[j + 1]? = some hi.c := by rw [← HPm.out, List.getElem?_map, hhi]; rfl
      obtain ⟨g1, e1⟩ := List.getElem?_eq_some_iff.1 h1
      obtain ⟨g2, e2⟩ := List.getElem?_eq_some_iff.1 h2
      rw [List.drop_eq_getElem_cons g1, List.drop_eq_getElem_cons g2, e1, e2]
     have hjn : (j : Int) < (N : Int) - 1 := by omega
     have hjn2 : (j : Int) < (N : Int) := by omega
     have hjn3 : (j : Int) + 1 < (N : Int) := by omega
     have hj0 : (0 : Int) ≤ (j : Int) := by omega
     have hj1 : (0 : Int) ≤ (j : Int) + 1 := by omega
     have hjw : IntKind.i64.wrap ((j : Int) + 1) = (j : Int) + 1 := IntWalk.i64_in _ (by omega)
     have hjt : ((j : Int) + 1).toNat = j + 1 := by omega
     have HPd := hI hPd
     have Hlk := hI (And.intro hlook hhiok)
     have HSx := hI (fun w' (hb : Below wr.heap.size wr w') => show w'.cell? ⟨gp, j * 7, none⟩ = some (.int .i64 lo.c.b) ∧ w'.cell? ⟨gp, j * 7 + 1, none⟩ = some (.string lo.c.s) ∧ w'.cell? ⟨gp, j * 7 + 2, none⟩ = some (.int .i64 lo.c.d) ∧ w'.cell? ⟨gp, j * 7 + 3, none⟩ = some (.bool lo.x) ∧ w'.cell? ⟨gp, j * 7 + 4, none⟩ = some (.slice lo.a lo.n lo.cap) ∧ w'.cell? ⟨gp, j * 7 + 5, none⟩ = some (.bool false) ∧ w'.cell? ⟨gp, j * 7 + 6, none⟩ = some (.slice none 0 0) ∧ w'.cell? ⟨gp, (j + 1) * 7, none⟩ = some (.int .i64 hi.c.b) ∧ w'.cell? ⟨gp, (j + 1) * 7 + 1, none⟩ = some (.string hi.c.s) ∧ w'.cell? ⟨gp, (j + 1) * 7 + 2, none⟩ = some (.int .i64 hi.c.d) ∧ w'.cell? ⟨gp, (j + 1) * 7 + 3, none⟩ = some (.bool hi.x) ∧ w'.cell? ⟨gp, (j + 1) * 7 + 4, none⟩ = some (.slice hi.a hi.n hi.cap) ∧ w'.cell? ⟨gp, (j + 1) * 7 + 5, none⟩ = some (.bool false) ∧ w'.cell? ⟨gp, (j + 1) * 7 + 6, none⟩ = some (.slice none 0 0) from ⟨cell_keep hb hloc.1, cell_keep hb hloc.2.1, cell_keep hb hloc.2.2.1, cell_keep hb hloc.2.2.2.1, cell_keep hb hloc.2.2.2.2.1, cell_keep hb hloc.2.2.2.2.2.1, cell_keep hb hloc.2.2.2.2.2.2, cell_keep hb hhic.1, cell_keep hb hhic.2.1, cell_keep hb hhic.2.2.1, cell_keep hb hhic.2.2.2.1, cell_keep hb hhic.2.2.2.2.1, cell_keep hb hhic.2.2.2.2.2.1, cell_keep hb hhic.2.2.2.2.2.2⟩)
     have HXP := hI hXP
     have HYP := hI hYP
     have Hown := hI hown
     have Hbw := hI hbw
     clear hPd hlook hloc hhiok hhic hXP hYP hown hbw hlo hhi
     go_upto_region 19 with fail
     go_cut [16, 17] from 65 to 157 (fun a16 a17 wx => ∃ b16 b17 : Nat, a16 = .pointer (some ⟨b16, 0, none⟩) ∧ a17 = .pointer (some ⟨b17, 0, none⟩) ∧ Below wr.heap.size wr wx ∧ Blk wx b16 #[.int .i64 lo.c.b, .string lo.c.s, .int .i64 lo.c.d, .bool lo.x, .slice lo.a lo.n lo.cap, .bool false, .slice none 0 0] 79 ∧ Blk wx b17 #[.int .i64 hi.c.b, .string hi.c.s, .int .i64 hi.c.d, .bool hi.x, .slice hi.a hi.n hi.cap, .bool false, .slice none 0 0] 79)
     case first =>
      refine wp_region_held_drew (S := (fun w' => w'.cell? ⟨gp, j * 7, none⟩ = some (.int .i64 lo.c.b) ∧ w'.cell? ⟨gp, j * 7 + 1, none⟩ = some (.string lo.c.s) ∧ w'.cell? ⟨gp, j * 7 + 2, none⟩ = some (.int .i64 lo.c.d) ∧ w'.cell? ⟨gp, j * 7 + 3, none⟩ = some (.bool lo.x) ∧ w'.cell? ⟨gp, j * 7 + 4, none⟩ = some (.slice lo.a lo.n lo.cap) ∧ w'.cell? ⟨gp, j * 7 + 5, none⟩ = some (.bool false) ∧ w'.cell? ⟨gp, j * 7 + 6, none⟩ = some (.slice none 0 0) ∧ w'.cell? ⟨gp, (j + 1) * 7, none⟩ = some (.int .i64 hi.c.b) ∧ w'.cell? ⟨gp, (j + 1) * 7 + 1, none⟩ = some (.string hi.c.s) ∧ w'.cell? ⟨gp, (j + 1) * 7 + 2, none⟩ = some (.int .i64 hi.c.d) ∧ w'.cell? ⟨gp, (j + 1) * 7 + 3, none⟩ = some (.bool hi.x) ∧ w'.cell? ⟨gp, (j + 1) * 7 + 4, none⟩ = some (.slice hi.a hi.n hi.cap) ∧ w'.cell? ⟨gp, (j + 1) * 7 + 5, none⟩ = some (.bool false) ∧ w'.cell? ⟨gp, (j + 1) * 7 + 6, none⟩ = some (.slice none 0 0))) (by kernel_rfl) (by exact HSx.out _ (bw_refl wr).drew) (fun hHeld => ?_)
      refine wpAnyH_take (i := 0) (v := ?v1) rfl (by kernel_rfl) (by kernel_rfl) (by kernel_rfl) (fun _ _ _ h => h) (Or.inl ⟨by rfl, ?hy1⟩) (by assumption) ?rest1
      case hy1 => (intro w hSw; (try dsimp only at hSw); go_simp; try (with_reducible rfl))
      try simp only [Act.put, List.getElem_toArray, List.getElem_cons_zero, List.setIfInBounds_toArray, List.set_cons_zero, List.set_cons_succ]
      refine' tk 1 ?_; (try simp only [tkS]); refine' tk 2 ?_; (try simp only [tkS]); refine' tk 3 ?_; (try simp only [tkS]); refine' tk 4 ?_; (try simp only [tkS]); refine' tk 5 ?_; (try simp only [tkS]); refine' tk 6 ?_; (try simp only [tkS]); refine' tk 7 ?_; (try simp only [tkS]); refine' tk 8 ?_; (try simp only [tkS])
      refine wpAnyH_ready (rs := [9, 10]) (by kernel_rfl) (by simp) ?_
      refine AllReadyH.cons rfl (fun K hK => ?_) (AllReadyH.cons rfl (fun K hK => ?_) AllReadyH.nil)
      ·go_simp
       refine hK.out _ _ (by exact HSx.out _ (bw_alloc (bw_refl wr) (.cells #[.int .i64 0, .string ⟨#[]⟩, .int .i64 0, .bool false, .slice none 0 0, .bool false, .slice none 0 0] 79)).drew) (fun hHeld => ?_)
       clear hK K; (try simp only [tkS])
       refine tk1 10 (fun K hK => ?_)
       go_simp
       refine hK.out _ _ (by exact HSx.out _ (bw_alloc (bw_alloc (bw_refl wr) (.cells #[.int .i64 0, .string ⟨#[]⟩, .int .i64 0, .bool false, .slice none 0 0, .bool false, .slice none 0 0] 79)) (.cells #[.int .i64 0, .string ⟨#[]⟩, .int .i64 0, .bool false, .slice none 0 0, .bool false, .slice none 0 0] 79)).drew) (fun hHeld => ?_)
       clear hK K; (try simp only [tkS])
       refine tk1 11 (fun K hK => ?_)
       go_simp
       refine hK.out _ _ (by exact HSx.out _ (bw_alloc (bw_alloc (bw_refl wr) (.cells #[.int .i64 lo.c.b, .string lo.c.s, .int .i64 lo.c.d, .bool lo.x, .slice lo.a lo.n lo.cap, .bool false, .slice none 0 0] 79)) (.cells #[.int .i64 0, .string ⟨#[]⟩, .int .i64 0, .bool false, .slice none 0 0, .bool false, .slice none 0 0] 79)).drew) (fun hHeld => ?_)
       clear hK K; (try simp only [tkS])
       refine tk1 12 (fun K hK => ?_)
       go_simp
       refine hK.out _ _ (by exact HSx.out _ (bw_alloc (bw_alloc (bw_refl wr) (.cells #[.int .i64 lo.c.b, .string lo.c.s, .int .i64 lo.c.d, .bool lo.x, .slice lo.a lo.n lo.cap, .bool false, .slice none 0 0] 79)) (.cells #[.int .i64 hi.c.b, .string hi.c.s, .int .i64 hi.c.d, .bool hi.x, .slice hi.a hi.n hi.cap, .bool false, .slice none 0 0] 79)).drew) (fun hHeld => ?_)
       clear hK K; (try simp only [tkS])
       refine tkD ?_ _
       go_wp2_with fail
       go_meet
       have h16 : Blk ((wr.alloc (.cells #[.int .i64 lo.c.b, .string lo.c.s, .int .i64 lo.c.d, .bool lo.x, .slice lo.a lo.n lo.cap, .bool false, .slice none 0 0] 79)).alloc (.cells #[.int .i64 hi.c.b, .string hi.c.s, .int .i64 hi.c.d, .bool hi.x, .slice hi.a hi.n hi.cap, .bool false, .slice none 0 0] 79)) wr.heap.size #[.int .i64 lo.c.b, .string lo.c.s, .int .i64 lo.c.d, .bool lo.x, .slice lo.a lo.n lo.cap, .bool false, .slice none 0 0] 79 := (Blk.new wr _ _).old _
       have h17 : Blk ((wr.alloc (.cells #[.int .i64 lo.c.b, .string lo.c.s, .int .i64 lo.c.d, .bool lo.x, .slice lo.a lo.n lo.cap, .bool false, .slice none 0 0] 79)).alloc (.cells #[.int .i64 hi.c.b, .string hi.c.s, .int .i64 hi.c.d, .bool hi.x, .slice hi.a hi.n hi.cap, .bool false, .slice none 0 0] 79)) (wr.heap.size + 1) #[.int .i64 hi.c.b, .string hi.c.s, .int .i64 hi.c.d, .bool hi.x, .slice hi.a hi.n hi.cap, .bool false, .slice none 0 0] 79 := by
        have h := Blk.new (wr.alloc (.cells #[.int .i64 lo.c.b, .string lo.c.s, .int .i64 lo.c.d, .bool lo.x, .slice lo.a lo.n lo.cap, .bool false, .slice none 0 0] 79)) #[.int .i64 hi.c.b, .string hi.c.s, .int .i64 hi.c.d, .bool hi.x, .slice hi.a hi.n hi.cap, .bool false, .slice none 0 0] 79
        simpa using h
       exact ⟨wr.heap.size, wr.heap.size + 1, rfl, rfl, (bw_alloc (bw_alloc (bw_refl wr) (.cells #[.int .i64 lo.c.b, .string lo.c.s, .int .i64 lo.c.d, .bool lo.x, .slice lo.a lo.n lo.cap, .bool false, .slice none 0 0] 79)) (.cells #[.int .i64 hi.c.b, .string hi.c.s, .int .i64 hi.c.d, .bool hi.x, .slice hi.a hi.n hi.cap, .bool false, .slice none 0 0] 79)).drew, Blk.drew h16, Blk.drew h17⟩
      ·go_simp
       refine hK.out _ _ (by exact HSx.out _ (bw_alloc (bw_refl wr) (.cells #[.int .i64 0, .string ⟨#[]⟩, .int .i64 0, .bool false, .slice none 0 0, .bool false, .slice none 0 0] 79)).drew) (fun hHeld => ?_)
       clear hK K; (try simp only [tkS])
       refine tk1 9 (fun K hK => ?_)
       go_simp
       refine hK.out _ _ (by exact HSx.out _ (bw_alloc (bw_alloc (bw_refl wr) (.cells #[.int .i64 0, .string ⟨#[]⟩, .int .i64 0, .bool false, .slice none 0 0, .bool false, .slice none 0 0] 79)) (.cells #[.int .i64 0, .string ⟨#[]⟩, .int .i64 0, .bool false, .slice none 0 0, .bool false, .slice none 0 0] 79)).drew) (fun hHeld => ?_)
       clear hK K; (try simp only [tkS])
       refine tk1 11 (fun K hK => ?_)
       go_simp
       refine hK.out _ _ (by exact HSx.out _ (bw_alloc (bw_alloc (bw_refl wr) (.cells #[.int .i64 0, .string ⟨#[]⟩, .int .i64 0, .bool false, .slice none 0 0, .bool false, .slice none 0 0] 79)) (.cells #[.int .i64 lo.c.b, .string lo.c.s, .int .i64 lo.c.d, .bool lo.x, .slice lo.a lo.n lo.cap, .bool false, .slice none 0 0] 79)).drew) (fun hHeld => ?_)
       clear hK K; (try simp only [tkS])
       refine tk1 12 (fun K hK => ?_)
       go_simp
       refine hK.out _ _ (by exact HSx.out _ (bw_alloc (bw_alloc (bw_refl wr) (.cells #[.int .i64 hi.c.b, .string hi.c.s, .int .i64 hi.c.d, .bool hi.x, .slice hi.a hi.n hi.cap, .bool false, .slice none 0 0] 79)) (.cells #[.int .i64 lo.c.b, .string lo.c.s, .int .i64 lo.c.d, .bool lo.x, .slice lo.a lo.n lo.cap, .bool false, .slice none 0 0] 79)).drew) (fun hHeld => ?_)
       clear hK K; (try simp only [tkS])
       refine tkD ?_ _
       go_wp2_with fail
       go_meet
       have h17 : Blk ((wr.alloc (.cells #[.int .i64 hi.c.b, .string hi.c.s, .int .i64 hi.c.d, .bool hi.x, .slice hi.a hi.n hi.cap, .bool false, .slice none 0 0] 79)).alloc (.cells #[.int .i64 lo.c.b, .string lo.c.s, .int .i64 lo.c.d, .bool lo.x, .slice lo.a lo.n lo.cap, .bool false, .slice none 0 0] 79)) wr.heap.size #[.int .i64 hi.c.b, .string hi.c.s, .int .i64 hi.c.d, .bool hi.x, .slice hi.a hi.n hi.cap, .bool false, .slice none 0 0] 79 := (Blk.new wr _ _).old _
       have h16 : Blk ((wr.alloc (.cells #[.int .i64 hi.c.b, .string hi.c.s, .int .i64 hi.c.d, .bool hi.x, .slice hi.a hi.n hi.cap, .bool false, .slice none 0 0] 79)).alloc (.cells #[.int .i64 lo.c.b, .string lo.c.s, .int .i64 lo.c.d, .bool lo.x, .slice lo.a lo.n lo.cap, .bool false, .slice none 0 0] 79)) (wr.heap.size + 1) #[.int .i64 lo.c.b, .string lo.c.s, .int .i64 lo.c.d, .bool lo.x, .slice lo.a lo.n lo.cap, .bool false, .slice none 0 0] 79 := by
        have h := Blk.new (wr.alloc (.cells #[.int .i64 hi.c.b, .string hi.c.s, .int .i64 hi.c.d, .bool hi.x, .slice hi.a hi.n hi.cap, .bool false, .slice none 0 0] 79)) #[.int .i64 lo.c.b, .string lo.c.s, .int .i64 lo.c.d, .bool lo.x, .slice lo.a lo.n lo.cap, .bool false, .slice none 0 0] 79
        simpa using h
       exact ⟨wr.heap.size + 1, wr.heap.size, rfl, rfl, (bw_alloc (bw_alloc (bw_refl wr) (.cells #[.int .i64 hi.c.b, .string hi.c.s, .int .i64 hi.c.d, .bool hi.x, .slice hi.a hi.n hi.cap, .bool false, .slice none 0 0] 79)) (.cells #[.int .i64 lo.c.b, .string lo.c.s, .int .i64 lo.c.d, .bool lo.x, .slice lo.a lo.n lo.cap, .bool false, .slice none 0 0] 79)).drew, Blk.drew h16, Blk.drew h17⟩
     case rest =>
      obtain ⟨b16, b17, rfl, rfl, hbx, hB16, hB17⟩ := hcut
      have Hbx := hI hbx
      have HB17 := hI hB17
      have HB16 := hI hB16
      go_upto_block 4 with fail
      go_cut [8] from 65 to 157 (fun xv wx => ∃ XQ : List PP, Parts w7 xv XQ ∧ XQ.map PP.cuts = dropTo lo.c (XP.map PP.cuts) ∧ XQ.length ≤ XP.length ∧ Below wc.heap.size wc wx)
      case first =>
       go_wp2_with fail
       go_loopw [8] (fun xv wz => ∃ XQ : List PP, Parts w7 xv XQ ∧ Below wc.heap.size wc wz ∧ Hid (dropTo lo.c (XQ.map PP.cuts) = dropTo lo.c (XP.map PP.cuts) ∧ XQ.length ≤ XP.length)) (fun xv _ => match xv with | .slice _ n _ => n | _ => 0)
       case atStart => exact ⟨XP, HXP.out, Below.refl _ _, rfl, Nat.le_refl _⟩
       case round =>
        obtain ⟨XQ, hXQ, hbz, hq⟩ := hrel
        obtain ⟨aq, cq, rfl, hcq, hcq2⟩ := hXQ.open
        unfold maxLen at hcq2
        cases XQ with
        | nil =>
         rw [List.length_nil]
         have Hbz := hI hbz
         have HXQ := hI hXQ
         clear hXQ hbz
         go_upto_region 20 with fail
         refine wp_region_held_drew (S := (fun _ => True)) (by kernel_rfl) (by exact trivial) (fun hHeld => ?_)
         refine wpAnyH_take (i := 0) (v := ?v10) rfl (by kernel_rfl) (by kernel_rfl) (by kernel_rfl) (fun _ _ _ h => h) (Or.inl ⟨by rfl, ?hy10⟩) (by assumption) ?rest10
         case hy10 => (intro w hSw; (try dsimp only at hSw); go_simp; try (with_reducible rfl))
         try simp only [Act.put, List.getElem_toArray, List.getElem_cons_zero, List.setIfInBounds_toArray, List.set_cons_zero, List.set_cons_succ]
         refine' tk 1 ?_; (try simp only [tkS]); refine' tk 2 ?_; (try simp only [tkS]); refine' tk 3 ?_; (try simp only [tkS]); refine' tkU 4 ?_; (try simp only [tkS]); refine' tkU 5 ?_; (try simp only [tkS]); refine' tkU 6 ?_; (try simp only [tkS]); refine' tkU 7 ?_; (try simp only [tkS]); refine' tkU 8 ?_; (try simp only [tkS]); refine' tkU 9 ?_; (try simp only [tkS]); refine' tkU 10 ?_; (try simp only [tkS]); refine' tk 11 ?_; (try simp only [tkS])
         refine tkD ?_ _
         go_wp2_with fail
         go_meet
         exact ⟨[], HXQ.out, hq.out.1, Nat.zero_le _, Hbz.out.via (bw_dn _) Hbz.out.size⟩
        | cons p r =>
         rw [List.length_cons] at hcq ⊢
         obtain ⟨b, off, pp, rfl, hpp, hpok, hpc⟩ := Parts.at hXQ (Hbw.out.via (bw_via Hbx.out hbz) Hbw.out.size) (show 0 < (p :: r).length by simp)
         cases hpp
         rw [Nat.zero_mul, Nat.add_zero] at hpc
         have hb16 := cells7 hB16 hbz
         have HSy := hI (fun w' (hb : Below wr.heap.size wr w') => show w'.cell? ⟨b, off + 7, none⟩ = some (.int .i64 p.h.c.b) ∧ w'.cell? ⟨b, off + 8, none⟩ = some (.string p.h.c.s) ∧ w'.cell? ⟨b, off + 9, none⟩ = some (.int .i64 p.h.c.d) ∧ w'.cell? ⟨b, off + 10, none⟩ = some (.bool p.h.x) ∧ w'.cell? ⟨b, off + 11, none⟩ = some (.slice p.h.a p.h.n p.h.cap) ∧ w'.cell? ⟨b, off + 12, none⟩ = some (.bool false) ∧ w'.cell? ⟨b, off + 13, none⟩ = some (.slice none 0 0) ∧ w'.cell? ⟨b16, 0, none⟩ = some (.int .i64 lo.c.b) ∧ w'.cell? ⟨b16, 1, none⟩ = some (.string lo.c.s) ∧ w'.cell? ⟨b16, 2, none⟩ = some (.int .i64 lo.c.d) ∧ w'.cell? ⟨b16, 3, none⟩ = some (.bool lo.x) ∧ w'.cell? ⟨b16, 4, none⟩ = some (.slice lo.a lo.n lo.cap) ∧ w'.cell? ⟨b16, 5, none⟩ = some (.bool false) ∧ w'.cell? ⟨b16, 6, none⟩ = some (.slice none 0 0) from ⟨cell_keep hb hpc.2.2.2.2.2.2.2.1, cell_keep hb hpc.2.2.2.2.2.2.2.2.1, cell_keep hb hpc.2.2.2.2.2.2.2.2.2.1, cell_keep hb hpc.2.2.2.2.2.2.2.2.2.2.1, cell_keep hb hpc.2.2.2.2.2.2.2.2.2.2.2.1, cell_keep hb hpc.2.2.2.2.2.2.2.2.2.2.2.2.1, cell_keep hb hpc.2.2.2.2.2.2.2.2.2.2.2.2.2, cell_keep hb hb16.1, cell_keep hb hb16.2.1, cell_keep hb hb16.2.2.1, cell_keep hb hb16.2.2.2.1, cell_keep hb hb16.2.2.2.2.1, cell_keep hb hb16.2.2.2.2.2.1, cell_keep hb hb16.2.2.2.2.2.2⟩)
         have Hck := hI (fun w' (hb : Below wr.heap.size wr w') => cutcmp_d p.h lo w' (hpok.2.mono hb) ((Hlk.out.1.mono (bw_via Hbx.out hbz)).mono hb))
         have HXQ := hI hXQ
         have Hbz := hI hbz
         have hdt : dropTo lo.c ((p :: r).map PP.cuts) = if cmpC p.h.c lo.c ≤ 0 then dropTo lo.c (r.map PP.cuts) else (p :: r).map PP.cuts := rfl
         have Hdt := hI hdt
         generalize hnr : r.length = nr at *
         have Hnr := hI hnr
         have hn1 : (0 : Int) < (nr : Int) + 1 := by omega
         have hn2 : (1 : Int) ≤ (nr : Int) + 1 := by omega
         have hn3 : (nr : Int) + 1 ≤ (cq : Int) := by omega
         have hn4 : 1 ≤ nr + 1 := by omega
         have hn5 : nr + 1 ≤ cq := by omega
         have hn6 : (1 : Int) ≤ (cq : Int) := by omega
         clear hpok hpc hb16 hXQ hbz hdt hnr
         unfold CC.agg at Hck
         generalize hR : cmpC p.h.c lo.c = R at *
         have HR := hI hR
         clear hR
         rcases Int.lt_or_le 0 R with hgt | hle
         ·have hle : ¬ R ≤ 0 := by omega
          go_upto_region 20 with fail
          refine wp_region_held_drew (S := (fun w' => w'.cell? ⟨b, off + 7, none⟩ = some (.int .i64 p.h.c.b) ∧ w'.cell? ⟨b, off + 8, none⟩ = some (.string p.h.c.s) ∧ w'.cell? ⟨b, off + 9, none⟩ = some (.int .i64 p.h.c.d) ∧ w'.cell? ⟨b, off + 10, none⟩ = some (.bool p.h.x) ∧ w'.cell? ⟨b, off + 11, none⟩ = some (.slice p.h.a p.h.n p.h.cap) ∧ w'.cell? ⟨b, off + 12, none⟩ = some (.bool false) ∧ w'.cell? ⟨b, off + 13, none⟩ = some (.slice none 0 0) ∧ w'.cell? ⟨b16, 0, none⟩ = some (.int .i64 lo.c.b) ∧ w'.cell? ⟨b16, 1, none⟩ = some (.string lo.c.s) ∧ w'.cell? ⟨b16, 2, none⟩ = some (.int .i64 lo.c.d) ∧ w'.cell? ⟨b16, 3, none⟩ = some (.bool lo.x) ∧ w'.cell? ⟨b16, 4, none⟩ = some (.slice lo.a lo.n lo.cap) ∧ w'.cell? ⟨b16, 5, none⟩ = some (.bool false) ∧ w'.cell? ⟨b16, 6, none⟩ = some (.slice none 0 0))) (by kernel_rfl) (by exact HSy.out _ (bw_dn wr)) (fun hHeld => ?_)
          refine wpAnyH_take (i := 0) (v := ?v22) rfl (by kernel_rfl) (by kernel_rfl) (by kernel_rfl) (fun _ _ _ h => h) (Or.inl ⟨by rfl, ?hy22⟩) (by assumption) ?rest22
          case hy22 => (intro w hSw; (try dsimp only at hSw); go_simp; try (with_reducible rfl))
          try simp only [Act.put, List.getElem_toArray, List.getElem_cons_zero, List.setIfInBounds_toArray, List.set_cons_zero, List.set_cons_succ]
          refine' tk 1 ?_; (try simp only [tkS]); refine' tk 2 ?_; (try simp only [tkS]); refine' tk 3 ?_; (try simp only [tkS]); refine' tk 4 ?_; (try simp only [tkS]); refine' tk 5 ?_; (try simp only [tkS]); refine' tk 6 ?_; (try simp only [tkS]); refine' tk 7 ?_; (try simp only [tkS]); refine' tk 8 ?_; (try simp only [tkS])
          refine tk1 9 (fun K hK => ?_)
          go_simp
          go_at_call 73
          refine (Hck.out _ (bw_dn wr)).mono ?_
          rintro e5 w9 ⟨rfl, hbq, -⟩
          have hb9 := hbq
          have Hb9 := hI (bw_via (bw_dn wr) hb9)
          clear hb9 hbq
          refine hK.out _ _ (by exact HSy.out _ (Hb9.out)) (fun hHeld => ?_)
          clear hK K; (try simp only [tkS])
          refine' tk 10 ?_; (try simp only [tkS]); refine' tk 11 ?_; (try simp only [tkS])
          refine tkD ?_ _
          go_wp2_with fail
          go_meet
          exact ⟨p :: r, by have h := HXQ.out; rw [List.length_cons, Hnr.out] at h; exact h, by rw [← hq.out.1, Hdt.out, if_neg (show ¬ R ≤ 0 by omega)], by have := hq.out.2; exact this, Hbz.out.via (Hb9.out) Hbz.out.size⟩
         ·have hle2 : R ≤ 0 := hle
          go_upto_region 20 with fail
          refine wp_region_held_drew (S := (fun w' => w'.cell? ⟨b, off + 7, none⟩ = some (.int .i64 p.h.c.b) ∧ w'.cell? ⟨b, off + 8, none⟩ = some (.string p.h.c.s) ∧ w'.cell? ⟨b, off + 9, none⟩ = some (.int .i64 p.h.c.d) ∧ w'.cell? ⟨b, off + 10, none⟩ = some (.bool p.h.x) ∧ w'.cell? ⟨b, off + 11, none⟩ = some (.slice p.h.a p.h.n p.h.cap) ∧ w'.cell? ⟨b, off + 12, none⟩ = some (.bool false) ∧ w'.cell? ⟨b, off + 13, none⟩ = some (.slice none 0 0) ∧ w'.cell? ⟨b16, 0, none⟩ = some (.int .i64 lo.c.b) ∧ w'.cell? ⟨b16, 1, none⟩ = some (.string lo.c.s) ∧ w'.cell? ⟨b16, 2, none⟩ = some (.int .i64 lo.c.d) ∧ w'.cell? ⟨b16, 3, none⟩ = some (.bool lo.x) ∧ w'.cell? ⟨b16, 4, none⟩ = some (.slice lo.a lo.n lo.cap) ∧ w'.cell? ⟨b16, 5, none⟩ = some (.bool false) ∧ w'.cell? ⟨b16, 6, none⟩ = some (.slice none 0 0))) (by kernel_rfl) (by exact HSy.out _ (bw_dn wr)) (fun hHeld => ?_)
          refine wpAnyH_take (i := 0) (v := ?v33) rfl (by kernel_rfl) (by kernel_rfl) (by kernel_rfl) (fun _ _ _ h => h) (Or.inl ⟨by rfl, ?hy33⟩) (by assumption) ?rest33
          case hy33 => (intro w hSw; (try dsimp only at hSw); go_simp; try (with_reducible rfl))
          try simp only [Act.put, List.getElem_toArray, List.getElem_cons_zero, List.setIfInBounds_toArray, List.set_cons_zero, List.set_cons_succ]
          refine' tk 1 ?_; (try simp only [tkS]); refine' tk 2 ?_; (try simp only [tkS]); refine' tk 3 ?_; (try simp only [tkS]); refine' tk 4 ?_; (try simp only [tkS]); refine' tk 5 ?_; (try simp only [tkS]); refine' tk 6 ?_; (try simp only [tkS]); refine' tk 7 ?_; (try simp only [tkS]); refine' tk 8 ?_; (try simp only [tkS])
          refine tk1 9 (fun K hK => ?_)
          go_simp
          go_at_call 73
          refine (Hck.out _ (bw_dn wr)).mono ?_
          rintro e5 w9 ⟨rfl, hbq, -⟩
          have hb9 := hbq
          have Hb9 := hI (bw_via (bw_dn wr) hb9)
          clear hb9 hbq
          refine hK.out _ _ (by exact HSy.out _ (Hb9.out)) (fun hHeld => ?_)
          clear hK K; (try simp only [tkS])
          refine' tk 10 ?_; (try simp only [tkS]); refine' tk 11 ?_; (try simp only [tkS])
          refine tkD ?_ _
          go_wp2_with fail
          generalize hq2 : (if cq = 1 then some (⟨b, off, none⟩ : Addr) else some ⟨b, off + 14, none⟩) = aq2
          have Hq2 := hI hq2
          clear hq2
          go_roundw
          case rel =>
           have ht := Parts.tail HXQ.out
           rw [Hq2.out, Hnr.out] at ht
           have h1 := hq.out.1
           rw [Hdt.out, if_pos (show R ≤ 0 by omega)] at h1
           have h2 := hq.out.2
           simp only [List.length_cons] at h2
           exact ⟨r, ht, Hbz.out.via (Hb9.out) Hbz.out.size, h1, by omega⟩
          case measure => simp
      case rest =>
       obtain ⟨XQ, hXQ, hXQ1, hXQ2, hbx2⟩ := hcut
       rename World => wx1
       have HXQ := hI hXQ
       have HXQ1 := hI (And.intro hXQ1 hXQ2)
       have Hbx2 := hI hbx2
       clear hXQ hXQ1 hXQ2 hbx2
       go_upto_block 6 with fail
       go_cut [10] from 65 to 157 (fun xv wx => ∃ XQ : List PP, Parts w7 xv XQ ∧ XQ.map PP.cuts = dropTo lo.c (YP.map PP.cuts) ∧ XQ.length ≤ YP.length ∧ Below wx1.heap.size wx1 wx)
       case first =>
        go_wp2_with fail
        go_loopw [10] (fun xv wz => ∃ XQ : List PP, Parts w7 xv XQ ∧ Below wx1.heap.size wx1 wz ∧ Hid (dropTo lo.c (XQ.map PP.cuts) = dropTo lo.c (YP.map PP.cuts) ∧ XQ.length ≤ YP.length)) (fun xv _ => match xv with | .slice _ n _ => n | _ => 0)
        case atStart => exact ⟨YP, HYP.out, Below.refl _ _, rfl, Nat.le_refl _⟩
        case round =>
         obtain ⟨XQ, hXQ, hbz, hq⟩ := hrel
         obtain ⟨aq, cq, rfl, hcq, hcq2⟩ := hXQ.open
         unfold maxLen at hcq2
         cases XQ with
         | nil =>
          rw [List.length_nil]
          have Hbz := hI hbz
          have HXQ := hI hXQ
          clear hXQ hbz
          go_upto_region 22 with fail
          refine wp_region_held_drew (S := (fun _ => True)) (by kernel_rfl) (by exact trivial) (fun hHeld => ?_)
          refine wpAnyH_take (i := 0) (v := ?v44) rfl (by kernel_rfl) (by kernel_rfl) (by kernel_rfl) (fun _ _ _ h => h) (Or.inl ⟨by rfl, ?hy44⟩) (by assumption) ?rest44
          case hy44 => (intro w hSw; (try dsimp only at hSw); go_simp; try (with_reducible rfl))
          try simp only [Act.put, List.getElem_toArray, List.getElem_cons_zero, List.setIfInBounds_toArray, List.set_cons_zero, List.set_cons_succ]
          refine' tk 1 ?_; (try simp only [tkS]); refine' tk 2 ?_; (try simp only [tkS]); refine' tk 3 ?_; (try simp only [tkS]); refine' tkU 4 ?_; (try simp only [tkS]); refine' tkU 5 ?_; (try simp only [tkS]); refine' tkU 6 ?_; (try simp only [tkS]); refine' tkU 7 ?_; (try simp only [tkS]); refine' tkU 8 ?_; (try simp only [tkS]); refine' tkU 9 ?_; (try simp only [tkS]); refine' tkU 10 ?_; (try simp only [tkS]); refine' tk 11 ?_; (try simp only [tkS])
          refine tkD ?_ _
          go_wp2_with fail
          go_meet
          exact ⟨[], HXQ.out, hq.out.1, Nat.zero_le _, Hbz.out.via (bw_dn _) Hbz.out.size⟩
         | cons p r =>
          rw [List.length_cons] at hcq ⊢
          obtain ⟨b, off, pp, rfl, hpp, hpok, hpc⟩ := Parts.at hXQ (Hbw.out.via (bw_via Hbx.out (bw_via Hbx2.out hbz)) Hbw.out.size) (show 0 < (p :: r).length by simp)
          cases hpp
          rw [Nat.zero_mul, Nat.add_zero] at hpc
          have hb16 := cells7 HB16.out (bw_via Hbx2.out hbz)
          have HSy := hI (fun w' (hb : Below wr.heap.size wr w') => show w'.cell? ⟨b, off + 7, none⟩ = some (.int .i64 p.h.c.b) ∧ w'.cell? ⟨b, off + 8, none⟩ = some (.string p.h.c.s) ∧ w'.cell? ⟨b, off + 9, none⟩ = some (.int .i64 p.h.c.d) ∧ w'.cell? ⟨b, off + 10, none⟩ = some (.bool p.h.x) ∧ w'.cell? ⟨b, off + 11, none⟩ = some (.slice p.h.a p.h.n p.h.cap) ∧ w'.cell? ⟨b, off + 12, none⟩ = some (.bool false) ∧ w'.cell? ⟨b, off + 13, none⟩ = some (.slice none 0 0) ∧ w'.cell? ⟨b16, 0, none⟩ = some (.int .i64 lo.c.b) ∧ w'.cell? ⟨b16, 1, none⟩ = some (.string lo.c.s) ∧ w'.cell? ⟨b16, 2, none⟩ = some (.int .i64 lo.c.d) ∧ w'.cell? ⟨b16, 3, none⟩ = some (.bool lo.x) ∧ w'.cell? ⟨b16, 4, none⟩ = some (.slice lo.a lo.n lo.cap) ∧ w'.cell? ⟨b16, 5, none⟩ = some (.bool false) ∧ w'.cell? ⟨b16, 6, none⟩ = some (.slice none 0 0) from ⟨cell_keep hb hpc.2.2.2.2.2.2.2.1, cell_keep hb hpc.2.2.2.2.2.2.2.2.1, cell_keep hb hpc.2.2.2.2.2.2.2.2.2.1, cell_keep hb hpc.2.2.2.2.2.2.2.2.2.2.1, cell_keep hb hpc.2.2.2.2.2.2.2.2.2.2.2.1, cell_keep hb hpc.2.2.2.2.2.2.2.2.2.2.2.2.1, cell_keep hb hpc.2.2.2.2.2.2.2.2.2.2.2.2.2, cell_keep hb hb16.1, cell_keep hb hb16.2.1, cell_keep hb hb16.2.2.1, cell_keep hb hb16.2.2.2.1, cell_keep hb hb16.2.2.2.2.1, cell_keep hb hb16.2.2.2.2.2.1, cell_keep hb hb16.2.2.2.2.2.2⟩)
          have Hck := hI (fun w' (hb : Below wr.heap.size wr w') => cutcmp_d p.h lo w' (hpok.2.mono hb) ((Hlk.out.1.mono (bw_via Hbx.out (bw_via Hbx2.out hbz))).mono hb))
          have HXQ := hI hXQ
          have Hbz := hI hbz
          have hdt : dropTo lo.c ((p :: r).map PP.cuts) = if cmpC p.h.c lo.c ≤ 0 then dropTo lo.c (r.map PP.cuts) else (p :: r).map PP.cuts := rfl
          have Hdt := hI hdt
          generalize hnr : r.length = nr at *
          have Hnr := hI hnr
          have hn1 : (0 : Int) < (nr : Int) + 1 := by omega
          have hn2 : (1 : Int) ≤ (nr : Int) + 1 := by omega
          have hn3 : (nr : Int) + 1 ≤ (cq : Int) := by omega
          have hn4 : 1 ≤ nr + 1 := by omega
          have hn5 : nr + 1 ≤ cq := by omega
          have hn6 : (1 : Int) ≤ (cq : Int) := by omega
          clear hpok hpc hb16 hXQ hbz hdt hnr
          unfold CC.agg at Hck
          generalize hR : cmpC p.h.c lo.c = R at *
          have HR := hI hR
          clear hR
          rcases Int.lt_or_le 0 R with hgt | hle
          ·have hle : ¬ R ≤ 0 := by omega
           go_upto_region 22 with fail
           refine wp_region_held_drew (S := (fun w' => w'.cell? ⟨b, off + 7, none⟩ = some (.int .i64 p.h.c.b) ∧ w'.cell? ⟨b, off + 8, none⟩ = some (.string p.h.c.s) ∧ w'.cell? ⟨b, off + 9, none⟩ = some (.int .i64 p.h.c.d) ∧ w'.cell? ⟨b, off + 10, none⟩ = some (.bool p.h.x) ∧ w'.cell? ⟨b, off + 11, none⟩ = some (.slice p.h.a p.h.n p.h.cap) ∧ w'.cell? ⟨b, off + 12, none⟩ = some (.bool false) ∧ w'.cell? ⟨b, off + 13, none⟩ = some (.slice none 0 0) ∧ w'.cell? ⟨b16, 0, none⟩ = some (.int .i64 lo.c.b) ∧ w'.cell? ⟨b16, 1, none⟩ = some (.string lo.c.s) ∧ w'.cell? ⟨b16, 2, none⟩ = some (.int .i64 lo.c.d) ∧ w'.cell? ⟨b16, 3, none⟩ = some (.bool lo.x) ∧ w'.cell? ⟨b16, 4, none⟩ = some (.slice lo.a lo.n lo.cap) ∧ w'.cell? ⟨b16, 5, none⟩ = some (.bool false) ∧ w'.cell? ⟨b16, 6, none⟩ = some (.slice none 0 0))) (by kernel_rfl) (by exact HSy.out _ (bw_dn wr)) (fun hHeld => ?_)
           refine wpAnyH_take (i := 0) (v := ?v56) rfl (by kernel_rfl) (by kernel_rfl) (by kernel_rfl) (fun _ _ _ h => h) (Or.inl ⟨by rfl, ?hy56⟩) (by assumption) ?rest56
           case hy56 => (intro w hSw; (try dsimp only at hSw); go_simp; try (with_reducible rfl))
           try simp only [Act.put, List.getElem_toArray, List.getElem_cons_zero, List.setIfInBounds_toArray, List.set_cons_zero, List.set_cons_succ]
           refine' tk 1 ?_; (try simp only [tkS]); refine' tk 2 ?_; (try simp only [tkS]); refine' tk 3 ?_; (try simp only [tkS]); refine' tk 4 ?_; (try simp only [tkS]); refine' tk 5 ?_; (try simp only [tkS]); refine' tk 6 ?_; (try simp only [tkS]); refine' tk 7 ?_; (try simp only [tkS]); refine' tk 8 ?_; (try simp only [tkS])
           refine tk1 9 (fun K hK => ?_)
           go_simp
           go_at_call 73
           refine (Hck.out _ (bw_dn wr)).mono ?_
           rintro e5 w9 ⟨rfl, hbq, -⟩
           have hb9 := hbq
           have Hb9 := hI (bw_via (bw_dn wr) hb9)
           clear hb9 hbq
           refine hK.out _ _ (by exact HSy.out _ (Hb9.out)) (fun hHeld => ?_)
           clear hK K; (try simp only [tkS])
           refine' tk 10 ?_; (try simp only [tkS]); refine' tk 11 ?_; (try simp only [tkS])
           refine tkD ?_ _
           go_wp2_with fail
           go_meet
           exact ⟨p :: r, by have h := HXQ.out; rw [List.length_cons, Hnr.out] at h; exact h, by rw [← hq.out.1, Hdt.out, if_neg (show ¬ R ≤ 0 by omega)], by have := hq.out.2; exact this, Hbz.out.via (Hb9.out) Hbz.out.size⟩
          ·have hle2 : R ≤ 0 := hle
           go_upto_region 22 with fail
           refine wp_region_held_drew (S := (fun w' => w'.cell? ⟨b, off + 7, none⟩ = some (.int .i64 p.h.c.b) ∧ w'.cell? ⟨b, off + 8, none⟩ = some (.string p.h.c.s) ∧ w'.cell? ⟨b, off + 9, none⟩ = some (.int .i64 p.h.c.d) ∧ w'.cell? ⟨b, off + 10, none⟩ = some (.bool p.h.x) ∧ w'.cell? ⟨b, off + 11, none⟩ = some (.slice p.h.a p.h.n p.h.cap) ∧ w'.cell? ⟨b, off + 12, none⟩ = some (.bool false) ∧ w'.cell? ⟨b, off + 13, none⟩ = some (.slice none 0 0) ∧ w'.cell? ⟨b16, 0, none⟩ = some (.int .i64 lo.c.b) ∧ w'.cell? ⟨b16, 1, none⟩ = some (.string lo.c.s) ∧ w'.cell? ⟨b16, 2, none⟩ = some (.int .i64 lo.c.d) ∧ w'.cell? ⟨b16, 3, none⟩ = some (.bool lo.x) ∧ w'.cell? ⟨b16, 4, none⟩ = some (.slice lo.a lo.n lo.cap) ∧ w'.cell? ⟨b16, 5, none⟩ = some (.bool false) ∧ w'.cell? ⟨b16, 6, none⟩ = some (.slice none 0 0))) (by kernel_rfl) (by exact HSy.out _ (bw_dn wr)) (fun hHeld => ?_)
           refine wpAnyH_take (i := 0) (v := ?v67) rfl (by kernel_rfl) (by kernel_rfl) (by kernel_rfl) (fun _ _ _ h => h) (Or.inl ⟨by rfl, ?hy67⟩) (by assumption) ?rest67
           case hy67 => (intro w hSw; (try dsimp only at hSw); go_simp; try (with_reducible rfl))
           try simp only [Act.put, List.getElem_toArray, List.getElem_cons_zero, List.setIfInBounds_toArray, List.set_cons_zero, List.set_cons_succ]
           refine' tk 1 ?_; (try simp only [tkS]); refine' tk 2 ?_; (try simp only [tkS]); refine' tk 3 ?_; (try simp only [tkS]); refine' tk 4 ?_; (try simp only [tkS]); refine' tk 5 ?_; (try simp only [tkS]); refine' tk 6 ?_; (try simp only [tkS]); refine' tk 7 ?_; (try simp only [tkS]); refine' tk 8 ?_; (try simp only [tkS])
           refine tk1 9 (fun K hK => ?_)
           go_simp
           go_at_call 73
           refine (Hck.out _ (bw_dn wr)).mono ?_
           rintro e5 w9 ⟨rfl, hbq, -⟩
           have hb9 := hbq
           have Hb9 := hI (bw_via (bw_dn wr) hb9)
           clear hb9 hbq
           refine hK.out _ _ (by exact HSy.out _ (Hb9.out)) (fun hHeld => ?_)
           clear hK K; (try simp only [tkS])
           refine' tk 10 ?_; (try simp only [tkS]); refine' tk 11 ?_; (try simp only [tkS])
           refine tkD ?_ _
           go_wp2_with fail
           generalize hq2 : (if cq = 1 then some (⟨b, off, none⟩ : Addr) else some ⟨b, off + 14, none⟩) = aq2
           have Hq2 := hI hq2
           clear hq2
           go_roundw
           case rel =>
            have ht := Parts.tail HXQ.out
            rw [Hq2.out, Hnr.out] at ht
            have h1 := hq.out.1
            rw [Hdt.out, if_pos (show R ≤ 0 by omega)] at h1
            have h2 := hq.out.2
            simp only [List.length_cons] at h2
            exact ⟨r, ht, Hbz.out.via (Hb9.out) Hbz.out.size, h1, by omega⟩
           case measure => simp
       case rest =>
        obtain ⟨YQ, hYQ, hYQ1, hYQ2, hbx3⟩ := hcut
        rename World => wx2
        have HYQ := hI hYQ
        have HYQ1 := hI (And.intro hYQ1 hYQ2)
        have Hbx3 := hI hbx3
        clear hYQ hYQ1 hYQ2 hbx3
        have HXQ2 := hI (HXQ.out.mono (Hbw.out.via (bw_via Hbx.out (bw_via Hbx2.out Hbx3.out)) Hbw.out.size))
        have HYQ2 := hI (HYQ.out.mono (Hbw.out.via (bw_via Hbx.out (bw_via Hbx2.out Hbx3.out)) Hbw.out.size))
        have Hb16 := hI (HB16.out.below (bw_via Hbx2.out Hbx3.out))
        have Hlo := hI (Hlk.out.1.mono (bw_via Hbx.out (bw_via Hbx2.out Hbx3.out)))
        obtain ⟨aq, cq, rfl, hcq, -⟩ := HXQ2.out.open
        obtain ⟨ay', cy', rfl, hcy', -⟩ := HYQ2.out.open
        go_upto_region 24 with fail
        go_cut [130] from 65 to 157 (fun t wx => t = .bool (!(keep (begun lo.c (XQ.map PP.cuts)) (begun lo.c (YQ.map PP.cuts)))) ∧ Below wx2.heap.size wx2 wx)
        case first =>
         rcases XQ with _ | ⟨p, r⟩
         ·rcases YQ with _ | ⟨q, t⟩
          ·have hb16 := cells7 Hb16.out (Below.refl _ _)
           rw [List.length_nil]
           have He1 := hI (show begun lo.c (([] : List PP).map PP.cuts) = false from rfl)
           try rw [List.length_nil]
           have He2 := hI (show begun lo.c (([] : List PP).map PP.cuts) = false from rfl)
           have HSz := hI (fun w' (hb : Below wx2.heap.size wx2 w') => show w'.cell? ⟨b16, 0, none⟩ = some (.int .i64 lo.c.b) ∧ w'.cell? ⟨b16, 1, none⟩ = some (.string lo.c.s) ∧ w'.cell? ⟨b16, 2, none⟩ = some (.int .i64 lo.c.d) ∧ w'.cell? ⟨b16, 3, none⟩ = some (.bool lo.x) ∧ w'.cell? ⟨b16, 4, none⟩ = some (.slice lo.a lo.n lo.cap) ∧ w'.cell? ⟨b16, 5, none⟩ = some (.bool false) ∧ w'.cell? ⟨b16, 6, none⟩ = some (.slice none 0 0) from ⟨cell_keep hb hb16.1, cell_keep hb hb16.2.1, cell_keep hb hb16.2.2.1, cell_keep hb hb16.2.2.2.1, cell_keep hb hb16.2.2.2.2.1, cell_keep hb hb16.2.2.2.2.2.1, cell_keep hb hb16.2.2.2.2.2.2⟩)
           clear hb16
           refine wp_region_held_drew (S := (fun w' => w'.cell? ⟨b16, 0, none⟩ = some (.int .i64 lo.c.b) ∧ w'.cell? ⟨b16, 1, none⟩ = some (.string lo.c.s) ∧ w'.cell? ⟨b16, 2, none⟩ = some (.int .i64 lo.c.d) ∧ w'.cell? ⟨b16, 3, none⟩ = some (.bool lo.x) ∧ w'.cell? ⟨b16, 4, none⟩ = some (.slice lo.a lo.n lo.cap) ∧ w'.cell? ⟨b16, 5, none⟩ = some (.bool false) ∧ w'.cell? ⟨b16, 6, none⟩ = some (.slice none 0 0))) (by kernel_rfl) (by exact HSz.out _ (bw_dn wx2)) (fun hHeld => ?_)
           refine wpAnyH_take (i := 0) (v := ?v78) rfl (by kernel_rfl) (by kernel_rfl) (by kernel_rfl) (fun _ _ _ h => h) (Or.inl ⟨by rfl, ?hy78⟩) (by assumption) ?rest78
           case hy78 => (intro w hSw; (try dsimp only at hSw); go_simp; try (with_reducible rfl))
           try simp only [Act.put, List.getElem_toArray, List.getElem_cons_zero, List.setIfInBounds_toArray, List.set_cons_zero, List.set_cons_succ]
           refine' tk 1 ?_; (try simp only [tkS]); refine' tk 2 ?_; (try simp only [tkS]); refine' tk 3 ?_; (try simp only [tkS]); refine' tk 4 ?_; (try simp only [tkS]); refine' tkU 5 ?_; (try simp only [tkS]); refine' tkU 6 ?_; (try simp only [tkS]); refine' tkU 7 ?_; (try simp only [tkS]); refine' tkU 8 ?_; (try simp only [tkS]); refine' tkU 9 ?_; (try simp only [tkS]); refine' tkU 10 ?_; (try simp only [tkS]); refine' tkU 11 ?_; (try simp only [tkS]); refine' tk 12 ?_; (try simp only [tkS]); refine' tk 13 ?_; (try simp only [tkS]); refine' tk 14 ?_; (try simp only [tkS]); refine' tk 15 ?_; (try simp only [tkS]); refine' tk 16 ?_; (try simp only [tkS]); refine' tkU 17 ?_; (try simp only [tkS]); refine' tkU 18 ?_; (try simp only [tkS]); refine' tkU 19 ?_; (try simp only [tkS]); refine' tkU 20 ?_; (try simp only [tkS]); refine' tkU 21 ?_; (try simp only [tkS]); refine' tkU 22 ?_; (try simp only [tkS]); refine' tkU 23 ?_; (try simp only [tkS]); refine' tk 24 ?_; (try simp only [tkS])
           refine tk1 25 (fun K hK => ?_)
           go_simp
           go_at_fn g
           refine (HKeep.out false false _).mono ?_
           rintro e5 w25 ⟨rfl, hb25⟩
           have Hb25 := hI (bw_via (bw_dn wx2) hb25)
           clear hb25
           refine hK.out _ _ (by exact HSz.out _ (Hb25.out)) (fun hHeld => ?_)
           clear hK K; (try simp only [tkS])
           refine' tk 26 ?_; (try simp only [tkS])
           refine tkD ?_ _
           go_wp2_with fail
           go_meet
           rw [He1.out]
           try rw [He2.out]
           exact ⟨rfl, Hb25.out⟩
          ·have hb16 := cells7 Hb16.out (Below.refl _ _)
           rw [List.length_nil]
           have He1 := hI (show begun lo.c (([] : List PP).map PP.cuts) = false from rfl)
           obtain ⟨b2, o2, qq, rfl, hqq, hqok, hqc⟩ := Parts.at HYQ2.out (Below.refl _ _) (show 0 < (q :: t).length by simp)
           cases hqq
           rw [Nat.zero_mul, Nat.add_zero] at hqc
           have HC2 := hI (fun w' (hb : Below wx2.heap.size wx2 w') => cutcmp_d q.l lo w' (hqok.1.mono hb) (Hlo.out.mono hb))
           unfold CC.agg at HC2
           have he2 : begun lo.c ((q :: t).map PP.cuts) = decide (cmpC q.l.c lo.c ≤ 0) := rfl
           generalize cmpC q.l.c lo.c = R2 at *
           have He2 := hI he2
           clear he2
           generalize hnr2 : (q :: t).length = nr2 at *
           have hn21 : (0 : Int) < (nr2 : Int) := by rw [← hnr2, List.length_cons]; omega
           have hn22 : 0 < nr2 := by omega
           clear hnr2 hqok
           have HSz := hI (fun w' (hb : Below wx2.heap.size wx2 w') => show w'.cell? ⟨b16, 0, none⟩ = some (.int .i64 lo.c.b) ∧ w'.cell? ⟨b16, 1, none⟩ = some (.string lo.c.s) ∧ w'.cell? ⟨b16, 2, none⟩ = some (.int .i64 lo.c.d) ∧ w'.cell? ⟨b16, 3, none⟩ = some (.bool lo.x) ∧ w'.cell? ⟨b16, 4, none⟩ = some (.slice lo.a lo.n lo.cap) ∧ w'.cell? ⟨b16, 5, none⟩ = some (.bool false) ∧ w'.cell? ⟨b16, 6, none⟩ = some (.slice none 0 0) ∧ w'.cell? ⟨b2, o2, none⟩ = some (.int .i64 q.l.c.b) ∧ w'.cell? ⟨b2, o2 + 1, none⟩ = some (.string q.l.c.s) ∧ w'.cell? ⟨b2, o2 + 2, none⟩ = some (.int .i64 q.l.c.d) ∧ w'.cell? ⟨b2, o2 + 3, none⟩ = some (.bool q.l.x) ∧ w'.cell? ⟨b2, o2 + 4, none⟩ = some (.slice q.l.a q.l.n q.l.cap) ∧ w'.cell? ⟨b2, o2 + 5, none⟩ = some (.bool false) ∧ w'.cell? ⟨b2, o2 + 6, none⟩ = some (.slice none 0 0) from ⟨cell_keep hb hb16.1, cell_keep hb hb16.2.1, cell_keep hb hb16.2.2.1, cell_keep hb hb16.2.2.2.1, cell_keep hb hb16.2.2.2.2.1, cell_keep hb hb16.2.2.2.2.2.1, cell_keep hb hb16.2.2.2.2.2.2, cell_keep hb hqc.1, cell_keep hb hqc.2.1, cell_keep hb hqc.2.2.1, cell_keep hb hqc.2.2.2.1, cell_keep hb hqc.2.2.2.2.1, cell_keep hb hqc.2.2.2.2.2.1, cell_keep hb hqc.2.2.2.2.2.2.1⟩)
           clear hb16 hqc
           refine wp_region_held_drew (S := (fun w' => w'.cell? ⟨b16, 0, none⟩ = some (.int .i64 lo.c.b) ∧ w'.cell? ⟨b16, 1, none⟩ = some (.string lo.c.s) ∧ w'.cell? ⟨b16, 2, none⟩ = some (.int .i64 lo.c.d) ∧ w'.cell? ⟨b16, 3, none⟩ = some (.bool lo.x) ∧ w'.cell? ⟨b16, 4, none⟩ = some (.slice lo.a lo.n lo.cap) ∧ w'.cell? ⟨b16, 5, none⟩ = some (.bool false) ∧ w'.cell? ⟨b16, 6, none⟩ = some (.slice none 0 0) ∧ w'.cell? ⟨b2, o2, none⟩ = some (.int .i64 q.l.c.b) ∧ w'.cell? ⟨b2, o2 + 1, none⟩ = some (.string q.l.c.s) ∧ w'.cell? ⟨b2, o2 + 2, none⟩ = some (.int .i64 q.l.c.d) ∧ w'.cell? ⟨b2, o2 + 3, none⟩ = some (.bool q.l.x) ∧ w'.cell? ⟨b2, o2 + 4, none⟩ = some (.slice q.l.a q.l.n q.l.cap) ∧ w'.cell? ⟨b2, o2 + 5, none⟩ = some (.bool false) ∧ w'.cell? ⟨b2, o2 + 6, none⟩ = some (.slice none 0 0))) (by kernel_rfl) (by exact HSz.out _ (bw_dn wx2)) (fun hHeld => ?_)
           refine wpAnyH_take (i := 0) (v := ?v104) rfl (by kernel_rfl) (by kernel_rfl) (by kernel_rfl) (fun _ _ _ h => h) (Or.inl ⟨by rfl, ?hy104⟩) (by assumption) ?rest104
           case hy104 => (intro w hSw; (try dsimp only at hSw); go_simp; try (with_reducible rfl))
           try simp only [Act.put, List.getElem_toArray, List.getElem_cons_zero, List.setIfInBounds_toArray, List.set_cons_zero, List.set_cons_succ]
           refine' tk 1 ?_; (try simp only [tkS]); refine' tk 2 ?_; (try simp only [tkS]); refine' tk 3 ?_; (try simp only [tkS]); refine' tk 4 ?_; (try simp only [tkS]); refine' tkU 5 ?_; (try simp only [tkS]); refine' tkU 6 ?_; (try simp only [tkS]); refine' tkU 7 ?_; (try simp only [tkS]); refine' tkU 8 ?_; (try simp only [tkS]); refine' tkU 9 ?_; (try simp only [tkS]); refine' tkU 10 ?_; (try simp only [tkS]); refine' tkU 11 ?_; (try simp only [tkS]); refine' tk 12 ?_; (try simp only [tkS]); refine' tk 13 ?_; (try simp only [tkS]); refine' tk 14 ?_; (try simp only [tkS]); refine' tk 15 ?_; (try simp only [tkS]); refine' tk 16 ?_; (try simp only [tkS]); refine' tk 17 ?_; (try simp only [tkS]); refine' tk 18 ?_; (try simp only [tkS]); refine' tk 19 ?_; (try simp only [tkS]); refine' tk 20 ?_; (try simp only [tkS]); refine' tk 21 ?_; (try simp only [tkS])
           refine tk1 22 (fun K hK => ?_)
           go_simp
           go_at_call 73
           refine (HC2.out _ (bw_dn wx2)).mono ?_
           rintro e5 w22 ⟨rfl, hbq, -⟩
           have hb22 := hbq
           have Hb22 := hI (bw_via (bw_dn wx2) hb22)
           clear hb22 hbq
           refine hK.out _ _ (by exact HSz.out _ (Hb22.out)) (fun hHeld => ?_)
           clear hK K; (try simp only [tkS])
           refine' tk 23 ?_; (try simp only [tkS]); refine' tk 24 ?_; (try simp only [tkS])
           refine tk1 25 (fun K hK => ?_)
           go_simp
           go_at_fn g
           refine (HKeep.out false (decide (R2 ≤ 0)) _).mono ?_
           rintro e5 w25 ⟨rfl, hb25⟩
           have Hb25 := hI (bw_via (Hb22.out) hb25)
           clear hb25
           refine hK.out _ _ (by exact HSz.out _ (Hb25.out)) (fun hHeld => ?_)
           clear hK K; (try simp only [tkS])
           refine' tk 26 ?_; (try simp only [tkS])
           refine tkD ?_ _
           go_wp2_with fail
           go_meet
           rw [He1.out]
           try rw [He2.out]
           exact ⟨rfl, Hb25.out⟩
         ·rcases YQ with _ | ⟨q, t⟩
          ·have hb16 := cells7 Hb16.out (Below.refl _ _)
           obtain ⟨b1, o1, pp, rfl, hpp, hpok, hpc⟩ := Parts.at HXQ2.out (Below.refl _ _) (show 0 < (p :: r).length by simp)
           cases hpp
           rw [Nat.zero_mul, Nat.add_zero] at hpc
           have HC1 := hI (fun w' (hb : Below wx2.heap.size wx2 w') => cutcmp_d p.l lo w' (hpok.1.mono hb) (Hlo.out.mono hb))
           unfold CC.agg at HC1
           have he1 : begun lo.c ((p :: r).map PP.cuts) = decide (cmpC p.l.c lo.c ≤ 0) := rfl
           generalize cmpC p.l.c lo.c = R1 at *
           have He1 := hI he1
           clear he1
           generalize hnr1 : (p :: r).length = nr1 at *
           have hn11 : (0 : Int) < (nr1 : Int) := by rw [← hnr1, List.length_cons]; omega
           have hn12 : 0 < nr1 := by omega
           clear hnr1 hpok
           try rw [List.length_nil]
           have He2 := hI (show begun lo.c (([] : List PP).map PP.cuts) = false from rfl)
           have HSz := hI (fun w' (hb : Below wx2.heap.size wx2 w') => show w'.cell? ⟨b16, 0, none⟩ = some (.int .i64 lo.c.b) ∧ w'.cell? ⟨b16, 1, none⟩ = some (.string lo.c.s) ∧ w'.cell? ⟨b16, 2, none⟩ = some (.int .i64 lo.c.d) ∧ w'.cell? ⟨b16, 3, none⟩ = some (.bool lo.x) ∧ w'.cell? ⟨b16, 4, none⟩ = some (.slice lo.a lo.n lo.cap) ∧ w'.cell? ⟨b16, 5, none⟩ = some (.bool false) ∧ w'.cell? ⟨b16, 6, none⟩ = some (.slice none 0 0) ∧ w'.cell? ⟨b1, o1, none⟩ = some (.int .i64 p.l.c.b) ∧ w'.cell? ⟨b1, o1 + 1, none⟩ = some (.string p.l.c.s) ∧ w'.cell? ⟨b1, o1 + 2, none⟩ = some (.int .i64 p.l.c.d) ∧ w'.cell? ⟨b1, o1 + 3, none⟩ = some (.bool p.l.x) ∧ w'.cell? ⟨b1, o1 + 4, none⟩ = some (.slice p.l.a p.l.n p.l.cap) ∧ w'.cell? ⟨b1, o1 + 5, none⟩ = some (.bool false) ∧ w'.cell? ⟨b1, o1 + 6, none⟩ = some (.slice none 0 0) from ⟨cell_keep hb hb16.1, cell_keep hb hb16.2.1, cell_keep hb hb16.2.2.1, cell_keep hb hb16.2.2.2.1, cell_keep hb hb16.2.2.2.2.1, cell_keep hb hb16.2.2.2.2.2.1, cell_keep hb hb16.2.2.2.2.2.2, cell_keep hb hpc.1, cell_keep hb hpc.2.1, cell_keep hb hpc.2.2.1, cell_keep hb hpc.2.2.2.1, cell_keep hb hpc.2.2.2.2.1, cell_keep hb hpc.2.2.2.2.2.1, cell_keep hb hpc.2.2.2.2.2.2.1⟩)
           clear hb16 hpc
           refine wp_region_held_drew (S := (fun w' => w'.cell? ⟨b16, 0, none⟩ = some (.int .i64 lo.c.b) ∧ w'.cell? ⟨b16, 1, none⟩ = some (.string lo.c.s) ∧ w'.cell? ⟨b16, 2, none⟩ = some (.int .i64 lo.c.d) ∧ w'.cell? ⟨b16, 3, none⟩ = some (.bool lo.x) ∧ w'.cell? ⟨b16, 4, none⟩ = some (.slice lo.a lo.n lo.cap) ∧ w'.cell? ⟨b16, 5, none⟩ = some (.bool false) ∧ w'.cell? ⟨b16, 6, none⟩ = some (.slice none 0 0) ∧ w'.cell? ⟨b1, o1, none⟩ = some (.int .i64 p.l.c.b) ∧ w'.cell? ⟨b1, o1 + 1, none⟩ = some (.string p.l.c.s) ∧ w'.cell? ⟨b1, o1 + 2, none⟩ = some (.int .i64 p.l.c.d) ∧ w'.cell? ⟨b1, o1 + 3, none⟩ = some (.bool p.l.x) ∧ w'.cell? ⟨b1, o1 + 4, none⟩ = some (.slice p.l.a p.l.n p.l.cap) ∧ w'.cell? ⟨b1, o1 + 5, none⟩ = some (.bool false) ∧ w'.cell? ⟨b1, o1 + 6, none⟩ = some (.slice none 0 0))) (by kernel_rfl) (by exact HSz.out _ (bw_dn wx2)) (fun hHeld => ?_)
           refine wpAnyH_take (i := 0) (v := ?v129) rfl (by kernel_rfl) (by kernel_rfl) (by kernel_rfl) (fun _ _ _ h => h) (Or.inl ⟨by rfl, ?hy129⟩) (by assumption) ?rest129
           case hy129 => (intro w hSw; (try dsimp only at hSw); go_simp; try (with_reducible rfl))
           try simp only [Act.put, List.getElem_toArray, List.getElem_cons_zero, List.setIfInBounds_toArray, List.set_cons_zero, List.set_cons_succ]
           refine' tk 1 ?_; (try simp only [tkS]); refine' tk 2 ?_; (try simp only [tkS]); refine' tk 3 ?_; (try simp only [tkS]); refine' tk 4 ?_; (try simp only [tkS]); refine' tk 5 ?_; (try simp only [tkS]); refine' tk 6 ?_; (try simp only [tkS]); refine' tk 7 ?_; (try simp only [tkS]); refine' tk 8 ?_; (try simp only [tkS]); refine' tk 9 ?_; (try simp only [tkS]); refine' tk 13 ?_; (try simp only [tkS]); refine' tk 14 ?_; (try simp only [tkS]); refine' tk 15 ?_; (try simp only [tkS])
           refine tk1 10 (fun K hK => ?_)
           go_simp
           go_at_call 73
           refine (HC1.out _ (bw_dn wx2)).mono ?_
           rintro e5 w10 ⟨rfl, hbq, -⟩
           have hb10 := hbq
           have Hb10 := hI (bw_via (bw_dn wx2) hb10)
           clear hb10 hbq
           refine hK.out _ _ (by exact HSz.out _ (Hb10.out)) (fun hHeld => ?_)
           clear hK K; (try simp only [tkS])
           refine' tk 11 ?_; (try simp only [tkS]); refine' tk 12 ?_; (try simp only [tkS]); refine' tk 16 ?_; (try simp only [tkS]); refine' tkU 17 ?_; (try simp only [tkS]); refine' tkU 18 ?_; (try simp only [tkS]); refine' tkU 19 ?_; (try simp only [tkS]); refine' tkU 20 ?_; (try simp only [tkS]); refine' tkU 21 ?_; (try simp only [tkS]); refine' tkU 22 ?_; (try simp only [tkS]); refine' tkU 23 ?_; (try simp only [tkS]); refine' tk 24 ?_; (try simp only [tkS])
           refine tk1 25 (fun K hK => ?_)
           go_simp
           go_at_fn g
           refine (HKeep.out (decide (R1 ≤ 0)) false _).mono ?_
           rintro e5 w25 ⟨rfl, hb25⟩
           have Hb25 := hI (bw_via (Hb10.out) hb25)
           clear hb25
           refine hK.out _ _ (by exact HSz.out _ (Hb25.out)) (fun hHeld => ?_)
           clear hK K; (try simp only [tkS])
           refine' tk 26 ?_; (try simp only [tkS])
           refine tkD ?_ _
           go_wp2_with fail
           go_meet
           rw [He1.out]
           try rw [He2.out]
           exact ⟨rfl, Hb25.out⟩
          ·have hb16 := cells7 Hb16.out (Below.refl _ _)
           obtain ⟨b1, o1, pp, rfl, hpp, hpok, hpc⟩ := Parts.at HXQ2.out (Below.refl _ _) (show 0 < (p :: r).length by simp)
           cases hpp
           rw [Nat.zero_mul, Nat.add_zero] at hpc
           have HC1 := hI (fun w' (hb : Below wx2.heap.size wx2 w') => cutcmp_d p.l lo w' (hpok.1.mono hb) (Hlo.out.mono hb))
           unfold CC.agg at HC1
           have he1 : begun lo.c ((p :: r).map PP.cuts) = decide (cmpC p.l.c lo.c ≤ 0) := rfl
           generalize cmpC p.l.c lo.c = R1 at *
           have He1 := hI he1
           clear he1
           generalize hnr1 : (p :: r).length = nr1 at *
           have hn11 : (0 : Int) < (nr1 : Int) := by rw [← hnr1, List.length_cons]; omega
           have hn12 : 0 < nr1 := by omega
           clear hnr1 hpok
           obtain ⟨b2, o2, qq, rfl, hqq, hqok, hqc⟩ := Parts.at HYQ2.out (Below.refl _ _) (show 0 < (q :: t).length by simp)
           cases hqq
           rw [Nat.zero_mul, Nat.add_zero] at hqc
           have HC2 := hI (fun w' (hb : Below wx2.heap.size wx2 w') => cutcmp_d q.l lo w' (hqok.1.mono hb) (Hlo.out.mono hb))
           unfold CC.agg at HC2
           have he2 : begun lo.c ((q :: t).map PP.cuts) = decide (cmpC q.l.c lo.c ≤ 0) := rfl
           generalize cmpC q.l.c lo.c = R2 at *
           have He2 := hI he2
           clear he2
           generalize hnr2 : (q :: t).length = nr2 at *
           have hn21 : (0 : Int) < (nr2 : Int) := by rw [← hnr2, List.length_cons]; omega
           have hn22 : 0 < nr2 := by omega
           clear hnr2 hqok
           have HSz := hI (fun w' (hb : Below wx2.heap.size wx2 w') => show w'.cell? ⟨b16, 0, none⟩ = some (.int .i64 lo.c.b) ∧ w'.cell? ⟨b16, 1, none⟩ = some (.string lo.c.s) ∧ w'.cell? ⟨b16, 2, none⟩ = some (.int .i64 lo.c.d) ∧ w'.cell? ⟨b16, 3, none⟩ = some (.bool lo.x) ∧ w'.cell? ⟨b16, 4, none⟩ = some (.slice lo.a lo.n lo.cap) ∧ w'.cell? ⟨b16, 5, none⟩ = some (.bool false) ∧ w'.cell? ⟨b16, 6, none⟩ = some (.slice none 0 0) ∧ w'.cell? ⟨b1, o1, none⟩ = some (.int .i64 p.l.c.b) ∧ w'.cell? ⟨b1, o1 + 1, none⟩ = some (.string p.l.c.s) ∧ w'.cell? ⟨b1, o1 + 2, none⟩ = some (.int .i64 p.l.c.d) ∧ w'.cell? ⟨b1, o1 + 3, none⟩ = some (.bool p.l.x) ∧ w'.cell? ⟨b1, o1 + 4, none⟩ = some (.slice p.l.a p.l.n p.l.cap) ∧ w'.cell? ⟨b1, o1 + 5, none⟩ = some (.bool false) ∧ w'.cell? ⟨b1, o1 + 6, none⟩ = some (.slice none 0 0) ∧ w'.cell? ⟨b2, o2, none⟩ = some (.int .i64 q.l.c.b) ∧ w'.cell? ⟨b2, o2 + 1, none⟩ = some (.string q.l.c.s) ∧ w'.cell? ⟨b2, o2 + 2, none⟩ = some (.int .i64 q.l.c.d) ∧ w'.cell? ⟨b2, o2 + 3, none⟩ = some (.bool q.l.x) ∧ w'.cell? ⟨b2, o2 + 4, none⟩ = some (.slice q.l.a q.l.n q.l.cap) ∧ w'.cell? ⟨b2, o2 + 5, none⟩ = some (.bool false) ∧ w'.cell? ⟨b2, o2 + 6, none⟩ = some (.slice none 0 0) from ⟨cell_keep hb hb16.1, cell_keep hb hb16.2.1, cell_keep hb hb16.2.2.1, cell_keep hb hb16.2.2.2.1, cell_keep hb hb16.2.2.2.2.1, cell_keep hb hb16.2.2.2.2.2.1, cell_keep hb hb16.2.2.2.2.2.2, cell_keep hb hpc.1, cell_keep hb hpc.2.1, cell_keep hb hpc.2.2.1, cell_keep hb hpc.2.2.2.1, cell_keep hb hpc.2.2.2.2.1, cell_keep hb hpc.2.2.2.2.2.1, cell_keep hb hpc.2.2.2.2.2.2.1, cell_keep hb hqc.1, cell_keep hb hqc.2.1, cell_keep hb hqc.2.2.1, cell_keep hb hqc.2.2.2.1, cell_keep hb hqc.2.2.2.2.1, cell_keep hb hqc.2.2.2.2.2.1, cell_keep hb hqc.2.2.2.2.2.2.1⟩)
           clear hb16 hpc hqc
           refine wp_region_held_drew (S := (fun w' => w'.cell? ⟨b16, 0, none⟩ = some (.int .i64 lo.c.b) ∧ w'.cell? ⟨b16, 1, none⟩ = some (.string lo.c.s) ∧ w'.cell? ⟨b16, 2, none⟩ = some (.int .i64 lo.c.d) ∧ w'.cell? ⟨b16, 3, none⟩ = some (.bool lo.x) ∧ w'.cell? ⟨b16, 4, none⟩ = some (.slice lo.a lo.n lo.cap) ∧ w'.cell? ⟨b16, 5, none⟩ = some (.bool false) ∧ w'.cell? ⟨b16, 6, none⟩ = some (.slice none 0 0) ∧ w'.cell? ⟨b1, o1, none⟩ = some (.int .i64 p.l.c.b) ∧ w'.cell? ⟨b1, o1 + 1, none⟩ = some (.string p.l.c.s) ∧ w'.cell? ⟨b1, o1 + 2, none⟩ = some (.int .i64 p.l.c.d) ∧ w'.cell? ⟨b1, o1 + 3, none⟩ = some (.bool p.l.x) ∧ w'.cell? ⟨b1, o1 + 4, none⟩ = some (.slice p.l.a p.l.n p.l.cap) ∧ w'.cell? ⟨b1, o1 + 5, none⟩ = some (.bool false) ∧ w'.cell? ⟨b1, o1 + 6, none⟩ = some (.slice none 0 0) ∧ w'.cell? ⟨b2, o2, none⟩ = some (.int .i64 q.l.c.b) ∧ w'.cell? ⟨b2, o2 + 1, none⟩ = some (.string q.l.c.s) ∧ w'.cell? ⟨b2, o2 + 2, none⟩ = some (.int .i64 q.l.c.d) ∧ w'.cell? ⟨b2, o2 + 3, none⟩ = some (.bool q.l.x) ∧ w'.cell? ⟨b2, o2 + 4, none⟩ = some (.slice q.l.a q.l.n q.l.cap) ∧ w'.cell? ⟨b2, o2 + 5, none⟩ = some (.bool false) ∧ w'.cell? ⟨b2, o2 + 6, none⟩ = some (.slice none 0 0))) (by kernel_rfl) (by exact HSz.out _ (bw_dn wx2)) (fun hHeld => ?_)
           refine wpAnyH_take (i := 0) (v := ?v154) rfl (by kernel_rfl) (by kernel_rfl) (by kernel_rfl) (fun _ _ _ h => h) (Or.inl ⟨by rfl, ?hy154⟩) (by assumption) ?rest154
           case hy154 => (intro w hSw; (try dsimp only at hSw); go_simp; try (with_reducible rfl))
           try simp only [Act.put, List.getElem_toArray, List.getElem_cons_zero, List.setIfInBounds_toArray, List.set_cons_zero, List.set_cons_succ]
           refine' tk 1 ?_; (try simp only [tkS]); refine' tk 2 ?_; (try simp only [tkS]); refine' tk 3 ?_; (try simp only [tkS]); refine' tk 4 ?_; (try simp only [tkS]); refine' tk 5 ?_; (try simp only [tkS]); refine' tk 6 ?_; (try simp only [tkS]); refine' tk 7 ?_; (try simp only [tkS]); refine' tk 8 ?_; (try simp only [tkS]); refine' tk 9 ?_; (try simp only [tkS]); refine' tk 13 ?_; (try simp only [tkS]); refine' tk 14 ?_; (try simp only [tkS]); refine' tk 15 ?_; (try simp only [tkS])
           refine tk1 10 (fun K hK => ?_)
           go_simp
           go_at_call 73
           refine (HC1.out _ (bw_dn wx2)).mono ?_
           rintro e5 w10 ⟨rfl, hbq, -⟩
           have hb10 := hbq
           have Hb10 := hI (bw_via (bw_dn wx2) hb10)
           clear hb10 hbq
           refine hK.out _ _ (by exact HSz.out _ (Hb10.out)) (fun hHeld => ?_)
           clear hK K; (try simp only [tkS])
           refine' tk 11 ?_; (try simp only [tkS]); refine' tk 12 ?_; (try simp only [tkS]); refine' tk 16 ?_; (try simp only [tkS]); refine' tk 17 ?_; (try simp only [tkS]); refine' tk 18 ?_; (try simp only [tkS]); refine' tk 19 ?_; (try simp only [tkS]); refine' tk 20 ?_; (try simp only [tkS]); refine' tk 21 ?_; (try simp only [tkS])
           refine tk1 22 (fun K hK => ?_)
           go_simp
           go_at_call 73
           refine (HC2.out _ (Hb10.out)).mono ?_
           rintro e5 w22 ⟨rfl, hbq, -⟩
           have hb22 := hbq
           have Hb22 := hI (bw_via (Hb10.out) hb22)
           clear hb22 hbq
           refine hK.out _ _ (by exact HSz.out _ (Hb22.out)) (fun hHeld => ?_)
           clear hK K; (try simp only [tkS])
           refine' tk 23 ?_; (try simp only [tkS]); refine' tk 24 ?_; (try simp only [tkS])
           refine tk1 25 (fun K hK => ?_)
           go_simp
           go_at_fn g
           refine (HKeep.out (decide (R1 ≤ 0)) (decide (R2 ≤ 0)) _).mono ?_
           rintro e5 w25 ⟨rfl, hb25⟩
           have Hb25 := hI (bw_via (Hb22.out) hb25)
           clear hb25
           refine hK.out _ _ (by exact HSz.out _ (Hb25.out)) (fun hHeld => ?_)
           clear hK K; (try simp only [tkS])
           refine' tk 26 ?_; (try simp only [tkS])
           refine tkD ?_ _
           go_wp2_with fail
           go_meet
           rw [He1.out]
           try rw [He2.out]
           exact ⟨rfl, Hb25.out⟩
        case rest =>
         obtain ⟨rfl, hbx4⟩ := hcut
         rename World => wx3
         have Hbt := hI (bw_via Hbx.out (bw_via Hbx2.out (bw_via Hbx3.out hbx4)))
         have Hown3 := hI (own_below Hown.out Hbt.out)
         have Hb73 := hI (Hbw.out.via Hbt.out Hbw.out.size)
         have Hc16 := hI (Hb16.out.below hbx4)
         have Hc17 := hI (HB17.out.below (bw_via Hbx2.out (bw_via Hbx3.out hbx4)))
         have Hlk3 := hI (And.intro (Hlo.out.mono hbx4) (Hlk.out.2.mono Hbt.out))
         have Hst := hI (step_inv HPd.out HXQ1.out.1 HYQ1.out.1 hinv.out.2.2.2.2.2.1 hinv.out.2.2.2.2.2.2)
         have hXl : XQ.length ≤ 300 := Nat.le_trans HXQ1.out.2 hinv.out.2.2.1
         have hYl : YQ.length ≤ 300 := Nat.le_trans HYQ1.out.2 hinv.out.2.2.2.1
         have Hlens := hI (And.intro hXl hYl)
         have hnj := hinv.out.2.1
         generalize keep (begun lo.c (XQ.map PP.cuts)) (begun lo.c (YQ.map PP.cuts)) = kp at *
         clear hXl hYl hbx4
         cases kp
         ·have hkt : (!false) = true := rfl
          go_wp2_with fail
          go_roundw
          case rel => refine ⟨j + 1, nO, XQ, YQ, OP, by omega, by go_num, HXQ.out, HYQ.out, Hown3.out, Hb73.out, hinv.out.1, by omega, Hlens.out.1, Hlens.out.2, fun p hp => (hinv.out.2.2.2.2.1 p hp).mono Hbt.out, Hst.out.1, Hst.out.2.1⟩
          case measure => simp [intOf] <;> omega
         ·have hkf : (!true) = false := rfl
          obtain ⟨ao, co', rfl, hco', -⟩ := own_open Hown3.out
          have hm1 : IntKind.i64.wrap (-1 : Int) = -1 := by decide
          rcases nO with _ | mO
          ·go_upto_region 26 with fail
           refine wp_region_held_drew (S := (fun _ => True)) (by kernel_rfl) (by exact trivial) (fun hHeld => ?_)
           refine wpAnyH_take (i := 0) (v := ?v178) rfl (by kernel_rfl) (by kernel_rfl) (by kernel_rfl) (fun _ _ _ h => h) (Or.inl ⟨by rfl, ?hy178⟩) (by assumption) ?rest178
           case hy178 => (intro w hSw; (try dsimp only at hSw); go_simp; try (with_reducible rfl))
           try simp only [Act.put, List.getElem_toArray, List.getElem_cons_zero, List.setIfInBounds_toArray, List.set_cons_zero, List.set_cons_succ]
           refine' tk 1 ?_; (try simp only [tkS]); refine' tk 2 ?_; (try simp only [tkS]); refine' tkU 3 ?_; (try simp only [tkS]); refine' tkU 4 ?_; (try simp only [tkS]); refine' tkU 5 ?_; (try simp only [tkS]); refine' tkU 6 ?_; (try simp only [tkS]); refine' tkU 7 ?_; (try simp only [tkS]); refine' tkU 8 ?_; (try simp only [tkS]); refine' tkU 9 ?_; (try simp only [tkS]); refine' tkU 10 ?_; (try simp only [tkS]); refine' tk 11 ?_; (try simp only [tkS])
           refine tkD ?_ _
           have Hbq0 := hI (bw_refl wx3)
           have Hbq := hI (bw_dn wx3)
           have hp16 := cells7 (Hc16.out.below Hbq0.out) (Below.refl _ _)
           obtain ⟨x0, x1, x2, x3, x4, x5, x6⟩ := hp16
           have hp17 := cells7 (Hc17.out.below Hbq0.out) (Below.refl _ _)
           obtain ⟨y0, y1, y2, y3, y4, y5, y6⟩ := hp17
           have Hb74 := hI (Hb73.out.via Hbq.out Hb73.out.size)
           have Hown4 := hI (own_below Hown3.out Hbq.out)
           go_wp2_with (at_builtin; refine wpApp EP (by decide) (PP.row (⟨lo, hi⟩ : PP)) rfl _ _ rfl w7.heap.size _ _ _ rfl rfl Hown4.out rfl (one14 (⟨lo, hi⟩ : PP)) (by omega) (by decide) Hb74.out.size ?_; intro v' w9 hown' hg'; have Hbw9 := hI (below_app Hb74.out Hown4.out hg' Hb74.out.size); have Hown9 := hI hown'; have Hg9 := hI hg'; clear hown' hg')
           go_roundw
           case rel =>
            refine ⟨j + 1, 0 + 1, XQ, YQ, OP ++ [(⟨lo, hi⟩ : PP)], by omega, by go_num, HXQ.out, HYQ.out, by have := Hown9.out; rw [rows_flat] at this; exact this, Hbw9.out, by rw [List.length_append, hinv.out.1]; rfl, by omega, Hlens.out.1, Hlens.out.2, ?_, ?_, ?_⟩
            ·intro q hq
             rcases List.mem_append.1 hq with h | h
             ·exact ((hinv.out.2.2.2.2.1 q h).mono (bw_via Hbt.out Hbq.out)).app Hown4.out (by decide) Hg9.out
             ·cases List.mem_singleton.1 h
              exact PP.ok.app (⟨Hlk3.out.1.mono Hbq.out, Hlk3.out.2.mono Hbq.out⟩ : PP.ok _ (⟨lo, hi⟩ : PP)) Hown4.out (by decide) Hg9.out
            ·rw [List.map_append]; exact Hst.out.1
            ·rw [List.map_append]; exact Hst.out.2.1
           case measure => simp [intOf] <;> omega
          ·obtain ⟨gO, rfl⟩ := own_some Hown3.out (by omega)
           have hprt := own_parts Hown3.out (fun q hq => (hinv.out.2.2.2.2.1 q hq).mono Hbt.out)
           obtain ⟨gg, oo, p, hpa, hp, hpok, hpc⟩ := Parts.at hprt (Below.refl _ _) (show mO < mO + 1 by omega)
           cases hpa
           rw [Nat.zero_add] at hpc
           have h16 := cells7 Hc16.out (Below.refl _ _)
           have HSq := hI (fun w' (hb : Below wx3.heap.size wx3 w') => show w'.cell? ⟨gO, mO * 14 + 7, none⟩ = some (.int .i64 p.h.c.b) ∧ w'.cell? ⟨gO, mO * 14 + 8, none⟩ = some (.string p.h.c.s) ∧ w'.cell? ⟨gO, mO * 14 + 9, none⟩ = some (.int .i64 p.h.c.d) ∧ w'.cell? ⟨gO, mO * 14 + 10, none⟩ = some (.bool p.h.x) ∧ w'.cell? ⟨gO, mO * 14 + 11, none⟩ = some (.slice p.h.a p.h.n p.h.cap) ∧ w'.cell? ⟨gO, mO * 14 + 12, none⟩ = some (.bool false) ∧ w'.cell? ⟨gO, mO * 14 + 13, none⟩ = some (.slice none 0 0) ∧ w'.cell? ⟨b16, 0, none⟩ = some (.int .i64 lo.c.b) ∧ w'.cell? ⟨b16, 1, none⟩ = some (.string lo.c.s) ∧ w'.cell? ⟨b16, 2, none⟩ = some (.int .i64 lo.c.d) ∧ w'.cell? ⟨b16, 3, none⟩ = some (.bool lo.x) ∧ w'.cell? ⟨b16, 4, none⟩ = some (.slice lo.a lo.n lo.cap) ∧ w'.cell? ⟨b16, 5, none⟩ = some (.bool false) ∧ w'.cell? ⟨b16, 6, none⟩ = some (.slice none 0 0) from ⟨cell_keep hb hpc.2.2.2.2.2.2.2.1, cell_keep hb hpc.2.2.2.2.2.2.2.2.1, cell_keep hb hpc.2.2.2.2.2.2.2.2.2.1, cell_keep hb hpc.2.2.2.2.2.2.2.2.2.2.1, cell_keep hb hpc.2.2.2.2.2.2.2.2.2.2.2.1, cell_keep hb hpc.2.2.2.2.2.2.2.2.2.2.2.2.1, cell_keep hb hpc.2.2.2.2.2.2.2.2.2.2.2.2.2, cell_keep hb h16.1, cell_keep hb h16.2.1, cell_keep hb h16.2.2.1, cell_keep hb h16.2.2.2.1, cell_keep hb h16.2.2.2.2.1, cell_keep hb h16.2.2.2.2.2.1, cell_keep hb h16.2.2.2.2.2.2⟩)
           have Hck := hI (fun w' (hb : Below wx3.heap.size wx3 w') => cutcmp_d p.h lo w' (hpok.2.mono hb) (Hlk3.out.1.mono hb))
           have hnz : cmpC p.h.c lo.c ≠ 0 := Hst.out.2.2 rfl p.cuts (by rw [List.getLast?_map, List.getLast?_eq_getElem?, hinv.out.1, show mO + 1 - 1 = mO from rfl, hp]; rfl)
           unfold CC.agg at Hck
           generalize cmpC p.h.c lo.c = R at *
           have hnz2 : (R == 0) = false := by simpa using hnz
           have hmw : IntKind.i64.wrap (mO : Int) = mO := IntWalk.i64_in _ (by omega)
           have hm3 : (((mO + 1 : Nat) : Int) - 1) = (mO : Int) := by omega
           have hm4 : (0 : Int) ≤ (mO : Int) := by omega
           have hm5 : (mO : Int) < (mO : Int) + 1 := by omega
           have hm6 : (mO : Int) < ((mO + 1 : Nat) : Int) := by omega
           clear hprt hpok hpc h16 hnz hp
           go_upto_region 26 with fail
           refine wp_region_held_drew (S := (fun w' => w'.cell? ⟨gO, mO * 14 + 7, none⟩ = some (.int .i64 p.h.c.b) ∧ w'.cell? ⟨gO, mO * 14 + 8, none⟩ = some (.string p.h.c.s) ∧ w'.cell? ⟨gO, mO * 14 + 9, none⟩ = some (.int .i64 p.h.c.d) ∧ w'.cell? ⟨gO, mO * 14 + 10, none⟩ = some (.bool p.h.x) ∧ w'.cell? ⟨gO, mO * 14 + 11, none⟩ = some (.slice p.h.a p.h.n p.h.cap) ∧ w'.cell? ⟨gO, mO * 14 + 12, none⟩ = some (.bool false) ∧ w'.cell? ⟨gO, mO * 14 + 13, none⟩ = some (.slice none 0 0) ∧ w'.cell? ⟨b16, 0, none⟩ = some (.int .i64 lo.c.b) ∧ w'.cell? ⟨b16, 1, none⟩ = some (.string lo.c.s) ∧ w'.cell? ⟨b16, 2, none⟩ = some (.int .i64 lo.c.d) ∧ w'.cell? ⟨b16, 3, none⟩ = some (.bool lo.x) ∧ w'.cell? ⟨b16, 4, none⟩ = some (.slice lo.a lo.n lo.cap) ∧ w'.cell? ⟨b16, 5, none⟩ = some (.bool false) ∧ w'.cell? ⟨b16, 6, none⟩ = some (.slice none 0 0))) (by kernel_rfl) (by exact HSq.out _ (bw_dn wx3)) (fun hHeld => ?_)
           refine wpAnyH_take (i := 0) (v := ?v190) rfl (by kernel_rfl) (by kernel_rfl) (by kernel_rfl) (fun _ _ _ h => h) (Or.inl ⟨by rfl, ?hy190⟩) (by assumption) ?rest190
           case hy190 => (intro w hSw; (try dsimp only at hSw); go_simp; try (with_reducible rfl))
           try simp only [Act.put, List.getElem_toArray, List.getElem_cons_zero, List.setIfInBounds_toArray, List.set_cons_zero, List.set_cons_succ]
           refine' tk 1 ?_; (try simp only [tkS]); refine' tk 2 ?_; (try simp only [tkS]); refine' tk 3 ?_; (try simp only [tkS]); refine' tk 4 ?_; (try simp only [tkS]); refine' tk 5 ?_; (try simp only [tkS]); refine' tk 6 ?_; (try simp only [tkS]); refine' tk 7 ?_; (try simp only [tkS]); refine' tk 8 ?_; (try simp only [tkS])
           refine tk1 9 (fun K hK => ?_)
           go_simp
           go_at_call 73
           refine (Hck.out _ (bw_dn wx3)).mono ?_
           rintro e5 wk ⟨rfl, hbq, -⟩
           have hb9 := hbq
           have Hb9 := hI (bw_via (bw_dn wx3) hb9)
           clear hb9 hbq
           refine hK.out _ _ (by exact HSq.out _ (Hb9.out)) (fun hHeld => ?_)
           clear hK K; (try simp only [tkS])
           refine' tk 10 ?_; (try simp only [tkS]); refine' tk 11 ?_; (try simp only [tkS])
           refine tkD ?_ _
           have Hbq0 := hI (Hb9.out)
           have Hbq := hI (Hb9.out)
           have hp16 := cells7 (Hc16.out.below Hbq0.out) (Below.refl _ _)
           obtain ⟨x0, x1, x2, x3, x4, x5, x6⟩ := hp16
           have hp17 := cells7 (Hc17.out.below Hbq0.out) (Below.refl _ _)
           obtain ⟨y0, y1, y2, y3, y4, y5, y6⟩ := hp17
           have Hb74 := hI (Hb73.out.via Hbq.out Hb73.out.size)
           have Hown4 := hI (own_below Hown3.out Hbq.out)
           go_wp2_with (at_builtin; refine wpApp EP (by decide) (PP.row (⟨lo, hi⟩ : PP)) rfl _ _ rfl w7.heap.size _ _ _ rfl rfl Hown4.out rfl (one14 (⟨lo, hi⟩ : PP)) (by omega) (by decide) Hb74.out.size ?_; intro v' w9 hown' hg'; have Hbw9 := hI (below_app Hb74.out Hown4.out hg' Hb74.out.size); have Hown9 := hI hown'; have Hg9 := hI hg'; clear hown' hg')
           go_roundw
           case rel =>
            refine ⟨j + 1, (mO + 1) + 1, XQ, YQ, OP ++ [(⟨lo, hi⟩ : PP)], by omega, by go_num, HXQ.out, HYQ.out, by have := Hown9.out; rw [rows_flat] at this; exact this, Hbw9.out, by rw [List.length_append, hinv.out.1]; rfl, by omega, Hlens.out.1, Hlens.out.2, ?_, ?_, ?_⟩
            ·intro q hq
             rcases List.mem_append.1 hq with h | h
             ·exact ((hinv.out.2.2.2.2.1 q h).mono (bw_via Hbt.out Hbq.out)).app Hown4.out (by decide) Hg9.out
             ·cases List.mem_singleton.1 h
              exact PP.ok.app (⟨Hlk3.out.1.mono Hbq.out, Hlk3.out.2.mono Hbq.out⟩ : PP.ok _ (⟨lo, hi⟩ : PP)) Hown4.out (by decide) Hg9.out
            ·rw [List.map_append]; exact Hst.out.1
            ·rw [List.map_append]; exact Hst.out.2.1
           case measure => simp [intOf] <;> omega
    ·have hj : j + 1 = N := by omega
     have hjn : ¬ (j : Int) < (N : Int) - 1 := by omega
     have hPl : P.length = N := by rw [← HPm.out, List.length_map]; exact HPl.out
     have hPd : ∃ q, P.drop j = [q] := by
      obtain ⟨q, hq⟩ : ∃ q, P[j]? = some q := ⟨_, List.getElem?_eq_getElem (by omega)⟩
      obtain ⟨g1, e1⟩ := List.getElem?_eq_some_iff.1 hq
      exact ⟨q, by rw [List.drop_eq_getElem_cons g1, List.drop_eq_nil_of_le (by omega), e1]⟩
     have hOF : OP.map PP.cuts = F := by
      obtain ⟨q, hq⟩ := hPd
      have := hinv.out.2.2.2.2.2.1
      rw [hq] at this
      exact this
     have hFl : F.length = nO := by rw [← hOF, List.length_map]; exact hinv.out.1
     have hprt := own_parts hown hinv.out.2.2.2.2.1
     obtain ⟨ao, co', rfl, hco', -⟩ := own_open hown
     have HFl := hI hFl
     have HOF := hI hOF
     have HPrt := hI hprt
     have Hbw := hI hbw
     have Hnl := hI hinv.out.1
     clear hown hprt hOF hFl hPd hPl hbw
     rcases Nat.lt_or_ge 256 nO with hbig | hsm
     ·have hb1 : (256 : Int) < (nO : Int) := by omega
      go_wp2_with fail
      go_ret2
      exact ⟨_, rfl, .inl ⟨by rw [HFl.out]; exact hbig, rfl⟩, Hbase.out.via Hbw.out Hbase.out.size⟩
     ·have hb1 : ¬ (256 : Int) < (nO : Int) := by omega
      have HI := hI (intervals_any _ OP _ HPrt.out (by rw [Hnl.out]; omega))
      rw [Hnl.out] at HI
      go_wp2_with (go_at_call 76; refine (HI.out).mono ?_; rintro e w9 ⟨v9, rfl, ⟨a9, c9, rfl, hiv⟩, hb9⟩)
      go_ret2
      refine ⟨_, rfl, .inr ⟨by rw [HFl.out]; exact hsm, a9, c9, by rw [HFl.out]; rfl, ?_⟩, (Hbase.out.via Hbw.out Hbase.out.size).via hb9 (Nat.le_trans Hbase.out.size Hbw.out.size)⟩
      rw [HFl.out, ← HOF.out, List.map_map]
      exact hiv
end Go.Proofs.YtacihodamichhaaGreatDoor
