/-
  Parts of the proof: Cpl, Qr.
-/
import Derived.ProofKit
import Derived.Deep.MidRow
import Derived.Deep.WholeRow
import Derived.Test.YtlcmhbkmpkcajaaGreatDoorN18
namespace Go.Proofs.YtlcmhbkmpkcajaaGreatDoor
abbrev Vec := List Rat
def dotV (a b : Vec) : Rat := (List.zipWith (· * ·) a b).foldl (· + ·) 0
def mixV (a : Vec) (j : Rat) (b : Vec) (k : Rat) : Vec := List.zipWith (fun x y => x * j + y * k) a b
def negV (a : Vec) : Vec := a.map (fun x => -x)
def lcmD (a : Vec) : Nat := a.foldl (fun d x => d * (x.den / Nat.gcd d x.den)) 1
def gcdN (a : Vec) : Nat := a.foldl (fun d x => Nat.gcd d x.num.natAbs) 0
def primV (a : Vec) : Vec :=
  if gcdN (a.map (fun x => x * (lcmD a : Rat))) = 0 then a.map (fun x => x * (lcmD a : Rat)) else (a.map (fun x => x * (lcmD a : Rat))).map (fun x => x * mkRat 1 (gcdN (a.map (fun x => x * (lcmD a : Rat)))))
structure Bld where
  lines : List Vec
  rays : List (Vec × Nat)
  count : Nat
deriving DecidableEq
def adjB (rays : List (Vec × Nat)) (p q : Vec × Nat) : Bool := (rays.filter (fun r => (p.2 &&& q.2) &&& r.2 == (p.2 &&& q.2))).length == 2
def lineOf (p : Rat) (line : Vec) : Vec := if 0 < p then negV line else line
def prodOf (p : Rat) : Rat := if 0 < p then -p else p
def intoV (row line : Vec) (p : Rat) (v : Vec) : Vec := mixV v 1 line (-(dotV row v / p))
def splitB (b : Bld) (row : Vec) (k n : Nat) : Bld :=
  { lines := (b.lines.eraseIdx k).map (intoV row (lineOf (dotV row (b.lines.getD k [])) (b.lines.getD k [])) (prodOf (dotV row (b.lines.getD k []))))
    rays := b.rays.map (fun r => (primV (intoV row (lineOf (dotV row (b.lines.getD k [])) (b.lines.getD k [])) (prodOf (dotV row (b.lines.getD k []))) r.1), r.2 ||| 2 ^ n)) ++ [(primV (lineOf (dotV row (b.lines.getD k [])) (b.lines.getD k [])), 2 ^ n - 1)]
    count := n + 1 }
def behindB (row : Vec) (rays : List (Vec × Nat)) : List (Vec × Nat) := rays.filter (fun r => decide (0 < dotV row r.1))
def keptB (row : Vec) (n : Nat) (rays : List (Vec × Nat)) : List (Vec × Nat) := (rays.filter (fun r => decide (¬ 0 < dotV row r.1))).map (fun r => if dotV row r.1 = 0 then (r.1, r.2 ||| 2 ^ n) else r)
def madeOf (row : Vec) (n : Nat) (rays : List (Vec × Nat)) (p q : Vec × Nat) : Option (Vec × Nat) :=
  if dotV row q.1 = 0 ∨ adjB rays p q = false then none else some (primV (mixV q.1 (dotV row p.1) p.1 (-(dotV row q.1))), (p.2 &&& q.2) ||| 2 ^ n)
def madeB (row : Vec) (n : Nat) (rays : List (Vec × Nat)) : List (Vec × Nat) := (behindB row rays).flatMap fun p => (keptB row n rays).filterMap (madeOf row n rays p)
def addB (b : Bld) (row : Vec) : Bld :=
  match b.lines.findIdx? (fun l => decide (dotV row l ≠ 0)) with
  | some k => splitB b row k b.count
  | none => { lines := b.lines, rays := if behindB row b.rays = [] then keptB row b.count b.rays else keptB row b.count b.rays ++ madeB row b.count b.rays, count := b.count + 1 }
def unitV (dim i : Nat) : Vec := (List.replicate dim (0 : Rat)).set i 1
def startB (dim : Nat) : Bld := { lines := (List.range dim).map (unitV dim), rays := [], count := 0 }
def overV (row : Vec) (k : Rat) : Vec := row.map (fun x => x / k)
def lessV (a b : Vec) (k : Rat) : Vec := List.zipWith (fun x y => x - y * k) a b
def findRow (m : List Vec) (k : Nat) : Nat → Nat → Option Nat
  | 0, _ => none
  | f + 1, i => if (m.getD i []).getD k 0 ≠ 0 then some i else findRow m k f (i + 1)
def swapM (m : List Vec) (i r : Nat) : List Vec := (m.set i (m.getD r [])).set r (m.getD i [])
def clearM (m : List Vec) (r k : Nat) : List Vec := m.mapIdx fun j row => if j ≠ r ∧ row.getD k 0 ≠ 0 then lessV row (m.getD r []) (row.getD k 0) else row
def stepM (s : List Vec × List Nat) (k : Nat) : List Vec × List Nat :=
  match findRow s.1 k (s.1.length - s.2.length) s.2.length with
  | none => s
  | some i => (clearM ((swapM s.1 i s.2.length).set s.2.length (overV (s.1.getD i []) ((s.1.getD i []).getD k 0))) s.2.length k, s.2 ++ [k])
def redM (m : List Vec) : List Vec × List Nat := (List.range (m.headD []).length).foldl (fun s k => if s.2.length < s.1.length then stepM s k else s) (m, [])
def reduceM (m : List Vec) : List Vec × List Nat := ((redM m).1.take (redM m).2.length, (redM m).2)
def cmpV : Vec → Vec → Int
  | [], [] => 0
  | [], _ => -1
  | _, [] => 1
  | x :: a, y :: b => if x < y then -1 else if y < x then 1 else cmpV a b
def insV (x : Vec) (s : List Vec) : List Vec := (s.reverse.dropWhile (fun y => decide (cmpV x y < 0))).reverse ++ x :: (s.reverse.takeWhile (fun y => decide (cmpV x y < 0))).reverse
def sortV (l : List Vec) : List Vec := l.foldl (fun s x => insV x s) []
def shiftV (v : Vec) (lk : Vec × Nat) : Vec := mixV v 1 lk.1 (-(v.getD lk.2 0))
def doneRay (lines : List Vec) (piv : List Nat) (v : Vec) : Vec := primV ((List.zip lines piv).foldl shiftV v)
def dedup (l : List Vec) : List Vec := l.foldl (fun s x => if x ∈ s then s else s ++ [x]) []
structure Con where
  dim : Nat
  lines : List Vec
  rays : List Vec
deriving DecidableEq
def doneB (b : Bld) (dim : Nat) : Con := { dim := dim, lines := (reduceM b.lines).1, rays := sortV (dedup (b.rays.map fun r => doneRay (reduceM b.lines).1 (reduceM b.lines).2 r.1)) }
def rowsOf (eqs rows : List Vec) : List Vec := (eqs.flatMap fun a => [a, negV a]) ++ rows
def runB (dim : Nat) (eqs rows : List Vec) : Bld := (rowsOf eqs rows).foldl addB (startB dim)
def boundedC (dim : Nat) (eqs rows : List Vec) : Con := doneB (runB dim eqs rows) dim
def generatedC (dim : Nat) (l r : List Vec) : Con := boundedC dim (boundedC dim l r).lines (boundedC dim l r).rays
abbrev FitR (r : Rat) : Prop := r.num.natAbs < 10 ^ 100 ∧ r.den < 10 ^ 100
abbrev FitV (dim : Nat) (a : Vec) : Prop := a.length = dim ∧ ∀ x ∈ a, FitR x
abbrev FitB (dim : Nat) (b : Bld) : Prop := (∀ l ∈ b.lines, FitV dim l) ∧ (∀ r ∈ b.rays, FitV dim r.1 ∧ r.2 < 2 ^ 1024) ∧ b.count < 1000
def FitF {σ α : Type} (F : σ → Prop) (f : σ → α → σ) : σ → List α → Prop
  | s, [] => F s
  | s, a :: l => F s ∧ FitF F f (f s a) l
instance FitF.dec {σ α : Type} (F : σ → Prop) [∀ s, Decidable (F s)] (f : σ → α → σ) : ∀ (s : σ) (l : List α), Decidable (FitF F f s l)
  | s, [] => inferInstanceAs (Decidable (F s))
  | s, a :: l => @instDecidableAnd _ _ _ (FitF.dec F f (f s a) l)
theorem FitF.take {σ α : Type} {F : σ → Prop} {f : σ → α → σ} : ∀ {l : List α} {s : σ} {k : Nat}, FitF F f s l → k ≤ l.length → F ((l.take k).foldl f s)
  | [], s, k, h, _ => by simpa [FitF] using h
  | a :: l, s, 0, h, _ => h.1
  | a :: l, s, k + 1, h, hk => by
    rw [List.take_succ_cons, List.foldl_cons]
    exact FitF.take h.2 (by simpa using hk)
def FitM (dim : Nat) (m : List Vec) : Prop := FitF (fun s : List Vec × List Nat => ∀ l ∈ s.1, FitV dim l) (fun s k => if s.2.length < s.1.length then stepM s k else s) (m, []) (List.range (m.headD []).length)
def FitD (dim : Nat) (b : Bld) : Prop := FitM dim b.lines ∧ ∀ r ∈ b.rays, FitF (FitV dim) shiftV r.1 (List.zip (reduceM b.lines).1 (reduceM b.lines).2) ∧ FitV dim (doneRay (reduceM b.lines).1 (reduceM b.lines).2 r.1)
def FitC (dim : Nat) (eqs rows : List Vec) : Prop := (∀ a ∈ rowsOf eqs rows, FitV dim a) ∧ FitF (FitB dim) addB (startB dim) (rowsOf eqs rows) ∧ FitD dim (runB dim eqs rows)
instance {dim : Nat} {m : List Vec} : Decidable (FitM dim m) := by unfold FitM; infer_instance
instance {dim : Nat} {b : Bld} : Decidable (FitD dim b) := by unfold FitD; infer_instance
instance {dim : Nat} {e r : List Vec} : Decidable (FitC dim e r) := by unfold FitC; infer_instance
set_option maxRecDepth 100000
theorem known_a : boundedC 3 [] [[1, 1, 0]] = ⟨3, [[1, -1, 0], [0, 0, 1]], [[0, -1, 0]]⟩ ∧ FitC 3 [] [[1, 1, 0]] := by decide +kernel
theorem known_b : boundedC 2 [] [[1, 0], [2, 2], [1, 3]] = ⟨2, [], [[-3, 1], [0, -1]]⟩ ∧ FitC 2 [] [[1, 0], [2, 2], [1, 3]] := by decide +kernel
theorem known_c : boundedC 2 [] [[-3, 1], [0, -1]] = ⟨2, [], [[1, 0], [1, 3]]⟩ ∧ FitC 2 [] [[-3, 1], [0, -1]] := by decide +kernel
theorem known_d : boundedC 2 [] [[1, 0], [1, 3]] = ⟨2, [], [[-3, 1], [0, -1]]⟩ ∧ FitC 2 [] [[1, 0], [1, 3]] := by decide +kernel
theorem zip_zero (d : Nat) : ∀ (l : Vec) (s : Rat), (List.zipWith (· * ·) (List.replicate d (0 : Rat)) l).foldl (· + ·) s = s := by
  induction d with
  | zero => intro l s; simp
  | succ d ih =>
    intro l s
    cases l with
    | nil => simp
    | cons x l => rw [List.replicate_succ, List.zipWith_cons_cons, List.foldl_cons, Rat.zero_mul, Rat.add_zero]; exact ih l s
theorem dot_zero (d : Nat) (l : Vec) : dotV (List.replicate d 0) l = 0 := zip_zero d l 0
theorem neg_zero (d : Nat) : negV (List.replicate d 0) = List.replicate d 0 := by
  unfold negV
  rw [List.map_replicate, Rat.neg_zero]
theorem add_zero (d : Nat) (b : Bld) (h : b.rays = []) : addB b (List.replicate d 0) = { lines := b.lines, rays := [], count := b.count + 1 } := by
  unfold addB
  have hf : b.lines.findIdx? (fun l => decide (dotV (List.replicate d 0) l ≠ 0)) = none := by
    rw [List.findIdx?_eq_none_iff]
    intro l _
    rw [dot_zero]
    rfl
  rw [hf, h]
  rfl
theorem run_zeros (d : Nat) (k : Nat) : ∀ (b : Bld), b.rays = [] → (List.replicate k (List.replicate d (0 : Rat))).foldl addB b = { lines := b.lines, rays := [], count := b.count + k } := by
  induction k with
  | zero => intro b h; cases b; simp at h; subst h; rfl
  | succ k ih =>
    intro b h
    rw [List.replicate_succ, List.foldl_cons, add_zero d b h, ih _ rfl]
    simp only [Nat.add_assoc, Nat.add_comm 1 k]
theorem rows_zeros (d k : Nat) : rowsOf (List.replicate k (List.replicate d 0)) [] = List.replicate (2 * k) (List.replicate d 0) := by
  unfold rowsOf
  rw [List.append_nil]
  induction k with
  | zero => rfl
  | succ k ih =>
    rw [List.replicate_succ, List.flatMap_cons, ih, neg_zero, show 2 * (k + 1) = 2 * k + 1 + 1 by omega, List.replicate_succ, List.replicate_succ]
    rfl
theorem fit_zeros (d : Nat) (k : Nat) : ∀ (b : Bld), b.rays = [] → (∀ l ∈ b.lines, FitV d l) → b.count + k < 1000 → FitF (FitB d) addB b (List.replicate k (List.replicate d (0 : Rat))) := by
  induction k with
  | zero => intro b h hl hc; exact ⟨hl, by rw [h]; intro r hr; (cases hr), hc⟩
  | succ k ih =>
    intro b h hl hc
    rw [List.replicate_succ]
    refine ⟨⟨hl, by rw [h]; intro r hr; (cases hr), by omega⟩, ?_⟩
    rw [add_zero d b h]
    exact ih _ rfl hl (by show b.count + 1 + k < 1000; omega)
theorem fit_start : ∀ d, d < 9 → ∀ l ∈ (startB d).lines, FitV d l := by decide +kernel
theorem fit_d_start : ∀ d, d < 9 → FitD d (startB d) := by decide +kernel
theorem fitD_count {d : Nat} {b : Bld} {n : Nat} (h : FitD d b) : FitD d { lines := b.lines, rays := [], count := n } := ⟨h.1, fun r hr' => by cases hr'⟩
theorem zeros_all (d k : Nat) (hd : d < 9) (hk : k < 200) (eqs rows : List Vec) (h : rowsOf eqs rows = List.replicate k (List.replicate d 0)) : boundedC d eqs rows = ⟨d, (List.range d).map (unitV d), []⟩ ∧ FitC d eqs rows := by
  have hrun : runB d eqs rows = { lines := (startB d).lines, rays := [], count := 0 + k } := by
    unfold runB
    rw [h]
    exact run_zeros d k (startB d) rfl
  have hdone : ∀ d, d < 9 → doneB (startB d) d = ⟨d, (List.range d).map (unitV d), []⟩ := by decide +kernel
  refine ⟨?_, ?_, ?_, ?_⟩
  · unfold boundedC
    rw [hrun]
    exact hdone d hd
  · intro a ha
    rw [h] at ha
    obtain rfl : a = List.replicate d 0 := List.eq_of_mem_replicate ha
    exact ⟨List.length_replicate, fun x hx => by rw [List.eq_of_mem_replicate hx]; exact ⟨by decide, by decide⟩⟩
  · rw [h]
    exact fit_zeros d k (startB d) rfl (fit_start d hd) (by show 0 + k < 1000; omega)
  · rw [hrun]
    exact fitD_count (fit_d_start d hd)
theorem rows_zero (d k : Nat) (hd : d < 9) (hk : k < 100) : boundedC d [] (List.replicate k (List.replicate d 0)) = ⟨d, (List.range d).map (unitV d), []⟩ ∧ FitC d [] (List.replicate k (List.replicate d 0)) :=
  zeros_all d k hd (by omega) _ _ rfl
theorem lines_zero (d k : Nat) (hd : d < 9) (hk : k < 100) : boundedC d (List.replicate k (List.replicate d 0)) [] = ⟨d, (List.range d).map (unitV d), []⟩ ∧ FitC d (List.replicate k (List.replicate d 0)) [] :=
  zeros_all d (2 * k) hd (by omega) _ _ (rows_zeros d k)
theorem dual_all : ∀ d, d < 9 → boundedC d ((List.range d).map (unitV d)) [] = ⟨d, [], []⟩ ∧ FitC d ((List.range d).map (unitV d)) [] := by decide +kernel
end Go.Proofs.YtlcmhbkmpkcajaaGreatDoor
namespace Go.Proofs.YtlcmhbkmpkcajaaGreatDoor
open Go.RowKit
theorem tC_len (t : Nat) : (tC t).toList.length = 16 := rfl
def rayC (p : Value) (t : Nat) : List Value := p :: (tC t).toList
theorem rayC_len (p : Value) (t : Nat) : (rayC p t).length = 17 := rfl
theorem range_blk {w : World} {b : Nat} {cs : List Value} {T : TypeId} (h : Blk w b cs.toArray T) : w.rangeAt b 0 cs := fun j v hv => by
  rw [h.cell, Nat.zero_add]
  simpa using hv
theorem range_tl {w : World} {b : Nat} {p : Value} {cs : List Value} {T : TypeId} (h : Blk w b (p :: cs).toArray T) : w.rangeAt b 1 cs := fun j v hv => by
  rw [h.cell, Nat.add_comm 1 j]
  simpa using hv
theorem range_mono {w w' : World} {b o : Nat} {cs : List Value} (h : w.rangeAt b o cs) (hb : Below w.heap.size w w') : w'.rangeAt b o cs := fun j v hv => cell_keep hb (h j v hv)
theorem wpList_store_new {P : Program} {ops : Array Oper} {rest : List Oper} {o : Oper} {a : Act} {w : World} {Q : Exit → Act → World → Prop} (hgd : o.guard = none) (ty : TypeId) (x y : Operand) (ho : o.op = .store ty x y)
    (c : Array Value) (cs : List Value) (hx : a.eval x = .pointer (some ⟨w.heap.size, 0, none⟩)) (hy : a.eval y = .agg cs.toArray)
    (hc : c.size = cs.length) (hi : (P.info? ty).map (·.size) = some cs.length) (h1 : ∀ v ∈ cs, v.oneCell' = true)
    (h : wpList P ops Q rest (a.put o.dst undef) (w.alloc (.cells cs.toArray ty))) : wpList P ops Q (o :: rest) a (w.alloc (.cells c ty)) := by
  refine wpList_plain hgd fun K hK => ?_
  unfold Oper.wp execOp
  have := run_storeAt_new (P := P) w ty c cs.toArray (by simpa using hi) (by simpa using hc) (all_oneCell_toArray h1)
  simp only [ho, hx, hy, Sem.run_bind, this, Result.andThen_ok, Sem.run_pure]
  exact hK _ _ h
def Ry (w : World) (v : Value) (rs : List (List Rat × Nat)) : Prop := ∃ ps : List Value, ps.length = rs.length ∧ Sl w 17 v (List.zipWith (fun p r => rayC p r.2) ps rs) ∧ AT w 89 v ∧ ∀ (k : Nat) (p : Value) (r : List Rat × Nat), ps[k]? = some p → rs[k]? = some r → QV w p r.1
theorem Ry.open {w : World} {v : Value} {rs : List (List Rat × Nat)} (h : Ry w v rs) : ∃ a cap, v = .slice a rs.length cap ∧ rs.length ≤ cap ∧ cap ≤ maxLen := by
  obtain ⟨ps, hl, hS, -⟩ := h
  have := Sl.open hS
  rwa [List.length_zipWith, hl, Nat.min_self] at this
theorem Ry.at {w wr : World} {n cap : Nat} {a : Option Addr} {rs : List (List Rat × Nat)} (h : Ry w (.slice a n cap) rs) (hb : Below w.heap.size w wr) {k : Nat} (hk : k < n) :
    ∃ b off pa pn pc r, a = some ⟨b, off, none⟩ ∧ rs[k]? = some r ∧ QV wr (.slice pa pn pc) r.1 ∧ wr.rangeAt b (off + k * 17) (rayC (.slice pa pn pc) r.2) := by
  obtain ⟨ps, hl, hS, -, hq⟩ := h
  obtain ⟨b, off, ha, hlt, row, hr, hc⟩ := Sl.row hS hb hk
  rw [List.getElem?_zipWith] at hr
  cases hp : ps[k]? with
  | none => simp [hp] at hr
  | some p =>
    cases hx : rs[k]? with
    | none => simp [hp, hx] at hr
    | some r =>
      simp [hp, hx] at hr
      subst hr
      have hQ := (hq k p r hp hx).mono hb
      obtain ⟨pa, pc, rfl, -, -⟩ := hQ.open
      refine ⟨b, off, pa, _, pc, r, ha, rfl, hQ, fun j v hv => ?_⟩
      have hj : j < 17 := by have := lt_of_get hv; rwa [rayC_len] at this
      rw [hc j hj, List.getD_eq_getElem?_getD, hv]
      rfl
def cntB (c : Nat) (rs : List (List Rat × Nat)) (k : Nat) : Nat := ((rs.take k).filter (fun r => c &&& r.2 == c)).length
theorem cnt_step {c : Nat} {rs : List (List Rat × Nat)} {k : Nat} {r : List Rat × Nat} (h : rs[k]? = some r) : cntB c rs (k + 1) = cntB c rs k + (if c &&& r.2 == c then 1 else 0) := by
  unfold cntB
  rw [List.take_add_one, h, List.filter_append, List.length_append]
  congr 1
  simp only [Option.toList_some, List.filter_cons, List.filter_nil]
  split <;> rfl
theorem cnt_le (c : Nat) (rs : List (List Rat × Nat)) (k : Nat) : cntB c rs k ≤ k := by
  unfold cntB
  exact Nat.le_trans (List.length_filter_le _ _) (by rw [List.length_take]; omega)
theorem blk3c {w : World} {b : Nat} {x y z : Value} {T : TypeId} (h : Blk w b #[x, y, z] T) : (w.cell? ⟨b, 0, none⟩ = some x ∧ w.cell? ⟨b, 1, none⟩ = some y ∧ w.cell? ⟨b, 2, none⟩ = some z) ∧ w.frozen? ⟨b, 0, none⟩ = false ∧ w.frozen? ⟨b, 1, none⟩ = false ∧ w.frozen? ⟨b, 2, none⟩ = false :=
  ⟨⟨by rw [h.cell]; rfl, by rw [h.cell]; rfl, by rw [h.cell]; rfl⟩, h.free 0, h.free 1, h.free 2⟩
theorem tC_one (t : Nat) : ∀ v ∈ (tC t).toList, v.oneCell' = true := by
  intro v hv
  simp [tC] at hv
  rcases hv with rfl | rfl <;> rfl
set_option maxHeartbeats 8000000 in
set_option maxRecDepth 10000 in
theorem adjacent_g (B : Nat) (vl u : Value) (cnt : Int) (rs : List (List Rat × Nat)) (p q : Value) (tp tq : Nat) (w : World) (hB : Blk w B #[vl, u, .int .i64 cnt] 80) (hR : Ry w u rs) (hr : ∀ r ∈ rs, r.2 < 18446744073709551616) (hp : tp < 18446744073709551616) (hq : tq < 18446744073709551616) (P Q : List Rat) :
    Calls Tryz.prog 44 #[.pointer (some ⟨B, 0, none⟩), .agg (rayC p tp).toArray, .agg (rayC q tq).toArray] w (Ret (.bool (adjB rs (P, tp) (Q, tq))) w) := by
  have HA := hI (fun w' => tand_g tp tq w' hp hq)
  have hc : tp &&& tq < 18446744073709551616 := Nat.lt_of_le_of_lt Nat.and_le_left hp
  have HFin := hI (show (cntB (tp &&& tq) rs rs.length == 2) = adjB rs (P, tp) (Q, tq) from by unfold cntB adjB; rw [List.take_length])
  have HWi := hI (fun (k : Nat) (r : List Rat × Nat) (h : rs[k]? = some r) w' => twithin_g (tp &&& tq) r.2 w' hc (hr r (List.mem_of_getElem? h)))
  have HSt := hI (fun (k : Nat) (r : List Rat × Nat) (h : rs[k]? = some r) => cnt_step (c := tp &&& tq) h)
  have HLe := hI (fun k => cnt_le (tp &&& tq) rs k)
  have H0 := hI (show cntB (tp &&& tq) rs 0 = 0 from rfl)
  obtain ⟨a, cap, rfl, hc1, hc2⟩ := hR.open
  unfold maxLen at hc2
  have HRy := hI hR
  have hK := below2 w (.cells (rayC p tp).toArray 89) (.cells (rayC q tq).toArray 89)
  have HBb := hI (fun w' (hb : Below w.heap.size w w') => hB.below hb)
  have hX4 : Blk ((w.alloc (.cells (rayC p tp).toArray 89)).alloc (.cells (rayC q tq).toArray 89)) w.heap.size (rayC p tp).toArray 89 := (Blk.new w _ _).old _
  have hX5 : Blk ((w.alloc (.cells (rayC p tp).toArray 89)).alloc (.cells (rayC q tq).toArray 89)) (w.heap.size + 1) (rayC q tq).toArray 89 := by
    have h := Blk.new (w.alloc (.cells (rayC p tp).toArray 89)) (rayC q tq).toArray 89
    simpa using h
  have hr4 := range_tl (p := p) (cs := (tC tp).toList) hX4
  have hr5 := range_tl (p := q) (cs := (tC tq).toList) hX5
  have hl4 := tC_len tp
  have hl5 := tC_len tq
  have HlC := hI (tC_len (tp &&& tq))
  have HoC := hI (tC_one (tp &&& tq))
  obtain ⟨N, hN⟩ : ∃ N, rs.length = N := ⟨_, rfl⟩
  rw [hN] at HRy HFin hc1 HBb
  generalize adjB rs (P, tp) (Q, tq) = res at *
  have HK := hI hK
  unfold rayC at hr4 hr5 HK ⊢
  clear hR hr hp hq hB hN hK hX4 hX5 hc
  generalize hcm : tp &&& tq = cm at *
  generalize tC tp = A4 at *
  generalize tC tq = A5 at *
  go_enter Tryz.func44, Tryz.ntmps44
  go_wp2_with (first
    | (refine wpList_load_mid rfl 87 _ rfl w.heap.size 1 rfl A4.toList _ hr4 Tryz.underlying87 rfl (by rw [hl4]; kernel_rfl) ?_)
    | (refine wpList_load_mid rfl 87 _ rfl (w.heap.size + 1) 1 rfl A5.toList _ hr5 Tryz.underlying87 rfl (by rw [hl5]; kernel_rfl) ?_)
    | (go_at_call 47; refine (HA.out _).mono ?_; rintro e5 w1 ⟨rfl, hb1⟩; have Hb1 := hI (HK.out.via hb1 HK.out.size); clear hb1 hr4 hr5; obtain ⟨⟨B0, B1, B2⟩, -⟩ := blk3c (HBb.out _ Hb1.out); have Blt := (HBb.out _ Hb1.out).lt)
    | (refine wpList_store_new rfl 87 _ _ rfl _ (tC cm).toList rfl rfl (by rw [HlC.out]; kernel_rfl) (by rw [HlC.out]; kernel_rfl) HoC.out ?_))
  have HW := hI (Hb1.out.via (below1 w1 (.cells (tC cm).toList.toArray 87)) Hb1.out.size)
  have HC := hI (fun w' (hb : Below (w1.alloc (.cells (tC cm).toList.toArray 87)).heap.size (w1.alloc (.cells (tC cm).toList.toArray 87)) w') => range_blk ((Blk.new w1 (tC cm).toList.toArray 87).below hb))
  have hl4 := HlC.out
  clear B0 B1 B2 Blt hl5 HA
  generalize tC cm = A4 at *
  generalize w1.heap.size = g at *
  generalize w1.alloc (.cells A4.toList.toArray 87) = W at *
  go_loopw [21, 8] (fun i s wr => ∃ k : Nat, k ≤ N ∧ i = .int .i64 (k : Int) ∧ s = .int .i64 ((cntB cm rs k : Nat) : Int) ∧ Below W.heap.size W wr) (fun i _ _ => N - (intOf i).toNat)
  case atStart => exact ⟨0, by omega, rfl, by rw [H0.out]; rfl, Below.refl _ _⟩
  case round =>
    obtain ⟨k, hk, rfl, rfl, hbw⟩ := hrel
    have Hbw := hI hbw
    have hcl := HLe.out k
    rcases Nat.lt_or_ge k N with hlt | hge
    · obtain ⟨b, off, pa, pn, pc, r, rfl, hr, -, hrg⟩ := HRy.out.at (HW.out.via hbw HW.out.size) hlt
      have hkn : (k : Int) < (N : Int) := by omega
      have hk0 : (0 : Int) ≤ (k : Int) := Int.natCast_nonneg _
      have hkw : IntKind.i64.wrap ((k : Int) + 1) = (k : Int) + 1 := IntWalk.i64_in _ (by omega)
      have hcw : IntKind.i64.wrap (((cntB cm rs k : Nat) : Int) + 1) = ((cntB cm rs k : Nat) : Int) + 1 := IntWalk.i64_in _ (by omega)
      have HWx := hI (HWi.out k r hr)
      have HS := hI (HSt.out k r hr)
      have hl6 := tC_len r.2
      have HoR := hI (show ∀ v ∈ rayC (.slice pa pn pc) r.2, v.oneCell' = true from fun v hv => by
        rcases List.mem_cons.1 hv with rfl | h
        · rfl
        · exact tC_one _ v h)
      unfold rayC at hrg HoR
      generalize tC r.2 = A6 at *
      generalize r.2 = tr at *
      have HlR := hI (show ((Value.slice pa pn pc) :: A6.toList).length = 17 from by rw [List.length_cons, hl6])
      have hg3 := range_mono (HC.out _ hbw) (below1 wr (.cells ((Value.slice pa pn pc) :: A6.toList).toArray 89))
      have hr3 := range_tl (p := .slice pa pn pc) (cs := A6.toList) (Blk.new wr ((Value.slice pa pn pc) :: A6.toList).toArray 89)
      have HB2 := hI (bw_via hbw (below1 wr (.cells ((Value.slice pa pn pc) :: A6.toList).toArray 89)))
      clear hbw hr
      cases hwi : (cm &&& tr == cm) with
      | true =>
        rw [hwi] at HWx HS
        clear hwi
        go_wp2_with (first
          | (refine wpList_load_mid rfl 89 _ rfl b (off + k * 17) rfl ((Value.slice pa pn pc) :: A6.toList) _ hrg Tryz.underlying89 rfl (by rw [HlR.out]; kernel_rfl) ?_)
          | (refine wpList_store_new rfl 89 _ _ rfl _ ((Value.slice pa pn pc) :: A6.toList) rfl rfl (by rw [HlR.out]; kernel_rfl) (by rw [HlR.out]; kernel_rfl) HoR.out ?_; clear hrg)
          | (refine wpList_load_mid rfl 87 _ rfl g 0 rfl A4.toList _ hg3 Tryz.underlying87 rfl (by rw [hl4]; kernel_rfl) ?_)
          | (refine wpList_load_mid rfl 87 _ rfl wr.heap.size 1 rfl A6.toList _ hr3 Tryz.underlying87 rfl (by rw [hl6]; kernel_rfl) ?_)
          | (go_at_call 77; refine (HWx.out _).mono ?_; rintro e5 w5 ⟨rfl, hb5⟩; have Hb5 := hI (bw_via HB2.out hb5); clear hb5))
        go_roundw
        case rel => exact ⟨k + 1, by omega, by go_num, by rw [HS.out]; rfl, Hb5.out⟩
        case measure => simp [intOf] <;> omega
      | false =>
        rw [hwi] at HWx HS
        clear hwi
        go_wp2_with (first
          | (refine wpList_load_mid rfl 89 _ rfl b (off + k * 17) rfl ((Value.slice pa pn pc) :: A6.toList) _ hrg Tryz.underlying89 rfl (by rw [HlR.out]; kernel_rfl) ?_)
          | (refine wpList_store_new rfl 89 _ _ rfl _ ((Value.slice pa pn pc) :: A6.toList) rfl rfl (by rw [HlR.out]; kernel_rfl) (by rw [HlR.out]; kernel_rfl) HoR.out ?_; clear hrg)
          | (refine wpList_load_mid rfl 87 _ rfl g 0 rfl A4.toList _ hg3 Tryz.underlying87 rfl (by rw [hl4]; kernel_rfl) ?_)
          | (refine wpList_load_mid rfl 87 _ rfl wr.heap.size 1 rfl A6.toList _ hr3 Tryz.underlying87 rfl (by rw [hl6]; kernel_rfl) ?_)
          | (go_at_call 77; refine (HWx.out _).mono ?_; rintro e5 w5 ⟨rfl, hb5⟩; have Hb5 := hI (bw_via HB2.out hb5); clear hb5))
        go_roundw
        case rel => exact ⟨k + 1, by omega, by go_num, by rw [HS.out]; rfl, Hb5.out⟩
        case measure => simp [intOf] <;> omega
    · obtain rfl : k = N := by omega
      have hkn : ¬ (k : Int) < (k : Int) := by omega
      have hf := HFin.out
      have he : (((cntB cm rs k : Nat) : Int) == 2) = res := by rw [← hf, Bool.eq_iff_iff]; simp; omega
      have HbF := hI (HW.out.via hbw HW.out.size)
      clear hbw
      go_wp2_with fail
      go_ret
      exact Ret.mk HbF.out
end Go.Proofs.YtlcmhbkmpkcajaaGreatDoor
