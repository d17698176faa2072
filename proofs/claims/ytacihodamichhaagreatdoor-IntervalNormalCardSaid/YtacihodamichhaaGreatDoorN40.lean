/-
  Parts of the proof: Same, Plain, Uni, Kp.
-/
import Derived.Test.YtacihodamichhaaGreatDoorN38
import Derived.Test.YtacihodamichhaaGreatDoorN39
namespace Go.Proofs.YtacihodamichhaaGreatDoor
open Go.RowKit
theorem wt_refB : ∀ n < 1000, wtB (refL n) (refL n) n false = true := by decide +kernel
theorem wt_ref {n : Nat} (h : n < 1000) : WT ⟨(refL n).toArray⟩ (val ⟨(refL n).toArray⟩) ∧ val ⟨(refL n).toArray⟩ = n := by
 have hb := wt_refB n h
 have hv : val ⟨(refL n).toArray⟩ = n := by
  have := (wtB_spec hb).2.2.2.2.2.2.2.2.2.2.2
  simpa [val] using this
 exact ⟨⟨refL n, n, false, hb, by rw [hv]; rfl⟩, hv⟩
theorem wt_m2 : WT ⟨#[45, 50]⟩ (val ⟨#[45, 50]⟩) := ⟨[50], 2, true, by decide +kernel, by decide +kernel⟩
set_option maxHeartbeats 2000000 in
theorem between_any (lo hi : ByteArray) (le he : Int) (w : World) : Calls Tryz.prog 29 #[.string lo, .string hi, .int .i64 le, .int .i64 he] w (Ret (.agg #[.string lo, .string hi, .int .i64 le, .int .i64 he]) w) := by
 go_enter Tryz.func29, Tryz.ntmps29
 go_wp2_with fail
 exact bodyPost_ret (v := .agg #[.string lo, .string hi, .int .i64 le, .int .i64 he]) (by simp [results, Tryz.results29, go_sem]) rfl ⟨rfl, below1 w _⟩
set_option maxHeartbeats 4000000 in
theorem same_true (u v : Value) (xs : List Iv) (w : World) (hx : Ivs w u xs) (hy : Ivs w v xs) (hn : xs.length ≤ 1000) : Calls Tryz.prog 26 #[u, v] w (Ret (.bool true) w) := by
 obtain ⟨a, c, rfl, hc1, hc2⟩ := hx.open
 obtain ⟨a', c', rfl, hc1', hc2'⟩ := hy.open
 unfold maxLen at hc2 hc2'
 have HX := hI hx
 have HY := hI hy
 clear hx hy
 generalize hln : xs.length = n at *
 clear hln
 go_enter Tryz.func26, Tryz.ntmps26
 go_wp2_with fail
 go_loopw [5] (fun i wr => ∃ k : Nat, k ≤ n ∧ i = .int .i64 (k : Int) ∧ Below w.heap.size w wr) (fun i _ => n - (intOf i).toNat)
 case atStart => exact ⟨0, by omega, rfl, Below.refl _ _⟩
 case round =>
  obtain ⟨k, hk, rfl, hbw⟩ := hrel
  rcases Nat.lt_or_ge k n with hlt | hge
  ·obtain ⟨b, off, x, rfl, hxk, c0, c1, c2, c3⟩ := HX.out.at hbw hlt
   obtain ⟨b', off', x', rfl, hyk, d0, d1, d2, d3⟩ := HY.out.at hbw hlt
   rw [hxk] at hyk
   cases hyk
   have hkn : (k : Int) < (n : Int) := by omega
   have hik : IntKind.i64.wrap ((k : Int) + 1) = (k : Int) + 1 := IntWalk.i64_in _ (by omega)
   have HSx := hI (fun w' (hb : Below wr.heap.size wr w') => show w'.cell? ⟨b, off + k * 4, none⟩ = some (.string x.lo) ∧ w'.cell? ⟨b, off + k * 4 + 1, none⟩ = some (.string x.hi) ∧ w'.cell? ⟨b, off + k * 4 + 2, none⟩ = some (.int .i64 x.le) ∧ w'.cell? ⟨b, off + k * 4 + 3, none⟩ = some (.int .i64 x.he) ∧ w'.cell? ⟨b', off' + k * 4, none⟩ = some (.string x.lo) ∧ w'.cell? ⟨b', off' + k * 4 + 1, none⟩ = some (.string x.hi) ∧ w'.cell? ⟨b', off' + k * 4 + 2, none⟩ = some (.int .i64 x.le) ∧ w'.cell? ⟨b', off' + k * 4 + 3, none⟩ = some (.int .i64 x.he) from ⟨cell_keep hb c0, cell_keep hb c1, cell_keep hb c2, cell_keep hb c3, cell_keep hb d0, cell_keep hb d1, cell_keep hb d2, cell_keep hb d3⟩)
   have Hbw := hI hbw
   clear hbw hxk c0 c1 c2 c3 d0 d1 d2 d3
   go_upto_region 6 with fail
   refine wp_region_held_drew (S := (fun w' => w'.cell? ⟨b, off + k * 4, none⟩ = some (.string x.lo) ∧ w'.cell? ⟨b, off + k * 4 + 1, none⟩ = some (.string x.hi) ∧ w'.cell? ⟨b, off + k * 4 + 2, none⟩ = some (.int .i64 x.le) ∧ w'.cell? ⟨b, off + k * 4 + 3, none⟩ = some (.int .i64 x.he) ∧ w'.cell? ⟨b', off' + k * 4, none⟩ = some (.string x.lo) ∧ w'.cell? ⟨b', off' + k * 4 + 1, none⟩ = some (.string x.hi) ∧ w'.cell? ⟨b', off' + k * 4 + 2, none⟩ = some (.int .i64 x.le) ∧ w'.cell? ⟨b', off' + k * 4 + 3, none⟩ = some (.int .i64 x.he))) (by kernel_rfl) (by exact HSx.out _ (bw_dn wr)) (fun hHeld => ?_)
   refine wpAnyH_take (i := 0) (v := ?v1) rfl (by kernel_rfl) (by kernel_rfl) (by kernel_rfl) (fun _ _ _ h => h) (Or.inl ⟨by rfl, ?hy1⟩) (by assumption) ?rest1
   case hy1 => (intro w hSw; (try dsimp only at hSw); go_simp; try (with_reducible rfl))
   try simp only [Act.put, List.getElem_toArray, List.getElem_cons_zero, List.setIfInBounds_toArray, List.set_cons_zero, List.set_cons_succ]
   refine' tk 1 ?_; (try simp only [tkS]); refine' tk 2 ?_; (try simp only [tkS]); refine' tk 3 ?_; (try simp only [tkS]); refine' tk 4 ?_; (try simp only [tkS]); refine' tk 5 ?_; (try simp only [tkS]); refine' tk 6 ?_; (try simp only [tkS]); refine' tk 7 ?_; (try simp only [tkS]); refine' tk 8 ?_; (try simp only [tkS])
   refine tkD ?_ _
   go_wp2_with fail
   go_roundw
   case rel => exact ⟨k + 1, by omega, by go_num, Hbw.out.dn 1⟩
   case measure => simp [intOf] <;> omega
  ·obtain rfl : k = n := by omega
   have hkn : ¬ (k : Int) < (k : Int) := by omega
   go_wp2_with fail
   go_ret
   exact ⟨rfl, hbw⟩
end Go.Proofs.YtacihodamichhaaGreatDoor
namespace Go.Proofs.YtacihodamichhaaGreatDoor
open Go.RowKit
structure Pl (L H : Nat → Cut) : Prop where
 lh : ∀ n, CLt (L n) (H n)
 hl : ∀ n m, n < m → CLt (H n) (L m)
 bot : ∀ n, CLt lowest (L n)
 top : ∀ n, CLt (H n) highest
theorem cneg {x y : Cut} (h : CLt x y) : cmpC x y < 0 := cmpC_lt.2 h
variable {L H : Nat → Cut}
end Go.Proofs.YtacihodamichhaaGreatDoor
namespace Go.Proofs.YtacihodamichhaaGreatDoor
open Go.RowKit
set_option maxHeartbeats 1000000 in
theorem keep_not (p q : Bool) (W : World) : Calls Tryz.prog 92 #[.bool p, .bool q] W (Ret (.bool (!p)) W) := by
 cases p <;>
 ·go_enter Tryz.func92, Tryz.ntmps92
  go_wp2_with fail
  go_ret
  exact ⟨rfl, Below.refl _ _⟩
def CombP (F : List PC) (r : Value) (w' : World) : Prop := (256 < F.length ∧ r = .tuple #[.slice none 0 0, .int .i64 6]) ∨ (F.length ≤ 256 ∧ ∃ a c, r = .tuple #[.slice a F.length c, .int .i64 0] ∧ Ivs w' (.slice a F.length c) (F.map ivOf))
theorem CombP.shape {F : List PC} {r : Value} {w' : World} (h : CombP F r w') : ∃ a n c e, r = .tuple #[.slice a n c, .int .i64 e] := by
 rcases h with ⟨_, rfl⟩ | ⟨_, a, c, rfl, _⟩
 ·exact ⟨_, _, _, _, rfl⟩
 ·exact ⟨_, _, _, _, rfl⟩
set_option maxHeartbeats 2000000 in
theorem compl_any (u : Value) (xs : List Iv) (w : World) (hx : Ivs w u xs) (hokx : ∀ x ∈ xs, x.ok) (hsx : SetOk (xs.map Iv.cuts)) (hnx : xs.length ≤ 256)
  (P : List Cut) (hP : P.Pairwise CLt) (hperm : (placesOf (xs.map Iv.cuts)).Perm P) (F : List PC) (hF : runC (fun a _ => !a) P (xs.map Iv.cuts) [] [] = F) (hNM : NoMerge (fun a _ => !a) P (xs.map Iv.cuts) [] []) :
  Calls Tryz.prog 35 #[u] w (RetP (CombP F) w) := by
 have H := hI (comb_any 92 (fun a _ => !a) keep_not (enters_of Tryz.func92 (by kernel_rfl) rfl) u (.slice none 0 0) xs [] w hx (Sl.nil w 4) hokx (fun x hx => by cases hx) hsx ⟨fun i p h => by simp at h, fun i p q h => by simp at h⟩ hnx (by simp) P hP (by rw [List.append_nil]; exact hperm) F hF hNM)
 clear hx hokx hsx hnx hP hperm hF hNM
 change Hid (Calls _ _ _ _ (RetP (CombP F) w)) at H
 go_enter Tryz.func35, Tryz.ntmps35
 go_wp2_with (go_at_call 91; refine (H.out).mono ?_; rintro e w1 ⟨r, rfl, hr, hb1⟩; have HR := hI hr; obtain ⟨a, n, c, ee, rfl⟩ := hr.shape; clear hr)
 go_ret2
 exact ⟨_, rfl, HR.out, hb1⟩
end Go.Proofs.YtacihodamichhaaGreatDoor
namespace Go.Proofs.YtacihodamichhaaGreatDoor
open Go.RowKit
instance (x y : Cut) : Decidable (CLt x y) := by unfold CLt; infer_instance
def noMB (keep : Bool → Bool → Bool) : List Cut → List PC → List PC → List PC → Bool
 | low :: high :: r, X, Y, O => (!(keep (begun low (dropTo low X)) (begun low (dropTo low Y))) || (match O.getLast? with | none => true | some q => cmpC q.2 low != 0)) && noMB keep (high :: r) (dropTo low X) (dropTo low Y) (nextO keep low high X Y O)
 | [_], _, _, _ => true
 | [], _, _, _ => true
theorem noMB_spec (keep : Bool → Bool → Bool) : ∀ (P : List Cut) (X Y O : List PC), noMB keep P X Y O = true → NoMerge keep P X Y O
 | low :: high :: r, X, Y, O, h => by
  unfold noMB at h
  rw [Bool.and_eq_true] at h
  refine ⟨fun hk q hq => ?_, noMB_spec keep (high :: r) _ _ _ h.2⟩
  have h1 := h.1
  rw [hk, hq] at h1
  simpa using h1
 | [_], _, _, _, _ => trivial
 | [], _, _, _, _ => trivial
def xsC : List Iv := [⟨⟨#[]⟩, ⟨#[48]⟩, 2, 1⟩, ⟨⟨#[49]⟩, ⟨#[]⟩, 0, 2⟩]
theorem wt_0 : WT ⟨#[48]⟩ (val ⟨#[48]⟩) := (wt_ref (n := 0) (by decide)).1
theorem wt_1 : WT ⟨#[49]⟩ (val ⟨#[49]⟩) := (wt_ref (n := 1) (by decide)).1
theorem wt_2 : WT ⟨#[50]⟩ (val ⟨#[50]⟩) := (wt_ref (n := 2) (by decide)).1
theorem v_0 : val ⟨#[48]⟩ = 0 := by decide
theorem v_1 : val ⟨#[49]⟩ = 1 := by decide
theorem v_2 : val ⟨#[50]⟩ = 2 := by decide
def xsN : List Iv := [⟨⟨#[50]⟩, ⟨#[51]⟩, 1, 0⟩, ⟨⟨#[48]⟩, ⟨#[49]⟩, 0, 1⟩, ⟨⟨#[49]⟩, ⟨#[50]⟩, 0, 0⟩]
def xs1 : List Iv := [⟨⟨#[48]⟩, ⟨#[49]⟩, 0, 1⟩]
def plC : List Cut := [lowest, ⟨0, ⟨#[48]⟩, 1⟩, ⟨0, ⟨#[49]⟩, 1⟩, highest]
def psC : List PC := [(lowest, ⟨0, ⟨#[48]⟩, 1⟩), (⟨0, ⟨#[49]⟩, 1⟩, highest)]
theorem compl_known (u : Value) (w : World) (hx : Ivs w u xs1) : Calls Tryz.prog 35 #[u] w (RetP (fun r w' => ∃ a c, r = .tuple #[.slice a 2 c, .int .i64 0] ∧ Ivs w' (.slice a 2 c) xsC) w) := by
 refine (compl_any u xs1 w hx (fun x h => ?_) ⟨fun i p h => ?_, fun i p q h1 h2 => ?_⟩ (by decide) plC (by decide) ?_ psC rfl (noMB_spec _ _ _ _ _ (by decide +kernel))).mono fun e w' ⟨r, he, hr, hb⟩ => ⟨r, he, ?_, hb⟩
 ·cases List.mem_singleton.1 h
  exact ⟨.inr ⟨.inl rfl, wt_0⟩, .inr ⟨.inr rfl, wt_1⟩⟩
 ·rcases i with _ | i
  ·cases h; decide
  ·simp [xs1] at h
 ·simp [xs1] at h2
 ·exact List.Perm.cons _ (List.perm_append_comm (l₁ := ([highest] : List Cut)) (l₂ := ([⟨0, ⟨#[48]⟩, 1⟩, ⟨0, ⟨#[49]⟩, 1⟩] : List Cut)))
 ·rcases hr with ⟨h, -⟩ | ⟨-, a, c, rfl, h⟩
  ·exact absurd h (by decide)
  ·exact ⟨a, c, rfl, h⟩
theorem Sl.blk {w : World} {b sz : Nat} {cs : Array Value} {T : TypeId} {rows : List (List Value)} (h : Blk w b cs T) (hl : ∀ r ∈ rows, r.length = sz) (hcs : cs = rows.flatten.toArray) (hn : rows.length ≤ 1000) : Sl w sz (.slice (some ⟨b, 0, none⟩) rows.length rows.length) rows := by
 refine ⟨_, _, rfl, Nat.le_refl _, by unfold maxLen; omega, .inr ⟨b, 0, rfl, h.lt, fun i j hi hj => ?_⟩⟩
 rw [h.cell, hcs, Nat.zero_add]
 have := flat_get hl hi hj
 simpa using this
theorem Ivs.blk {w : World} {b n : Nat} {cs : Array Value} {T : TypeId} (xs : List Iv) (h : Blk w b cs T) (hcs : cs = ((xs.map Iv.row).flatten).toArray) (hn : xs.length = n) (hn2 : n ≤ 1000) : Ivs w (.slice (some ⟨b, 0, none⟩) n n) xs := by
 have := Sl.blk (sz := 4) (rows := xs.map Iv.row) h (fun r hr => by obtain ⟨x, _, rfl⟩ := List.mem_map.1 hr; rfl) hcs (by rw [List.length_map]; omega)
 rw [List.length_map, hn] at this
 exact this
end Go.Proofs.YtacihodamichhaaGreatDoor
