/-
  Parts of the proof: Same, Plain, Uni, Norm1.
-/
import Derived.Test.YtacihodamichhaaGreatDoorU15
namespace Go.Proofs.YtacihodamichhaaGreatDoor
open Go.RowKit
theorem wt_refB : ∀ n < 1000, wtB (refL n) (refL n) n false = true := by decide +kernel
theorem wt_ref {n : Nat} (h : n < 1000) : WT ⟨(refL n).toArray⟩ (val ⟨(refL n).toArray⟩) ∧ val ⟨(refL n).toArray⟩ = n := by
 have hb := wt_refB n h
 have hv : val ⟨(refL n).toArray⟩ = n := by
  have := (wtB_spec hb).2.2.2.2.2.2.2.2.2.2.2
  simpa [val] using this
 exact ⟨⟨refL n, n, false, hb, by rw [hv]; rfl⟩, hv⟩
theorem wt_m2 : WT ⟨#[45, 50]⟩ (val ⟨#[45, 50]⟩) := ⟨[50], 2, true, by decide +kernel, by decide +kernel⟩
set_option maxHeartbeats 2000000 in
theorem between_any (lo hi : ByteArray) (le he : Int) (w : World) : Calls Tryz.prog 29 #[.string lo, .string hi, .int .i64 le, .int .i64 he] w (Ret (.agg #[.string lo, .string hi, .int .i64 le, .int .i64 he]) w) := by
 go_enter Tryz.func29, Tryz.ntmps29
 go_wp2_with fail
 exact bodyPost_ret (v := .agg #[.string lo, .string hi, .int .i64 le, .int .i64 he]) (by simp [results, Tryz.results29, go_sem]) rfl ⟨rfl, below1 w _⟩
set_option maxHeartbeats 4000000 in
theorem same_true (u v : Value) (xs : List Iv) (w : World) (hx : Ivs w u xs) (hy : Ivs w v xs) (hn : xs.length ≤ 1000) : Calls Tryz.prog 26 #[u, v] w (Ret (.bool true) w) := by
 obtain ⟨a, c, rfl, hc1, hc2⟩ := hx.open
 obtain ⟨a', c', rfl, hc1', hc2'⟩ := hy.open
 unfold maxLen at hc2 hc2'
 have HX := hI hx
 have HY := hI hy
 clear hx hy
 generalize hln : xs.length = n at *
 clear hln
 go_enter Tryz.func26, Tryz.ntmps26
 go_wp2_with fail
 go_loopw [5] (fun i wr => ∃ k : Nat, k ≤ n ∧ i = .int .i64 (k : Int) ∧ Below w.heap.size w wr) (fun i _ => n - (intOf i).toNat)
 case atStart => exact ⟨0, by omega, rfl, Below.refl _ _⟩
 case round =>
  obtain ⟨k, hk, rfl, hbw⟩ := hrel
  rcases Nat.lt_or_ge k n with hlt | hge
  ·obtain ⟨b, off, x, rfl, hxk, c0, c1, c2, c3⟩ := HX.out.at hbw hlt
   obtain ⟨b', off', x', rfl, hyk, d0, d1, d2, d3⟩ := HY.out.at hbw hlt
   rw [hxk] at hyk
   cases hyk
   have hkn : (k : Int) < (n : Int) := by omega
   have hik : IntKind.i64.wrap ((k : Int) + 1) = (k : Int) + 1 := IntWalk.i64_in _ (by omega)
   have HSx := hI (fun w' (hb : Below wr.heap.size wr w') => show w'.cell? ⟨b, off + k * 4, none⟩ = some (.string x.lo) ∧ w'.cell? ⟨b, off + k * 4 + 1, none⟩ = some (.string x.hi) ∧ w'.cell? ⟨b, off + k * 4 + 2, none⟩ = some (.int .i64 x.le) ∧ w'.cell? ⟨b, off + k * 4 + 3, none⟩ = some (.int .i64 x.he) ∧ w'.cell? ⟨b', off' + k * 4, none⟩ = some (.string x.lo) ∧ w'.cell? ⟨b', off' + k * 4 + 1, none⟩ = some (.string x.hi) ∧ w'.cell? ⟨b', off' + k * 4 + 2, none⟩ = some (.int .i64 x.le) ∧ w'.cell? ⟨b', off' + k * 4 + 3, none⟩ = some (.int .i64 x.he) from ⟨cell_keep hb c0, cell_keep hb c1, cell_keep hb c2, cell_keep hb c3, cell_keep hb d0, cell_keep hb d1, cell_keep hb d2, cell_keep hb d3⟩)
   have Hbw := hI hbw
   clear hbw hxk c0 c1 c2 c3 d0 d1 d2 d3
   go_upto_region 6 with fail
   refine wp_region_held_drew (S := (fun w' => w'.cell? ⟨b, off + k * 4, none⟩ = some (.string x.lo) ∧ w'.cell? ⟨b, off + k * 4 + 1, none⟩ = some (.string x.hi) ∧ w'.cell? ⟨b, off + k * 4 + 2, none⟩ = some (.int .i64 x.le) ∧ w'.cell? ⟨b, off + k * 4 + 3, none⟩ = some (.int .i64 x.he) ∧ w'.cell? ⟨b', off' + k * 4, none⟩ = some (.string x.lo) ∧ w'.cell? ⟨b', off' + k * 4 + 1, none⟩ = some (.string x.hi) ∧ w'.cell? ⟨b', off' + k * 4 + 2, none⟩ = some (.int .i64 x.le) ∧ w'.cell? ⟨b', off' + k * 4 + 3, none⟩ = some (.int .i64 x.he))) (by kernel_rfl) (by exact HSx.out _ (bw_dn wr)) (fun hHeld => ?_)
   refine wpAnyH_take (i := 0) (v := ?v1) rfl (by kernel_rfl) (by kernel_rfl) (by kernel_rfl) (fun _ _ _ h => h) (Or.inl ⟨by rfl, ?hy1⟩) (by assumption) ?rest1
   case hy1 => (intro w hSw; (try dsimp only at hSw); go_simp; try (with_reducible rfl))
   try simp only [Act.put, List.getElem_toArray, List.getElem_cons_zero, List.setIfInBounds_toArray, List.set_cons_zero, List.set_cons_succ]
   refine' tk 1 ?_; (try simp only [tkS]); refine' tk 2 ?_; (try simp only [tkS]); refine' tk 3 ?_; (try simp only [tkS]); refine' tk 4 ?_; (try simp only [tkS]); refine' tk 5 ?_; (try simp only [tkS]); refine' tk 6 ?_; (try simp only [tkS]); refine' tk 7 ?_; (try simp only [tkS]); refine' tk 8 ?_; (try simp only [tkS])
   refine tkD ?_ _
   go_wp2_with fail
   go_roundw
   case rel => exact ⟨k + 1, by omega, by go_num, Hbw.out.dn 1⟩
   case measure => simp [intOf] <;> omega
  ·obtain rfl : k = n := by omega
   have hkn : ¬ (k : Int) < (k : Int) := by omega
   go_wp2_with fail
   go_ret
   exact ⟨rfl, hbw⟩
end Go.Proofs.YtacihodamichhaaGreatDoor
namespace Go.Proofs.YtacihodamichhaaGreatDoor
open Go.RowKit
structure Pl (L H : Nat → Cut) : Prop where
 lh : ∀ n, CLt (L n) (H n)
 hl : ∀ n m, n < m → CLt (H n) (L m)
 bot : ∀ n, CLt lowest (L n)
 top : ∀ n, CLt (H n) highest
theorem cneg {x y : Cut} (h : CLt x y) : cmpC x y < 0 := cmpC_lt.2 h
variable {L H : Nat → Cut}
end Go.Proofs.YtacihodamichhaaGreatDoor
namespace Go.Proofs.YtacihodamichhaaGreatDoor
open Go.RowKit
set_option maxHeartbeats 1000000 in
theorem keep_not (p q : Bool) (W : World) : Calls Tryz.prog 92 #[.bool p, .bool q] W (Ret (.bool (!p)) W) := by
 cases p <;>
 ·go_enter Tryz.func92, Tryz.ntmps92
  go_wp2_with fail
  go_ret
  exact ⟨rfl, Below.refl _ _⟩
def CombP (F : List PC) (r : Value) (w' : World) : Prop := (256 < F.length ∧ r = .tuple #[.slice none 0 0, .int .i64 6]) ∨ (F.length ≤ 256 ∧ ∃ a c, r = .tuple #[.slice a F.length c, .int .i64 0] ∧ Ivs w' (.slice a F.length c) (F.map ivOf))
theorem CombP.shape {F : List PC} {r : Value} {w' : World} (h : CombP F r w') : ∃ a n c e, r = .tuple #[.slice a n c, .int .i64 e] := by
 rcases h with ⟨_, rfl⟩ | ⟨_, a, c, rfl, _⟩
 ·exact ⟨_, _, _, _, rfl⟩
 ·exact ⟨_, _, _, _, rfl⟩
set_option maxHeartbeats 2000000 in
theorem compl_any (u : Value) (xs : List Iv) (w : World) (hx : Ivs w u xs) (hokx : ∀ x ∈ xs, x.ok) (hsx : SetOk (xs.map Iv.cuts)) (hnx : xs.length ≤ 256)
  (P : List Cut) (hP : P.Pairwise CLt) (hperm : (placesOf (xs.map Iv.cuts)).Perm P) (F : List PC) (hF : runC (fun a _ => !a) P (xs.map Iv.cuts) [] [] = F) (hNM : NoMerge (fun a _ => !a) P (xs.map Iv.cuts) [] []) :
  Calls Tryz.prog 35 #[u] w (RetP (CombP F) w) := by
 have H := hI (comb_any 92 (fun a _ => !a) keep_not (enters_of Tryz.func92 (by kernel_rfl) rfl) u (.slice none 0 0) xs [] w hx (Sl.nil w 4) hokx (fun x hx => by cases hx) hsx ⟨fun i p h => by simp at h, fun i p q h => by simp at h⟩ hnx (by simp) P hP (by rw [List.append_nil]; exact hperm) F hF hNM)
 clear hx hokx hsx hnx hP hperm hF hNM
 change Hid (Calls _ _ _ _ (RetP (CombP F) w)) at H
 go_enter Tryz.func35, Tryz.ntmps35
 go_wp2_with (go_at_call 91; refine (H.out).mono ?_; rintro e w1 ⟨r, rfl, hr, hb1⟩; have HR := hI hr; obtain ⟨a, n, c, ee, rfl⟩ := hr.shape; clear hr)
 go_ret2
 exact ⟨_, rfl, HR.out, hb1⟩
end Go.Proofs.YtacihodamichhaaGreatDoor
namespace Go.Proofs.YtacihodamichhaaGreatDoor
open Go.RowKit
set_option maxHeartbeats 4000000 in
theorem partcmp_d (p q : PP) (w : World) (hp : p.ok w) (hq : q.ok w) : Calls Tryz.prog 75 #[pagg p.l p.h, pagg q.l q.h] w (RetD (.int .i64 (cmpC p.l.c q.l.c)) w) := by
 have H := hI (fun w' (hb : Below w.heap.size w w') => cutcmp_d p.l q.l w' (hp.1.mono hb) (hq.1.mono hb))
 unfold CC.agg at H
 generalize cmpC p.l.c q.l.c = R at *
 unfold pagg
 clear hp hq
 go_enter Tryz.func75, Tryz.ntmps75
 go_wp2_with (go_at_call 73; refine (H.out _ (below2 w _ _)).mono ?_; rintro e w1 ⟨rfl, hb1⟩)
 go_ret
 exact ⟨rfl, (below2 w _ _).via hb1.1 (below2 w _ _).size, by have := hb1.2; simpa using this⟩
set_option maxHeartbeats 4000000 in
theorem sort_parts (P : List PP) (N : Nat) (hN : P.length = N) (w : World) (B g cap : Nat) (hne : P ≠ []) (hown : w.ownsRow B 84 14 (.slice (some ⟨g, 0, none⟩) N cap) N ((P.map PP.row).flatten)) (hok : ∀ k ∈ P, k.ok w) (hsz : N < 4611686018427387904) :
  Calls Tryz.prog 74 #[.slice (some ⟨g, 0, none⟩) N cap, .func (.func 75) #[] #[]] w (fun e w' => e = .returned (.tuple #[]) ∧ w.grownBy w' (some g) ∧ ∃ P' : List PP, P'.Perm P ∧ (∀ (i j : Nat) (x y : PP), i < j → P'[i]? = some x → P'[j]? = some y → ¬ CLt y.l.c x.l.c) ∧ Parts w' (.slice (some ⟨g, 0, none⟩) N cap) P') := by
 subst hN
 let α := {x : PP // x ∈ P}
 have : Inhabited α := by
  cases P with
  | nil => exact absurd rfl hne
  | cons a l => exact ⟨⟨a, List.mem_cons_self ..⟩⟩
 let d : Array α := P.attach.toArray
 have hd : d.toList.map Subtype.val = P := by simp [d]
 have hds : d.size = P.length := by have h := congrArg List.length hd; rw [List.length_map, Array.length_toList] at h; exact h
 have hown' := hown
 rw [← hds] at hown'
 rw [← hd] at hown'
 have hH := holds_of_own PP.row 14 PP.row_len (by decide) (α := α) Subtype.val d w hown'
 obtain ⟨_, _, hv, hcap1, hcap2⟩ := own_open hown
 cases hv
 have hgl : g < w.heap.size := (hown.lt g rfl).2
 have hcmp : CmpLays Tryz.prog 75 #[] (fun a : α => PP.row a.val) 14 (fun x y => cmpC x.val.l.c y.val.l.c) g 0 d.size w := by
  intro m os dk hdk x y
  have hg := sort_grown (fun a : α => PP.row a.val) 14 w g 0 m dk os
  have hx : x.1.ok _ := ⟨(hok x.1 x.2).1.grown hown (by decide) hg, (hok x.1 x.2).2.grown hown (by decide) hg⟩
  have hy : y.1.ok _ := ⟨(hok y.1 y.2).1.grown hown (by decide) hg, (hok y.1 y.2).2.grown hown (by decide) hg⟩
  refine (partcmp_d x.1 y.1 _ hx hy).mono fun e w' h => ⟨h.1, bd_grow h.2⟩
 have h := AnyQ.slices_SortFunc Tryz.sortP 14 Tryz.isAgg84 Tryz.sizeOf84 (fun a : α => PP.row a.val) (fun a => rfl) (fun a => one14 a.1) (fun x y => cmpC x.val.l.c y.val.l.c) (swoC fun x : α => x.val.l.c) 75 #[] g 0 cap d w (enters_of Tryz.func75 (by kernel_rfl) rfl) hcmp hH hgl (by rw [hds]; exact hsz)
 rw [hds] at h
 change Calls Tryz.prog 74 _ _ _ at h
 refine h.mono fun e w' ⟨he, d', n, os, hp, hs, hw⟩ => ⟨he, by rw [hw]; exact sort_grown _ _ _ _ _ _ _ _, d'.toList.map Subtype.val, ?_⟩
 have hg : w.grownBy w' (some g) := by rw [hw]; exact sort_grown _ _ _ _ _ _ _ _
 rw [← hds] at hp hs
 obtain ⟨hperm, hsort⟩ := sorted_lists (β := PP) (α := α) Subtype.val (fun p => p.l.c) d d' hp hs
 rw [hd] at hperm
 have hd's : d'.size = P.length := by rw [hp.1, hds]
 refine ⟨hperm, hsort, ?_, fun k hk => ⟨(hok k (hperm.mem_iff.1 hk)).1.grown hown (by decide) hg, (hok k (hperm.mem_iff.1 hk)).2.grown hown (by decide) hg⟩⟩
 have hH' : Go.Sort.HoldsK (fun a : α => PP.row a.val) 14 w' g 0 d' := by
  rw [hw]
  exact Go.Sort.holdsK_grow _ _ _ _ _ _ _ (by rw [show (Go.Sort.putRowK _ _ _ _ _ _).heap.size = _ from Go.Sort.size_putRow _ _ _ _ _]; exact hgl) (Go.Sort.holdsK_putRowK _ _ _ _ _ d _ hH hp.1)
 have := sl_of_holds PP.row 14 PP.row_len (α := α) Subtype.val d' w' (cap := cap) hH' (Nat.lt_of_lt_of_le hgl hg.size) (by omega) hcap2
 rw [hd's] at this
 exact this
end Go.Proofs.YtacihodamichhaaGreatDoor
