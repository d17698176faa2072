/-
  Union and Complement; sets of single numbers.
-/
import Derived.Test.YtfmgjcgcocidfaaGreatDoorSame
import Derived.Test.YtfmgjcgcocidfaaGreatDoorPlain
namespace Go.Proofs.YtfmgjcgcocidfaaGreatDoor
open Go.RowKit

set_option maxHeartbeats 1000000 in
theorem keep_or (p q : Bool) (W : World) : Calls Tryz.prog 16 #[.bool p, .bool q] W (Ret (.bool (p || q)) W) := by
  cases p <;> cases q <;>
  · go_enter Tryz.func16, Tryz.ntmps16
    go_wp2_with fail
    go_ret
    exact ⟨rfl, Below.refl _ _⟩
set_option maxHeartbeats 1000000 in
theorem keep_not (p q : Bool) (W : World) : Calls Tryz.prog 17 #[.bool p, .bool q] W (Ret (.bool (!p)) W) := by
  cases p <;>
  · go_enter Tryz.func17, Tryz.ntmps17
    go_wp2_with fail
    go_ret
    exact ⟨rfl, Below.refl _ _⟩

/-- What combine hands back. -/
def CombP (F : List PC) (r : Value) (w' : World) : Prop := (256 < F.length ∧ r = .tuple #[.slice none 0 0, .int .i64 6]) ∨ (F.length ≤ 256 ∧ ∃ a c, r = .tuple #[.slice a F.length c, .int .i64 0] ∧ Ivs w' (.slice a F.length c) (F.map ivOf))
theorem CombP.shape {F : List PC} {r : Value} {w' : World} (h : CombP F r w') : ∃ a n c e, r = .tuple #[.slice a n c, .int .i64 e] := by
  rcases h with ⟨_, rfl⟩ | ⟨_, a, c, rfl, _⟩
  · exact ⟨_, _, _, _, rfl⟩
  · exact ⟨_, _, _, _, rfl⟩

set_option maxHeartbeats 2000000 in
theorem union_any (u v : Value) (xs ys : List Iv) (w : World) (hx : Ivs w u xs) (hy : Ivs w v ys) (hokx : ∀ x ∈ xs, x.ok) (hoky : ∀ x ∈ ys, x.ok) (hsx : SetOk (xs.map Iv.cuts)) (hsy : SetOk (ys.map Iv.cuts)) (hnx : xs.length ≤ 256) (hny : ys.length ≤ 256)
    (P : List Cut) (hP : P.Pairwise CLt) (hperm : (placesOf ((xs ++ ys).map Iv.cuts)).Perm P) (F : List PC) (hF : runC (fun a b => a || b) P (xs.map Iv.cuts) (ys.map Iv.cuts) [] = F) (hNM : NoMerge (fun a b => a || b) P (xs.map Iv.cuts) (ys.map Iv.cuts) []) :
    Calls Tryz.prog 6 #[u, v] w (RetP (CombP F) w) := by
  have H := Lib.hid (comb_any 16 (fun a b => a || b) keep_or (enters_of Tryz.func16 (by kernel_rfl) rfl) u v xs ys w hx hy hokx hoky hsx hsy hnx hny P hP hperm F hF hNM)
  clear hx hy hokx hoky hsx hsy hnx hny hP hperm hF hNM
  change Hid (Calls _ _ _ _ (RetP (CombP F) w)) at H
  go_enter Tryz.func6, Tryz.ntmps6
  go_wp2_with (go_at_call 15; refine (H.out).mono ?_; rintro e w1 ⟨r, rfl, hr, hb1⟩; have HR := Lib.hid hr; obtain ⟨a, n, c, ee, rfl⟩ := hr.shape; clear hr)
  go_ret2
  exact ⟨_, rfl, HR.out, hb1⟩
set_option maxHeartbeats 2000000 in
theorem compl_any (u : Value) (xs : List Iv) (w : World) (hx : Ivs w u xs) (hokx : ∀ x ∈ xs, x.ok) (hsx : SetOk (xs.map Iv.cuts)) (hnx : xs.length ≤ 256)
    (P : List Cut) (hP : P.Pairwise CLt) (hperm : (placesOf (xs.map Iv.cuts)).Perm P) (F : List PC) (hF : runC (fun a _ => !a) P (xs.map Iv.cuts) [] [] = F) (hNM : NoMerge (fun a _ => !a) P (xs.map Iv.cuts) [] []) :
    Calls Tryz.prog 8 #[u] w (RetP (CombP F) w) := by
  have H := Lib.hid (comb_any 17 (fun a _ => !a) keep_not (enters_of Tryz.func17 (by kernel_rfl) rfl) u (.slice none 0 0) xs [] w hx (Sl.nil w 4) hokx (fun x hx => by cases hx) hsx ⟨fun i p h => by simp at h, fun i p q h => by simp at h⟩ hnx (by simp) P hP (by rw [List.append_nil]; exact hperm) F hF hNM)
  clear hx hokx hsx hnx hP hperm hF hNM
  change Hid (Calls _ _ _ _ (RetP (CombP F) w)) at H
  go_enter Tryz.func8, Tryz.ntmps8
  go_wp2_with (go_at_call 15; refine (H.out).mono ?_; rintro e w1 ⟨r, rfl, hr, hb1⟩; have HR := Lib.hid hr; obtain ⟨a, n, c, ee, rfl⟩ := hr.shape; clear hr)
  go_ret2
  exact ⟨_, rfl, HR.out, hb1⟩

theorem natS_snoc (l : List UInt8) (c : UInt8) : natS (l ++ [c]) = natS l * 10 + (c.toNat - 48) := by unfold natS; rw [List.foldl_append]; rfl
theorem dig_nat {d : Nat} (h : d < 10) : (UInt8.ofNat (48 + d)).toNat - 48 = d := by rw [UInt8.toNat_ofNat']; omega
theorem natS_dec (n : Nat) : natS (Lib.decDigits n) = n ∧ ∀ c ∈ (Lib.decDigits n).head?, c ≠ 45 := by
  induction n using Nat.strongRecOn with
  | ind n ih =>
    rw [Lib.decDigits]
    split
    · rename_i h
      refine ⟨by show 0 * 10 + _ = n; rw [dig_nat h]; omega, fun c hc => ?_⟩
      cases hc
      intro h45
      have := congrArg UInt8.toNat h45
      rw [UInt8.toNat_ofNat'] at this
      have e : (45 : UInt8).toNat = 45 := rfl
      omega
    · rename_i h
      obtain ⟨h1, h2⟩ := ih (n / 10) (by omega)
      refine ⟨by rw [natS_snoc, h1, dig_nat (Nat.mod_lt _ (by decide))]; omega, fun c hc => ?_⟩
      cases hl : Lib.decDigits (n / 10) with
      | nil =>
        rw [hl] at hc
        rw [Lib.decDigits] at hl
        split at hl <;> simp at hl
      | cons a l =>
        rw [hl] at hc h2
        exact h2 c hc
/-- A text that says n. -/
def TT (n : Nat) : ByteArray := if n < 1000 then ⟨(refL n).toArray⟩ else ⟨(Lib.decDigits n).toArray⟩
theorem val_TT (n : Nat) : val (TT n) = n := by
  unfold TT
  split
  · rename_i h
    exact (wt_ref h).2
  · obtain ⟨h1, h2⟩ := natS_dec n
    unfold val
    show valS (Lib.decDigits n) = n
    cases hl : Lib.decDigits n with
    | nil =>
      rw [Lib.decDigits] at hl
      split at hl <;> simp at hl
    | cons c l =>
      rw [hl] at h1 h2
      show (if c = 45 then -(natS l : Int) else (natS (c :: l) : Int)) = n
      rw [if_neg (h2 c rfl), h1]
def LL (n : Nat) : Cut := ⟨0, TT n, -1⟩
def HH (n : Nat) : Cut := ⟨0, TT n, 1⟩
theorem plLH : Pl LL HH where
  lh n := .inr ⟨rfl, .inr ⟨rfl, by show (-1 : Int) < 1; decide⟩⟩
  hl n m h := .inr ⟨rfl, .inl (by show val (TT n) < val (TT m); rw [val_TT, val_TT]; omega)⟩
  bot n := .inl (by show (-1 : Int) < 0; decide)
  top n := .inl (by show (0 : Int) < 1; decide)
theorem sing_cuts {n : Nat} (h : n < 1000) : (sing n).cuts = (LL n, HH n) := by
  unfold sing Iv.cuts Iv.low Iv.high LL HH TT cutOf
  rw [if_pos h]
  rfl
theorem sings_cuts {N : List Nat} (h : ∀ n ∈ N, n < 1000) : (N.map sing).map Iv.cuts = prs LL HH N := by
  unfold prs
  rw [List.map_map]
  exact List.map_congr_left fun n hn => sing_cuts (h n hn)
theorem sing_ok {n : Nat} (h : n < 1000) : (sing n).ok := ⟨.inr ⟨.inr rfl, (wt_ref h).1⟩, .inr ⟨.inr rfl, (wt_ref h).1⟩⟩
theorem ivOf_sing {n : Nat} (h : n < 1000) : ivOf (LL n, HH n) = sing n := by
  unfold ivOf LL HH sing TT
  rw [if_pos h]
  rfl
theorem set_ok {N : List Nat} (hs : N.Pairwise (· < ·)) : SetOk (prs LL HH N) := by
  refine ⟨fun i p hp => ?_, fun i p q hp hq => ?_⟩
  · simp only [prs, List.getElem?_map, Option.map_eq_some_iff] at hp
    obtain ⟨n, -, rfl⟩ := hp
    exact cneg (plLH.lh n)
  · simp only [prs, List.getElem?_map, Option.map_eq_some_iff] at hp hq
    obtain ⟨n, hn, rfl⟩ := hp
    obtain ⟨m, hm, rfl⟩ := hq
    exact cneg (plLH.hl n m (index_of_pairwise hs (Nat.lt_succ_self i) hn hm))

/-- The union of single numbers. -/
theorem union_sing (u v : Value) (A B : List Nat) (w : World) (hx : Ivs w u (A.map sing)) (hy : Ivs w v (B.map sing)) (hs : (A ++ B).Pairwise (· < ·)) (hA : ∀ n ∈ A ++ B, n < 1000) (hnx : A.length ≤ 256) (hny : B.length ≤ 256) :
    Calls Tryz.prog 6 #[u, v] w (RetP (CombP (prs LL HH (A ++ B))) w) := by
  have h1 : ∀ n ∈ A, n < 1000 := fun n h => hA n (List.mem_append_left _ h)
  have h2 : ∀ n ∈ B, n < 1000 := fun n h => hA n (List.mem_append_right _ h)
  have hp := List.pairwise_append.1 hs
  obtain ⟨r1, r2⟩ := union_all plLH A B hs
  refine union_any u v (A.map sing) (B.map sing) w hx hy ?_ ?_ ?_ ?_ (by simpa using hnx) (by simpa using hny) (lowest :: flatP LL HH (A ++ B)) (all_sorted plLH _ hs) ?_ _ ?_ ?_
  · intro x hx; obtain ⟨n, hn, rfl⟩ := List.mem_map.1 hx; exact sing_ok (h1 n hn)
  · intro x hx; obtain ⟨n, hn, rfl⟩ := List.mem_map.1 hx; exact sing_ok (h2 n hn)
  · rw [sings_cuts h1]; exact set_ok hp.1
  · rw [sings_cuts h2]; exact set_ok hp.2.1
  · rw [← List.map_append, sings_cuts hA]; exact all_perm _
  · rw [sings_cuts h1, sings_cuts h2]; exact r1
  · rw [sings_cuts h1, sings_cuts h2]; exact r2
/-- The complement of single numbers. -/
theorem compl_sing (u : Value) (A : List Nat) (w : World) (hx : Ivs w u (A.map sing)) (hs : A.Pairwise (· < ·)) (h1 : ∀ n ∈ A, n < 1000) (hnx : A.length ≤ 256) :
    Calls Tryz.prog 8 #[u] w (RetP (fun r w' => ∃ F : List PC, F.length = A.length + 1 ∧ CombP F r w') w) := by
  obtain ⟨r1, r2⟩ := compl_all plLH A hs
  refine (compl_any u (A.map sing) w hx ?_ ?_ (by simpa using hnx) (lowest :: flatP LL HH A) (all_sorted plLH _ hs) ?_ _ rfl ?_).mono fun e w' ⟨r, he, hr, hb⟩ => ⟨r, he, ⟨_, ?_, hr⟩, hb⟩
  · intro x hx; obtain ⟨n, hn, rfl⟩ := List.mem_map.1 hx; exact sing_ok (h1 n hn)
  · rw [sings_cuts h1]; exact set_ok hs
  · rw [sings_cuts h1]; exact all_perm _
  · rw [sings_cuts h1]; exact r2
  · rw [sings_cuts h1]; exact r1

end Go.Proofs.YtfmgjcgcocidfaaGreatDoor
