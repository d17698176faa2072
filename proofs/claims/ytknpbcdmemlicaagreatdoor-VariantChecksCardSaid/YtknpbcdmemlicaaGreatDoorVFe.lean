/-
  The first error of a family (plain).
-/
import Derived.Test.YtknpbcdmemlicaaGreatDoorVMem
namespace Go.Proofs.YtknpbcdmemlicaaGreatDoor
open Go.RowKit

/-- The first error of a row, with what was seen before. -/
def errRun {α σ : Type} (f : σ → α → Int) (g : σ → α → σ) : σ → List α → Int
  | _, [] => 0
  | s, x :: xs => if f s x ≠ 0 then f s x else errRun f g (g s x) xs
theorem get_drop {α : Type} {xs : List α} {k : Nat} {x : α} (h : xs[k]? = some x) : xs.drop k = x :: xs.drop (k + 1) := by
  obtain ⟨hi, rfl⟩ := List.getElem?_eq_some_iff.1 h
  exact List.drop_eq_getElem_cons hi
theorem errRun_hit {α σ : Type} {f : σ → α → Int} {g : σ → α → σ} {s : σ} {xs : List α} {k : Nat} {x : α} {E : Int} (h : xs[k]? = some x) (hp : errRun f g s (xs.drop k) = E) (hf : f s x ≠ 0) : E = f s x := by
  rw [get_drop h] at hp
  rw [← hp, errRun, if_pos hf]
theorem errRun_step {α σ : Type} {f : σ → α → Int} {g : σ → α → σ} {s : σ} {xs : List α} {k : Nat} {x : α} {E : Int} (h : xs[k]? = some x) (hp : errRun f g s (xs.drop k) = E) (hf : f s x = 0) : errRun f g (g s x) (xs.drop (k + 1)) = E := by
  rw [get_drop h] at hp
  rw [← hp, errRun, if_neg (fun k => k hf)]
theorem errRun_end {α σ : Type} {f : σ → α → Int} {g : σ → α → σ} {s : σ} {xs : List α} {k : Nat} {E : Int} (h : xs.length ≤ k) (hp : errRun f g s (xs.drop k) = E) : E = 0 := by
  rw [List.drop_of_length_le h] at hp
  exact hp.symm
def goodB (s : ByteArray) : Bool := s.data.toList.all fun b => decide (33 ≤ b.toNat) && decide (b.toNat ≤ 126)
def nameB (s : ByteArray) : Bool := goodB s && decide (0 < s.size) && decide (s.size ≤ 40)
/-- s is not greater than p. -/
def leB (s p : ByteArray) : Bool := Op.bytesLess s.toList p.toList || s.toList == p.toList
def optF (q : Option ByteArray) (o : ByteArray) : Int := if nameB o = false then 11 else if q.any (fun p => leB o p) = true then 8 else 0
def optErr (opts : List ByteArray) : Int := errRun optF (fun _ o => some o) none opts
def rulF (n : Int) (seen : List ByteArray) (r : Rule1) : Int := if nameB r.1 = false then 11 else if memB r.1 seen = true then 9 else litErr n r.2
def rulErr (n : Int) (rs : List Rule1) : Int := errRun (rulF n) (fun seen r => r.1 :: seen) [] rs
def grdF (n : Int) (mI : Nat) (_ : Unit) (g : Guard1) : Int := if g.1 < 0 ∨ (mI : Int) ≤ g.1 then 10 else litErr n g.2
def grdErr (n : Int) (mI : Nat) (gs : List Guard1) : Int := errRun (grdF n mI) (fun _ _ => ()) () gs
def ovrF (n : Int) (ds : List Dim1) (_ : Unit) (o : Ov1) : Int := if litErr n o.1 ≠ 0 then litErr n o.1 else if o.2.1 < 0 ∨ (ds.length : Int) ≤ o.2.1 then 10 else if (ds[o.2.1.toNat]?).map (·.1) = some o.2.2.1 then 0 else 17
def ovrErr (n : Int) (ds : List Dim1) (os : List Ov1) : Int := errRun (ovrF n ds) (fun _ _ => ()) () os
def limB (opts : List ByteArray) (rs : List Rule1) (gs : List Guard1) (os : List Ov1) : Bool := decide (12 < opts.length) || decide (48 < rs.length) || decide (48 < gs.length) || decide (48 < os.length)
/-- The first error of a family. -/
def famErr (opts : List ByteArray) (rs : List Rule1) (gs : List Guard1) (os : List Ov1) (mI : Nat) (ds : List Dim1) : Int :=
  if limB opts rs gs os = true then 6 else if optErr opts ≠ 0 then optErr opts else if rulErr opts.length rs ≠ 0 then rulErr opts.length rs else if grdErr opts.length mI gs ≠ 0 then grdErr opts.length mI gs else ovrErr opts.length ds os

def prevO (opts : List ByteArray) : Nat → Option ByteArray
  | 0 => none
  | j + 1 => opts[j]?
def seenR (rs : List Rule1) (k : Nat) : List ByteArray := ((rs.take k).map (·.1)).reverse
theorem seenR_succ {rs : List Rule1} {k : Nat} {r : Rule1} (hk : rs[k]? = some r) : r.1 :: seenR rs k = seenR rs (k + 1) := seen_next hk
abbrev OptPre (opts : List ByteArray) (k : Nat) : Prop := errRun optF (fun _ o => some o) (prevO opts k) (opts.drop k) = optErr opts
abbrev RulPre (n : Int) (rs : List Rule1) (k : Nat) : Prop := errRun (rulF n) (fun seen r => r.1 :: seen) (seenR rs k) (rs.drop k) = rulErr n rs
abbrev GrdPre (n : Int) (mI : Nat) (gs : List Guard1) (k : Nat) : Prop := errRun (grdF n mI) (fun _ _ => ()) () (gs.drop k) = grdErr n mI gs
abbrev OvrPre (n : Int) (ds : List Dim1) (os : List Ov1) (k : Nat) : Prop := errRun (ovrF n ds) (fun _ _ => ()) () (os.drop k) = ovrErr n ds os
theorem optPre_step {opts : List ByteArray} {k : Nat} {o : ByteArray} (h : opts[k]? = some o) (hp : OptPre opts k) (hf : optF (prevO opts k) o = 0) : OptPre opts (k + 1) := by
  have := errRun_step h hp hf
  show errRun optF _ opts[k]? _ = _
  rw [h]; exact this
theorem rulPre_step {n : Int} {rs : List Rule1} {k : Nat} {r : Rule1} (h : rs[k]? = some r) (hp : RulPre n rs k) (hf : rulF n (seenR rs k) r = 0) : RulPre n rs (k + 1) := by
  have := errRun_step h hp hf
  unfold RulPre
  rw [← seenR_succ h]; exact this
theorem optF_name {q : Option ByteArray} {o : ByteArray} (h : nameB o = false) : optF q o = 11 := by unfold optF; rw [if_pos h]
theorem optF_le {p o : ByteArray} (h : nameB o = true) (h' : leB o p = true) : optF (some p) o = 8 := by unfold optF; rw [if_neg (by simp [h]), if_pos (by simpa using h')]
theorem optF_ok {p o : ByteArray} (h : nameB o = true) (h' : leB o p = false) : optF (some p) o = 0 := by unfold optF; rw [if_neg (by simp [h]), if_neg (by simp [h'])]
theorem optF_ok0 {o : ByteArray} (h : nameB o = true) : optF none o = 0 := by unfold optF; rw [if_neg (by simp [h]), if_neg (by simp)]
theorem rulF_name {n : Int} {seen : List ByteArray} {r : Rule1} (h : nameB r.1 = false) : rulF n seen r = 11 := by unfold rulF; rw [if_pos h]
theorem rulF_dup {n : Int} {seen : List ByteArray} {r : Rule1} (h : nameB r.1 = true) (h' : memB r.1 seen = true) : rulF n seen r = 9 := by unfold rulF; rw [if_neg (by simp [h]), if_pos h']
theorem rulF_lit {n : Int} {seen : List ByteArray} {r : Rule1} (h : nameB r.1 = true) (h' : memB r.1 seen = false) : rulF n seen r = litErr n r.2 := by unfold rulF; rw [if_neg (by simp [h]), if_neg (by simp [h'])]
theorem grdF_bad {n : Int} {mI : Nat} {g : Guard1} (h : g.1 < 0 ∨ (mI : Int) ≤ g.1) : grdF n mI () g = 10 := by unfold grdF; rw [if_pos h]
theorem grdF_lit {n : Int} {mI : Nat} {g : Guard1} (h : 0 ≤ g.1) (h' : g.1 < (mI : Int)) : grdF n mI () g = litErr n g.2 := by unfold grdF; rw [if_neg (by omega)]
theorem ovrF_lit {n : Int} {ds : List Dim1} {o : Ov1} (h : litErr n o.1 ≠ 0) : ovrF n ds () o = litErr n o.1 := by unfold ovrF; rw [if_pos h]
theorem ovrF_10 {n : Int} {ds : List Dim1} {o : Ov1} (h : litErr n o.1 = 0) (h' : o.2.1 < 0 ∨ (ds.length : Int) ≤ o.2.1) : ovrF n ds () o = 10 := by unfold ovrF; rw [if_neg (fun k => k h), if_pos h']
theorem ovrF_17 {n : Int} {ds : List Dim1} {o : Ov1} {k : Nat} {d : Dim1} (h : litErr n o.1 = 0) (hk : o.2.1 = (k : Int)) (hd : ds[k]? = some d) (hne : d.1 ≠ o.2.2.1) : ovrF n ds () o = 17 := by
  have := lt_of_get hd
  unfold ovrF
  rw [if_neg (fun k => k h), if_neg (by omega), if_neg]
  rw [hk, Int.toNat_natCast, hd]; simpa using hne
theorem ovrF_0 {n : Int} {ds : List Dim1} {o : Ov1} {k : Nat} {d : Dim1} (h : litErr n o.1 = 0) (hk : o.2.1 = (k : Int)) (hd : ds[k]? = some d) (he : d.1 = o.2.2.1) : ovrF n ds () o = 0 := by
  have := lt_of_get hd
  unfold ovrF
  rw [if_neg (fun k => k h), if_neg (by omega), if_pos]
  rw [hk, Int.toNat_natCast, hd]; simpa using he
theorem fam_lim {opts : List ByteArray} {rs : List Rule1} {gs : List Guard1} {os : List Ov1} {mI : Nat} {ds : List Dim1} (h : limB opts rs gs os = true) : famErr opts rs gs os mI ds = 6 := by unfold famErr; rw [if_pos h]
theorem fam_opt {opts : List ByteArray} {rs : List Rule1} {gs : List Guard1} {os : List Ov1} {mI : Nat} {ds : List Dim1} {e : Int} (h : limB opts rs gs os = false) (ho : optErr opts = e) (he : e ≠ 0) : famErr opts rs gs os mI ds = e := by unfold famErr; rw [if_neg (by simp [h]), if_pos (by rw [ho]; exact he), ho]
theorem fam_rul {opts : List ByteArray} {rs : List Rule1} {gs : List Guard1} {os : List Ov1} {mI : Nat} {ds : List Dim1} {e : Int} (h : limB opts rs gs os = false) (ho : optErr opts = 0) (hr : rulErr opts.length rs = e) (he : e ≠ 0) : famErr opts rs gs os mI ds = e := by
  unfold famErr; rw [if_neg (by simp [h]), if_neg (fun k => k ho), if_pos (by rw [hr]; exact he), hr]
theorem fam_grd {opts : List ByteArray} {rs : List Rule1} {gs : List Guard1} {os : List Ov1} {mI : Nat} {ds : List Dim1} {e : Int} (h : limB opts rs gs os = false) (ho : optErr opts = 0) (hr : rulErr opts.length rs = 0) (hg : grdErr opts.length mI gs = e) (he : e ≠ 0) : famErr opts rs gs os mI ds = e := by
  unfold famErr; rw [if_neg (by simp [h]), if_neg (fun k => k ho), if_neg (fun k => k hr), if_pos (by rw [hg]; exact he), hg]
theorem fam_ovr {opts : List ByteArray} {rs : List Rule1} {gs : List Guard1} {os : List Ov1} {mI : Nat} {ds : List Dim1} (h : limB opts rs gs os = false) (ho : optErr opts = 0) (hr : rulErr opts.length rs = 0) (hg : grdErr opts.length mI gs = 0) : famErr opts rs gs os mI ds = ovrErr opts.length ds os := by
  unfold famErr; rw [if_neg (by simp [h]), if_neg (fun k => k ho), if_neg (fun k => k hr), if_neg (fun k => k hg)]
theorem limB_iff {opts : List ByteArray} {rs : List Rule1} {gs : List Guard1} {os : List Ov1} : limB opts rs gs os = true ↔ 12 < opts.length ∨ 48 < rs.length ∨ 48 < gs.length ∨ 48 < os.length := by
  unfold limB; simp only [Bool.or_eq_true, decide_eq_true_eq, or_assoc]
theorem limB_not {opts : List ByteArray} {rs : List Rule1} {gs : List Guard1} {os : List Ov1} : limB opts rs gs os = false ↔ opts.length ≤ 12 ∧ rs.length ≤ 48 ∧ gs.length ≤ 48 ∧ os.length ≤ 48 := by
  rw [← Bool.not_eq_true, limB_iff]; omega

end Go.Proofs.YtknpbcdmemlicaaGreatDoor
