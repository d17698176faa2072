/-
  Products: the model's product.
-/
import Derived.Test.YtkphggmbimjhjaaPg
import Derived.Test.YtkphggmbimjhjaaPop
import Derived.Deep.CutBlock
import Derived.Deep.DeepCutAuto
import Derived.Test.YtkphggmbimjhjaaMod
namespace Go.Proofs.Ytkphggmbimjhjaa
open Go.RowKit

/-- No guard of the first k keeps instance i away. -/
def thereB (app : List Lit1 → Bool) (gs : List Guard1) (i k : Nat) : Bool := (gs.take k).all fun g => !((g.1 == (i : Int)) && !app g.2)
theorem thereB_succ {app : List Lit1 → Bool} {gs : List Guard1} {i k : Nat} {g : Guard1} (h : gs[k]? = some g) : thereB app gs i (k + 1) = (thereB app gs i k && !((g.1 == (i : Int)) && !app g.2)) := by
  unfold thereB
  rw [List.take_add_one, h]
  simp [List.all_append]
theorem thereB_all (app : List Lit1 → Bool) (gs : List Guard1) (i : Nat) : thereB app gs i gs.length = !awayB app gs i := by
  unfold thereB awayB
  rw [List.take_length, List.not_any_eq_all_not]

set_option maxHeartbeats 4000000 in
set_option maxRecDepth 100000 in
theorem prod36 (c : Int) (nm : ByteArray) (q7 q8 : Value) (ai ad a9 a10 : Option Addr) (ni nd n9 n10 ci cd c9 c10 : Nat) (ns : List ByteArray) (ds : List Dim1) (gs : List Guard1) (os : List Ov1) (w : World)
    (hI : Insts w (.slice ai ni ci) ns) (hD : Dims w (.slice ad nd cd) ds) (hG : Gds w (.slice a9 n9 c9) gs) (hO : Ovs w (.slice a10 n10 c10) os) (hni : ns.length < 1000) (hnd : ds.length < 1000) (hgl : gs.length < 1000) (hol : os.length < 1000)
    (hgok : ∀ g ∈ gs, LitsOk 12 g.2 ∧ g.2.length < 1000) (hook : ∀ o ∈ os, LitsOk 12 o.1 ∧ o.1.length < 1000 ∧ ∃ k : Nat, o.2.1 = k ∧ k < ds.length) (hc : 0 ≤ c) (hc2 : c < 4096) (hdz : 0 < ds.length) :
    Calls Try.prog 36 #[.agg #[.string nm, .slice none 0 0, .slice ai ni ci, .slice ad nd cd, .slice none 0 0, .slice none 0 0, q7, q8, .slice a9 n9 c9, .slice a10 n10 c10], .int .i64 c] w
      (fun e w' => ∃ v vd, e = .returned (.agg #[.string nm, .slice none 0 0, v, vd, .slice none 0 0, .slice none 0 0]) ∧ Insts w' v (insTo (fun i => !awayB (mHolds c) gs i) ns ns.length) ∧ Dims w' vd (ovrTo (mHolds c) os ds os.length) ∧ Below w.heap.size w w') := by
  obtain ⟨_, _, hq, hi1, hi2⟩ := hI.open
  cases hq
  obtain ⟨_, _, hq, hd1, hd2⟩ := hD.open
  cases hq
  obtain ⟨_, _, hq, hg1, hg2⟩ := hG.open
  cases hq
  obtain ⟨_, _, hq, ho1, ho2⟩ := hO.open
  cases hq
  unfold maxLen at hi2 hd2 hg2 ho2
  have K3 := below2 w (.cells #[.string nm, .slice none 0 0, .slice ai ns.length ci, .slice ad ds.length cd, .slice none 0 0, .slice none 0 0, q7, q8, .slice a9 gs.length c9, .slice a10 os.length c10] 41) (.cells z35 35)
  have hBF : Blk ((w.alloc (.cells #[.string nm, .slice none 0 0, .slice ai ns.length ci, .slice ad ds.length cd, .slice none 0 0, .slice none 0 0, q7, q8, .slice a9 gs.length c9, .slice a10 os.length c10] 41)).alloc (.cells z35 35)) w.heap.size #[.string nm, .slice none 0 0, .slice ai ns.length ci, .slice ad ds.length cd, .slice none 0 0, .slice none 0 0, q7, q8, .slice a9 gs.length c9, .slice a10 os.length c10] 41 := (Blk.new w _ 41).old _
  have hBR : Blk ((w.alloc (.cells #[.string nm, .slice none 0 0, .slice ai ns.length ci, .slice ad ds.length cd, .slice none 0 0, .slice none 0 0, q7, q8, .slice a9 gs.length c9, .slice a10 os.length c10] 41)).alloc (.cells z35 35)) (w.heap.size + 1) z35 35 := by
    have h := Blk.new (w.alloc (.cells #[.string nm, .slice none 0 0, .slice ai ns.length ci, .slice ad ds.length cd, .slice none 0 0, .slice none 0 0, q7, q8, .slice a9 gs.length c9, .slice a10 os.length c10] 41)) z35 35
    simpa using h
  have HBF := Lib.hid hBF
  have HBR := Lib.hid hBR
  have HK3 := Lib.hid K3
  have HI := Lib.hid hI
  have HD := Lib.hid hD
  have HG := Lib.hid hG
  have HO := Lib.hid hO
  have Hgok := Lib.hid hgok
  have Hook := Lib.hid hook
  clear hBF hBR K3 hI hD hG hO hgok hook
  generalize hn1 : ns.length = n1 at *
  generalize hn2 : ds.length = n2 at *
  generalize hn3 : gs.length = n3 at *
  generalize hn4 : os.length = n4 at *
  have Hn1 := Lib.hid hn1
  have Hn2 := Lib.hid hn2
  have Hn3 := Lib.hid hn3
  have Hn4 := Lib.hid hn4
  have HT := Lib.hid (fun i => thereB_all (mHolds c) gs i)
  rw [hn3] at HT
  clear hn1 hn2 hn3 hn4
  go_enter Try.func36, Try.ntmps36
  obtain ⟨db, dof, dd, rfl, -, -, -, -, -, -⟩ := HD.out.at (Below.refl _ _) hdz
  have hi := (E31).info
  simp only [Option.map_eq_some_iff, Prod.mk.injEq] at hi
  obtain ⟨i, hi, ⟨z, hz, hzs⟩, hsize, hby⟩ := hi
  have hfl := flat_len (dim_len (ds := ds))
  rw [List.length_map, Hn2.out] at hfl
  have hone : ∀ u ∈ (ds.map dimC).flatten, u.oneCell' = true := fun u hu => by obtain ⟨r, hr, hur⟩ := List.mem_flatten.1 hu; exact dim_one r hr u hur
  have hW3 : ((w.alloc (.cells #[.string nm, .slice none 0 0, .slice ai n1 ci, .slice (some ⟨db, dof, none⟩) n2 cd, .slice none 0 0, .slice none 0 0, q7, q8, .slice a9 n3 c9, .slice a10 n4 c10] 41)).alloc (.cells z35 35)).heap.size = w.heap.size + 2 := by simp
  have hW3b : (((w.alloc (.cells #[.string nm, .slice none 0 0, .slice ai n1 ci, .slice (some ⟨db, dof, none⟩) n2 cd, .slice none 0 0, .slice none 0 0, q7, q8, .slice a9 n3 c9, .slice a10 n4 c10] 41)).alloc (.cells z35 35)).alloc (.cells #[.string nm, .slice none 0 0, .slice ai n1 ci, .slice (some ⟨db, dof, none⟩) n2 cd, .slice none 0 0, .slice none 0 0] 35)).heap.size = w.heap.size + 1 + 1 + 1 := by simp
  have hW4 : (((((w.alloc (.cells #[.string nm, .slice none 0 0, .slice ai n1 ci, .slice (some ⟨db, dof, none⟩) n2 cd, .slice none 0 0, .slice none 0 0, q7, q8, .slice a9 n3 c9, .slice a10 n4 c10] 41)).alloc (.cells z35 35))).alloc (.cells #[.string nm, .slice none 0 0, .slice ai n1 ci, .slice (some ⟨db, dof, none⟩) n2 cd, .slice none 0 0, .slice none 0 0] 35)).alloc (.cells #[] 81)).heap.size = w.heap.size + 1 + 1 + 1 + 1 := by simp
  have hb4 : Below ((w.alloc (.cells #[.string nm, .slice none 0 0, .slice ai n1 ci, .slice (some ⟨db, dof, none⟩) n2 cd, .slice none 0 0, .slice none 0 0, q7, q8, .slice a9 n3 c9, .slice a10 n4 c10] 41)).alloc (.cells z35 35)).heap.size ((w.alloc (.cells #[.string nm, .slice none 0 0, .slice ai n1 ci, .slice (some ⟨db, dof, none⟩) n2 cd, .slice none 0 0, .slice none 0 0, q7, q8, .slice a9 n3 c9, .slice a10 n4 c10] 41)).alloc (.cells z35 35)) (((((w.alloc (.cells #[.string nm, .slice none 0 0, .slice ai n1 ci, .slice (some ⟨db, dof, none⟩) n2 cd, .slice none 0 0, .slice none 0 0, q7, q8, .slice a9 n3 c9, .slice a10 n4 c10] 41)).alloc (.cells z35 35))).alloc (.cells #[.string nm, .slice none 0 0, .slice ai n1 ci, .slice (some ⟨db, dof, none⟩) n2 cd, .slice none 0 0, .slice none 0 0] 35)).alloc (.cells #[] 81)) := below2 _ _ _
  have hnew : ∀ j u, (ds.map dimC).flatten[j]? = some u → (((((w.alloc (.cells #[.string nm, .slice none 0 0, .slice ai n1 ci, .slice (some ⟨db, dof, none⟩) n2 cd, .slice none 0 0, .slice none 0 0, q7, q8, .slice a9 n3 c9, .slice a10 n4 c10] 41)).alloc (.cells z35 35))).alloc (.cells #[.string nm, .slice none 0 0, .slice ai n1 ci, .slice (some ⟨db, dof, none⟩) n2 cd, .slice none 0 0, .slice none 0 0] 35)).alloc (.cells #[] 81)).cell? ((⟨db, dof, none⟩ : Addr).add j) = some u := (HD.out.mono (HK3.out.via hb4 HK3.out.size)).flat dim_len (by decide)
  have hown : (((((w.alloc (.cells #[.string nm, .slice none 0 0, .slice ai n1 ci, .slice (some ⟨db, dof, none⟩) n2 cd, .slice none 0 0, .slice none 0 0, q7, q8, .slice a9 n3 c9, .slice a10 n4 c10] 41)).alloc (.cells z35 35))).alloc (.cells #[.string nm, .slice none 0 0, .slice ai n1 ci, .slice (some ⟨db, dof, none⟩) n2 cd, .slice none 0 0, .slice none 0 0] 35)).alloc (.cells #[] 81)).ownsRow (w.heap.size + 1 + 1 + 1) 81 4 (.slice (some ⟨w.heap.size + 1 + 1 + 1, 0, none⟩) 0 0) 0 [] := by
    have h := World.ownsRow_made (((w.alloc (.cells #[.string nm, .slice none 0 0, .slice ai n1 ci, .slice (some ⟨db, dof, none⟩) n2 cd, .slice none 0 0, .slice none 0 0, q7, q8, .slice a9 n3 c9, .slice a10 n4 c10] 41)).alloc (.cells z35 35)).alloc (.cells #[.string nm, .slice none 0 0, .slice ai n1 ci, .slice (some ⟨db, dof, none⟩) n2 cd, .slice none 0 0, .slice none 0 0] 35)) #[] 0 (base := w.heap.size + 1 + 1 + 1) (e := 81) (size := 4) (by simp) (by decide) (by simp)
    rw [hW3b] at h
    exact h
  have hPb : Blk (((((w.alloc (.cells #[.string nm, .slice none 0 0, .slice ai n1 ci, .slice (some ⟨db, dof, none⟩) n2 cd, .slice none 0 0, .slice none 0 0, q7, q8, .slice a9 n3 c9, .slice a10 n4 c10] 41)).alloc (.cells z35 35))).alloc (.cells #[.string nm, .slice none 0 0, .slice ai n1 ci, .slice (some ⟨db, dof, none⟩) n2 cd, .slice none 0 0, .slice none 0 0] 35)).alloc (.cells #[] 81)) (w.heap.size + 1 + 1) #[.string nm, .slice none 0 0, .slice ai n1 ci, .slice (some ⟨db, dof, none⟩) n2 cd, .slice none 0 0, .slice none 0 0] 35 := by
    have h := (Blk.new ((w.alloc (.cells #[.string nm, .slice none 0 0, .slice ai n1 ci, .slice (some ⟨db, dof, none⟩) n2 cd, .slice none 0 0, .slice none 0 0, q7, q8, .slice a9 n3 c9, .slice a10 n4 c10] 41)).alloc (.cells z35 35)) #[.string nm, .slice none 0 0, .slice ai n1 ci, .slice (some ⟨db, dof, none⟩) n2 cd, .slice none 0 0, .slice none 0 0] 35).old (.cells #[] 81)
    rw [show ((w.alloc (.cells #[.string nm, .slice none 0 0, .slice ai n1 ci, .slice (some ⟨db, dof, none⟩) n2 cd, .slice none 0 0, .slice none 0 0, q7, q8, .slice a9 n3 c9, .slice a10 n4 c10] 41)).alloc (.cells z35 35)).heap.size = w.heap.size + 1 + 1 by simp] at h
    exact h
  have HFl := Lib.hid hfl
  clear hfl hW3b
  go_wp2_with (at_builtin; go_loud (refine wpList_append_own _ rfl _ _ 31 rfl (w.heap.size + 1 + 1 + 1) 81 i z 4 40 (E31).und hi hz hsize hby hzs (by decide) (.slice (some ⟨w.heap.size + 1 + 1 + 1, 0, none⟩) 0 0) 0 [] rfl hown ⟨db, dof, none⟩ n2 cd (ds.map dimC).flatten rfl HFl.out hnew hone (by unfold maxLen; omega) (by omega) (by first | omega | (simp; done) | (simp; omega)) ?_); intro v' w5 hown5 hg5 _; obtain ⟨a3, p3, rfl, -, -⟩ := own_open hown5; simp only [Nat.zero_add, List.nil_append] at hown5 ⊢; have hP5 := hPb.grown hg5 (by simp [Value.ownBlock]); have c2 := hP5.cell 2; have c3 := hP5.cell 3; have e2 := hP5.free 2; have e3 := hP5.free 3; simp only [List.getElem?_toArray, List.getElem?_cons_succ, List.getElem?_cons_zero] at c2 c3)
  have hp0 : PW ((w.alloc (.cells #[.string nm, .slice none 0 0, .slice ai n1 ci, .slice (some ⟨db, dof, none⟩) n2 cd, .slice none 0 0, .slice none 0 0, q7, q8, .slice a9 n3 c9, .slice a10 n4 c10] 41)).alloc (.cells z35 35)) ((w5.setCell ⟨w.heap.size + 1 + 1, 2, none⟩ (.slice none 0 0)).setCell ⟨w.heap.size + 1 + 1, 3, none⟩ (.slice a3 n2 p3)) (w.heap.size + 1 + 1) nm (.slice none 0 0) [] (.slice a3 n2 p3) ds := by
    refine ⟨?_, World.ownsRow_nil _ _ _ _, ?_, by simp [Value.ownBlock], fun e => by have := (hown5.lt _ e).1; omega, ?_, by omega⟩
    · have h := (hP5.set 2 (.slice none 0 0)).set 3 (.slice a3 n2 p3)
      simpa using h
    · rw [Hn2.out]
      have h := own_base hown5 (show ((w.alloc (.cells #[.string nm, .slice none 0 0, .slice ai n1 ci, .slice (some ⟨db, dof, none⟩) n2 cd, .slice none 0 0, .slice none 0 0, q7, q8, .slice a9 n3 c9, .slice a10 n4 c10] 41)).alloc (.cells z35 35)).heap.size ≤ w.heap.size + 1 + 1 + 1 by omega)
      have h1 := own_base (ownsRow_setCell_below (ownsRow_setCell_below hown5 (a := ⟨w.heap.size + 1 + 1, 2, none⟩) (show w.heap.size + 1 + 1 < w.heap.size + 1 + 1 + 1 by omega) (.slice none 0 0)) (a := ⟨w.heap.size + 1 + 1, 3, none⟩) (show w.heap.size + 1 + 1 < w.heap.size + 1 + 1 + 1 by omega) (.slice a3 n2 p3)) (show ((w.alloc (.cells #[.string nm, .slice none 0 0, .slice ai n1 ci, .slice (some ⟨db, dof, none⟩) n2 cd, .slice none 0 0, .slice none 0 0, q7, q8, .slice a9 n3 c9, .slice a10 n4 c10] 41)).alloc (.cells z35 35)).heap.size ≤ w.heap.size + 1 + 1 + 1 by omega)
      exact h1
    · exact (((hb4.grown hg5 (by omega) (fun b hb => by simp only [Value.ownBlock, Option.some.injEq] at hb; omega)).setCell (p := ⟨w.heap.size + 1 + 1, 2, none⟩) (by show _ ≤ w.heap.size + 1 + 1; omega) _).setCell (p := ⟨w.heap.size + 1 + 1, 3, none⟩) (by show _ ≤ w.heap.size + 1 + 1; omega) _)
  clear hown hown5 hP5 hPb hnew hb4 hone hg5 c2 c3 e2 e3 hW4
  generalize (w.alloc (.cells #[.string nm, .slice none 0 0, .slice ai n1 ci, .slice (some ⟨db, dof, none⟩) n2 cd, .slice none 0 0, .slice none 0 0, q7, q8, .slice a9 n3 c9, .slice a10 n4 c10] 41)).alloc (.cells z35 35) = W3 at *
  generalize (w5.setCell ⟨w.heap.size + 1 + 1, 2, none⟩ (.slice none 0 0)).setCell ⟨w.heap.size + 1 + 1, 3, none⟩ (.slice a3 n2 p3) = W2 at *
  have hRW : w.heap.size + 1 < W3.heap.size := by omega
  have HRW := Lib.hid hRW
  clear hRW
  generalize w.heap.size + 1 + 1 = P at *
  go_loopw [6, 7, 8] (fun i _ _ wr => ∃ (j : Nat) (la : Option Addr) (lc : Nat), j ≤ n1 ∧ i = .int .i64 j ∧ PW W3 wr P nm (.slice la (insTo (fun i => !awayB (mHolds c) gs i) ns j).length lc) (insTo (fun i => !awayB (mHolds c) gs i) ns j) (.slice a3 n2 p3) ds) (fun i _ _ _ => n1 - (intOf i).toNat)
  case atStart => exact ⟨0, none, 0, Nat.zero_le _, rfl, hp0⟩
  case round =>
    clear hp0
    obtain ⟨j, la, lc, hj, rfl, hpw⟩ := hrel
    obtain ⟨f0, f1, f2, f3, f4, f5, f6, f7, f8, f9, -⟩ := blk10 (HBF.out.below hpw.bel)
    have fb := World.block_lt_of_cell? _ _ f0
    by_cases hlt : j < n1
    · obtain ⟨b, off, s, rfl, hs, -⟩ := HI.out.at (HK3.out.via hpw.bel HK3.out.size) hlt
      have Hs := Lib.hid hs
      clear hs
      go_wp2_with fail
      go_loopw [7, 8] (fun th kk wz => ∃ k : Nat, k ≤ n3 ∧ kk = .int .i64 k ∧ th = .bool (thereB (mHolds c) gs j k) ∧ Below wr.heap.size wr wz) (fun _ kk _ => n3 - (intOf kk).toNat)
      case atStart => exact ⟨0, Nat.zero_le _, rfl, rfl, Below.refl _ _⟩
      case round =>
        rename World => wz
        clear f0 f1 f2 f3 f4 f5 f6 f7 f8 f9 fb
        obtain ⟨k, hk, rfl, rfl, hbz⟩ := hrel
        have hpz := hpw.below hbz
        obtain ⟨f0, f1, f2, f3, f4, f5, f6, f7, f8, f9, -⟩ := blk10 (HBF.out.below hpz.bel)
        by_cases hlt3 : k < n3
        · obtain ⟨gb, go, lv, g, rfl, hg, g0, g1, hL⟩ := HG.out.at (HK3.out.via hpz.bel HK3.out.size) hlt3
          have hgok := Hgok.out g (List.mem_of_getElem? hg)
          have Hsu := Lib.hid (thereB_succ (app := mHolds c) (i := j) hg)
          obtain ⟨gi, gl⟩ := g
          simp only at g0 g1 hL hgok Hsu
          obtain ⟨v0, vc, rfl, -, -⟩ := hL.open
          have H43 := Lib.hid (mall_any gl _ c wz hL hgok.1 hgok.2 hc hc2)
          generalize mHolds c gl = mh at *
          generalize gl.length = gll at *
          have Hbz := Lib.hid hbz
          generalize thereB (mHolds c) gs j k = th at *
          clear hL hgok hg hpz hbz
          cases th
          · go_wp2_with fail
            go_roundw
            case rel => exact ⟨k + 1, by omega, by go_num, by rw [Hsu.out]; simp, Hbz.out⟩
            case measure => simp [intOf]; omega
          · by_cases he : gi = (j : Int)
            · subst he
              have hee : ((j : Int) != (j : Int)) = false := by simp
              go_wp2_with (go_at_call 43; refine (H43.out).mono ?_; rintro e w4 ⟨rfl, hb4⟩)
              go_roundw
              case rel => exact ⟨k + 1, by omega, by go_num, by rw [Hsu.out]; simp, Hbz.out.via hb4 Hbz.out.size⟩
              case measure => simp [intOf]; omega
            · have hee : (gi != (j : Int)) = true := by simpa using he
              have hef : (gi == (j : Int)) = false := by simpa using he
              go_wp2_with fail
              go_roundw
              case rel => exact ⟨k + 1, by omega, by go_num, by rw [Hsu.out]; simp [hef], Hbz.out⟩
              case measure => simp [intOf]; omega
        · obtain rfl : k = n3 := by omega
          rw [HT.out j]
          have Hpz := Lib.hid hpz
          have Hpw := Lib.hid hpw
          have hkl := insTo_len (fun i => !awayB (mHolds c) gs i) ns j
          generalize haw : awayB (mHolds c) gs j = aw at *
          have Haw := Lib.hid haw
          clear haw
          cases aw
          · have Hin := Lib.hid (insTo_yes (keep := (fun i => !awayB (mHolds c) gs i)) Hs.out (by show (!awayB (mHolds c) gs j) = true; rw [Haw.out]; rfl))
            have HSc := Lib.hid (show ∀ w', Below W3.heap.size W3 w' → w'.cell? ⟨w.heap.size, 2, none⟩ = some (.slice (some ⟨b, off, none⟩) n1 ci) ∧ w'.cell? ⟨b, off + j * 9, none⟩ = some (.string s) ∧ w'.cell? ⟨b, off + j * 9 + 1, none⟩ = some (.string ⟨#[112]⟩) ∧ w'.cell? ⟨b, off + j * 9 + 2, none⟩ = some (.int .i64 0) ∧ w'.cell? ⟨b, off + j * 9 + 3, none⟩ = some (.int .i64 0) ∧ w'.cell? ⟨b, off + j * 9 + 4, none⟩ = some (.int .i64 0) ∧ w'.cell? ⟨b, off + j * 9 + 5, none⟩ = some (.int .i64 0) ∧ w'.cell? ⟨b, off + j * 9 + 6, none⟩ = some (.string ⟨#[]⟩) ∧ w'.cell? ⟨b, off + j * 9 + 7, none⟩ = some (.string ⟨#[]⟩) ∧ w'.cell? ⟨b, off + j * 9 + 8, none⟩ = some (.string ⟨#[]⟩) from fun w' h => by
              obtain ⟨b', off', s', hq, hs', -, t0, t1, t2, t3, t4, t5, t6, t7, t8⟩ := HI.out.at (HK3.out.via h HK3.out.size) hlt
              cases hq
              rw [Hs.out] at hs'
              cases hs'
              exact ⟨(blk10 (HBF.out.below h)).2.2.1, t0, t1, t2, t3, t4, t5, t6, t7, t8⟩)
            generalize hkn : (insTo (fun i => !awayB (mHolds c) gs i) ns j).length = kn at *
            have Hkn := Lib.hid hkn
            clear hkn
            have hz2 := hpz.blk.cell 2
            simp only [List.getElem?_toArray, List.getElem?_cons_succ, List.getElem?_cons_zero] at hz2
            have hsc := HSc.out wz hpz.bel
            have hii0 : (0 : Int) ≤ (j : Int) := Int.natCast_nonneg _
            have hii1 : (j : Int) < (n1 : Int) := by omega
            have hii2 : (j : Int) ≤ (ci : Int) := by omega
            obtain ⟨u2, i0, i1, i2, i3, i4, i5, i6, i7, i8⟩ := hsc
            clear hpz hpw
            go_wp2_with fail
            refine wp_region_pop (S := (fun w' => w'.cell? ⟨P, 2, none⟩ = some (.slice la kn lc) ∧ w'.cell? ⟨w.heap.size, 2, none⟩ = some (.slice (some ⟨b, off, none⟩) n1 ci) ∧ w'.cell? ⟨b, off + j * 9, none⟩ = some (.string s) ∧ w'.cell? ⟨b, off + j * 9 + 1, none⟩ = some (.string ⟨#[112]⟩) ∧ w'.cell? ⟨b, off + j * 9 + 2, none⟩ = some (.int .i64 0) ∧ w'.cell? ⟨b, off + j * 9 + 3, none⟩ = some (.int .i64 0) ∧ w'.cell? ⟨b, off + j * 9 + 4, none⟩ = some (.int .i64 0) ∧ w'.cell? ⟨b, off + j * 9 + 5, none⟩ = some (.int .i64 0) ∧ w'.cell? ⟨b, off + j * 9 + 6, none⟩ = some (.string ⟨#[]⟩) ∧ w'.cell? ⟨b, off + j * 9 + 7, none⟩ = some (.string ⟨#[]⟩) ∧ w'.cell? ⟨b, off + j * 9 + 8, none⟩ = some (.string ⟨#[]⟩))) 14 (by kernel_rfl) (by kernel_rfl) (by exact ⟨hz2, u2, i0, i1, i2, i3, i4, i5, i6, i7, i8⟩) (fun hHeld => ?_)
            simp only [List.take_succ_cons, List.take_zero, List.drop_succ_cons, List.drop_zero]
            refine wpAnyH_take (i := 0) (v := ?v1) rfl (by kernel_rfl) (by kernel_rfl) (by kernel_rfl) (fun _ _ _ h => h) (Or.inl ⟨by rfl, ?hy1⟩) (by assumption) ?rest1
            case hy1 => (intro w hSw; (try dsimp only at hSw); go_simp; try (with_reducible rfl))
            try simp only [Act.put, List.getElem_toArray, List.getElem_cons_zero, List.setIfInBounds_toArray, List.set_cons_zero, List.set_cons_succ]
            refine wpAnyH_take (i := 1) (v := ?v2) rfl (by kernel_rfl) (by kernel_rfl) (by kernel_rfl) (fun _ _ _ h => h) (Or.inl ⟨by rfl, ?hy2⟩) (by assumption) ?rest2
            case hy2 => (intro w hSw; (try dsimp only at hSw); go_simp; try (with_reducible rfl))
            try simp only [Act.put, List.getElem_toArray, List.getElem_cons_zero, List.getElem_cons_succ, List.setIfInBounds_toArray, List.set_cons_zero, List.set_cons_succ]
            refine wpAnyH_take (i := 2) (v := ?v3) rfl (by kernel_rfl) (by kernel_rfl) (by kernel_rfl) (fun _ _ _ h => h) (Or.inl ⟨by rfl, ?hy3⟩) (by assumption) ?rest3
            case hy3 => (intro w hSw; (try dsimp only at hSw); go_simp; try (with_reducible rfl))
            try simp only [Act.put, List.getElem_toArray, List.getElem_cons_zero, List.getElem_cons_succ, List.setIfInBounds_toArray, List.set_cons_zero, List.set_cons_succ]
            refine wpAnyH_take (i := 3) (v := ?v4) rfl (by kernel_rfl) (by kernel_rfl) (by kernel_rfl) (fun _ _ _ h => h) (Or.inl ⟨by rfl, ?hy4⟩) (by assumption) ?rest4
            case hy4 => (intro w hSw; (try dsimp only at hSw); go_simp; try (with_reducible rfl))
            try simp only [Act.put, List.getElem_toArray, List.getElem_cons_zero, List.getElem_cons_succ, List.setIfInBounds_toArray, List.set_cons_zero, List.set_cons_succ]
            refine wpAnyH_take (i := 4) (v := ?v5) rfl (by kernel_rfl) (by kernel_rfl) (by kernel_rfl) (fun _ _ _ h => h) (Or.inl ⟨by rfl, ?hy5⟩) (by assumption) ?rest5
            case hy5 => (intro w hSw; (try dsimp only at hSw); go_simp; try (with_reducible rfl))
            try simp only [Act.put, List.getElem_toArray, List.getElem_cons_zero, List.getElem_cons_succ, List.setIfInBounds_toArray, List.set_cons_zero, List.set_cons_succ]
            refine wpAnyH_take (i := 5) (v := ?v6) rfl (by kernel_rfl) (by kernel_rfl) (by kernel_rfl) (fun _ _ _ h => h) (Or.inl ⟨by rfl, ?hy6⟩) (by assumption) ?rest6
            case hy6 => (intro w hSw; (try dsimp only at hSw); go_simp; try (with_reducible rfl))
            try simp only [Act.put, List.getElem_toArray, List.getElem_cons_zero, List.getElem_cons_succ, List.setIfInBounds_toArray, List.set_cons_zero, List.set_cons_succ]
            refine wpAnyH_take (i := 6) (v := ?v7) rfl (by kernel_rfl) (by kernel_rfl) (by kernel_rfl) (fun _ _ _ h => h) (Or.inl ⟨by rfl, ?hy7⟩) (by assumption) ?rest7
            case hy7 => (intro w hSw; (try dsimp only at hSw); go_simp; try (with_reducible rfl))
            try simp only [Act.put, List.getElem_toArray, List.getElem_cons_zero, List.getElem_cons_succ, List.setIfInBounds_toArray, List.set_cons_zero, List.set_cons_succ]
            refine wpAnyH_take (i := 7) (v := ?v8) rfl (by kernel_rfl) (by kernel_rfl) (by kernel_rfl) (fun _ _ _ h => h) (Or.inl ⟨by rfl, ?hy8⟩) (by assumption) ?rest8
            case hy8 => (intro w hSw; (try dsimp only at hSw); go_simp; try (with_reducible rfl))
            try simp only [Act.put, List.getElem_toArray, List.getElem_cons_zero, List.getElem_cons_succ, List.setIfInBounds_toArray, List.set_cons_zero, List.set_cons_succ]
            refine wpAnyH_take (i := 8) (v := ?v9) rfl (by kernel_rfl) (by kernel_rfl) (by kernel_rfl) (fun _ _ _ h => h) (Or.inl ⟨by rfl, ?hy9⟩) (by assumption) ?rest9
            case hy9 => (intro w hSw; (try dsimp only at hSw); go_simp; try (with_reducible rfl))
            try simp only [Act.put, List.getElem_toArray, List.getElem_cons_zero, List.getElem_cons_succ, List.setIfInBounds_toArray, List.set_cons_zero, List.set_cons_succ]
            refine wpAnyH_take (i := 9) (v := ?v10) rfl (by kernel_rfl) (by kernel_rfl) (by kernel_rfl) (fun _ _ _ h => h) (Or.inl ⟨by rfl, ?hy10⟩) (by assumption) ?rest10
            case hy10 => (intro w hSw; (try dsimp only at hSw); go_simp; try (with_reducible rfl))
            try simp only [Act.put, List.getElem_toArray, List.getElem_cons_zero, List.getElem_cons_succ, List.setIfInBounds_toArray, List.set_cons_zero, List.set_cons_succ]
            refine wpAnyH_ready (rs := [10]) (by kernel_rfl) (by simp) ?_
            refine AllReadyH.cons rfl (fun K hK => ?_) AllReadyH.nil
            go_simp
            refine hK.out _ _ (by exact ⟨cell_alloc hz2, cell_alloc u2, cell_alloc i0, cell_alloc i1, cell_alloc i2, cell_alloc i3, cell_alloc i4, cell_alloc i5, cell_alloc i6, cell_alloc i7, cell_alloc i8⟩) (fun hHeld => ?_)
            clear hK K
            try simp only [Act.put, List.setIfInBounds_toArray, List.set_cons_zero, List.set_cons_succ]
            refine wpAnyH_ready (rs := [11]) (by kernel_rfl) (by simp) ?_
            refine AllReadyH.cons rfl (fun K hK => ?_) AllReadyH.nil
            refine stepApp E28 (by decide) _ (by rfl) _ _ (by rfl) W3.heap.size kn (.slice la kn lc) _ _ (by rfl) (by rfl) (by have h := Hpz.out.ins.alloc (.cells #[.string s, .string ⟨#[112]⟩, .int .i64 0, .int .i64 0, .int .i64 0, .int .i64 0, .string ⟨#[]⟩, .string ⟨#[]⟩, .string ⟨#[]⟩] 105); rw [Hkn.out] at h; exact h) (by exact heap_alloc_new _ _) (by rfl) (by simp [Value.oneCell']) (by omega) (by decide) (by have := Hpz.out.bel.size; simp; omega) ?_
            intro g cap w5 hown5 hgr hat hlt5
            have pz := Hpz.out.below (below1 wz (.cells #[.string s, .string ⟨#[112]⟩, .int .i64 0, .int .i64 0, .int .i64 0, .int .i64 0, .string ⟨#[]⟩, .string ⟨#[]⟩, .string ⟨#[]⟩] 105))
            have hgw := grown_undrew hgr
            have pw5 := PW.add pz Hkn.out hown5 hgw hat
            have b5 := pz.bel.grown hgw pz.bel.size (fun b hb => (pz.ins.lt b hb).1)
            have q2 := pz.blk.grown hgw pz.np1
            have q2c := q2.cell 2
            have q2f := q2.free 2
            simp only [List.getElem?_toArray, List.getElem?_cons_succ, List.getElem?_cons_zero] at q2c
            obtain ⟨u5, j0, j1, j2, j3, j4, j5, j6, j7, j8⟩ := HSc.out w5 b5
            refine hK.out _ _ (by exact ⟨q2c, u5, j0, j1, j2, j3, j4, j5, j6, j7, j8⟩) (fun hHeld => ?_)
            clear hK K
            try simp only [Act.put, List.setIfInBounds_toArray]
            refine wpAnyH_take (i := 12) (v := ?v11) rfl (by kernel_rfl) (by kernel_rfl) (by kernel_rfl) (fun _ _ _ h => h) (Or.inl ⟨by rfl, ?hy11⟩) (by assumption) ?rest11
            case hy11 => (intro w hSw; (try dsimp only at hSw); go_simp; try (with_reducible rfl))
            try simp only [Act.put, List.getElem_toArray, List.getElem_cons_zero, List.getElem_cons_succ, List.setIfInBounds_toArray, List.set_cons_zero, List.set_cons_succ]
            refine wpAnyH_take (i := 13) (v := ?v12) rfl (by kernel_rfl) (by kernel_rfl) (by kernel_rfl) (fun _ _ _ h => h) (Or.inl ⟨by rfl, ?hy12⟩) (by assumption) ?rest12
            case hy12 => (intro w hSw; (try dsimp only at hSw); go_simp; try (with_reducible rfl))
            try simp only [Act.put, List.getElem_toArray, List.getElem_cons_zero, List.getElem_cons_succ, List.setIfInBounds_toArray, List.set_cons_zero, List.set_cons_succ]
            refine wpAnyH_done (by kernel_rfl) ?_ _
            simp only [Exit.then]
            clear pz b5 q2
            go_wp2_with fail
            go_roundw
            case rel =>
              have hl : (insTo (fun i => !awayB (mHolds c) gs i) ns (j + 1)).length = kn + 1 := by rw [Hin.out, List.length_append, Hkn.out]; rfl
              exact ⟨j + 1, _, cap, by omega, by go_num, by rw [hl, Hin.out]; exact pw5⟩
            case measure => simp [intOf]; omega
          · have Hin := Lib.hid (insTo_no (keep := (fun i => !awayB (mHolds c) gs i)) Hs.out (by show (!awayB (mHolds c) gs j) = false; rw [Haw.out]; rfl))
            go_wp2_with fail
            go_roundw
            case rel => exact ⟨j + 1, la, lc, by omega, by go_num, by rw [Hin.out]; exact Hpz.out⟩
            case measure => simp [intOf]; omega
    · obtain rfl : j = n1 := by omega
      have Hf := Lib.hid (show (insTo (fun i => !awayB (mHolds c) gs i) ns j).length = (insTo (fun i => !awayB (mHolds c) gs i) ns j).length from rfl)
      generalize hNS : insTo (fun i => !awayB (mHolds c) gs i) ns j = NS at *
      go_wp2_with fail
      have hpw0 : PW W3 wr P nm (.slice la NS.length lc) NS (.slice a3 n2 p3) (ovrTo (mHolds c) os ds 0) := hpw
      clear hpw Hf
      go_loopw [9, 10] (fun i _ wr => ∃ k : Nat, k ≤ n4 ∧ i = .int .i64 k ∧ PW W3 wr P nm (.slice la NS.length lc) NS (.slice a3 n2 p3) (ovrTo (mHolds c) os ds k)) (fun i _ _ => n4 - (intOf i).toNat)
      case atStart => exact ⟨0, Nat.zero_le _, rfl, hpw0⟩
      case round =>
        clear hpw0 f0 f1 f2 f3 f4 f5 f6 f7 f8 f9 fb
        obtain ⟨k, hk, rfl, hpw⟩ := hrel
        obtain ⟨f0, f1, f2, f3, f4, f5, f6, f7, f8, f9, -⟩ := blk10 (HBF.out.below hpw.bel)
        by_cases hlt2 : k < n4
        · have hbw := HK3.out.via hpw.bel HK3.out.size
          obtain ⟨b, off, lv, o, rfl, ho, g0, g1, g2, g3, g4, g5, hL⟩ := HO.out.at hbw hlt2
          have hook := Hook.out o (List.mem_of_getElem? ho)
          obtain ⟨hl1, hl2, kk, hkk, hkl⟩ := hook
          obtain ⟨v0, vc, rfl, -, -⟩ := hL.open
          rw [hkk] at g1
          obtain ⟨g, rfl⟩ := own_some hpw.dms (by rw [ovrTo_len, Hn2.out]; omega)
          have H43 := Lib.hid (fun w' (h : Below wr.heap.size wr w') => mall_any o.1 _ c w' (hL.mono h) hl1 hl2 hc hc2)
          have Hyes := Lib.hid (fun h => ovrTo_yes (app := mHolds c) (ds := ds) ho h)
          have Hno := Lib.hid (fun h => ovrTo_no (app := mHolds c) (ds := ds) ho h)
          have hput := Lib.hid (fun w' (h : Below wr.heap.size wr w') => PW.put (hpw.below h) (by rw [ovrTo_len]; exact Hn2.out) hkl o.2.2)
          rw [hkk] at Hyes
          rw [Int.toNat_natCast] at Hyes
          have hk0 : (0 : Int) ≤ (kk : Int) := Int.natCast_nonneg _
          have hk1 : (kk : Int) < (n2 : Int) := by omega
          have hk2 : (kk : Int) ≤ (p3 : Int) := by obtain ⟨_, _, hq, h1, _⟩ := own_open hpw.dms; cases hq; rw [ovrTo_len, Hn2.out] at h1; omega
          generalize hcl : mHolds c o.1 = q at *
          generalize o.1.length = ol at *
          obtain ⟨o1, o2, d0, d1, d2, d3⟩ := o
          simp only at g2 g3 g4 g5 hput hcl Hyes Hno
          have Hcl := Lib.hid hcl
          have Hpw := Lib.hid hpw
          have Pf := Lib.hid (fun w' (h : Below wr.heap.size wr w') => And.intro ((hpw.below h).blk.cell 3) (And.intro (hpw.below h).dms (hpw.below h).blk))
          clear ho hL hl1 hl2 hkk hpw hbw hcl
          cases q
          · go_wp2_with (go_at_call 43; refine (H43.out _ (below1 wr _)).mono ?_; rintro e w4 ⟨rfl, hb4⟩; have hbb := (below1 wr (.cells #[.slice v0 ol vc, .int .i64 (kk : Int), .string d0, .int .i64 d1, .int .i64 d2, .int .i64 d3] 83)).via hb4 (by simp))
            go_roundw
            case rel => exact ⟨k + 1, by omega, by go_num, by rw [Hno.out (by first | trivial | exact Hcl.out)]; exact Hpw.out.below hbb⟩
            case measure => simp [intOf]; omega
          · go_wp2_with (go_at_call 43; refine (H43.out _ (below1 wr _)).mono ?_; rintro e w4 ⟨rfl, hb4⟩; have hbb := (below1 wr (.cells #[.slice v0 ol vc, .int .i64 (kk : Int), .string d0, .int .i64 d1, .int .i64 d2, .int .i64 d3] 83)).via hb4 (by simp); have hbo := (Blk.new wr #[.slice v0 ol vc, .int .i64 (kk : Int), .string d0, .int .i64 d1, .int .i64 d2, .int .i64 d3] 83).below hb4; obtain ⟨⟨k0, k1, k2, k3, k4, k5⟩, -⟩ := blk6 hbo; obtain ⟨p3c, dm, bp⟩ := Pf.out w4 hbb; simp only [List.getElem?_toArray, List.getElem?_cons_succ, List.getElem?_cons_zero] at p3c; obtain ⟨od, ⟨m0, m1, m2, m3⟩, t0, t1, t2, t3⟩ := dim_cells dm (i := kk) hkl)
            go_roundw
            case rel => exact ⟨k + 1, by omega, by go_num, by rw [Hyes.out (by first | trivial | exact Hcl.out)]; exact hput.out w4 hbb⟩
            case measure => simp [intOf]; omega
        · obtain rfl : k = n4 := by omega
          obtain ⟨⟨x0, x1, x2, x3, x4, x5⟩, -⟩ := blk6 hpw.blk
          obtain ⟨⟨z0, z1, z2, z3, z4, z5⟩, ⟨y0, y1, y2, y3, y4, y5⟩⟩ := blk6 (HBR.out.below hpw.bel)
          have hout := hpw.out (R := w.heap.size + 1) HRW.out (.string nm) (.slice none 0 0) (.slice la NS.length lc) (.slice a3 n2 p3) (.slice none 0 0) (.slice none 0 0)
          have hz := Blk.set6 (.string nm) (.slice none 0 0) (.slice la NS.length lc) (.slice a3 n2 p3) (.slice none 0 0) (.slice none 0 0) (HBR.out.below hpw.bel)
          have hbel := below_set6 (b := w.heap.size + 1) (.string nm) (.slice none 0 0) (.slice la NS.length lc) (.slice a3 n2 p3) (.slice none 0 0) (.slice none 0 0) (HK3.out.via hpw.bel HK3.out.size) (by omega)
          have HOut := Lib.hid hout
          have HZ := Lib.hid hz
          have HBel := Lib.hid hbel
          clear hout hz hbel hpw
          go_wp2_with fail
          obtain ⟨⟨r0, r1, r2, r3, r4, r5⟩, -⟩ := blk6 HZ.out
          refine bodyPost_ret (v := .agg #[.string nm, .slice none 0 0, .slice la NS.length lc, .slice a3 n2 p3, .slice none 0 0, .slice none 0 0]) (by simp [results, Try.results36, go_sem, r0, r1, r2, r3, r4, r5]) rfl ⟨_, _, rfl, ?_, HOut.out.2, HBel.out⟩
          rw [hNS]
          exact HOut.out.1

end Go.Proofs.Ytkphggmbimjhjaa
