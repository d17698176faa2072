/-
  Products: equality; Product.
-/
import Derived.Test.YtkphggmbimjhjaaPg
import Derived.BigQuiet
namespace Go.Proofs.Ytkphggmbimjhjaa
open Go.RowKit

set_option maxHeartbeats 4000000 in
set_option maxRecDepth 100000 in
theorem same35 (nm : ByteArray) (ai ad bi bd : Option Addr) (n m ci cd di dd : Nat) (ns : List ByteArray) (ds : List Dim1) (w : World)
    (hI : Insts w (.slice ai n ci) ns) (hD : Dims w (.slice ad m cd) ds) (hJ : Insts w (.slice bi n di) ns) (hE : Dims w (.slice bd m dd) ds) (hni : ns.length < 1000) (hnd : ds.length < 1000) :
    Calls Try.prog 35 #[.agg #[.string nm, .slice none 0 0, .slice ai n ci, .slice ad m cd, .slice none 0 0, .slice none 0 0], .agg #[.string nm, .slice none 0 0, .slice bi n di, .slice bd m dd, .slice none 0 0, .slice none 0 0]] w (Ret (.bool true) w) := by
  obtain ⟨_, _, hq, hi1, hi2⟩ := hI.open
  cases hq
  obtain ⟨_, _, hq, hj1, hj2⟩ := hJ.open
  cases hq
  obtain ⟨_, _, hq, hd1, hd2⟩ := hD.open
  cases hq
  obtain ⟨_, _, hq, he1, he2⟩ := hE.open
  cases hq
  unfold maxLen at hi2 hd2 hj2 he2
  have K2 := below2 w (.cells #[.string nm, .slice none 0 0, .slice ai ns.length ci, .slice ad ds.length cd, .slice none 0 0, .slice none 0 0] 35) (.cells #[.string nm, .slice none 0 0, .slice bi ns.length di, .slice bd ds.length dd, .slice none 0 0, .slice none 0 0] 35)
  have hA : Blk ((w.alloc (.cells #[.string nm, .slice none 0 0, .slice ai ns.length ci, .slice ad ds.length cd, .slice none 0 0, .slice none 0 0] 35)).alloc (.cells #[.string nm, .slice none 0 0, .slice bi ns.length di, .slice bd ds.length dd, .slice none 0 0, .slice none 0 0] 35)) w.heap.size #[.string nm, .slice none 0 0, .slice ai ns.length ci, .slice ad ds.length cd, .slice none 0 0, .slice none 0 0] 35 := (Blk.new w _ 35).old _
  have hB : Blk ((w.alloc (.cells #[.string nm, .slice none 0 0, .slice ai ns.length ci, .slice ad ds.length cd, .slice none 0 0, .slice none 0 0] 35)).alloc (.cells #[.string nm, .slice none 0 0, .slice bi ns.length di, .slice bd ds.length dd, .slice none 0 0, .slice none 0 0] 35)) (w.heap.size + 1) #[.string nm, .slice none 0 0, .slice bi ns.length di, .slice bd ds.length dd, .slice none 0 0, .slice none 0 0] 35 := by
    have h := Blk.new (w.alloc (.cells #[.string nm, .slice none 0 0, .slice ai ns.length ci, .slice ad ds.length cd, .slice none 0 0, .slice none 0 0] 35)) #[.string nm, .slice none 0 0, .slice bi ns.length di, .slice bd ds.length dd, .slice none 0 0, .slice none 0 0] 35
    simpa using h
  have HA := Lib.hid hA
  have HB := Lib.hid hB
  have HK := Lib.hid K2
  have HI := Lib.hid (hI.mono K2)
  have HJ := Lib.hid (hJ.mono K2)
  have HD := Lib.hid (hD.mono K2)
  have HE := Lib.hid (hE.mono K2)
  clear hA hB K2 hI hJ hD hE
  generalize ns.length = n at *
  generalize ds.length = m at *
  go_enter Try.func35, Try.ntmps35
  go_wp2_with fail
  generalize (w.alloc (.cells #[.string nm, .slice none 0 0, .slice ai n ci, .slice ad m cd, .slice none 0 0, .slice none 0 0] 35)).alloc (.cells #[.string nm, .slice none 0 0, .slice bi n di, .slice bd m dd, .slice none 0 0, .slice none 0 0] 35) = W at *
  go_loopw [5] (fun i wr => ∃ k : Nat, k ≤ n ∧ i = .int .i64 k ∧ Below W.heap.size W wr) (fun i _ => n - (intOf i).toNat)
  case atStart => exact ⟨0, Nat.zero_le _, rfl, Below.refl _ _⟩
  case round =>
    obtain ⟨k, hk, rfl, hbr⟩ := hrel
    obtain ⟨⟨x0, x1, x2, x3, x4, x5⟩, -⟩ := blk6 (HA.out.below hbr)
    obtain ⟨⟨y0, y1, y2, y3, y4, y5⟩, -⟩ := blk6 (HB.out.below hbr)
    by_cases hlt : k < n
    · obtain ⟨b, off, s, rfl, hs, -, s0, s1, s2, s3, s4, s5, s6, s7, s8⟩ := HI.out.at hbr hlt
      obtain ⟨b', off', s', rfl, hs', -, t0, t1, t2, t3, t4, t5, t6, t7, t8⟩ := HJ.out.at hbr hlt
      rw [hs] at hs'
      cases hs'
      have hq := fun w' => run_neq105 s ⟨#[112]⟩ w'
      clear hs
      go_wp2
      go_quiet (fail)
      go_wp2
      go_roundw
      case rel => exact ⟨k + 1, by omega, by go_num, hbr.dn _⟩
      case measure => simp [intOf]; omega
    · go_wp2_with fail
      clear x0 x1 x2 x3 x4 x5 y0 y1 y2 y3 y4 y5
      go_loopw [6] (fun i wr => ∃ k : Nat, k ≤ m ∧ i = .int .i64 k ∧ Below W.heap.size W wr) (fun i _ => m - (intOf i).toNat)
      case atStart => exact ⟨0, Nat.zero_le _, rfl, hbr⟩
      case round =>
        clear hbr
        obtain ⟨k, hk, rfl, hbr⟩ := hrel
        obtain ⟨⟨x0, x1, x2, x3, x4, x5⟩, -⟩ := blk6 (HA.out.below hbr)
        obtain ⟨⟨y0, y1, y2, y3, y4, y5⟩, -⟩ := blk6 (HB.out.below hbr)
        by_cases hlt2 : k < m
        · obtain ⟨b, off, d, rfl, hd, -, s0, s1, s2, s3⟩ := HD.out.at hbr hlt2
          obtain ⟨b', off', d', rfl, hd', -, t0, t1, t2, t3⟩ := HE.out.at hbr hlt2
          rw [hd] at hd'
          cases hd'
          obtain ⟨d0, d1, d2, d3⟩ := d
          have hq := fun w' => run_neq81 d0 d1 d2 d3 w'
          simp only at s0 s1 s2 s3 t0 t1 t2 t3
          clear hd
          go_wp2
          go_quiet (fail)
          go_wp2
          go_roundw
          case rel => exact ⟨k + 1, by omega, by go_num, hbr.dn _⟩
          case measure => simp [intOf]; omega
        · go_wp2_with fail
          go_loop [7] (fun i => i = .int .i64 0) (fun _ => 0)
          case atStart => rfl
          case round =>
            subst hrel
            go_wp2_with fail
            go_ret
            exact Ret.mk (HK.out.via hbr HK.out.size)

end Go.Proofs.Ytkphggmbimjhjaa
