/-
  Products: clone.
-/
import Derived.Test.YtkphggmbimjhjaaPd
namespace Go.Proofs.Ytkphggmbimjhjaa
open Go.RowKit

theorem own_open {w : World} {B e sz n : Nat} {v : Value} {xs : List Value} (h : w.ownsRow B e sz v n xs) : ∃ a cap, v = .slice a n cap ∧ n ≤ cap ∧ cap ≤ maxLen := by
  rcases h.2 with ⟨rfl, h0⟩ | ⟨g, cap, cur, rfl, hb, hg, hnc, hcm, hcs, htk⟩
  · exact ⟨none, 0, by rw [h0], by omega, by unfold maxLen; omega⟩
  · exact ⟨_, cap, rfl, by omega, hcm⟩

set_option maxHeartbeats 4000000 in
set_option maxRecDepth 100000 in
theorem clone70 (nm : ByteArray) (ai ad : Option Addr) (ni nd ci cd : Nat) (ns : List ByteArray) (ds : List Dim1) (w : World) (hI : Insts w (.slice ai ni ci) ns) (hD : Dims w (.slice ad nd cd) ds) (hni : ns.length < 1000) (hnd : ds.length < 1000) :
    Calls Try.prog 70 #[.agg #[.string nm, .slice none 0 0, .slice ai ni ci, .slice ad nd cd, .slice none 0 0, .slice none 0 0]] w
      (fun e w' => ∃ ai' ad' ci' cd', e = .returned (.agg #[.string nm, .slice none 0 0, .slice ai' ns.length ci', .slice ad' ds.length cd', .slice none 0 0, .slice none 0 0]) ∧ w'.ownsRow (w.heap.size + 2) 81 4 (.slice ad' ds.length cd') ds.length (ds.map dimC).flatten ∧ Below w.heap.size w w') := by
  have H79 := Lib.hid (fun w' (h : Below w.heap.size w w') => clone79 (ns.map instC) _ w' (hI.mono h) inst_len inst_one (by simpa using hni))
  have H80 := Lib.hid (fun w' (h : Below w.heap.size w w') => clone80 (ds.map dimC) _ w' (hD.mono h) dim_len dim_one (by simpa using hnd))
  simp only [List.length_map] at H79 H80
  have B0 := Lib.hid ((Blk.new w #[.string nm, .slice none 0 0, .slice ai ni ci, .slice ad nd cd, .slice none 0 0, .slice none 0 0] 35).old (.cells #[.string ⟨#[]⟩, .slice none 0 0, .slice none 0 0, .slice none 0 0, .slice none 0 0, .slice none 0 0] 35))
  have R0 : Blk ((w.alloc (.cells #[.string nm, .slice none 0 0, .slice ai ni ci, .slice ad nd cd, .slice none 0 0, .slice none 0 0] 35)).alloc (.cells #[.string ⟨#[]⟩, .slice none 0 0, .slice none 0 0, .slice none 0 0, .slice none 0 0, .slice none 0 0] 35)) (w.heap.size + 1) #[.string ⟨#[]⟩, .slice none 0 0, .slice none 0 0, .slice none 0 0, .slice none 0 0, .slice none 0 0] 35 := by
    have h := Blk.new (w.alloc (.cells #[.string nm, .slice none 0 0, .slice ai ni ci, .slice ad nd cd, .slice none 0 0, .slice none 0 0] 35)) #[.string ⟨#[]⟩, .slice none 0 0, .slice none 0 0, .slice none 0 0, .slice none 0 0, .slice none 0 0] 35
    simpa using h
  have RH := Lib.hid R0
  have K0 := Lib.hid (below2 w (.cells #[.string nm, .slice none 0 0, .slice ai ni ci, .slice ad nd cd, .slice none 0 0, .slice none 0 0] 35) (.cells #[.string ⟨#[]⟩, .slice none 0 0, .slice none 0 0, .slice none 0 0, .slice none 0 0, .slice none 0 0] 35))
  have hsz : ((w.alloc (.cells #[.string nm, .slice none 0 0, .slice ai ni ci, .slice ad nd cd, .slice none 0 0, .slice none 0 0] 35)).alloc (.cells #[.string ⟨#[]⟩, .slice none 0 0, .slice none 0 0, .slice none 0 0, .slice none 0 0, .slice none 0 0] 35)).heap.size = w.heap.size + 2 := by simp
  have Hsz := Lib.hid hsz
  clear hI hD R0 hsz
  generalize ns.length = n1 at *
  generalize ds.length = n2 at *
  go_enter Try.func70, Try.ntmps70
  go_wp2_with (go_at_call 76; refine (cloneNil76 _).mono ?_; rintro e w1 ⟨rfl, hb1⟩; have B1 := (B0.out).below hb1; have R1 := (RH.out).below hb1; have K1 := (K0.out).via hb1 (K0.out).size; obtain ⟨⟨x10, x11, x12, x13, x14, x15⟩, ⟨y10, y11, y12, y13, y14, y15⟩⟩ := blk6 B1; have BB1 : Blk (w1.setCell ⟨w.heap.size, 1, none⟩ (.slice none 0 0)) w.heap.size #[.string nm, .slice none 0 0, .slice ai ni ci, .slice ad nd cd, .slice none 0 0, .slice none 0 0] 35 := (by have h := B1.set 1 (.slice none 0 0); simpa using h); have RR1 := R1.other (p := ⟨w.heap.size, 1, none⟩) (by simp) (.slice none 0 0); have KK1 := K1.setCell (p := ⟨w.heap.size, 1, none⟩) (Nat.le_refl _) (.slice none 0 0))
  go_loop [21] (fun i => i = .int .i64 0) (fun _ => 0)
  case atStart => rfl
  case round =>
    subst hrel
    go_wp2_with (first
      | (go_at_call 79; refine (H79.out _ (by exact KK1)).mono ?_; rintro e w2 ⟨v2, rfl, hown2, hb2⟩; obtain ⟨a2, p2, rfl, -, -⟩ := own_open hown2; have B2 := (BB1).below hb2; have R2 := (RR1).below hb2; have K2 := (KK1).via hb2 (KK1).size; obtain ⟨⟨x20, x21, x22, x23, x24, x25⟩, ⟨y20, y21, y22, y23, y24, y25⟩⟩ := blk6 B2; have BB2 : Blk (w2.setCell ⟨w.heap.size, 2, none⟩ (.slice a2 n1 p2)) w.heap.size #[.string nm, .slice none 0 0, .slice a2 n1 p2, .slice ad nd cd, .slice none 0 0, .slice none 0 0] 35 := (by have h := B2.set 2 (.slice a2 n1 p2); simpa using h); have RR2 := R2.other (p := ⟨w.heap.size, 2, none⟩) (by simp) (.slice a2 n1 p2); have KK2 := K2.setCell (p := ⟨w.heap.size, 2, none⟩) (Nat.le_refl _) (.slice a2 n1 p2))
      | (go_at_call 80; refine (H80.out _ (by exact KK2)).mono ?_; rintro e w3 ⟨v3, rfl, hown3, hb3⟩; obtain ⟨a3, p3, rfl, -, -⟩ := own_open hown3; have B3 := (BB2).below hb3; have R3 := (RR2).below hb3; have K3 := (KK2).via hb3 (KK2).size; obtain ⟨⟨x30, x31, x32, x33, x34, x35⟩, ⟨y30, y31, y32, y33, y34, y35⟩⟩ := blk6 B3; have BB3 : Blk (w3.setCell ⟨w.heap.size, 3, none⟩ (.slice a3 n2 p3)) w.heap.size #[.string nm, .slice none 0 0, .slice a2 n1 p2, .slice a3 n2 p3, .slice none 0 0, .slice none 0 0] 35 := (by have h := B3.set 3 (.slice a3 n2 p3); simpa using h); have RR3 := R3.other (p := ⟨w.heap.size, 3, none⟩) (by simp) (.slice a3 n2 p3); have KK3 := K3.setCell (p := ⟨w.heap.size, 3, none⟩) (Nat.le_refl _) (.slice a3 n2 p3))
      | (go_at_call 81; refine (cloneNil81 _).mono ?_; rintro e w4 ⟨rfl, hb4⟩; have B4 := (BB3).below hb4; have R4 := (RR3).below hb4; have K4 := (KK3).via hb4 (KK3).size; obtain ⟨⟨x40, x41, x42, x43, x44, x45⟩, ⟨y40, y41, y42, y43, y44, y45⟩⟩ := blk6 B4; have BB4 : Blk (w4.setCell ⟨w.heap.size, 4, none⟩ (.slice none 0 0)) w.heap.size #[.string nm, .slice none 0 0, .slice a2 n1 p2, .slice a3 n2 p3, .slice none 0 0, .slice none 0 0] 35 := (by have h := B4.set 4 (.slice none 0 0); simpa using h); have RR4 := R4.other (p := ⟨w.heap.size, 4, none⟩) (by simp) (.slice none 0 0); have KK4 := K4.setCell (p := ⟨w.heap.size, 4, none⟩) (Nat.le_refl _) (.slice none 0 0)))
    go_loop [71] (fun i => i = .int .i64 0) (fun _ => 0)
    case atStart => rfl
    case round =>
      subst hrel
      go_wp2_with (go_at_call 83; refine (cloneNil83 _).mono ?_; rintro e w5 ⟨rfl, hb5⟩; have B5 := (BB4).below hb5; have R5 := (RR4).below hb5; have K5 := (KK4).via hb5 (KK4).size; obtain ⟨⟨x50, x51, x52, x53, x54, x55⟩, ⟨y50, y51, y52, y53, y54, y55⟩⟩ := blk6 B5; have BB5 : Blk (w5.setCell ⟨w.heap.size, 5, none⟩ (.slice none 0 0)) w.heap.size #[.string nm, .slice none 0 0, .slice a2 n1 p2, .slice a3 n2 p3, .slice none 0 0, .slice none 0 0] 35 := (by have h := B5.set 5 (.slice none 0 0); simpa using h); have RR5 := R5.other (p := ⟨w.heap.size, 5, none⟩) (by simp) (.slice none 0 0); have KK5 := K5.setCell (p := ⟨w.heap.size, 5, none⟩) (Nat.le_refl _) (.slice none 0 0))
      go_loop [92] (fun i => i = .int .i64 0) (fun _ => 0)
      case atStart => rfl
      case round =>
        subst hrel
        obtain ⟨⟨z0, z1, z2, z3, z4, z5⟩, ⟨g0, g1, g2, g3, g4, g5⟩⟩ := blk6 RR5
        obtain ⟨⟨s0, s1, s2, s3, s4, s5⟩, -⟩ := blk6 BB5
        have hz := Blk.set6 (.string nm) (.slice none 0 0) (.slice a2 n1 p2) (.slice a3 n2 p3) (.slice none 0 0) (.slice none 0 0) RR5
        have hbel := below_set6 (b := w.heap.size + 1) (.string nm) (.slice none 0 0) (.slice a2 n1 p2) (.slice a3 n2 p3) (.slice none 0 0) (.slice none 0 0) KK5 (by omega)
        have hs2 : w.heap.size + 2 ≤ (w2.setCell ⟨w.heap.size, 2, none⟩ (.slice a2 n1 p2)).heap.size := by
          have h1 := hb1.size
          have h2 := hb2.size
          simp [World.setCell] at h1 h2 ⊢
          omega
        have o3 := own_base hown3 hs2
        have o4 := own_below (ownsRow_setCell_below o3 (a := ⟨w.heap.size, 3, none⟩) (show w.heap.size < w.heap.size + 2 by omega) (.slice a3 n2 p3)) hb4
        have o5 := own_below (ownsRow_setCell_below o4 (a := ⟨w.heap.size, 4, none⟩) (show w.heap.size < w.heap.size + 2 by omega) (.slice none 0 0)) hb5
        have o6 := ownsRow_setCell_below o5 (a := ⟨w.heap.size, 5, none⟩) (show w.heap.size < w.heap.size + 2 by omega) (.slice none 0 0)
        have o7 := ownsRow_setCell_below o6 (a := ⟨w.heap.size + 1, 0, none⟩) (show w.heap.size + 1 < w.heap.size + 2 by omega) (.string nm)
        have o8 := ownsRow_setCell_below o7 (a := ⟨w.heap.size + 1, 1, none⟩) (show w.heap.size + 1 < w.heap.size + 2 by omega) (.slice none 0 0)
        have o9 := ownsRow_setCell_below o8 (a := ⟨w.heap.size + 1, 2, none⟩) (show w.heap.size + 1 < w.heap.size + 2 by omega) (.slice a2 n1 p2)
        have o10 := ownsRow_setCell_below o9 (a := ⟨w.heap.size + 1, 3, none⟩) (show w.heap.size + 1 < w.heap.size + 2 by omega) (.slice a3 n2 p3)
        have o11 := ownsRow_setCell_below o10 (a := ⟨w.heap.size + 1, 4, none⟩) (show w.heap.size + 1 < w.heap.size + 2 by omega) (.slice none 0 0)
        have o12 := ownsRow_setCell_below o11 (a := ⟨w.heap.size + 1, 5, none⟩) (show w.heap.size + 1 < w.heap.size + 2 by omega) (.slice none 0 0)
        have O := Lib.hid o12
        have HZ := Lib.hid hz
        have HB := Lib.hid hbel
        clear o3 o4 o5 o6 o7 o8 o9 o10 o11 o12 hz hbel hown2 hown3
        go_wp2_with fail
        obtain ⟨⟨r0, r1, r2, r3, r4, r5⟩, -⟩ := blk6 HZ.out
        exact bodyPost_ret (v := .agg #[.string nm, .slice none 0 0, .slice a2 n1 p2, .slice a3 n2 p3, .slice none 0 0, .slice none 0 0]) (by simp [results, Try.results70, go_sem, r0, r1, r2, r3, r4, r5]) rfl ⟨a2, a3, p2, p3, rfl, O.out, HB.out⟩

end Go.Proofs.Ytkphggmbimjhjaa
