/-
  Names that are good.
-/
import Derived.Test.YtknpbcdmemlicaaGreatDoorVBase
namespace Go.Proofs.YtknpbcdmemlicaaGreatDoor
open Go.RowKit

set_option maxHeartbeats 400000 in
theorem pred75 (c : Int) (w : World) (h0 : 33 ≤ c) (h1 : c ≤ 126) : Calls Tryz.prog 52 #[.int .i32 c] w (fun e w' => e = .returned (.bool false) ∧ w = w') := by
  have a0 : ¬ c < 33 := by omega
  have a1 : ¬ 126 < c := by omega
  go_enter Tryz.func52, Tryz.ntmps52
  go_wp2
  go_ret
  exact ⟨rfl, rfl⟩

theorem enters75 : ∀ args w, (callFunc 52 args).run Tryz.prog w = .ok (.enter 52 args) w := enters_of Tryz.func52 (by kernel_rfl) rfl

set_option maxHeartbeats 1000000 in
theorem ixs89 (s : ByteArray) (w : World) (hg : goodS s) : Calls Tryz.prog 80 #[.string s, .func (.func 52) #[] #[], .bool true] w (Ret (.int .i64 (-1)) w) := by
  go_enter Tryz.func80, Tryz.ntmps80
  go_wp2
  have Hg := Lib.hid hg
  clear hg
  go_loopw [] (fun wr => ∃ pos : Nat, wr = w.iter s pos) (fun w' => s.size - w'.iterPos w.heap.size)
  case atStart => exact ⟨0, rfl⟩
  case round =>
    obtain ⟨pos, rfl⟩ := hrel
    by_cases hp : pos < s.size
    · obtain ⟨hb0, hb1⟩ := Hg.out pos hp
      have hnx : ∀ ty, (Instr.next (.pointer (some ⟨w.heap.size, 0, none⟩)) true ty).run Tryz.prog (w.iter s pos) = _ := fun ty => run_next_ascii w s pos ty hp (by omega)
      go_wp2_with (go_at_call 52; refine (pred75 _ _ (by omega) (by omega)).mono ?_; rintro e w' ⟨rfl, rfl⟩)
      go_roundw
      case rel => exact ⟨pos + 1, rfl⟩
      case measure => simp; omega
    · have hnx : ∀ ty, (Instr.next (.pointer (some ⟨w.heap.size, 0, none⟩)) true ty).run Tryz.prog (w.iter s pos) = _ := fun ty => run_next_end w s pos ty hp
      go_wp2
      go_ret
      exact Ret.mk (below1 w _)

set_option maxHeartbeats 400000 in
theorem ixs86 (s : ByteArray) (w : World) (hg : goodS s) : Calls Tryz.prog 64 #[.string s, .func (.func 52) #[] #[]] w (Ret (.int .i64 (-1)) w) := by
  have H := Lib.hid (ixs89 s w hg)
  clear hg
  go_enter Tryz.func64, Tryz.ntmps64
  go_wp2_with (go_at_call 80; refine (H.out).mono ?_; rintro e w' ⟨rfl, hb'⟩)
  go_ret
  exact Ret.mk hb'

set_option maxHeartbeats 400000 in
theorem cfs74 (s : ByteArray) (w : World) (hg : goodS s) : Calls Tryz.prog 51 #[.string s, .func (.func 52) #[] #[]] w (Ret (.bool false) w) := by
  have H := Lib.hid (ixs86 s w hg)
  clear hg
  go_enter Tryz.func51, Tryz.ntmps51
  go_wp2_with (go_at_call 64; refine (H.out).mono ?_; rintro e w' ⟨rfl, hb'⟩)
  go_ret
  exact Ret.mk hb'

set_option maxHeartbeats 400000 in
theorem isName_any (s : ByteArray) (w : World) (hg : nameOk s) : Calls Tryz.prog 25 #[.string s] w (Ret (.bool true) w) := by
  obtain ⟨hg, h0, h1⟩ := hg
  have H := Lib.hid (cfs74 s w hg)
  have he : s.toList.isEmpty = false := by
    rw [ByteArray.toList_eq]
    have : s.data.toList.length = s.size := rfl
    cases hl : s.data.toList with
    | nil => rw [hl] at this; simp at this; omega
    | cons a l => rfl
  have h2 : (s.size : Int) ≤ 40 := by omega
  clear hg h1
  go_enter Tryz.func25, Tryz.ntmps25
  go_wp2_with (go_at_call 51; refine (H.out).mono ?_; rintro e w' ⟨rfl, hb'⟩)
  go_ret
  exact Ret.mk hb'

end Go.Proofs.YtknpbcdmemlicaaGreatDoor
