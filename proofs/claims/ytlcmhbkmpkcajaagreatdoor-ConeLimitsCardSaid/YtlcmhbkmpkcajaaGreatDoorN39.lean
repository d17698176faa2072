/-
  Parts of the proof: Qkn, Qkw, Qlw.
-/
import Derived.Test.YtlcmhbkmpkcajaaGreatDoorN38
namespace Go.Proofs.YtlcmhbkmpkcajaaGreatDoor
open Go.RowKit
def kA : Con := ⟨3, [[1, -1, 0], [0, 0, 1]], [[0, -1, 0]]⟩
def kB : Con := ⟨2, [], [[1, 0], [1, 3]]⟩
def kD : Con := ⟨2, [], [[-3, 1], [0, -1]]⟩
set_option maxRecDepth 100000 in
theorem kn_fit : (∀ a ∈ ([[1, 1, 0]] : List Vec), FitV 3 a) ∧ (∀ a ∈ ([[1, 0], [2, 2], [1, 3]] : List Vec), FitV 2 a) ∧ (∀ a ∈ kB.rays, FitV 2 a) ∧ FitV 2 [0, 1] ∧ FitV 2 [-3, 1] := by decide +kernel
set_option maxRecDepth 100000 in
theorem kn_ref : refutesV kD [0, 1] = some [-3, 1] := by decide +kernel
theorem kn_a (v : Value) (w : World) (hv : TVs w v [[1, 1, 0]]) (hT : Tab w) :
    Calls Tryz.prog 6 #[.int .i64 3, v] w (RetP (fun x w' => ∃ la lc ra rc, x = .tuple #[.agg #[.int .i64 3, .slice la 2 lc, .slice ra 1 rc], .int .i64 0] ∧ CV w' (.agg #[.int .i64 3, .slice la 2 lc, .slice ra 1 rc]) kA) w) := by
  have h := rows_ok 3 [[1, 1, 0]] v w hv (by decide) (by decide) (by decide) kn_fit.1 known_a.2 known_n.1 hT
  refine h.mono ?_
  rintro e w' ⟨x, rfl, ⟨cv, rfl, hc⟩, hb⟩
  rw [known_a.1] at hc
  obtain ⟨la, lc, ra, rc, rfl, -, -⟩ := hc.open
  exact ⟨_, rfl, ⟨la, lc, ra, rc, rfl, hc⟩, hb⟩
theorem kn_gen : generatedC 2 [] [[1, 0], [2, 2], [1, 3]] = kB := by
  show boundedC 2 (boundedC 2 [] [[1, 0], [2, 2], [1, 3]]).lines (boundedC 2 [] [[1, 0], [2, 2], [1, 3]]).rays = _
  rw [known_b.1]
  exact known_c.1
theorem kn_b (v : Value) (w : World) (hv : TVs w v [[1, 0], [2, 2], [1, 3]]) (hT : Tab w) :
    Calls Tryz.prog 5 #[.int .i64 2, .slice none 0 0, v] w (RetP (fun x w' => ∃ la lc ra rc, x = .tuple #[.agg #[.int .i64 2, .slice la 0 lc, .slice ra 2 rc], .int .i64 0] ∧ CV w' (.agg #[.int .i64 2, .slice la 0 lc, .slice ra 2 rc]) kB) w) := by
  have h := gen_ok 2 [] [[1, 0], [2, 2], [1, 3]] (.slice none 0 0) v w ⟨[], rfl, Sl.nil w 1, AT.nil w _ _ _, fun k p a hp => by simp at hp⟩ hv (by decide) (by decide) (by decide) (by decide) (fun a ha => by cases ha) kn_fit.2.1 known_b.2 known_n.2.1 (by rw [known_b.1]; exact known_c.2) (by rw [known_b.1]; exact known_n.2.2.1) hT
  refine h.mono ?_
  rintro e w' ⟨x, rfl, ⟨cv, rfl, hc⟩, hb⟩
  rw [kn_gen] at hc
  obtain ⟨la, lc, ra, rc, rfl, -, -⟩ := hc.open
  exact ⟨_, rfl, ⟨la, lc, ra, rc, rfl, hc⟩, hb⟩
theorem kn_r (v xv : Value) (w : World) (h : CV w v kB) (hx : TV w xv [0, 1]) (hT : Tab w) :
    Calls Tryz.prog 8 #[v, xv] w (RetP (fun y w' => ∃ ta tc, y = .tuple #[.slice ta 2 tc, .bool true, .int .i64 0] ∧ TV w' (.slice ta 2 tc) [-3, 1]) w) := by
  have h := refute_g 2 kB v xv [0, 1] w h hx kn_fit.2.2.2.1 rfl (by decide) (by decide) (by decide) (by decide) (fun a ha => by cases ha) kn_fit.2.2.1 known_d.2 known_n.2.2.2 kD known_d.1 known_c.2 known_n.2.2.1 known_c.1 hT [-3, 1] kn_ref kn_fit.2.2.2.2
  refine h.mono ?_
  rintro e w' ⟨x, rfl, ⟨t, rfl, hc⟩, hb⟩
  obtain ⟨ta, tc, rfl, -, -⟩ := hc.open
  exact ⟨_, rfl, ⟨ta, tc, rfl, hc⟩, hb⟩
theorem kn_sa (v lu ru : Value) (w : World) (h : CV w v kA) (hu : SVs w lu kA.lines) (hv : SVs w ru kA.rays) : Calls Tryz.prog 9 #[v, .agg #[.int .i64 3, lu, ru]] w (Ret (.bool true) w) :=
  same_same v lu ru kA w h hu hv (by decide) (by decide)
theorem kn_sb (v lu ru : Value) (w : World) (h : CV w v kB) (hu : SVs w lu kB.lines) (hv : SVs w ru kB.rays) : Calls Tryz.prog 9 #[v, .agg #[.int .i64 2, lu, ru]] w (Ret (.bool true) w) :=
  same_same v lu ru kB w h hu hv (by decide) (by decide)
theorem kn_sv (u v : Value) (w : World) (h : Strs w u (([-3, 1] : List Rat).map numS)) (h' : TV w v [-3, 1]) : Calls Tryz.prog 10 #[u, v] w (Ret (.bool true) w) :=
  svec_same u v [-3, 1] 2 w h h' rfl (by decide)
theorem size1 (w : World) (o : Obj) {n : Nat} (h : w.heap.size = n) : (w.alloc o).heap.size = n + 1 := by simp [h]
theorem Blk.newAt {w : World} {n : Nat} (h : w.heap.size = n) (cs : Array Value) (T : TypeId) : Blk (w.alloc (.cells cs T)) n cs T := h ▸ Blk.new w cs T
theorem strs_new {w : World} {n : Nat} (h : w.heap.size = n) (T : TypeId) {cs : Array Value} {m : Nat} {rs : List Rat} (hcs : cs = ((rs.map numS).map Value.string).toArray) (hm : rs.length = m) (hm2 : m ≤ 1000) : Strs (w.alloc (.cells cs T)) (.slice (some ⟨n, 0, none⟩) m m) (rs.map numS) ∧ AT (w.alloc (.cells cs T)) T (.slice (some ⟨n, 0, none⟩) m m) := by
  have hl : ((rs.map numS).map Value.string).length = m := by simp [hm]
  have h1 := Sl.lit (Blk.newAt h cs T) hcs (by omega)
  rw [hl] at h1
  exact h1
theorem svs2 {w : World} {b : Nat} {T : TypeId} {p q : Value} {a c : Vec} (h : Blk w b #[p, q] T) (hp : Strs w p (a.map numS)) (hq : Strs w q (c.map numS)) : SVs w (.slice (some ⟨b, 0, none⟩) 2 2) [a, c] := by
  obtain ⟨h1, -⟩ := Sl.lit (xs := [p, q]) h rfl (by simp)
  refine ⟨[p, q], rfl, h1, fun k p' a' h3 h4 => ?_⟩
  match k, h3, h4 with
  | 0, h3, h4 => cases h3; cases h4; exact hp
  | 1, h3, h4 => cases h3; cases h4; exact hq
  | k + 2, h3, h4 => simp at h3
theorem svs1 {w : World} {b : Nat} {T : TypeId} {p : Value} {a : Vec} (h : Blk w b #[p] T) (hp : Strs w p (a.map numS)) : SVs w (.slice (some ⟨b, 0, none⟩) 1 1) [a] := by
  obtain ⟨h1, -⟩ := Sl.lit (xs := [p]) h rfl (by simp)
  refine ⟨[p], rfl, h1, fun k p' a' h3 h4 => ?_⟩
  match k, h3, h4 with
  | 0, h3, h4 => cases h3; cases h4; exact hp
  | k + 1, h3, h4 => simp at h3
theorem tvs3 {w : World} {b : Nat} {p q r : Value} {a c d : Vec} (h : Blk w b #[p, q, r] 23) (hp : TV w p a) (hq : TV w q c) (hr : TV w r d) : TVs w (.slice (some ⟨b, 0, none⟩) 3 3) [a, c, d] := by
  obtain ⟨h1, h2⟩ := Sl.lit (xs := [p, q, r]) h rfl (by simp)
  refine ⟨[p, q, r], rfl, h1, h2, fun k p' a' h3 h4 => ?_⟩
  match k, h3, h4 with
  | 0, h3, h4 => cases h3; cases h4; exact hp
  | 1, h3, h4 => cases h3; cases h4; exact hq
  | 2, h3, h4 => cases h3; cases h4; exact hr
  | k + 3, h3, h4 => simp at h3
set_option maxRecDepth 100000 in
theorem kn_txt : numS 0 = ⟨#[48]⟩ ∧ numS 1 = ⟨#[49]⟩ ∧ numS 2 = ⟨#[50]⟩ ∧ numS 3 = ⟨#[51]⟩ ∧ numS (-1) = ⟨#[45, 49]⟩ ∧ numS (-3) = ⟨#[45, 51]⟩ := by decide +kernel
end Go.Proofs.YtlcmhbkmpkcajaaGreatDoor
namespace Go.Proofs.YtlcmhbkmpkcajaaGreatDoor
open Go.RowKit
theorem kn_row3 {w : World} {n : Nat} (h : w.heap.size = n) :
    TVs ((w.alloc (.cells #[.string ⟨#[49]⟩, .string ⟨#[49]⟩, .string ⟨#[48]⟩] 24)).alloc (.cells #[.slice (some ⟨n, 0, none⟩) 3 3] 23)) (.slice (some ⟨n + 1, 0, none⟩) 1 1) [[1, 1, 0]] := by
  have h1 := strs_new h 24 (cs := #[.string ⟨#[49]⟩, .string ⟨#[49]⟩, .string ⟨#[48]⟩]) (rs := [1, 1, 0]) (m := 3) (by simp only [List.map, kn_txt]) rfl (by decide)
  exact TVs.one (Blk.newAt (size1 _ _ h) _ _) (show TV _ _ _ from ⟨h1.1.mono (below1 _ _), h1.2.keep (ok := fun _ => True) (.below (below1 _ _)) trivial⟩)
theorem tv_new {w : World} {n : Nat} (h : w.heap.size = n) {cs : Array Value} {m : Nat} {rs : List Rat} (hcs : cs = ((rs.map numS).map Value.string).toArray) (hm : rs.length = m) (hm2 : m ≤ 1000) : TV (w.alloc (.cells cs 24)) (.slice (some ⟨n, 0, none⟩) m m) rs := strs_new h _ hcs hm hm2
theorem kn_row2 {w : World} {n : Nat} (h : w.heap.size = n) :
    TVs ((((w.alloc (.cells #[.string ⟨#[49]⟩, .string ⟨#[48]⟩] 24)).alloc (.cells #[.string ⟨#[50]⟩, .string ⟨#[50]⟩] 24)).alloc (.cells #[.string ⟨#[49]⟩, .string ⟨#[51]⟩] 24)).alloc (.cells #[.slice (some ⟨n, 0, none⟩) 2 2, .slice (some ⟨n + 1, 0, none⟩) 2 2, .slice (some ⟨n + 2, 0, none⟩) 2 2] 23)) (.slice (some ⟨n + 3, 0, none⟩) 3 3) [[1, 0], [2, 2], [1, 3]] := by
  have s1 := size1 w (.cells #[.string ⟨#[49]⟩, .string ⟨#[48]⟩] 24) h
  have s2 := size1 _ (.cells #[.string ⟨#[50]⟩, .string ⟨#[50]⟩] 24) s1
  have s3 := size1 _ (.cells #[.string ⟨#[49]⟩, .string ⟨#[51]⟩] 24) s2
  have h1 := tv_new h (cs := #[.string ⟨#[49]⟩, .string ⟨#[48]⟩]) (rs := [1, 0]) (m := 2) (by simp only [List.map, kn_txt]) rfl (by decide)
  have h2 := tv_new s1 (cs := #[.string ⟨#[50]⟩, .string ⟨#[50]⟩]) (rs := [2, 2]) (m := 2) (by simp only [List.map, kn_txt]) rfl (by decide)
  have h3 := tv_new s2 (cs := #[.string ⟨#[49]⟩, .string ⟨#[51]⟩]) (rs := [1, 3]) (m := 2) (by simp only [List.map, kn_txt]) rfl (by decide)
  exact tvs3 (Blk.newAt s3 _ _) (h1.mono (below3 _ _ _ _)) (h2.mono (below2 _ _ _)) (h3.mono (below1 _ _))
theorem kn_lit {w : World} {n : Nat} (h : w.heap.size = n) : TV (w.alloc (.cells #[.string ⟨#[48]⟩, .string ⟨#[49]⟩] 24)) (.slice (some ⟨n, 0, none⟩) 2 2) [0, 1] :=
  tv_new h (rs := [0, 1]) (m := 2) (by simp only [List.map, kn_txt]) rfl (by decide)
theorem kn_ra {w : World} {n : Nat} (h : w.heap.size = n) :
    SVs (((((w.alloc (.cells #[.string ⟨#[49]⟩, .string ⟨#[45, 49]⟩, .string ⟨#[48]⟩] 9)).alloc (.cells #[.string ⟨#[48]⟩, .string ⟨#[48]⟩, .string ⟨#[49]⟩] 9)).alloc (.cells #[.slice (some ⟨n, 0, none⟩) 3 3, .slice (some ⟨n + 1, 0, none⟩) 3 3] 37)).alloc (.cells #[.string ⟨#[48]⟩, .string ⟨#[45, 49]⟩, .string ⟨#[48]⟩] 9)).alloc (.cells #[.slice (some ⟨n + 3, 0, none⟩) 3 3] 37)) (.slice (some ⟨n + 2, 0, none⟩) 2 2) kA.lines ∧
    SVs (((((w.alloc (.cells #[.string ⟨#[49]⟩, .string ⟨#[45, 49]⟩, .string ⟨#[48]⟩] 9)).alloc (.cells #[.string ⟨#[48]⟩, .string ⟨#[48]⟩, .string ⟨#[49]⟩] 9)).alloc (.cells #[.slice (some ⟨n, 0, none⟩) 3 3, .slice (some ⟨n + 1, 0, none⟩) 3 3] 37)).alloc (.cells #[.string ⟨#[48]⟩, .string ⟨#[45, 49]⟩, .string ⟨#[48]⟩] 9)).alloc (.cells #[.slice (some ⟨n + 3, 0, none⟩) 3 3] 37)) (.slice (some ⟨n + 4, 0, none⟩) 1 1) kA.rays := by
  have s1 := size1 w (.cells #[.string ⟨#[49]⟩, .string ⟨#[45, 49]⟩, .string ⟨#[48]⟩] 9) h
  have s2 := size1 _ (.cells #[.string ⟨#[48]⟩, .string ⟨#[48]⟩, .string ⟨#[49]⟩] 9) s1
  have s3 := size1 _ (.cells #[.slice (some ⟨n, 0, none⟩) 3 3, .slice (some ⟨n + 1, 0, none⟩) 3 3] 37) s2
  have s4 := size1 _ (.cells #[.string ⟨#[48]⟩, .string ⟨#[45, 49]⟩, .string ⟨#[48]⟩] 9) s3
  have h1 := (strs_new h 9 (cs := #[.string ⟨#[49]⟩, .string ⟨#[45, 49]⟩, .string ⟨#[48]⟩]) (rs := [1, -1, 0]) (m := 3) (by simp only [List.map, kn_txt]) rfl (by decide)).1
  have h2 := (strs_new s1 9 (cs := #[.string ⟨#[48]⟩, .string ⟨#[48]⟩, .string ⟨#[49]⟩]) (rs := [0, 0, 1]) (m := 3) (by simp only [List.map, kn_txt]) rfl (by decide)).1
  have h4 := (strs_new s3 9 (cs := #[.string ⟨#[48]⟩, .string ⟨#[45, 49]⟩, .string ⟨#[48]⟩]) (rs := [0, -1, 0]) (m := 3) (by simp only [List.map, kn_txt]) rfl (by decide)).1
  exact ⟨(svs2 (Blk.newAt s2 _ _) (h1.mono (below2 _ _ _)) (h2.mono (below1 _ _))).mono (below2 _ _ _), svs1 (Blk.newAt s4 _ _) (h4.mono (below1 _ _))⟩
theorem kn_rb {w : World} {n : Nat} (h : w.heap.size = n) :
    SVs (((w.alloc (.cells #[.string ⟨#[49]⟩, .string ⟨#[48]⟩] 9)).alloc (.cells #[.string ⟨#[49]⟩, .string ⟨#[51]⟩] 9)).alloc (.cells #[.slice (some ⟨n, 0, none⟩) 2 2, .slice (some ⟨n + 1, 0, none⟩) 2 2] 37)) (.slice (some ⟨n + 2, 0, none⟩) 2 2) kB.rays := by
  have s1 := size1 w (.cells #[.string ⟨#[49]⟩, .string ⟨#[48]⟩] 9) h
  have s2 := size1 _ (.cells #[.string ⟨#[49]⟩, .string ⟨#[51]⟩] 9) s1
  have h1 := (strs_new h 9 (cs := #[.string ⟨#[49]⟩, .string ⟨#[48]⟩]) (rs := [1, 0]) (m := 2) (by simp only [List.map, kn_txt]) rfl (by decide)).1
  have h2 := (strs_new s1 9 (cs := #[.string ⟨#[49]⟩, .string ⟨#[51]⟩]) (rs := [1, 3]) (m := 2) (by simp only [List.map, kn_txt]) rfl (by decide)).1
  exact svs2 (Blk.newAt s2 _ _) (h1.mono (below2 _ _ _)) (h2.mono (below1 _ _))
theorem kn_lx {w : World} {n : Nat} (h : w.heap.size = n) : Strs (w.alloc (.cells #[.string ⟨#[45, 51]⟩, .string ⟨#[49]⟩] 9)) (.slice (some ⟨n, 0, none⟩) 2 2) (([-3, 1] : List Rat).map numS) :=
  (strs_new h _ (rs := [-3, 1]) (m := 2) (by simp only [List.map, kn_txt]) rfl (by decide)).1
theorem SVs.nil (w : World) : SVs w (.slice none 0 0) [] := ⟨[], rfl, Sl.nil w 1, fun k p a hp => by simp at hp⟩
set_option maxHeartbeats 8000000 in
set_option maxRecDepth 10000 in
theorem known_g (w : World) (hT : Tab w) : Calls Tryz.prog 4 #[] w (Ret (.bool true) w) := by
  have HTb := hI hT
  have H1 := hI (kn_row3 (w := w) rfl)
  have HA1 := hI (below2 w (.cells #[.string ⟨#[49]⟩, .string ⟨#[49]⟩, .string ⟨#[48]⟩] 24) (.cells #[.slice (some ⟨w.heap.size, 0, none⟩) 3 3] 23))
  clear hT
  go_enter Tryz.func4, Tryz.ntmps4
  go_upto_region 2 with (go_at_call 6; refine (kn_a _ _ H1.out (HTb.out.mono HA1.out)).mono ?_; rintro e5 w1 ⟨v1, rfl, ⟨la, lc, ra, rc, rfl, hv1⟩, hb1⟩; have Hv1 := hI hv1; have Hb1 := hI (bw_via HA1.out hb1); clear hv1 hb1)
  have hA := below1 w1 (.cells #[.int .i64 3, .slice la 2 lc, .slice ra 1 rc] 27)
  have HB2 := hI (Blk.new w1 #[.int .i64 3, .slice la 2 lc, .slice ra 1 rc] 27)
  have Hv2 := hI (Hv1.out.mono hA)
  have Hb2 := hI (bw_via Hb1.out hA)
  clear hA
  generalize w1.alloc (.cells #[.int .i64 3, .slice la 2 lc, .slice ra 1 rc] 27) = w2 at *
  generalize w1.heap.size = D2 at *
  have H2 := hI (kn_row2 (w := w2) rfl)
  have HA2 := hI ((below3 w2 (.cells #[.string ⟨#[49]⟩, .string ⟨#[48]⟩] 24) (.cells #[.string ⟨#[50]⟩, .string ⟨#[50]⟩] 24) (.cells #[.string ⟨#[49]⟩, .string ⟨#[51]⟩] 24)).alloc (by simp; omega) (.cells #[.slice (some ⟨w2.heap.size, 0, none⟩) 2 2, .slice (some ⟨w2.heap.size + 1, 0, none⟩) 2 2, .slice (some ⟨w2.heap.size + 2, 0, none⟩) 2 2] 23))
  go_upto_region 3 with (go_at_call 5; refine (kn_b _ _ H2.out (HTb.out.mono (bw_via Hb2.out HA2.out))).mono ?_; rintro e5 w3 ⟨v3, rfl, ⟨xa, xc, za, zc, rfl, hv3⟩, hb3⟩; have Hv3 := hI hv3; have hb3' := bw_via HA2.out hb3; have HB3 := hI (HB2.out.below hb3'); have Hv23 := hI (Hv2.out.mono hb3'); have Hb3 := hI (bw_via Hb2.out hb3'); clear hv3 hb3 hb3')
  have hA := below1 w3 (.cells #[.int .i64 2, .slice xa 0 xc, .slice za 2 zc] 27)
  have HB4 := hI (HB3.out.below hA)
  have HC4 := hI (Blk.new w3 #[.int .i64 2, .slice xa 0 xc, .slice za 2 zc] 27)
  have Hv24 := hI (Hv23.out.mono hA)
  have Hv4 := hI (Hv3.out.mono hA)
  have Hb4 := hI (bw_via Hb3.out hA)
  clear hA
  generalize w3.alloc (.cells #[.int .i64 2, .slice xa 0 xc, .slice za 2 zc] 27) = w4 at *
  generalize w3.heap.size = D4 at *
  obtain ⟨⟨b0, b1, b2⟩, -⟩ := blk3c HC4.out
  have H3 := hI (kn_lit (w := w4) rfl)
  have HA3 := hI (below1 w4 (.cells #[.string ⟨#[48]⟩, .string ⟨#[49]⟩] 24))
  go_upto_region 4 with (go_at_call 8; refine (kn_r _ _ _ (Hv4.out.mono HA3.out) H3.out (HTb.out.mono (bw_via Hb4.out HA3.out))).mono ?_; rintro e5 w5 ⟨v5, rfl, ⟨ta, tc, rfl, hv5⟩, hb5⟩; have hb5' := bw_via HA3.out hb5; have Hx5 := hI hv5; have HB5 := hI (HB4.out.below hb5'); have HC5 := hI (HC4.out.below hb5'); have Hv25 := hI (Hv24.out.mono hb5'); have Hv5 := hI (Hv4.out.mono hb5'); have Hb5 := hI (bw_via Hb4.out hb5'); clear hv5 hb5 hb5' b0 b1 b2)
  obtain ⟨⟨a0, a1, a2⟩, -⟩ := blk3c HB5.out
  have H6 := hI (kn_ra (w := w5) rfl)
  have HA6 := hI (((below3 w5 (.cells #[.string ⟨#[49]⟩, .string ⟨#[45, 49]⟩, .string ⟨#[48]⟩] 9) (.cells #[.string ⟨#[48]⟩, .string ⟨#[48]⟩, .string ⟨#[49]⟩] 9) (.cells #[.slice (some ⟨w5.heap.size, 0, none⟩) 3 3, .slice (some ⟨w5.heap.size + 1, 0, none⟩) 3 3] 37)).alloc (by simp; omega) (.cells #[.string ⟨#[48]⟩, .string ⟨#[45, 49]⟩, .string ⟨#[48]⟩] 9)).alloc (by simp; omega) (.cells #[.slice (some ⟨w5.heap.size + 3, 0, none⟩) 3 3] 37))
  go_wp2_with (first
    | (go_at_call 9; have _t := Hb6; clear _t; refine (kn_sb _ _ _ _ (Hv6.out.mono HA7.out) (SVs.nil _) H7.out).mono ?_; rintro e5 w7 ⟨rfl, hb7⟩; have hb7' := bw_via HA7.out hb7; have Hx7 := hI (Hx6.out.mono hb7'); have Hb7 := hI (bw_via Hb6.out hb7'); have H8 := hI (kn_lx (w := w7) rfl); have HA8 := hI (below1 w7 (.cells #[.string ⟨#[45, 51]⟩, .string ⟨#[49]⟩] 9)); clear hb7 hb7' b0 b1 b2)
    | (go_at_call 9; refine (kn_sa _ _ _ _ (Hv25.out.mono HA6.out) H6.out.1 H6.out.2).mono ?_; rintro e5 w6 ⟨rfl, hb6⟩; have hb6' := bw_via HA6.out hb6; have HC6 := hI (HC5.out.below hb6'); have Hv6 := hI (Hv5.out.mono hb6'); have Hx6 := hI (Hx5.out.mono hb6'); have Hb6 := hI (bw_via Hb5.out hb6'); have H7 := hI (kn_rb (w := w6) rfl); have HA7 := hI (below3 w6 (.cells #[.string ⟨#[49]⟩, .string ⟨#[48]⟩] 9) (.cells #[.string ⟨#[49]⟩, .string ⟨#[51]⟩] 9) (.cells #[.slice (some ⟨w6.heap.size, 0, none⟩) 2 2, .slice (some ⟨w6.heap.size + 1, 0, none⟩) 2 2] 37)); clear hb6 hb6' a0 a1 a2; obtain ⟨⟨b0, b1, b2⟩, -⟩ := blk3c HC6.out)
    | (go_at_call 10; refine (kn_sv _ _ _ H8.out (Hx7.out.mono HA8.out)).mono ?_; rintro e5 w9 ⟨rfl, hb9⟩; have Hb9 := hI (bw_via Hb7.out (bw_via HA8.out hb9)); clear hb9))
  go_ret
  exact Ret.mk Hb9.out
end Go.Proofs.YtlcmhbkmpkcajaaGreatDoor
namespace Go.Proofs.YtlcmhbkmpkcajaaGreatDoor
open Go.RowKit
theorem ETs : ElemTy 25 23 1 24 := ⟨Tryz.underlying25, by kernel_rfl⟩
theorem own_tvs {w : World} {M k : Nat} {v p : Value} {a : Vec} (h : w.ownsRow M 23 1 v k (List.replicate k p)) (hp : TV w p a) : TVs w v (List.replicate k a) := by
  refine ⟨List.replicate k p, by simp, Sl.own1 h, AT.own h, fun j q b h1 h2 => ?_⟩
  rw [List.getElem?_replicate] at h1 h2
  split at h1
  · next hj =>
    rw [if_pos hj] at h2
    cases h1
    cases h2
    exact hp
  · cases h1
def lenV : Value → Nat
  | .slice _ n _ => n
  | _ => 0
theorem lim_gen (d k : Nat) (u : Value) (w : World) (hu : TVs w u (List.replicate k (List.replicate d 0))) (hd1 : 1 ≤ d) (hd : d ≤ 8) (hk : k ≤ 24) (hT : Tab w) :
    Calls Tryz.prog 5 #[.int .i64 (d : Int), u, .slice none 0 0] w (RetP (fun x _w' => ∃ la lc ra rc, x = .tuple #[.agg #[.int .i64 (d : Int), .slice la 0 lc, .slice ra 0 rc], .int .i64 0]) w) := by
  have h1 := lines_zero d k (by omega) (by omega)
  have h2 := dual_all d (by omega)
  have hz : FitV d (List.replicate d 0) := ⟨List.length_replicate, fun x hx => by rw [List.eq_of_mem_replicate hx]; exact ⟨by decide, by decide⟩⟩
  have h := gen_ok d (List.replicate k (List.replicate d 0)) [] u (.slice none 0 0) w hu ⟨[], rfl, Sl.nil w 1, AT.nil w _ _ _, fun k p a hp => by simp at hp⟩ hd1 hd (by simp; omega) (by simp) (fun a ha => by rw [List.eq_of_mem_replicate ha]; exact hz) (fun a ha => by cases ha) h1.2
    (fitN_zeros d (2 * k) (by omega) (by omega) _ _ (rows_zeros d k)) (by rw [h1.1]; exact h2.2) (by rw [h1.1]; exact all_n d (by omega)) hT
  refine h.mono ?_
  rintro e w' ⟨x, rfl, ⟨cv, rfl, hc⟩, hb⟩
  have e : generatedC d (List.replicate k (List.replicate d 0)) [] = ⟨d, [], []⟩ := by
    show boundedC d (boundedC d (List.replicate k (List.replicate d 0)) []).lines (boundedC d (List.replicate k (List.replicate d 0)) []).rays = _
    rw [h1.1]
    exact h2.1
  rw [e] at hc
  obtain ⟨la, lc, ra, rc, rfl, -, -⟩ := hc.open
  exact ⟨_, rfl, ⟨la, lc, ra, rc, rfl⟩, hb⟩
theorem lim_rows (d k : Nat) (u : Value) (w : World) (hu : TVs w u (List.replicate k (List.replicate d 0))) (hd1 : 1 ≤ d) (hd : d ≤ 8) (hk : k ≤ 24) (hT : Tab w) :
    Calls Tryz.prog 6 #[.int .i64 (d : Int), u] w (RetP (fun x _w' => ∃ la lc ra rc, x = .tuple #[.agg #[.int .i64 (d : Int), .slice la d lc, .slice ra 0 rc], .int .i64 0]) w) := by
  have h1 := rows_zero d k (by omega) (by omega)
  have hz : FitV d (List.replicate d 0) := ⟨List.length_replicate, fun x hx => by rw [List.eq_of_mem_replicate hx]; exact ⟨by decide, by decide⟩⟩
  have h := rows_ok d (List.replicate k (List.replicate d 0)) u w hu hd1 hd (by simp; omega) (fun a ha => by rw [List.eq_of_mem_replicate ha]; exact hz) h1.2 (fitN_zeros d k (by omega) (by omega) _ _ rfl) hT
  refine h.mono ?_
  rintro e w' ⟨x, rfl, ⟨cv, rfl, hc⟩, hb⟩
  rw [h1.1] at hc
  obtain ⟨la, lc, ra, rc, rfl, -, -⟩ := hc.open
  refine ⟨_, rfl, ⟨la, lc, ra, rc, ?_⟩, hb⟩
  simp
set_option maxHeartbeats 1000000 in
theorem empty_s (la ra : Option Addr) (lc rc : Nat) (w : World) : Calls Tryz.prog 7 #[.agg #[.int .i64 0, .slice la 0 lc, .slice ra 0 rc]] w (Ret (.bool true) w) := by
  have HB1 := hI (Blk.new w #[.int .i64 0, .slice la 0 lc, .slice ra 0 rc] 27)
  have Hb1 := hI (below1 w (.cells #[.int .i64 0, .slice la 0 lc, .slice ra 0 rc] 27))
  go_enter Tryz.func7, Tryz.ntmps7
  go_upto_region 1 with (fail)
  generalize w.alloc (.cells #[.int .i64 0, .slice la 0 lc, .slice ra 0 rc] 27) = w1 at *
  obtain ⟨⟨a0, a1, a2⟩, -⟩ := blk3c HB1.out
  go_wp2_with fail
  go_ret
  exact Ret.mk Hb1.out
theorem lim_cv {w' : World} {x : Value} (h : ∃ cv, x = .tuple #[cv, .int .i64 6] ∧ CV w' cv ⟨0, [], []⟩) : ∃ la lc ra rc, x = .tuple #[.agg #[.int .i64 0, .slice la 0 lc, .slice ra 0 rc], .int .i64 6] := by
  obtain ⟨cv, rfl, hc⟩ := h
  obtain ⟨la, lc, ra, rc, rfl, -, -⟩ := hc.open
  exact ⟨la, lc, ra, rc, rfl⟩
theorem lim1 (d n c : Nat) (a : Option Addr) (v : Value) (w : World) (hd1 : 1 ≤ d) (hd : d ≤ 8) (hl : 24 < n) (hn : n ≤ 1000) :
    Calls Tryz.prog 5 #[.int .i64 (d : Int), .slice a n c, v] w (RetP (fun x _ => ∃ la lc ra rc, x = .tuple #[.agg #[.int .i64 0, .slice la 0 lc, .slice ra 0 rc], .int .i64 6]) w) := by
  refine (gen_lim1 d n c a v w hd1 hd hl hn).mono ?_
  rintro e w' ⟨x, rfl, hc, hb⟩
  exact ⟨_, rfl, lim_cv hc, hb⟩
theorem lim2 (d n c : Nat) (a : Option Addr) (w : World) (hd1 : 1 ≤ d) (hd : d ≤ 8) (hl : 24 < n) (hn : n ≤ 1000) :
    Calls Tryz.prog 6 #[.int .i64 (d : Int), .slice a n c] w (RetP (fun x _ => ∃ la lc ra rc, x = .tuple #[.agg #[.int .i64 0, .slice la 0 lc, .slice ra 0 rc], .int .i64 6]) w) := by
  refine (rows_lim d n c a w hd1 hd hl hn).mono ?_
  rintro e w' ⟨x, rfl, hc, hb⟩
  exact ⟨_, rfl, lim_cv hc, hb⟩
theorem lim3 (d n c : Nat) (a : Option Addr) (w : World) (hd1 : 1 ≤ d) (hd : d ≤ 8) (hl : 256 < n) (hn : n ≤ 1000) :
    Calls Tryz.prog 5 #[.int .i64 (d : Int), .slice none 0 0, .slice a n c] w (RetP (fun x _ => ∃ la lc ra rc, x = .tuple #[.agg #[.int .i64 0, .slice la 0 lc, .slice ra 0 rc], .int .i64 6]) w) := by
  refine (gen_lim2 d n c a [] (.slice none 0 0) w ⟨[], rfl, Sl.nil w 1, AT.nil w _ _ _, fun k p a hp => by simp at hp⟩ hd1 hd (by decide) (fun a ha => by cases ha) hl hn).mono ?_
  rintro e w' ⟨x, rfl, hc, hb⟩
  exact ⟨_, rfl, lim_cv hc, hb⟩
set_option maxHeartbeats 16000000 in
set_option maxRecDepth 10000 in
theorem limits_g (dim n : Nat) (w : World) (hdim : dim < 256) (hn : n < 256) (hT : Tab w) : Calls Tryz.prog 3 #[.int .u8 (dim : Int), .int .u8 (n : Int)] w (Ret (.bool true) w) := by
  have HKn := hI (known_g w hT)
  obtain ⟨x, hx⟩ : ∃ x, x = dim % 8 := ⟨_, rfl⟩
  obtain ⟨k, hk⟩ : ∃ k, k = n % 30 := ⟨_, rfl⟩
  obtain ⟨d, hd⟩ : ∃ d, d = x + 1 := ⟨_, rfl⟩
  have hd1 : 1 ≤ d := by omega
  have hd8 : d ≤ 8 := by omega
  have hk30 : k ≤ 29 := by omega
  have hr1 : ((dim : Int)).tmod 8 = (x : Int) := by rw [Int.tmod_eq_emod_of_nonneg (by omega)]; omega
  have hr2 : ((n : Int)).tmod 30 = (k : Int) := by rw [Int.tmod_eq_emod_of_nonneg (by omega)]; omega
  have hw1 : IntKind.u8.wrap (x : Int) = (x : Int) := by unfold IntKind.wrap; simp [IntKind.bits, IntKind.signed]; omega
  have hw2 : IntKind.u8.wrap (k : Int) = (k : Int) := by unfold IntKind.wrap; simp [IntKind.bits, IntKind.signed]; omega
  have hw3 : IntKind.i64.wrap (x : Int) = (x : Int) := IntWalk.i64_in _ (by omega)
  have hw4 : IntKind.i64.wrap (k : Int) = (k : Int) := IntWalk.i64_in _ (by omega)
  have hw5 : IntKind.i64.wrap (1 + (x : Int)) = (d : Int) := by rw [IntWalk.i64_in _ (by omega)]; omega
  obtain ⟨i1, hi1, hy0, hy1, hy2⟩ : ∃ i1, Tryz.prog.info? 24 = some i1 ∧ i1.zero = some (.string ⟨#[]⟩) ∧ i1.size = 1 ∧ i1.bytes = 16 := by
    have hi : (Tryz.prog.info? 24).map (fun i => (i.zero, i.size, i.bytes)) = some (some (.string ⟨#[]⟩), 1, 16) := by kernel_rfl
    rw [Option.map_eq_some_iff] at hi
    obtain ⟨i1, h, he⟩ := hi
    simp only [Prod.mk.injEq] at he
    exact ⟨i1, h, he.1, he.2.1, he.2.2⟩
  have HTb := hI hT
  have HL := hI (show ((List.replicate d (0 : Rat)).map numS).length = d from by simp)
  have HG := hI (fun q (h : q < d) => show ((List.replicate d (0 : Rat)).map numS)[q]? = some ⟨#[48]⟩ from by rw [List.getElem?_map, List.getElem?_replicate, if_pos h]; simp only [Option.map_some, kn_txt])
  clear hx hk hd hT hdim hn
  go_enter Tryz.func3, Tryz.ntmps3
  go_upto_region 3 with (go_at_call 4; refine (HKn.out).mono ?_; rintro e5 w1 ⟨rfl, hb1⟩; have Hb1 := hI hb1; clear hb1)
  go_wp2_with (at_make; go_loud (refine wpList_make_full _ rfl _ _ 23 rfl w1.heap.size 24 i1 (.string ⟨#[]⟩) 1 Tryz.underlying23 hi1 hy0 hy1 .i64 .i64 _ _ d rfl rfl (by omega) (by omega) (by rw [hy2]; omega) (by unfold maxLen; omega) (by simp) ?_; intro wm hown hg; have Hvb := hI (show SB wm w1.heap.size ((List.replicate d (0 : Rat)).map numS) d 0 from SB.made hown); have Hbm := hI ((Below.refl w1.heap.size w1).grown hg (Nat.le_refl _) (fun b hb => by cases hb)); clear hown hg))
  go_loopw [8] (fun i wr => ∃ q : Nat, q ≤ d ∧ i = .int .i64 (q : Int) ∧ Below w1.heap.size w1 wr ∧ w1.heap.size < wr.heap.size ∧ Hid (SB wr w1.heap.size ((List.replicate d (0 : Rat)).map numS) d q)) (fun i _ => d - (intOf i).toNat)
  case atStart => exact ⟨0, by omega, rfl, Hbm.out, Blk.lt Hvb.out, Hvb.out⟩
  case round =>
    obtain ⟨q, hq, rfl, hbx, hlt0, hvb⟩ := hrel
    have Hbx := hI hbx
    have HVB := hI hvb.out
    have hk0 : (0 : Int) ≤ (q : Int) := Int.natCast_nonneg _
    rcases Nat.lt_or_ge q d with hlt | hge
    · have hkn : (q : Int) < (d : Int) := by omega
      have hkw : IntKind.i64.wrap ((q : Int) + 1) = (q : Int) + 1 := IntWalk.i64_in _ (by omega)
      obtain ⟨p0, f0⟩ := SB.at HVB.out HL.out hlt
      have HB3 := hI (SB.set HVB.out HL.out (HG.out q hlt))
      have Hb3 := hI (Hbx.out.setCell (p := ⟨w1.heap.size, q, none⟩) (Nat.le_refl _) (.string ⟨#[48]⟩))
      clear hbx hvb
      go_wp2_with fail
      go_roundw
      case rel => exact ⟨q + 1, by omega, by go_num, Hb3.out, Blk.lt HB3.out, HB3.out⟩
      case measure => simp [intOf] <;> omega
    · obtain rfl : d = q := by omega
      have hkn : ¬ (d : Int) < (d : Int) := by omega
      have Hz := hI (SB.tv HVB.out (by simp) (by unfold maxLen; omega))
      have Hb2 := hI (bw_via Hb1.out Hbx.out)
      clear hbx hvb
      clear Hbx HVB
      generalize wr = W2 at *
      go_wp2_with fail
      go_loopw [10, 9] (fun i o wr => ∃ q : Nat, q ≤ k ∧ i = .int .i64 (q : Int) ∧ Below W2.heap.size W2 wr ∧ Hid (wr.ownsRow W2.heap.size 23 1 o q (List.replicate q (.slice (some ⟨w1.heap.size, 0, none⟩) d d)))) (fun i _ _ => k - (intOf i).toNat)
      case atStart => exact ⟨0, by omega, rfl, Below.refl _ _, World.ownsRow_nil _ _ _ _⟩
      case round =>
        obtain ⟨q, hq, rfl, hbx, hO⟩ := hrel
        have hk0 : (0 : Int) ≤ (q : Int) := Int.natCast_nonneg _
        obtain ⟨oa, oc, rfl, ho1, ho2⟩ := own_open hO.out
        unfold maxLen at ho2
        rcases Nat.lt_or_ge q k with hlt | hge
        · have hkn : (q : Int) < (k : Int) := by omega
          have hkw : IntKind.i64.wrap ((q : Int) + 1) = (q : Int) + 1 := IntWalk.i64_in _ (by omega)
          have HO2 := hI (own_below hO.out (below1 wr (.cells #[.slice (some ⟨w1.heap.size, 0, none⟩) d d] 23)))
          have HBn := hI (Blk.new wr #[.slice (some ⟨w1.heap.size, 0, none⟩) d d] 23)
          have HbN := hI (hbx.via (below1 wr (.cells #[.slice (some ⟨w1.heap.size, 0, none⟩) d d] 23)) hbx.size)
          clear hbx hO
          go_wp2_with (at_builtin; refine wpAppL ETs (by decide) [.slice (some ⟨w1.heap.size, 0, none⟩) d d] rfl _ _ rfl W2.heap.size q _ (List.replicate q (.slice (some ⟨w1.heap.size, 0, none⟩) d d)) _ rfl rfl HO2.out HBn.out rfl (one1 _ rfl) (by omega) (by decide) HbN.out.size ?_; intro g4 cap4 w4 hown' hg' _ _; have HO4 := hI (show w4.ownsRow W2.heap.size 23 1 (.slice (some ⟨g4, 0, none⟩) (q + 1) cap4) (q + 1) (List.replicate (q + 1) (.slice (some ⟨w1.heap.size, 0, none⟩) d d)) from by rw [List.replicate_succ']; exact hown'); have Hb4 := hI (Below.grown HbN.out hg' HbN.out.size (fun z hz => (HO2.out.lt z hz).1)); clear hown' hg')
          go_roundw
          case rel => exact ⟨q + 1, by omega, by go_num, Hb4.out, HO4.out⟩
          case measure => simp [intOf] <;> omega
        · obtain rfl : k = q := by omega
          have hkn : ¬ (k : Int) < (k : Int) := by omega
          have HO := hI hO.out
          have HZ := hI (own_tvs hO.out (Hz.out.mono hbx))
          have Hbr := hI hbx
          have Hbw := hI (bw_via Hb2.out hbx)
          have hk1000 : k ≤ 1000 := by omega
          clear hbx hO
          rcases Nat.lt_or_ge 24 k with h24 | h24
          · have hc24 : (24 : Int) < (k : Int) := by omega
            go_upto_region 15 with (go_at_call 5; refine (lim1 d k oc oa (.slice none 0 0) wr hd1 hd8 h24 hk1000).mono ?_; rintro e5 w3 ⟨v3, rfl, ⟨xa, xc, za, zc, rfl⟩, hb3⟩; have Hb3 := hI (bw_via Hbw.out hb3); clear hb3)
            have hA := below1 w3 (.cells #[.int .i64 0, .slice xa 0 xc, .slice za 0 zc] 27)
            have HA4 := hI (Blk.new w3 #[.int .i64 0, .slice xa 0 xc, .slice za 0 zc] 27)
            have Hb4 := hI (bw_via Hb3.out hA)
            clear hA
            generalize w3.alloc (.cells #[.int .i64 0, .slice xa 0 xc, .slice za 0 zc] 27) = w4 at *
            generalize w3.heap.size = D3 at *
            go_upto_region 16 with (go_at_call 6; refine (lim2 d k oc oa w4 hd1 hd8 h24 hk1000).mono ?_; rintro e5 w5 ⟨v5, rfl, ⟨ya, yc, ta, tc, rfl⟩, hb5⟩; have HA5 := hI (HA4.out.below hb5); have Hb5 := hI (bw_via Hb4.out hb5); clear hb5)
            have hA := below1 w5 (.cells #[.int .i64 0, .slice ya 0 yc, .slice ta 0 tc] 27)
            have HA6 := hI (HA5.out.below hA)
            have HB6 := hI (Blk.new w5 #[.int .i64 0, .slice ya 0 yc, .slice ta 0 tc] 27)
            have Hb6 := hI (bw_via Hb5.out hA)
            clear hA
            generalize w5.alloc (.cells #[.int .i64 0, .slice ya 0 yc, .slice ta 0 tc] 27) = w6 at *
            generalize w5.heap.size = D5 at *
            obtain ⟨⟨a0, a1, a2⟩, -⟩ := blk3c HA6.out
            go_wp2_with (first
              | (go_at_call 7; have _t := Hb7; clear _t; refine (empty_s _ _ _ _ _).mono ?_; rintro e5 w8 ⟨rfl, hb8⟩; have Hb8 := hI (bw_via Hb7.out hb8); clear hb8 a0 a1 a2)
              | (go_at_call 7; refine (empty_s _ _ _ _ _).mono ?_; rintro e5 w7 ⟨rfl, hb7⟩; have HB7 := hI (HB6.out.below hb7); have Hb7 := hI (bw_via Hb6.out hb7); clear hb7 a0 a1 a2; obtain ⟨⟨a0, a1, a2⟩, -⟩ := blk3c HB7.out))
            go_ret
            exact Ret.mk Hb8.out
          · have hc24 : ¬ (24 : Int) < (k : Int) := by omega
            go_upto_region 15 with (go_at_call 5; refine (lim_gen d k _ wr HZ.out hd1 hd8 h24 (HTb.out.mono Hbw.out)).mono ?_; rintro e5 w3 ⟨v3, rfl, ⟨xa, xc, za, zc, rfl⟩, hb3⟩; have HZ3 := hI (HZ.out.mono hb3); have HO3 := hI (own_below HO.out hb3); have Hbr3 := hI (bw_via Hbr.out hb3); have Hb3 := hI (bw_via Hbw.out hb3); clear hb3)
            have hA := below1 w3 (.cells #[.int .i64 (d : Int), .slice xa 0 xc, .slice za 0 zc] 27)
            have HA4 := hI (Blk.new w3 #[.int .i64 (d : Int), .slice xa 0 xc, .slice za 0 zc] 27)
            have HZ4 := hI (HZ3.out.mono hA)
            have HO4 := hI (own_below HO3.out hA)
            have Hbr4 := hI (bw_via Hbr3.out hA)
            have Hb4 := hI (bw_via Hb3.out hA)
            clear hA
            generalize w3.alloc (.cells #[.int .i64 (d : Int), .slice xa 0 xc, .slice za 0 zc] 27) = w4 at *
            generalize w3.heap.size = D3 at *
            go_upto_region 16 with (go_at_call 6; refine (lim_rows d k _ w4 HZ4.out hd1 hd8 h24 (HTb.out.mono Hb4.out)).mono ?_; rintro e5 w5 ⟨v5, rfl, ⟨ya, yc, ta, tc, rfl⟩, hb5⟩; have HA5 := hI (HA4.out.below hb5); have HO5 := hI (own_below HO4.out hb5); have Hbr5 := hI (bw_via Hbr4.out hb5); have Hb5 := hI (bw_via Hb4.out hb5); clear hb5)
            have hA := below1 w5 (.cells #[.int .i64 (d : Int), .slice ya d yc, .slice ta 0 tc] 27)
            have HA6 := hI (HA5.out.below hA)
            have HB6 := hI (Blk.new w5 #[.int .i64 (d : Int), .slice ya d yc, .slice ta 0 tc] 27)
            have HO6 := hI (own_below HO5.out hA)
            have Hbr6 := hI (bw_via Hbr5.out hA)
            have Hb6 := hI (bw_via Hb5.out hA)
            clear hA
            generalize w5.alloc (.cells #[.int .i64 (d : Int), .slice ya d yc, .slice ta 0 tc] 27) = w6 at *
            generalize w5.heap.size = D5 at *
            clear HZ HZ3 HZ4 HO HO3 HO4 HO5 HA4 HA5 Hbr Hbr3 Hbr4 Hbr5 Hb3 Hb4 Hb5
            go_wp2_with fail
            go_loopw [9] (fun o ws => ∃ (q : Nat) (a : Option Addr) (c : Nat), q ≤ 257 ∧ o = .slice a q c ∧ Below W2.heap.size W2 ws ∧ Hid (ws.ownsRow W2.heap.size 23 1 o q (List.replicate q (.slice (some ⟨w1.heap.size, 0, none⟩) d d))) ∧ Hid (Blk ws D3 #[.int .i64 (d : Int), .slice xa 0 xc, .slice za 0 zc] 27) ∧ Hid (Blk ws D5 #[.int .i64 (d : Int), .slice ya d yc, .slice ta 0 tc] 27)) (fun o _ => 257 - lenV o)
            case atStart => exact ⟨k, oa, oc, by omega, rfl, Hbr6.out, HO6.out, HA6.out, HB6.out⟩
            case round =>
              obtain ⟨q, pa, pc, hq, rfl, hbx, hO, hA, hB⟩ := hrel
              have hk0 : (0 : Int) ≤ (q : Int) := Int.natCast_nonneg _
              rcases Nat.lt_or_ge 256 q with hge | hlt
              · obtain rfl : q = 257 := by omega
                have HA7 := hI hA.out
                have HB7 := hI hB.out
                have Hb7 := hI (bw_via Hb2.out hbx)
                clear hbx hO hA hB
                go_upto_region 21 with (go_at_call 5; refine (lim3 d 257 pc pa wr hd1 hd8 (by decide) (by decide)).mono ?_; rintro e5 w7 ⟨v7, rfl, ⟨ua, uc, va, vc, rfl⟩, hb7⟩; have HA8 := hI (HA7.out.below hb7); have HB8 := hI (HB7.out.below hb7); have Hb8 := hI (bw_via Hb7.out hb7); clear hb7)
                have hA := below1 w7 (.cells #[.int .i64 0, .slice ua 0 uc, .slice va 0 vc] 27)
                have HA9 := hI (HA8.out.below hA)
                have HB9 := hI (HB8.out.below hA)
                have HC9 := hI (Blk.new w7 #[.int .i64 0, .slice ua 0 uc, .slice va 0 vc] 27)
                have Hb9 := hI (bw_via Hb8.out hA)
                clear hA
                generalize w7.alloc (.cells #[.int .i64 0, .slice ua 0 uc, .slice va 0 vc] 27) = w9 at *
                generalize w7.heap.size = D7 at *
                obtain ⟨⟨a0, a1, a2⟩, -⟩ := blk3c HA9.out
                obtain ⟨⟨b0, b1, b2⟩, -⟩ := blk3c HB9.out
                obtain ⟨⟨c0, c1, c2⟩, -⟩ := blk3c HC9.out
                go_wp2_with (go_at_call 7; refine (empty_s _ _ _ _ _).mono ?_; rintro e5 w10 ⟨rfl, hb10⟩; have Hb10 := hI (bw_via Hb9.out hb10); clear hb10 a0 a1 a2 b0 b1 b2 c0 c1 c2)
                go_ret
                exact Ret.mk Hb10.out
              · have hkn : (q : Int) ≤ 256 := by omega
                have HO2 := hI (own_below hO.out (below1 wr (.cells #[.slice (some ⟨w1.heap.size, 0, none⟩) d d] 23)))
                have HBn := hI (Blk.new wr #[.slice (some ⟨w1.heap.size, 0, none⟩) d d] 23)
                have HbN := hI (hbx.via (below1 wr (.cells #[.slice (some ⟨w1.heap.size, 0, none⟩) d d] 23)) hbx.size)
                have HA2 := hI (hA.out.below (below1 wr (.cells #[.slice (some ⟨w1.heap.size, 0, none⟩) d d] 23)))
                have HB2 := hI (hB.out.below (below1 wr (.cells #[.slice (some ⟨w1.heap.size, 0, none⟩) d d] 23)))
                clear hbx hO hA hB
                go_wp2_with (at_builtin; refine wpAppL ETs (by decide) [.slice (some ⟨w1.heap.size, 0, none⟩) d d] rfl _ _ rfl W2.heap.size q _ (List.replicate q (.slice (some ⟨w1.heap.size, 0, none⟩) d d)) _ rfl rfl HO2.out HBn.out rfl (one1 _ rfl) (by omega) (by decide) HbN.out.size ?_; intro g4 cap4 w4 hown' hg' _ _; have HO4 := hI (show w4.ownsRow W2.heap.size 23 1 (.slice (some ⟨g4, 0, none⟩) (q + 1) cap4) (q + 1) (List.replicate (q + 1) (.slice (some ⟨w1.heap.size, 0, none⟩) d d)) from by rw [List.replicate_succ']; exact hown'); have Hb4 := hI (Below.grown HbN.out hg' HbN.out.size (fun z hz => (HO2.out.lt z hz).1)); have hkp := Keep.grown (ok := fun T => T ≠ 23) HO2.out (fun k => k rfl) hg'; have HA4 := hI (hkp.blk _ _ _ (by decide) HA2.out); have HB4 := hI (hkp.blk _ _ _ (by decide) HB2.out); clear hown' hg' hkp)
                go_roundw
                case rel => exact ⟨q + 1, _, _, by omega, rfl, Hb4.out, HO4.out, HA4.out, HB4.out⟩
                case measure => simp [lenV] <;> omega
end Go.Proofs.YtlcmhbkmpkcajaaGreatDoor
