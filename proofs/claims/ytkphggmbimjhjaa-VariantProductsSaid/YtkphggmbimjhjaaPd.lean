/-
  Products: instances, dimensions, clones.
-/
import Derived.Test.YtkphggmbimjhjaaPc
import Derived.Test.YtkphggmbimjhjaaRk
namespace Go.Proofs.Ytkphggmbimjhjaa
open Go.RowKit

theorem fields105 : Try.prog.fieldsOf 105 = #[⟨"Name", 9, 0, false, "", "", 0⟩, ⟨"Part", 9, 1, false, "", "", 16⟩, ⟨"Place", 103, 2, false, "", "", 32⟩] := by kernel_rfl
theorem und105 : Try.prog.underlying 105 = some (.struct (Try.prog.fieldsOf 105)) := by kernel_rfl
theorem held105 : Try.prog.stoodInHeld 105 = false := by kernel_rfl
theorem fields103 : Try.prog.fieldsOf 103 = #[⟨"Turn", 98, 0, false, "", "", 0⟩, ⟨"Shift", 101, 4, false, "", "", 32⟩] := by kernel_rfl
theorem und103 : Try.prog.underlying 103 = some (.struct (Try.prog.fieldsOf 103)) := by kernel_rfl
theorem held103 : Try.prog.stoodInHeld 103 = false := by kernel_rfl
theorem fields81 : Try.prog.fieldsOf 81 = #[⟨"Name", 9, 0, false, "", "", 0⟩, ⟨"Nominal", 3, 1, false, "", "", 16⟩, ⟨"Lower", 3, 2, false, "", "", 24⟩, ⟨"Upper", 3, 3, false, "", "", 32⟩] := by kernel_rfl
theorem und81 : Try.prog.underlying 81 = some (.struct (Try.prog.fieldsOf 81)) := by kernel_rfl
theorem held81 : Try.prog.stoodInHeld 81 = false := by kernel_rfl
theorem run_neq81 (a : ByteArray) (b c d : Int) (w : World) : (binOp .neq 81 (.agg #[.string a, .int .i64 b, .int .i64 c, .int .i64 d]) (.agg #[.string a, .int .i64 b, .int .i64 c, .int .i64 d])).run Try.prog w = .ok (.bool false) w := by
  have h : (Op.equal 81 (.agg #[.string a, .int .i64 b, .int .i64 c, .int .i64 d]) (.agg #[.string a, .int .i64 b, .int .i64 c, .int .i64 d])).run Try.prog w = .ok true w := by
    unfold Op.equal Op.maxDepth
    rw [run_equalIn_struct w 9999 81 _ _ und81 held81, fields81]
    simp [go_sem]
  simp only [binOp, Sem.run_bind, h, Result.andThen_ok, Sem.run_pure, Bool.not_true]
theorem eq98 (w : World) : (Op.equalIn 9998 98 (.agg #[.int .i64 0, .int .i64 0, .int .i64 0, .int .i64 0]) (.agg #[.int .i64 0, .int .i64 0, .int .i64 0, .int .i64 0])).run Try.prog w = .ok true w := by kernel_rfl
theorem eq101 (w : World) : (Op.equalIn 9998 101 (.agg #[.string ⟨#[]⟩, .string ⟨#[]⟩, .string ⟨#[]⟩]) (.agg #[.string ⟨#[]⟩, .string ⟨#[]⟩, .string ⟨#[]⟩])).run Try.prog w = .ok true w := by kernel_rfl
theorem run_neq105 (a b : ByteArray) (w : World) : (binOp .neq 105 (.agg #[.string a, .string b, .int .i64 0, .int .i64 0,.int .i64 0,.int .i64 0, .string ⟨#[]⟩, .string ⟨#[]⟩, .string ⟨#[]⟩]) (.agg #[.string a, .string b, .int .i64 0, .int .i64 0,.int .i64 0,.int .i64 0, .string ⟨#[]⟩, .string ⟨#[]⟩, .string ⟨#[]⟩])).run Try.prog w = .ok (.bool false) w := by
  have h : (Op.equal 105 (.agg #[.string a, .string b, .int .i64 0, .int .i64 0,.int .i64 0,.int .i64 0, .string ⟨#[]⟩, .string ⟨#[]⟩, .string ⟨#[]⟩]) (.agg #[.string a, .string b, .int .i64 0, .int .i64 0,.int .i64 0,.int .i64 0, .string ⟨#[]⟩, .string ⟨#[]⟩, .string ⟨#[]⟩])).run Try.prog w = .ok true w := by
    unfold Op.equal Op.maxDepth
    rw [run_equalIn_struct w 9999 105 _ _ und105 held105, fields105]
    simp [go_sem, eq98, eq101]
  simp only [binOp, Sem.run_bind, h, Result.andThen_ok, Sem.run_pure, Bool.not_true]
theorem E31 : ElemTy 31 81 4 40 := ⟨Try.underlying31, by kernel_rfl⟩

/-- An instance of the base. -/
def instC (s : ByteArray) : List Value := [.string s, .string ⟨#[112]⟩, .int .i64 0, .int .i64 0, .int .i64 0, .int .i64 0, .string ⟨#[]⟩, .string ⟨#[]⟩, .string ⟨#[]⟩]
def Insts (w : World) (v : Value) (ns : List ByteArray) : Prop := Sl w 9 v (ns.map instC)
theorem Insts.mono {w w' : World} {v : Value} {ns : List ByteArray} (h : Insts w v ns) (hb : Below w.heap.size w w') : Insts w' v ns := Sl.mono h hb
theorem Insts.open {w : World} {v : Value} {ns : List ByteArray} (h : Insts w v ns) : ∃ a cap, v = .slice a ns.length cap ∧ ns.length ≤ cap ∧ cap ≤ maxLen := by
  have := Sl.open h; simpa using this
theorem Insts.at {w wr : World} {n cap : Nat} {a : Option Addr} {ns : List ByteArray} (hS : Insts w (.slice a n cap) ns) (hb : Below w.heap.size w wr) {k : Nat} (hk : k < n) :
    ∃ b off s, a = some ⟨b, off, none⟩ ∧ ns[k]? = some s ∧ b < w.heap.size ∧ wr.cell? ⟨b, off + k * 9, none⟩ = some (.string s) ∧ wr.cell? ⟨b, off + k * 9 + 1, none⟩ = some (.string ⟨#[112]⟩) ∧
      wr.cell? ⟨b, off + k * 9 + 2, none⟩ = some (.int .i64 0) ∧ wr.cell? ⟨b, off + k * 9 + 3, none⟩ = some (.int .i64 0) ∧ wr.cell? ⟨b, off + k * 9 + 4, none⟩ = some (.int .i64 0) ∧ wr.cell? ⟨b, off + k * 9 + 5, none⟩ = some (.int .i64 0) ∧
      wr.cell? ⟨b, off + k * 9 + 6, none⟩ = some (.string ⟨#[]⟩) ∧ wr.cell? ⟨b, off + k * 9 + 7, none⟩ = some (.string ⟨#[]⟩) ∧ wr.cell? ⟨b, off + k * 9 + 8, none⟩ = some (.string ⟨#[]⟩) := by
  obtain ⟨b, off, ha, hlt, r, hr, hc⟩ := Sl.row hS hb hk
  simp only [List.getElem?_map, Option.map_eq_some_iff] at hr
  obtain ⟨d, hd, rfl⟩ := hr
  refine ⟨b, off, d, ha, hd, hlt, ?_⟩
  refine ⟨by simpa [instC] using hc 0 (by omega), by simpa [instC] using hc 1 (by omega), by simpa [instC] using hc 2 (by omega), by simpa [instC] using hc 3 (by omega), by simpa [instC] using hc 4 (by omega), by simpa [instC] using hc 5 (by omega), by simpa [instC] using hc 6 (by omega), by simpa [instC] using hc 7 (by omega), by simpa [instC] using hc 8 (by omega)⟩
theorem inst_len {ns : List ByteArray} : ∀ r ∈ ns.map instC, r.length = 9 := fun r hr => by obtain ⟨x, _, rfl⟩ := List.mem_map.1 hr; rfl
theorem inst_one {ns : List ByteArray} : ∀ r ∈ ns.map instC, ∀ u ∈ r, u.oneCell' = true := fun r hr => by
  obtain ⟨x, _, rfl⟩ := List.mem_map.1 hr
  simp [instC, Value.oneCell']
theorem dim_len {ds : List Dim1} : ∀ r ∈ ds.map dimC, r.length = 4 := fun r hr => by obtain ⟨x, _, rfl⟩ := List.mem_map.1 hr; rfl
theorem dim_one {ds : List Dim1} : ∀ r ∈ ds.map dimC, ∀ u ∈ r, u.oneCell' = true := fun r hr => by
  obtain ⟨x, _, rfl⟩ := List.mem_map.1 hr
  simp [dimC, Value.oneCell']
theorem own_insts {w : World} {B n : Nat} {v : Value} {ns : List ByteArray} (h : w.ownsRow B 105 9 v n (ns.map instC).flatten) : Insts w v ns := Sl.own h inst_len (by decide)
theorem own_dims {w : World} {B n : Nat} {v : Value} {ds : List Dim1} (h : w.ownsRow B 81 4 v n (ds.map dimC).flatten) : Dims w v ds := Sl.own h dim_len (by decide)

set_option maxHeartbeats 1000000 in
theorem clone79 (rows : List (List Value)) (v : Value) (w : World) (hS : Sl w 9 v rows) (hl : ∀ r ∈ rows, r.length = 9) (h1 : ∀ r ∈ rows, ∀ u ∈ r, u.oneCell' = true) (hlen : rows.length < 1000) :
    Calls Try.prog 79 #[v] w (RetP (fun v' w' => w'.ownsRow w.heap.size 105 9 v' rows.length rows.flatten) w) := by
  obtain ⟨a, cap, rfl, hcp, hcm⟩ := hS.open
  have qT : ∀ (w : World) (a : Option Addr) (n c n' c' : Nat), (binOp .eql 28 (.slice a n c) (.slice none n' c')).run Try.prog w = .ok (.bool a.isNone) w := fun w a n c n' c' => Lib.run_eql_slice_nil w _ _ a n c n' c' Try.underlying28
  have hi := (E28).info
  simp only [Option.map_eq_some_iff, Prod.mk.injEq] at hi
  obtain ⟨i, hi, ⟨z, hz, hzs⟩, hsize, hby⟩ := hi
  have hfl := flat_len hl
  have hone : ∀ u ∈ rows.flatten, u.oneCell' = true := fun u hu => by obtain ⟨r, hr, hur⟩ := List.mem_flatten.1 hu; exact h1 r hr u hur
  have hown : (w.alloc (.cells #[] 105)).ownsRow w.heap.size 105 9 (.slice (some ⟨w.heap.size, 0, none⟩) 0 0) 0 [] := World.ownsRow_made w #[] 0 (Nat.le_refl _) (by decide) (by simp)
  rcases a with _ | ad
  · go_enter Try.func79, Try.ntmps79
    go_wp2
    go_ret
    refine ⟨_, rfl, ?_, Below.refl _ _⟩
    have h0 : rows.length = 0 := by
      obtain ⟨a', c', hv, _, _, hh⟩ := hS
      cases hv
      rcases hh with hc0 | ⟨_, _, hh, _⟩
      · omega
      · cases hh
    have : rows = [] := List.length_eq_zero_iff.1 h0
    subst this
    exact World.ownsRow_nil _ _ _ _
  · have hnew : ∀ j u, rows.flatten[j]? = some u → (w.alloc (.cells #[] 105)).cell? (ad.add j) = some u := by
      have hS' := hS
      obtain ⟨a', c', hv, hle, _, hh⟩ := hS'
      cases hv
      rcases hh with h0 | ⟨b, off, hh, _⟩
      · have : rows = [] := List.length_eq_zero_iff.1 (by omega)
        subst this
        intro j u hu
        simp at hu
      · cases hh
        exact (hS.mono (below1 w (.cells #[] 105))).flat hl (by decide)
    generalize hn : rows.length = n at *
    have HF := Lib.hid hfl
    have HN := Lib.hid hn
    clear hn hfl hS
    go_enter Try.func79, Try.ntmps79
    go_wp2_with (at_builtin; refine wpList_append_own _ rfl _ _ 28 rfl w.heap.size 105 i z 9 112 (E28).und hi hz hsize hby hzs (by decide) _ 0 [] rfl hown ad n cap rows.flatten rfl HF.out hnew hone (by unfold maxLen; omega) (by omega) (by simp) ?_; intro v' w1 hown' hg _)
    go_ret
    refine ⟨_, rfl, by simpa using hown', (below1 w _).grown hg (by simp) (fun k hk => by cases hk; exact Nat.le_refl _)⟩

set_option maxHeartbeats 1000000 in
theorem clone80 (rows : List (List Value)) (v : Value) (w : World) (hS : Sl w 4 v rows) (hl : ∀ r ∈ rows, r.length = 4) (h1 : ∀ r ∈ rows, ∀ u ∈ r, u.oneCell' = true) (hlen : rows.length < 1000) :
    Calls Try.prog 80 #[v] w (RetP (fun v' w' => w'.ownsRow w.heap.size 81 4 v' rows.length rows.flatten) w) := by
  obtain ⟨a, cap, rfl, hcp, hcm⟩ := hS.open
  have qT : ∀ (w : World) (a : Option Addr) (n c n' c' : Nat), (binOp .eql 31 (.slice a n c) (.slice none n' c')).run Try.prog w = .ok (.bool a.isNone) w := fun w a n c n' c' => Lib.run_eql_slice_nil w _ _ a n c n' c' Try.underlying31
  have hi := (E31).info
  simp only [Option.map_eq_some_iff, Prod.mk.injEq] at hi
  obtain ⟨i, hi, ⟨z, hz, hzs⟩, hsize, hby⟩ := hi
  have hfl := flat_len hl
  have hone : ∀ u ∈ rows.flatten, u.oneCell' = true := fun u hu => by obtain ⟨r, hr, hur⟩ := List.mem_flatten.1 hu; exact h1 r hr u hur
  have hown : (w.alloc (.cells #[] 81)).ownsRow w.heap.size 81 4 (.slice (some ⟨w.heap.size, 0, none⟩) 0 0) 0 [] := World.ownsRow_made w #[] 0 (Nat.le_refl _) (by decide) (by simp)
  rcases a with _ | ad
  · go_enter Try.func80, Try.ntmps80
    go_wp2
    go_ret
    refine ⟨_, rfl, ?_, Below.refl _ _⟩
    have h0 : rows.length = 0 := by
      obtain ⟨a', c', hv, _, _, hh⟩ := hS
      cases hv
      rcases hh with hc0 | ⟨_, _, hh, _⟩
      · omega
      · cases hh
    have : rows = [] := List.length_eq_zero_iff.1 h0
    subst this
    exact World.ownsRow_nil _ _ _ _
  · have hnew : ∀ j u, rows.flatten[j]? = some u → (w.alloc (.cells #[] 81)).cell? (ad.add j) = some u := by
      have hS' := hS
      obtain ⟨a', c', hv, hle, _, hh⟩ := hS'
      cases hv
      rcases hh with h0 | ⟨b, off, hh, _⟩
      · have : rows = [] := List.length_eq_zero_iff.1 (by omega)
        subst this
        intro j u hu
        simp at hu
      · cases hh
        exact (hS.mono (below1 w (.cells #[] 81))).flat hl (by decide)
    generalize hn : rows.length = n at *
    have HF := Lib.hid hfl
    have HN := Lib.hid hn
    clear hn hfl hS
    go_enter Try.func80, Try.ntmps80
    go_wp2_with (at_builtin; refine wpList_append_own _ rfl _ _ 31 rfl w.heap.size 81 i z 4 40 (E31).und hi hz hsize hby hzs (by decide) _ 0 [] rfl hown ad n cap rows.flatten rfl HF.out hnew hone (by unfold maxLen; omega) (by omega) (by simp) ?_; intro v' w1 hown' hg _)
    go_ret
    refine ⟨_, rfl, by simpa using hown', (below1 w _).grown hg (by simp) (fun k hk => by cases hk; exact Nat.le_refl _)⟩

theorem cloneNil76 (w : World) : Calls Try.prog 76 #[.slice none 0 0] w (Ret (.slice none 0 0) w) := by
  have qT : ∀ (w : World) (a : Option Addr) (n c n' c' : Nat), (binOp .eql 27 (.slice a n c) (.slice none n' c')).run Try.prog w = .ok (.bool a.isNone) w := fun w a n c n' c' => Lib.run_eql_slice_nil w _ _ a n c n' c' Try.underlying27
  go_enter Try.func76, Try.ntmps76
  go_wp2
  go_ret
  exact Ret.mk (Below.refl _ _)

theorem cloneNil81 (w : World) : Calls Try.prog 81 #[.slice none 0 0] w (Ret (.slice none 0 0) w) := by
  have qT : ∀ (w : World) (a : Option Addr) (n c n' c' : Nat), (binOp .eql 32 (.slice a n c) (.slice none n' c')).run Try.prog w = .ok (.bool a.isNone) w := fun w a n c n' c' => Lib.run_eql_slice_nil w _ _ a n c n' c' Try.underlying32
  go_enter Try.func81, Try.ntmps81
  go_wp2
  go_ret
  exact Ret.mk (Below.refl _ _)

theorem cloneNil83 (w : World) : Calls Try.prog 83 #[.slice none 0 0] w (Ret (.slice none 0 0) w) := by
  have qT : ∀ (w : World) (a : Option Addr) (n c n' c' : Nat), (binOp .eql 33 (.slice a n c) (.slice none n' c')).run Try.prog w = .ok (.bool a.isNone) w := fun w a n c n' c' => Lib.run_eql_slice_nil w _ _ a n c n' c' Try.underlying33
  go_enter Try.func83, Try.ntmps83
  go_wp2
  go_ret
  exact Ret.mk (Below.refl _ _)

set_option maxHeartbeats 2000000 in
theorem plain_all (w : World) : Calls Try.prog 13 #[] w (fun e w' => ∃ ai ci ad cd, e = .returned (.agg #[.string ⟨#[98, 97, 115, 101]⟩, .slice none 0 0, .slice ai 3 ci, .slice ad 2 cd, .slice none 0 0, .slice none 0 0]) ∧ Dims w' (.slice ad 2 cd) baseDims ∧ FreshV w.heap.size (.slice ad 2 cd) ∧ Insts w' (.slice ai 3 ci) [optS 0, optS 1, optS 2] ∧ (∀ b, (Value.slice ai 3 ci).ownBlock = some b → w.heap.size < b) ∧ Below w.heap.size w w') := by
  go_enter Try.func13, Try.ntmps13
  go_wp2
  have hdb : Blk (((w.alloc (.cells #[.string ⟨#[]⟩, .slice none 0 0, .slice none 0 0, .slice none 0 0, .slice none 0 0, .slice none 0 0] 35)).alloc (.cells #[.string ⟨#[100]⟩, .int .i64 10, .int .i64 (-1), .int .i64 1, .string ⟨#[101]⟩, .int .i64 20, .int .i64 (-1), .int .i64 1] 81)).alloc (.cells #[.string ⟨#[98, 97, 115, 101]⟩, .slice none 0 0, .slice none 0 0, .slice (some ⟨w.heap.size + 1, 0, none⟩) 2 2, .slice none 0 0, .slice none 0 0] 35)) (w.heap.size + 1) #[.string ⟨#[100]⟩, .int .i64 10, .int .i64 (-1), .int .i64 1, .string ⟨#[101]⟩, .int .i64 20, .int .i64 (-1), .int .i64 1] 81 := by
    have := (Blk.new (w.alloc (.cells #[.string ⟨#[]⟩, .slice none 0 0, .slice none 0 0, .slice none 0 0, .slice none 0 0, .slice none 0 0] 35)) #[.string ⟨#[100]⟩, .int .i64 10, .int .i64 (-1), .int .i64 1, .string ⟨#[101]⟩, .int .i64 20, .int .i64 (-1), .int .i64 1] 81).old (.cells #[.string ⟨#[98, 97, 115, 101]⟩, .slice none 0 0, .slice none 0 0, .slice (some ⟨w.heap.size + 1, 0, none⟩) 2 2, .slice none 0 0, .slice none 0 0] 35)
    simpa using this
  have hpb : Blk (((w.alloc (.cells #[.string ⟨#[]⟩, .slice none 0 0, .slice none 0 0, .slice none 0 0, .slice none 0 0, .slice none 0 0] 35)).alloc (.cells #[.string ⟨#[100]⟩, .int .i64 10, .int .i64 (-1), .int .i64 1, .string ⟨#[101]⟩, .int .i64 20, .int .i64 (-1), .int .i64 1] 81)).alloc (.cells #[.string ⟨#[98, 97, 115, 101]⟩, .slice none 0 0, .slice none 0 0, .slice (some ⟨w.heap.size + 1, 0, none⟩) 2 2, .slice none 0 0, .slice none 0 0] 35)) (w.heap.size + 1 + 1) #[.string ⟨#[98, 97, 115, 101]⟩, .slice none 0 0, .slice none 0 0, .slice (some ⟨w.heap.size + 1, 0, none⟩) 2 2, .slice none 0 0, .slice none 0 0] 35 := by
    have := Blk.new ((w.alloc (.cells #[.string ⟨#[]⟩, .slice none 0 0, .slice none 0 0, .slice none 0 0, .slice none 0 0, .slice none 0 0] 35)).alloc (.cells #[.string ⟨#[100]⟩, .int .i64 10, .int .i64 (-1), .int .i64 1, .string ⟨#[101]⟩, .int .i64 20, .int .i64 (-1), .int .i64 1] 81)) #[.string ⟨#[98, 97, 115, 101]⟩, .slice none 0 0, .slice none 0 0, .slice (some ⟨w.heap.size + 1, 0, none⟩) 2 2, .slice none 0 0, .slice none 0 0] 35
    simpa using this
  have hb3 := below3 w (.cells #[.string ⟨#[]⟩, .slice none 0 0, .slice none 0 0, .slice none 0 0, .slice none 0 0, .slice none 0 0] 35) (.cells #[.string ⟨#[100]⟩, .int .i64 10, .int .i64 (-1), .int .i64 1, .string ⟨#[101]⟩, .int .i64 20, .int .i64 (-1), .int .i64 1] 81) (.cells #[.string ⟨#[98, 97, 115, 101]⟩, .slice none 0 0, .slice none 0 0, .slice (some ⟨w.heap.size + 1, 0, none⟩) 2 2, .slice none 0 0, .slice none 0 0] 35)
  have hzb : Blk (((w.alloc (.cells #[.string ⟨#[]⟩, .slice none 0 0, .slice none 0 0, .slice none 0 0, .slice none 0 0, .slice none 0 0] 35)).alloc (.cells #[.string ⟨#[100]⟩, .int .i64 10, .int .i64 (-1), .int .i64 1, .string ⟨#[101]⟩, .int .i64 20, .int .i64 (-1), .int .i64 1] 81)).alloc (.cells #[.string ⟨#[98, 97, 115, 101]⟩, .slice none 0 0, .slice none 0 0, .slice (some ⟨w.heap.size + 1, 0, none⟩) 2 2, .slice none 0 0, .slice none 0 0] 35)) w.heap.size #[.string ⟨#[]⟩, .slice none 0 0, .slice none 0 0, .slice none 0 0, .slice none 0 0, .slice none 0 0] 35 := ((Blk.new w _ 35).old _).old _
  have hsz : (((w.alloc (.cells #[.string ⟨#[]⟩, .slice none 0 0, .slice none 0 0, .slice none 0 0, .slice none 0 0, .slice none 0 0] 35)).alloc (.cells #[.string ⟨#[100]⟩, .int .i64 10, .int .i64 (-1), .int .i64 1, .string ⟨#[101]⟩, .int .i64 20, .int .i64 (-1), .int .i64 1] 81)).alloc (.cells #[.string ⟨#[98, 97, 115, 101]⟩, .slice none 0 0, .slice none 0 0, .slice (some ⟨w.heap.size + 1, 0, none⟩) 2 2, .slice none 0 0, .slice none 0 0] 35)).heap.size = w.heap.size + 3 := by simp
  generalize (((w.alloc (.cells #[.string ⟨#[]⟩, .slice none 0 0, .slice none 0 0, .slice none 0 0, .slice none 0 0, .slice none 0 0] 35)).alloc (.cells #[.string ⟨#[100]⟩, .int .i64 10, .int .i64 (-1), .int .i64 1, .string ⟨#[101]⟩, .int .i64 20, .int .i64 (-1), .int .i64 1] 81)).alloc (.cells #[.string ⟨#[98, 97, 115, 101]⟩, .slice none 0 0, .slice none 0 0, .slice (some ⟨w.heap.size + 1, 0, none⟩) 2 2, .slice none 0 0, .slice none 0 0] 35)) = W at *
  go_loopw [2] (fun i wr => ∃ k : Nat, ∃ a c xs, k ≤ 3 ∧ i = .int .i64 k ∧ Below w.heap.size w wr ∧ w.heap.size + 3 ≤ wr.heap.size ∧ Blk wr w.heap.size #[.string ⟨#[]⟩, .slice none 0 0, .slice none 0 0, .slice none 0 0, .slice none 0 0, .slice none 0 0] 35 ∧
      Blk wr (w.heap.size + 1) #[.string ⟨#[100]⟩, .int .i64 10, .int .i64 (-1), .int .i64 1, .string ⟨#[101]⟩, .int .i64 20, .int .i64 (-1), .int .i64 1] 81 ∧ Blk wr (w.heap.size + 1 + 1) #[.string ⟨#[98, 97, 115, 101]⟩, .slice none 0 0, .slice a k c, .slice (some ⟨w.heap.size + 1, 0, none⟩) 2 2, .slice none 0 0, .slice none 0 0] 35 ∧
      wr.ownsRow (w.heap.size + 3) 105 9 (.slice a k c) k xs ∧ xs = (((List.range k).map optS).map instC).flatten) (fun i _ => 3 - (intOf i).toNat)
  case atStart => exact ⟨0, none, 0, [], by omega, rfl, hb3, by omega, hzb, hdb, hpb, World.ownsRow_nil _ _ _ _, rfl⟩
  case round =>
    obtain ⟨k, a, c, xs, hk, rfl, hbw, hws, hzb, hdb, hpb, hown, hxs⟩ := hrel
    have Hxs := Lib.hid hxs
    clear hxs
    clear hb3 hsz
    by_cases hlt2 : k < 3
    · have c0 := hpb.cell 2
      simp only [List.getElem?_toArray, List.getElem?_cons_succ, List.getElem?_cons_zero] at c0
      have hne : (Value.slice a k c).ownBlock ≠ some (w.heap.size + 1 + 1) := fun h => by have := (hown.lt _ h).1; omega
      have HO : Hid (∀ w2, Calls Try.prog 37 #[.int .i64 (k : Int)] w2 (Ret (.string (optS k)) w2)) := fun w2 => option_any k w2 (by omega)
      have Hown := Lib.hid hown
      have Hpb := Lib.hid hpb
      clear hown hpb
      go_wp2
      go_region_law (first
        | (refine stepApp E28 (by decide) _ (by rfl) _ _ (by rfl) (w.heap.size + 3) k _ xs _ (by rfl) (by rfl) (hown1.alloc _) (heap_alloc_new wb _) (by rfl) (by simp [Value.oneCell']) (by omega) (by decide) (by have := hbb.size; simp; omega) ?_; intro g cap w1 hown2 hgr hat hlt; have hpb2 := (hpb1.old _).grown hgr hne; have c3 := hpb2.cell 2; simp only [List.getElem?_toArray, List.getElem?_cons_succ, List.getElem?_cons_zero] at c3; have f3 := hpb2.free 2)
        | (go_simp; refine (HO.out _).mono ?_; rintro e wb ⟨rfl, hbb⟩; have hbb := undrew hbb; have hpb1 := Hpb.out.below hbb; have cb := hpb1.cell 2; have cblt := hpb1.lt; simp only [List.getElem?_toArray, List.getElem?_cons_succ, List.getElem?_cons_zero] at cb; have hown1 := own_below Hown.out hbb))
      all_goals go_wp2
      all_goals
        have hz2 := ((hzb.below hbb).old (.cells _ 105)).grown hgr (fun h => by have := (hown1.lt _ h).1; omega)
        have hd2 := ((hdb.below hbb).old (.cells _ 105)).grown hgr (fun h => by have := (hown1.lt _ h).1; omega)
        have hbw1 := below_app (hbw.via hbb hbw.size) (own_base hown1 (Nat.le_add_right _ 3)) hgr (Nat.le_trans hbw.size hbb.size)
        go_roundw
        case rel =>
          refine ⟨k + 1, _, cap, _, by omega, by go_num, hbw1.setCell (p := ⟨w.heap.size + 1 + 1, 2, none⟩) (show w.heap.size ≤ w.heap.size + 1 + 1 by omega) _, ?_, hz2.other (p := ⟨w.heap.size + 1 + 1, 2, none⟩) (show w.heap.size ≠ w.heap.size + 1 + 1 by omega) _,
            hd2.other (p := ⟨w.heap.size + 1 + 1, 2, none⟩) (show w.heap.size + 1 ≠ w.heap.size + 1 + 1 by omega) _, hpb2.set 2 _, ownsRow_setCell_below hown2 (a := ⟨w.heap.size + 1 + 1, 2, none⟩) (show w.heap.size + 1 + 1 < w.heap.size + 3 by omega) _, by rw [Hxs.out, List.range_succ, List.map_append, List.map_append, List.flatten_append]; rfl⟩
          have h1 := hgr.size
          have h2 := hbb.size
          simp [World.setCell] at h1 ⊢
          omega
        case measure => simp [intOf]; omega
    · obtain ⟨⟨z0, z1, z2, z3, z4, z5⟩, ⟨g0, g1, g2, g3, g4, g5⟩⟩ := blk6 hzb
      obtain ⟨⟨p0, p1, p2, p3, p4, p5⟩, -⟩ := blk6 hpb
      have Z := Lib.hid hzb
      have D := Lib.hid hdb
      have Hown3 := Lib.hid hown
      clear hzb hdb hpb hown
      go_wp2
      have : k = 3 := by omega
      subst this
      have hz := Z.out.set6 (.string ⟨#[98, 97, 115, 101]⟩) (.slice none 0 0) (.slice a 3 c) (.slice (some ⟨w.heap.size + 1, 0, none⟩) 2 2) (.slice none 0 0) (.slice none 0 0)
      have hd := D.out.other6 (b := w.heap.size) (.string ⟨#[98, 97, 115, 101]⟩) (.slice none 0 0) (.slice a 3 c) (.slice (some ⟨w.heap.size + 1, 0, none⟩) 2 2) (.slice none 0 0) (.slice none 0 0) (by omega)
      have hB := below_set6 (b := w.heap.size) (.string ⟨#[98, 97, 115, 101]⟩) (.slice none 0 0) (.slice a 3 c) (.slice (some ⟨w.heap.size + 1, 0, none⟩) 2 2) (.slice none 0 0) (.slice none 0 0) hbw (Nat.le_refl _)
      have hi := Hown3.out
      rw [Hxs.out] at hi
      have h0 := ownsRow_setCell_below hi (a := ⟨w.heap.size, 0, none⟩) (show w.heap.size < w.heap.size + 3 by omega) (.string ⟨#[98, 97, 115, 101]⟩)
      have h1 := ownsRow_setCell_below h0 (a := ⟨w.heap.size, 1, none⟩) (show w.heap.size < w.heap.size + 3 by omega) (.slice none 0 0)
      have h2 := ownsRow_setCell_below h1 (a := ⟨w.heap.size, 2, none⟩) (show w.heap.size < w.heap.size + 3 by omega) (.slice a 3 c)
      have h3 := ownsRow_setCell_below h2 (a := ⟨w.heap.size, 3, none⟩) (show w.heap.size < w.heap.size + 3 by omega) (.slice (some ⟨w.heap.size + 1, 0, none⟩) 2 2)
      have h4 := ownsRow_setCell_below h3 (a := ⟨w.heap.size, 4, none⟩) (show w.heap.size < w.heap.size + 3 by omega) (.slice none 0 0)
      have h5 := ownsRow_setCell_below h4 (a := ⟨w.heap.size, 5, none⟩) (show w.heap.size < w.heap.size + 3 by omega) (.slice none 0 0)
      have hIn := own_insts h5
      obtain ⟨⟨s0, s1, s2, s3, s4, s5⟩, -⟩ := blk6 hz
      refine bodyPost_ret (v := .agg #[.string ⟨#[98, 97, 115, 101]⟩, .slice none 0 0, .slice a 3 c, .slice (some ⟨w.heap.size + 1, 0, none⟩) 2 2, .slice none 0 0, .slice none 0 0]) (by simp [results, Try.results13, go_sem, s0, s1, s2, s3, s4, s5]) rfl ⟨_, _, _, _, rfl, baseDims_of hd, fun k hk => (by simp [Value.ownBlock] at hk; omega), hIn, fun b hb => by have := (h5.lt b hb).1; omega, hB⟩

end Go.Proofs.Ytkphggmbimjhjaa
