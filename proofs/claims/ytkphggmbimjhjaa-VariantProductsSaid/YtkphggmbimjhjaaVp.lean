/-
  VariantProducts: the walk.
-/
import Derived.Test.YtkphggmbimjhjaaFat
import Derived.Test.YtkphggmbimjhjaaAll
import Derived.Test.YtkphggmbimjhjaaSame
import Derived.Test.YtkphggmbimjhjaaPk
import Derived.Deep.CutBlock
import Derived.Deep.DeepCutAuto
namespace Go.Proofs.Ytkphggmbimjhjaa
open Go.RowKit

theorem or_used {us j : Nat} (h : us < 2 ^ j) (hj : j ≤ 6) : bits .or .i64 (us : Int) (wrap64 (2 ^ j)) = ((us ||| 2 ^ j : Nat) : Int) := by
  have hp : (2 : Nat) ^ j ≤ 2 ^ 6 := Nat.pow_le_pow_right (by omega) hj
  have hw : wrap64 (2 ^ j) = 2 ^ j := by
    have : (2 : Int) ^ j = ((2 ^ j : Nat) : Int) := by exact_mod_cast rfl
    rw [this]
    generalize (2 : Nat) ^ j = e at hp ⊢
    exact IntWalk.wrap64_in _ (by omega)
  have hi : (2 : Int) ^ j = ((2 ^ j : Nat) : Int) := by exact_mod_cast rfl
  rw [hw, hi]
  generalize (2 : Nat) ^ j = e at h hp ⊢
  exact i64_or_nat _ _ (by omega) (by omega)
theorem names_broken {k i : Nat} (hk : k ≤ 6) (hi : i < 2 ^ k) {rs : List Rule1} (hl : ∀ r ∈ rs, LitsOk k r.2) :
    cBroken (pCfg (optsTo k) (sel (fun o => setB (setN k i) o) (optsTo k)) (sel (fun o => setB (setN k i) o) (optsTo k)).length : Int) rs = mBroken (setN k i) (List.replicate rs.length false) rs := by
  obtain ⟨h1, h2⟩ := names_read k hk i hi
  rw [← p_broken (optsTo_len k) (by omega) h1 hl]
  exact mBroken_same h2 hl

theorem setsL_get {k i : Nat} (hi : i < 2 ^ k) : (setsL k)[i]? = some (setN k i) := by
  unfold setsL setsTo setN
  rw [List.getElem?_map, List.getElem?_range hi]; rfl
theorem setN_range {k : Nat} (hk : k ≤ 6) (i : Nat) : 0 ≤ setN k i ∧ setN k i < 4096 := by
  have h := revTo_lt k (2 ^ k - 1 - i) k
  have h2 : (2 : Nat) ^ k ≤ 2 ^ 6 := Nat.pow_le_pow_right (by omega) hk
  unfold setN rev
  omega
theorem sel_sub {α : Type} (p : Nat → Bool) (xs : List α) : ∀ x ∈ sel p xs, x ∈ xs := by
  unfold sel
  generalize 0 = k
  induction xs generalizing k with
  | nil => intro x hx; simp [selFrom] at hx
  | cons y ys ih =>
    intro x hx
    simp only [selFrom] at hx
    split at hx
    · rcases List.mem_cons.1 hx with rfl | h
      · simp
      · exact List.mem_cons_of_mem _ (ih _ _ h)
    · exact List.mem_cons_of_mem _ (ih _ _ hx)

theorem insts_lt {w : World} {v : Value} {n : ByteArray} {ns : List ByteArray} (h : Insts w v (n :: ns)) : ∀ b, v.ownBlock = some b → b < w.heap.size := by
  intro b hb
  obtain ⟨a, cap, rfl, hle, _, hh⟩ := h
  rcases hh with h0 | ⟨b', off, rfl, hlt, _⟩
  · simp at hle; omega
  · simp only [Value.ownBlock, Option.some.injEq] at hb
    omega
theorem set10_insts {w : World} {v : Value} {ns : List ByteArray} (h : Insts w v ns) {R : Nat} (hp : ∀ k, v.ownBlock = some k → k ≠ R) (y0 y1 y2 y3 y4 y5 y6 y7 y8 y9 : Value) : Insts (set10 w R y0 y1 y2 y3 y4 y5 y6 y7 y8 y9) v ns :=
  (((((((((h.set (p := ⟨R, 0, none⟩) hp y0).set (p := ⟨R, 1, none⟩) hp y1).set (p := ⟨R, 2, none⟩) hp y2).set (p := ⟨R, 3, none⟩) hp y3).set (p := ⟨R, 4, none⟩) hp y4).set (p := ⟨R, 5, none⟩) hp y5).set (p := ⟨R, 6, none⟩) hp y6).set (p := ⟨R, 7, none⟩) hp y7).set (p := ⟨R, 8, none⟩) hp y8).set (p := ⟨R, 9, none⟩) hp y9
theorem guardsTo_lits {n : Nat} {R : List (List Int)} {k : Nat} : ∀ r ∈ guardsTo n R k, LitsOk n r.2 := fun r hr => by
  obtain ⟨j, _, rfl⟩ := List.mem_map.1 hr
  exact litErr_ok (decodeL_ok n _)
theorem ovsTo_lits {n : Nat} {R : List (List Int)} {k : Nat} : ∀ r ∈ ovsTo n R k, LitsOk n r.1 := fun r hr => by
  obtain ⟨j, _, rfl⟩ := List.mem_map.1 hr
  exact litErr_ok (decodeL_ok n _)

/-- What Product answers for number i: the name, the instances, the dimensions, the error. -/
def pBad (k : Nat) (RS : List Rule1) (i : Nat) : Bool := decide (0 ≤ mBroken (setN k i) (List.replicate RS.length false) RS)
def pNm (k : Nat) (RS : List Rule1) (i : Nat) : ByteArray := if pBad k RS i then ⟨#[]⟩ else ⟨#[98, 97, 115, 101]⟩
def pIn (k : Nat) (RS : List Rule1) (GS : List Guard1) (NS : List ByteArray) (i : Nat) : List ByteArray := if pBad k RS i then [] else insTo (fun j => !awayB (mHolds (setN k i)) GS j) NS NS.length
def pDm (k : Nat) (RS : List Rule1) (OS : List Ov1) (i : Nat) : List Dim1 := if pBad k RS i then [] else ovrTo (mHolds (setN k i)) OS baseDims OS.length
def pEr (k : Nat) (RS : List Rule1) (i : Nat) : Int := if pBad k RS i then 17 else 0

theorem prod34_any {k i : Nat} (hk : k ≤ 6) (hi : i < 2 ^ k) {w : World} {a7 a8 a9 a10 ai ad : Option Addr} {c7 c8 c9 c10 ci cd m ng no : Nat} {sv : Value} {RS : List Rule1} {GS : List Guard1} {OS : List Ov1} {NS : List ByteArray}
    (_ : RS.length = m) (_ : GS.length = ng) (_ : OS.length = no) (hF : Fam w baseS nilV (.slice ai 3 ci) (.slice ad 2 cd) nilV nilV (.slice a7 k c7) (.slice a8 m c8) (.slice a9 ng c9) (.slice a10 no c10) (optsTo k) RS GS OS 3 baseDims)
    (hI : Insts w (.slice ai 3 ci) NS) (hN : NS.length = 3) (hR : ∀ r ∈ RS, LitsOk k r.2) (hG : ∀ g ∈ GS, LitsOk k g.2) (hO : ∀ v ∈ OS, LitsOk k v.1) (hS : Strs w sv (sel (fun o => setB (setN k i) o) (optsTo k))) :
    Calls Try.prog 34 #[.agg #[baseS, nilV, .slice ai 3 ci, .slice ad 2 cd, nilV, nilV, .slice a7 k c7, .slice a8 m c8, .slice a9 ng c9, .slice a10 no c10], sv] w
      (fun e w' => ∃ ia ic da dc, e = .returned (.tuple #[.agg #[.string (pNm k RS i), nilV, .slice ia (pIn k RS GS NS i).length ic, .slice da (pDm k RS OS i).length dc, nilV, nilV], .int .i64 (pEr k RS i)]) ∧ Insts w' (.slice ia (pIn k RS GS NS i).length ic) (pIn k RS GS NS i) ∧
        Dims w' (.slice da (pDm k RS OS i).length dc) (pDm k RS OS i) ∧ FreshV w.heap.size (.slice ia (pIn k RS GS NS i).length ic) ∧ FreshV w.heap.size (.slice da (pDm k RS OS i).length dc) ∧ Below w.heap.size w w') := by
  have hl := sel_len (α := ByteArray) (fun o => setB (setN k i) o) (optsTo k)
  rw [optsTo_len] at hl
  have hz : ∀ o ∈ sel (fun o => setB (setN k i) o) (optsTo k), o.size ≤ maxLen := fun o ho => maxLen_name (hF.ok.optName o (sel_sub _ _ o ho))
  have hE := (names_read k hk i hi).1
  have hX := names_broken hk hi hR
  have hb := names_bits hk hi
  have hm : ∀ ch : List Lit1, LitsOk k ch → mHolds (setN k i) ch = cHolds (pCfg (optsTo k) (sel (fun o => setB (setN k i) o) (optsTo k)) (sel (fun o => setB (setN k i) o) (optsTo k)).length : Int) ch := fun ch hch => holds_bits hb hch
  cases hbad : pBad k RS i
  · have h0 : mBroken (setN k i) (List.replicate RS.length false) RS < 0 := by
      unfold pBad at hbad
      simpa using hbad
    have e1 : insTo (fun j => !awayB (mHolds (setN k i)) GS j) NS NS.length = _ := insTo_congr (fun g hg => hm g.2 (hG g hg)) NS NS.length
    have e2 : ovrTo (mHolds (setN k i)) OS baseDims OS.length = _ := ovrTo_congr (fun v hv => hm v.1 (hO v hv)) baseDims OS.length
    simp only [pNm, pIn, pDm, pEr, hbad, Bool.false_eq_true, if_false]
    rw [e1, e2]
    have h := prod34_ok ⟨#[98, 97, 115, 101]⟩ ai ad ci cd NS (.slice a7 k c7) (.slice a8 m c8) (.slice a9 ng c9) (.slice a10 no c10) sv (optsTo k) _ RS GS OS 3 baseDims w (by rw [hN]; exact hF) hS (by omega) hz _ hE hX h0 (by rw [hN]; exact hI) (by omega) (by decide)
    rw [hN] at h
    rw [hN]
    refine h.mono fun e w' ⟨ia, ic, da, dc, h1, h2, h3, h4, h5, h6⟩ => ⟨ia, ic, da, dc, ?_, h2, ?_, h4, ?_, h6⟩
    · rw [ovrTo_len]; exact h1
    · rw [ovrTo_len]; exact h3
    · rw [ovrTo_len]; exact h5
  · have h0 : 0 ≤ mBroken (setN k i) (List.replicate RS.length false) RS := by
      unfold pBad at hbad
      simpa using hbad
    simp only [pNm, pIn, pDm, pEr, hbad, if_true]
    have h := prod34_bad baseS nilV (.slice ai 3 ci) (.slice ad 2 cd) nilV nilV (.slice a7 k c7) (.slice a8 m c8) (.slice a9 ng c9) (.slice a10 no c10) sv (optsTo k) _ RS GS OS 3 baseDims w hF hS (by omega) hz _ hE hX h0
    exact h.mono fun e w' ⟨h1, h2⟩ => ⟨none, 0, none, 0, h1, Sl.nil _ _, Sl.nil _ _, fun b hb => by simp [Value.ownBlock] at hb, fun b hb => by simp [Value.ownBlock] at hb, h2⟩

/-- A product in a variable. -/
def PrAt (w : World) (P : Nat) (nm : ByteArray) (NS : List ByteArray) (DS : List Dim1) : Prop :=
  ∃ ia ic da dc, Blk w P #[.string nm, nilV, .slice ia NS.length ic, .slice da DS.length dc, nilV, nilV] 35 ∧ Insts w (.slice ia NS.length ic) NS ∧ Dims w (.slice da DS.length dc) DS
theorem PrAt.below {w w' : World} {P : Nat} {nm : ByteArray} {NS : List ByteArray} {DS : List Dim1} (h : PrAt w P nm NS DS) (hb : Below w.heap.size w w') : PrAt w' P nm NS DS := by
  obtain ⟨ia, ic, da, dc, h1, h2, h3⟩ := h
  exact ⟨ia, ic, da, dc, h1.below hb, h2.mono hb, h3.mono hb⟩

set_option maxHeartbeats 8000000 in
set_option maxRecDepth 100000 in
theorem products_any (N : Int) (R D O : List (List Int)) (a2 a3 a4 : Option Addr) (c2 c3 c4 : Nat)  (w : World) (h11 : Hid (∀ w, Calls Try.prog 11 #[] w (Ret (.bool true) w))) (hN0 : 0 ≤ N) (hN : N < 256)
    (hRr : ∀ r ∈ R, ∀ x ∈ r, -128 ≤ x ∧ x ≤ 127) (hDr : ∀ r ∈ D, ∀ x ∈ r, -128 ≤ x ∧ x ≤ 127) (hOr : ∀ r ∈ O, ∀ x ∈ r, -128 ≤ x ∧ x ≤ 127) (hR : M8 w (.slice a2 R.length c2) R) (hD : M8 w (.slice a3 D.length c3) D) (hO : M8 w (.slice a4 O.length c4) O)  :
    Calls Try.prog 10 #[.agg #[.int .u8 N, .slice a2 R.length c2, .slice a3 D.length c3, .slice a4 O.length c4]] w (Ret (.bool true) w) := by
  have HFa0 := Lib.hid (fun w2 ai ci ad cd (h2 : Below w.heap.size w w2) (hdim : Dims w2 (.slice ad 2 cd) baseDims) => family_any N R D O (.slice a2 R.length c2) (.slice a3 D.length c3) (.slice a4 O.length c4) ai ci ad cd w2 hN0 hN hRr hDr hOr (hR.mono h2) (hD.mono h2) (hO.mono h2) hdim)
  obtain ⟨k, Hk, hk1, hk6⟩ : ∃ k : Nat, Hid ((1 + N % 6).toNat = k) ∧ 1 ≤ k ∧ k ≤ 6 := ⟨_, Lib.hid rfl, by omega, by omega⟩
  rw [Hk.out] at HFa0
  clear hRr hDr hOr hR hD hO hN0 hN Hk
  generalize hn2 : R.length = n2 at *
  generalize hn3 : D.length = n3 at *
  generalize hn4 : O.length = n4 at *
  have Hn2 := Lib.hid hn2
  have Hn3 := Lib.hid hn3
  have Hn4 := Lib.hid hn4
  clear hn2 hn3 hn4
  go_enter Try.func10, Try.ntmps10
  go_upto_region 4 with (go_at_call 11; refine (h11.out _).mono ?_; rintro e w1 ⟨rfl, hb1⟩)
  go_cut [3] (fun s5 wx => ∃ B ai ci ad cd a7 c7 a8 c8 a9 c9 a10 c10, s5 = .pointer (some ⟨B, 0, none⟩) ∧ FamAt wx B k R D O ai ci ad cd a7 c7 a8 c8 a9 c9 a10 c10 ∧ Insts wx (.slice ai 3 ci) [optS 0, optS 1, optS 2] ∧ Below w.heap.size w wx)
  case first =>
    have hb0 := below1 w (.cells #[.int .u8 N, .slice a2 n2 c2, .slice a3 n3 c3, .slice a4 n4 c4] 24)
    have hbw : Below w.heap.size w w1 := hb0.via hb1 hb0.size
    have Hkin := Lib.hid (fun w' (h : Below w1.heap.size w1 w') => blk4 (((Blk.new w #[.int .u8 N, .slice a2 n2 c2, .slice a3 n3 c3, .slice a4 n4 c4] 24).below hb1).below h))
    have HFa := Lib.hid (fun w2 ai ci ad cd (h2 : Below w1.heap.size w1 w2) hdim => HFa0.out w2 ai ci ad cd (hbw.via h2 hbw.size) hdim)
    refine wp_region_pop (S := (fun w' => w'.cell? ⟨w.heap.size, 0, none⟩ = some (.int .u8 N) ∧ w'.cell? ⟨w.heap.size, 1, none⟩ = some (.slice a2 n2 c2) ∧ w'.cell? ⟨w.heap.size, 2, none⟩ = some (.slice a3 n3 c3) ∧ w'.cell? ⟨w.heap.size, 3, none⟩ = some (.slice a4 n4 c4))) 4 (by kernel_rfl) (by kernel_rfl) (by exact Hkin.out w1.drew (Below.refl _ _).drew) (fun hHeld => ?_)
    simp only [List.take_succ_cons, List.take_zero, List.drop_succ_cons, List.drop_zero]
    refine wpAnyH_take (i := 0) (v := ?v1) rfl (by kernel_rfl) (by kernel_rfl) (by kernel_rfl) (fun _ _ _ h => h) (Or.inl ⟨by rfl, ?hy1⟩) (by assumption) ?rest1
    case hy1 => (intro w hSw; (try dsimp only at hSw); go_simp; try (with_reducible rfl))
    try simp only [Act.put, List.getElem_toArray, List.getElem_cons_zero, List.setIfInBounds_toArray, List.set_cons_zero, List.set_cons_succ]
    refine wpAnyH_ready (rs := [1, 3]) (by kernel_rfl) (by simp) ?_
    refine AllReadyH.cons rfl (fun K hK => ?_) (AllReadyH.cons rfl (fun K hK => ?_) AllReadyH.nil)
    · go_simp
      go_at_call 13
      refine (plain_all _).mono ?_
      rintro e w2 ⟨ai, ci, ad, cd, rfl, hdim, hfr, hin, hif, hb2⟩
      have Hdim := Lib.hid hdim
      have Hfr := Lib.hid hfr
      have HIn := Lib.hid hin
      have HIf := Lib.hid hif
      clear hdim hfr hin hif
      have Hb2 := Lib.hid (show Below w1.heap.size w1 w2 from undrew hb2)
      have hk2 := Hkin.out w2 Hb2.out
      refine hK.out _ _ (by exact hk2) (fun hHeld => ?_)
      clear hK K
      try simp only [Act.put, List.setIfInBounds_toArray, List.set_cons_zero, List.set_cons_succ]
      refine wpAnyH_ready (rs := [2, 3]) (by kernel_rfl) (by simp) ?_
      refine AllReadyH.cons rfl (fun K hK => ?_) (AllReadyH.cons rfl (fun K hK => ?_) AllReadyH.nil)
      · go_simp
        go_at_call 12
        refine (HFa.out _ ai ci ad cd (by exact Hb2.out) (by exact Hdim.out)).mono ?_
        rintro e w3 ⟨a7, c7, a8, c8, a9, c9, a10, c10, rvk, rfl, hP⟩
        have HP := Lib.hid hP
        clear hP
        have Hb3 := Lib.hid (show Below w1.heap.size w1 w3 from (Hb2.out).via HP.out.below (Hb2.out).size)
        have hk3 := Hkin.out w3 Hb3.out
        refine hK.out _ _ (by exact hk3) (fun hHeld => ?_)
        clear hK K
        try simp only [Act.put, List.setIfInBounds_toArray, List.set_cons_zero, List.set_cons_succ]
        refine wpAnyH_ready (rs := [3]) (by kernel_rfl) (by simp) ?_
        refine AllReadyH.cons rfl (fun K hK => ?_) AllReadyH.nil
        go_simp
        refine hK.out _ _ (by exact Hkin.out _ (Hb3.out.alloc Hb3.out.size _)) (fun hHeld => ?_)
        clear hK K
        try simp only [Act.put, List.setIfInBounds_toArray, List.set_cons_zero, List.set_cons_succ]
        refine wpAnyH_done (by kernel_rfl) ?_ _
        simp only [Exit.then]
        go_wp2_with fail
        go_meet
        exact ⟨_, ai, ci, ad, cd, a7, c7, a8, c8, a9, c9, a10, c10, rfl, famAt_new HP.out hk6 Hdim.out, (HIn.out.mono HP.out.below).mono (below1 _ _), (hbw.via Hb3.out hbw.size).alloc (by have := hbw.size; have := Hb3.out.size; omega) _⟩
      · go_simp
        have HZ := Lib.hid (Blk.new w2 #[.string ⟨#[]⟩, .slice none 0 0, .slice none 0 0, .slice none 0 0, .slice none 0 0, .slice none 0 0, .slice none 0 0, .slice none 0 0, .slice none 0 0, .slice none 0 0] 41)
        refine hK.out _ _ (by exact Hkin.out _ (Hb2.out.alloc Hb2.out.size _)) (fun hHeld => ?_)
        clear hK K
        try simp only [Act.put, List.setIfInBounds_toArray, List.set_cons_zero, List.set_cons_succ]
        refine wpAnyH_ready (rs := [2]) (by kernel_rfl) (by simp) ?_
        refine AllReadyH.cons rfl (fun K hK => ?_) AllReadyH.nil
        go_simp
        go_at_call 12
        refine (HFa.out _ ai ci ad cd (by exact (Hb2.out.alloc Hb2.out.size _)) (by exact (Hdim.out.mono (below1 _ _)))).mono ?_
        rintro e w3 ⟨a7, c7, a8, c8, a9, c9, a10, c10, rvk, rfl, hP⟩
        have HP := Lib.hid hP
        clear hP
        have Hb3 := Lib.hid (show Below w1.heap.size w1 w3 from ((Hb2.out.alloc Hb2.out.size _)).via HP.out.below ((Hb2.out.alloc Hb2.out.size _)).size)
        have hk3 := Hkin.out w3 Hb3.out
        refine hK.out _ _ (by exact hk3) (fun hHeld => ?_)
        clear hK K
        try simp only [Act.put, List.setIfInBounds_toArray, List.set_cons_zero, List.set_cons_succ]
        refine wpAnyH_done (by kernel_rfl) ?_ _
        simp only [Exit.then]
        have HZ3 := Lib.hid (HZ.out.below HP.out.below)
        obtain ⟨z0, z1, z2, z3, z4, z5, z6, z7, z8, z9, r0, r1, r2, r3, r4, r5, r6, r7, r8, r9⟩ := blk10 HZ3.out
        go_wp2_with fail
        go_meet
        exact ⟨_, ai, ci, ad, cd, a7, c7, a8, c8, a9, c9, a10, c10, rfl, famAt_store HP.out hk6 HZ3.out (by simp) (Hdim.out.mono (below1 _ _)) (fun b hb => by have := dims_lt Hdim.out b hb; omega), set10_insts ((HIn.out.mono (below1 w2 _)).mono HP.out.below) (fun b hb => by have := insts_lt HIn.out b hb; omega) _ _ _ _ _ _ _ _ _ _, below_set10 (hbw.via Hb3.out hbw.size) (by have := hbw.size; have := Hb2.out.size; omega) _ _ _ _ _ _ _ _ _ _⟩
    · go_simp
      have HZ1 := Lib.hid (Blk.new w1 #[.string ⟨#[]⟩, .slice none 0 0, .slice none 0 0, .slice none 0 0, .slice none 0 0, .slice none 0 0, .slice none 0 0, .slice none 0 0, .slice none 0 0, .slice none 0 0] 41)
      refine hK.out _ _ (by exact Hkin.out _ ((below1 w1 _).dn 1)) (fun hHeld => ?_)
      clear hK K
      try simp only [Act.put, List.setIfInBounds_toArray, List.set_cons_zero, List.set_cons_succ]
      refine wpAnyH_ready (rs := [1]) (by kernel_rfl) (by simp) ?_
      refine AllReadyH.cons rfl (fun K hK => ?_) AllReadyH.nil
      go_simp
      go_at_call 13
      refine (plain_all _).mono ?_
      rintro e w2 ⟨ai, ci, ad, cd, rfl, hdim, hfr, hin, hif, hb2⟩
      have Hdim := Lib.hid hdim
      have Hfr := Lib.hid hfr
      have HIn := Lib.hid hin
      have HIf := Lib.hid hif
      clear hdim hfr hin hif
      have Hb2 := Lib.hid (show Below w1.heap.size w1 w2 from (below1 w1 _).via (undrew hb2) (by simp))
      have hk2 := Hkin.out w2 Hb2.out
      refine hK.out _ _ (by exact hk2) (fun hHeld => ?_)
      clear hK K
      try simp only [Act.put, List.setIfInBounds_toArray, List.set_cons_zero, List.set_cons_succ]
      have HZ := Lib.hid (HZ1.out.below (undrew hb2))
      refine wpAnyH_ready (rs := [2]) (by kernel_rfl) (by simp) ?_
      refine AllReadyH.cons rfl (fun K hK => ?_) AllReadyH.nil
      go_simp
      go_at_call 12
      refine (HFa.out _ ai ci ad cd (by exact Hb2.out) (by exact Hdim.out)).mono ?_
      rintro e w3 ⟨a7, c7, a8, c8, a9, c9, a10, c10, rvk, rfl, hP⟩
      have HP := Lib.hid hP
      clear hP
      have Hb3 := Lib.hid (show Below w1.heap.size w1 w3 from (Hb2.out).via HP.out.below (Hb2.out).size)
      have hk3 := Hkin.out w3 Hb3.out
      refine hK.out _ _ (by exact hk3) (fun hHeld => ?_)
      clear hK K
      try simp only [Act.put, List.setIfInBounds_toArray, List.set_cons_zero, List.set_cons_succ]
      refine wpAnyH_done (by kernel_rfl) ?_ _
      simp only [Exit.then]
      have HZ3 := Lib.hid (HZ.out.below HP.out.below)
      obtain ⟨z0, z1, z2, z3, z4, z5, z6, z7, z8, z9, r0, r1, r2, r3, r4, r5, r6, r7, r8, r9⟩ := blk10 HZ3.out
      go_wp2_with fail
      go_meet
      exact ⟨_, ai, ci, ad, cd, a7, c7, a8, c8, a9, c9, a10, c10, rfl, famAt_store HP.out hk6 HZ3.out (by exact HZ.out.lt) Hdim.out (fun b hb => by have := Hfr.out b hb; simp at this; omega), set10_insts (HIn.out.mono HP.out.below) (fun b hb => by have := HIf.out b hb; simp at this; omega) _ _ _ _ _ _ _ _ _ _, below_set10 (hbw.via Hb3.out hbw.size) (by have := hbw.size; omega) _ _ _ _ _ _ _ _ _ _⟩
  case rest =>
    obtain ⟨B, ai, ci, ad, cd, a7, c7, a8, c8, a9, c9, a10, c10, rfl, hFA, hin, hbw⟩ := hcut
    rename World => wx
    have HB := Lib.hid (fun w' (h : Below wx.heap.size wx w') => blk10 (hFA.blk.below h))
    have HF := Lib.hid (fun w' (h : Below wx.heap.size wx w') => hFA.fam.mono h)
    have HBc := Lib.hid (fun w' (h : Below wx.heap.size wx w') => (blk10c (HB.out w' h)))
    have hol : (optsTo k).length = k := optsTo_len k
    have hrl : (rulesTo k R (min R.length 6)).length = min R.length 6 := rulesTo_len _ _ _
    have hm6 : min R.length 6 < 1000 := by omega
    have Hbw := Lib.hid hbw
    clear hFA hbw
    obtain ⟨NS, HNS⟩ : ∃ NS, Hid ([optS 0, optS 1, optS 2] = NS) := ⟨_, rfl⟩
    have hNS3 : NS.length = 3 := by rw [← HNS.out]; rfl
    rw [HNS.out] at hin
    have HIn := Lib.hid (fun w' (h : Below wx.heap.size wx w') => hin.mono h)
    clear hin
    have Hlit := Lib.hid (show ∀ r ∈ rulesTo k R (min R.length 6), LitsOk k r.2 from rulesTo_lits)
    have HgL := Lib.hid (show ∀ g ∈ guardsTo k D (min D.length 4), LitsOk k g.2 from guardsTo_lits)
    have HoL := Lib.hid (show ∀ v ∈ ovsTo k O (min O.length 4), LitsOk k v.1 from ovsTo_lits)
    have hm66 : min R.length 6 ≤ 6 := Nat.min_le_right _ _
    have hg44 : min D.length 4 ≤ 4 := Nat.min_le_right _ _
    have ho44 : min O.length 4 ≤ 4 := Nat.min_le_right _ _
    have hgl : (guardsTo k D (min D.length 4)).length = min D.length 4 := guardsTo_len _ _ _
    have hvl : (ovsTo k O (min O.length 4)).length = min O.length 4 := ovsTo_len _ _ _
    generalize rulesTo k R (min R.length 6) = RS at *
    generalize guardsTo k D (min D.length 4) = GS at *
    generalize ovsTo k O (min O.length 4) = OS at *
    generalize min R.length 6 = m at *
    generalize min D.length 4 = ng at *
    generalize min O.length 4 = no at *
    have HFO := Lib.hid ((HF.out wx (Below.refl _ _)).ok)
    have HON := Lib.hid (show ∀ o ∈ optsTo k, o.size ≤ maxLen from fun o ho => maxLen_name (HFO.out.optName o ho))
    have hsl := sel_len (α := ByteArray) (xs := optsTo k)
    rw [hol] at hsl
    have Hsl := Lib.hid hsl
    have H29 := Lib.hid (fun w' (o : Int) (h : Below wx.heap.size wx w') (h0 : 0 ≤ o) (h1 : o < (k : Int)) => used_ok _ _ _ _ _ _ _ _ _ _ _ _ _ _ _ _ o w' (HF.out w' h) h0 (by rw [hol]; exact h1))
    rw [hgl, hvl] at H29
    have H20 := Lib.hid (fun w' s (h : Below wx.heap.size wx w') (h1 : 0 ≤ s) (h2 : s < 4096) => names20 s baseS nilV (.slice ai 3 ci) (.slice ad 2 cd) nilV nilV (.slice a7 k c7) (.slice a8 m c8) (.slice a9 ng c9) (.slice a10 no c10) (optsTo k) w' (HF.out w' h).opt (by rw [hol]; omega) h1 h2)
    have H32 := Lib.hid (fun w' ov s (h : Below wx.heap.size wx w') (ho : Bools w' ov (List.replicate m false)) (h1 : 0 ≤ s) (h2 : s < 4096) => broken_any s baseS nilV (.slice ai 3 ci) (.slice ad 2 cd) nilV nilV (.slice a7 k c7) (.slice a8 m c8) (.slice a9 ng c9) (.slice a10 no c10) ov RS (List.replicate m false) w' (HF.out w' h).rul ho (rulesOk_of HFO.out) (by rw [List.length_replicate, hrl]) (by omega) h1 h2)
    have H36 := Lib.hid (fun w' (s : Int) (h : Below wx.heap.size wx w') (h1 : 0 ≤ s) (h2 : s < 4096) => prod36 s ⟨#[98, 97, 115, 101]⟩ (.slice a7 k c7) (.slice a8 m c8) ai ad a9 a10 3 2 ng no ci cd c9 c10 NS baseDims GS OS w' (HIn.out w' h) (HF.out w' h).dims (HF.out w' h).grd (HF.out w' h).ovr (by omega) (by decide) (by omega) (by omega) (grdOk_of HFO.out) (ovrOk_of HFO.out) h1 h2 (by decide))
    have H34 := Lib.hid (fun w' (h : Below wx.heap.size wx w') (i : Nat) (hi : i < 2 ^ k) sv (hs : Strs w' sv (sel (fun o => setB (setN k i) o) (optsTo k))) => prod34_any hk6 hi hrl hgl hvl (HF.out w' h) (HIn.out w' h) hNS3 Hlit.out HgL.out HoL.out hs)
    have H35 := Lib.hid (fun w' nm NS' DS' ia id ja jd ic dc jc kc (hI : Insts w' (.slice ia (List.length NS') ic) NS') (hD : Dims w' (.slice id (List.length DS') dc) DS') (hJ : Insts w' (.slice ja (List.length NS') jc) NS') (hE : Dims w' (.slice jd (List.length DS') kc) DS') (h1 : NS'.length < 1000) (h2 : DS'.length < 1000) => same35 nm ia id ja jd NS'.length DS'.length ic dc jc kc NS' DS' w' hI hD hJ hE h1 h2)
    have HPS := Lib.hid (fun (x y : Nat) h => prod_same (k := k) (gs := GS) (os := OS) (x := x) (y := y) HgL.out HoL.out h)
    obtain ⟨N2, hN2⟩ : ∃ N2, 2 ^ k = N2 := ⟨_, rfl⟩
    have HN2 := Lib.hid hN2
    rw [hN2] at H34
    have hN264 : N2 ≤ 64 := by rw [← hN2]; exact Nat.pow_le_pow_right (show 0 < 2 by omega) hk6
    have H33 := Lib.hid (fun w' => sets_any k w' hk6)
    have Hrl := Lib.hid hrl
    have Hgl := Lib.hid hgl
    have Hvl := Lib.hid hvl
    clear hN2 hsl hrl hgl hvl hol
    obtain ⟨z0, z1, z2, z3, z4, z5, z6, z7, z8, z9, -⟩ := HB.out wx (Below.refl _ _)
    go_wp2_with (go_at_call 33; refine (H33.out _).mono ?_; rintro e w7 ⟨sv, rfl, hsv, hb7⟩; obtain ⟨sa, sc, rfl, -, -⟩ := hsv.open; rw [setsL_len, HN2.out] at hsv; rw [setsL_len, HN2.out]; have HSV := Lib.hid hsv)
    have Hb7 := Lib.hid (show Below wx.heap.size wx w7 from hb7)
    clear hb7 hsv z0 z1 z2 z3 z4 z5 z6 z7 z8 z9 H33
    go_loopw [5, 6, 7, 8, 9] (fun us i _ _ _ wr => ∃ j : Nat, j ≤ k ∧ i = .int .i64 j ∧ us = .int .i64 (usedTo (usedB GS OS) j : Nat) ∧ Below w7.heap.size w7 wr) (fun _ i _ _ _ _ => k - (intOf i).toNat)
    case atStart => exact ⟨0, Nat.zero_le _, rfl, rfl, Below.refl _ _⟩
    case round =>
      obtain ⟨j, hj, rfl, rfl, hbr⟩ := hrel
      obtain ⟨x0, x1, x2, x3, x4, x5, x6, x7, x8, x9, -⟩ := HB.out wr (Hb7.out.via hbr Hb7.out.size)
      by_cases hlt : j < k
      · have hul := usedTo_lt (usedB GS OS) j
        have hbk := Hb7.out.via hbr Hb7.out.size
        have Hbr := Lib.hid hbr
        clear hbr
        have Hus := Lib.hid (show usedTo (usedB GS OS) (j + 1) = if usedB GS OS j then usedTo (usedB GS OS) j ||| 2 ^ j else usedTo (usedB GS OS) j from rfl)
        have Hub := Lib.hid (show usedB GS OS j = decide (0 < (mTo (GS.map (·.2)) j ng).length + (mTo (OS.map (·.1)) j no).length) by unfold usedB; rw [Hgl.out, Hvl.out])
        have hl1 := mTo_len (GS.map (·.2)) j ng
        have hl2 := mTo_len (OS.map (·.1)) j no
        have H29j := Lib.hid (H29.out wr (j : Int) hbk (by omega) (by omega))
        generalize hg1 : (mTo (GS.map (·.2)) j ng).length = l1 at *
        generalize hg2 : (mTo (OS.map (·.1)) j no).length = l2 at *
        generalize hu : usedTo (usedB GS OS) j = us at *
        have Hg1 := Lib.hid hg1
        have Hg2 := Lib.hid hg2
        clear hg1 hg2 hbk
        have hor := or_used hul (by omega : j ≤ 6)
        have Hor := Lib.hid hor
        clear hor hul hu
        by_cases hz : 0 < l1 + l2
        · have hz2 : (0 : Int) < (l1 : Int) + (l2 : Int) := by omega
          have hub : usedB GS OS j = true := by rw [Hub.out]; simpa using hz
          have Hub2 := Lib.hid hub
          clear hub
          go_wp2_with (go_at_call 29; refine (H29j.out).mono ?_; rintro e w8 ⟨gv, ov, rfl, hgi, hoi, hb8⟩; obtain ⟨ga, gc, rfl, -, -⟩ := hgi.open; obtain ⟨oa, oc, rfl, -, -⟩ := hoi.open; rw [Hg1.out, Hg2.out]; have hb78 := Hbr.out.via hb8 Hbr.out.size; clear hgi hoi)
          go_roundw
          case rel => exact ⟨j + 1, by omega, by go_num, by rw [Hus.out, Hub2.out, if_pos rfl, ← Hor.out], hb78⟩
          case measure => simp [intOf]; omega
        · have hz2 : ¬ (0 : Int) < (l1 : Int) + (l2 : Int) := by omega
          have hub : usedB GS OS j = false := by rw [Hub.out]; simpa using hz
          have Hub2 := Lib.hid hub
          clear hub
          go_wp2_with (go_at_call 29; refine (H29j.out).mono ?_; rintro e w8 ⟨gv, ov, rfl, hgi, hoi, hb8⟩; obtain ⟨ga, gc, rfl, -, -⟩ := hgi.open; obtain ⟨oa, oc, rfl, -, -⟩ := hoi.open; rw [Hg1.out, Hg2.out]; have hb78 := Hbr.out.via hb8 Hbr.out.size; clear hgi hoi)
          go_roundw
          case rel => exact ⟨j + 1, by omega, by go_num, by rw [Hus.out, Hub2.out, if_neg (by simp)], hb78⟩
          case measure => simp [intOf]; omega
      · obtain rfl : k = j := by omega
        rename World => w8
        have Hb8 := Lib.hid (Hb7.out.via hbr Hb7.out.size)
        have HSV8 := Lib.hid (HSV.out.mono hbr)
        clear hbr H29
        have hul := usedTo_lt (usedB GS OS) k
        generalize hUU : usedTo (usedB GS OS) k = U at *
        have hp6 : (2 : Nat) ^ k ≤ 2 ^ 6 := Nat.pow_le_pow_right (by omega) hk6
        have hU64 : U < 64 := by omega
        clear hul hp6
        go_wp2_with fail
        clear x0 x1 x2 x3 x4 x5 x6 x7 x8 x9
        go_loopw [10, 11, 12, 13, 14, 15, 16] (fun v i _ _ _ _ _ wr => ∃ j : Nat, j ≤ N2 ∧ i = .int .i64 j ∧ Below w8.heap.size w8 wr ∧ wr.ownsRow w8.heap.size 3 1 v (seenL k RS j).length (((seenL k RS j).map fun y : Nat => (y : Int)).map (Value.int .i64))) (fun _ i _ _ _ _ _ _ => N2 - (intOf i).toNat)
        case atStart => exact ⟨0, Nat.zero_le _, rfl, Below.refl _ _, World.ownsRow_nil _ _ _ _⟩
        case round =>
          obtain ⟨i, hi, rfl, hbr, hown⟩ := hrel
          by_cases hlt2 : i < N2
          · obtain ⟨sb, so, x, rfl, hx, s0⟩ := (show Ints w8 (.slice sa N2 sc) (setsL k) from HSV8.out).at hbr hlt2
            have hxx : x = setN k i := by rw [setsL_get (by rw [HN2.out]; exact hlt2)] at hx; exact (Option.some.inj hx).symm
            have hx0 : 0 ≤ x := by rw [hxx]; exact (setN_range hk6 i).1
            have hx1 : x < 4096 := by rw [hxx]; exact (setN_range hk6 i).2
            have Hxx := Lib.hid hxx
            clear hx hxx
            have hsb := World.block_lt_of_cell? _ _ s0
            have Hbr := Lib.hid (Hb8.out.via hbr Hb8.out.size)
            have Hbr8 := Lib.hid hbr
            obtain ⟨va, vc, rfl, -, -⟩ := own_open hown
            have Hown := Lib.hid hown
            have HBy := Lib.hid (fun w' (h : Below wr.heap.size wr w') => And.intro (HBc.out w' (Hbr.out.via h Hbr.out.size)) ((h.cell (p := ⟨sb, so + i, none⟩) hsb).trans s0))
            have hii0 : (0 : Int) ≤ (i : Int) := Int.natCast_nonneg _
            have hii1 : (i : Int) < (N2 : Int) := by omega
            clear hbr hown s0
            go_upto_region 19 with fail
            go_cut [12, 13] (fun s12 s13 wz => ∃ P, s12 = .pointer (some ⟨P, 0, none⟩) ∧ s13 = .int .i64 (pEr k RS i) ∧ wr.heap.size ≤ P ∧ PrAt wz P (pNm k RS i) (pIn k RS GS NS i) (pDm k RS OS i) ∧ Below wr.heap.size wr wz)
            case first =>
              have hbd : Below wr.heap.size wr wr.drew := (Below.refl _ _).drew
              refine wp_region_held_drew (S := (fun w' => (w'.cell? ⟨B, 0, none⟩ = some baseS ∧ w'.cell? ⟨B, 1, none⟩ = some nilV ∧ w'.cell? ⟨B, 2, none⟩ = some (.slice ai 3 ci) ∧ w'.cell? ⟨B, 3, none⟩ = some (.slice ad 2 cd) ∧ w'.cell? ⟨B, 4, none⟩ = some nilV ∧ w'.cell? ⟨B, 5, none⟩ = some nilV ∧ w'.cell? ⟨B, 6, none⟩ = some (.slice a7 k c7) ∧ w'.cell? ⟨B, 7, none⟩ = some (.slice a8 m c8) ∧ w'.cell? ⟨B, 8, none⟩ = some (.slice a9 ng c9) ∧ w'.cell? ⟨B, 9, none⟩ = some (.slice a10 no c10)) ∧ w'.cell? ⟨sb, so + i, none⟩ = some (.int .i64 x))) (by kernel_rfl) (by exact HBy.out _ (Below.refl _ _).drew) (fun hHeld => ?_)
              refine wpAnyH_take (i := 0) (v := ?v2) rfl (by kernel_rfl) (by kernel_rfl) (by kernel_rfl) (fun _ _ _ h => h) (Or.inl ⟨by rfl, ?hy2⟩) (by assumption) ?rest2
              case hy2 => (intro w hSw; (try dsimp only at hSw); go_simp; try (with_reducible rfl))
              try simp only [Act.put, List.getElem_toArray, List.getElem_cons_zero, List.setIfInBounds_toArray, List.set_cons_zero, List.set_cons_succ]
              refine wpAnyH_take (i := 1) (v := ?v3) rfl (by kernel_rfl) (by kernel_rfl) (by kernel_rfl) (fun _ _ _ h => h) (Or.inl ⟨by rfl, ?hy3⟩) (by assumption) ?rest3
              case hy3 => (intro w hSw; (try dsimp only at hSw); go_simp; try (with_reducible rfl))
              try simp only [Act.put, List.getElem_toArray, List.getElem_cons_zero, List.getElem_cons_succ, List.setIfInBounds_toArray, List.set_cons_zero, List.set_cons_succ]
              refine wpAnyH_take (i := 2) (v := ?v4) rfl (by kernel_rfl) (by kernel_rfl) (by kernel_rfl) (fun _ _ _ h => h) (Or.inl ⟨by rfl, ?hy4⟩) (by assumption) ?rest4
              case hy4 => (intro w hSw; (try dsimp only at hSw); go_simp; try (with_reducible rfl))
              try simp only [Act.put, List.getElem_toArray, List.getElem_cons_zero, List.getElem_cons_succ, List.setIfInBounds_toArray, List.set_cons_zero, List.set_cons_succ]
              refine wpAnyH_take (i := 3) (v := ?v5) rfl (by kernel_rfl) (by kernel_rfl) (by kernel_rfl) (fun _ _ _ h => h) (Or.inl ⟨by rfl, ?hy5⟩) (by assumption) ?rest5
              case hy5 => (intro w hSw; (try dsimp only at hSw); go_simp; try (with_reducible rfl))
              try simp only [Act.put, List.getElem_toArray, List.getElem_cons_zero, List.getElem_cons_succ, List.setIfInBounds_toArray, List.set_cons_zero, List.set_cons_succ]
              refine wpAnyH_take (i := 4) (v := ?v6) rfl (by kernel_rfl) (by kernel_rfl) (by kernel_rfl) (fun _ _ _ h => h) (Or.inl ⟨by rfl, ?hy6⟩) (by assumption) ?rest6
              case hy6 => (intro w hSw; (try dsimp only at hSw); go_simp; try (with_reducible rfl))
              try simp only [Act.put, List.getElem_toArray, List.getElem_cons_zero, List.getElem_cons_succ, List.setIfInBounds_toArray, List.set_cons_zero, List.set_cons_succ]
              refine wpAnyH_take (i := 5) (v := ?v7) rfl (by kernel_rfl) (by kernel_rfl) (by kernel_rfl) (fun _ _ _ h => h) (Or.inl ⟨by rfl, ?hy7⟩) (by assumption) ?rest7
              case hy7 => (intro w hSw; (try dsimp only at hSw); go_simp; try (with_reducible rfl))
              try simp only [Act.put, List.getElem_toArray, List.getElem_cons_zero, List.getElem_cons_succ, List.setIfInBounds_toArray, List.set_cons_zero, List.set_cons_succ]
              refine wpAnyH_ready (rs := [6, 11]) (by kernel_rfl) (by simp) ?_
              refine AllReadyH.cons rfl (fun K hK => ?_) (AllReadyH.cons rfl (fun K hK => ?_) AllReadyH.nil)
              · go_simp
                go_at_call 20
                refine (H20.out _ x (Hbr.out.via (hbd) Hbr.out.size) hx0 hx1).mono ?_
                rintro e2 wn ⟨nv, rfl, hnv, hbn⟩
                rw [Hxx.out] at hnv
                have Hnv := Lib.hid hnv
                have Hbn := Lib.hid (show Below wr.heap.size wr wn from (hbd).via hbn (hbd).size)
                clear hnv
                clear hbn
                refine hK.out _ _ (by exact HBy.out _ Hbn.out) (fun hHeld => ?_)
                clear hK K
                try simp only [Act.put, List.setIfInBounds_toArray, List.set_cons_zero, List.set_cons_succ]
                refine wpAnyH_ready (rs := [7, 11]) (by kernel_rfl) (by simp) ?_
                refine AllReadyH.cons rfl (fun K hK => ?_) (AllReadyH.cons rfl (fun K hK => ?_) AllReadyH.nil)
                · go_simp
                  go_at_call 34
                  refine (H34.out _ (Hbr.out.via (Hbn.out) Hbr.out.size) i hlt2 _ (by exact Hnv.out)).mono ?_
                  rintro e2 wp ⟨ia, ic, da, dc, rfl, hin, hdm, hf1, hf2, hbp⟩
                  have Hin := Lib.hid hin
                  have Hdm := Lib.hid hdm
                  have Hf1 := Lib.hid hf1
                  have Hf2 := Lib.hid hf2
                  have Hbp := Lib.hid (show Below wr.heap.size wr wp from (Hbn.out).via hbp (Hbn.out).size)
                  have hbpp := hbp
                  clear hin hdm hf1 hf2 hbp
                  refine hK.out _ _ (by exact HBy.out _ Hbp.out) (fun hHeld => ?_)
                  clear hK K
                  try simp only [Act.put, List.setIfInBounds_toArray, List.set_cons_zero, List.set_cons_succ]
                  refine wpAnyH_take (i := 8) (v := ?v8) rfl (by kernel_rfl) (by kernel_rfl) (by kernel_rfl) (fun _ _ _ h => h) (Or.inl ⟨by rfl, ?hy8⟩) (by assumption) ?rest8
                  case hy8 => (intro w hSw; (try dsimp only at hSw); go_simp; try (with_reducible rfl))
                  try simp only [Act.put, List.getElem_toArray, List.getElem_cons_zero, List.getElem_cons_succ, List.setIfInBounds_toArray, List.set_cons_zero, List.set_cons_succ]
                  refine wpAnyH_take (i := 9) (v := ?v9) rfl (by kernel_rfl) (by kernel_rfl) (by kernel_rfl) (fun _ _ _ h => h) (Or.inl ⟨by rfl, ?hy9⟩) (by assumption) ?rest9
                  case hy9 => (intro w hSw; (try dsimp only at hSw); go_simp; try (with_reducible rfl))
                  try simp only [Act.put, List.getElem_toArray, List.getElem_cons_zero, List.getElem_cons_succ, List.setIfInBounds_toArray, List.set_cons_zero, List.set_cons_succ]
                  refine wpAnyH_take (i := 10) (v := ?v10) rfl (by kernel_rfl) (by kernel_rfl) (by kernel_rfl) (fun _ _ _ h => h) (Or.inl ⟨by rfl, ?hy10⟩) (by assumption) ?rest10
                  case hy10 => (intro w hSw; (try dsimp only at hSw); go_simp; try (with_reducible rfl))
                  try simp only [Act.put, List.getElem_toArray, List.getElem_cons_zero, List.getElem_cons_succ, List.setIfInBounds_toArray, List.set_cons_zero, List.set_cons_succ]
                  refine wpAnyH_ready (rs := [11]) (by kernel_rfl) (by simp) ?_
                  refine AllReadyH.cons rfl (fun K hK => ?_) AllReadyH.nil
                  go_simp
                  refine hK.out _ _ (by exact HBy.out _ (Hbp.out.alloc Hbp.out.size _)) (fun hHeld => ?_)
                  clear hK K
                  try simp only [Act.put, List.setIfInBounds_toArray, List.set_cons_zero, List.set_cons_succ]
                  refine wpAnyH_ready (rs := [12]) (by kernel_rfl) (by simp) ?_
                  refine AllReadyH.cons rfl (fun K hK => ?_) AllReadyH.nil
                  go_simp
                  refine hK.out _ _ (by exact HBy.out _ (Hbp.out.alloc Hbp.out.size _)) (fun hHeld => ?_)
                  clear hK K
                  try simp only [Act.put, List.setIfInBounds_toArray, List.set_cons_zero, List.set_cons_succ]
                  refine wpAnyH_take (i := 13) (v := ?v11) rfl (by kernel_rfl) (by kernel_rfl) (by kernel_rfl) (fun _ _ _ h => h) (Or.inl ⟨by rfl, ?hy11⟩) (by assumption) ?rest11
                  case hy11 => (intro w hSw; (try dsimp only at hSw); go_simp; try (with_reducible rfl))
                  try simp only [Act.put, List.getElem_toArray, List.getElem_cons_zero, List.getElem_cons_succ, List.setIfInBounds_toArray, List.set_cons_zero, List.set_cons_succ]
                  refine wpAnyH_done (by kernel_rfl) ?_ _
                  simp only [Exit.then]
                  go_wp2_with fail
                  go_meet
                  exact ⟨_, rfl, rfl, Hbp.out.size, ⟨ia, ic, da, dc, Blk.new wp #[.string (pNm k RS i), nilV, .slice ia (pIn k RS GS NS i).length ic, .slice da (pDm k RS OS i).length dc, nilV, nilV] 35, Hin.out.mono (below1 wp _), Hdm.out.mono (below1 wp _)⟩, Hbp.out.alloc Hbp.out.size _⟩
                · go_simp
                  have HZ := Lib.hid (Blk.new wn #[.string ⟨#[]⟩, .slice none 0 0, .slice none 0 0, .slice none 0 0, .slice none 0 0, .slice none 0 0] 35)
                  have hbz := Hbn.out.alloc Hbn.out.size (.cells #[.string ⟨#[]⟩, .slice none 0 0, .slice none 0 0, .slice none 0 0, .slice none 0 0, .slice none 0 0] 35)
                  refine hK.out _ _ (by exact HBy.out _ hbz) (fun hHeld => ?_)
                  clear hK K
                  try simp only [Act.put, List.setIfInBounds_toArray, List.set_cons_zero, List.set_cons_succ]
                  refine wpAnyH_ready (rs := [7]) (by kernel_rfl) (by simp) ?_
                  refine AllReadyH.cons rfl (fun K hK => ?_) AllReadyH.nil
                  go_simp
                  go_at_call 34
                  refine (H34.out _ (Hbr.out.via (hbz) Hbr.out.size) i hlt2 _ (by exact (Hnv.out.mono (below1 wn _)))).mono ?_
                  rintro e2 wp ⟨ia, ic, da, dc, rfl, hin, hdm, hf1, hf2, hbp⟩
                  have Hin := Lib.hid hin
                  have Hdm := Lib.hid hdm
                  have Hf1 := Lib.hid hf1
                  have Hf2 := Lib.hid hf2
                  have Hbp := Lib.hid (show Below wr.heap.size wr wp from (hbz).via hbp (hbz).size)
                  have hbpp := hbp
                  clear hin hdm hf1 hf2 hbp
                  refine hK.out _ _ (by exact HBy.out _ Hbp.out) (fun hHeld => ?_)
                  clear hK K
                  try simp only [Act.put, List.setIfInBounds_toArray, List.set_cons_zero, List.set_cons_succ]
                  refine wpAnyH_take (i := 8) (v := ?v12) rfl (by kernel_rfl) (by kernel_rfl) (by kernel_rfl) (fun _ _ _ h => h) (Or.inl ⟨by rfl, ?hy12⟩) (by assumption) ?rest12
                  case hy12 => (intro w hSw; (try dsimp only at hSw); go_simp; try (with_reducible rfl))
                  try simp only [Act.put, List.getElem_toArray, List.getElem_cons_zero, List.getElem_cons_succ, List.setIfInBounds_toArray, List.set_cons_zero, List.set_cons_succ]
                  refine wpAnyH_take (i := 9) (v := ?v13) rfl (by kernel_rfl) (by kernel_rfl) (by kernel_rfl) (fun _ _ _ h => h) (Or.inl ⟨by rfl, ?hy13⟩) (by assumption) ?rest13
                  case hy13 => (intro w hSw; (try dsimp only at hSw); go_simp; try (with_reducible rfl))
                  try simp only [Act.put, List.getElem_toArray, List.getElem_cons_zero, List.getElem_cons_succ, List.setIfInBounds_toArray, List.set_cons_zero, List.set_cons_succ]
                  refine wpAnyH_take (i := 10) (v := ?v14) rfl (by kernel_rfl) (by kernel_rfl) (by kernel_rfl) (fun _ _ _ h => h) (Or.inl ⟨by rfl, ?hy14⟩) (by assumption) ?rest14
                  case hy14 => (intro w hSw; (try dsimp only at hSw); go_simp; try (with_reducible rfl))
                  try simp only [Act.put, List.getElem_toArray, List.getElem_cons_zero, List.getElem_cons_succ, List.setIfInBounds_toArray, List.set_cons_zero, List.set_cons_succ]
                  have hzp := HZ.out.below hbpp
                  obtain ⟨⟨z0, z1, z2, z3, z4, z5⟩, ⟨y0, y1, y2, y3, y4, y5⟩⟩ := blk6 hzp
                  have hz6 := Blk.set6 (.string (pNm k RS i)) nilV (.slice ia (pIn k RS GS NS i).length ic) (.slice da (pDm k RS OS i).length dc) nilV nilV hzp
                  have hbel := below_set6 (b := wn.heap.size) (.string (pNm k RS i)) nilV (.slice ia (pIn k RS GS NS i).length ic) (.slice da (pDm k RS OS i).length dc) nilV nilV Hbp.out Hbn.out.size
                  have hi6 := set6_sl Hin.out (R := wn.heap.size) (fun b hb => by have := Hf1.out b hb; simp at this; omega) (.string (pNm k RS i)) nilV (.slice ia (pIn k RS GS NS i).length ic) (.slice da (pDm k RS OS i).length dc) nilV nilV
                  have hd6 := set6_sl Hdm.out (R := wn.heap.size) (fun b hb => by have := Hf2.out b hb; simp at this; omega) (.string (pNm k RS i)) nilV (.slice ia (pIn k RS GS NS i).length ic) (.slice da (pDm k RS OS i).length dc) nilV nilV
                  have HZ6 := Lib.hid hz6
                  have Hbel := Lib.hid hbel
                  have Hi6 := Lib.hid hi6
                  have Hd6 := Lib.hid hd6
                  clear hz6 hbel hi6 hd6 hzp
                  refine wpAnyH_ready (rs := [12]) (by kernel_rfl) (by simp) ?_
                  refine AllReadyH.cons rfl (fun K hK => ?_) AllReadyH.nil
                  go_simp
                  refine hK.out _ _ (by exact HBy.out _ Hbel.out) (fun hHeld => ?_)
                  clear hK K
                  try simp only [Act.put, List.setIfInBounds_toArray, List.set_cons_zero, List.set_cons_succ]
                  refine wpAnyH_take (i := 13) (v := ?v15) rfl (by kernel_rfl) (by kernel_rfl) (by kernel_rfl) (fun _ _ _ h => h) (Or.inl ⟨by rfl, ?hy15⟩) (by assumption) ?rest15
                  case hy15 => (intro w hSw; (try dsimp only at hSw); go_simp; try (with_reducible rfl))
                  try simp only [Act.put, List.getElem_toArray, List.getElem_cons_zero, List.getElem_cons_succ, List.setIfInBounds_toArray, List.set_cons_zero, List.set_cons_succ]
                  refine wpAnyH_done (by kernel_rfl) ?_ _
                  simp only [Exit.then]
                  go_wp2_with fail
                  go_meet
                  exact ⟨_, rfl, rfl, Hbn.out.size, ⟨ia, ic, da, dc, HZ6.out, Hi6.out, Hd6.out⟩, Hbel.out⟩
              · go_simp
                have HZ0 := Lib.hid (Blk.new wr #[.string ⟨#[]⟩, .slice none 0 0, .slice none 0 0, .slice none 0 0, .slice none 0 0, .slice none 0 0] 35)
                have hbz := (below1 wr (.cells #[.string ⟨#[]⟩, .slice none 0 0, .slice none 0 0, .slice none 0 0, .slice none 0 0, .slice none 0 0] 35)).dn 1
                refine hK.out _ _ (by exact HBy.out _ hbz) (fun hHeld => ?_)
                clear hK K
                try simp only [Act.put, List.setIfInBounds_toArray, List.set_cons_zero, List.set_cons_succ]
                refine wpAnyH_ready (rs := [6]) (by kernel_rfl) (by simp) ?_
                refine AllReadyH.cons rfl (fun K hK => ?_) AllReadyH.nil
                go_simp
                go_at_call 20
                refine (H20.out _ x (Hbr.out.via (hbz) Hbr.out.size) hx0 hx1).mono ?_
                rintro e2 wn ⟨nv, rfl, hnv, hbn⟩
                rw [Hxx.out] at hnv
                have Hnv := Lib.hid hnv
                have Hbn := Lib.hid (show Below wr.heap.size wr wn from (hbz).via hbn (hbz).size)
                clear hnv
                have HZ := Lib.hid (HZ0.out.below (undrew hbn))
                clear hbn
                refine hK.out _ _ (by exact HBy.out _ Hbn.out) (fun hHeld => ?_)
                clear hK K
                try simp only [Act.put, List.setIfInBounds_toArray, List.set_cons_zero, List.set_cons_succ]
                refine wpAnyH_ready (rs := [7]) (by kernel_rfl) (by simp) ?_
                refine AllReadyH.cons rfl (fun K hK => ?_) AllReadyH.nil
                go_simp
                go_at_call 34
                refine (H34.out _ (Hbr.out.via (Hbn.out) Hbr.out.size) i hlt2 _ (by exact Hnv.out)).mono ?_
                rintro e2 wp ⟨ia, ic, da, dc, rfl, hin, hdm, hf1, hf2, hbp⟩
                have Hin := Lib.hid hin
                have Hdm := Lib.hid hdm
                have Hf1 := Lib.hid hf1
                have Hf2 := Lib.hid hf2
                have Hbp := Lib.hid (show Below wr.heap.size wr wp from (Hbn.out).via hbp (Hbn.out).size)
                have hbpp := hbp
                clear hin hdm hf1 hf2 hbp
                refine hK.out _ _ (by exact HBy.out _ Hbp.out) (fun hHeld => ?_)
                clear hK K
                try simp only [Act.put, List.setIfInBounds_toArray, List.set_cons_zero, List.set_cons_succ]
                refine wpAnyH_take (i := 8) (v := ?v16) rfl (by kernel_rfl) (by kernel_rfl) (by kernel_rfl) (fun _ _ _ h => h) (Or.inl ⟨by rfl, ?hy16⟩) (by assumption) ?rest16
                case hy16 => (intro w hSw; (try dsimp only at hSw); go_simp; try (with_reducible rfl))
                try simp only [Act.put, List.getElem_toArray, List.getElem_cons_zero, List.getElem_cons_succ, List.setIfInBounds_toArray, List.set_cons_zero, List.set_cons_succ]
                refine wpAnyH_take (i := 9) (v := ?v17) rfl (by kernel_rfl) (by kernel_rfl) (by kernel_rfl) (fun _ _ _ h => h) (Or.inl ⟨by rfl, ?hy17⟩) (by assumption) ?rest17
                case hy17 => (intro w hSw; (try dsimp only at hSw); go_simp; try (with_reducible rfl))
                try simp only [Act.put, List.getElem_toArray, List.getElem_cons_zero, List.getElem_cons_succ, List.setIfInBounds_toArray, List.set_cons_zero, List.set_cons_succ]
                refine wpAnyH_take (i := 10) (v := ?v18) rfl (by kernel_rfl) (by kernel_rfl) (by kernel_rfl) (fun _ _ _ h => h) (Or.inl ⟨by rfl, ?hy18⟩) (by assumption) ?rest18
                case hy18 => (intro w hSw; (try dsimp only at hSw); go_simp; try (with_reducible rfl))
                try simp only [Act.put, List.getElem_toArray, List.getElem_cons_zero, List.getElem_cons_succ, List.setIfInBounds_toArray, List.set_cons_zero, List.set_cons_succ]
                have hzp := HZ.out.below hbpp
                obtain ⟨⟨z0, z1, z2, z3, z4, z5⟩, ⟨y0, y1, y2, y3, y4, y5⟩⟩ := blk6 hzp
                have hz6 := Blk.set6 (.string (pNm k RS i)) nilV (.slice ia (pIn k RS GS NS i).length ic) (.slice da (pDm k RS OS i).length dc) nilV nilV hzp
                have hbel := below_set6 (b := wr.heap.size) (.string (pNm k RS i)) nilV (.slice ia (pIn k RS GS NS i).length ic) (.slice da (pDm k RS OS i).length dc) nilV nilV Hbp.out (Nat.le_refl _)
                have hi6 := set6_sl Hin.out (R := wr.heap.size) (fun b hb => by have := Hf1.out b hb; have := HZ.out.lt; omega) (.string (pNm k RS i)) nilV (.slice ia (pIn k RS GS NS i).length ic) (.slice da (pDm k RS OS i).length dc) nilV nilV
                have hd6 := set6_sl Hdm.out (R := wr.heap.size) (fun b hb => by have := Hf2.out b hb; have := HZ.out.lt; omega) (.string (pNm k RS i)) nilV (.slice ia (pIn k RS GS NS i).length ic) (.slice da (pDm k RS OS i).length dc) nilV nilV
                have HZ6 := Lib.hid hz6
                have Hbel := Lib.hid hbel
                have Hi6 := Lib.hid hi6
                have Hd6 := Lib.hid hd6
                clear hz6 hbel hi6 hd6 hzp
                refine wpAnyH_ready (rs := [12]) (by kernel_rfl) (by simp) ?_
                refine AllReadyH.cons rfl (fun K hK => ?_) AllReadyH.nil
                go_simp
                refine hK.out _ _ (by exact HBy.out _ Hbel.out) (fun hHeld => ?_)
                clear hK K
                try simp only [Act.put, List.setIfInBounds_toArray, List.set_cons_zero, List.set_cons_succ]
                refine wpAnyH_take (i := 13) (v := ?v19) rfl (by kernel_rfl) (by kernel_rfl) (by kernel_rfl) (fun _ _ _ h => h) (Or.inl ⟨by rfl, ?hy19⟩) (by assumption) ?rest19
                case hy19 => (intro w hSw; (try dsimp only at hSw); go_simp; try (with_reducible rfl))
                try simp only [Act.put, List.getElem_toArray, List.getElem_cons_zero, List.getElem_cons_succ, List.setIfInBounds_toArray, List.set_cons_zero, List.set_cons_succ]
                refine wpAnyH_done (by kernel_rfl) ?_ _
                simp only [Exit.then]
                go_wp2_with fail
                go_meet
                exact ⟨_, rfl, rfl, (Nat.le_refl _), ⟨ia, ic, da, dc, HZ6.out, Hi6.out, Hd6.out⟩, Hbel.out⟩
            case rest =>
              rename World => wz
              obtain ⟨P, rfl, rfl, hP, hPr, hbz⟩ := hcut
              have Hbz := Lib.hid hbz
              have HbZ := Lib.hid (Hbr.out.via hbz Hbr.out.size)
              have HBz := Lib.hid (fun w' (h : Below wz.heap.size wz w') => HBy.out w' (hbz.via h hbz.size))
              have HPr := Lib.hid (fun w' (h : Below wz.heap.size wz w') => hPr.below h)
              obtain ⟨Y, HY⟩ : ∃ Y, Hid (mBroken x (List.replicate m false) RS = Y) := ⟨_, rfl⟩
              have Hpb := Lib.hid (show pBad k RS i = decide (0 ≤ Y) by unfold pBad; rw [Hrl.out, ← Hxx.out, HY.out])
              have Hse := Lib.hid (show seenL k RS (i + 1) = if Y < 0 then seenL k RS i ++ [rev k (2 ^ k - 1 - i)] else seenL k RS i by rw [seenL, Hrl.out, ← Hxx.out, HY.out])
              have hsl := seenL_len k RS i
              clear hP hPr hbz
              go_wp2_with fail
              refine wp_region_held_drew (S := (fun w' => (w'.cell? ⟨B, 0, none⟩ = some baseS ∧ w'.cell? ⟨B, 1, none⟩ = some nilV ∧ w'.cell? ⟨B, 2, none⟩ = some (.slice ai 3 ci) ∧ w'.cell? ⟨B, 3, none⟩ = some (.slice ad 2 cd) ∧ w'.cell? ⟨B, 4, none⟩ = some nilV ∧ w'.cell? ⟨B, 5, none⟩ = some nilV ∧ w'.cell? ⟨B, 6, none⟩ = some (.slice a7 k c7) ∧ w'.cell? ⟨B, 7, none⟩ = some (.slice a8 m c8) ∧ w'.cell? ⟨B, 8, none⟩ = some (.slice a9 ng c9) ∧ w'.cell? ⟨B, 9, none⟩ = some (.slice a10 no c10)) ∧ w'.cell? ⟨sb, so + i, none⟩ = some (.int .i64 x))) (by kernel_rfl) (by exact HBz.out _ (Below.refl _ _).drew) (fun hHeld => ?_)
              refine wpAnyH_take (i := 0) (v := ?v20) rfl (by kernel_rfl) (by kernel_rfl) (by kernel_rfl) (fun _ _ _ h => h) (Or.inl ⟨by rfl, ?hy20⟩) (by assumption) ?rest20
              case hy20 => (intro w hSw; (try dsimp only at hSw); go_simp; try (with_reducible rfl))
              try simp only [Act.put, List.getElem_toArray, List.getElem_cons_zero, List.setIfInBounds_toArray, List.set_cons_zero, List.set_cons_succ]
              refine wpAnyH_take (i := 1) (v := ?v21) rfl (by kernel_rfl) (by kernel_rfl) (by kernel_rfl) (fun _ _ _ h => h) (Or.inl ⟨by rfl, ?hy21⟩) (by assumption) ?rest21
              case hy21 => (intro w hSw; (try dsimp only at hSw); go_simp; try (with_reducible rfl))
              try simp only [Act.put, List.getElem_toArray, List.getElem_cons_zero, List.getElem_cons_succ, List.setIfInBounds_toArray, List.set_cons_zero, List.set_cons_succ]
              refine wpAnyH_take (i := 3) (v := ?v22) rfl (by kernel_rfl) (by kernel_rfl) (by kernel_rfl) (fun _ _ _ h => h) (Or.inl ⟨by rfl, ?hy22⟩) (by assumption) ?rest22
              case hy22 => (intro w hSw; (try dsimp only at hSw); go_simp; try (with_reducible rfl))
              try simp only [Act.put, List.getElem_toArray, List.getElem_cons_zero, List.getElem_cons_succ, List.setIfInBounds_toArray, List.set_cons_zero, List.set_cons_succ]
              refine wpAnyH_take (i := 4) (v := ?v23) rfl (by kernel_rfl) (by kernel_rfl) (by kernel_rfl) (fun _ _ _ h => h) (Or.inl ⟨by rfl, ?hy23⟩) (by assumption) ?rest23
              case hy23 => (intro w hSw; (try dsimp only at hSw); go_simp; try (with_reducible rfl))
              try simp only [Act.put, List.getElem_toArray, List.getElem_cons_zero, List.getElem_cons_succ, List.setIfInBounds_toArray, List.set_cons_zero, List.set_cons_succ]
              refine wpAnyH_take (i := 5) (v := ?v24) rfl (by kernel_rfl) (by kernel_rfl) (by kernel_rfl) (fun _ _ _ h => h) (Or.inl ⟨by rfl, ?hy24⟩) (by assumption) ?rest24
              case hy24 => (intro w hSw; (try dsimp only at hSw); go_simp; try (with_reducible rfl))
              try simp only [Act.put, List.getElem_toArray, List.getElem_cons_zero, List.getElem_cons_succ, List.setIfInBounds_toArray, List.set_cons_zero, List.set_cons_succ]
              refine wpAnyH_take (i := 6) (v := ?v25) rfl (by kernel_rfl) (by kernel_rfl) (by kernel_rfl) (fun _ _ _ h => h) (Or.inl ⟨by rfl, ?hy25⟩) (by assumption) ?rest25
              case hy25 => (intro w hSw; (try dsimp only at hSw); go_simp; try (with_reducible rfl))
              try simp only [Act.put, List.getElem_toArray, List.getElem_cons_zero, List.getElem_cons_succ, List.setIfInBounds_toArray, List.set_cons_zero, List.set_cons_succ]
              refine wpAnyH_ready (rs := [2]) (by kernel_rfl) (by simp) ?_
              refine AllReadyH.cons rfl (fun K hK => ?_) AllReadyH.nil
              go_simp
              go_at_call 18
              refine (none_any _ _ _ _ _ _ _ _ _ _ _ _ _ (by omega)).mono ?_
              rintro e2 w5 ⟨ov, rfl, hbo, hb5⟩
              obtain ⟨ao, co, rfl, -, -⟩ := hbo.open
              rw [List.length_replicate] at hbo
              have Hbo := Lib.hid hbo
              have Hb5 := Lib.hid (show Below wx.heap.size wx w5 from HbZ.out.via (undrew hb5) HbZ.out.size)
              have Hb54 := Lib.hid (undrew hb5)
              clear hbo hb5
              refine hK.out _ _ (by exact HBz.out _ Hb54.out) (fun hHeld => ?_)
              clear hK K
              try simp only [Act.put, List.setIfInBounds_toArray, List.set_cons_zero, List.set_cons_succ]
              refine wpAnyH_ready (rs := [7]) (by kernel_rfl) (by simp) ?_
              refine AllReadyH.cons rfl (fun K hK => ?_) AllReadyH.nil
              go_simp
              go_at_call 32
              refine (H32.out _ _ x Hb5.out Hbo.out hx0 hx1).mono ?_
              rintro e2 w6 ⟨rfl, hb6⟩
              rw [HY.out]
              have Hb6 := Lib.hid (show Below wx.heap.size wx w6 from Hb5.out.via hb6 Hb5.out.size)
              have Hb64 := Lib.hid (show Below wz.heap.size wz w6 from Hb54.out.via hb6 Hb54.out.size)
              clear hb6
              refine hK.out _ _ (by exact HBz.out _ Hb64.out) (fun hHeld => ?_)
              clear hK K
              try simp only [Act.put, List.setIfInBounds_toArray, List.set_cons_zero, List.set_cons_succ]
              refine wpAnyH_take (i := 8) (v := ?v26) rfl (by kernel_rfl) (by kernel_rfl) (by kernel_rfl) (fun _ _ _ h => h) (Or.inl ⟨by rfl, ?hy26⟩) (by assumption) ?rest26
              case hy26 => (intro w hSw; (try dsimp only at hSw); go_simp; try (with_reducible rfl))
              try simp only [Act.put, List.getElem_toArray, List.getElem_cons_zero, List.getElem_cons_succ, List.setIfInBounds_toArray, List.set_cons_zero, List.set_cons_succ]
              refine wpAnyH_done (by kernel_rfl) ?_ _
              simp only [Exit.then]
              have hb86 := Hbr8.out.via (Hbz.out.via Hb64.out Hbz.out.size) Hbr8.out.size
              have Hb86 := Lib.hid hb86
              have Hown6 := Lib.hid (own_below (own_below Hown.out Hbz.out) Hb64.out)
              clear hb86
              by_cases hY : 0 ≤ Y
              · have hpb1 : pBad k RS i = true := by rw [Hpb.out]; simpa using hY
                have Hse1 := Lib.hid (show seenL k RS (i + 1) = seenL k RS i by rw [Hse.out, if_neg (by omega)])
                obtain ⟨ia, ic, da, dc, hbp, hin, hdm⟩ := HPr.out w6 Hb64.out
                have e1 : pNm k RS i = ⟨#[]⟩ := by unfold pNm; rw [hpb1, if_pos rfl]
                have e2 : pIn k RS GS NS i = [] := by unfold pIn; rw [hpb1, if_pos rfl]
                have e3 : pDm k RS OS i = [] := by unfold pDm; rw [hpb1, if_pos rfl]
                have e4 : pEr k RS i = 17 := by unfold pEr; rw [hpb1, if_pos rfl]
                rw [e1, e2, e3] at hbp
                rw [e2] at hin
                rw [e3] at hdm
                rw [e4]
                have H35b := Lib.hid (H35.out w6 ⟨#[]⟩ [] [] ia da none none ic dc 0 0 hin hdm (Sl.nil _ _) (Sl.nil _ _) (by decide) (by decide))
                simp only [List.length_nil] at hbp H35b
                obtain ⟨⟨p0, p1, p2, p3, p4, p5⟩, -⟩ := blk6 hbp
                clear hbp hin hdm e1 e2 e3 e4 hpb1
                go_wp2_with (go_at_call 35; refine (H35b.out).mono ?_; rintro e wq ⟨rfl, hbq⟩)
                go_roundw
                case rel => exact ⟨i + 1, by omega, by go_num, Hb86.out.via hbq Hb86.out.size, by rw [Hse1.out]; exact own_below Hown6.out hbq⟩
                case measure => simp [intOf]; omega
              · have hpb0 : pBad k RS i = false := by rw [Hpb.out]; simpa using hY
                have Hse1 := Lib.hid (show seenL k RS (i + 1) = seenL k RS i ++ [rev k (2 ^ k - 1 - i)] by rw [Hse.out, if_pos (by omega)])
                obtain ⟨ia, ic, da, dc, hbp, hin, hdm⟩ := HPr.out w6 Hb64.out
                have e1 : pNm k RS i = ⟨#[98, 97, 115, 101]⟩ := by unfold pNm; rw [hpb0, if_neg (by decide)]
                have e2 : pIn k RS GS NS i = insTo (fun i => !awayB (mHolds x) GS i) NS NS.length := by unfold pIn; rw [hpb0, if_neg (by decide), ← Hxx.out]
                have e3 : pDm k RS OS i = ovrTo (mHolds x) OS baseDims OS.length := by unfold pDm; rw [hpb0, if_neg (by decide), ← Hxx.out]
                have e4 : pEr k RS i = 0 := by unfold pEr; rw [hpb0, if_neg (by decide)]
                have H36x := Lib.hid (fun w' (h : Below wx.heap.size wx w') => H36.out w' x h hx0 hx1)
                have hnl := insTo_len (fun i => !awayB (mHolds x) GS i) NS NS.length
                have hdl := ovrTo_len (mHolds x) OS baseDims OS.length
                rw [e1, e2, e3] at hbp
                rw [e2] at hin
                rw [e3] at hdm
                rw [e4]
                have HN1 := Lib.hid (show insTo (fun i => !awayB (mHolds x) GS i) NS NS.length = insTo (fun i => !awayB (mHolds x) GS i) NS NS.length from rfl)
                obtain ⟨NSx, HNx⟩ : ∃ NSx, Hid (insTo (fun i => !awayB (mHolds x) GS i) NS NS.length = NSx) := ⟨_, rfl⟩
                obtain ⟨DSx, HDx⟩ : ∃ DSx, Hid (ovrTo (mHolds x) OS baseDims OS.length = DSx) := ⟨_, rfl⟩
                rw [HNx.out] at hbp hin hnl H36x
                rw [HDx.out] at hbp hdm hdl H36x
                have hnx : NSx.length < 1000 := by omega
                have hdx : DSx.length < 1000 := by rw [hdl]; decide
                have HBq := Lib.hid (fun w' (h : Below w6.heap.size w6 w') => And.intro (HBz.out w' (Hb64.out.via h Hb64.out.size)) ((blk6 (hbp.below h)).1))
                have HIp := Lib.hid (fun w' (h : Below w6.heap.size w6 w') => hin.mono h)
                have HDp := Lib.hid (fun w' (h : Below w6.heap.size w6 w') => hdm.mono h)
                clear hbp hin hdm e1 e2 e3 e4 hpb0 hdl hnl HN1
                go_wp2_with fail
                have hbd6 : Below w6.heap.size w6 w6.drew := (Below.refl _ _).drew
                refine wp_region_held_drew (S := (fun w' => ((w'.cell? ⟨B, 0, none⟩ = some baseS ∧ w'.cell? ⟨B, 1, none⟩ = some nilV ∧ w'.cell? ⟨B, 2, none⟩ = some (.slice ai 3 ci) ∧ w'.cell? ⟨B, 3, none⟩ = some (.slice ad 2 cd) ∧ w'.cell? ⟨B, 4, none⟩ = some nilV ∧ w'.cell? ⟨B, 5, none⟩ = some nilV ∧ w'.cell? ⟨B, 6, none⟩ = some (.slice a7 k c7) ∧ w'.cell? ⟨B, 7, none⟩ = some (.slice a8 m c8) ∧ w'.cell? ⟨B, 8, none⟩ = some (.slice a9 ng c9) ∧ w'.cell? ⟨B, 9, none⟩ = some (.slice a10 no c10)) ∧ w'.cell? ⟨sb, so + i, none⟩ = some (.int .i64 x)) ∧ w'.cell? ⟨P, 0, none⟩ = some (.string ⟨#[98, 97, 115, 101]⟩) ∧ w'.cell? ⟨P, 1, none⟩ = some nilV ∧ w'.cell? ⟨P, 2, none⟩ = some (.slice ia NSx.length ic) ∧ w'.cell? ⟨P, 3, none⟩ = some (.slice da DSx.length dc) ∧ w'.cell? ⟨P, 4, none⟩ = some nilV ∧ w'.cell? ⟨P, 5, none⟩ = some nilV)) (by kernel_rfl) (by exact HBq.out _ hbd6) (fun hHeld => ?_)
                refine wpAnyH_take (i := 0) (v := ?v27) rfl (by kernel_rfl) (by kernel_rfl) (by kernel_rfl) (fun _ _ _ h => h) (Or.inl ⟨by rfl, ?hy27⟩) (by assumption) ?rest27
                case hy27 => (intro w hSw; (try dsimp only at hSw); go_simp; try (with_reducible rfl))
                try simp only [Act.put, List.getElem_toArray, List.getElem_cons_zero, List.setIfInBounds_toArray, List.set_cons_zero, List.set_cons_succ]
                refine wpAnyH_take (i := 1) (v := ?v28) rfl (by kernel_rfl) (by kernel_rfl) (by kernel_rfl) (fun _ _ _ h => h) (Or.inl ⟨by rfl, ?hy28⟩) (by assumption) ?rest28
                case hy28 => (intro w hSw; (try dsimp only at hSw); go_simp; try (with_reducible rfl))
                try simp only [Act.put, List.getElem_toArray, List.getElem_cons_zero, List.getElem_cons_succ, List.setIfInBounds_toArray, List.set_cons_zero, List.set_cons_succ]
                refine wpAnyH_take (i := 2) (v := ?v29) rfl (by kernel_rfl) (by kernel_rfl) (by kernel_rfl) (fun _ _ _ h => h) (Or.inl ⟨by rfl, ?hy29⟩) (by assumption) ?rest29
                case hy29 => (intro w hSw; (try dsimp only at hSw); go_simp; try (with_reducible rfl))
                try simp only [Act.put, List.getElem_toArray, List.getElem_cons_zero, List.getElem_cons_succ, List.setIfInBounds_toArray, List.set_cons_zero, List.set_cons_succ]
                refine wpAnyH_take (i := 3) (v := ?v30) rfl (by kernel_rfl) (by kernel_rfl) (by kernel_rfl) (fun _ _ _ h => h) (Or.inl ⟨by rfl, ?hy30⟩) (by assumption) ?rest30
                case hy30 => (intro w hSw; (try dsimp only at hSw); go_simp; try (with_reducible rfl))
                try simp only [Act.put, List.getElem_toArray, List.getElem_cons_zero, List.getElem_cons_succ, List.setIfInBounds_toArray, List.set_cons_zero, List.set_cons_succ]
                refine wpAnyH_take (i := 4) (v := ?v31) rfl (by kernel_rfl) (by kernel_rfl) (by kernel_rfl) (fun _ _ _ h => h) (Or.inl ⟨by rfl, ?hy31⟩) (by assumption) ?rest31
                case hy31 => (intro w hSw; (try dsimp only at hSw); go_simp; try (with_reducible rfl))
                try simp only [Act.put, List.getElem_toArray, List.getElem_cons_zero, List.getElem_cons_succ, List.setIfInBounds_toArray, List.set_cons_zero, List.set_cons_succ]
                refine wpAnyH_take (i := 5) (v := ?v32) rfl (by kernel_rfl) (by kernel_rfl) (by kernel_rfl) (fun _ _ _ h => h) (Or.inl ⟨by rfl, ?hy32⟩) (by assumption) ?rest32
                case hy32 => (intro w hSw; (try dsimp only at hSw); go_simp; try (with_reducible rfl))
                try simp only [Act.put, List.getElem_toArray, List.getElem_cons_zero, List.getElem_cons_succ, List.setIfInBounds_toArray, List.set_cons_zero, List.set_cons_succ]
                refine wpAnyH_ready (rs := [6]) (by kernel_rfl) (by simp) ?_
                refine AllReadyH.cons rfl (fun K hK => ?_) AllReadyH.nil
                go_simp
                go_at_call 36
                refine (H36x.out _ (Hb6.out.dn 1)).mono ?_
                rintro e2 wn ⟨v, vd, rfl, hin2, hdm2, hbn⟩
                obtain ⟨ja, jc, rfl, -, -⟩ := hin2.open
                obtain ⟨jd, kc, rfl, -, -⟩ := hdm2.open
                have Hin2 := Lib.hid hin2
                have Hdm2 := Lib.hid hdm2
                have Hbn := Lib.hid (undrew hbn)
                clear hin2 hdm2 hbn
                refine hK.out _ _ (by exact HBq.out _ Hbn.out) (fun hHeld => ?_)
                clear hK K
                try simp only [Act.put, List.setIfInBounds_toArray, List.set_cons_zero, List.set_cons_succ]
                refine wpAnyH_ready (rs := [7]) (by kernel_rfl) (by simp) ?_
                refine AllReadyH.cons rfl (fun K hK => ?_) AllReadyH.nil
                go_simp
                go_at_call 35
                refine (H35.out _ ⟨#[98, 97, 115, 101]⟩ NSx DSx ia da ja jd ic dc jc kc (HIp.out _ Hbn.out) (HDp.out _ Hbn.out) Hin2.out Hdm2.out hnx hdx).mono ?_
                rintro e2 wv ⟨rfl, hbv⟩
                have Hbv := Lib.hid (show Below w6.heap.size w6 wv from Hbn.out.via hbv Hbn.out.size)
                clear hbv
                refine hK.out _ _ (by exact HBq.out _ Hbv.out) (fun hHeld => ?_)
                clear hK K
                try simp only [Act.put, List.setIfInBounds_toArray, List.set_cons_zero, List.set_cons_succ]
                refine wpAnyH_take (i := 8) (v := ?v33) rfl (by kernel_rfl) (by kernel_rfl) (by kernel_rfl) (fun _ _ _ h => h) (Or.inl ⟨by rfl, ?hy33⟩) (by assumption) ?rest33
                case hy33 => (intro w hSw; (try dsimp only at hSw); go_simp; try (with_reducible rfl))
                try simp only [Act.put, List.getElem_toArray, List.getElem_cons_zero, List.getElem_cons_succ, List.setIfInBounds_toArray, List.set_cons_zero, List.set_cons_succ]
                refine wpAnyH_take (i := 9) (v := ?v34) rfl (by kernel_rfl) (by kernel_rfl) (by kernel_rfl) (fun _ _ _ h => h) (Or.inl ⟨by rfl, ?hy34⟩) (by assumption) ?rest34
                case hy34 => (intro w hSw; (try dsimp only at hSw); go_simp; try (with_reducible rfl))
                try simp only [Act.put, List.getElem_toArray, List.getElem_cons_zero, List.getElem_cons_succ, List.setIfInBounds_toArray, List.set_cons_zero, List.set_cons_succ]
                refine wpAnyH_take (i := 10) (v := ?v35) rfl (by kernel_rfl) (by kernel_rfl) (by kernel_rfl) (fun _ _ _ h => h) (Or.inl ⟨by rfl, ?hy35⟩) (by assumption) ?rest35
                case hy35 => (intro w hSw; (try dsimp only at hSw); go_simp; try (with_reducible rfl))
                try simp only [Act.put, List.getElem_toArray, List.getElem_cons_zero, List.getElem_cons_succ, List.setIfInBounds_toArray, List.set_cons_zero, List.set_cons_succ]
                refine wpAnyH_take (i := 11) (v := ?v36) rfl (by kernel_rfl) (by kernel_rfl) (by kernel_rfl) (fun _ _ _ h => h) (Or.inl ⟨by rfl, ?hy36⟩) (by assumption) ?rest36
                case hy36 => (intro w hSw; (try dsimp only at hSw); go_simp; try (with_reducible rfl))
                try simp only [Act.put, List.getElem_toArray, List.getElem_cons_zero, List.getElem_cons_succ, List.setIfInBounds_toArray, List.set_cons_zero, List.set_cons_succ]
                refine wpAnyH_take (i := 12) (v := ?v37) rfl (by kernel_rfl) (by kernel_rfl) (by kernel_rfl) (fun _ _ _ h => h) (Or.inl ⟨by rfl, ?hy37⟩) (by assumption) ?rest37
                case hy37 => (intro w hSw; (try dsimp only at hSw); go_simp; try (with_reducible rfl))
                try simp only [Act.put, List.getElem_toArray, List.getElem_cons_zero, List.getElem_cons_succ, List.setIfInBounds_toArray, List.set_cons_zero, List.set_cons_succ]
                refine wpAnyH_done (by kernel_rfl) ?_ _
                simp only [Exit.then]
                have HbV := Lib.hid (Hb86.out.via Hbv.out Hb86.out.size)
                have HownV := Lib.hid (own_below Hown6.out Hbv.out)
                generalize hls : (seenL k RS i).length = ls at *
                have Hls := Lib.hid hls
                clear hls
                go_wp2_with fail
                go_loopw [14, 15, 16] (fun q _ _ wr2 => ∃ kk : Nat, kk ≤ ls ∧ q = .int .i64 kk ∧ Below wv.heap.size wv wr2) (fun q _ _ _ => ls - (intOf q).toNat)
                case atStart => exact ⟨0, Nat.zero_le _, rfl, Below.refl _ _⟩
                case round =>
                  rename World => wr2
                  obtain ⟨kk, hkk, rfl, hb2⟩ := hrel
                  have HbR := Lib.hid (Hbv.out.via hb2 Hbv.out.size)
                  have HbQ := Lib.hid (HbV.out.via hb2 HbV.out.size)
                  by_cases hlt3 : kk < ls
                  · obtain ⟨g, rfl⟩ := own_some HownV.out (by omega)
                    have hI : Ints wv (.slice (some ⟨g, 0, none⟩) ls vc) ((seenL k RS i).map fun y : Nat => (y : Int)) := Sl.own1 HownV.out
                    obtain ⟨g', off', y, hq, hy, c0⟩ := hI.at hb2 hlt3
                    cases hq
                    rw [Nat.zero_add] at c0
                    simp only [List.getElem?_map, Option.map_eq_some_iff] at hy
                    obtain ⟨yn, hyn, rfl⟩ := hy
                    obtain ⟨i2, hi2, hyr, hbr2⟩ := seenL_mem yn (List.mem_of_getElem? hyn)
                    have Hy2 := Lib.hid (show (yn : Int) = setN k i2 by rw [hyr]; rfl)
                    have hy0 : 0 ≤ (yn : Int) := by omega
                    have hy1 : (yn : Int) < 4096 := by rw [Hy2.out]; exact (setN_range hk6 i2).2
                    have hi2N : i2 < N2 := by omega
                    have Hpb2 := Lib.hid (show pBad k RS i2 = false by unfold pBad; simpa using hbr2)
                    have Hxn := Lib.hid (show x = ((rev k (2 ^ k - 1 - i) : Nat) : Int) from Hxx.out)
                    obtain ⟨xn, hxn⟩ : ∃ xn, rev k (2 ^ k - 1 - i) = xn := ⟨_, rfl⟩
                    have HXn := Lib.hid hxn
                    have hxv : x = (xn : Int) := by rw [Hxn.out, hxn]
                    have hcl := World.block_lt_of_cell? _ _ c0
                    have HBw := Lib.hid (fun w' (h : Below wr2.heap.size wr2 w') => And.intro (HBq.out w' (HbR.out.via h HbR.out.size)) ((h.cell (p := ⟨g, kk, none⟩) hcl).trans c0))
                    have hkk0 : (0 : Int) ≤ (kk : Int) := Int.natCast_nonneg _
                    have hkk1 : (kk : Int) < (ls : Int) := by omega
                    have Hand := Lib.hid (show bits .and .i64 (yn : Int) (U : Int) = ((yn &&& U : Nat) : Int) from i64_and_nat _ _ (by omega) (by omega))
                    have Hand2 := Lib.hid (show bits .and .i64 x (U : Int) = ((xn &&& U : Nat) : Int) by rw [hxv]; exact i64_and_nat _ _ (by omega) (by omega))
                    have Hb2 := Lib.hid hb2
                    clear hI hyn hyr hbr2 hxn hxv c0 hb2
                    go_wp2_with fail
                    have hbd2 : Below wr2.heap.size wr2 wr2.drew := (Below.refl _ _).drew
                    refine wp_region_held_drew (S := (fun w' => (((w'.cell? ⟨B, 0, none⟩ = some baseS ∧ w'.cell? ⟨B, 1, none⟩ = some nilV ∧ w'.cell? ⟨B, 2, none⟩ = some (.slice ai 3 ci) ∧ w'.cell? ⟨B, 3, none⟩ = some (.slice ad 2 cd) ∧ w'.cell? ⟨B, 4, none⟩ = some nilV ∧ w'.cell? ⟨B, 5, none⟩ = some nilV ∧ w'.cell? ⟨B, 6, none⟩ = some (.slice a7 k c7) ∧ w'.cell? ⟨B, 7, none⟩ = some (.slice a8 m c8) ∧ w'.cell? ⟨B, 8, none⟩ = some (.slice a9 ng c9) ∧ w'.cell? ⟨B, 9, none⟩ = some (.slice a10 no c10)) ∧ w'.cell? ⟨sb, so + i, none⟩ = some (.int .i64 x)) ∧ w'.cell? ⟨P, 0, none⟩ = some (.string ⟨#[98, 97, 115, 101]⟩) ∧ w'.cell? ⟨P, 1, none⟩ = some nilV ∧ w'.cell? ⟨P, 2, none⟩ = some (.slice ia NSx.length ic) ∧ w'.cell? ⟨P, 3, none⟩ = some (.slice da DSx.length dc) ∧ w'.cell? ⟨P, 4, none⟩ = some nilV ∧ w'.cell? ⟨P, 5, none⟩ = some nilV) ∧ w'.cell? ⟨g, kk, none⟩ = some (.int .i64 (yn : Int)))) (by kernel_rfl) (by exact HBw.out _ hbd2) (fun hHeld => ?_)
                    refine wpAnyH_take (i := 0) (v := ?v38) rfl (by kernel_rfl) (by kernel_rfl) (by kernel_rfl) (fun _ _ _ h => h) (Or.inl ⟨by rfl, ?hy38⟩) (by assumption) ?rest38
                    case hy38 => (intro w hSw; (try dsimp only at hSw); go_simp; try (with_reducible rfl))
                    try simp only [Act.put, List.getElem_toArray, List.getElem_cons_zero, List.setIfInBounds_toArray, List.set_cons_zero, List.set_cons_succ]
                    refine wpAnyH_take (i := 1) (v := ?v39) rfl (by kernel_rfl) (by kernel_rfl) (by kernel_rfl) (fun _ _ _ h => h) (Or.inl ⟨by rfl, ?hy39⟩) (by assumption) ?rest39
                    case hy39 => (intro w hSw; (try dsimp only at hSw); go_simp; try (with_reducible rfl))
                    try simp only [Act.put, List.getElem_toArray, List.getElem_cons_zero, List.getElem_cons_succ, List.setIfInBounds_toArray, List.set_cons_zero, List.set_cons_succ]
                    refine wpAnyH_take (i := 2) (v := ?v40) rfl (by kernel_rfl) (by kernel_rfl) (by kernel_rfl) (fun _ _ _ h => h) (Or.inl ⟨by rfl, ?hy40⟩) (by assumption) ?rest40
                    case hy40 => (intro w hSw; (try dsimp only at hSw); go_simp; try (with_reducible rfl))
                    try simp only [Act.put, List.getElem_toArray, List.getElem_cons_zero, List.getElem_cons_succ, List.setIfInBounds_toArray, List.set_cons_zero, List.set_cons_succ]
                    refine wpAnyH_take (i := 3) (v := ?v41) rfl (by kernel_rfl) (by kernel_rfl) (by kernel_rfl) (fun _ _ _ h => h) (Or.inl ⟨by rfl, ?hy41⟩) (by assumption) ?rest41
                    case hy41 => (intro w hSw; (try dsimp only at hSw); go_simp; try (with_reducible rfl))
                    try simp only [Act.put, List.getElem_toArray, List.getElem_cons_zero, List.getElem_cons_succ, List.setIfInBounds_toArray, List.set_cons_zero, List.set_cons_succ]
                    refine wpAnyH_take (i := 4) (v := ?v42) rfl (by kernel_rfl) (by kernel_rfl) (by kernel_rfl) (fun _ _ _ h => h) (Or.inl ⟨by rfl, ?hy42⟩) (by assumption) ?rest42
                    case hy42 => (intro w hSw; (try dsimp only at hSw); go_simp; try (with_reducible rfl))
                    try simp only [Act.put, List.getElem_toArray, List.getElem_cons_zero, List.getElem_cons_succ, List.setIfInBounds_toArray, List.set_cons_zero, List.set_cons_succ]
                    refine wpAnyH_take (i := 5) (v := ?v43) rfl (by kernel_rfl) (by kernel_rfl) (by kernel_rfl) (fun _ _ _ h => h) (Or.inl ⟨by rfl, ?hy43⟩) (by assumption) ?rest43
                    case hy43 => (intro w hSw; (try dsimp only at hSw); go_simp; try (with_reducible rfl))
                    try simp only [Act.put, List.getElem_toArray, List.getElem_cons_zero, List.getElem_cons_succ, List.setIfInBounds_toArray, List.set_cons_zero, List.set_cons_succ]
                    refine wpAnyH_take (i := 6) (v := ?v44) rfl (by kernel_rfl) (by kernel_rfl) (by kernel_rfl) (fun _ _ _ h => h) (Or.inl ⟨by rfl, ?hy44⟩) (by assumption) ?rest44
                    case hy44 => (intro w hSw; (try dsimp only at hSw); go_simp; try (with_reducible rfl))
                    try simp only [Act.put, List.getElem_toArray, List.getElem_cons_zero, List.getElem_cons_succ, List.setIfInBounds_toArray, List.set_cons_zero, List.set_cons_succ]
                    refine wpAnyH_take (i := 7) (v := ?v45) rfl (by kernel_rfl) (by kernel_rfl) (by kernel_rfl) (fun _ _ _ h => h) (Or.inl ⟨by rfl, ?hy45⟩) (by assumption) ?rest45
                    case hy45 => (intro w hSw; (try dsimp only at hSw); go_simp; try (with_reducible rfl))
                    try simp only [Act.put, List.getElem_toArray, List.getElem_cons_zero, List.getElem_cons_succ, List.setIfInBounds_toArray, List.set_cons_zero, List.set_cons_succ]
                    refine wpAnyH_take (i := 8) (v := ?v46) rfl (by kernel_rfl) (by kernel_rfl) (by kernel_rfl) (fun _ _ _ h => h) (Or.inl ⟨by rfl, ?hy46⟩) (by assumption) ?rest46
                    case hy46 => (intro w hSw; (try dsimp only at hSw); go_simp; try (with_reducible rfl))
                    try simp only [Act.put, List.getElem_toArray, List.getElem_cons_zero, List.getElem_cons_succ, List.setIfInBounds_toArray, List.set_cons_zero, List.set_cons_succ]
                    refine wpAnyH_take (i := 9) (v := ?v47) rfl (by kernel_rfl) (by kernel_rfl) (by kernel_rfl) (fun _ _ _ h => h) (Or.inl ⟨by rfl, ?hy47⟩) (by assumption) ?rest47
                    case hy47 => (intro w hSw; (try dsimp only at hSw); go_simp; try (with_reducible rfl))
                    try simp only [Act.put, List.getElem_toArray, List.getElem_cons_zero, List.getElem_cons_succ, List.setIfInBounds_toArray, List.set_cons_zero, List.set_cons_succ]
                    refine wpAnyH_take (i := 10) (v := ?v48) rfl (by kernel_rfl) (by kernel_rfl) (by kernel_rfl) (fun _ _ _ h => h) (Or.inl ⟨by rfl, ?hy48⟩) (by assumption) ?rest48
                    case hy48 => (intro w hSw; (try dsimp only at hSw); go_simp; try (with_reducible rfl))
                    try simp only [Act.put, List.getElem_toArray, List.getElem_cons_zero, List.getElem_cons_succ, List.setIfInBounds_toArray, List.set_cons_zero, List.set_cons_succ]
                    refine wpAnyH_take (i := 11) (v := ?v49) rfl (by kernel_rfl) (by kernel_rfl) (by kernel_rfl) (fun _ _ _ h => h) (Or.inl ⟨by rfl, ?hy49⟩) (by assumption) ?rest49
                    case hy49 => (intro w hSw; (try dsimp only at hSw); go_simp; try (with_reducible rfl))
                    try simp only [Act.put, List.getElem_toArray, List.getElem_cons_zero, List.getElem_cons_succ, List.setIfInBounds_toArray, List.set_cons_zero, List.set_cons_succ]
                    refine wpAnyH_take (i := 12) (v := ?v50) rfl (by kernel_rfl) (by kernel_rfl) (by kernel_rfl) (fun _ _ _ h => h) (Or.inl ⟨by rfl, ?hy50⟩) (by assumption) ?rest50
                    case hy50 => (intro w hSw; (try dsimp only at hSw); go_simp; try (with_reducible rfl))
                    try simp only [Act.put, List.getElem_toArray, List.getElem_cons_zero, List.getElem_cons_succ, List.setIfInBounds_toArray, List.set_cons_zero, List.set_cons_succ]
                    refine wpAnyH_done (by kernel_rfl) ?_ _
                    simp only [Exit.then]
                    have Hb2d := Lib.hid (Hb2.out.via hbd2 Hb2.out.size)
                    have HBwd := Lib.hid (fun w' (h : Below wr2.drew.heap.size wr2.drew w') => HBw.out w' (hbd2.via h hbd2.size))
                    have HbRd := Lib.hid (HbR.out.via hbd2 HbR.out.size)
                    have HbQd := Lib.hid (HbQ.out.via hbd2 HbQ.out.size)
                    clear hbd2
                    clear HBw Hb2 HbR HbQ
                    generalize wr2.drew = wq at *
                    rw [Hand.out, Hand2.out]
                    by_cases hq : yn &&& U = xn &&& U
                    · rw [hq]
                      have hqq : (((xn &&& U : Nat) : Int) != ((xn &&& U : Nat) : Int)) = false := by simp
                      obtain ⟨hs1, hs2⟩ := HPS.out yn xn hq
                      have hxv : x = (xn : Int) := by rw [Hxn.out, HXn.out]
                      have e1 : pNm k RS i2 = ⟨#[98, 97, 115, 101]⟩ := by unfold pNm; rw [Hpb2.out, if_neg (by decide)]
                      have e2 : pIn k RS GS NS i2 = NSx := by unfold pIn; rw [Hpb2.out, if_neg (by decide), ← Hy2.out, hs1, ← HNx.out, hxv]
                      have e3 : pDm k RS OS i2 = DSx := by unfold pDm; rw [Hpb2.out, if_neg (by decide), ← Hy2.out, hs2, ← HDx.out, hxv]
                      have e4 : pEr k RS i2 = 0 := by unfold pEr; rw [Hpb2.out, if_neg (by decide)]
                      have E1 := Lib.hid e1
                      have E2 := Lib.hid e2
                      have E3 := Lib.hid e3
                      have E4 := Lib.hid e4
                      clear hs1 hs2 hxv e1 e2 e3 e4
                      have HBs := Lib.hid (fun w' (h : Below wq.heap.size wq w') => And.intro (HBwd.out w' h).1.1.1 (HBwd.out w' h).2)
                      have HbW := Lib.hid (Hb8.out.via HbQd.out Hb8.out.size)
                      go_upto_region 29 with fail
                      go_cut [15, 16] (fun s12 s13 wz => ∃ P, s12 = .pointer (some ⟨P, 0, none⟩) ∧ s13 = .int .i64 (pEr k RS i2) ∧ wq.heap.size ≤ P ∧ PrAt wz P (pNm k RS i2) (pIn k RS GS NS i2) (pDm k RS OS i2) ∧ Below wq.heap.size wq wz)
                      case first =>
                        have hbd : Below wq.heap.size wq wq.drew := (Below.refl _ _).drew
                        refine wp_region_held_drew (S := (fun w' => (w'.cell? ⟨B, 0, none⟩ = some baseS ∧ w'.cell? ⟨B, 1, none⟩ = some nilV ∧ w'.cell? ⟨B, 2, none⟩ = some (.slice ai 3 ci) ∧ w'.cell? ⟨B, 3, none⟩ = some (.slice ad 2 cd) ∧ w'.cell? ⟨B, 4, none⟩ = some nilV ∧ w'.cell? ⟨B, 5, none⟩ = some nilV ∧ w'.cell? ⟨B, 6, none⟩ = some (.slice a7 k c7) ∧ w'.cell? ⟨B, 7, none⟩ = some (.slice a8 m c8) ∧ w'.cell? ⟨B, 8, none⟩ = some (.slice a9 ng c9) ∧ w'.cell? ⟨B, 9, none⟩ = some (.slice a10 no c10)) ∧ w'.cell? ⟨g, kk, none⟩ = some (.int .i64 (yn : Int)))) (by kernel_rfl) (by exact HBs.out _ (Below.refl _ _).drew) (fun hHeld => ?_)
                        refine wpAnyH_take (i := 0) (v := ?v51) rfl (by kernel_rfl) (by kernel_rfl) (by kernel_rfl) (fun _ _ _ h => h) (Or.inl ⟨by rfl, ?hy51⟩) (by assumption) ?rest51
                        case hy51 => (intro w hSw; (try dsimp only at hSw); go_simp; try (with_reducible rfl))
                        try simp only [Act.put, List.getElem_toArray, List.getElem_cons_zero, List.setIfInBounds_toArray, List.set_cons_zero, List.set_cons_succ]
                        refine wpAnyH_take (i := 1) (v := ?v52) rfl (by kernel_rfl) (by kernel_rfl) (by kernel_rfl) (fun _ _ _ h => h) (Or.inl ⟨by rfl, ?hy52⟩) (by assumption) ?rest52
                        case hy52 => (intro w hSw; (try dsimp only at hSw); go_simp; try (with_reducible rfl))
                        try simp only [Act.put, List.getElem_toArray, List.getElem_cons_zero, List.getElem_cons_succ, List.setIfInBounds_toArray, List.set_cons_zero, List.set_cons_succ]
                        refine wpAnyH_take (i := 2) (v := ?v53) rfl (by kernel_rfl) (by kernel_rfl) (by kernel_rfl) (fun _ _ _ h => h) (Or.inl ⟨by rfl, ?hy53⟩) (by assumption) ?rest53
                        case hy53 => (intro w hSw; (try dsimp only at hSw); go_simp; try (with_reducible rfl))
                        try simp only [Act.put, List.getElem_toArray, List.getElem_cons_zero, List.getElem_cons_succ, List.setIfInBounds_toArray, List.set_cons_zero, List.set_cons_succ]
                        refine wpAnyH_take (i := 3) (v := ?v54) rfl (by kernel_rfl) (by kernel_rfl) (by kernel_rfl) (fun _ _ _ h => h) (Or.inl ⟨by rfl, ?hy54⟩) (by assumption) ?rest54
                        case hy54 => (intro w hSw; (try dsimp only at hSw); go_simp; try (with_reducible rfl))
                        try simp only [Act.put, List.getElem_toArray, List.getElem_cons_zero, List.getElem_cons_succ, List.setIfInBounds_toArray, List.set_cons_zero, List.set_cons_succ]
                        refine wpAnyH_take (i := 4) (v := ?v55) rfl (by kernel_rfl) (by kernel_rfl) (by kernel_rfl) (fun _ _ _ h => h) (Or.inl ⟨by rfl, ?hy55⟩) (by assumption) ?rest55
                        case hy55 => (intro w hSw; (try dsimp only at hSw); go_simp; try (with_reducible rfl))
                        try simp only [Act.put, List.getElem_toArray, List.getElem_cons_zero, List.getElem_cons_succ, List.setIfInBounds_toArray, List.set_cons_zero, List.set_cons_succ]
                        refine wpAnyH_take (i := 5) (v := ?v56) rfl (by kernel_rfl) (by kernel_rfl) (by kernel_rfl) (fun _ _ _ h => h) (Or.inl ⟨by rfl, ?hy56⟩) (by assumption) ?rest56
                        case hy56 => (intro w hSw; (try dsimp only at hSw); go_simp; try (with_reducible rfl))
                        try simp only [Act.put, List.getElem_toArray, List.getElem_cons_zero, List.getElem_cons_succ, List.setIfInBounds_toArray, List.set_cons_zero, List.set_cons_succ]
                        refine wpAnyH_ready (rs := [6, 11]) (by kernel_rfl) (by simp) ?_
                        refine AllReadyH.cons rfl (fun K hK => ?_) (AllReadyH.cons rfl (fun K hK => ?_) AllReadyH.nil)
                        · go_simp
                          go_at_call 20
                          refine (H20.out _ (yn : Int) (HbW.out.via (hbd) HbW.out.size) hy0 hy1).mono ?_
                          rintro e2 wn ⟨nv, rfl, hnv, hbn⟩
                          rw [Hy2.out] at hnv
                          have Hnv := Lib.hid hnv
                          have Hbn := Lib.hid (show Below wq.heap.size wq wn from (hbd).via hbn (hbd).size)
                          clear hnv
                          clear hbn
                          refine hK.out _ _ (by exact HBs.out _ Hbn.out) (fun hHeld => ?_)
                          clear hK K
                          try simp only [Act.put, List.setIfInBounds_toArray, List.set_cons_zero, List.set_cons_succ]
                          refine wpAnyH_ready (rs := [7, 11]) (by kernel_rfl) (by simp) ?_
                          refine AllReadyH.cons rfl (fun K hK => ?_) (AllReadyH.cons rfl (fun K hK => ?_) AllReadyH.nil)
                          · go_simp
                            go_at_call 34
                            refine (H34.out _ (HbW.out.via (Hbn.out) HbW.out.size) i2 hi2N _ (by exact Hnv.out)).mono ?_
                            rintro e2 wp ⟨ia, ic, da, dc, rfl, hin, hdm, hf1, hf2, hbp⟩
                            have Hin := Lib.hid hin
                            have Hdm := Lib.hid hdm
                            have Hf1 := Lib.hid hf1
                            have Hf2 := Lib.hid hf2
                            have Hbp := Lib.hid (show Below wq.heap.size wq wp from (Hbn.out).via hbp (Hbn.out).size)
                            have hbpp := hbp
                            clear hin hdm hf1 hf2 hbp
                            refine hK.out _ _ (by exact HBs.out _ Hbp.out) (fun hHeld => ?_)
                            clear hK K
                            try simp only [Act.put, List.setIfInBounds_toArray, List.set_cons_zero, List.set_cons_succ]
                            refine wpAnyH_take (i := 8) (v := ?v57) rfl (by kernel_rfl) (by kernel_rfl) (by kernel_rfl) (fun _ _ _ h => h) (Or.inl ⟨by rfl, ?hy57⟩) (by assumption) ?rest57
                            case hy57 => (intro w hSw; (try dsimp only at hSw); go_simp; try (with_reducible rfl))
                            try simp only [Act.put, List.getElem_toArray, List.getElem_cons_zero, List.getElem_cons_succ, List.setIfInBounds_toArray, List.set_cons_zero, List.set_cons_succ]
                            refine wpAnyH_take (i := 9) (v := ?v58) rfl (by kernel_rfl) (by kernel_rfl) (by kernel_rfl) (fun _ _ _ h => h) (Or.inl ⟨by rfl, ?hy58⟩) (by assumption) ?rest58
                            case hy58 => (intro w hSw; (try dsimp only at hSw); go_simp; try (with_reducible rfl))
                            try simp only [Act.put, List.getElem_toArray, List.getElem_cons_zero, List.getElem_cons_succ, List.setIfInBounds_toArray, List.set_cons_zero, List.set_cons_succ]
                            refine wpAnyH_take (i := 10) (v := ?v59) rfl (by kernel_rfl) (by kernel_rfl) (by kernel_rfl) (fun _ _ _ h => h) (Or.inl ⟨by rfl, ?hy59⟩) (by assumption) ?rest59
                            case hy59 => (intro w hSw; (try dsimp only at hSw); go_simp; try (with_reducible rfl))
                            try simp only [Act.put, List.getElem_toArray, List.getElem_cons_zero, List.getElem_cons_succ, List.setIfInBounds_toArray, List.set_cons_zero, List.set_cons_succ]
                            refine wpAnyH_ready (rs := [11]) (by kernel_rfl) (by simp) ?_
                            refine AllReadyH.cons rfl (fun K hK => ?_) AllReadyH.nil
                            go_simp
                            refine hK.out _ _ (by exact HBs.out _ (Hbp.out.alloc Hbp.out.size _)) (fun hHeld => ?_)
                            clear hK K
                            try simp only [Act.put, List.setIfInBounds_toArray, List.set_cons_zero, List.set_cons_succ]
                            refine wpAnyH_ready (rs := [12]) (by kernel_rfl) (by simp) ?_
                            refine AllReadyH.cons rfl (fun K hK => ?_) AllReadyH.nil
                            go_simp
                            refine hK.out _ _ (by exact HBs.out _ (Hbp.out.alloc Hbp.out.size _)) (fun hHeld => ?_)
                            clear hK K
                            try simp only [Act.put, List.setIfInBounds_toArray, List.set_cons_zero, List.set_cons_succ]
                            refine wpAnyH_take (i := 13) (v := ?v60) rfl (by kernel_rfl) (by kernel_rfl) (by kernel_rfl) (fun _ _ _ h => h) (Or.inl ⟨by rfl, ?hy60⟩) (by assumption) ?rest60
                            case hy60 => (intro w hSw; (try dsimp only at hSw); go_simp; try (with_reducible rfl))
                            try simp only [Act.put, List.getElem_toArray, List.getElem_cons_zero, List.getElem_cons_succ, List.setIfInBounds_toArray, List.set_cons_zero, List.set_cons_succ]
                            refine wpAnyH_done (by kernel_rfl) ?_ _
                            simp only [Exit.then]
                            go_wp2_with fail
                            go_meet
                            exact ⟨_, rfl, rfl, Hbp.out.size, ⟨ia, ic, da, dc, Blk.new wp #[.string (pNm k RS i2), nilV, .slice ia (pIn k RS GS NS i2).length ic, .slice da (pDm k RS OS i2).length dc, nilV, nilV] 35, Hin.out.mono (below1 wp _), Hdm.out.mono (below1 wp _)⟩, Hbp.out.alloc Hbp.out.size _⟩
                          · go_simp
                            have HZ := Lib.hid (Blk.new wn #[.string ⟨#[]⟩, .slice none 0 0, .slice none 0 0, .slice none 0 0, .slice none 0 0, .slice none 0 0] 35)
                            have hbz := Hbn.out.alloc Hbn.out.size (.cells #[.string ⟨#[]⟩, .slice none 0 0, .slice none 0 0, .slice none 0 0, .slice none 0 0, .slice none 0 0] 35)
                            refine hK.out _ _ (by exact HBs.out _ hbz) (fun hHeld => ?_)
                            clear hK K
                            try simp only [Act.put, List.setIfInBounds_toArray, List.set_cons_zero, List.set_cons_succ]
                            refine wpAnyH_ready (rs := [7]) (by kernel_rfl) (by simp) ?_
                            refine AllReadyH.cons rfl (fun K hK => ?_) AllReadyH.nil
                            go_simp
                            go_at_call 34
                            refine (H34.out _ (HbW.out.via (hbz) HbW.out.size) i2 hi2N _ (by exact (Hnv.out.mono (below1 wn _)))).mono ?_
                            rintro e2 wp ⟨ia, ic, da, dc, rfl, hin, hdm, hf1, hf2, hbp⟩
                            have Hin := Lib.hid hin
                            have Hdm := Lib.hid hdm
                            have Hf1 := Lib.hid hf1
                            have Hf2 := Lib.hid hf2
                            have Hbp := Lib.hid (show Below wq.heap.size wq wp from (hbz).via hbp (hbz).size)
                            have hbpp := hbp
                            clear hin hdm hf1 hf2 hbp
                            refine hK.out _ _ (by exact HBs.out _ Hbp.out) (fun hHeld => ?_)
                            clear hK K
                            try simp only [Act.put, List.setIfInBounds_toArray, List.set_cons_zero, List.set_cons_succ]
                            refine wpAnyH_take (i := 8) (v := ?v61) rfl (by kernel_rfl) (by kernel_rfl) (by kernel_rfl) (fun _ _ _ h => h) (Or.inl ⟨by rfl, ?hy61⟩) (by assumption) ?rest61
                            case hy61 => (intro w hSw; (try dsimp only at hSw); go_simp; try (with_reducible rfl))
                            try simp only [Act.put, List.getElem_toArray, List.getElem_cons_zero, List.getElem_cons_succ, List.setIfInBounds_toArray, List.set_cons_zero, List.set_cons_succ]
                            refine wpAnyH_take (i := 9) (v := ?v62) rfl (by kernel_rfl) (by kernel_rfl) (by kernel_rfl) (fun _ _ _ h => h) (Or.inl ⟨by rfl, ?hy62⟩) (by assumption) ?rest62
                            case hy62 => (intro w hSw; (try dsimp only at hSw); go_simp; try (with_reducible rfl))
                            try simp only [Act.put, List.getElem_toArray, List.getElem_cons_zero, List.getElem_cons_succ, List.setIfInBounds_toArray, List.set_cons_zero, List.set_cons_succ]
                            refine wpAnyH_take (i := 10) (v := ?v63) rfl (by kernel_rfl) (by kernel_rfl) (by kernel_rfl) (fun _ _ _ h => h) (Or.inl ⟨by rfl, ?hy63⟩) (by assumption) ?rest63
                            case hy63 => (intro w hSw; (try dsimp only at hSw); go_simp; try (with_reducible rfl))
                            try simp only [Act.put, List.getElem_toArray, List.getElem_cons_zero, List.getElem_cons_succ, List.setIfInBounds_toArray, List.set_cons_zero, List.set_cons_succ]
                            have hzp := HZ.out.below hbpp
                            obtain ⟨⟨z0, z1, z2, z3, z4, z5⟩, ⟨y0, y1, y2, y3, y4, y5⟩⟩ := blk6 hzp
                            have hz6 := Blk.set6 (.string (pNm k RS i2)) nilV (.slice ia (pIn k RS GS NS i2).length ic) (.slice da (pDm k RS OS i2).length dc) nilV nilV hzp
                            have hbel := below_set6 (b := wn.heap.size) (.string (pNm k RS i2)) nilV (.slice ia (pIn k RS GS NS i2).length ic) (.slice da (pDm k RS OS i2).length dc) nilV nilV Hbp.out Hbn.out.size
                            have hi6 := set6_sl Hin.out (R := wn.heap.size) (fun b hb => by have := Hf1.out b hb; simp at this; omega) (.string (pNm k RS i2)) nilV (.slice ia (pIn k RS GS NS i2).length ic) (.slice da (pDm k RS OS i2).length dc) nilV nilV
                            have hd6 := set6_sl Hdm.out (R := wn.heap.size) (fun b hb => by have := Hf2.out b hb; simp at this; omega) (.string (pNm k RS i2)) nilV (.slice ia (pIn k RS GS NS i2).length ic) (.slice da (pDm k RS OS i2).length dc) nilV nilV
                            have HZ6 := Lib.hid hz6
                            have Hbel := Lib.hid hbel
                            have Hi6 := Lib.hid hi6
                            have Hd6 := Lib.hid hd6
                            clear hz6 hbel hi6 hd6 hzp
                            refine wpAnyH_ready (rs := [12]) (by kernel_rfl) (by simp) ?_
                            refine AllReadyH.cons rfl (fun K hK => ?_) AllReadyH.nil
                            go_simp
                            refine hK.out _ _ (by exact HBs.out _ Hbel.out) (fun hHeld => ?_)
                            clear hK K
                            try simp only [Act.put, List.setIfInBounds_toArray, List.set_cons_zero, List.set_cons_succ]
                            refine wpAnyH_take (i := 13) (v := ?v64) rfl (by kernel_rfl) (by kernel_rfl) (by kernel_rfl) (fun _ _ _ h => h) (Or.inl ⟨by rfl, ?hy64⟩) (by assumption) ?rest64
                            case hy64 => (intro w hSw; (try dsimp only at hSw); go_simp; try (with_reducible rfl))
                            try simp only [Act.put, List.getElem_toArray, List.getElem_cons_zero, List.getElem_cons_succ, List.setIfInBounds_toArray, List.set_cons_zero, List.set_cons_succ]
                            refine wpAnyH_done (by kernel_rfl) ?_ _
                            simp only [Exit.then]
                            go_wp2_with fail
                            go_meet
                            exact ⟨_, rfl, rfl, Hbn.out.size, ⟨ia, ic, da, dc, HZ6.out, Hi6.out, Hd6.out⟩, Hbel.out⟩
                        · go_simp
                          have HZ0 := Lib.hid (Blk.new wq #[.string ⟨#[]⟩, .slice none 0 0, .slice none 0 0, .slice none 0 0, .slice none 0 0, .slice none 0 0] 35)
                          have hbz := (below1 wq (.cells #[.string ⟨#[]⟩, .slice none 0 0, .slice none 0 0, .slice none 0 0, .slice none 0 0, .slice none 0 0] 35)).dn 1
                          refine hK.out _ _ (by exact HBs.out _ hbz) (fun hHeld => ?_)
                          clear hK K
                          try simp only [Act.put, List.setIfInBounds_toArray, List.set_cons_zero, List.set_cons_succ]
                          refine wpAnyH_ready (rs := [6]) (by kernel_rfl) (by simp) ?_
                          refine AllReadyH.cons rfl (fun K hK => ?_) AllReadyH.nil
                          go_simp
                          go_at_call 20
                          refine (H20.out _ (yn : Int) (HbW.out.via (hbz) HbW.out.size) hy0 hy1).mono ?_
                          rintro e2 wn ⟨nv, rfl, hnv, hbn⟩
                          rw [Hy2.out] at hnv
                          have Hnv := Lib.hid hnv
                          have Hbn := Lib.hid (show Below wq.heap.size wq wn from (hbz).via hbn (hbz).size)
                          clear hnv
                          have HZ := Lib.hid (HZ0.out.below (undrew hbn))
                          clear hbn
                          refine hK.out _ _ (by exact HBs.out _ Hbn.out) (fun hHeld => ?_)
                          clear hK K
                          try simp only [Act.put, List.setIfInBounds_toArray, List.set_cons_zero, List.set_cons_succ]
                          refine wpAnyH_ready (rs := [7]) (by kernel_rfl) (by simp) ?_
                          refine AllReadyH.cons rfl (fun K hK => ?_) AllReadyH.nil
                          go_simp
                          go_at_call 34
                          refine (H34.out _ (HbW.out.via (Hbn.out) HbW.out.size) i2 hi2N _ (by exact Hnv.out)).mono ?_
                          rintro e2 wp ⟨ia, ic, da, dc, rfl, hin, hdm, hf1, hf2, hbp⟩
                          have Hin := Lib.hid hin
                          have Hdm := Lib.hid hdm
                          have Hf1 := Lib.hid hf1
                          have Hf2 := Lib.hid hf2
                          have Hbp := Lib.hid (show Below wq.heap.size wq wp from (Hbn.out).via hbp (Hbn.out).size)
                          have hbpp := hbp
                          clear hin hdm hf1 hf2 hbp
                          refine hK.out _ _ (by exact HBs.out _ Hbp.out) (fun hHeld => ?_)
                          clear hK K
                          try simp only [Act.put, List.setIfInBounds_toArray, List.set_cons_zero, List.set_cons_succ]
                          refine wpAnyH_take (i := 8) (v := ?v65) rfl (by kernel_rfl) (by kernel_rfl) (by kernel_rfl) (fun _ _ _ h => h) (Or.inl ⟨by rfl, ?hy65⟩) (by assumption) ?rest65
                          case hy65 => (intro w hSw; (try dsimp only at hSw); go_simp; try (with_reducible rfl))
                          try simp only [Act.put, List.getElem_toArray, List.getElem_cons_zero, List.getElem_cons_succ, List.setIfInBounds_toArray, List.set_cons_zero, List.set_cons_succ]
                          refine wpAnyH_take (i := 9) (v := ?v66) rfl (by kernel_rfl) (by kernel_rfl) (by kernel_rfl) (fun _ _ _ h => h) (Or.inl ⟨by rfl, ?hy66⟩) (by assumption) ?rest66
                          case hy66 => (intro w hSw; (try dsimp only at hSw); go_simp; try (with_reducible rfl))
                          try simp only [Act.put, List.getElem_toArray, List.getElem_cons_zero, List.getElem_cons_succ, List.setIfInBounds_toArray, List.set_cons_zero, List.set_cons_succ]
                          refine wpAnyH_take (i := 10) (v := ?v67) rfl (by kernel_rfl) (by kernel_rfl) (by kernel_rfl) (fun _ _ _ h => h) (Or.inl ⟨by rfl, ?hy67⟩) (by assumption) ?rest67
                          case hy67 => (intro w hSw; (try dsimp only at hSw); go_simp; try (with_reducible rfl))
                          try simp only [Act.put, List.getElem_toArray, List.getElem_cons_zero, List.getElem_cons_succ, List.setIfInBounds_toArray, List.set_cons_zero, List.set_cons_succ]
                          have hzp := HZ.out.below hbpp
                          obtain ⟨⟨z0, z1, z2, z3, z4, z5⟩, ⟨y0, y1, y2, y3, y4, y5⟩⟩ := blk6 hzp
                          have hz6 := Blk.set6 (.string (pNm k RS i2)) nilV (.slice ia (pIn k RS GS NS i2).length ic) (.slice da (pDm k RS OS i2).length dc) nilV nilV hzp
                          have hbel := below_set6 (b := wq.heap.size) (.string (pNm k RS i2)) nilV (.slice ia (pIn k RS GS NS i2).length ic) (.slice da (pDm k RS OS i2).length dc) nilV nilV Hbp.out (Nat.le_refl _)
                          have hi6 := set6_sl Hin.out (R := wq.heap.size) (fun b hb => by have := Hf1.out b hb; have := HZ.out.lt; omega) (.string (pNm k RS i2)) nilV (.slice ia (pIn k RS GS NS i2).length ic) (.slice da (pDm k RS OS i2).length dc) nilV nilV
                          have hd6 := set6_sl Hdm.out (R := wq.heap.size) (fun b hb => by have := Hf2.out b hb; have := HZ.out.lt; omega) (.string (pNm k RS i2)) nilV (.slice ia (pIn k RS GS NS i2).length ic) (.slice da (pDm k RS OS i2).length dc) nilV nilV
                          have HZ6 := Lib.hid hz6
                          have Hbel := Lib.hid hbel
                          have Hi6 := Lib.hid hi6
                          have Hd6 := Lib.hid hd6
                          clear hz6 hbel hi6 hd6 hzp
                          refine wpAnyH_ready (rs := [12]) (by kernel_rfl) (by simp) ?_
                          refine AllReadyH.cons rfl (fun K hK => ?_) AllReadyH.nil
                          go_simp
                          refine hK.out _ _ (by exact HBs.out _ Hbel.out) (fun hHeld => ?_)
                          clear hK K
                          try simp only [Act.put, List.setIfInBounds_toArray, List.set_cons_zero, List.set_cons_succ]
                          refine wpAnyH_take (i := 13) (v := ?v68) rfl (by kernel_rfl) (by kernel_rfl) (by kernel_rfl) (fun _ _ _ h => h) (Or.inl ⟨by rfl, ?hy68⟩) (by assumption) ?rest68
                          case hy68 => (intro w hSw; (try dsimp only at hSw); go_simp; try (with_reducible rfl))
                          try simp only [Act.put, List.getElem_toArray, List.getElem_cons_zero, List.getElem_cons_succ, List.setIfInBounds_toArray, List.set_cons_zero, List.set_cons_succ]
                          refine wpAnyH_done (by kernel_rfl) ?_ _
                          simp only [Exit.then]
                          go_wp2_with fail
                          go_meet
                          exact ⟨_, rfl, rfl, (Nat.le_refl _), ⟨ia, ic, da, dc, HZ6.out, Hi6.out, Hd6.out⟩, Hbel.out⟩
                      case rest =>
                        rename World => wt
                        obtain ⟨Q, rfl, rfl, -, hPq, hbt⟩ := hcut
                        obtain ⟨ka, kb, kd, ke, hbQ, hinQ, hdmQ⟩ := hPq
                        rw [E1.out, E2.out, E3.out] at hbQ
                        rw [E2.out] at hinQ
                        rw [E3.out] at hdmQ
                        rw [E4.out]
                        obtain ⟨⟨t0, t1, t2, t3, t4, t5⟩, -⟩ := blk6 hbQ
                        have hw6 := HbRd.out.via hbt HbRd.out.size
                        obtain ⟨-, u0, u1, u2, u3, u4, u5⟩ := HBq.out wt hw6
                        have H35q := Lib.hid (H35.out wt ⟨#[98, 97, 115, 101]⟩ NSx DSx ia da ka kd ic dc kb ke (HIp.out _ hw6) (HDp.out _ hw6) hinQ hdmQ hnx hdx)
                        have Hbt := Lib.hid (Hb2d.out.via hbt Hb2d.out.size)
                        clear hbQ hinQ hdmQ hw6 hbt
                        go_wp2_with (go_at_call 35; refine (H35q.out).mono ?_; rintro e wu ⟨rfl, hbu⟩)
                        go_roundw
                        case rel => exact ⟨kk + 1, by omega, by go_num, Hbt.out.via hbu Hbt.out.size⟩
                        case measure => simp [intOf]; omega
                    · have hqq : (((yn &&& U : Nat) : Int) != ((xn &&& U : Nat) : Int)) = true := by simp; omega
                      go_wp2_with fail
                      go_roundw
                      case rel => exact ⟨kk + 1, by omega, by go_num, Hb2d.out⟩
                      case measure => simp [intOf]; omega
                  · obtain rfl : ls = kk := by omega
                    have hfin := HBq.out wr2 HbR.out
                    have s9 := hfin.1.2
                    have hown2 := own_below HownV.out hb2
                    have hxr : x = ((rev k (2 ^ k - 1 - i) : Nat) : Int) := Hxx.out
                    have Hxr := Lib.hid hxr
                    clear hfin hxr
                    go_wp2_with (at_builtin; refine wpApp E50 (by decide) [.int .i64 x] rfl _ _ rfl w8.heap.size _ _ _ rfl rfl hown2 rfl (one1 _ rfl) (by omega) (by decide) (HbQ.out).size ?_; intro v' wf hown' hg'; have hbf := below_app HbQ.out hown2 hg' (HbQ.out).size)
                    go_roundw
                    case rel => exact ⟨i + 1, by omega, by go_num, hbf, by rw [Hse1.out, List.length_append, List.map_append, List.map_append, Hls.out]; simpa [← Hxr.out] using hown'⟩
                    case measure => simp [intOf]; omega
          · obtain rfl : N2 = i := by omega
            have Hbr := Lib.hid (Hb8.out.via hbr Hb8.out.size)
            clear hbr hown
            go_wp2_with fail
            go_ret
            exact Ret.mk (Hbw.out.via Hbr.out Hbw.out.size)

end Go.Proofs.Ytkphggmbimjhjaa
