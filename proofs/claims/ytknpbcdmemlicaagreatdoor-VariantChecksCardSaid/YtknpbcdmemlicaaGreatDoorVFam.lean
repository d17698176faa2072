/-
  Family.
-/
import Derived.Test.YtknpbcdmemlicaaGreatDoorVLr
import Derived.Test.YtknpbcdmemlicaaGreatDoorVPop
import Derived.Deep.CutBlock
import Derived.Deep.DeepCutAuto
namespace Go.Proofs.YtknpbcdmemlicaaGreatDoor
open Go.RowKit

/-- What Family hands back: the family's ten cells; its rows, each in a block of its own. -/
structure FamP (w w' : World) (k : Nat) (R D O : List (List Int)) (v7 v8 v9 v10 : Value) (rvk : List (Value × Value)) : Prop where
  own7 : w'.ownsRow (w.heap.size + 4) 9 1 v7 k ((optsTo k).map Value.string)
  own8 : w'.ownsRow (w.heap.size + 4) 40 2 v8 (min R.length 6) ((rvk.map c2).flatten)
  row : RulesRow w' rvk (rulesTo k R (min R.length 6))
  sep : ∀ x ∈ rvk, ∀ b, x.2.ownBlock = some b → w.heap.size + 4 ≤ b ∧ b < w'.heap.size ∧ v8.ownBlock ≠ some b
  rest : ∀ F w'', F < w.heap.size + 4 → Eqb w'.heap.size F w' w'' → Gds w'' v9 (guardsTo k D (min D.length 4)) ∧ Ovs w'' v10 (ovsTo k O (min O.length 4))
  below : Below w.heap.size w w'
def FamB (w : World) (k : Nat) (R D O : List (List Int)) (iv dv : Value) (e : Ending) (w' : World) : Prop :=
  ∃ a7 c7 a8 c8 a9 c9 a10 c10 rvk, e = .returned (.agg #[.string ⟨#[98, 97, 115, 101]⟩, .slice none 0 0, iv, dv, .slice none 0 0, .slice none 0 0, .slice a7 k c7, .slice a8 (min R.length 6) c8, .slice a9 (min D.length 4) c9, .slice a10 (min O.length 4) c10]) ∧
    FamP w w' k R D O (.slice a7 k c7) (.slice a8 (min R.length 6) c8) (.slice a9 (min D.length 4) c9) (.slice a10 (min O.length 4) c10) rvk

set_option maxHeartbeats 8000000 in
set_option maxRecDepth 100000 in
theorem family_any (N : Int) (R D O : List (List Int)) (rv dv ov : Value) (ai : Option Addr) (ci : Nat) (ad : Option Addr) (cd : Nat) (w : World) (hN0 : 0 ≤ N) (hN : N < 256)
    (hRr : ∀ r ∈ R, ∀ x ∈ r, -128 ≤ x ∧ x ≤ 127) (hDr : ∀ r ∈ D, ∀ x ∈ r, -128 ≤ x ∧ x ≤ 127) (hOr : ∀ r ∈ O, ∀ x ∈ r, -128 ≤ x ∧ x ≤ 127) (hR : M8 w rv R) (hD : M8 w dv D) (hO : M8 w ov O) (hdim : Dims w (.slice ad 2 cd) baseDims) :
    Calls Tryz.prog 17 #[.agg #[.int .u8 N, rv, dv, ov], .agg #[.string ⟨#[98, 97, 115, 101]⟩, .slice none 0 0, .slice ai 3 ci, .slice ad 2 cd, .slice none 0 0, .slice none 0 0]] w (FamB w (1 + N % 6).toNat R D O (.slice ai 3 ci) (.slice ad 2 cd)) := by
  obtain ⟨ar, cr, rfl, hrl, hrc⟩ := hR.open
  obtain ⟨ag, cg, rfl, hgl, hgc⟩ := hD.open
  obtain ⟨ao, co, rfl, hol, hoc⟩ := hO.open
  obtain ⟨n, hn, hn1, hn6⟩ : ∃ n : Nat, 1 + N % 6 = (n : Int) ∧ 1 ≤ n ∧ n ≤ 6 := ⟨(1 + N % 6).toNat, by omega, by omega, by omega⟩
  go_enter Tryz.func17, Tryz.ntmps17
  go_wp2
  have hFS := FS.start w (.int .u8 N) (.slice ar R.length cr) (.slice ag D.length cg) (.slice ao O.length co) (.slice ai 3 ci) (.slice ad 2 cd)
  generalize (((w.alloc (.cells #[.int .u8 N, .slice ar R.length cr, .slice ag D.length cg, .slice ao O.length co] 70)).alloc (.cells #[.string ⟨#[98, 97, 115, 101]⟩, .slice none 0 0, .slice ai 3 ci, .slice ad 2 cd, .slice none 0 0, .slice none 0 0] 30)).alloc (.cells #[.string ⟨#[]⟩, .slice none 0 0, .slice none 0 0, .slice none 0 0, .slice none 0 0, .slice none 0 0, .slice none 0 0, .slice none 0 0, .slice none 0 0, .slice none 0 0] 36)).alloc (.cells #[.string ⟨#[98, 97, 115, 101]⟩, .slice none 0 0, .slice ai 3 ci, .slice ad 2 cd, .slice none 0 0, .slice none 0 0, .slice none 0 0, .slice none 0 0, .slice none 0 0, .slice none 0 0] 36) = W at *
  generalize hRl : R.length = mR at *
  generalize hDl : D.length = mD at *
  generalize hOl : O.length = mO at *
  have HRr := Lib.hid hRr
  have HDr := Lib.hid hDr
  have HOr := Lib.hid hOr
  clear hRr hDr hOr
  have HRl := Lib.hid hRl
  have HDl := Lib.hid hDl
  have HOl := Lib.hid hOl
  have HR := Lib.hid hR
  have HD := Lib.hid hD
  have HOv := Lib.hid hO
  have Hdim := Lib.hid hdim
  have Hn := Lib.hid hn
  clear hn hN0 hN hRl hDl hOl hR hD hO hdim hrl hgl hol hrc hgc hoc
  go_loopw [7] (fun i wr => ∃ k : Nat, ∃ a c, k ≤ n ∧ i = .int .i64 k ∧ FS w wr (.int .u8 N) (.slice ar mR cr) (.slice ag mD cg) (.slice ao mO co) (.slice ai 3 ci) (.slice ad 2 cd) (.slice a k c) (.slice none 0 0) (.slice none 0 0) (.slice none 0 0) ∧
    wr.ownsRow (w.heap.size + 4) 9 1 (.slice a k c) k ((optsTo k).map Value.string)) (fun i _ => n - (intOf i).toNat)
  case atStart => exact ⟨0, none, 0, Nat.zero_le _, rfl, hFS, World.ownsRow_nil _ _ _ _⟩
  case round =>
    clear hFS
    obtain ⟨k, a, c, hk, rfl, hFS, hown⟩ := hrel
    by_cases hlt2 : k < n
    · have c0 := hFS.fam.cell 6
      simp only [List.getElem?_toArray, List.getElem?_cons_succ, List.getElem?_cons_zero] at c0
      have Hne := Lib.hid (show ∀ b, (Value.slice a k c).ownBlock = some b → w.heap.size + 4 ≤ b from fun b h => (hown.lt b h).1)
      obtain ⟨s, Hs⟩ : ∃ s, Hid (optS k = s) := ⟨_, Lib.hid rfl⟩
      have HO : Hid (∀ w2, Calls Tryz.prog 49 #[.int .i64 (k : Int)] w2 (Ret (.string s) w2)) := fun w2 => by have := option_any k w2 (by omega); rwa [Hs.out] at this
      have Hown := Lib.hid hown
      have HFS := Lib.hid hFS
      clear hown hFS
      go_wp2
      go_region_law (first
        | (refine stepApp E36 (by decide) _ (by rfl) _ _ (by rfl) (w.heap.size + 4) k _ _ _ (by rfl) (by rfl) (hown1.alloc _) (heap_alloc_new wb _) (by rfl) (by simp [Value.oneCell']) (by omega) (by decide) (by have := hFS1.size; simp; omega) ?_; intro g cap w1 hown2 hgr hat hlt; have hFS2 := (hFS1.alloc _).grown hgr Hne.out; have c3 := hFS2.fam.cell 6; simp only [List.getElem?_toArray, List.getElem?_cons_succ, List.getElem?_cons_zero] at c3; have f3 := hFS2.fam.free 6)
        | (go_simp; refine (HO.out _).mono ?_; rintro e wb ⟨rfl, hbb⟩; have hbb := undrew hbb; have hFS1 := HFS.out.via hbb; have cb := hFS1.fam.cell 6; have cblt := hFS1.fam.lt; simp only [List.getElem?_toArray, List.getElem?_cons_succ, List.getElem?_cons_zero] at cb; have hown1 := own_below Hown.out hbb))
      all_goals go_wp2
      all_goals
        go_roundw
        case rel => exact ⟨k + 1, _, cap, by omega, by go_num, hFS2.set7 _, by rw [optsTo_succ, List.map_append, Hs.out]; exact ownsRow_setCell_below hown2 (a := ⟨w.heap.size + 1 + 1 + 1, 6, none⟩) (show w.heap.size + 1 + 1 + 1 < w.heap.size + 4 by omega) _⟩
        case measure => simp [intOf]; omega
    · obtain rfl : k = n := by omega
      go_upto_block 2 with fail
      rename World => W2
      have H2sz := Lib.hid hFS.size
      have H7lt := Lib.hid (show ∀ b, (Value.slice a k c).ownBlock = some b → b < W2.heap.size from fun b hb => (hown.lt b hb).2)
      go_cut [] (fun wx => ∃ a8 c8 rvk, FS w wx (.int .u8 N) (.slice ar mR cr) (.slice ag mD cg) (.slice ao mO co) (.slice ai 3 ci) (.slice ad 2 cd) (.slice a k c) (.slice a8 (min mR 6) c8) (.slice none 0 0) (.slice none 0 0) ∧
        wx.ownsRow (w.heap.size + 4) 9 1 (.slice a k c) k ((optsTo k).map Value.string) ∧ wx.ownsRow W2.heap.size 40 2 (.slice a8 (min mR 6) c8) (min mR 6) ((rvk.map c2).flatten) ∧ RulesRow wx rvk (rulesTo k R (min mR 6)) ∧
        (∀ x ∈ rvk, ∀ b, x.2.ownBlock = some b → W2.heap.size ≤ b ∧ b < wx.heap.size ∧ (Value.slice a8 (min mR 6) c8).ownBlock ≠ some b) ∧ W2.heap.size ≤ wx.heap.size)
      case first =>
        have Hown7 := Lib.hid hown
        have HFS0 := Lib.hid hFS
        clear hown hFS
        go_wp2_with fail
        go_loopw [8] (fun i wr => ∃ j : Nat, ∃ a8 c8 rvk, j ≤ mR ∧ j ≤ 6 ∧ i = .int .i64 j ∧ FS w wr (.int .u8 N) (.slice ar mR cr) (.slice ag mD cg) (.slice ao mO co) (.slice ai 3 ci) (.slice ad 2 cd) (.slice a k c) (.slice a8 j c8) (.slice none 0 0) (.slice none 0 0) ∧
          wr.ownsRow (w.heap.size + 4) 9 1 (.slice a k c) k ((optsTo k).map Value.string) ∧ wr.ownsRow W2.heap.size 40 2 (.slice a8 j c8) j ((rvk.map c2).flatten) ∧ RulesRow wr rvk (rulesTo k R j) ∧
          (∀ x ∈ rvk, ∀ b, x.2.ownBlock = some b → W2.heap.size ≤ b ∧ b < wr.heap.size ∧ (Value.slice a8 j c8).ownBlock ≠ some b) ∧ W2.heap.size ≤ wr.heap.size) (fun i _ => 6 - (intOf i).toNat)
        case atStart => exact ⟨0, none, 0, [], Nat.zero_le _, Nat.zero_le _, rfl, HFS0.out, Hown7.out, World.ownsRow_nil _ _ _ _, ⟨rfl, fun k x r hx hr => by simp at hx⟩, fun x hx => by simp at hx, Nat.le_refl _⟩
        case round =>
          obtain ⟨j, a8, c8, rvk, hj, hj6, rfl, hFS, hown7, hown, hrr, hsep, hsz⟩ := hrel
          have k1 := hFS.kin.cell 1
          simp only [List.getElem?_toArray, List.getElem?_cons_succ, List.getElem?_cons_zero] at k1
          have HFS := Lib.hid hFS
          have Hown := Lib.hid hown
          have Hown7 := Lib.hid hown7
          have Hrr := Lib.hid hrr
          have Hsep := Lib.hid hsep
          clear hFS hown hown7 hrr hsep
          by_cases hlt2 : j < mR
          · by_cases hlt3 : j < 6
            · obtain ⟨kb, koff, cv, code, rfl, hcode, kc0, hI8, hkbl⟩ := HR.out.at HFS.out.below (k := j) hlt2
              obtain ⟨ca, cc, rfl, -, -⟩ := hI8.open
              have Hcode := Lib.hid (show R.getD j [] = code by rw [List.getD_eq_getElem?_getD, hcode]; rfl)
              have hrange := HRr.out code (List.mem_of_getElem? hcode)
              have hbw := HFS.out.below
              have HDec : Hid (∀ w2, Below wr.heap.size wr w2 → Calls Tryz.prog 50 #[.int .i64 (k : Int), .slice ca code.length cc] w2 (fun e w' => ∃ la ll lc, e = .returned (.slice la ll lc) ∧ Lits w' (.slice la ll lc) (decodeL k code) ∧
                  (∀ b, (Value.slice la ll lc).ownBlock = some b → wr.heap.size ≤ b ∧ b < w'.heap.size) ∧ Below wr.heap.size wr w' ∧ (∀ b cs T, Blk w2 b cs T → Blk w' b cs T))) := fun w2 h2 =>
                (decode_any k code _ w2 hn1 hn6 ((hI8.mono hbw).mono h2) hrange).mono fun e w' ⟨lv, h1, h3, h4, h5⟩ => by
                  obtain ⟨la, lc, rfl, -, -⟩ := h3.open
                  exact ⟨la, _, lc, h1, h3, fun b hb => ⟨Nat.le_trans h2.size (h4 b hb).1, (h4 b hb).2⟩, h2.via h5 h2.size, fun b cs T hB => hB.below h5⟩
              have kcw : w.cell? ⟨kb, koff + j, none⟩ = some (.slice ca code.length cc) := (hbw.cell (p := ⟨kb, koff + j, none⟩) hkbl).symm.trans kc0
              have Hkcw := Lib.hid kcw
              generalize code.length = cl at *
              have c0 := HFS.out.fam.cell 7
              simp only [List.getElem?_toArray, List.getElem?_cons_succ, List.getElem?_cons_zero] at c0
              have hw1 : IntKind.u8.wrap (j : Int) = j := IntWalk.u8_in _ (by omega)
              have hw2 : IntKind.u8.wrap (49 + (j : Int)) = 49 + j := IntWalk.u8_in _ (by omega)
              obtain ⟨s, Hs⟩ : ∃ s, Hid (ruleS j = s) := ⟨_, Lib.hid rfl⟩
              have HCv : Hid (∀ W1 b, Blk W1 b #[.int .u8 114, .int .u8 (49 + (j : Int))] 5 → (convert 120 9 (.slice (some ⟨b, 0, none⟩) 2 2)).run Tryz.prog W1 = .ok (.string s) W1) := fun W1 b hB => by
                have := bytes_rule j W1 b (by omega) hB; rwa [Hs.out] at this
              have hcvD : (convert 120 9 (.slice (some ⟨wr.heap.size, 0, none⟩) 2 2)).run Tryz.prog (wr.alloc (.cells #[.int .u8 114, .int .u8 (49 + (j : Int))] 5)).drew = .ok (.string s) (wr.alloc (.cells #[.int .u8 114, .int .u8 (49 + (j : Int))] 5)).drew := HCv.out _ _ (show Blk (wr.alloc (.cells #[.int .u8 114, .int .u8 (49 + (j : Int))] 5)).drew wr.heap.size _ 5 from Blk.new wr _ 5)
              have Hne := Lib.hid (show ∀ b, (Value.slice a8 j c8).ownBlock = some b → w.heap.size + 4 ≤ b from fun b h => by have := (Hown.out.lt b h).1; have := HFS0.out.size; omega)
              have Hbd := Lib.hid (show Below wr.heap.size wr wr.drew from (Below.refl _ _).drew)
              have Hbda := Lib.hid (show ∀ o, Below wr.heap.size wr (wr.alloc o).drew from fun o => ((Below.refl _ _).alloc (Nat.le_refl _) o).drew)
              have hj0 : (0 : Int) ≤ (j : Int) := Int.natCast_nonneg _
              have hj1 : (j : Int) < (mR : Int) := by omega
              have nC : w.heap.size + 1 + 1 + 1 ≠ kb := by omega
              have hwz := HFS.out.size
              have c0lt := HFS.out.fam.lt
              clear hcode hI8 hrange hbw kcw
              go_wp2_with fail
              refine wp_region_pop (S := (fun w' => w'.cell? ⟨w.heap.size, 1, none⟩ = some (.slice (some ⟨kb, koff, none⟩) mR cr) ∧ w'.cell? ⟨kb, koff + j, none⟩ = some (.slice ca cl cc) ∧ w'.cell? ⟨w.heap.size + 1 + 1 + 1, 7, none⟩ = some (.slice a8 j c8))) 18 (by kernel_rfl) (by kernel_rfl) (by exact ⟨k1, kc0, c0⟩) (fun hHeld => ?_)
              simp only [List.take_succ_cons, List.take_zero, List.drop_succ_cons, List.drop_zero]
              refine wpAnyH_take (i := 0) (v := ?va1) rfl (by kernel_rfl) (by kernel_rfl) (by kernel_rfl) (fun _ _ _ h => h) (Or.inl ⟨by rfl, ?hya1⟩) (by assumption) ?resta1
              case hya1 => (intro w hSw; (try dsimp only at hSw); go_simp; try (with_reducible rfl))
              try simp only [Act.put, List.setIfInBounds_toArray]
              refine wpAnyH_take (i := 1) (v := ?va2) rfl (by kernel_rfl) (by kernel_rfl) (by kernel_rfl) (fun _ _ _ h => h) (Or.inl ⟨by rfl, ?hya2⟩) (by assumption) ?resta2
              case hya2 => (intro w hSw; (try dsimp only at hSw); go_simp; try (with_reducible rfl))
              try simp only [Act.put]
              refine wpAnyH_take (i := 2) (v := ?va3) rfl (by kernel_rfl) (by kernel_rfl) (by kernel_rfl) (fun _ _ _ h => h) (Or.inl ⟨by rfl, ?hya3⟩) (by assumption) ?resta3
              case hya3 => (intro w hSw; (try dsimp only at hSw); go_simp; try (with_reducible rfl))
              try simp only [Act.put]
              refine wpAnyH_take (i := 3) (v := ?va4) rfl (by kernel_rfl) (by kernel_rfl) (by kernel_rfl) (fun _ _ _ h => h) (Or.inl ⟨by rfl, ?hya4⟩) (by assumption) ?resta4
              case hya4 => (intro w hSw; (try dsimp only at hSw); go_simp; try (with_reducible rfl))
              try simp only [Act.put]
              refine wpAnyH_take (i := 4) (v := ?va5) rfl (by kernel_rfl) (by kernel_rfl) (by kernel_rfl) (fun _ _ _ h => h) (Or.inl ⟨by rfl, ?hya5⟩) (by assumption) ?resta5
              case hya5 => (intro w hSw; (try dsimp only at hSw); go_simp; try (with_reducible rfl))
              try simp only [Act.put]
              refine wpAnyH_take (i := 7) (v := ?va6) rfl (by kernel_rfl) (by kernel_rfl) (by kernel_rfl) (fun _ _ _ h => h) (Or.inl ⟨by rfl, ?hya6⟩) (by assumption) ?resta6
              case hya6 => (intro w hSw; (try dsimp only at hSw); go_simp; try (with_reducible rfl))
              try simp only [Act.put]
              refine wpAnyH_take (i := 8) (v := ?va7) rfl (by kernel_rfl) (by kernel_rfl) (by kernel_rfl) (fun _ _ _ h => h) (Or.inl ⟨by rfl, ?hya7⟩) (by assumption) ?resta7
              case hya7 => (intro w hSw; (try dsimp only at hSw); go_simp; try (with_reducible rfl))
              try simp only [Act.put]
              refine wpAnyH_take (i := 9) (v := ?va8) rfl (by kernel_rfl) (by kernel_rfl) (by kernel_rfl) (fun _ _ _ h => h) (Or.inl ⟨by rfl, ?hya8⟩) (by assumption) ?resta8
              case hya8 => (intro w hSw; (try dsimp only at hSw); go_simp; try (with_reducible rfl))
              try simp only [Act.put]
              refine wpAnyH_take (i := 10) (v := ?va9) rfl (by kernel_rfl) (by kernel_rfl) (by kernel_rfl) (fun _ _ _ h => h) (Or.inl ⟨by rfl, ?hya9⟩) (by assumption) ?resta9
              case hya9 => (intro w hSw; (try dsimp only at hSw); go_simp; try (with_reducible rfl))
              try simp only [Act.put]
              refine wpAnyH_take (i := 11) (v := ?va10) rfl (by kernel_rfl) (by kernel_rfl) (by kernel_rfl) (fun _ _ _ h => h) (Or.inl ⟨by rfl, ?hya10⟩) (by assumption) ?resta10
              case hya10 => (intro w hSw; (try dsimp only at hSw); go_simp; try (with_reducible rfl))
              try simp only [Act.put]
              refine wpAnyH_take (i := 12) (v := ?va11) rfl (by kernel_rfl) (by kernel_rfl) (by kernel_rfl) (fun _ _ _ h => h) (Or.inl ⟨by rfl, ?hya11⟩) (by assumption) ?resta11
              case hya11 => (intro w hSw; (try dsimp only at hSw); go_simp; try (with_reducible rfl))
              try simp only [Act.put]
              refine wpAnyH_ready (rs := [5, 13]) (by kernel_rfl) (by simp) ?_
              refine AllReadyH.cons rfl (fun K hK => ?_) (AllReadyH.cons rfl (fun K hK => ?_) AllReadyH.nil)
              · go_simp
                refine hK.out _ _ (by exact ⟨cell_alloc k1, cell_alloc kc0, cell_alloc c0⟩) (fun hHeld => ?_)
                clear hK K
                try simp only [Act.put, List.setIfInBounds_toArray, List.set_cons_zero, List.set_cons_succ]
                refine wpAnyH_ready (rs := [6, 13]) (by kernel_rfl) (by simp) ?_
                refine AllReadyH.cons rfl (fun K hK => ?_) (AllReadyH.cons rfl (fun K hK => ?_) AllReadyH.nil)
                · go_simp
                  refine hK.out _ _ (by exact ⟨cell_alloc k1, cell_alloc kc0, cell_alloc c0⟩) (fun hHeld => ?_)
                  clear hK K
                  try simp only [Act.put, List.setIfInBounds_toArray, List.set_cons_zero, List.set_cons_succ]
                  refine wpAnyH_ready (rs := [13]) (by kernel_rfl) (by simp) ?_
                  refine AllReadyH.cons rfl (fun K hK => ?_) AllReadyH.nil
                  go_simp
                  go_at_call 50
                  refine (HDec.out _ (by exact Hbda.out _)).mono ?_
                  rintro e wb ⟨la, ll, lc, rfl, hlit, hfresh, hbb, hkp⟩
                  have Hlit := Lib.hid hlit
                  have Hfresh := Lib.hid hfresh
                  have Hkp := Lib.hid hkp
                  have hFS1 := HFS.out.via hbb
                  have cb := hFS1.fam.cell 7
                  have kd1 := hFS1.kin.cell 1
                  simp only [List.getElem?_toArray, List.getElem?_cons_succ, List.getElem?_cons_zero] at cb kd1
                  have kd2 := (hFS1.below.cell (p := ⟨kb, koff + j, none⟩) hkbl).trans Hkcw.out
                  have hownb := own_below Hown.out hbb
                  clear hlit hfresh hkp
                  refine hK.out _ _ (by exact ⟨kd1, kd2, cb⟩) (fun hHeld => ?_)
                  clear hK K
                  try simp only [Act.put, List.setIfInBounds_toArray, List.set_cons_zero, List.set_cons_succ]
                  refine wpAnyH_take (i := 14) (v := ?va12) rfl (by kernel_rfl) (by kernel_rfl) (by kernel_rfl) (fun _ _ _ h => h) (Or.inl ⟨by rfl, ?hya12⟩) (by assumption) ?resta12
                  case hya12 => (intro w hSw; (try dsimp only at hSw); go_simp; try (with_reducible rfl))
                  try simp only [Act.put, List.setIfInBounds_toArray]
                  refine wpAnyH_ready (rs := [15]) (by kernel_rfl) (by simp) ?_
                  refine AllReadyH.cons rfl (fun K hK => ?_) AllReadyH.nil
                  go_simp
                  refine hK.out _ _ (by exact ⟨cell_alloc kd1, cell_alloc kd2, cell_alloc cb⟩) (fun hHeld => ?_)
                  clear hK K
                  try simp only [Act.put, List.setIfInBounds_toArray, List.set_cons_zero, List.set_cons_succ]
                  refine wpAnyH_ready (rs := [16]) (by kernel_rfl) (by simp) ?_
                  refine AllReadyH.cons rfl (fun K hK => ?_) AllReadyH.nil
                  refine stepApp E37 (by decide) _ (by rfl) _ _ (by rfl) W2.heap.size j _ _ _ (by rfl) (by rfl) (by exact hownb.alloc _) (by exact heap_alloc_new _ _) (by rfl) (by simp [Value.oneCell']) (by omega) (by decide) (by have := hbb.size; simp; omega) ?_
                  intro g cap w1 hown2 hgr hat hlt
                  have hgw : wb.grownBy w1 (Value.slice a8 j c8).ownBlock := grown1 hgr
                  have hgat : (Value.slice a8 j c8).ownBlock = some g ∨ wb.heap.size ≤ g := hat.elim .inl (fun h => .inr (by rw [h]; simp; try omega))
                  have hFS2 := hFS1.grown hgw Hne.out
                  have c3 := hFS2.fam.cell 7
                  have ke1 := hFS2.kin.cell 1
                  simp only [List.getElem?_toArray, List.getElem?_cons_succ, List.getElem?_cons_zero] at c3 ke1
                  have f3 := hFS2.fam.free 7
                  have ke2 := (hFS2.below.cell (p := ⟨kb, koff + j, none⟩) hkbl).trans Hkcw.out
                  refine hK.out _ _ (by exact ⟨ke1, ke2, c3⟩) (fun hHeld => ?_)
                  clear hK K
                  try simp only [Act.put, List.setIfInBounds_toArray]
                  refine wpAnyH_take (i := 17) (v := ?va13) rfl (by kernel_rfl) (by kernel_rfl) (by kernel_rfl) (fun _ _ _ h => h) (Or.inl ⟨by rfl, ?hya13⟩) (by assumption) ?resta13
                  case hya13 => (intro w hSw; (try dsimp only at hSw); go_simp; try (with_reducible rfl))
                  try simp only [Act.put]
                  refine wpAnyH_done (by kernel_rfl) ?_ _
                  simp only [Exit.then]
                  go_wp2_with fail
                  go_roundw
                  case rel =>
                    obtain ⟨a8', c8', rvk', r1, r2, r3, r4, r5, r6⟩ := rules_step hFS2 HFS0.out.size hsz H7lt.out Hown7.out Hown.out Hrr.out Hsep.out hbb hgw Hlit.out Hfresh.out Hcode.out Hs.out hown2 hgat
                    exact ⟨j + 1, a8', c8', rvk', by omega, by omega, by go_num, r1, r2, r3, r4, r5, r6⟩
                  case measure => simp [intOf]; omega
                · go_simp
                  go_at_call 50
                  refine (HDec.out _ (by exact Hbda.out _)).mono ?_
                  rintro e wb ⟨la, ll, lc, rfl, hlit, hfresh, hbb, hkp⟩
                  have Hlit := Lib.hid hlit
                  have Hfresh := Lib.hid hfresh
                  have Hkp := Lib.hid hkp
                  have hFS1 := HFS.out.via hbb
                  have cb := hFS1.fam.cell 7
                  have kd1 := hFS1.kin.cell 1
                  simp only [List.getElem?_toArray, List.getElem?_cons_succ, List.getElem?_cons_zero] at cb kd1
                  have kd2 := (hFS1.below.cell (p := ⟨kb, koff + j, none⟩) hkbl).trans Hkcw.out
                  have hownb := own_below Hown.out hbb
                  clear hlit hfresh hkp
                  refine hK.out _ _ (by exact ⟨kd1, kd2, cb⟩) (fun hHeld => ?_)
                  clear hK K
                  try simp only [Act.put, List.setIfInBounds_toArray, List.set_cons_zero, List.set_cons_succ]
                  have hcv3 := HCv.out _ _ (Hkp.out wr.heap.size _ _ (show Blk (wr.alloc (.cells #[.int .u8 114, .int .u8 (49 + (j : Int))] 5)).drew wr.heap.size _ 5 from Blk.new wr _ 5))
                  refine wpAnyH_ready (rs := [6]) (by kernel_rfl) (by simp) ?_
                  refine AllReadyH.cons rfl (fun K hK => ?_) AllReadyH.nil
                  go_simp
                  refine hK.out _ _ (by exact ⟨kd1, kd2, cb⟩) (fun hHeld => ?_)
                  clear hK K
                  try simp only [Act.put, List.setIfInBounds_toArray, List.set_cons_zero, List.set_cons_succ]
                  clear hcv3
                  refine wpAnyH_take (i := 14) (v := ?va14) rfl (by kernel_rfl) (by kernel_rfl) (by kernel_rfl) (fun _ _ _ h => h) (Or.inl ⟨by rfl, ?hya14⟩) (by assumption) ?resta14
                  case hya14 => (intro w hSw; (try dsimp only at hSw); go_simp; try (with_reducible rfl))
                  try simp only [Act.put, List.setIfInBounds_toArray]
                  refine wpAnyH_ready (rs := [15]) (by kernel_rfl) (by simp) ?_
                  refine AllReadyH.cons rfl (fun K hK => ?_) AllReadyH.nil
                  go_simp
                  refine hK.out _ _ (by exact ⟨cell_alloc kd1, cell_alloc kd2, cell_alloc cb⟩) (fun hHeld => ?_)
                  clear hK K
                  try simp only [Act.put, List.setIfInBounds_toArray, List.set_cons_zero, List.set_cons_succ]
                  refine wpAnyH_ready (rs := [16]) (by kernel_rfl) (by simp) ?_
                  refine AllReadyH.cons rfl (fun K hK => ?_) AllReadyH.nil
                  refine stepApp E37 (by decide) _ (by rfl) _ _ (by rfl) W2.heap.size j _ _ _ (by rfl) (by rfl) (by exact hownb.alloc _) (by exact heap_alloc_new _ _) (by rfl) (by simp [Value.oneCell']) (by omega) (by decide) (by have := hbb.size; simp; omega) ?_
                  intro g cap w1 hown2 hgr hat hlt
                  have hgw : wb.grownBy w1 (Value.slice a8 j c8).ownBlock := grown1 hgr
                  have hgat : (Value.slice a8 j c8).ownBlock = some g ∨ wb.heap.size ≤ g := hat.elim .inl (fun h => .inr (by rw [h]; simp; try omega))
                  have hFS2 := hFS1.grown hgw Hne.out
                  have c3 := hFS2.fam.cell 7
                  have ke1 := hFS2.kin.cell 1
                  simp only [List.getElem?_toArray, List.getElem?_cons_succ, List.getElem?_cons_zero] at c3 ke1
                  have f3 := hFS2.fam.free 7
                  have ke2 := (hFS2.below.cell (p := ⟨kb, koff + j, none⟩) hkbl).trans Hkcw.out
                  refine hK.out _ _ (by exact ⟨ke1, ke2, c3⟩) (fun hHeld => ?_)
                  clear hK K
                  try simp only [Act.put, List.setIfInBounds_toArray]
                  refine wpAnyH_take (i := 17) (v := ?va15) rfl (by kernel_rfl) (by kernel_rfl) (by kernel_rfl) (fun _ _ _ h => h) (Or.inl ⟨by rfl, ?hya15⟩) (by assumption) ?resta15
                  case hya15 => (intro w hSw; (try dsimp only at hSw); go_simp; try (with_reducible rfl))
                  try simp only [Act.put]
                  refine wpAnyH_done (by kernel_rfl) ?_ _
                  simp only [Exit.then]
                  go_wp2_with fail
                  go_roundw
                  case rel =>
                    obtain ⟨a8', c8', rvk', r1, r2, r3, r4, r5, r6⟩ := rules_step hFS2 HFS0.out.size hsz H7lt.out Hown7.out Hown.out Hrr.out Hsep.out hbb hgw Hlit.out Hfresh.out Hcode.out Hs.out hown2 hgat
                    exact ⟨j + 1, a8', c8', rvk', by omega, by omega, by go_num, r1, r2, r3, r4, r5, r6⟩
                  case measure => simp [intOf]; omega
              · go_simp
                go_at_call 50
                refine (HDec.out _ (by exact Hbd.out)).mono ?_
                rintro e wb ⟨la, ll, lc, rfl, hlit, hfresh, hbb, hkp⟩
                have Hlit := Lib.hid hlit
                have Hfresh := Lib.hid hfresh
                have Hkp := Lib.hid hkp
                have hFS1 := HFS.out.via hbb
                have cb := hFS1.fam.cell 7
                have kd1 := hFS1.kin.cell 1
                simp only [List.getElem?_toArray, List.getElem?_cons_succ, List.getElem?_cons_zero] at cb kd1
                have kd2 := (hFS1.below.cell (p := ⟨kb, koff + j, none⟩) hkbl).trans Hkcw.out
                have hownb := own_below Hown.out hbb
                clear hlit hfresh hkp
                refine hK.out _ _ (by exact ⟨kd1, kd2, cb⟩) (fun hHeld => ?_)
                clear hK K
                try simp only [Act.put, List.setIfInBounds_toArray, List.set_cons_zero, List.set_cons_succ]
                refine wpAnyH_ready (rs := [5]) (by kernel_rfl) (by simp) ?_
                refine AllReadyH.cons rfl (fun K hK => ?_) AllReadyH.nil
                go_simp
                refine hK.out _ _ (by exact ⟨cell_alloc kd1, cell_alloc kd2, cell_alloc cb⟩) (fun hHeld => ?_)
                clear hK K
                try simp only [Act.put, List.setIfInBounds_toArray, List.set_cons_zero, List.set_cons_succ]
                have hcvB := HCv.out (wb.alloc (.cells #[.int .u8 114, .int .u8 (49 + (j : Int))] 5)) wb.heap.size (Blk.new wb _ 5)
                refine wpAnyH_ready (rs := [6]) (by kernel_rfl) (by simp) ?_
                refine AllReadyH.cons rfl (fun K hK => ?_) AllReadyH.nil
                go_simp
                refine hK.out _ _ (by exact ⟨cell_alloc kd1, cell_alloc kd2, cell_alloc cb⟩) (fun hHeld => ?_)
                clear hK K
                try simp only [Act.put, List.setIfInBounds_toArray, List.set_cons_zero, List.set_cons_succ]
                clear hcvB
                refine wpAnyH_take (i := 14) (v := ?va16) rfl (by kernel_rfl) (by kernel_rfl) (by kernel_rfl) (fun _ _ _ h => h) (Or.inl ⟨by rfl, ?hya16⟩) (by assumption) ?resta16
                case hya16 => (intro w hSw; (try dsimp only at hSw); go_simp; try (with_reducible rfl))
                try simp only [Act.put, List.setIfInBounds_toArray]
                refine wpAnyH_ready (rs := [15]) (by kernel_rfl) (by simp) ?_
                refine AllReadyH.cons rfl (fun K hK => ?_) AllReadyH.nil
                go_simp
                refine hK.out _ _ (by exact ⟨cell_alloc (cell_alloc kd1), cell_alloc (cell_alloc kd2), cell_alloc (cell_alloc cb)⟩) (fun hHeld => ?_)
                clear hK K
                try simp only [Act.put, List.setIfInBounds_toArray, List.set_cons_zero, List.set_cons_succ]
                refine wpAnyH_ready (rs := [16]) (by kernel_rfl) (by simp) ?_
                refine AllReadyH.cons rfl (fun K hK => ?_) AllReadyH.nil
                refine stepApp E37 (by decide) _ (by rfl) _ _ (by rfl) W2.heap.size j _ _ _ (by rfl) (by rfl) (by exact (hownb.alloc _).alloc _) (by exact blk_at _ _ _) (by rfl) (by simp [Value.oneCell']) (by omega) (by decide) (by have := hbb.size; simp; omega) ?_
                intro g cap w1 hown2 hgr hat hlt
                have hgw : wb.grownBy w1 (Value.slice a8 j c8).ownBlock := grown2 hgr
                have hgat : (Value.slice a8 j c8).ownBlock = some g ∨ wb.heap.size ≤ g := hat.elim .inl (fun h => .inr (by rw [h]; simp; try omega))
                have hFS2 := hFS1.grown hgw Hne.out
                have c3 := hFS2.fam.cell 7
                have ke1 := hFS2.kin.cell 1
                simp only [List.getElem?_toArray, List.getElem?_cons_succ, List.getElem?_cons_zero] at c3 ke1
                have f3 := hFS2.fam.free 7
                have ke2 := (hFS2.below.cell (p := ⟨kb, koff + j, none⟩) hkbl).trans Hkcw.out
                refine hK.out _ _ (by exact ⟨ke1, ke2, c3⟩) (fun hHeld => ?_)
                clear hK K
                try simp only [Act.put, List.setIfInBounds_toArray]
                refine wpAnyH_take (i := 17) (v := ?va17) rfl (by kernel_rfl) (by kernel_rfl) (by kernel_rfl) (fun _ _ _ h => h) (Or.inl ⟨by rfl, ?hya17⟩) (by assumption) ?resta17
                case hya17 => (intro w hSw; (try dsimp only at hSw); go_simp; try (with_reducible rfl))
                try simp only [Act.put]
                refine wpAnyH_done (by kernel_rfl) ?_ _
                simp only [Exit.then]
                go_wp2_with fail
                go_roundw
                case rel =>
                  obtain ⟨a8', c8', rvk', r1, r2, r3, r4, r5, r6⟩ := rules_step hFS2 HFS0.out.size hsz H7lt.out Hown7.out Hown.out Hrr.out Hsep.out hbb hgw Hlit.out Hfresh.out Hcode.out Hs.out hown2 hgat
                  exact ⟨j + 1, a8', c8', rvk', by omega, by omega, by go_num, r1, r2, r3, r4, r5, r6⟩
                case measure => simp [intOf]; omega
            · go_wp2_with fail
              go_meet
              obtain rfl : j = 6 := by omega
              have e : min mR 6 = 6 := by omega
              rw [e]
              exact ⟨_, _, _, HFS.out, Hown7.out, Hown.out, Hrr.out, Hsep.out, hsz⟩
          · go_wp2_with fail
            go_meet
            obtain rfl : j = mR := by omega
            have e : min j 6 = j := by omega
            rw [e]
            exact ⟨_, _, _, HFS.out, Hown7.out, Hown.out, Hrr.out, Hsep.out, hsz⟩
      case rest =>
        clear hFS hown
        obtain ⟨a8, c8, rvk, hFS, hown7, hown8, hrr, hsep, hsz⟩ := hcut
        generalize hm2 : min mR 6 = m2 at *
        go_upto_block 4 with fail
        rename World => W3
        go_cut [] (fun wx => ∃ a9 c9 lvs, FS w wx (.int .u8 N) (.slice ar mR cr) (.slice ag mD cg) (.slice ao mO co) (.slice ai 3 ci) (.slice ad 2 cd) (.slice a k c) (.slice a8 m2 c8) (.slice a9 (min mD 4) c9) (.slice none 0 0) ∧ LRow wx W3.heap.size 80 2 (.slice a9 (min mD 4) c9) (min mD 4) lvs gRow (fun i => decodeL k (D.getD i [])) ∧ Eqb W3.heap.size (w.heap.size + 1 + 1 + 1) W3 wx)
        case first =>
          have HFS0 := Lib.hid hFS
          clear hFS hown7 hown8 hrr hsep hsz
          go_wp2_with fail
          go_loopw [9] (fun i wr => ∃ j : Nat, ∃ a9 c9 lvs, j ≤ mD ∧ j ≤ 4 ∧ i = .int .i64 j ∧ FS w wr (.int .u8 N) (.slice ar mR cr) (.slice ag mD cg) (.slice ao mO co) (.slice ai 3 ci) (.slice ad 2 cd) (.slice a k c) (.slice a8 m2 c8) (.slice a9 j c9) (.slice none 0 0) ∧ LRow wr W3.heap.size 80 2 (.slice a9 j c9) j lvs gRow (fun i => decodeL k (D.getD i [])) ∧ Eqb W3.heap.size (w.heap.size + 1 + 1 + 1) W3 wr) (fun i _ => 4 - (intOf i).toNat)
          case atStart => exact ⟨0, none, 0, [], Nat.zero_le _, Nat.zero_le _, rfl, HFS0.out, LRow.start _ _ _ _ _ _, Eqb.refl _⟩
          case round =>
            obtain ⟨j, a9, c9, lvs, hj, hj6, rfl, hFS, hrow, heq⟩ := hrel
            have k1 := hFS.kin.cell 2
            have k2 := hFS.prod.cell 2
            simp only [List.getElem?_toArray, List.getElem?_cons_succ, List.getElem?_cons_zero] at k1 k2
            have HFS := Lib.hid hFS
            have Hrow := Lib.hid hrow
            have Heq := Lib.hid heq
            clear hFS hrow heq
            by_cases hlt2 : j < mD
            · by_cases hlt3 : j < 4
              · obtain ⟨kb, koff, cv, code, rfl, hcode, kc0, hI8, hkbl⟩ := HD.out.at HFS.out.below (k := j) hlt2
                obtain ⟨ca, cc, rfl, -, -⟩ := hI8.open
                have Hcode := Lib.hid (show D.getD j [] = code by rw [List.getD_eq_getElem?_getD, hcode]; rfl)
                have hrange := HDr.out code (List.mem_of_getElem? hcode)
                have hbw := HFS.out.below
                have HDec : Hid (∀ w2, Below wr.heap.size wr w2 → Calls Tryz.prog 50 #[.int .i64 (k : Int), .slice ca code.length cc] w2 (fun e w' => ∃ la ll lc, e = .returned (.slice la ll lc) ∧ Lits w' (.slice la ll lc) (decodeL k code) ∧
                    (∀ b, (Value.slice la ll lc).ownBlock = some b → wr.heap.size ≤ b ∧ b < w'.heap.size) ∧ Below wr.heap.size wr w')) := fun w2 h2 =>
                  (decode_any k code _ w2 hn1 hn6 ((hI8.mono hbw).mono h2) hrange).mono fun e w' ⟨lv, h1, h3, h4, h5⟩ => by
                    obtain ⟨la, lc, rfl, -, -⟩ := h3.open
                    exact ⟨la, _, lc, h1, h3, fun b hb => ⟨Nat.le_trans h2.size (h4 b hb).1, (h4 b hb).2⟩, h2.via h5 h2.size⟩
                have kcw : w.cell? ⟨kb, koff + j, none⟩ = some (.slice ca code.length cc) := (hbw.cell (p := ⟨kb, koff + j, none⟩) hkbl).symm.trans kc0
                have Hkcw := Lib.hid kcw
                generalize code.length = cl at *
                have c0 := HFS.out.fam.cell 8
                simp only [List.getElem?_toArray, List.getElem?_cons_succ, List.getElem?_cons_zero] at c0
                have hrem : ((j : Int)).tmod 3 = (j : Int) % 3 := Int.tmod_eq_emod_of_nonneg (Int.natCast_nonneg _)
                have Hne := Lib.hid (show ∀ b, (Value.slice a9 j c9).ownBlock = some b → w.heap.size + 4 ≤ b from fun b h => by have := (Hrow.out.own.lt b h).1; have := HFS0.out.size; omega)
                have Hne3 := Lib.hid (show ∀ b, (Value.slice a9 j c9).ownBlock = some b → W3.heap.size ≤ b from fun b h => (Hrow.out.own.lt b h).1)
                have Hbd := Lib.hid (show Below wr.heap.size wr wr.drew from (Below.refl _ _).drew)
                have hj0 : (0 : Int) ≤ (j : Int) := Int.natCast_nonneg _
                have hj1 : (j : Int) < (mD : Int) := by omega
                have nC : w.heap.size + 1 + 1 + 1 ≠ kb := by omega
                have hwz := HFS.out.size
                have hwz3 := Heq.out.size
                have c0lt := HFS.out.fam.lt
                clear hcode hI8 hrange hbw kcw
                go_wp2_with fail
                refine wp_region_pop (S := (fun w' => w'.cell? ⟨w.heap.size, 2, none⟩ = some (.slice (some ⟨kb, koff, none⟩) mD cg) ∧ w'.cell? ⟨kb, koff + j, none⟩ = some (.slice ca cl cc) ∧ w'.cell? ⟨w.heap.size + 1, 2, none⟩ = some (.slice ai 3 ci) ∧ w'.cell? ⟨w.heap.size + 1 + 1 + 1, 8, none⟩ = some (.slice a9 j c9))) 19 (by kernel_rfl) (by kernel_rfl) (by exact ⟨k1, kc0, k2, c0⟩) (fun hHeld => ?_)
                simp only [List.take_succ_cons, List.take_zero, List.drop_succ_cons, List.drop_zero]
                refine wpAnyH_take (i := 0) (v := ?vb1) rfl (by kernel_rfl) (by kernel_rfl) (by kernel_rfl) (fun _ _ _ h => h) (Or.inl ⟨by rfl, ?hyb1⟩) (by assumption) ?restb1
                case hyb1 => (intro w hSw; (try dsimp only at hSw); go_simp; try (with_reducible rfl))
                try simp only [Act.put, List.setIfInBounds_toArray]
                refine wpAnyH_take (i := 1) (v := ?vb2) rfl (by kernel_rfl) (by kernel_rfl) (by kernel_rfl) (fun _ _ _ h => h) (Or.inl ⟨by rfl, ?hyb2⟩) (by assumption) ?restb2
                case hyb2 => (intro w hSw; (try dsimp only at hSw); go_simp; try (with_reducible rfl))
                try simp only [Act.put]
                refine wpAnyH_take (i := 2) (v := ?vb3) rfl (by kernel_rfl) (by kernel_rfl) (by kernel_rfl) (fun _ _ _ h => h) (Or.inl ⟨by rfl, ?hyb3⟩) (by assumption) ?restb3
                case hyb3 => (intro w hSw; (try dsimp only at hSw); go_simp; try (with_reducible rfl))
                try simp only [Act.put]
                refine wpAnyH_take (i := 3) (v := ?vb4) rfl (by kernel_rfl) (by kernel_rfl) (by kernel_rfl) (fun _ _ _ h => h) (Or.inl ⟨by rfl, ?hyb4⟩) (by assumption) ?restb4
                case hyb4 => (intro w hSw; (try dsimp only at hSw); go_simp; try (with_reducible rfl))
                try simp only [Act.put]
                refine wpAnyH_take (i := 4) (v := ?vb5) rfl (by kernel_rfl) (by kernel_rfl) (by kernel_rfl) (fun _ _ _ h => h) (Or.inl ⟨by rfl, ?hyb5⟩) (by assumption) ?restb5
                case hyb5 => (intro w hSw; (try dsimp only at hSw); go_simp; try (with_reducible rfl))
                try simp only [Act.put]
                refine wpAnyH_take (i := 5) (v := ?vb6) rfl (by kernel_rfl) (by kernel_rfl) (by kernel_rfl) (fun _ _ _ h => h) (Or.inl ⟨by rfl, ?hyb6⟩) (by assumption) ?restb6
                case hyb6 => (intro w hSw; (try dsimp only at hSw); go_simp; try (with_reducible rfl))
                try simp only [Act.put]
                refine wpAnyH_take (i := 6) (v := ?vb7) rfl (by kernel_rfl) (by kernel_rfl) (by kernel_rfl) (fun _ _ _ h => h) (Or.inl ⟨by rfl, ?hyb7⟩) (by assumption) ?restb7
                case hyb7 => (intro w hSw; (try dsimp only at hSw); go_simp; try (with_reducible rfl))
                try simp only [Act.put]
                refine wpAnyH_take (i := 7) (v := ?vb8) rfl (by kernel_rfl) (by kernel_rfl) (by kernel_rfl) (fun _ _ _ h => h) (Or.inl ⟨by rfl, ?hyb8⟩) (by assumption) ?restb8
                case hyb8 => (intro w hSw; (try dsimp only at hSw); go_simp; try (with_reducible rfl))
                try simp only [Act.put]
                refine wpAnyH_take (i := 8) (v := ?vb9) rfl (by kernel_rfl) (by kernel_rfl) (by kernel_rfl) (fun _ _ _ h => h) (Or.inl ⟨by rfl, ?hyb9⟩) (by assumption) ?restb9
                case hyb9 => (intro w hSw; (try dsimp only at hSw); go_simp; try (with_reducible rfl))
                try simp only [Act.put]
                refine wpAnyH_take (i := 9) (v := ?vb10) rfl (by kernel_rfl) (by kernel_rfl) (by kernel_rfl) (fun _ _ _ h => h) (Or.inl ⟨by rfl, ?hyb10⟩) (by assumption) ?restb10
                case hyb10 => (intro w hSw; (try dsimp only at hSw); go_simp; try (with_reducible rfl))
                try simp only [Act.put]
                refine wpAnyH_take (i := 10) (v := ?vb11) rfl (by kernel_rfl) (by kernel_rfl) (by kernel_rfl) (fun _ _ _ h => h) (Or.inl ⟨by rfl, ?hyb11⟩) (by assumption) ?restb11
                case hyb11 => (intro w hSw; (try dsimp only at hSw); go_simp; try (with_reducible rfl))
                try simp only [Act.put]
                refine wpAnyH_take (i := 11) (v := ?vb12) rfl (by kernel_rfl) (by kernel_rfl) (by kernel_rfl) (fun _ _ _ h => h) (Or.inl ⟨by rfl, ?hyb12⟩) (by assumption) ?restb12
                case hyb12 => (intro w hSw; (try dsimp only at hSw); go_simp; try (with_reducible rfl))
                try simp only [Act.put]
                refine wpAnyH_take (i := 12) (v := ?vb13) rfl (by kernel_rfl) (by kernel_rfl) (by kernel_rfl) (fun _ _ _ h => h) (Or.inl ⟨by rfl, ?hyb13⟩) (by assumption) ?restb13
                case hyb13 => (intro w hSw; (try dsimp only at hSw); go_simp; try (with_reducible rfl))
                try simp only [Act.put]
                refine wpAnyH_take (i := 13) (v := ?vb14) rfl (by kernel_rfl) (by kernel_rfl) (by kernel_rfl) (fun _ _ _ h => h) (Or.inl ⟨by rfl, ?hyb14⟩) (by assumption) ?restb14
                case hyb14 => (intro w hSw; (try dsimp only at hSw); go_simp; try (with_reducible rfl))
                try simp only [Act.put]
                refine wpAnyH_ready (rs := [14]) (by kernel_rfl) (by simp) ?_
                refine AllReadyH.cons rfl (fun K hK => ?_) AllReadyH.nil
                go_simp
                go_at_call 50
                refine (HDec.out _ (by exact Hbd.out)).mono ?_
                rintro e wb ⟨la, ll, lc, rfl, hlit, hfresh, hbb⟩
                have Hlit := Lib.hid hlit
                have Hfresh := Lib.hid hfresh
                have hFS1 := HFS.out.via hbb
                have cb := hFS1.fam.cell 8
                have kd1 := hFS1.kin.cell 2
                have kd3 := hFS1.prod.cell 2
                simp only [List.getElem?_toArray, List.getElem?_cons_succ, List.getElem?_cons_zero] at cb kd1 kd3
                have kd2 := (hFS1.below.cell (p := ⟨kb, koff + j, none⟩) hkbl).trans Hkcw.out
                have hownb := own_below Hrow.out.own hbb
                clear hlit hfresh
                refine hK.out _ _ (by exact ⟨kd1, kd2, kd3, cb⟩) (fun hHeld => ?_)
                clear hK K
                try simp only [Act.put, List.setIfInBounds_toArray, List.set_cons_zero, List.set_cons_succ]
                refine wpAnyH_take (i := 15) (v := ?vb15) rfl (by kernel_rfl) (by kernel_rfl) (by kernel_rfl) (fun _ _ _ h => h) (Or.inl ⟨by rfl, ?hyb15⟩) (by assumption) ?restb15
                case hyb15 => (intro w hSw; (try dsimp only at hSw); go_simp; try (with_reducible rfl))
                try simp only [Act.put, List.setIfInBounds_toArray]
                refine wpAnyH_ready (rs := [16]) (by kernel_rfl) (by simp) ?_
                refine AllReadyH.cons rfl (fun K hK => ?_) AllReadyH.nil
                go_simp
                refine hK.out _ _ (by exact ⟨cell_alloc kd1, cell_alloc kd2, cell_alloc kd3, cell_alloc cb⟩) (fun hHeld => ?_)
                clear hK K
                try simp only [Act.put, List.setIfInBounds_toArray, List.set_cons_zero, List.set_cons_succ]
                refine wpAnyH_ready (rs := [17]) (by kernel_rfl) (by simp) ?_
                refine AllReadyH.cons rfl (fun K hK => ?_) AllReadyH.nil
                refine stepApp E38 (by decide) _ (by rfl) _ _ (by rfl) W3.heap.size j _ _ _ (by rfl) (by rfl) (by exact hownb.alloc _) (by exact heap_alloc_new _ _) (by rfl) (by simp [Value.oneCell']) (by omega) (by decide) (by have := hbb.size; simp; omega) ?_
                intro g cap w1 hown2 hgr hat hlt
                have hgw : wb.grownBy w1 (Value.slice a9 j c9).ownBlock := grown1 hgr
                have hgat : (Value.slice a9 j c9).ownBlock = some g ∨ wb.heap.size ≤ g := hat.elim .inl (fun h => .inr (by rw [h]; simp; try omega))
                have hFS2 := hFS1.grown hgw Hne.out
                have c3 := hFS2.fam.cell 8
                have ke1 := hFS2.kin.cell 2
                have ke3 := hFS2.prod.cell 2
                simp only [List.getElem?_toArray, List.getElem?_cons_succ, List.getElem?_cons_zero] at c3 ke1 ke3
                have f3 := hFS2.fam.free 8
                have ke2 := (hFS2.below.cell (p := ⟨kb, koff + j, none⟩) hkbl).trans Hkcw.out
                refine hK.out _ _ (by exact ⟨ke1, ke2, ke3, c3⟩) (fun hHeld => ?_)
                clear hK K
                try simp only [Act.put, List.setIfInBounds_toArray]
                refine wpAnyH_take (i := 18) (v := ?vb16) rfl (by kernel_rfl) (by kernel_rfl) (by kernel_rfl) (fun _ _ _ h => h) (Or.inl ⟨by rfl, ?hyb16⟩) (by assumption) ?restb16
                case hyb16 => (intro w hSw; (try dsimp only at hSw); go_simp; try (with_reducible rfl))
                try simp only [Act.put]
                refine wpAnyH_done (by kernel_rfl) ?_ _
                simp only [Exit.then]
                all_goals go_wp2_with fail
                all_goals
                  go_roundw
                  case rel =>
                    exact ⟨j + 1, _, cap, _, by omega, by omega, by go_num, hFS2.set9 _, Hrow.out.step (i := 8) (by have := HFS0.out.size; omega) Heq.out.size hbb hgw (by rw [Hcode.out]; exact Hlit.out) Hfresh.out hown2 hgat, ((Heq.out.below hbb).grown hgw Hne3.out).set 8 _⟩
                  case measure => simp [intOf]; omega
              · go_wp2_with fail
                go_meet
                obtain rfl : j = 4 := by omega
                have e : min mD 4 = 4 := by omega
                rw [e]
                exact ⟨_, _, _, HFS.out, Hrow.out, Heq.out⟩
            · go_wp2_with fail
              go_meet
              obtain rfl : j = mD := by omega
              have e : min j 4 = j := by omega
              rw [e]
              exact ⟨_, _, _, HFS.out, Hrow.out, Heq.out⟩
        case rest =>
          have Hown7 := Lib.hid hown7
          have Hown8 := Lib.hid hown8
          have Hrr := Lib.hid hrr
          have Hsep := Lib.hid hsep
          clear hFS hown7 hown8 hrr hsep
          obtain ⟨a9, c9, lv9, hFS, hrow9, heq9⟩ := hcut
          have Hrow9 := Lib.hid hrow9
          have Heq9 := Lib.hid heq9
          clear hrow9 heq9
          generalize hm3 : min mD 4 = m3 at *
          go_upto_block 6 with fail
          rename World => W4
          go_cut [] (fun wx => ∃ a10 c10 lvs, FS w wx (.int .u8 N) (.slice ar mR cr) (.slice ag mD cg) (.slice ao mO co) (.slice ai 3 ci) (.slice ad 2 cd) (.slice a k c) (.slice a8 m2 c8) (.slice a9 m3 c9) (.slice a10 (min mO 4) c10) ∧ LRow wx W4.heap.size 86 6 (.slice a10 (min mO 4) c10) (min mO 4) lvs oRow (fun i => decodeL k (O.getD i [])) ∧ Eqb W4.heap.size (w.heap.size + 1 + 1 + 1) W4 wx)
          case first =>
            have HFS0 := Lib.hid hFS
            clear hFS
            go_wp2_with fail
            go_loopw [10] (fun i wr => ∃ j : Nat, ∃ a10 c10 lvs, j ≤ mO ∧ j ≤ 4 ∧ i = .int .i64 j ∧ FS w wr (.int .u8 N) (.slice ar mR cr) (.slice ag mD cg) (.slice ao mO co) (.slice ai 3 ci) (.slice ad 2 cd) (.slice a k c) (.slice a8 m2 c8) (.slice a9 m3 c9) (.slice a10 j c10) ∧ LRow wr W4.heap.size 86 6 (.slice a10 j c10) j lvs oRow (fun i => decodeL k (O.getD i [])) ∧ Eqb W4.heap.size (w.heap.size + 1 + 1 + 1) W4 wr) (fun i _ => 4 - (intOf i).toNat)
            case atStart => exact ⟨0, none, 0, [], Nat.zero_le _, Nat.zero_le _, rfl, HFS0.out, LRow.start _ _ _ _ _ _, Eqb.refl _⟩
            case round =>
              obtain ⟨j, a10, c10, lvs, hj, hj6, rfl, hFS, hrow, heq⟩ := hrel
              have k1 := hFS.kin.cell 3
              have k2 := hFS.prod.cell 3
              simp only [List.getElem?_toArray, List.getElem?_cons_succ, List.getElem?_cons_zero] at k1 k2
              have HFS := Lib.hid hFS
              have Hrow := Lib.hid hrow
              have Heq := Lib.hid heq
              clear hFS hrow heq
              by_cases hlt2 : j < mO
              · by_cases hlt3 : j < 4
                · obtain ⟨kb, koff, cv, code, rfl, hcode, kc0, hI8, hkbl⟩ := HOv.out.at HFS.out.below (k := j) hlt2
                  obtain ⟨ca, cc, rfl, -, -⟩ := hI8.open
                  have Hcode := Lib.hid (show O.getD j [] = code by rw [List.getD_eq_getElem?_getD, hcode]; rfl)
                  have hrange := HOr.out code (List.mem_of_getElem? hcode)
                  have hbw := HFS.out.below
                  have HDec : Hid (∀ w2, Below wr.heap.size wr w2 → Calls Tryz.prog 50 #[.int .i64 (k : Int), .slice ca code.length cc] w2 (fun e w' => ∃ la ll lc, e = .returned (.slice la ll lc) ∧ Lits w' (.slice la ll lc) (decodeL k code) ∧
                      (∀ b, (Value.slice la ll lc).ownBlock = some b → wr.heap.size ≤ b ∧ b < w'.heap.size) ∧ Below wr.heap.size wr w' ∧ (∀ b cs T, Blk w2 b cs T → Blk w' b cs T))) := fun w2 h2 =>
                    (decode_any k code _ w2 hn1 hn6 ((hI8.mono hbw).mono h2) hrange).mono fun e w' ⟨lv, h1, h3, h4, h5⟩ => by
                      obtain ⟨la, lc, rfl, -, -⟩ := h3.open
                      exact ⟨la, _, lc, h1, h3, fun b hb => ⟨Nat.le_trans h2.size (h4 b hb).1, (h4 b hb).2⟩, h2.via h5 h2.size, fun b cs T hB => hB.below h5⟩
                  have kcw : w.cell? ⟨kb, koff + j, none⟩ = some (.slice ca code.length cc) := (hbw.cell (p := ⟨kb, koff + j, none⟩) hkbl).symm.trans kc0
                  have Hkcw := Lib.hid kcw
                  generalize code.length = cl at *
                  have c0 := HFS.out.fam.cell 9
                  simp only [List.getElem?_toArray, List.getElem?_cons_succ, List.getElem?_cons_zero] at c0
                  obtain ⟨q, hq⟩ : ∃ q : Nat, j % 2 = q := ⟨_, rfl⟩
                  have hq2 : q < 2 := by omega
                  have hrem : ((j : Int)).tmod 2 = (q : Int) := by rw [Int.tmod_eq_emod_of_nonneg (Int.natCast_nonneg _)]; omega
                  have Hq := Lib.hid (show (q : Int) = (j : Int) % 2 by omega)
                  obtain ⟨db, doff, d, rfl, hd, hdbl, e0, e1, e2, e3⟩ := Hdim.out.at hbw (k := q) hq2
                  have Hd := Lib.hid (show dimOf j = d by unfold dimOf; rw [hq, List.getD_eq_getElem?_getD, hd]; rfl)
                  have hdbl2 := Nat.lt_of_lt_of_le hdbl hbw.size
                  have Hd := Lib.hid Hd.out
                  obtain ⟨d1, dn, dl, du⟩ := d
                  simp only at e0 e1 e2 e3
                  have Hbd := Lib.hid (show ∀ o, Below wr.heap.size wr (wr.alloc o).drew from fun o => ((Below.refl _ _).alloc (Nat.le_refl _) o).drew)
                  have HBD := Lib.hid (show Blk (wr.alloc (.cells #[.string d1, .int .i64 (100 + (j : Int)), .int .i64 dl, .int .i64 du] 84)) wr.heap.size #[.string d1, .int .i64 (100 + (j : Int)), .int .i64 dl, .int .i64 du] 84 from Blk.new wr _ 84)
                  have g0 := HBD.out.cell 0
                  have g1 := HBD.out.cell 1
                  have g2 := HBD.out.cell 2
                  have g3 := HBD.out.cell 3
                  simp only [List.getElem?_toArray, List.getElem?_cons_succ, List.getElem?_cons_zero] at g0 g1 g2 g3
                  have HG := Lib.hid (And.intro g0 (And.intro g1 (And.intro g2 g3)))
                  clear g0 g1 g2 g3
                  have Hne := Lib.hid (show ∀ b, (Value.slice a10 j c10).ownBlock = some b → w.heap.size + 4 ≤ b from fun b h => by have := (Hrow.out.own.lt b h).1; have := HFS0.out.size; omega)
                  have Hne3 := Lib.hid (show ∀ b, (Value.slice a10 j c10).ownBlock = some b → W4.heap.size ≤ b from fun b h => (Hrow.out.own.lt b h).1)
                  have HneD := Lib.hid (show (Value.slice a10 j c10).ownBlock ≠ some wr.heap.size from fun h => by have := (Hrow.out.own.lt _ h).2; omega)
                  have hj0 : (0 : Int) ≤ (j : Int) := Int.natCast_nonneg _
                  have hj1 : (j : Int) < (mO : Int) := by omega
                  have hq0 : (0 : Int) ≤ (q : Int) := Int.natCast_nonneg _
                  have hq1 : (q : Int) < 2 := by omega
                  have nC : w.heap.size + 1 + 1 + 1 ≠ kb := by omega
                  have hwz := HFS.out.size
                  have hwz3 := Heq.out.size
                  have c0lt := HFS.out.fam.lt
                  clear hcode hI8 hrange hbw kcw hq hd
                  go_wp2_with fail
                  refine wp_region_pop (S := (fun w' => w'.cell? ⟨w.heap.size, 3, none⟩ = some (.slice (some ⟨kb, koff, none⟩) mO co) ∧ w'.cell? ⟨kb, koff + j, none⟩ = some (.slice ca cl cc) ∧ w'.cell? ⟨w.heap.size + 1 + 1 + 1, 9, none⟩ = some (.slice a10 j c10) ∧ w'.cell? ⟨wr.heap.size, 0, none⟩ = some (.string d1) ∧ w'.cell? ⟨wr.heap.size, 1, none⟩ = some (.int .i64 (100 + (j : Int))) ∧ w'.cell? ⟨wr.heap.size, 2, none⟩ = some (.int .i64 dl) ∧ w'.cell? ⟨wr.heap.size, 3, none⟩ = some (.int .i64 du))) 15 (by kernel_rfl) (by kernel_rfl) (by exact ⟨cell_alloc k1, cell_alloc kc0, cell_alloc c0, HG.out⟩) (fun hHeld => ?_)
                  simp only [List.take_succ_cons, List.take_zero, List.drop_succ_cons, List.drop_zero]
                  refine wpAnyH_take (i := 0) (v := ?vc1) rfl (by kernel_rfl) (by kernel_rfl) (by kernel_rfl) (fun _ _ _ h => h) (Or.inl ⟨by rfl, ?hyc1⟩) (by assumption) ?restc1
                  case hyc1 => (intro w hSw; (try dsimp only at hSw); go_simp; try (with_reducible rfl))
                  try simp only [Act.put, List.setIfInBounds_toArray]
                  refine wpAnyH_take (i := 1) (v := ?vc2) rfl (by kernel_rfl) (by kernel_rfl) (by kernel_rfl) (fun _ _ _ h => h) (Or.inl ⟨by rfl, ?hyc2⟩) (by assumption) ?restc2
                  case hyc2 => (intro w hSw; (try dsimp only at hSw); go_simp; try (with_reducible rfl))
                  try simp only [Act.put]
                  refine wpAnyH_take (i := 2) (v := ?vc3) rfl (by kernel_rfl) (by kernel_rfl) (by kernel_rfl) (fun _ _ _ h => h) (Or.inl ⟨by rfl, ?hyc3⟩) (by assumption) ?restc3
                  case hyc3 => (intro w hSw; (try dsimp only at hSw); go_simp; try (with_reducible rfl))
                  try simp only [Act.put]
                  refine wpAnyH_take (i := 3) (v := ?vc4) rfl (by kernel_rfl) (by kernel_rfl) (by kernel_rfl) (fun _ _ _ h => h) (Or.inl ⟨by rfl, ?hyc4⟩) (by assumption) ?restc4
                  case hyc4 => (intro w hSw; (try dsimp only at hSw); go_simp; try (with_reducible rfl))
                  try simp only [Act.put]
                  refine wpAnyH_take (i := 4) (v := ?vc5) rfl (by kernel_rfl) (by kernel_rfl) (by kernel_rfl) (fun _ _ _ h => h) (Or.inl ⟨by rfl, ?hyc5⟩) (by assumption) ?restc5
                  case hyc5 => (intro w hSw; (try dsimp only at hSw); go_simp; try (with_reducible rfl))
                  try simp only [Act.put]
                  refine wpAnyH_take (i := 5) (v := ?vc6) rfl (by kernel_rfl) (by kernel_rfl) (by kernel_rfl) (fun _ _ _ h => h) (Or.inl ⟨by rfl, ?hyc6⟩) (by assumption) ?restc6
                  case hyc6 => (intro w hSw; (try dsimp only at hSw); go_simp; try (with_reducible rfl))
                  try simp only [Act.put]
                  refine wpAnyH_take (i := 6) (v := ?vc7) rfl (by kernel_rfl) (by kernel_rfl) (by kernel_rfl) (fun _ _ _ h => h) (Or.inl ⟨by rfl, ?hyc7⟩) (by assumption) ?restc7
                  case hyc7 => (intro w hSw; (try dsimp only at hSw); go_simp; try (with_reducible rfl))
                  try simp only [Act.put]
                  refine wpAnyH_take (i := 7) (v := ?vc8) rfl (by kernel_rfl) (by kernel_rfl) (by kernel_rfl) (fun _ _ _ h => h) (Or.inl ⟨by rfl, ?hyc8⟩) (by assumption) ?restc8
                  case hyc8 => (intro w hSw; (try dsimp only at hSw); go_simp; try (with_reducible rfl))
                  try simp only [Act.put]
                  refine wpAnyH_take (i := 9) (v := ?vc9) rfl (by kernel_rfl) (by kernel_rfl) (by kernel_rfl) (fun _ _ _ h => h) (Or.inl ⟨by rfl, ?hyc9⟩) (by assumption) ?restc9
                  case hyc9 => (intro w hSw; (try dsimp only at hSw); go_simp; try (with_reducible rfl))
                  try simp only [Act.put]
                  refine wpAnyH_take (i := 10) (v := ?vc10) rfl (by kernel_rfl) (by kernel_rfl) (by kernel_rfl) (fun _ _ _ h => h) (Or.inl ⟨by rfl, ?hyc10⟩) (by assumption) ?restc10
                  case hyc10 => (intro w hSw; (try dsimp only at hSw); go_simp; try (with_reducible rfl))
                  try simp only [Act.put]
                  refine wpAnyH_ready (rs := [8]) (by kernel_rfl) (by simp) ?_
                  refine AllReadyH.cons rfl (fun K hK => ?_) AllReadyH.nil
                  go_simp
                  go_at_call 50
                  refine (HDec.out _ (by exact Hbd.out _)).mono ?_
                  rintro e wb ⟨la, ll, lc, rfl, hlit, hfresh, hbb, hkp⟩
                  have Hlit := Lib.hid hlit
                  have Hfresh := Lib.hid hfresh
                  have hFS1 := HFS.out.via hbb
                  have cb := hFS1.fam.cell 9
                  have kd1 := hFS1.kin.cell 3
                  have HBD1 := hkp _ _ _ (show Blk (wr.alloc (.cells #[.string d1, .int .i64 (100 + (j : Int)), .int .i64 dl, .int .i64 du] 84)).drew wr.heap.size _ 84 from HBD.out)
                  have g0 := HBD1.cell 0
                  have g1 := HBD1.cell 1
                  have g2 := HBD1.cell 2
                  have g3 := HBD1.cell 3
                  simp only [List.getElem?_toArray, List.getElem?_cons_succ, List.getElem?_cons_zero] at cb kd1 g0 g1 g2 g3
                  have kd2 := (hFS1.below.cell (p := ⟨kb, koff + j, none⟩) hkbl).trans Hkcw.out
                  have hownb := own_below Hrow.out.own hbb
                  clear hlit hfresh hkp
                  refine hK.out _ _ (by exact ⟨kd1, kd2, cb, g0, g1, g2, g3⟩) (fun hHeld => ?_)
                  clear hK K
                  try simp only [Act.put, List.setIfInBounds_toArray, List.set_cons_zero, List.set_cons_succ]
                  refine wpAnyH_take (i := 11) (v := ?vc11) rfl (by kernel_rfl) (by kernel_rfl) (by kernel_rfl) (fun _ _ _ h => h) (Or.inl ⟨by rfl, ?hyc11⟩) (by assumption) ?restc11
                  case hyc11 => (intro w hSw; (try dsimp only at hSw); go_simp; try (with_reducible rfl))
                  try simp only [Act.put, List.setIfInBounds_toArray]
                  refine wpAnyH_ready (rs := [12]) (by kernel_rfl) (by simp) ?_
                  refine AllReadyH.cons rfl (fun K hK => ?_) AllReadyH.nil
                  go_simp
                  refine hK.out _ _ (by exact ⟨cell_alloc kd1, cell_alloc kd2, cell_alloc cb, cell_alloc g0, cell_alloc g1, cell_alloc g2, cell_alloc g3⟩) (fun hHeld => ?_)
                  clear hK K
                  try simp only [Act.put, List.setIfInBounds_toArray, List.set_cons_zero, List.set_cons_succ]
                  refine wpAnyH_ready (rs := [13]) (by kernel_rfl) (by simp) ?_
                  refine AllReadyH.cons rfl (fun K hK => ?_) AllReadyH.nil
                  refine stepApp E39 (by decide) _ (by rfl) _ _ (by rfl) W4.heap.size j _ _ _ (by rfl) (by rfl) (by exact hownb.alloc _) (by exact heap_alloc_new _ _) (by rfl) (by simp [Value.oneCell']) (by omega) (by decide) (by have := hbb.size; simp; omega) ?_
                  intro g cap w1 hown2 hgr hat hlt
                  have hgw : wb.grownBy w1 (Value.slice a10 j c10).ownBlock := grown1 hgr
                  have hgat : (Value.slice a10 j c10).ownBlock = some g ∨ wb.heap.size ≤ g := hat.elim .inl (fun h => .inr (by rw [h]; simp; try omega))
                  have hFS2 := hFS1.grown hgw Hne.out
                  have c3 := hFS2.fam.cell 9
                  have ke1 := hFS2.kin.cell 3
                  have HBD2 := HBD1.grown hgw HneD.out
                  have g0' := HBD2.cell 0
                  have g1' := HBD2.cell 1
                  have g2' := HBD2.cell 2
                  have g3' := HBD2.cell 3
                  simp only [List.getElem?_toArray, List.getElem?_cons_succ, List.getElem?_cons_zero] at c3 ke1 g0' g1' g2' g3'
                  have f3 := hFS2.fam.free 9
                  have ke2 := (hFS2.below.cell (p := ⟨kb, koff + j, none⟩) hkbl).trans Hkcw.out
                  refine hK.out _ _ (by exact ⟨ke1, ke2, c3, g0', g1', g2', g3'⟩) (fun hHeld => ?_)
                  clear hK K
                  try simp only [Act.put, List.setIfInBounds_toArray]
                  refine wpAnyH_take (i := 14) (v := ?vc12) rfl (by kernel_rfl) (by kernel_rfl) (by kernel_rfl) (fun _ _ _ h => h) (Or.inl ⟨by rfl, ?hyc12⟩) (by assumption) ?restc12
                  case hyc12 => (intro w hSw; (try dsimp only at hSw); go_simp; try (with_reducible rfl))
                  try simp only [Act.put]
                  refine wpAnyH_done (by kernel_rfl) ?_ _
                  simp only [Exit.then]
                  go_wp2_with fail
                  go_roundw
                  case rel =>
                    have e4 : oRow j (.slice la ll lc) = [.slice la ll lc, .int .i64 (q : Int), .string d1, .int .i64 (100 + (j : Int)), .int .i64 dl, .int .i64 du] := by unfold oRow; rw [Hd.out, ← Hq.out]
                    exact ⟨j + 1, _, cap, _, by omega, by omega, by go_num, hFS2.set10 _, Hrow.out.step (i := 9) (by have := HFS0.out.size; omega) Heq.out.size hbb hgw (by rw [Hcode.out]; exact Hlit.out) Hfresh.out (by rw [e4]; exact hown2) hgat, ((Heq.out.below hbb).grown hgw Hne3.out).set 9 _⟩
                  case measure => simp [intOf]; omega
                · go_wp2_with fail
                  go_meet
                  obtain rfl : j = 4 := by omega
                  have e : min mO 4 = 4 := by omega
                  rw [e]
                  exact ⟨_, _, _, HFS.out, Hrow.out, Heq.out⟩
              · go_wp2_with fail
                go_meet
                obtain rfl : j = mO := by omega
                have e : min j 4 = j := by omega
                rw [e]
                exact ⟨_, _, _, HFS.out, Hrow.out, Heq.out⟩
          case rest =>
            clear hFS
            obtain ⟨a10, c10, lv10, hFS, hrow10, heq10⟩ := hcut
            have z0 := hFS.zero.cell 0
            have z1 := hFS.zero.cell 1
            have z2 := hFS.zero.cell 2
            have z3 := hFS.zero.cell 3
            have z4 := hFS.zero.cell 4
            have z5 := hFS.zero.cell 5
            have z6 := hFS.zero.cell 6
            have z7 := hFS.zero.cell 7
            have z8 := hFS.zero.cell 8
            have z9 := hFS.zero.cell 9
            have f0 := hFS.fam.cell 0
            have f1 := hFS.fam.cell 1
            have f2 := hFS.fam.cell 2
            have f3 := hFS.fam.cell 3
            have f4 := hFS.fam.cell 4
            have f5 := hFS.fam.cell 5
            have f6 := hFS.fam.cell 6
            have f7 := hFS.fam.cell 7
            have f8 := hFS.fam.cell 8
            have f9 := hFS.fam.cell 9
            have r0 := hFS.zero.free 0
            have r1 := hFS.zero.free 1
            have r2 := hFS.zero.free 2
            have r3 := hFS.zero.free 3
            have r4 := hFS.zero.free 4
            have r5 := hFS.zero.free 5
            have r6 := hFS.zero.free 6
            have r7 := hFS.zero.free 7
            have r8 := hFS.zero.free 8
            have r9 := hFS.zero.free 9
            simp only [List.getElem?_toArray, List.getElem?_cons_succ, List.getElem?_cons_zero] at z0 z1 z2 z3 z4 z5 z6 z7 z8 z9 f0 f1 f2 f3 f4 f5 f6 f7 f8 f9
            have HFS := Lib.hid hFS
            have Hrow10 := Lib.hid hrow10
            have Heq10 := Lib.hid heq10
            clear hFS hrow10 heq10
            go_wp2_with fail
            have hk6 := Hn.out
            have s2 := H2sz.out
            have s3 := hsz
            have s4 := Heq9.out.size
            have s5 := Heq10.out.size
            have s6 := HFS.out.size
            have hb10 := HFS.out.below
            have hz : Blk _ (w.heap.size + 1 + 1) _ 36 := (((((((((HFS.out.zero.set 0 (.string ⟨#[98, 97, 115, 101]⟩)).set 1 (.slice none 0 0)).set 2 (.slice ai 3 ci)).set 3 (.slice ad 2 cd)).set 4 (.slice none 0 0)).set 5 (.slice none 0 0)).set 6 (.slice a k c)).set 7 (.slice a8 m2 c8)).set 8 (.slice a9 m3 c9)).set 9 (.slice a10 (min mO 4) c10)
            have hq : Eqb wc.heap.size (w.heap.size + 1 + 1) wc _ := ((((((((((Eqb.refl (w := wc) (w.heap.size + 1 + 1)).set 0 (.string ⟨#[98, 97, 115, 101]⟩)).set 1 (.slice none 0 0)).set 2 (.slice ai 3 ci)).set 3 (.slice ad 2 cd)).set 4 (.slice none 0 0)).set 5 (.slice none 0 0)).set 6 (.slice a k c)).set 7 (.slice a8 m2 c8)).set 8 (.slice a9 m3 c9)).set 9 (.slice a10 (min mO 4) c10)
            have hbel := (((((((((hb10.setCell (p := ⟨w.heap.size + 1 + 1, 0, none⟩) (show w.heap.size ≤ w.heap.size + 1 + 1 by omega) (.string ⟨#[98, 97, 115, 101]⟩)).setCell (p := ⟨w.heap.size + 1 + 1, 1, none⟩) (show w.heap.size ≤ w.heap.size + 1 + 1 by omega) (.slice none 0 0)).setCell (p := ⟨w.heap.size + 1 + 1, 2, none⟩) (show w.heap.size ≤ w.heap.size + 1 + 1 by omega) (.slice ai 3 ci)).setCell (p := ⟨w.heap.size + 1 + 1, 3, none⟩) (show w.heap.size ≤ w.heap.size + 1 + 1 by omega) (.slice ad 2 cd)).setCell (p := ⟨w.heap.size + 1 + 1, 4, none⟩) (show w.heap.size ≤ w.heap.size + 1 + 1 by omega) (.slice none 0 0)).setCell (p := ⟨w.heap.size + 1 + 1, 5, none⟩) (show w.heap.size ≤ w.heap.size + 1 + 1 by omega) (.slice none 0 0)).setCell (p := ⟨w.heap.size + 1 + 1, 6, none⟩) (show w.heap.size ≤ w.heap.size + 1 + 1 by omega) (.slice a k c)).setCell (p := ⟨w.heap.size + 1 + 1, 7, none⟩) (show w.heap.size ≤ w.heap.size + 1 + 1 by omega) (.slice a8 m2 c8)).setCell (p := ⟨w.heap.size + 1 + 1, 8, none⟩) (show w.heap.size ≤ w.heap.size + 1 + 1 by omega) (.slice a9 m3 c9)).setCell (p := ⟨w.heap.size + 1 + 1, 9, none⟩) (show w.heap.size ≤ w.heap.size + 1 + 1 by omega) (.slice a10 (min mO 4) c10)
            clear z0 z1 z2 z3 z4 z5 z6 z7 z8 z9 f0 f1 f2 f3 f4 f5 f6 f7 f8 f9 r0 r1 r2 r3 r4 r5 r6 r7 r8 r9
            generalize ((((((((((wc.setCell ⟨w.heap.size + 1 + 1, 0, none⟩ (.string ⟨#[98, 97, 115, 101]⟩)).setCell ⟨w.heap.size + 1 + 1, 1, none⟩ (.slice none 0 0)).setCell ⟨w.heap.size + 1 + 1, 2, none⟩ (.slice ai 3 ci)).setCell ⟨w.heap.size + 1 + 1, 3, none⟩ (.slice ad 2 cd)).setCell ⟨w.heap.size + 1 + 1, 4, none⟩ (.slice none 0 0)).setCell ⟨w.heap.size + 1 + 1, 5, none⟩ (.slice none 0 0)).setCell ⟨w.heap.size + 1 + 1, 6, none⟩ (.slice a k c)).setCell ⟨w.heap.size + 1 + 1, 7, none⟩ (.slice a8 m2 c8)).setCell ⟨w.heap.size + 1 + 1, 8, none⟩ (.slice a9 m3 c9)).setCell ⟨w.heap.size + 1 + 1, 9, none⟩ (.slice a10 (min mO 4) c10)) = WF at *
            have s7 := hq.size
            have q0 := hz.cell 0
            have q1 := hz.cell 1
            have q2 := hz.cell 2
            have q3 := hz.cell 3
            have q4 := hz.cell 4
            have q5 := hz.cell 5
            have q6 := hz.cell 6
            have q7 := hz.cell 7
            have q8 := hz.cell 8
            have q9 := hz.cell 9
            simp only [List.setIfInBounds_toArray, List.set_cons_zero, List.set_cons_succ, List.getElem?_toArray, List.getElem?_cons_succ, List.getElem?_cons_zero] at q0 q1 q2 q3 q4 q5 q6 q7 q8 q9
            have e0 : (1 + N % 6).toNat = k := by omega
            have hRl := HRl.out
            have hDl := HDl.out
            have hOl := HOl.out
            refine bodyPost_ret (v := .agg #[.string ⟨#[98, 97, 115, 101]⟩, .slice none 0 0, .slice ai 3 ci, .slice ad 2 cd, .slice none 0 0, .slice none 0 0, .slice a k c, .slice a8 m2 c8, .slice a9 m3 c9, .slice a10 (min mO 4) c10]) (by simp [results, Tryz.results17, go_sem, q0, q1, q2, q3, q4, q5, q6, q7, q8, q9]) rfl ?_
            clear q0 q1 q2 q3 q4 q5 q6 q7 q8 q9 hz
            subst hRl hDl hOl
            subst hm2 hm3
            rw [e0]
            refine ⟨a, c, a8, c8, a9, c9, a10, c10, rvk, rfl, ?_⟩
            have v7 : ∀ b, (Value.slice a k c).ownBlock = some b → w.heap.size + 4 ≤ b ∧ b < W3.heap.size := Hown7.out.lt
            have v8 : ∀ b, (Value.slice a8 (min R.length 6) c8).ownBlock = some b → W2.heap.size ≤ b ∧ b < W3.heap.size := Hown8.out.lt
            have vs := Hsep.out
            refine ⟨?_, ?_, ?_, ?_, ?_, hbel⟩
            · exact own_eqb (own_eqb (own_eqb Hown7.out Heq9.out (fun b hb => by have := v7 b hb; omega)) Heq10.out (fun b hb => by have := v7 b hb; omega)) hq (fun b hb => by have := v7 b hb; omega)
            · exact own_base (own_eqb (own_eqb (own_eqb Hown8.out Heq9.out (fun b hb => by have := v8 b hb; omega)) Heq10.out (fun b hb => by have := v8 b hb; omega)) hq (fun b hb => by have := v8 b hb; omega)) s2
            · refine Hrr.out.step fun x hx ls hl => ?_
              exact Sl.eqb (Sl.eqb (Sl.eqb hl Heq9.out (fun b hb => by have := vs x hx b hb; omega)) Heq10.out (fun b hb => by have := vs x hx b hb; omega)) hq (fun b hb => by have := vs x hx b hb; omega)
            · intro x hx b hb
              have := vs x hx b hb
              exact ⟨by omega, by omega, this.2.2⟩
            · intro F w'' hF he
              exact ⟨(((Hrow9.out.eqb Heq10.out (Nat.le_refl _) (by omega)).eqb hq (Nat.le_refl _) (by omega)).eqb he (Nat.le_refl _) (by omega)).gds, ((Hrow10.out.eqb hq (Nat.le_refl _) (by omega)).eqb he (Nat.le_refl _) (by omega)).ovs⟩

end Go.Proofs.YtknpbcdmemlicaaGreatDoor
