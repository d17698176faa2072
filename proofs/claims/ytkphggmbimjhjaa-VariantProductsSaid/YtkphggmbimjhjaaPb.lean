/-
  Names of options, parsed: the walks.
-/
import Derived.Test.YtkphggmbimjhjaaPa
import Derived.BigQuiet
namespace Go.Proofs.Ytkphggmbimjhjaa
open Go.RowKit

theorem get_getD {l : List ByteArray} {i : Nat} {s : ByteArray} (h : l[i]? = some s) : l.getD i ⟨#[]⟩ = s := by
  rw [List.getD_eq_getElem?_getD, h]; rfl

theorem set_next {opts on : List ByteArray} {i : Nat} {t : Int} {s : ByteArray} (hs : on[i]? = some s) (ht : atTo opts s opts.length = t) (_h0 : 0 ≤ t) (h12 : opts.length ≤ 12) :
    bits .or .i64 (pSet opts on i : Int) (wrap64 (2 ^ t.toNat)) = (pSet opts on (i + 1) : Int) := by
  have h2 := atTo_range opts s opts.length
  have hlt : pSet opts on i < 2 ^ 12 := pSet_lt opts on 12 (by omega) (by omega) i
  have hp : (2 : Nat) ^ t.toNat < 2 ^ 12 := Nat.pow_lt_pow_right (by omega) (by omega)
  have hw : wrap64 (2 ^ t.toNat) = 2 ^ t.toNat := by
    have : (2 : Int) ^ t.toNat = ((2 ^ t.toNat : Nat) : Int) := by exact_mod_cast rfl
    rw [this]
    generalize (2 : Nat) ^ t.toNat = e at hp ⊢
    exact IntWalk.wrap64_in _ (by omega)
  rw [hw, pSet, get_getD hs, ht, ← i64_or_nat _ _ (by omega) (by omega)]
  congr 1
theorem cfg_next {opts on : List ByteArray} {i : Nat} {t : Int} {s : ByteArray} (hs : on[i]? = some s) (ht : atTo opts s opts.length = t) (h0 : 0 ≤ t) (_h12 : opts.length ≤ 12) :
    bits .or .u64 (pCfg opts on i : Int) (IntKind.u64.wrap (2 ^ (11 - t).toNat)) = (pCfg opts on (i + 1) : Int) := by
  have h2 := atTo_range opts s opts.length
  have hlt : pCfg opts on i < 2 ^ 13 := pCfg_lt opts on i
  have hp : (2 : Nat) ^ (11 - t).toNat < 2 ^ 12 := Nat.pow_lt_pow_right (by omega) (by omega)
  have hw : IntKind.u64.wrap (2 ^ (11 - t).toNat) = 2 ^ (11 - t).toNat := by
    have : (2 : Int) ^ (11 - t).toNat = ((2 ^ (11 - t).toNat : Nat) : Int) := by exact_mod_cast rfl
    rw [this]
    generalize (2 : Nat) ^ (11 - t).toNat = e at hp ⊢
    exact IntWalk.u64_in _ (by omega)
  rw [hw, pCfg, get_getD hs, ht, ← bits_or_u64_nat _ _ (by omega) (by omega)]
  congr 1

set_option maxHeartbeats 2000000 in
theorem parse_any (q0 q1 q2 q3 q4 q5 ov q7 q8 q9 sv : Value) (opts on : List ByteArray) (w : World) (hO : Strs w ov opts) (hS : Strs w sv on) (h12 : opts.length ≤ 12) (hlen : on.length < 1000) :
    Calls Try.prog 30 #[.agg #[q0, q1, q2, q3, q4, q5, ov, q7, q8, q9], sv] w (Ret (.tuple #[.int .i64 (if pErr opts on = 0 then (pSet opts on on.length : Int) else 0), .int .i64 (pErr opts on)]) w) := by
  obtain ⟨a, cap, rfl, -, hcap⟩ := hO.open
  obtain ⟨a2, cap2, rfl, -, hcap2⟩ := hS.open
  unfold maxLen at hcap hcap2
  have Hat := Lib.hid (fun s => atTo_range opts s opts.length)
  have HK := Lib.hid (fun (i : Nat) (h1 : i < on.length) (h2 : pErrTo opts on i = 0) (h3 : pErrAt opts on i ≠ 0) => pErr_of h1 h2 h3)
  have HE := Lib.hid (show pErr opts on = pErrTo opts on on.length from rfl)
  have Hnx := Lib.hid (fun (i : Nat) (t : Int) (s : ByteArray) (hs : on[i]? = some s) (ht : atTo opts s opts.length = t) (h0 : 0 ≤ t) => set_next hs ht h0 h12)
  have Hpe := Lib.hid (fun i => show pErrAt opts on i = match on[i]? with | none => 0 | some s => if atTo opts s opts.length < 0 then 16 else if 0 < i ∧ leS s (on.getD (i - 1) ⟨#[]⟩) = true then 8 else 0 from rfl)
  have Hlt := Lib.hid (fun i => pSet_lt opts on 12 (by omega) (by omega) i)
  obtain ⟨RE, HRE⟩ : ∃ RE, Hid ((if pErr opts on = 0 then (pSet opts on on.length : Int) else 0) = RE) := ⟨_, rfl⟩
  rw [HRE.out]
  generalize hn : opts.length = n at *
  generalize hm : on.length = m at *
  have Hn := Lib.hid hn
  have Hm := Lib.hid hm
  clear hn hm
  go_enter Try.func30, Try.ntmps30
  go_wp2
  have hb0 := below1 w (.cells #[q0, q1, q2, q3, q4, q5, .slice a n cap, q7, q8, q9] 41)
  have hq : (w.alloc (.cells #[q0, q1, q2, q3, q4, q5, .slice a n cap, q7, q8, q9] 41)).cell? ⟨w.heap.size, 6, none⟩ = some (.slice a n cap) := by simp
  have hO := hO.mono hb0
  have hS := hS.mono hb0
  generalize w.alloc (.cells #[q0, q1, q2, q3, q4, q5, .slice a n cap, q7, q8, q9] 41) = W at *
  have hBW : w.heap.size < W.heap.size := World.block_lt_of_cell? W _ hq
  go_loopw [6, 7] (fun st i wr => ∃ j : Nat, j ≤ m ∧ i = .int .i64 j ∧ st = .int .i64 (pSet opts on j : Int) ∧ Below W.heap.size W wr ∧ Hid (pErrTo opts on j = 0)) (fun _ i _ => m - (intOf i).toNat)
  case atStart => exact ⟨0, Nat.zero_le _, rfl, rfl, Below.refl _ _, rfl⟩
  case round =>
    obtain ⟨j, hj, rfl, rfl, hbw, hpre⟩ := hrel
    by_cases hlt2 : j < m
    · obtain ⟨b, off, s, rfl, hsk, c0⟩ := hS.at hbw hlt2
      have Hsk := Lib.hid hsk
      clear hsk
      have Hps := Lib.hid (Hlt.out j)
      have HPS := Lib.hid (fun t => Hnx.out j t s Hsk.out)
      generalize pSet opts on j = ps at *
      go_wp2
      go_loopw [8, 9] (fun at' i wr => ∃ k : Nat, k ≤ n ∧ i = .int .i64 k ∧ at' = .int .i64 (atTo opts s k) ∧ Below W.heap.size W wr) (fun _ i _ => n - (intOf i).toNat)
      case atStart => exact ⟨0, Nat.zero_le _, rfl, rfl, hbw⟩
      case round =>
        clear c0 hbw
        obtain ⟨k, hk, rfl, rfl, hbw⟩ := hrel
        have hqr := (hbw.cell (p := ⟨w.heap.size, 6, none⟩) hBW).trans hq
        obtain ⟨b', off', s', hq', hsk', c0⟩ := hS.at hbw hlt2
        obtain ⟨rfl, rfl⟩ : b = b' ∧ off = off' := by simpa using hq'
        obtain rfl : s = s' := by rw [Hsk.out] at hsk'; exact Option.some.inj hsk'
        clear hq' hsk'
        by_cases hlt3 : k < n
        · obtain ⟨b3, off3, o, rfl, hok, d0⟩ := hO.at hbw hlt3
          by_cases he : o = s
          · have Hh := Lib.hid (atTo_hit (he ▸ hok))
            subst he
            have hdd : (o.toList == o.toList) = true := by simp
            clear hok
            go_wp2
            go_quiet (fail)
            go_wp2
            go_roundw
            case rel => exact ⟨k + 1, by omega, by go_num, by rw [Hh.out], hbw.dn _⟩
            case measure => simp [intOf]; omega
          · have Hh := Lib.hid (atTo_miss hok he)
            have hdd := bytes_ne he
            clear hok
            go_wp2
            go_quiet (fail)
            go_wp2
            go_roundw
            case rel => exact ⟨k + 1, by omega, by go_num, by rw [Hh.out], hbw.dn _⟩
            case measure => simp [intOf]; omega
        · obtain rfl : k = n := by omega
          have hat := Hat.out s
          have HPE := Lib.hid (show pErrAt opts on j = if atTo opts s k < 0 then 16 else if 0 < j ∧ leS s (on.getD (j - 1) ⟨#[]⟩) = true then 8 else 0 by rw [Hpe.out, Hsk.out])
          generalize atTo opts s k = t at *
          by_cases ht : t < 0
          · have hR := HRE.out
            have hpe : pErr opts on = 16 := by
              have h1 : pErrAt opts on j = 16 := by rw [HPE.out, if_pos ht]
              rw [HK.out j hlt2 hpre.out (by rw [h1]; decide), h1]
            rw [hpe, if_neg (by decide)] at hR
            go_wp2
            go_ret2
            exact ⟨by rw [hpe, ← hR]; rfl, hb0.via hbw hb0.size⟩
          · have ht0 : 0 ≤ t := by omega
            have ht12 : t < 12 := by omega
            have Hor := Lib.hid (HPS.out t rfl ht0)
            rcases j with _ | i
            · have HPE0 := Lib.hid (show pErrAt opts on 0 = 0 by rw [HPE.out, if_neg ht, if_neg (by simp)])
              go_wp2
              go_quiet (fail)
              go_wp2
              go_roundw
              case rel => exact ⟨1, by omega, by go_num, by rw [Hor.out], hbw.dn _, pErrTo_next hpre.out HPE0.out⟩
              case measure => simp [intOf]; omega
            · obtain ⟨b3, off3, s', hq3, hsk', d0⟩ := hS.at hbw (show i < m by omega)
              obtain ⟨rfl, rfl⟩ : b = b3 ∧ off = off3 := by simpa using hq3
              have hgd := get_getD hsk'
              clear hq3 hsk'
              have HPE1 := Lib.hid (show pErrAt opts on (i + 1) = if leS s s' = true then 8 else 0 by rw [HPE.out, if_neg ht, Nat.add_sub_cancel, hgd]; simp)
              clear hgd
              have hij : ((((i + 1 : Nat) : Int) - 1)) = (i : Int) := by omega
              have hi64 : IntKind.i64.wrap (i : Int) = i := IntWalk.i64_in _ (by omega)
              have him : (i : Int) < (m : Int) := by omega
              cases hle : (Op.bytesLess s.toList s'.toList || s.toList == s'.toList)
              · have HPE0 := Lib.hid (show pErrAt opts on (i + 1) = 0 by rw [HPE1.out]; rw [leS_of, hle]; rfl)
                go_wp2
                go_quiet (fail)
                go_wp2
                go_roundw
                case rel => exact ⟨i + 1 + 1, by omega, by go_num, by rw [Hor.out], hbw.dn _, pErrTo_next hpre.out HPE0.out⟩
                case measure => simp [intOf]; omega
              · have hR := HRE.out
                have hpe : pErr opts on = 8 := by
                  have h1 : pErrAt opts on (i + 1) = 8 := by rw [HPE1.out]; rw [leS_of, hle]; rfl
                  rw [HK.out (i + 1) hlt2 hpre.out (by rw [h1]; decide), h1]
                rw [hpe, if_neg (by decide)] at hR
                have Hpe8 := Lib.hid hpe
                have HR8 := Lib.hid hR
                clear hpe hR
                go_wp2
                go_quiet (fail)
                go_wp2
                go_ret2
                exact ⟨by rw [Hpe8.out, ← HR8.out]; rfl, hb0.via (hbw.dn _) hb0.size⟩
    · obtain rfl : j = m := by omega
      have he : pErr opts on = 0 := by rw [HE.out]; exact hpre.out
      have hR := HRE.out
      rw [if_pos he] at hR
      go_wp2_with fail
      go_ret2
      exact ⟨by rw [he, ← hR]; rfl, hb0.via hbw hb0.size⟩

end Go.Proofs.Ytkphggmbimjhjaa
