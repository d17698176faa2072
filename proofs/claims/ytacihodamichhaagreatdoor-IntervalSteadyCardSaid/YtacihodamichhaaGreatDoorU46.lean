/-
  Parts of the proof: En.
-/
import Derived.Test.YtacihodamichhaaGreatDoorU42
namespace Go.Proofs.YtacihodamichhaaGreatDoor
open Go.RowKit
def GCuts (w : World) (v : Value) (P : List GC) : Prop := Sl w 7 v (P.map GC.cells) ∧ ∀ k ∈ P, k.ok w
theorem cells7g {w w' : World} {b : Nat} {x0 x1 x2 x3 x4 x5 x6 : Value} {T : TypeId} (h : Blk w b #[x0, x1, x2, x3, x4, x5, x6] T) (hb : Below w.heap.size w w') : w'.cell? ⟨b, 0, none⟩ = some x0 ∧ w'.cell? ⟨b, 1, none⟩ = some x1 ∧ w'.cell? ⟨b, 2, none⟩ = some x2 ∧ w'.cell? ⟨b, 3, none⟩ = some x3 ∧ w'.cell? ⟨b, 4, none⟩ = some x4 ∧ w'.cell? ⟨b, 5, none⟩ = some x5 ∧ w'.cell? ⟨b, 6, none⟩ = some x6 := by
 have h' := h.below hb
 exact ⟨h'.cell 0, h'.cell 1, h'.cell 2, h'.cell 3, h'.cell 4, h'.cell 5, h'.cell 6⟩
theorem GCuts.at {w wr : World} {n cap : Nat} {a : Option Addr} {P : List GC} (h : GCuts w (.slice a n cap) P) (hb : Below w.heap.size w wr) {k : Nat} (hk : k < n) :
  ∃ b off q, a = some ⟨b, off, none⟩ ∧ P[k]? = some q ∧ q.ok wr ∧ wr.cell? ⟨b, off + k * 7, none⟩ = some (.int .i64 q.c.b) ∧ wr.cell? ⟨b, off + k * 7 + 1, none⟩ = some (.string q.c.s) ∧ wr.cell? ⟨b, off + k * 7 + 2, none⟩ = some (.int .i64 q.c.d) ∧ wr.cell? ⟨b, off + k * 7 + 3, none⟩ = some (.bool q.x) ∧ wr.cell? ⟨b, off + k * 7 + 4, none⟩ = some (.slice q.a q.n q.cap) ∧ wr.cell? ⟨b, off + k * 7 + 5, none⟩ = some (.bool q.y) ∧ wr.cell? ⟨b, off + k * 7 + 6, none⟩ = some (.slice q.e q.m q.cap2) := by
 obtain ⟨b, off, ha, hlt, r, hr, hc⟩ := Sl.row h.1 hb hk
 simp only [List.getElem?_map, Option.map_eq_some_iff] at hr
 obtain ⟨l, hl, rfl⟩ := hr
 exact ⟨b, off, l, ha, hl, (h.2 l (List.mem_of_getElem? hl)).mono hb, hc 0 (by decide), hc 1 (by decide), hc 2 (by decide), hc 3 (by decide), hc 4 (by decide), hc 5 (by decide), hc 6 (by decide)⟩
theorem one7g (k : GC) : ∀ u ∈ k.cells, u.oneCell' = true := by
 intro u hu
 simp [GC.cells] at hu
 rcases hu with rfl | rfl | rfl | rfl | rfl | rfl | rfl <;> rfl
theorem own_gcuts {w : World} {B n : Nat} {v : Value} {P : List GC} (h : w.ownsRow B 79 7 v n ((P.map GC.cells).flatten)) (hok : ∀ k ∈ P, k.ok w) : GCuts w v P :=
 ⟨Sl.own h (fun r hr => by obtain ⟨p, _, rfl⟩ := List.mem_map.1 hr; rfl) (by decide), hok⟩
theorem EC7 : ElemTy 68 79 7 96 := ⟨Tryz.underlying68, by kernel_rfl⟩
def endStep (O : List ByteArray) (c : Cut) : List ByteArray := if c.b = 0 ∧ O.getLast? ≠ some c.s then O ++ [c.s] else O
def endsFrom (O : List ByteArray) (cs : List (Cut × Cut)) : List ByteArray := cs.foldl (fun O p => endStep (endStep O p.1) p.2) O
def endsL (cs : List (Cut × Cut)) : List ByteArray := endsFrom [] cs
def numS (P : List GC) : List ByteArray := P.map fun k => k.c.s
theorem endsL_snoc (cs : List (Cut × Cut)) (p : Cut × Cut) : endsL (cs ++ [p]) = endStep (endStep (endsL cs) p.1) p.2 := by
 unfold endsL endsFrom
 rw [List.foldl_append]; rfl
theorem endStep_far {O : List ByteArray} {c : Cut} (h : c.b ≠ 0) : endStep O c = O := by unfold endStep; rw [if_neg (fun q => h q.1)]
theorem endStep_first {O : List ByteArray} {c : Cut} (h : c.b = 0) (hO : O = []) : endStep O c = O ++ [c.s] := by unfold endStep; rw [if_pos ⟨h, by rw [hO]; simp⟩]
theorem endStep_same {O : List ByteArray} {c : Cut} {s : ByteArray} (hs : O.getLast? = some s) (he : s = c.s) : endStep O c = O := by unfold endStep; rw [if_neg (fun q => q.2 (by rw [hs, he]))]
theorem endStep_new {O : List ByteArray} {c : Cut} {s : ByteArray} (h : c.b = 0) (hs : O.getLast? = some s) (he : s ≠ c.s) : endStep O c = O ++ [c.s] := by unfold endStep; rw [if_pos ⟨h, by rw [hs]; simpa using he⟩]
theorem numS_last {O : List GC} {q : GC} {j : Nat} (hl : O.length = j + 1) (h : O[j]? = some q) : (numS O).getLast? = some q.c.s := by
 unfold numS
 rw [List.getLast?_eq_getElem?, List.length_map, hl, List.getElem?_map, show j + 1 - 1 = j from rfl, h]; rfl
set_option maxHeartbeats 32000000 in
set_option maxRecDepth 10000 in
theorem ends_g (v : Value) (xs : List Iv) (w : World) (h : Ivs w v xs) (hs : ∀ x ∈ xs, x.short) (he : setErr xs = 0) (hn : xs.length ≤ 256) :
  Calls Tryz.prog 55 #[v] w (RetP (fun r w' => ∃ a c, ∃ O : List GC, r = .tuple #[.slice a O.length c, .int .i64 0] ∧ GCuts w' (.slice a O.length c) O ∧ numS O = endsL (xs.map Iv.cuts) ∧ O.length ≤ 2 * xs.length) w) := by
 have HP := hI (parts_g v xs w h hs)
 unfold PartsG at HP
 rw [he] at HP
 obtain ⟨E, hE⟩ : ∃ E, endsL (xs.map Iv.cuts) = E := ⟨_, rfl⟩
 rw [hE]
 have HE := hI hE
 obtain ⟨N, hN⟩ : ∃ N, xs.length = N := ⟨_, rfl⟩
 rw [hN] at hn ⊢
 have Hln := hI hN
 clear h hs he hE hN
 go_enter Tryz.func55, Tryz.ntmps55
 go_wp2_with (go_at_call 56; refine (HP.out).mono ?_; rintro e w1 ⟨⟨v1, rfl, hv1, -⟩, hb1⟩; obtain ⟨ap, cp, ps, rfl, hps, hcuts⟩ := hv1 (by first | rfl | trivial); have Hps := hI hps; have Hcuts := hI hcuts; have Hb1 := hI hb1; clear hv1 hps hcuts hb1)
 have hpn : ps.length = N := by have := congrArg List.length Hcuts.out; rw [List.length_map, List.length_map] at this; rw [this]; exact Hln.out
 have Hpn := hI hpn
 rw [hpn] at Hps
 have HN := hI (World.ownsRow_nil w1 w1.heap.size 79 7)
 have HEp := hI (show endsL (ps.map GP.cuts) = E by rw [Hcuts.out]; exact HE.out)
 rw [hpn]
 clear hpn HP HE
 go_loopw [19, 6] (fun i out wr => ∃ (j m : Nat) (O : List GC), j ≤ N ∧ i = .int .i64 (j : Int) ∧ Below w1.heap.size w1 wr ∧ wr.ownsRow w1.heap.size 79 7 out m ((O.map GC.cells).flatten) ∧ m ≤ 2 * j ∧ Hid (O.length = m ∧ numS O = endsL ((ps.take j).map GP.cuts) ∧ ∀ k ∈ O, k.ok wr)) (fun i _ _ => N - (intOf i).toNat)
 case atStart => exact ⟨0, 0, [], by omega, rfl, Below.refl _ _, HN.out, by omega, rfl, rfl, fun k hk => by cases hk⟩
 case round =>
  obtain ⟨j, m, O, hj, rfl, hbw, hown, hm, hst⟩ := hrel
  have Hbw := hI hbw
  have Hown := hI hown
  have Hst := hI hst.out
  obtain ⟨ao, co, rfl, hco, hcm⟩ := own_open hown
  unfold maxLen at hcm
  have hjw : IntKind.i64.wrap ((j : Int) + 1) = (j : Int) + 1 := IntWalk.i64_in _ (by omega)
  rcases Nat.lt_or_ge j N with hlt | hge
  ·obtain ⟨b, off, p, rfl, hp, hpok, e0, e1, e2, e3, e4, e5, e6, e7, e8, e9, e10, e11, e12, e13⟩ := Hps.out.at hbw hlt
   have hjn : (j : Int) < (N : Int) := by omega
   have hj0 : (0 : Int) ≤ (j : Int) := Int.natCast_nonneg _
   have Hp := hI hp
   have Hpok := hI hpok
   have Hcl := hI (show endsL ((ps.take (j + 1)).map GP.cuts) = endStep (endStep (endsL ((ps.take j).map GP.cuts)) p.l.c) p.h.c by
    rw [take_snoc1 hp, List.map_append]
    exact endsL_snoc _ _)
   obtain ⟨BS, hBS⟩ : ∃ B, endsL ((ps.take j).map GP.cuts) = B := ⟨_, rfl⟩
   rw [hBS] at Hcl
   have HBS := hI hBS
   obtain ⟨wq, hwq⟩ : ∃ x, x = wr := ⟨_, rfl⟩
   subst hwq
   clear hp hpok hBS hbw hown hst
   go_wp2_with fail
   have HB2 := hI (show Blk ((wq.alloc (.cells #[.int .i64 p.l.c.b, .string p.l.c.s, .int .i64 p.l.c.d, .bool p.l.x, .slice p.l.a p.l.n p.l.cap, .bool p.l.y, .slice p.l.e p.l.m p.l.cap2, .int .i64 p.h.c.b, .string p.h.c.s, .int .i64 p.h.c.d, .bool p.h.x, .slice p.h.a p.h.n p.h.cap, .bool p.h.y, .slice p.h.e p.h.m p.h.cap2] 84)).alloc (.cells #[.int .i64 p.l.c.b, .string p.l.c.s, .int .i64 p.l.c.d, .bool p.l.x, .slice p.l.a p.l.n p.l.cap, .bool p.l.y, .slice p.l.e p.l.m p.l.cap2, .int .i64 p.h.c.b, .string p.h.c.s, .int .i64 p.h.c.d, .bool p.h.x, .slice p.h.a p.h.n p.h.cap, .bool p.h.y, .slice p.h.e p.h.m p.h.cap2] 79)) (wq.heap.size + 1) #[.int .i64 p.l.c.b, .string p.l.c.s, .int .i64 p.l.c.d, .bool p.l.x, .slice p.l.a p.l.n p.l.cap, .bool p.l.y, .slice p.l.e p.l.m p.l.cap2, .int .i64 p.h.c.b, .string p.h.c.s, .int .i64 p.h.c.d, .bool p.h.x, .slice p.h.a p.h.n p.h.cap, .bool p.h.y, .slice p.h.e p.h.m p.h.cap2] 79 by
    have h := Blk.new (wq.alloc (.cells #[.int .i64 p.l.c.b, .string p.l.c.s, .int .i64 p.l.c.d, .bool p.l.x, .slice p.l.a p.l.n p.l.cap, .bool p.l.y, .slice p.l.e p.l.m p.l.cap2, .int .i64 p.h.c.b, .string p.h.c.s, .int .i64 p.h.c.d, .bool p.h.x, .slice p.h.a p.h.n p.h.cap, .bool p.h.y, .slice p.h.e p.h.m p.h.cap2] 84)) #[.int .i64 p.l.c.b, .string p.l.c.s, .int .i64 p.l.c.d, .bool p.l.x, .slice p.l.a p.l.n p.l.cap, .bool p.l.y, .slice p.l.e p.l.m p.l.cap2, .int .i64 p.h.c.b, .string p.h.c.s, .int .i64 p.h.c.d, .bool p.h.x, .slice p.h.a p.h.n p.h.cap, .bool p.h.y, .slice p.h.e p.h.m p.h.cap2] 79
    simpa using h)
   have HbB := hI (bwA (bwA Hbw.out (.cells #[.int .i64 p.l.c.b, .string p.l.c.s, .int .i64 p.l.c.d, .bool p.l.x, .slice p.l.a p.l.n p.l.cap, .bool p.l.y, .slice p.l.e p.l.m p.l.cap2, .int .i64 p.h.c.b, .string p.h.c.s, .int .i64 p.h.c.d, .bool p.h.x, .slice p.h.a p.h.n p.h.cap, .bool p.h.y, .slice p.h.e p.h.m p.h.cap2] 84)) (.cells #[.int .i64 p.l.c.b, .string p.l.c.s, .int .i64 p.l.c.d, .bool p.l.x, .slice p.l.a p.l.n p.l.cap, .bool p.l.y, .slice p.l.e p.l.m p.l.cap2, .int .i64 p.h.c.b, .string p.h.c.s, .int .i64 p.h.c.d, .bool p.h.x, .slice p.h.a p.h.n p.h.cap, .bool p.h.y, .slice p.h.e p.h.m p.h.cap2] 79))
   have HownB := hI (own_below Hown.out (below2 wq (.cells #[.int .i64 p.l.c.b, .string p.l.c.s, .int .i64 p.l.c.d, .bool p.l.x, .slice p.l.a p.l.n p.l.cap, .bool p.l.y, .slice p.l.e p.l.m p.l.cap2, .int .i64 p.h.c.b, .string p.h.c.s, .int .i64 p.h.c.d, .bool p.h.x, .slice p.h.a p.h.n p.h.cap, .bool p.h.y, .slice p.h.e p.h.m p.h.cap2] 84) (.cells #[.int .i64 p.l.c.b, .string p.l.c.s, .int .i64 p.l.c.d, .bool p.l.x, .slice p.l.a p.l.n p.l.cap, .bool p.l.y, .slice p.l.e p.l.m p.l.cap2, .int .i64 p.h.c.b, .string p.h.c.s, .int .i64 p.h.c.d, .bool p.h.x, .slice p.h.a p.h.n p.h.cap, .bool p.h.y, .slice p.h.e p.h.m p.h.cap2] 79)))
   have HstB := hI (show (∀ k ∈ O, k.ok ((wq.alloc (.cells #[.int .i64 p.l.c.b, .string p.l.c.s, .int .i64 p.l.c.d, .bool p.l.x, .slice p.l.a p.l.n p.l.cap, .bool p.l.y, .slice p.l.e p.l.m p.l.cap2, .int .i64 p.h.c.b, .string p.h.c.s, .int .i64 p.h.c.d, .bool p.h.x, .slice p.h.a p.h.n p.h.cap, .bool p.h.y, .slice p.h.e p.h.m p.h.cap2] 84)).alloc (.cells #[.int .i64 p.l.c.b, .string p.l.c.s, .int .i64 p.l.c.d, .bool p.l.x, .slice p.l.a p.l.n p.l.cap, .bool p.l.y, .slice p.l.e p.l.m p.l.cap2, .int .i64 p.h.c.b, .string p.h.c.s, .int .i64 p.h.c.d, .bool p.h.x, .slice p.h.a p.h.n p.h.cap, .bool p.h.y, .slice p.h.e p.h.m p.h.cap2] 79))) ∧ p.ok ((wq.alloc (.cells #[.int .i64 p.l.c.b, .string p.l.c.s, .int .i64 p.l.c.d, .bool p.l.x, .slice p.l.a p.l.n p.l.cap, .bool p.l.y, .slice p.l.e p.l.m p.l.cap2, .int .i64 p.h.c.b, .string p.h.c.s, .int .i64 p.h.c.d, .bool p.h.x, .slice p.h.a p.h.n p.h.cap, .bool p.h.y, .slice p.h.e p.h.m p.h.cap2] 84)).alloc (.cells #[.int .i64 p.l.c.b, .string p.l.c.s, .int .i64 p.l.c.d, .bool p.l.x, .slice p.l.a p.l.n p.l.cap, .bool p.l.y, .slice p.l.e p.l.m p.l.cap2, .int .i64 p.h.c.b, .string p.h.c.s, .int .i64 p.h.c.d, .bool p.h.x, .slice p.h.a p.h.n p.h.cap, .bool p.h.y, .slice p.h.e p.h.m p.h.cap2] 79)) from ⟨fun k hk => (Hst.out.2.2 k hk).mono (below2 wq (.cells #[.int .i64 p.l.c.b, .string p.l.c.s, .int .i64 p.l.c.d, .bool p.l.x, .slice p.l.a p.l.n p.l.cap, .bool p.l.y, .slice p.l.e p.l.m p.l.cap2, .int .i64 p.h.c.b, .string p.h.c.s, .int .i64 p.h.c.d, .bool p.h.x, .slice p.h.a p.h.n p.h.cap, .bool p.h.y, .slice p.h.e p.h.m p.h.cap2] 84) (.cells #[.int .i64 p.l.c.b, .string p.l.c.s, .int .i64 p.l.c.d, .bool p.l.x, .slice p.l.a p.l.n p.l.cap, .bool p.l.y, .slice p.l.e p.l.m p.l.cap2, .int .i64 p.h.c.b, .string p.h.c.s, .int .i64 p.h.c.d, .bool p.h.x, .slice p.h.a p.h.n p.h.cap, .bool p.h.y, .slice p.h.e p.h.m p.h.cap2] 79)), Hpok.out.mono (below2 wq (.cells #[.int .i64 p.l.c.b, .string p.l.c.s, .int .i64 p.l.c.d, .bool p.l.x, .slice p.l.a p.l.n p.l.cap, .bool p.l.y, .slice p.l.e p.l.m p.l.cap2, .int .i64 p.h.c.b, .string p.h.c.s, .int .i64 p.h.c.d, .bool p.h.x, .slice p.h.a p.h.n p.h.cap, .bool p.h.y, .slice p.h.e p.h.m p.h.cap2] 84) (.cells #[.int .i64 p.l.c.b, .string p.l.c.s, .int .i64 p.l.c.d, .bool p.l.x, .slice p.l.a p.l.n p.l.cap, .bool p.l.y, .slice p.l.e p.l.m p.l.cap2, .int .i64 p.h.c.b, .string p.h.c.s, .int .i64 p.h.c.d, .bool p.h.x, .slice p.h.a p.h.n p.h.cap, .bool p.h.y, .slice p.h.e p.h.m p.h.cap2] 79))⟩)
   have HNE := hI (show (Value.slice ao m co).ownBlock ≠ some (wq.heap.size + 1) from fun h => absurd ((Hown.out.lt _ h).2) (by omega))
   go_loopw [29, 6] (fun ii out wz => ∃ (i n : Nat) (O : List GC), i ≤ 2 ∧ ii = .int .i64 (i : Int) ∧ Below w1.heap.size w1 wz ∧ wz.ownsRow w1.heap.size 79 7 out n ((O.map GC.cells).flatten) ∧ Hid (Blk wz (wq.heap.size + 1) #[.int .i64 p.l.c.b, .string p.l.c.s, .int .i64 p.l.c.d, .bool p.l.x, .slice p.l.a p.l.n p.l.cap, .bool p.l.y, .slice p.l.e p.l.m p.l.cap2, .int .i64 p.h.c.b, .string p.h.c.s, .int .i64 p.h.c.d, .bool p.h.x, .slice p.h.a p.h.n p.h.cap, .bool p.h.y, .slice p.h.e p.h.m p.h.cap2] 79) ∧ Hid (wq.heap.size + 1 < wz.heap.size) ∧ Hid (out.ownBlock ≠ some (wq.heap.size + 1)) ∧ n ≤ 2 * j + i ∧ Hid (O.length = n ∧ ((i = 0 ∧ numS O = BS) ∨ (i = 1 ∧ numS O = endStep BS p.l.c) ∨ (i = 2 ∧ numS O = endStep (endStep BS p.l.c) p.h.c)) ∧ (∀ k ∈ O, k.ok wz) ∧ p.ok wz)) (fun ii _ _ => 2 - (intOf ii).toNat)
   case atStart => exact ⟨0, m, O, by omega, rfl, HbB.out, HownB.out, HB2.out, HB2.out.lt, HNE.out, by omega, Hst.out.1, .inl ⟨rfl, by rw [Hst.out.2.1]; exact HBS.out⟩, HstB.out.1, HstB.out.2⟩
   case round =>
    rename World => wr
    obtain ⟨i, n, O, hi, rfl, hbw, hown, hblk, hlt2, hne, hn2, hsi⟩ := hrel
    have Hbi := hI hbw
    have Howni := hI hown
    have Hsi := hI hsi.out
    obtain ⟨ai, ci, rfl, hci, hcim⟩ := own_open hown
    unfold maxLen at hcim
    have hiw : IntKind.i64.wrap ((i : Int) + 1) = (i : Int) + 1 := IntWalk.i64_in _ (by omega)
    have hi00 : (0 : Int) ≤ (i : Int) := Int.natCast_nonneg _
    clear hbw hown
    rcases (show i < 2 ∨ i = 2 by omega) with hi0 | hi0
    ·obtain ⟨kz, B0, hnum, hkok, hnext, q0, q1, q2, q3, q4, q5, q6⟩ : ∃ (kz : GC) (B0 : List ByteArray), numS O = B0 ∧ kz.ok wr ∧ (∀ X : List ByteArray, X = endStep B0 kz.c → (i + 1 = 0 ∧ X = BS) ∨ (i + 1 = 1 ∧ X = endStep BS p.l.c) ∨ (i + 1 = 2 ∧ X = endStep (endStep BS p.l.c) p.h.c)) ∧ wr.cell? ⟨wq.heap.size + 1, i * 7, none⟩ = some (.int .i64 kz.c.b) ∧ wr.cell? ⟨wq.heap.size + 1, i * 7 + 1, none⟩ = some (.string kz.c.s) ∧ wr.cell? ⟨wq.heap.size + 1, i * 7 + 2, none⟩ = some (.int .i64 kz.c.d) ∧ wr.cell? ⟨wq.heap.size + 1, i * 7 + 3, none⟩ = some (.bool kz.x) ∧ wr.cell? ⟨wq.heap.size + 1, i * 7 + 4, none⟩ = some (.slice kz.a kz.n kz.cap) ∧ wr.cell? ⟨wq.heap.size + 1, i * 7 + 5, none⟩ = some (.bool kz.y) ∧ wr.cell? ⟨wq.heap.size + 1, i * 7 + 6, none⟩ = some (.slice kz.e kz.m kz.cap2) := by
      rcases Hsi.out.2.1 with ⟨h1, h2⟩ | ⟨h1, h2⟩ | ⟨h1, h2⟩
      ·exact ⟨p.l, BS, h2, Hsi.out.2.2.2.1, fun X h => .inr (.inl ⟨by rw [h1], h⟩), by rw [hblk.out.cell, h1]; rfl, by rw [hblk.out.cell, h1]; rfl, by rw [hblk.out.cell, h1]; rfl, by rw [hblk.out.cell, h1]; rfl, by rw [hblk.out.cell, h1]; rfl, by rw [hblk.out.cell, h1]; rfl, by rw [hblk.out.cell, h1]; rfl⟩
      ·exact ⟨p.h, endStep BS p.l.c, h2, Hsi.out.2.2.2.2, fun X h => .inr (.inr ⟨by rw [h1], h⟩), by rw [hblk.out.cell, h1]; rfl, by rw [hblk.out.cell, h1]; rfl, by rw [hblk.out.cell, h1]; rfl, by rw [hblk.out.cell, h1]; rfl, by rw [hblk.out.cell, h1]; rfl, by rw [hblk.out.cell, h1]; rfl, by rw [hblk.out.cell, h1]; rfl⟩
      ·omega
     have hin : (i : Int) < 2 := by omega
     have Hi := hI hi0
     have Hnum := hI hnum
     have Hnext := hI hnext
     have Hkok := hI hkok
     clear hi0 hi hsi hnum hnext hkok
     rcases Classical.em (kz.c.b = 0) with hkb0 | hkb0
     ·have hkb : (kz.c.b == 0) = true := by simpa using hkb0
      have Hkb0 := hI hkb0
      clear hkb0
      rcases n with _ | n
      ·have hw0 : IntKind.i64.wrap 0 = (0 : Int) := rfl
       go_wp2_with fail
       have HSx := hI (fun w' (hb : Below (wr.alloc (.cells #[.int .i64 kz.c.b, .string kz.c.s, .int .i64 kz.c.d, .bool kz.x, .slice kz.a kz.n kz.cap, .bool kz.y, .slice kz.e kz.m kz.cap2] 79)).heap.size (wr.alloc (.cells #[.int .i64 kz.c.b, .string kz.c.s, .int .i64 kz.c.d, .bool kz.x, .slice kz.a kz.n kz.cap, .bool kz.y, .slice kz.e kz.m kz.cap2] 79)) w') => show w'.cell? ⟨wr.heap.size, 0, none⟩ = some (.int .i64 kz.c.b) ∧ w'.cell? ⟨wr.heap.size, 1, none⟩ = some (.string kz.c.s) ∧ w'.cell? ⟨wr.heap.size, 2, none⟩ = some (.int .i64 kz.c.d) ∧ w'.cell? ⟨wr.heap.size, 3, none⟩ = some (.bool kz.x) ∧ w'.cell? ⟨wr.heap.size, 4, none⟩ = some (.slice kz.a kz.n kz.cap) ∧ w'.cell? ⟨wr.heap.size, 5, none⟩ = some (.bool kz.y) ∧ w'.cell? ⟨wr.heap.size, 6, none⟩ = some (.slice kz.e kz.m kz.cap2) from cells7g (Blk.new wr #[.int .i64 kz.c.b, .string kz.c.s, .int .i64 kz.c.d, .bool kz.x, .slice kz.a kz.n kz.cap, .bool kz.y, .slice kz.e kz.m kz.cap2] 79) hb)
       refine wp_region_held_drew (S := (fun w' => w'.cell? ⟨wr.heap.size, 0, none⟩ = some (.int .i64 kz.c.b) ∧ w'.cell? ⟨wr.heap.size, 1, none⟩ = some (.string kz.c.s) ∧ w'.cell? ⟨wr.heap.size, 2, none⟩ = some (.int .i64 kz.c.d) ∧ w'.cell? ⟨wr.heap.size, 3, none⟩ = some (.bool kz.x) ∧ w'.cell? ⟨wr.heap.size, 4, none⟩ = some (.slice kz.a kz.n kz.cap) ∧ w'.cell? ⟨wr.heap.size, 5, none⟩ = some (.bool kz.y) ∧ w'.cell? ⟨wr.heap.size, 6, none⟩ = some (.slice kz.e kz.m kz.cap2))) (by kernel_rfl) (by exact HSx.out _ (bwD (wr.alloc (.cells #[.int .i64 kz.c.b, .string kz.c.s, .int .i64 kz.c.d, .bool kz.x, .slice kz.a kz.n kz.cap, .bool kz.y, .slice kz.e kz.m kz.cap2] 79)))) (fun hHeld => ?_)
       refine' tk 0 ?_; (try simp only [tkS]); refine' tk 1 ?_; (try simp only [tkS]); refine' tk 2 ?_; (try simp only [tkS]); refine' tk 3 ?_; (try simp only [tkS]); refine' tk 4 ?_; (try simp only [tkS]); refine' tk 5 ?_; (try simp only [tkS]); refine' tk 6 ?_; (try simp only [tkS]); refine' tk 7 ?_; (try simp only [tkS]); refine' tkU 8 ?_; (try simp only [tkS]); refine' tkU 9 ?_; (try simp only [tkS]); refine' tkU 10 ?_; (try simp only [tkS]); refine' tkU 11 ?_; (try simp only [tkS]); refine' tkU 12 ?_; (try simp only [tkS]); refine' tkU 13 ?_; (try simp only [tkS]); refine' tkU 14 ?_; (try simp only [tkS]); refine' tkU 15 ?_; (try simp only [tkS]); refine' tkU 16 ?_; (try simp only [tkS]); refine' tkU 17 ?_; (try simp only [tkS]); refine' tkU 18 ?_; (try simp only [tkS]); refine' tk 19 ?_; (try simp only [tkS]); refine' tk 20 ?_; (try simp only [tkS])
       refine tkD ?_ _
       have hb1 := (bw_via (below1 wr (.cells #[.int .i64 kz.c.b, .string kz.c.s, .int .i64 kz.c.d, .bool kz.x, .slice kz.a kz.n kz.cap, .bool kz.y, .slice kz.e kz.m kz.cap2] 79)) (bwD (wr.alloc (.cells #[.int .i64 kz.c.b, .string kz.c.s, .int .i64 kz.c.d, .bool kz.x, .slice kz.a kz.n kz.cap, .bool kz.y, .slice kz.e kz.m kz.cap2] 79)))).alloc (bw_via (below1 wr (.cells #[.int .i64 kz.c.b, .string kz.c.s, .int .i64 kz.c.d, .bool kz.x, .slice kz.a kz.n kz.cap, .bool kz.y, .slice kz.e kz.m kz.cap2] 79)) (bwD (wr.alloc (.cells #[.int .i64 kz.c.b, .string kz.c.s, .int .i64 kz.c.d, .bool kz.x, .slice kz.a kz.n kz.cap, .bool kz.y, .slice kz.e kz.m kz.cap2] 79)))).size (.cells #[.int .i64 kz.c.b, .string kz.c.s, .int .i64 kz.c.d, .bool kz.x, .slice kz.a kz.n kz.cap, .bool kz.y, .slice kz.e kz.m kz.cap2] 79)
       obtain ⟨u0, u1, u2, u3, u4, u5, u6⟩ := cells7g (Blk.new wr #[.int .i64 kz.c.b, .string kz.c.s, .int .i64 kz.c.d, .bool kz.x, .slice kz.a kz.n kz.cap, .bool kz.y, .slice kz.e kz.m kz.cap2] 79) (bwD (wr.alloc (.cells #[.int .i64 kz.c.b, .string kz.c.s, .int .i64 kz.c.d, .bool kz.x, .slice kz.a kz.n kz.cap, .bool kz.y, .slice kz.e kz.m kz.cap2] 79)))
       have Hblk := hI (show Blk (((wr.alloc (.cells #[.int .i64 kz.c.b, .string kz.c.s, .int .i64 kz.c.d, .bool kz.x, .slice kz.a kz.n kz.cap, .bool kz.y, .slice kz.e kz.m kz.cap2] 79)).drewN 1).alloc (.cells #[.int .i64 kz.c.b, .string kz.c.s, .int .i64 kz.c.d, .bool kz.x, .slice kz.a kz.n kz.cap, .bool kz.y, .slice kz.e kz.m kz.cap2] 79)) (wr.heap.size + 1) #[.int .i64 kz.c.b, .string kz.c.s, .int .i64 kz.c.d, .bool kz.x, .slice kz.a kz.n kz.cap, .bool kz.y, .slice kz.e kz.m kz.cap2] 79 from by have h := Blk.new ((wr.alloc (.cells #[.int .i64 kz.c.b, .string kz.c.s, .int .i64 kz.c.d, .bool kz.x, .slice kz.a kz.n kz.cap, .bool kz.y, .slice kz.e kz.m kz.cap2] 79)).drewN 1) #[.int .i64 kz.c.b, .string kz.c.s, .int .i64 kz.c.d, .bool kz.x, .slice kz.a kz.n kz.cap, .bool kz.y, .slice kz.e kz.m kz.cap2] 79; simpa using h)
       have Hb1' := hI hb1
       have Hb4 := hI (Hbi.out.via hb1 Hbi.out.size)
       have Hown4 := hI (own_below Howni.out hb1)
       clear hb1
       go_wp2_with (at_builtin; refine wpAppL EC7 (by decide) (GC.cells kz) rfl _ _ rfl w1.heap.size _ _ _ _ rfl rfl Hown4.out Hblk.out rfl (one7g kz) (by omega) (by decide) Hb4.out.size ?_; intro g5 cap5 w5 hown' hg' hor hgl; have Hb5 := hI (Below.grown Hb4.out hg' Hb4.out.size (fun q hq => (Hown4.out.lt q hq).1)); have Hown5 := hI hown'; have Hg5 := hI hg'; have Hbl5 := hI ((hblk.out.below Hb1'.out).grown hg' hne.out); have Hlt5 := hI (Nat.lt_of_lt_of_le hlt2.out (Nat.le_trans Hb1'.out.size hg'.size)); have Hor := hI hor; clear hown' hg' hor hgl)
       have hne5 : ∀ m : Nat, (Value.slice (some ⟨g5, 0, none⟩) m cap5).ownBlock ≠ some (wq.heap.size + 1) := fun m h => by
        have hg5 : g5 = wq.heap.size + 1 := Option.some.inj h
        rcases Hor.out with ho | ho
        ·exact hne.out (ho.trans (congrArg some hg5))
        ·have h3 : wq.heap.size + 1 < g5 := Nat.lt_of_lt_of_le hlt2.out (Nat.le_trans Hb1'.out.size (Nat.le_of_eq ho.symm))
         omega
       have hup : ∀ q : GC, q.ok wr → q.ok w5 := fun q hq => (hq.mono Hb1'.out).grown Hown4.out (by decide) Hg5.out
       go_roundw
       case rel => exact ⟨i + 1, 0 + 1, O ++ [kz], by have := Hi.out; omega, by go_num, Hb5.out, by have := Hown5.out; rw [rows_flat] at this; exact this, Hbl5.out, Hlt5.out, hne5 _, by omega, by rw [List.length_append, Hsi.out.1]; rfl, Hnext.out _ (by unfold numS; rw [List.map_append]; rw [endStep_first Hkb0.out (show B0 = [] by rw [← Hnum.out]; unfold numS; rw [List.length_eq_zero_iff.1 Hsi.out.1]; rfl), ← Hnum.out]; rfl), fun q hq => by
        rcases List.mem_append.1 hq with h | h
        ·exact hup q (Hsi.out.2.2.1 q h)
        ·cases List.mem_singleton.1 h; exact hup _ Hkok.out, hup _ Hsi.out.2.2.2.1, hup _ Hsi.out.2.2.2.2⟩
       case measure => simp [intOf] <;> omega
      ·obtain ⟨g, rfl⟩ := own_some Howni.out (by omega)
       obtain ⟨gg, oo, q, hg, hq, hqok, r0, r1, r2, r3, r4, r5, r6⟩ := (own_gcuts Howni.out Hsi.out.2.2.1).at (Below.refl _ _) (show n < n + 1 by omega)
       cases hg
       rw [Nat.zero_add] at r1
       have Hq := hI hq
       have Hq1 := hI r1
       have Hglt := hI (World.block_lt_of_cell? _ _ r1)
       clear hq hqok r0 r1 r2 r3 r4 r5 r6
       have hnn : ((n : Int) + 1 == 0) = false := beq_eq_false_iff_ne.2 (by omega)
       have hn3 : IntKind.i64.wrap (n : Int) = (n : Int) := IntWalk.i64_in _ (by omega)
       have hn4 : (n : Int) < (n : Int) + 1 := by omega
       have hn5 : (0 : Int) ≤ (n : Int) := Int.natCast_nonneg _
       rcases Classical.em (q.c.s = kz.c.s) with hsm | hsm
       ·have hne1 : (!q.c.s.toList == kz.c.s.toList) = false := by rw [hsm]; simp
        have Hsame := hI hsm
        clear hsm
        go_wp2_with fail
        have HSx := hI (fun w' (hb : Below (wr.alloc (.cells #[.int .i64 kz.c.b, .string kz.c.s, .int .i64 kz.c.d, .bool kz.x, .slice kz.a kz.n kz.cap, .bool kz.y, .slice kz.e kz.m kz.cap2] 79)).heap.size (wr.alloc (.cells #[.int .i64 kz.c.b, .string kz.c.s, .int .i64 kz.c.d, .bool kz.x, .slice kz.a kz.n kz.cap, .bool kz.y, .slice kz.e kz.m kz.cap2] 79)) w') => show w'.cell? ⟨wr.heap.size, 0, none⟩ = some (.int .i64 kz.c.b) ∧ w'.cell? ⟨wr.heap.size, 1, none⟩ = some (.string kz.c.s) ∧ w'.cell? ⟨wr.heap.size, 2, none⟩ = some (.int .i64 kz.c.d) ∧ w'.cell? ⟨wr.heap.size, 3, none⟩ = some (.bool kz.x) ∧ w'.cell? ⟨wr.heap.size, 4, none⟩ = some (.slice kz.a kz.n kz.cap) ∧ w'.cell? ⟨wr.heap.size, 5, none⟩ = some (.bool kz.y) ∧ w'.cell? ⟨wr.heap.size, 6, none⟩ = some (.slice kz.e kz.m kz.cap2) ∧ w'.cell? ⟨g, n * 7 + 1, none⟩ = some (.string q.c.s) from ⟨(cells7g (Blk.new wr #[.int .i64 kz.c.b, .string kz.c.s, .int .i64 kz.c.d, .bool kz.x, .slice kz.a kz.n kz.cap, .bool kz.y, .slice kz.e kz.m kz.cap2] 79) hb).1, (cells7g (Blk.new wr #[.int .i64 kz.c.b, .string kz.c.s, .int .i64 kz.c.d, .bool kz.x, .slice kz.a kz.n kz.cap, .bool kz.y, .slice kz.e kz.m kz.cap2] 79) hb).2.1, (cells7g (Blk.new wr #[.int .i64 kz.c.b, .string kz.c.s, .int .i64 kz.c.d, .bool kz.x, .slice kz.a kz.n kz.cap, .bool kz.y, .slice kz.e kz.m kz.cap2] 79) hb).2.2.1, (cells7g (Blk.new wr #[.int .i64 kz.c.b, .string kz.c.s, .int .i64 kz.c.d, .bool kz.x, .slice kz.a kz.n kz.cap, .bool kz.y, .slice kz.e kz.m kz.cap2] 79) hb).2.2.2.1, (cells7g (Blk.new wr #[.int .i64 kz.c.b, .string kz.c.s, .int .i64 kz.c.d, .bool kz.x, .slice kz.a kz.n kz.cap, .bool kz.y, .slice kz.e kz.m kz.cap2] 79) hb).2.2.2.2.1, (cells7g (Blk.new wr #[.int .i64 kz.c.b, .string kz.c.s, .int .i64 kz.c.d, .bool kz.x, .slice kz.a kz.n kz.cap, .bool kz.y, .slice kz.e kz.m kz.cap2] 79) hb).2.2.2.2.2.1, (cells7g (Blk.new wr #[.int .i64 kz.c.b, .string kz.c.s, .int .i64 kz.c.d, .bool kz.x, .slice kz.a kz.n kz.cap, .bool kz.y, .slice kz.e kz.m kz.cap2] 79) hb).2.2.2.2.2.2, (((below1 wr (.cells #[.int .i64 kz.c.b, .string kz.c.s, .int .i64 kz.c.d, .bool kz.x, .slice kz.a kz.n kz.cap, .bool kz.y, .slice kz.e kz.m kz.cap2] 79)).via hb (below1 wr (.cells #[.int .i64 kz.c.b, .string kz.c.s, .int .i64 kz.c.d, .bool kz.x, .slice kz.a kz.n kz.cap, .bool kz.y, .slice kz.e kz.m kz.cap2] 79)).size).cell (p := ⟨g, n * 7 + 1, none⟩) Hglt.out).trans Hq1.out⟩)
        refine wp_region_held_drew (S := (fun w' => w'.cell? ⟨wr.heap.size, 0, none⟩ = some (.int .i64 kz.c.b) ∧ w'.cell? ⟨wr.heap.size, 1, none⟩ = some (.string kz.c.s) ∧ w'.cell? ⟨wr.heap.size, 2, none⟩ = some (.int .i64 kz.c.d) ∧ w'.cell? ⟨wr.heap.size, 3, none⟩ = some (.bool kz.x) ∧ w'.cell? ⟨wr.heap.size, 4, none⟩ = some (.slice kz.a kz.n kz.cap) ∧ w'.cell? ⟨wr.heap.size, 5, none⟩ = some (.bool kz.y) ∧ w'.cell? ⟨wr.heap.size, 6, none⟩ = some (.slice kz.e kz.m kz.cap2) ∧ w'.cell? ⟨g, n * 7 + 1, none⟩ = some (.string q.c.s))) (by kernel_rfl) (by exact HSx.out _ (bwD (wr.alloc (.cells #[.int .i64 kz.c.b, .string kz.c.s, .int .i64 kz.c.d, .bool kz.x, .slice kz.a kz.n kz.cap, .bool kz.y, .slice kz.e kz.m kz.cap2] 79)))) (fun hHeld => ?_)
        refine' tk 0 ?_; (try simp only [tkS]); refine' tk 1 ?_; (try simp only [tkS]); refine' tk 2 ?_; (try simp only [tkS]); refine' tk 3 ?_; (try simp only [tkS]); refine' tk 4 ?_; (try simp only [tkS]); refine' tk 5 ?_; (try simp only [tkS]); refine' tk 6 ?_; (try simp only [tkS]); refine' tk 7 ?_; (try simp only [tkS]); refine' tk 8 ?_; (try simp only [tkS]); refine' tk 9 ?_; (try simp only [tkS]); refine' tk 10 ?_; (try simp only [tkS]); refine' tk 11 ?_; (try simp only [tkS]); refine' tk 12 ?_; (try simp only [tkS]); refine' tk 13 ?_; (try simp only [tkS]); refine' tk 14 ?_; (try simp only [tkS]); refine' tk 15 ?_; (try simp only [tkS]); refine' tk 16 ?_; (try simp only [tkS]); refine' tk 17 ?_; (try simp only [tkS]); refine' tk 18 ?_; (try simp only [tkS]); refine' tk 19 ?_; (try simp only [tkS]); refine' tk 20 ?_; (try simp only [tkS])
        refine tkD ?_ _
        go_wp2_with fail
        have hbd := bw_via (below1 wr (.cells #[.int .i64 kz.c.b, .string kz.c.s, .int .i64 kz.c.d, .bool kz.x, .slice kz.a kz.n kz.cap, .bool kz.y, .slice kz.e kz.m kz.cap2] 79)) (bwD (wr.alloc (.cells #[.int .i64 kz.c.b, .string kz.c.s, .int .i64 kz.c.d, .bool kz.x, .slice kz.a kz.n kz.cap, .bool kz.y, .slice kz.e kz.m kz.cap2] 79)))
        go_roundw
        case rel => exact ⟨i + 1, (n + 1), O, by have := Hi.out; omega, by go_num, Hbi.out.via hbd Hbi.out.size, own_below Howni.out hbd, hblk.out.below hbd, Nat.lt_of_lt_of_le hlt2.out hbd.size, hne.out, by omega, Hsi.out.1, Hnext.out _ (by rw [endStep_same (by rw [← Hnum.out]; exact numS_last Hsi.out.1 Hq.out) Hsame.out]; exact Hnum.out), fun q hq => (Hsi.out.2.2.1 q hq).mono hbd, Hsi.out.2.2.2.mono hbd⟩
        case measure => simp [intOf] <;> omega
       ·have hne1 : (!q.c.s.toList == kz.c.s.toList) = true := by rw [bytes_ne hsm]; rfl
        have Hdiff := hI hsm
        clear hsm
        go_wp2_with fail
        have HSx := hI (fun w' (hb : Below (wr.alloc (.cells #[.int .i64 kz.c.b, .string kz.c.s, .int .i64 kz.c.d, .bool kz.x, .slice kz.a kz.n kz.cap, .bool kz.y, .slice kz.e kz.m kz.cap2] 79)).heap.size (wr.alloc (.cells #[.int .i64 kz.c.b, .string kz.c.s, .int .i64 kz.c.d, .bool kz.x, .slice kz.a kz.n kz.cap, .bool kz.y, .slice kz.e kz.m kz.cap2] 79)) w') => show w'.cell? ⟨wr.heap.size, 0, none⟩ = some (.int .i64 kz.c.b) ∧ w'.cell? ⟨wr.heap.size, 1, none⟩ = some (.string kz.c.s) ∧ w'.cell? ⟨wr.heap.size, 2, none⟩ = some (.int .i64 kz.c.d) ∧ w'.cell? ⟨wr.heap.size, 3, none⟩ = some (.bool kz.x) ∧ w'.cell? ⟨wr.heap.size, 4, none⟩ = some (.slice kz.a kz.n kz.cap) ∧ w'.cell? ⟨wr.heap.size, 5, none⟩ = some (.bool kz.y) ∧ w'.cell? ⟨wr.heap.size, 6, none⟩ = some (.slice kz.e kz.m kz.cap2) ∧ w'.cell? ⟨g, n * 7 + 1, none⟩ = some (.string q.c.s) from ⟨(cells7g (Blk.new wr #[.int .i64 kz.c.b, .string kz.c.s, .int .i64 kz.c.d, .bool kz.x, .slice kz.a kz.n kz.cap, .bool kz.y, .slice kz.e kz.m kz.cap2] 79) hb).1, (cells7g (Blk.new wr #[.int .i64 kz.c.b, .string kz.c.s, .int .i64 kz.c.d, .bool kz.x, .slice kz.a kz.n kz.cap, .bool kz.y, .slice kz.e kz.m kz.cap2] 79) hb).2.1, (cells7g (Blk.new wr #[.int .i64 kz.c.b, .string kz.c.s, .int .i64 kz.c.d, .bool kz.x, .slice kz.a kz.n kz.cap, .bool kz.y, .slice kz.e kz.m kz.cap2] 79) hb).2.2.1, (cells7g (Blk.new wr #[.int .i64 kz.c.b, .string kz.c.s, .int .i64 kz.c.d, .bool kz.x, .slice kz.a kz.n kz.cap, .bool kz.y, .slice kz.e kz.m kz.cap2] 79) hb).2.2.2.1, (cells7g (Blk.new wr #[.int .i64 kz.c.b, .string kz.c.s, .int .i64 kz.c.d, .bool kz.x, .slice kz.a kz.n kz.cap, .bool kz.y, .slice kz.e kz.m kz.cap2] 79) hb).2.2.2.2.1, (cells7g (Blk.new wr #[.int .i64 kz.c.b, .string kz.c.s, .int .i64 kz.c.d, .bool kz.x, .slice kz.a kz.n kz.cap, .bool kz.y, .slice kz.e kz.m kz.cap2] 79) hb).2.2.2.2.2.1, (cells7g (Blk.new wr #[.int .i64 kz.c.b, .string kz.c.s, .int .i64 kz.c.d, .bool kz.x, .slice kz.a kz.n kz.cap, .bool kz.y, .slice kz.e kz.m kz.cap2] 79) hb).2.2.2.2.2.2, (((below1 wr (.cells #[.int .i64 kz.c.b, .string kz.c.s, .int .i64 kz.c.d, .bool kz.x, .slice kz.a kz.n kz.cap, .bool kz.y, .slice kz.e kz.m kz.cap2] 79)).via hb (below1 wr (.cells #[.int .i64 kz.c.b, .string kz.c.s, .int .i64 kz.c.d, .bool kz.x, .slice kz.a kz.n kz.cap, .bool kz.y, .slice kz.e kz.m kz.cap2] 79)).size).cell (p := ⟨g, n * 7 + 1, none⟩) Hglt.out).trans Hq1.out⟩)
        refine wp_region_held_drew (S := (fun w' => w'.cell? ⟨wr.heap.size, 0, none⟩ = some (.int .i64 kz.c.b) ∧ w'.cell? ⟨wr.heap.size, 1, none⟩ = some (.string kz.c.s) ∧ w'.cell? ⟨wr.heap.size, 2, none⟩ = some (.int .i64 kz.c.d) ∧ w'.cell? ⟨wr.heap.size, 3, none⟩ = some (.bool kz.x) ∧ w'.cell? ⟨wr.heap.size, 4, none⟩ = some (.slice kz.a kz.n kz.cap) ∧ w'.cell? ⟨wr.heap.size, 5, none⟩ = some (.bool kz.y) ∧ w'.cell? ⟨wr.heap.size, 6, none⟩ = some (.slice kz.e kz.m kz.cap2) ∧ w'.cell? ⟨g, n * 7 + 1, none⟩ = some (.string q.c.s))) (by kernel_rfl) (by exact HSx.out _ (bwD (wr.alloc (.cells #[.int .i64 kz.c.b, .string kz.c.s, .int .i64 kz.c.d, .bool kz.x, .slice kz.a kz.n kz.cap, .bool kz.y, .slice kz.e kz.m kz.cap2] 79)))) (fun hHeld => ?_)
        refine' tk 0 ?_; (try simp only [tkS]); refine' tk 1 ?_; (try simp only [tkS]); refine' tk 2 ?_; (try simp only [tkS]); refine' tk 3 ?_; (try simp only [tkS]); refine' tk 4 ?_; (try simp only [tkS]); refine' tk 5 ?_; (try simp only [tkS]); refine' tk 6 ?_; (try simp only [tkS]); refine' tk 7 ?_; (try simp only [tkS]); refine' tk 8 ?_; (try simp only [tkS]); refine' tk 9 ?_; (try simp only [tkS]); refine' tk 10 ?_; (try simp only [tkS]); refine' tk 11 ?_; (try simp only [tkS]); refine' tk 12 ?_; (try simp only [tkS]); refine' tk 13 ?_; (try simp only [tkS]); refine' tk 14 ?_; (try simp only [tkS]); refine' tk 15 ?_; (try simp only [tkS]); refine' tk 16 ?_; (try simp only [tkS]); refine' tk 17 ?_; (try simp only [tkS]); refine' tk 18 ?_; (try simp only [tkS]); refine' tk 19 ?_; (try simp only [tkS]); refine' tk 20 ?_; (try simp only [tkS])
        refine tkD ?_ _
        have hb1 := (bw_via (below1 wr (.cells #[.int .i64 kz.c.b, .string kz.c.s, .int .i64 kz.c.d, .bool kz.x, .slice kz.a kz.n kz.cap, .bool kz.y, .slice kz.e kz.m kz.cap2] 79)) (bwD (wr.alloc (.cells #[.int .i64 kz.c.b, .string kz.c.s, .int .i64 kz.c.d, .bool kz.x, .slice kz.a kz.n kz.cap, .bool kz.y, .slice kz.e kz.m kz.cap2] 79)))).alloc (bw_via (below1 wr (.cells #[.int .i64 kz.c.b, .string kz.c.s, .int .i64 kz.c.d, .bool kz.x, .slice kz.a kz.n kz.cap, .bool kz.y, .slice kz.e kz.m kz.cap2] 79)) (bwD (wr.alloc (.cells #[.int .i64 kz.c.b, .string kz.c.s, .int .i64 kz.c.d, .bool kz.x, .slice kz.a kz.n kz.cap, .bool kz.y, .slice kz.e kz.m kz.cap2] 79)))).size (.cells #[.int .i64 kz.c.b, .string kz.c.s, .int .i64 kz.c.d, .bool kz.x, .slice kz.a kz.n kz.cap, .bool kz.y, .slice kz.e kz.m kz.cap2] 79)
        obtain ⟨u0, u1, u2, u3, u4, u5, u6⟩ := cells7g (Blk.new wr #[.int .i64 kz.c.b, .string kz.c.s, .int .i64 kz.c.d, .bool kz.x, .slice kz.a kz.n kz.cap, .bool kz.y, .slice kz.e kz.m kz.cap2] 79) (bwD (wr.alloc (.cells #[.int .i64 kz.c.b, .string kz.c.s, .int .i64 kz.c.d, .bool kz.x, .slice kz.a kz.n kz.cap, .bool kz.y, .slice kz.e kz.m kz.cap2] 79)))
        have Hblk := hI (show Blk (((wr.alloc (.cells #[.int .i64 kz.c.b, .string kz.c.s, .int .i64 kz.c.d, .bool kz.x, .slice kz.a kz.n kz.cap, .bool kz.y, .slice kz.e kz.m kz.cap2] 79)).drewN 1).alloc (.cells #[.int .i64 kz.c.b, .string kz.c.s, .int .i64 kz.c.d, .bool kz.x, .slice kz.a kz.n kz.cap, .bool kz.y, .slice kz.e kz.m kz.cap2] 79)) (wr.heap.size + 1) #[.int .i64 kz.c.b, .string kz.c.s, .int .i64 kz.c.d, .bool kz.x, .slice kz.a kz.n kz.cap, .bool kz.y, .slice kz.e kz.m kz.cap2] 79 from by have h := Blk.new ((wr.alloc (.cells #[.int .i64 kz.c.b, .string kz.c.s, .int .i64 kz.c.d, .bool kz.x, .slice kz.a kz.n kz.cap, .bool kz.y, .slice kz.e kz.m kz.cap2] 79)).drewN 1) #[.int .i64 kz.c.b, .string kz.c.s, .int .i64 kz.c.d, .bool kz.x, .slice kz.a kz.n kz.cap, .bool kz.y, .slice kz.e kz.m kz.cap2] 79; simpa using h)
        have Hb1' := hI hb1
        have Hb4 := hI (Hbi.out.via hb1 Hbi.out.size)
        have Hown4 := hI (own_below Howni.out hb1)
        clear hb1
        go_wp2_with (at_builtin; refine wpAppL EC7 (by decide) (GC.cells kz) rfl _ _ rfl w1.heap.size _ _ _ _ rfl rfl Hown4.out Hblk.out rfl (one7g kz) (by omega) (by decide) Hb4.out.size ?_; intro g5 cap5 w5 hown' hg' hor hgl; have Hb5 := hI (Below.grown Hb4.out hg' Hb4.out.size (fun q hq => (Hown4.out.lt q hq).1)); have Hown5 := hI hown'; have Hg5 := hI hg'; have Hbl5 := hI ((hblk.out.below Hb1'.out).grown hg' hne.out); have Hlt5 := hI (Nat.lt_of_lt_of_le hlt2.out (Nat.le_trans Hb1'.out.size hg'.size)); have Hor := hI hor; clear hown' hg' hor hgl)
        have hne5 : ∀ m : Nat, (Value.slice (some ⟨g5, 0, none⟩) m cap5).ownBlock ≠ some (wq.heap.size + 1) := fun m h => by
         have hg5 : g5 = wq.heap.size + 1 := Option.some.inj h
         rcases Hor.out with ho | ho
         ·exact hne.out (ho.trans (congrArg some hg5))
         ·have h3 : wq.heap.size + 1 < g5 := Nat.lt_of_lt_of_le hlt2.out (Nat.le_trans Hb1'.out.size (Nat.le_of_eq ho.symm))
          omega
        have hup : ∀ q : GC, q.ok wr → q.ok w5 := fun q hq => (hq.mono Hb1'.out).grown Hown4.out (by decide) Hg5.out
        go_roundw
        case rel => exact ⟨i + 1, (n + 1) + 1, O ++ [kz], by have := Hi.out; omega, by go_num, Hb5.out, by have := Hown5.out; rw [rows_flat] at this; exact this, Hbl5.out, Hlt5.out, hne5 _, by omega, by rw [List.length_append, Hsi.out.1]; rfl, Hnext.out _ (by unfold numS; rw [List.map_append]; rw [endStep_new Hkb0.out (by rw [← Hnum.out]; exact numS_last Hsi.out.1 Hq.out) Hdiff.out, ← Hnum.out]; rfl), fun q hq => by
         rcases List.mem_append.1 hq with h | h
         ·exact hup q (Hsi.out.2.2.1 q h)
         ·cases List.mem_singleton.1 h; exact hup _ Hkok.out, hup _ Hsi.out.2.2.2.1, hup _ Hsi.out.2.2.2.2⟩
        case measure => simp [intOf] <;> omega
     ·have hkb : (kz.c.b == 0) = false := beq_eq_false_iff_ne.2 hkb0
      have Hkb := hI hkb0
      clear hkb0
      go_wp2_with fail
      have HSx := hI (fun w' (hb : Below (wr.alloc (.cells #[.int .i64 kz.c.b, .string kz.c.s, .int .i64 kz.c.d, .bool kz.x, .slice kz.a kz.n kz.cap, .bool kz.y, .slice kz.e kz.m kz.cap2] 79)).heap.size (wr.alloc (.cells #[.int .i64 kz.c.b, .string kz.c.s, .int .i64 kz.c.d, .bool kz.x, .slice kz.a kz.n kz.cap, .bool kz.y, .slice kz.e kz.m kz.cap2] 79)) w') => show w'.cell? ⟨wr.heap.size, 0, none⟩ = some (.int .i64 kz.c.b) ∧ w'.cell? ⟨wr.heap.size, 1, none⟩ = some (.string kz.c.s) ∧ w'.cell? ⟨wr.heap.size, 2, none⟩ = some (.int .i64 kz.c.d) ∧ w'.cell? ⟨wr.heap.size, 3, none⟩ = some (.bool kz.x) ∧ w'.cell? ⟨wr.heap.size, 4, none⟩ = some (.slice kz.a kz.n kz.cap) ∧ w'.cell? ⟨wr.heap.size, 5, none⟩ = some (.bool kz.y) ∧ w'.cell? ⟨wr.heap.size, 6, none⟩ = some (.slice kz.e kz.m kz.cap2) from cells7g (Blk.new wr #[.int .i64 kz.c.b, .string kz.c.s, .int .i64 kz.c.d, .bool kz.x, .slice kz.a kz.n kz.cap, .bool kz.y, .slice kz.e kz.m kz.cap2] 79) hb)
      refine wp_region_held_drew (S := (fun w' => w'.cell? ⟨wr.heap.size, 0, none⟩ = some (.int .i64 kz.c.b) ∧ w'.cell? ⟨wr.heap.size, 1, none⟩ = some (.string kz.c.s) ∧ w'.cell? ⟨wr.heap.size, 2, none⟩ = some (.int .i64 kz.c.d) ∧ w'.cell? ⟨wr.heap.size, 3, none⟩ = some (.bool kz.x) ∧ w'.cell? ⟨wr.heap.size, 4, none⟩ = some (.slice kz.a kz.n kz.cap) ∧ w'.cell? ⟨wr.heap.size, 5, none⟩ = some (.bool kz.y) ∧ w'.cell? ⟨wr.heap.size, 6, none⟩ = some (.slice kz.e kz.m kz.cap2))) (by kernel_rfl) (by exact HSx.out _ (bwD (wr.alloc (.cells #[.int .i64 kz.c.b, .string kz.c.s, .int .i64 kz.c.d, .bool kz.x, .slice kz.a kz.n kz.cap, .bool kz.y, .slice kz.e kz.m kz.cap2] 79)))) (fun hHeld => ?_)
      refine' tk 0 ?_; (try simp only [tkS]); refine' tk 1 ?_; (try simp only [tkS]); refine' tk 2 ?_; (try simp only [tkS]); refine' tk 3 ?_; (try simp only [tkS]); refine' tk 4 ?_; (try simp only [tkS]); refine' tkU 5 ?_; (try simp only [tkS]); refine' tkU 6 ?_; (try simp only [tkS]); refine' tkU 7 ?_; (try simp only [tkS]); refine' tkU 8 ?_; (try simp only [tkS]); refine' tkU 9 ?_; (try simp only [tkS]); refine' tkU 10 ?_; (try simp only [tkS]); refine' tkU 11 ?_; (try simp only [tkS]); refine' tkU 12 ?_; (try simp only [tkS]); refine' tkU 13 ?_; (try simp only [tkS]); refine' tkU 14 ?_; (try simp only [tkS]); refine' tkU 15 ?_; (try simp only [tkS]); refine' tkU 16 ?_; (try simp only [tkS]); refine' tkU 17 ?_; (try simp only [tkS]); refine' tkU 18 ?_; (try simp only [tkS]); refine' tkU 19 ?_; (try simp only [tkS]); refine' tk 20 ?_; (try simp only [tkS])
      refine tkD ?_ _
      go_wp2_with fail
      have hbd := bw_via (below1 wr (.cells #[.int .i64 kz.c.b, .string kz.c.s, .int .i64 kz.c.d, .bool kz.x, .slice kz.a kz.n kz.cap, .bool kz.y, .slice kz.e kz.m kz.cap2] 79)) (bwD (wr.alloc (.cells #[.int .i64 kz.c.b, .string kz.c.s, .int .i64 kz.c.d, .bool kz.x, .slice kz.a kz.n kz.cap, .bool kz.y, .slice kz.e kz.m kz.cap2] 79)))
      go_roundw
      case rel => exact ⟨i + 1, n, O, by have := Hi.out; omega, by go_num, Hbi.out.via hbd Hbi.out.size, own_below Howni.out hbd, hblk.out.below hbd, Nat.lt_of_lt_of_le hlt2.out hbd.size, hne.out, by omega, Hsi.out.1, Hnext.out _ (by rw [endStep_far Hkb.out]; exact Hnum.out), fun q hq => (Hsi.out.2.2.1 q hq).mono hbd, Hsi.out.2.2.2.mono hbd⟩
      case measure => simp [intOf] <;> omega
    ·have hin : ¬ (i : Int) < 2 := by omega
     have hnum : numS O = endStep (endStep BS p.l.c) p.h.c := by
      rcases Hsi.out.2.1 with ⟨h1, h2⟩ | ⟨h1, h2⟩ | ⟨h1, h2⟩ <;> first | exact h2 | omega
     have Hi := hI hi0
     have Hnum := hI hnum
     clear hi0 hnum hi hsi
     go_wp2_with fail
     go_roundw
     case rel => exact ⟨j + 1, n, O, by omega, by go_num, Hbi.out, Howni.out, by have := Hi.out; omega, Hsi.out.1, by rw [Hnum.out, Hcl.out], Hsi.out.2.2.1⟩
     case measure => simp [intOf] <;> omega
  ·obtain rfl : j = N := by omega
   have hjn : ¬ (j : Int) < (j : Int) := by omega
   have Hfin := hI (show numS O = E by
    have := Hst.out.2.1
    rw [List.take_of_length_le (by rw [Hpn.out]; exact Nat.le_refl _)] at this
    rw [this]; exact HEp.out)
   go_wp2_with fail
   go_ret2
   exact ⟨_, rfl, ⟨ao, co, O, by rw [Hst.out.1]; rfl, by rw [Hst.out.1]; exact own_gcuts Hown.out Hst.out.2.2, Hfin.out, by rw [Hst.out.1]; omega⟩, Hb1.out.via Hbw.out Hb1.out.size⟩
end Go.Proofs.YtacihodamichhaaGreatDoor
