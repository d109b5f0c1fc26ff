/-
  hachureref11.Made: the walk.
-/
import Derived.Test.YtfcmmclialeepaaD2
import Derived.Deep.RegionLaw
import Derived.Deep.DrawnRows
import Derived.Laws.Rows
namespace Go.Proofs.Ytfcmmclialeepaa
open Go.RowKit Go.Shelf
attribute [local go_sem] Oper.semAt_some
attribute [local go_sem ↓] Go.wp_at_zero Go.wp_at_succ

theorem ev_info : (Try.prog.info? 35).map (fun i => (i.zero, i.size, i.bytes)) = some (some (.agg #[.int .i64 0, .int .i64 0, .int .i64 0, .int .i64 0, .int .i64 0]), 5, 40) := by kernel_rfl
theorem ev_info' : ∃ i, Try.prog.info? 35 = some i ∧ i.zero = some (.agg #[.int .i64 0, .int .i64 0, .int .i64 0, .int .i64 0, .int .i64 0]) ∧ i.size = 5 ∧ i.bytes = 40 := by
  have h := ev_info
  cases hi : Try.prog.info? 35 with
  | none => rw [hi] at h; cases h
  | some i =>
    rw [hi] at h
    simp only [Option.map_some, Option.some.injEq, Prod.mk.injEq] at h
    exact ⟨i, rfl, h.1, h.2.1, h.2.2⟩

/-- Made's loop: what holds ahead of round j -/
def LI (n₀ : Nat) (w : World) (sv : Value) (len B4 : Nat) (d many : Int) (at_ j_ : Value) (W : World) : Prop :=
  ∃ (j : Nat) (atv : Int) (sa : Option Addr) (sc : Nat) (evs : List Ev), at_ = .int .i64 atv ∧ j_ = .int .i64 j ∧ (j : Int) ≤ many ∧ 0 ≤ atv ∧ atv ≤ 141 * j ∧ evs.length ≤ j ∧ Right atv evs ∧ LW n₀ w W sv len (2 + 6 * j) B4 d (.slice sa evs.length sc) evs.length (flat evs)

theorem LI.next {n₀ : Nat} {w W w1 : World} {sv : Value} {len B4 j sc g cap' : Nat} {d many atv at' x0 x2 x3 x4 : Int} {sa : Option Addr} {evs : List Ev} {o : Obj}
    (h : LW n₀ w W sv len (2 + 6 * j + 1 + 1 + 1 + 1 + 1 + 1) B4 d (.slice sa evs.length sc) evs.length (flat evs)) (hg : (W.alloc o).grownBy w1 (Value.slice sa evs.length sc).ownBlock)
    (hr : w1.ownsRow (B4 + 1) 35 5 (.slice (some ⟨g, 0, none⟩) (evs.length + 1) cap') (evs.length + 1) (flat evs ++ #[Value.int .i64 x0, .int .i64 at', .int .i64 x2, .int .i64 x3, .int .i64 x4].toList))
    (hj : (j : Int) < many) (h0 : 0 ≤ atv) (h1 : atv < at') (h2 : at' ≤ 1024) (h3 : at' ≤ 141 * (j + 1)) (hl : evs.length ≤ j) (hR : Right atv evs) :
    LI n₀ w sv len B4 d many (.int .i64 at') (.int .i64 ((j : Int) + 1)) (w1.setCell ⟨B4, 1, none⟩ (.slice (some ⟨g, 0, none⟩) (evs.length + 1) cap')) := by
  refine ⟨j + 1, at', some ⟨g, 0, none⟩, cap', evs ++ [⟨x0, at', x2, x3, x4⟩], rfl, rfl, by omega, by omega, by omega, by simp; omega, hR.add ⟨x0, at', x2, x3, x4⟩ (by show 1 ≤ at'; omega) h1 h2, ?_⟩
  have hz := LW.appended (h.alloc _) hg hr
  have hk : 2 + 6 * (j + 1) = 2 + 6 * j + 1 + 1 + 1 + 1 + 1 + 1 := by omega
  rw [hk, ← flat_add, List.length_append]
  exact hz

theorem sizes {W : World} {B : Nat} {t : TypeId} (j : Nat) (hj : j < 4) (h : Blk W B #[.int .i64 2, .int .i64 6, .int .i64 30, .int .i64 140] t) : ∃ y : Int, 2 ≤ y ∧ y ≤ 140 ∧ W.cell? ⟨B, j, none⟩ = some (.int .i64 y) :=
  match j, hj with
  | 0, _ => ⟨2, by omega, by omega, h.cell 0⟩
  | 1, _ => ⟨6, by omega, by omega, h.cell 1⟩
  | 2, _ => ⟨30, by omega, by omega, h.cell 2⟩
  | 3, _ => ⟨140, by omega, by omega, h.cell 3⟩

set_option maxRecDepth 100000 in
set_option maxHeartbeats 4000000 in
theorem made_any (a : Option Addr) (len cap : Nat) (w : World) (hI : Ints w.heap.size w (.slice a len cap) len) :
    Calls Try.prog 10 #[.slice a len cap] w fun e w' => ∃ d a cap evs, e = .returned (.agg #[.int .i64 d, .slice a (List.length evs) cap]) ∧ Evs w'.heap.size w' (.slice a evs.length cap) evs ∧ evs.length ≤ 8 ∧ Right 1024 evs ∧ Below w.heap.size w w' := by
  obtain ⟨i0, hi0, hz0, hz1, hz2⟩ := ev_info'
  go_enter Try.func10, Try.ntmps10
  go_wp2_with fail
  have M0 : MW w.heap.size w ((w.alloc (.cells #[.int .i64 0, .slice none 0 0] 32)).alloc (.cells #[.slice a len cap, .int .i64 0] 51)) (.slice a len cap) len 0 := by
    have hb : Below w.heap.size w ((w.alloc (.cells #[.int .i64 0, .slice none 0 0] 32)).alloc (.cells #[.slice a len cap, .int .i64 0] 51)) := (by repeat' (first | with_reducible exact Below.refl _ _ | with_reducible exact Nat.le_refl _ | with_reducible assumption | with_reducible refine Go.below_growBy' ?_ ?_ _ | with_reducible refine Below.alloc ?_ ?_ _ | with_reducible refine Below.setCell ?_ ?_ _ | with_reducible refine Below.drew ?_ | with_reducible refine Go.le_alloc ?_ | with_reducible refine Go.le_growBy ?_ | with_reducible refine Go.le_setCell ?_ | with_reducible refine Go.le_drew ?_ | omega | (dsimp only; omega)))
    exact ⟨(Blk.new w _ _).alloc _, by simpa using Blk.new (w.alloc (.cells #[.int .i64 0, .slice none 0 0] 32)) #[.slice a len cap, .int .i64 0] 51, hb, hI.below hb⟩
  refine (M0.call (by omega) 3 (by omega) (by omega)).mono ?_
  rintro e W1 ⟨v1, k1, rfl, a1, a2, a3, M1, g1⟩
  clear M0 g1
  go_wp2_with fail
  have L1 : LW w.heap.size w (W1.alloc (.cells #[.int .i64 (1 + v1), .slice none 0 0] 32)) (.slice a len cap) len 1 W1.heap.size (1 + v1) (.slice none 0 0) 0 [] :=
    ⟨⟨k1, by omega, M1.kept (World.grownBy_alloc _ _ none) (by simp)⟩, Blk.new _ _ _, World.ownsRow_nil _ _ _ _, M1.bD.lt⟩
  refine (L1.call (by omega) 9 (by omega) (by omega)).mono ?_
  rintro e W2 ⟨many, rfl, b1, b2, L2, g2⟩
  clear L1 g2
  obtain ⟨hfar⟩ : Nonempty (w.heap.size + 1 < W1.heap.size) := ⟨L2.far⟩
  generalize W1.heap.size = B4 at *
  clear M1
  generalize 1 + v1 = d at *
  go_wp2_with fail
  go_loopw [6, 7] (fun at_ j_ wr => LI w.heap.size w (.slice a len cap) len B4 d many at_ j_ wr) (fun _ j_ _ => 9 - (intOf j_).toNat)
  case atStart => exact ⟨0, 0, none, 0, [], rfl, rfl, by omega, by omega, by omega, by simp, ⟨by simp, by simp⟩, L2⟩
  case round =>
    obtain ⟨j, atv, sa, sc, evs, rfl, rfl, j1, t0, t1, hlen, hR, L⟩ := hrel
    by_cases hj : (j : Int) < many
    · go_wp2_with fail
      have hBw := L.b4.lt
      refine ((L.alloc (.cells #[.int .i64 2, .int .i64 6, .int .i64 30, .int .i64 140] 3)).call (by omega) 4 (by omega) (by omega)).mono ?_
      rintro e W3 ⟨v, rfl, c1, c2, L3, g3⟩
      have bs := (Blk.new wr #[.int .i64 2, .int .i64 6, .int .i64 30, .int .i64 140] 3).kept g3 (fun e => by have := Option.some.inj e; omega)
      obtain ⟨vn, rfl⟩ : ∃ vn : Nat, v = vn := ⟨v.toNat, by omega⟩
      obtain ⟨y, y0, y1, hy⟩ := sizes vn (by omega) bs
      clear g3 bs
      have hvn : vn < 4 := by omega
      go_wp2_with fail
      refine (L3.call (by omega) y (by omega) (by omega)).mono ?_
      rintro e W4 ⟨v2, rfl, c3, c4, L4, g4⟩
      clear g4 L3 hy L
      by_cases hat : atv + 1 + v2 ≤ 1024
      · go_wp2_with fail
        have L5 := L4.drew
        have hS := L4.cell
        have hS5 : W4.drew.cell? ⟨B4, 1, none⟩ = some (.slice sa evs.length sc) := L4.cell
        go_region_law
          (first
            | (go_simp; go_at_call 18; refine (LW.call (by assumption) (by omega) _ (by omega) (by omega)).mono ?_; rintro e W' ⟨v', rfl, h1', h2', hL', hg'⟩; clear hg'; have hS' := LW.cell hL')
            | (refine step_append_lies _ (by rfl) _ _ _ (by rfl) (B4 + 1) 35 i0 _ 5 40 Try.underlying30 hi0 hz0 hz1 hz2 rfl (by omega) (.slice sa evs.length sc) evs.length (flat evs) (by rfl) ((LW.row (by assumption)).alloc _) _ 1 1 _ (by rfl) ?_ (World.news_of_block (heap_alloc_new _ _)) (by simp [Value.oneCell']) (by omega) (by unfold maxLen; omega) (by omega) (LW.base (by assumption) _) _ rfl ?_; rfl; intro g cap' w1 hown1 hgrow hat' hlt'; have hb1 := LW.after (by assumption) hgrow; have hc1 : w1.cell? ⟨B4, 1, none⟩ = some (.slice sa evs.length sc) := hb1.cell 1; have hf1 := hb1.frozen 1))
        all_goals
          go_wp2_with fail
          go_roundw
          case rel =>
            exact LI.next hL' hgrow hown1 hj t0 (by omega) hat (by omega) hlen hR
          case measure => simp [intOf]; omega
      · go_wp2_with fail
        go_roundw
        case rel =>
          refine ⟨j + 1, atv + 1 + v2, sa, sc, evs, rfl, by go_num, by omega, by omega, by omega, by omega, hR.up (by omega), ?_⟩
          obtain ⟨kk, hkk, hm⟩ := L4.mw
          exact ⟨⟨kk, by omega, hm⟩, L4.b4, L4.row, L4.far⟩
        case measure => simp [intOf]; omega
    · obtain ⟨kk, _, hM⟩ := L.mw
      have c4 := L.b4.cell 0
      have c5 := L.b4.cell 1
      have c6 := hM.bR.cell 0
      have c7 := hM.bR.cell 1
      have f6 := hM.bR.frozen 0
      have f7 := hM.bR.frozen 1
      simp at c4 c5 c6 c7
      go_wp2_with fail
      have hsW := hM.below.size
      have hr2 := (((hM.bR.set 0 (.int .i64 d)).set 1 (.slice sa evs.length sc)))
      simp at hr2
      have hrow := ownsRow_setCell_below (ownsRow_setCell_below L.row (a := ⟨w.heap.size, 0, none⟩) (by show w.heap.size < B4 + 1; omega) (.int .i64 d)) (a := ⟨w.heap.size, 1, none⟩) (by show w.heap.size < B4 + 1; omega) (.slice sa evs.length sc)
      have hB0 := hM.below
      refine bodyPost_ret (results_cell_row (by rfl) _ _ w.heap.size 32 #[.int .i64 d, .slice sa evs.length sc] (0, 0) _ (by rfl) hr2 Try.underlying32 (by rfl) (by kernel_rfl)) rfl ?_
      exact ⟨d, sa, sc, evs, rfl, evs_of_row hrow (by omega), by omega, ⟨fun e he => by have := hR.1 e he; omega, hR.2⟩, (by repeat' (first | with_reducible exact Below.refl _ _ | with_reducible exact Nat.le_refl _ | with_reducible assumption | with_reducible refine Go.below_growBy' ?_ ?_ _ | with_reducible refine Below.alloc ?_ ?_ _ | with_reducible refine Below.setCell ?_ ?_ _ | with_reducible refine Below.drew ?_ | with_reducible refine Go.le_alloc ?_ | with_reducible refine Go.le_growBy ?_ | with_reducible refine Go.le_setCell ?_ | with_reducible refine Go.le_drew ?_ | omega | (dsimp only; omega)))⟩
end Go.Proofs.Ytfcmmclialeepaa
