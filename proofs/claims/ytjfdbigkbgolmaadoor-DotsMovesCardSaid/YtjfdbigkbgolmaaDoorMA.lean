/-
  Chapter 29: hachureref08.Made: some ways, small ones: what it calls.
-/
import Derived.Test.YtjfdbigkbgolmaaDoorWG
import Derived.Test.YtjfdbigkbgolmaaDoorN1
import Derived.Test.YtjfdbigkbgolmaaDoorT5
import Derived.Deep.RegionLaw
import Derived.Deep.DrawnRows
import Derived.Deep.CutBlock
import Derived.Deep.DeepCutAuto
namespace Go.Proofs.YtjfdbigkbgolmaaDoor
set_option linter.unusedVariables false
set_option linter.unusedSimpArgs false
open Go.RowKit Go.Shelf
attribute [local go_sem] Oper.semAt_some
attribute [local go_sem ↓] Go.wp_at_zero Go.wp_at_succ

/-- a point of the small grid -/
structure Small (p : Spot) : Prop where
  x0 : 0 ≤ p.1
  x1 : p.1 ≤ 20
  y0 : 0 ≤ p.2
  y1 : p.2 ≤ 20

theorem spot_any (n : Int) (w : World) (h0 : 0 ≤ n) (h1 : n < 9) :
    Calls Tryd.prog 35 #[.int .i64 n] w fun e w' => (∃ x y, e = .returned (.agg #[.int .i64 x, .int .i64 y]) ∧ Small (x, y)) ∧ Below w.heap.size w w' := by
  have a1 := Int.tmod_nonneg 3 h0
  have a2 := Int.tmod_lt_of_pos n (b := 3) (by omega)
  have b1 := Int.tdiv_nonneg (a := n) (b := 3) h0 (by omega)
  have b2 : n.tdiv 3 ≤ 2 := by rw [Int.tdiv_eq_ediv_of_nonneg h0]; omega
  go_enter Tryd.func35, Tryd.ntmps35
  go_wp2_with fail
  exact bodyPost_ret (results_cell_row (by rfl) _ _ w.heap.size 24 #[.int .i64 (10 * (n % 3)), .int .i64 (10 * n.tdiv 3)] (0, 0) _ (by rfl) (Blk.new w _ _) Tryd.underlying24 (by rfl) (by kernel_rfl)) rfl ⟨⟨_, _, rfl, ⟨by simp only; omega, by simp only; omega, by simp only; omega, by simp only; omega⟩⟩, (by repeat' (first | with_reducible exact Below.refl _ _ | with_reducible exact Nat.le_refl _ | with_reducible assumption | with_reducible refine Go.below_growBy' ?_ ?_ _ | with_reducible refine Below.alloc ?_ ?_ _ | with_reducible refine Below.setCell ?_ ?_ _ | with_reducible refine Below.drew ?_ | with_reducible refine Go.le_alloc ?_ | with_reducible refine Go.le_growBy ?_ | with_reducible refine Go.le_setCell ?_ | with_reducible refine Go.le_drew ?_ | omega | (dsimp only; omega)))⟩

/-- the worlds of Made's walk: the draw's box -/
structure DW (n₀ : Nat) (w : World) (sv : Value) (xs : List Int) (K : Nat) (W : World) : Prop where
  bD : ∃ j, j ≤ K ∧ Blk W n₀ #[sv, .int .i64 (min j xs.length : Nat)] 62
  below : Below n₀ w W
  ints : Ints n₀ W sv xs
theorem DW.kept {n₀ : Nat} {w W W' : World} {sv : Value} {xs : List Int} {K : Nat} {row : Option Nat} (h : DW n₀ w sv xs K W) (hg : W.grownBy W' row) (hr : ∀ r, row = some r → n₀ < r) : DW n₀ w sv xs K W' := by
  obtain ⟨⟨j, hj, hD⟩, hB, hI⟩ := h
  have hlt := hD.lt
  have hb : Below n₀ W W' := Below.of_grown hg (by omega) (fun r e => by have := hr r e; omega)
  exact ⟨⟨j, hj, hD.kept hg (fun e => by have := hr _ e; omega)⟩, hB.trans hb, hI.below hb⟩
theorem DW.lt {n₀ : Nat} {w W : World} {sv : Value} {xs : List Int} {K : Nat} (h : DW n₀ w sv xs K W) : n₀ < W.heap.size := by obtain ⟨⟨j, hj, hD⟩, -⟩ := h; exact hD.lt
theorem DW.alloc {n₀ : Nat} {w W : World} {sv : Value} {xs : List Int} {K : Nat} (h : DW n₀ w sv xs K W) (o : Obj) : DW n₀ w sv xs K (W.alloc o) := h.kept (World.grownBy_alloc W o none) (by simp)
theorem DW.drew {n₀ : Nat} {w W : World} {sv : Value} {xs : List Int} {K : Nat} (h : DW n₀ w sv xs K W) : DW n₀ w sv xs K W.drew := by
  obtain ⟨⟨j, hj, hD⟩, hB, hI⟩ := h
  exact ⟨⟨j, hj, hD.drew⟩, hB.drew, hI⟩
theorem DW.below' {n₀ : Nat} {w W W' : World} {sv : Value} {xs : List Int} {K : Nat} (h : DW n₀ w sv xs K W) (hb : Below W.heap.size W W') : DW n₀ w sv xs K W' := h.kept (grownBy_of_below hb) (by simp)
theorem DW.call {n₀ : Nat} {w W : World} {sv : Value} {xs : List Int} {K : Nat} (h : DW n₀ w sv xs K W) (hk : K ≤ 1000) (m : Int) (hm1 : 1 ≤ m) (hm2 : m ≤ 4611686018427387904) :
    Calls Tryd.prog 21 #[.pointer (some ⟨n₀, 0, none⟩), .int .i64 m] W fun e W' => ∃ v, e = .returned (.int .i64 v) ∧ 0 ≤ v ∧ v < m ∧ DW n₀ w sv xs (K + 1) W' ∧ W.grownBy W' (some n₀) := by
  obtain ⟨⟨j, hj, hD⟩, hB, hI⟩ := h
  refine (next_any n₀ n₀ j xs sv m _ W rfl hm1 hm2 (Nat.le_refl _) hI hD (by omega)).mono ?_
  rintro e W' ⟨p, rfl, rfl⟩
  have hlt := hD.lt
  have hn := nextF_in xs j hm1
  have hg := setCell_grown W n₀ 1 (.int .i64 (min (j + 1) xs.length : Nat)) p
  have hb : Below n₀ W ((W.setCell ⟨n₀, 1, none⟩ (.int .i64 (min (j + 1) xs.length : Nat))).growBy p) := Below.of_grown hg (by omega) (fun r e => by cases e; omega)
  refine ⟨_, rfl, hn.1, hn.2, ⟨⟨j + 1, by omega, ?_⟩, hB.trans hb, hI.below hb⟩, hg⟩
  have := (hD.set 1 (.int .i64 (min (j + 1) xs.length : Nat))).grow p
  simpa using this
end Go.Proofs.YtjfdbigkbgolmaaDoor
