/-
  Chapter 29: the references' numbers: (*Draw).Next; Made.
  A law's argument []int, opened: a slice value that holds ints.
-/
import Derived.Test.YtjfdbigkbgolmaaGreatDoorZb
import Derived.Test.YtjfdbigkbgolmaaGreatDoorZc
import Derived.Test.YtjfdbigkbgolmaaGreatDoorZe
import Derived.ChangeSlices
namespace Go
set_option linter.unusedVariables false
set_option linter.unusedSimpArgs false
open Go.RowKit Go.Shelf
theorem World.setCell_over (w : World) (b o : Nat) (v v' : Value) : (w.setCell ⟨b, o, none⟩ v).setCell ⟨b, o, none⟩ v' = w.setCell ⟨b, o, none⟩ v' := by
  unfold World.setCell
  simp only [World.mk.injEq, and_true]
  apply Array.ext_getElem?
  intro i
  simp only [Array.getElem?_modify]
  by_cases h : b = i
  · simp only [h, if_true]
    cases w.heap[i]? with
    | none => rfl
    | some x => cases x <;> simp
  · simp [h]
theorem World.setCell_id (w : World) (b o : Nat) (v : Value) (h : w.cell? ⟨b, o, none⟩ = some v) : w.setCell ⟨b, o, none⟩ v = w := by
  obtain ⟨heap, tape, drawn, os, output⟩ := w
  unfold World.setCell
  simp only [World.mk.injEq, and_true]
  apply Array.ext_getElem?
  intro i
  simp only [Array.getElem?_modify]
  by_cases hb : b = i
  · subst hb
    unfold World.cell? at h
    simp only [if_true]
    cases hx : heap[b]? with
    | none => rfl
    | some x =>
      rw [show ({ heap := heap, tape := tape, drawn := drawn, os := os, output := output } : World).heap[b]? = some x from hx] at h
      cases x <;> try rfl
      rename_i c t f
      simp at h ⊢
      have h' : c[o]? = some v := h
      obtain ⟨hl, hv⟩ := Array.getElem?_eq_some_iff.1 h'
      apply Array.ext_getElem?
      intro j
      rw [Array.getElem?_setIfInBounds]
      split
      · rename_i e; subst e; exact h'.symm
      · rfl
  · simp [hb]
end Go
namespace Go.Proofs.YtjfdbigkbgolmaaGreatDoor
open Go.RowKit Go.Shelf
attribute [local go_sem] Oper.semAt_some

/-- the slice value sv holds these ints, in a block below n₀; or none -/
def Ints (n₀ : Nat) (W : World) (sv : Value) (xs : List Int) : Prop :=
  ∃ a cap, sv = .slice a xs.length cap ∧ ∀ j, (h : j < xs.length) → ∃ b off, a = some ⟨b, off, none⟩ ∧ b < n₀ ∧ fits xs[j] ∧ W.cell? ⟨b, off + j, none⟩ = some (.int .i64 xs[j])
theorem Ints.below {n₀ : Nat} {A B : World} (h : Below n₀ A B) {sv : Value} {xs : List Int} : Ints n₀ A sv xs → Ints n₀ B sv xs
  | ⟨a, cap, e, f⟩ => ⟨a, cap, e, fun j hj => by
    obtain ⟨b, off, h1, h2, h3, h4⟩ := f j hj
    exact ⟨b, off, h1, h2, h3, (h.cell (p := ⟨b, off + j, none⟩) h2).trans h4⟩⟩
theorem Ints.up {n₀ : Nat} {A B : World} {sv : Value} {xs : List Int} (h : Ints n₀ A sv xs) (hb : Below n₀ A B) (hn : n₀ ≤ B.heap.size) : Ints B.heap.size B sv xs := by
  obtain ⟨a, cap, e, f⟩ := h.below hb
  exact ⟨a, cap, e, fun j hj => by
    obtain ⟨b, off, h1, h2, h3⟩ := f j hj
    exact ⟨b, off, h1, by omega, h3⟩⟩

/-- the j-th number of a list, by its rest -/
def nextF (xs : List Int) (j : Nat) (m : Int) : Int := xs.getD j 0 % m
theorem nextF_in (xs : List Int) (j : Nat) {m : Int} (h : 1 ≤ m) : 0 ≤ nextF xs j m ∧ nextF xs j m < m := ⟨Int.emod_nonneg _ (by omega), Int.emod_lt_of_pos _ (by omega)⟩

set_option maxHeartbeats 1000000 in
set_option maxRecDepth 100000 in
theorem next_any (n₀ D j : Nat) (xs : List Int) (sv : Value) (m v : Int) (w : World) (hv : nextF xs j m = v) (hm1 : 1 ≤ m) (hm2 : m ≤ 4611686018427387904) (hD : n₀ ≤ D) (hI : Ints n₀ w sv xs) (hB : Blk w D #[sv, .int .i64 (min j xs.length : Nat)] 66) (hk : j ≤ 1000) :
    Calls Tryz.prog 22 #[.pointer (some ⟨D, 0, none⟩), .int .i64 m] w fun e w' => ∃ p, e = .returned (.int .i64 v) ∧ w' = (w.setCell ⟨D, 1, none⟩ (.int .i64 (min (j + 1) xs.length : Nat))).growBy p := by
  subst hv
  by_cases hlt : j < xs.length
  · rw [show min j xs.length = j from by omega] at hB
    rw [show min (j + 1) xs.length = j + 1 from by omega]
    have c0 : w.cell? ⟨D, 0, none⟩ = some sv := hB.cell 0
    have c1 : w.cell? ⟨D, 1, none⟩ = some (.int .i64 (j : Nat)) := hB.cell 1
    have f1 := hB.frozen 1
    obtain ⟨a, cap, rfl, hc⟩ := hI
    obtain ⟨b, off, rfl, hb, fx, cx⟩ := hc j hlt
    have hx : nextF xs j m = xs[j] % m := by unfold nextF; rw [List.getD_eq_getElem?_getD, List.getElem?_eq_getElem hlt]; rfl
    rw [hx]
    obtain ⟨x, hxx⟩ : ∃ x, xs[j] = x := ⟨_, rfl⟩
    rw [hxx] at fx cx ⊢
    have hbD : ¬ b = D := by omega
    have hDb : ¬ D = b := by omega
    have hlt' : (j : Int) < (xs.length : Int) := by omega
    clear hc hxx hx
    go_enter Tryz.func22, Tryz.ntmps22
    go_wp2_with fail
    first | with_reducible refine wp_region_grow2 (by kernel_rfl) (by kernel_rfl) ?_ | with_reducible refine wp_region_grow (by kernel_rfl) (by kernel_rfl) ?_
    repeat (first | go_big_quiet_step (fail) | quiet_step (fail))
    refine wpQuiet_nil ?_
    intro _ hw_
    obtain ⟨p, hw_⟩ := hw_
    subst hw_
    go_wp2_with fail
    first | with_reducible refine wp_region_grow2 (by kernel_rfl) (by kernel_rfl) ?_ | with_reducible refine wp_region_grow (by kernel_rfl) (by kernel_rfl) ?_
    repeat (first | go_big_quiet_step ((go_at_call 58; exact Calls.grow_of_same (mod_any _ _ _ fx hm1 hm2))) | quiet_step ((go_at_call 58; exact Calls.grow_of_same (mod_any _ _ _ fx hm1 hm2))))
    refine wpQuiet_nil ?_
    intro _ hw_
    obtain ⟨p, hw_⟩ := hw_
    subst hw_
    go_wp2_with fail
    go_ret
    exact ⟨_, rfl, rfl⟩
  · rw [show min j xs.length = xs.length from by omega] at hB
    rw [show min (j + 1) xs.length = xs.length from by omega]
    have c0 : w.cell? ⟨D, 0, none⟩ = some sv := hB.cell 0
    have c1 : w.cell? ⟨D, 1, none⟩ = some (.int .i64 (xs.length : Nat)) := hB.cell 1
    have f1 := hB.frozen 1
    have hid := World.setCell_id w D 1 _ c1
    have hz : nextF xs j m = 0 := by unfold nextF; rw [List.getD_eq_getElem?_getD, List.getElem?_eq_none (by omega)]; simp
    rw [hz]
    have hge' : ¬ (xs.length : Int) < (xs.length : Int) := by omega
    obtain ⟨a, cap, rfl, -⟩ := hI
    clear hz
    go_enter Tryz.func22, Tryz.ntmps22
    go_wp2_with fail
    first | with_reducible refine wp_region_grow2 (by kernel_rfl) (by kernel_rfl) ?_ | with_reducible refine wp_region_grow (by kernel_rfl) (by kernel_rfl) ?_
    repeat (first | go_big_quiet_step (fail) | quiet_step (fail))
    refine wpQuiet_nil ?_
    intro _ hw_
    obtain ⟨p, hw_⟩ := hw_
    subst hw_
    go_wp2_with fail
    go_ret
    exact ⟨_, rfl, by rw [hid]⟩

theorem Below.of_grown {n₀ : Nat} {W W' : World} {row : Option Nat} (hg : W.grownBy W' row) (hn : n₀ ≤ W.heap.size) (hr : ∀ r, row = some r → n₀ ≤ r) : Below n₀ W W' :=
  ⟨hg.os, hg.tape, hg.output, hg.size, fun i hi => hg.block i (by omega) (fun e => by have := hr i e.symm; omega)⟩

/-- the worlds of Made's walk: the result's cell and the draw's box at n₀, n₀ + 1 -/
structure MW (n₀ : Nat) (w W : World) (sv : Value) (xs : List Int) (j : Nat) : Prop where
  bR : Blk W n₀ #[.int .i64 0, .int .i64 0, .int .i64 0, .int .i64 0, .int .i64 0, .int .i64 0] 29
  bD : Blk W (n₀ + 1) #[sv, .int .i64 (min j xs.length : Nat)] 66
  below : Below n₀ w W
  ints : Ints n₀ W sv xs

theorem MW.kept {n₀ : Nat} {w W W' : World} {sv : Value} {xs : List Int} {k : Nat} {row : Option Nat} (h : MW n₀ w W sv xs k) (hg : W.grownBy W' row) (hr : ∀ r, row = some r → n₀ + 1 < r) : MW n₀ w W' sv xs k := by
  have hlt := h.bR.lt
  have hb : Below n₀ W W' := Below.of_grown hg (by omega) (fun r e => by have := hr r e; omega)
  exact ⟨h.bR.kept hg (fun e => by have := hr _ e; omega), h.bD.kept hg (fun e => by have := hr _ e; omega), h.below.trans hb, h.ints.below hb⟩

theorem setCell_grown (W : World) (b i : Nat) (v : Value) (p : Growth) : W.grownBy ((W.setCell ⟨b, i, none⟩ v).growBy p) (some b) := by
  refine ⟨rfl, rfl, rfl, by simp, fun k hk hne => ?_⟩
  rw [World.heap_growBy _ _ (by simpa using hk)]
  exact Below.heap_setCell _ _ _ _ (fun e => hne (by rw [e]))

/-- Next in such a world -/
theorem MW.call {n₀ : Nat} {w W : World} {sv : Value} {xs : List Int} {j : Nat} (h : MW n₀ w W sv xs j) (hk : j ≤ 1000) (m v : Int) (hv : nextF xs j m = v) (hm1 : 1 ≤ m) (hm2 : m ≤ 4611686018427387904) :
    Calls Tryz.prog 22 #[.pointer (some ⟨n₀ + 1, 0, none⟩), .int .i64 m] W fun e W' => e = .returned (.int .i64 v) ∧ MW n₀ w W' sv xs (j + 1) ∧ W.grownBy W' (some (n₀ + 1)) := by
  refine (next_any n₀ (n₀ + 1) j xs sv m v W hv hm1 hm2 (by omega) h.ints h.bD hk).mono ?_
  rintro e W' ⟨p, rfl, rfl⟩
  have hlt := h.bR.lt
  have hb : Below n₀ W ((W.setCell ⟨n₀ + 1, 1, none⟩ (.int .i64 (min (j + 1) xs.length : Nat))).growBy p) := Below.of_grown (setCell_grown _ _ _ _ _) (by omega) (fun r e => by cases e; omega)
  refine ⟨rfl, ⟨h.bR.kept (setCell_grown _ _ _ _ _) (fun e => by cases e), ?_, h.below.trans hb, h.ints.below hb⟩, setCell_grown _ _ _ _ _⟩
  have := (h.bD.set 1 (.int .i64 (min (j + 1) xs.length : Nat))).grow p
  simpa using this

theorem shCells {W : World} {B : Nat} {a b c d e f : Int} {t : TypeId} (h : Blk W B #[.int .i64 a, .int .i64 b, .int .i64 c, .int .i64 d, .int .i64 e, .int .i64 f] t) : W.cell? ⟨B, 0, none⟩ = some (.int .i64 a) ∧ W.cell? ⟨B, 1, none⟩ = some (.int .i64 b) ∧ W.cell? ⟨B, 2, none⟩ = some (.int .i64 c) ∧ W.cell? ⟨B, 3, none⟩ = some (.int .i64 d) ∧ W.cell? ⟨B, 4, none⟩ = some (.int .i64 e) ∧ W.cell? ⟨B, 5, none⟩ = some (.int .i64 f) :=
  ⟨h.cell 0, h.cell 1, h.cell 2, h.cell 3, h.cell 4, h.cell 5⟩

/-- a sheet that Made makes -/
structure MadeS (s : Sh) : Prop where
  x0 : -40 ≤ s.ax
  x1 : s.ax ≤ 30
  y0 : -40 ≤ s.ay
  y1 : s.ay ≤ 30
  t0 : 6 ≤ s.st
  t1 : s.st ≤ 17
  w0 : 20 ≤ s.w
  w1 : s.w ≤ 40
  h0 : 15 ≤ s.h
  h1 : s.h ≤ 30
  g0 : 1 ≤ s.g
  g1 : s.g ≤ 3
theorem MadeS.check {s : Sh} (h : MadeS s) : checkS s = 0 := by
  obtain ⟨ax, ay, st, W, H, G⟩ := s
  obtain ⟨x0, x1, y0, y1, t0, t1, w0, w1, h0, h1, g0, g1⟩ := h
  simp only at x0 x1 y0 y1 t0 t1 w0 w1 h0 h1 g0 g1
  have m1 := Int.mul_le_mul (a := W) (b := st) (c := 40) (d := 17) w1 t1 (by omega) (by omega)
  have m2 := Int.mul_le_mul (a := H) (b := st) (c := 30) (d := 17) h1 t1 (by omega) (by omega)
  have m3 := Int.mul_nonneg (a := W) (b := st) (by omega) (by omega)
  have m4 := Int.mul_nonneg (a := H) (b := st) (by omega) (by omega)
  rw [checkS_in ⟨⟨by simp only; omega, by simp only; omega⟩, ⟨by simp only; omega, by simp only; omega⟩, ⟨by simp only; omega, by simp only; omega⟩, by simp only; omega, by simp only; omega⟩]
  have e1 : rightP ax ay = true := rightP_iff.2 (by omega)
  have e2 : rightP (ax + W * st) (ay + H * st) = true := rightP_iff.2 (by omega)
  simp [e1, e2]

/-- the sheet that numbers make -/
def madeF (xs : List Int) : Sh := ⟨10 * nextF xs 0 8 - 40, 10 * nextF xs 1 8 - 40, 6 + nextF xs 2 12, 20 + nextF xs 3 21, 15 + nextF xs 4 16, 1 + nextF xs 5 3⟩
theorem madeF_made (xs : List Int) : MadeS (madeF xs) := by
  have h0 := nextF_in xs 0 (m := 8) (by omega)
  have h1 := nextF_in xs 1 (m := 8) (by omega)
  have h2 := nextF_in xs 2 (m := 12) (by omega)
  have h3 := nextF_in xs 3 (m := 21) (by omega)
  have h4 := nextF_in xs 4 (m := 16) (by omega)
  have h5 := nextF_in xs 5 (m := 3) (by omega)
  constructor <;> simp only [madeF] <;> omega

set_option maxRecDepth 100000 in
set_option maxHeartbeats 4000000 in
theorem made_any (sv : Value) (xs : List Int) (w : World) (hI : Ints w.heap.size w sv xs) :
    Calls Tryz.prog 6 #[sv] w fun e w' => e = .returned (shV (madeF xs)) ∧ Below w.heap.size w w' := by
  obtain ⟨v0, e0⟩ : ∃ v, nextF xs 0 8 = v := ⟨_, rfl⟩
  obtain ⟨v1, e1⟩ : ∃ v, nextF xs 1 8 = v := ⟨_, rfl⟩
  obtain ⟨v2, e2⟩ : ∃ v, nextF xs 2 12 = v := ⟨_, rfl⟩
  obtain ⟨v3, e3⟩ : ∃ v, nextF xs 3 21 = v := ⟨_, rfl⟩
  obtain ⟨v4, e4⟩ : ∃ v, nextF xs 4 16 = v := ⟨_, rfl⟩
  obtain ⟨v5, e5⟩ : ∃ v, nextF xs 5 3 = v := ⟨_, rfl⟩
  have hr : madeF xs = ⟨10 * v0 - 40, 10 * v1 - 40, 6 + v2, 20 + v3, 15 + v4, 1 + v5⟩ := by unfold madeF; rw [e0, e1, e2, e3, e4, e5]
  rw [hr]
  clear hr
  have b0 := nextF_in xs 0 (m := 8) (by omega)
  have b1 := nextF_in xs 1 (m := 8) (by omega)
  have b2 := nextF_in xs 2 (m := 12) (by omega)
  have b3 := nextF_in xs 3 (m := 21) (by omega)
  have b4 := nextF_in xs 4 (m := 16) (by omega)
  have b5 := nextF_in xs 5 (m := 3) (by omega)
  rw [e0] at b0
  rw [e1] at b1
  rw [e2] at b2
  rw [e3] at b3
  rw [e4] at b4
  rw [e5] at b5
  obtain ⟨b00, b01⟩ := b0
  obtain ⟨b10, b11⟩ := b1
  obtain ⟨b20, b21⟩ := b2
  obtain ⟨b30, b31⟩ := b3
  obtain ⟨b40, b41⟩ := b4
  obtain ⟨b50, b51⟩ := b5
  replace e0 := Lib.hid e0
  replace e1 := Lib.hid e1
  replace e2 := Lib.hid e2
  replace e3 := Lib.hid e3
  replace e4 := Lib.hid e4
  replace e5 := Lib.hid e5
  have hI' := hI
  obtain ⟨sa, sc, rfl, -⟩ := hI'
  have hM : MW w.heap.size w ((w.alloc (.cells #[.int .i64 0, .int .i64 0, .int .i64 0, .int .i64 0, .int .i64 0, .int .i64 0] 29)).alloc (.cells #[.slice sa xs.length sc, .int .i64 0] 66)) (.slice sa xs.length sc) xs 0 := by
    have hb : Below w.heap.size w ((w.alloc (.cells #[.int .i64 0, .int .i64 0, .int .i64 0, .int .i64 0, .int .i64 0, .int .i64 0] 29)).alloc (.cells #[.slice sa xs.length sc, .int .i64 0] 66)) := (by repeat' (first | with_reducible exact Below.refl _ _ | with_reducible exact Nat.le_refl _ | with_reducible assumption | with_reducible refine Go.below_growBy' ?_ ?_ _ | with_reducible refine Below.alloc ?_ ?_ _ | with_reducible refine Below.setCell ?_ ?_ _ | with_reducible refine Below.drew ?_ | with_reducible refine Go.le_alloc ?_ | with_reducible refine Go.le_growBy ?_ | with_reducible refine Go.le_setCell ?_ | with_reducible refine Go.le_drew ?_ | omega | (dsimp only; omega)))
    exact ⟨(Blk.new w _ _).alloc _, by simpa using Blk.new (w.alloc (.cells #[.int .i64 0, .int .i64 0, .int .i64 0, .int .i64 0, .int .i64 0, .int .i64 0] 29)) #[.slice sa xs.length sc, .int .i64 0] 66, hb, hI.below hb⟩
  clear hI
  go_enter Tryz.func6, Tryz.ntmps6
  go_wp2_with (first | (go_at_call 22; with_reducible refine (MW.call hM (by omega) _ _ (by first | with_reducible exact e0.out | with_reducible exact e1.out | with_reducible exact e2.out | with_reducible exact e3.out | with_reducible exact e4.out | with_reducible exact e5.out) (by omega) (by omega)).mono ?_; rintro e W' ⟨rfl, hM', hg⟩; clear hg hM; have hM := hM'; clear hM'; have fr0 := hM.bR.frozen 0; have fr1 := hM.bR.frozen 1; have fr2 := hM.bR.frozen 2; have fr3 := hM.bR.frozen 3; have fr4 := hM.bR.frozen 4; have fr5 := hM.bR.frozen 5; obtain ⟨z0, z1, z2, z3, z4, z5⟩ := shCells hM.bR) | fail)
  have hr2 := (((((hM.bR.set 0 (.int .i64 (10 * v0 - 40))).set 1 (.int .i64 (10 * v1 - 40))).set 2 (.int .i64 (6 + v2))).set 3 (.int .i64 (20 + v3))).set 4 (.int .i64 (15 + v4))).set 5 (.int .i64 (1 + v5))
  simp at hr2
  have hB0 := hM.below
  have hsz := hB0.size
  exact bodyPost_ret (results_cell_row (by rfl) _ _ w.heap.size 29 #[.int .i64 (10 * v0 - 40), .int .i64 (10 * v1 - 40), .int .i64 (6 + v2), .int .i64 (20 + v3), .int .i64 (15 + v4), .int .i64 (1 + v5)] (0, 0) _ (by rfl) hr2 Tryz.underlying29 (by rfl) (by kernel_rfl)) rfl ⟨rfl, (by repeat' (first | with_reducible exact Below.refl _ _ | with_reducible exact Nat.le_refl _ | with_reducible assumption | with_reducible refine Go.below_growBy' ?_ ?_ _ | with_reducible refine Below.alloc ?_ ?_ _ | with_reducible refine Below.setCell ?_ ?_ _ | with_reducible refine Below.drew ?_ | with_reducible refine Go.le_alloc ?_ | with_reducible refine Go.le_growBy ?_ | with_reducible refine Go.le_setCell ?_ | with_reducible refine Go.le_drew ?_ | omega | (dsimp only; omega)))⟩
end Go.Proofs.YtjfdbigkbgolmaaGreatDoor
namespace Go.Proofs.YtjfdbigkbgolmaaGreatDoor
set_option linter.unusedVariables false
set_option linter.unusedSimpArgs false
open Go.RowKit Go.Shelf
section
variable {H : Type} {enc : TypeId × Value → H} {P : Program} {W : World} {base : Nat} {sp : Nat → Bool} {hd : Bool} {t e : TypeId} {v : Value}

theorem ints_arg (ht : P.underlying t = some (.slice e)) (he : P.underlying e = some (.int .i64)) (hc : P.cellsOf e = 1) (hv : ∀ cs, v ≠ .agg cs)
    (h : ∃ d p, DataW.Trod enc P W base sp hd t v d p) : ∃ xs, Ints W.heap.size W v xs := by
  obtain ⟨d, p, fuel, h⟩ := h
  have hcs : v.cells.toList = [v] := by cases v <;> first | rfl | exact absurd rfl (hv _)
  rw [hcs] at h
  rcases Go.ChangeShapes.open_ints ht he hc h with ⟨h1, -⟩ | ⟨a, len, cap, zs, h1, -, h2, -, h3, -, h4, h5⟩
  · obtain rfl : v = .slice none 0 0 := by simpa using h1
    exact ⟨[], _, _, rfl, fun j hj => by simp at hj⟩
  · obtain rfl : v = .slice (some a) len cap := by simpa using h1
    have hz : len ≤ zs.length := by rw [h3]; split <;> omega
    refine ⟨zs.take len, some a, cap, by rw [List.length_take, Nat.min_eq_left hz], fun j hj => ?_⟩
    have hj' : j < len := by rw [List.length_take] at hj; omega
    obtain ⟨b, off, rfl, h6⟩ := Go.ints_at h4 (by omega)
    have h7 := h6 j (by omega)
    have hg : zs.getD j 0 = zs[j] := by rw [List.getD_eq_getElem?_getD, List.getElem?_eq_getElem (by omega)]; rfl
    rw [List.getElem_take]
    rw [hg] at h7
    exact ⟨b, off, rfl, World.block_lt_of_cell? _ _ h7, lit_fits _ (h5 _ (List.getElem_mem _)), h7⟩
end
end Go.Proofs.YtjfdbigkbgolmaaGreatDoor
