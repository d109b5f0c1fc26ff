/-
  'DotsOf' answers true for every argument.
-/
import Derived.Test.YtjfdbigkbgolmaaDoorO1
import Derived.Test.YtjfdbigkbgolmaaDoorR4
import Derived.Test.YtjfdbigkbgolmaaDoorG4
import Derived.Deep.CutBlock
import Derived.Deep.DeepCutAuto
import Derived.Deep.RegionLaw
import Derived.Deep.DrawnRows
namespace Go.Proofs.YtjfdbigkbgolmaaDoor
open Go.RowKit Go.Shelf
attribute [local go_sem] Oper.semAt_some
attribute [local go_sem ↓] Go.wp_at_zero Go.wp_at_succ

theorem rof_eq {s : Sh} {x y i j : Int} {b : Bool} (h : ofS s x y = (i, j, b)) (w : World) :
    Calls Tryd.prog 12 #[shV s, .agg #[.int .i64 x, .int .i64 y]] w fun e w' => e = .returned (.tuple #[.int .i64 i, .int .i64 j, .bool b]) ∧ Below w.heap.size w w' := by
  have h1 := rof_any s x y w
  rw [h] at h1
  exact h1

theorem blk12 {W : World} {B : Nat} {t : TypeId} (h : Blk W B #[.int .i64 0, .int .i64 0, .int .i64 0, .int .i64 0, .int .i64 0, .int .i64 0, .int .i64 0, .int .i64 0, .int .i64 0, .int .i64 0, .int .i64 0, .int .i64 0] t) :
    W.cell? ⟨B, 0, none⟩ = some (.int .i64 0) ∧ W.cell? ⟨B, 1, none⟩ = some (.int .i64 0) ∧ W.cell? ⟨B, 2, none⟩ = some (.int .i64 0) ∧ W.cell? ⟨B, 3, none⟩ = some (.int .i64 0) ∧ W.cell? ⟨B, 4, none⟩ = some (.int .i64 0) ∧ W.cell? ⟨B, 5, none⟩ = some (.int .i64 0) ∧ W.cell? ⟨B, 6, none⟩ = some (.int .i64 0) ∧ W.cell? ⟨B, 7, none⟩ = some (.int .i64 0) ∧ W.cell? ⟨B, 8, none⟩ = some (.int .i64 0) ∧ W.cell? ⟨B, 9, none⟩ = some (.int .i64 0) ∧ W.cell? ⟨B, 10, none⟩ = some (.int .i64 0) ∧ W.cell? ⟨B, 11, none⟩ = some (.int .i64 0) ∧ W.frozen? ⟨B, 0, none⟩ = false ∧ W.frozen? ⟨B, 1, none⟩ = false ∧ W.frozen? ⟨B, 2, none⟩ = false ∧ W.frozen? ⟨B, 3, none⟩ = false ∧ W.frozen? ⟨B, 4, none⟩ = false ∧ W.frozen? ⟨B, 5, none⟩ = false ∧ W.frozen? ⟨B, 6, none⟩ = false ∧ W.frozen? ⟨B, 7, none⟩ = false ∧ W.frozen? ⟨B, 8, none⟩ = false ∧ W.frozen? ⟨B, 9, none⟩ = false ∧ W.frozen? ⟨B, 10, none⟩ = false ∧ W.frozen? ⟨B, 11, none⟩ = false :=
  ⟨h.cell 0, h.cell 1, h.cell 2, h.cell 3, h.cell 4, h.cell 5, h.cell 6, h.cell 7, h.cell 8, h.cell 9, h.cell 10, h.cell 11, h.frozen 0, h.frozen 1, h.frozen 2, h.frozen 3, h.frozen 4, h.frozen 5, h.frozen 6, h.frozen 7, h.frozen 8, h.frozen 9, h.frozen 10, h.frozen 11⟩
/-- two sheets, two points, by their index -/
def two {α : Type} (a b : α) (k : Nat) : α := if k = 0 then a else b
theorem two_cells (s r : Sh) {W : World} {B : Nat} {t : TypeId} (h : Blk W B #[.int .i64 s.ax, .int .i64 s.ay, .int .i64 s.st, .int .i64 s.w, .int .i64 s.h, .int .i64 s.g, .int .i64 r.ax, .int .i64 r.ay, .int .i64 r.st, .int .i64 r.w, .int .i64 r.h, .int .i64 r.g] t) (k : Nat) (hk : k < 2) :
    W.cell? ⟨B, k * 6, none⟩ = some (.int .i64 (two s r k).ax) ∧ W.cell? ⟨B, k * 6 + 1, none⟩ = some (.int .i64 (two s r k).ay) ∧ W.cell? ⟨B, k * 6 + 2, none⟩ = some (.int .i64 (two s r k).st) ∧ W.cell? ⟨B, k * 6 + 3, none⟩ = some (.int .i64 (two s r k).w) ∧ W.cell? ⟨B, k * 6 + 4, none⟩ = some (.int .i64 (two s r k).h) ∧ W.cell? ⟨B, k * 6 + 5, none⟩ = some (.int .i64 (two s r k).g) := by
  match k, hk with
  | 0, _ => exact ⟨h.cell 0, h.cell 1, h.cell 2, h.cell 3, h.cell 4, h.cell 5⟩
  | 1, _ => exact ⟨h.cell 6, h.cell 7, h.cell 8, h.cell 9, h.cell 10, h.cell 11⟩
theorem two_points (p q : Spot) {W : World} {B : Nat} {t : TypeId} (h : Blk W B #[.int .i64 p.1, .int .i64 p.2, .int .i64 q.1, .int .i64 q.2] t) (k : Nat) (hk : k < 2) :
    W.cell? ⟨B, k * 2, none⟩ = some (.int .i64 (two p q k).1) ∧ W.cell? ⟨B, k * 2 + 1, none⟩ = some (.int .i64 (two p q k).2) := by
  match k, hk with
  | 0, _ => exact ⟨h.cell 0, h.cell 1⟩
  | 1, _ => exact ⟨h.cell 2, h.cell 3⟩
theorem two_fits (s r : Sh) (hs : fits s.ax ∧ fits s.ay) (hr : fits r.ax ∧ fits r.ay) (k : Nat) : fits (two s r k).ax ∧ fits (two s r k).ay := by
  unfold two
  split
  · exact hs
  · exact hr

set_option maxRecDepth 100000 in
set_option maxHeartbeats 4000000 in
theorem of_law (sv : Value) (xs : List Int) (r : Sh) (px py : Int) (w : World) (hI : Ints w.heap.size w sv xs) (hr : fits r.ax ∧ fits r.ay) (f0 : fits px) (f1 : fits py) :
    Calls Tryd.prog 3 #[sv, shV r, .agg #[.int .i64 px, .int .i64 py]] w fun e w' => e = .returned (.bool true) ∧ Below w.heap.size w w' := by
  have hm := madeF_made xs
  have hs : fits (madeF xs).ax ∧ fits (madeF xs).ay := by
    obtain ⟨x0, x1, y0, y1, -⟩ := hm
    exact ⟨⟨by omega, by omega⟩, by omega, by omega⟩
  have hmade := fun W (h : Ints W.heap.size W sv xs) => made_any sv xs W h
  obtain ⟨s, hse⟩ : ∃ s, madeF xs = s := ⟨_, rfl⟩
  rw [hse] at hs hmade
  clear hm hse
  obtain ⟨ax, ay, st, sw, sh, sg⟩ := s
  obtain ⟨rx, ry, rt, rw, rh, rg⟩ := r
  go_enter Tryd.func3, Tryd.ntmps3
  have kr := (Blk.new w #[.int .i64 rx, .int .i64 ry, .int .i64 rt, .int .i64 rw, .int .i64 rh, .int .i64 rg] 26).alloc (.cells #[.int .i64 px, .int .i64 py] 24)
  have kp := Blk.new (w.alloc (.cells #[.int .i64 rx, .int .i64 ry, .int .i64 rt, .int .i64 rw, .int .i64 rh, .int .i64 rg] 26)) #[.int .i64 px, .int .i64 py] 24
  rw [World.size_alloc] at kp
  go_upto_region 2 with (first | (go_at_call 7; refine (sanity_any _).mono ?_; rintro e w1 ⟨rfl, hb1⟩) | fail)
  replace kr := kr.below hb1 kr.lt
  replace kp := kp.below hb1 kp.lt
  have hB1 : Below w.heap.size w w1 := Below.trans (b := (w.alloc (.cells #[.int .i64 rx, .int .i64 ry, .int .i64 rt, .int .i64 rw, .int .i64 rh, .int .i64 rg] 26)).alloc (.cells #[.int .i64 px, .int .i64 py] 24)) (by repeat' (first | with_reducible exact Below.refl _ _ | with_reducible exact Nat.le_refl _ | with_reducible assumption | with_reducible refine Go.below_growBy' ?_ ?_ _ | with_reducible refine Below.alloc ?_ ?_ _ | with_reducible refine Below.setCell ?_ ?_ _ | with_reducible refine Below.drew ?_ | with_reducible refine Go.le_alloc ?_ | with_reducible refine Go.le_growBy ?_ | with_reducible refine Go.le_setCell ?_ | with_reducible refine Go.le_drew ?_ | omega | (dsimp only; omega))) (hb1.mono (by simp; omega))
  clear hb1
  have lr := kr.lt
  have hs1 := hB1.size
  obtain ⟨c0, c1, c2, c3, c4, c5⟩ := shCells kr
  go_cut [8] (fun v wx => ∃ B8, v = .pointer (some ⟨B8, 0, none⟩) ∧ w.heap.size ≤ B8 ∧ Blk wx B8 #[.int .i64 ax, .int .i64 ay, .int .i64 st, .int .i64 sw, .int .i64 sh, .int .i64 sg, .int .i64 rx, .int .i64 ry, .int .i64 rt, .int .i64 rw, .int .i64 rh, .int .i64 rg] 29 ∧ Below w1.heap.size w1 wx)
  case first =>
    go_region_law
      (first
        | (go_simp; go_at_call 8; with_reducible refine (hmade _ ?_).mono ?_; exact hI.up (by repeat' (first | with_reducible exact Below.refl _ _ | with_reducible exact Nat.le_refl _ | with_reducible assumption | with_reducible refine Go.below_growBy' ?_ ?_ _ | with_reducible refine Below.alloc ?_ ?_ _ | with_reducible refine Below.setCell ?_ ?_ _ | with_reducible refine Below.drew ?_ | with_reducible refine Go.le_alloc ?_ | with_reducible refine Go.le_growBy ?_ | with_reducible refine Go.le_setCell ?_ | with_reducible refine Go.le_drew ?_ | omega | (dsimp only; omega))) (by repeat' (first | with_reducible exact Below.refl _ _ | with_reducible exact Nat.le_refl _ | with_reducible assumption | with_reducible refine Go.below_growBy' ?_ ?_ _ | with_reducible refine Below.alloc ?_ ?_ _ | with_reducible refine Below.setCell ?_ ?_ _ | with_reducible refine Below.drew ?_ | with_reducible refine Go.le_alloc ?_ | with_reducible refine Go.le_growBy ?_ | with_reducible refine Go.le_setCell ?_ | with_reducible refine Go.le_drew ?_ | omega | (dsimp only; omega))); rintro e w2 ⟨rfl, hb2⟩; have hb12 : Below w1.heap.size w1 w2 := Below.trans (by repeat' (first | with_reducible exact Below.refl _ _ | with_reducible exact Nat.le_refl _ | with_reducible assumption | with_reducible refine Go.below_growBy' ?_ ?_ _ | with_reducible refine Below.alloc ?_ ?_ _ | with_reducible refine Below.setCell ?_ ?_ _ | with_reducible refine Below.drew ?_ | with_reducible refine Go.le_alloc ?_ | with_reducible refine Go.le_growBy ?_ | with_reducible refine Go.le_setCell ?_ | with_reducible refine Go.le_drew ?_ | omega | (dsimp only; omega))) (hb2.mono (by repeat' (first | with_reducible exact Below.refl _ _ | with_reducible exact Nat.le_refl _ | with_reducible assumption | with_reducible refine Go.below_growBy' ?_ ?_ _ | with_reducible refine Below.alloc ?_ ?_ _ | with_reducible refine Below.setCell ?_ ?_ _ | with_reducible refine Below.drew ?_ | with_reducible refine Go.le_alloc ?_ | with_reducible refine Go.le_growBy ?_ | with_reducible refine Go.le_setCell ?_ | with_reducible refine Go.le_drew ?_ | omega | (dsimp only; omega)))); obtain ⟨d0, d1, d2, d3, d4, d5⟩ := shCells (kr.below hb12 lr); (try (have kz := (Blk.new w1 #[.int .i64 0, .int .i64 0, .int .i64 0, .int .i64 0, .int .i64 0, .int .i64 0, .int .i64 0, .int .i64 0, .int .i64 0, .int .i64 0, .int .i64 0, .int .i64 0] 29).drew.below hb2 (by simp); obtain ⟨z0, z1, z2, z3, z4, z5, z6, z7, z8, z9, z10, z11, y0, y1, y2, y3, y4, y5, y6, y7, y8, y9, y10, y11⟩ := blk12 kz)))
        | fail)
    all_goals
      go_wp2_with fail
      go_meet
      have hs12 := hb12.size
      refine ⟨_, rfl, by omega, ?_, (by repeat' (first | with_reducible exact Below.refl _ _ | with_reducible exact Nat.le_refl _ | with_reducible assumption | with_reducible refine Go.below_growBy' ?_ ?_ _ | with_reducible refine Below.alloc ?_ ?_ _ | with_reducible refine Below.setCell ?_ ?_ _ | with_reducible refine Below.drew ?_ | with_reducible refine Go.le_alloc ?_ | with_reducible refine Go.le_growBy ?_ | with_reducible refine Go.le_setCell ?_ | with_reducible refine Go.le_drew ?_ | omega | (dsimp only; omega)))⟩
      first
        | with_reducible exact Blk.new w2 _ _
        | (have k9 := ((((((((((((kz.set 0 (.int .i64 ax)).set 1 (.int .i64 ay)).set 2 (.int .i64 st)).set 3 (.int .i64 sw)).set 4 (.int .i64 sh)).set 5 (.int .i64 sg)).set 6 (.int .i64 rx)).set 7 (.int .i64 ry)).set 8 (.int .i64 rt)).set 9 (.int .i64 rw)).set 10 (.int .i64 rh)).set 11 (.int .i64 rg)); simpa using k9)
  case rest =>
    obtain ⟨B8, rfl, hB8, k8, hB12⟩ := hcut
    replace kp := kp.below hB12 kp.lt
    have hBc := hB1.trans (hB12.mono hs1)
    have p0 : wc.cell? ⟨w.heap.size + 1, 0, none⟩ = some (.int .i64 px) := kp.cell 0
    have p1 : wc.cell? ⟨w.heap.size + 1, 1, none⟩ = some (.int .i64 py) := kp.cell 1
    clear hB12 kr hB1 c0 c1 c2 c3 c4 c5 lr hs1 hmade hI
    have hsc := hBc.size
    go_wp2_with fail
    have k9 := Blk.new wc #[.int .i64 px, .int .i64 py, .int .i64 (px.tmod 500), .int .i64 (py.tmod 500)] 30
    have k8' := k8.alloc (.cells #[.int .i64 px, .int .i64 py, .int .i64 (px.tmod 500), .int .i64 (py.tmod 500)] 30)
    have hB0 : Below w.heap.size w (wc.alloc (.cells #[.int .i64 px, .int .i64 py, .int .i64 (px.tmod 500), .int .i64 (py.tmod 500)] 30)) := hBc.alloc hsc _
    obtain ⟨W0, hW0⟩ : ∃ W, wc.alloc (.cells #[.int .i64 px, .int .i64 py, .int .i64 (px.tmod 500), .int .i64 (py.tmod 500)] 30) = W := ⟨_, rfl⟩
    rw [hW0] at k9 k8' hB0 ⊢
    clear hW0 p0 p1 kp k8 hBc
    have l8 := k8'.lt
    have l9 := k9.lt
    have hs0 := hB0.size
    generalize wc.heap.size = B9 at *
    clear hsc
    go_loopw [10] (fun i wr => ∃ k : Nat, k ≤ 2 ∧ i = .int .i64 k ∧ Below W0.heap.size W0 wr) (fun i _ => 2 - (intOf i).toNat)
    case atStart => exact ⟨0, Nat.zero_le _, rfl, Below.refl _ _⟩
    case round =>
      obtain ⟨k, hk, rfl, hB⟩ := hrel
      have hsz := hB.size
      by_cases hlt : k < 2
      · have hltI : (k : Int) < 2 := by omega
        have hcs := two_cells ⟨ax, ay, st, sw, sh, sg⟩ ⟨rx, ry, rt, rw, rh, rg⟩ k8' k hlt
        have hft := two_fits ⟨ax, ay, st, sw, sh, sg⟩ ⟨rx, ry, rt, rw, rh, rg⟩ hs hr k
        obtain ⟨S, hS⟩ : ∃ S, two (⟨ax, ay, st, sw, sh, sg⟩ : Sh) ⟨rx, ry, rt, rw, rh, rg⟩ k = S := ⟨_, rfl⟩
        rw [hS] at hcs hft
        replace hS := Lib.hid hS
        obtain ⟨fx, fy⟩ := hft
        obtain ⟨c, hc⟩ : ∃ c, checkS S = c := ⟨_, rfl⟩
        replace hc := Lib.hid hc
        obtain ⟨sx, sy, st', sw', sh', sg'⟩ := S
        simp only at hcs fx fy
        obtain ⟨c0, c1, c2, c3, c4, c5⟩ := hcs
        replace c0 := (hB.cell (p := ⟨B8, k * 6, none⟩) l8).trans c0
        replace c1 := (hB.cell (p := ⟨B8, k * 6 + 1, none⟩) l8).trans c1
        replace c2 := (hB.cell (p := ⟨B8, k * 6 + 2, none⟩) l8).trans c2
        replace c3 := (hB.cell (p := ⟨B8, k * 6 + 3, none⟩) l8).trans c3
        replace c4 := (hB.cell (p := ⟨B8, k * 6 + 4, none⟩) l8).trans c4
        replace c5 := (hB.cell (p := ⟨B8, k * 6 + 5, none⟩) l8).trans c5
        go_wp2_with fail
        first | with_reducible refine wp_region_grow2 (by kernel_rfl) (by kernel_rfl) ?_ | with_reducible refine wp_region_grow (by kernel_rfl) (by kernel_rfl) ?_
        repeat (first | go_big_quiet_step (first | (go_at_call 9; exact Calls.grow_of (check_eq hc.out _ fx fy)) | (go_at_call 10; exact Calls.grow_of (rcheck_eq hc.out _))) | quiet_step (first | (go_at_call 9; exact Calls.grow_of (check_eq hc.out _ fx fy)) | (go_at_call 10; exact Calls.grow_of (rcheck_eq hc.out _))))
        refine wpQuiet_nil ?_
        intro _ hw_
        obtain ⟨p, hw_⟩ := hw_
        subst hw_
        go_wp2_with fail
        have hB2 : Below W0.heap.size W0 (wr.growBy p) := below_growBy' hB hsz p
        obtain ⟨Wa, hWa⟩ : ∃ W, wr.growBy p = W := ⟨_, rfl⟩
        rw [hWa] at hB2 ⊢
        clear hWa hB c0 c1 c2 c3 c4 c5
        go_loopw [11] (fun i wr => ∃ j : Nat, j ≤ 2 ∧ i = .int .i64 j ∧ Below W0.heap.size W0 wr) (fun i _ => 2 - (intOf i).toNat)
        case atStart => exact ⟨0, Nat.zero_le _, rfl, hB2⟩
        case round =>
          rename_i wrOld _
          obtain ⟨j, hj, rfl, hB3⟩ := hrel
          have hsz3 := hB3.size
          by_cases hlt2 : j < 2
          · have hltI2 : (j : Int) < 2 := by omega
            have hcs := two_cells ⟨ax, ay, st, sw, sh, sg⟩ ⟨rx, ry, rt, rw, rh, rg⟩ k8' k hlt
            rw [hS.out] at hcs
            obtain ⟨c0, c1, c2, c3, c4, c5⟩ := hcs
            obtain ⟨e0, e1⟩ := two_points (px, py) (px.tmod 500, py.tmod 500) k9 j hlt2
            obtain ⟨⟨qx, qy⟩, hq⟩ : ∃ q, two (px, py) (px.tmod 500, py.tmod 500) j = q := ⟨_, rfl⟩
            rw [hq] at e0 e1
            simp only at e0 e1 c0 c1 c2 c3 c4 c5
            clear hq
            obtain ⟨o1, o2, o3, ho⟩ : ∃ a b c, ofS ⟨sx, sy, st', sw', sh', sg'⟩ qx qy = (a, b, c) := ⟨_, _, _, rfl⟩
            replace ho := Lib.hid ho
            replace c0 := (hB3.cell (p := ⟨B8, k * 6, none⟩) l8).trans c0
            replace c1 := (hB3.cell (p := ⟨B8, k * 6 + 1, none⟩) l8).trans c1
            replace c2 := (hB3.cell (p := ⟨B8, k * 6 + 2, none⟩) l8).trans c2
            replace c3 := (hB3.cell (p := ⟨B8, k * 6 + 3, none⟩) l8).trans c3
            replace c4 := (hB3.cell (p := ⟨B8, k * 6 + 4, none⟩) l8).trans c4
            replace c5 := (hB3.cell (p := ⟨B8, k * 6 + 5, none⟩) l8).trans c5
            replace e0 := (hB3.cell (p := ⟨B9, j * 2, none⟩) l9).trans e0
            replace e1 := (hB3.cell (p := ⟨B9, j * 2 + 1, none⟩) l9).trans e1
            go_wp2_with fail
            first | with_reducible refine wp_region_grow2 (by kernel_rfl) (by kernel_rfl) ?_ | with_reducible refine wp_region_grow (by kernel_rfl) (by kernel_rfl) ?_
            repeat (first | go_big_quiet_step ((go_at_call 11; exact Calls.grow_of (of_eq ho.out _ fx fy))) | quiet_step ((go_at_call 11; exact Calls.grow_of (of_eq ho.out _ fx fy))))
            refine wpQuiet_nil ?_
            intro _ hw_
            obtain ⟨p, hw_⟩ := hw_
            subst hw_
            go_wp2_with fail
            first | with_reducible refine wp_region_grow2 (by kernel_rfl) (by kernel_rfl) ?_ | with_reducible refine wp_region_grow (by kernel_rfl) (by kernel_rfl) ?_
            repeat (first | go_big_quiet_step ((go_at_call 12; exact Calls.grow_of (rof_eq ho.out _))) | quiet_step ((go_at_call 12; exact Calls.grow_of (rof_eq ho.out _))))
            refine wpQuiet_nil ?_
            intro _ hw_
            obtain ⟨p, hw_⟩ := hw_
            subst hw_
            go_wp2_with fail
            go_roundw
            case rel => exact ⟨j + 1, by omega, by go_num, (by repeat' (first | with_reducible exact Below.refl _ _ | with_reducible exact Nat.le_refl _ | with_reducible assumption | with_reducible refine Go.below_growBy' ?_ ?_ _ | with_reducible refine Below.alloc ?_ ?_ _ | with_reducible refine Below.setCell ?_ ?_ _ | with_reducible refine Below.drew ?_ | with_reducible refine Go.le_alloc ?_ | with_reducible refine Go.le_growBy ?_ | with_reducible refine Go.le_setCell ?_ | with_reducible refine Go.le_drew ?_ | omega | (dsimp only; omega)))⟩
            case measure => simp [intOf]; omega
          · obtain rfl : j = 2 := by omega
            have hge2 : ¬ ((2 : Nat) : Int) < 2 := by omega
            go_wp2_with fail
            go_roundw
            case rel => exact ⟨k + 1, by omega, by go_num, hB3⟩
            case measure => simp [intOf]; omega
      · obtain rfl : k = 2 := by omega
        have hge : ¬ ((2 : Nat) : Int) < 2 := by omega
        go_wp2_with fail
        go_ret
        exact ⟨rfl, hB0.trans (hB.mono hs0)⟩
end Go.Proofs.YtjfdbigkbgolmaaDoor
