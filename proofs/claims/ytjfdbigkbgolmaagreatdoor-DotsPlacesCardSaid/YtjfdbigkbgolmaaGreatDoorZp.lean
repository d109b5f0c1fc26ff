/-
  Chapter 29: the examples of the chapter: what they come to.
  Chapter 29: sanity: the examples of the chapter hold.
-/
import Derived.Test.YtjfdbigkbgolmaaGreatDoorZo
import Derived.Test.YtjfdbigkbgolmaaGreatDoorZe

namespace Go.Proofs.YtjfdbigkbgolmaaGreatDoor
set_option linter.unusedVariables false
set_option linter.unusedSimpArgs false
open Go.RowKit Go.Shelf Go.Maps
attribute [local go_sem] Oper.semAt_some

/-- the dots of the cells 60, 1, 3 -/
def brD (k n : Nat) : Bool :=
  match k with
  | 0 => decide (2 ≤ n)
  | 1 => decide (n = 0)
  | _ => decide (n ≤ 1)
def exS : Sh := ⟨0, 0, 10, 40, 30, 2⟩
def park : ByteArray := ⟨#[112, 97, 114, 107]⟩

theorem ex_of1 : ofS exS 25 99 = (2, 9, true) := by decide +kernel
theorem ex_of2 : ofS exS (-1) 5 = (0, 0, false) := by decide +kernel
theorem ex_of3 : ofS exS 400 5 = (0, 0, false) := by decide +kernel
theorem ex_of4 : ofS exS 5 50 = (0, 5, true) := by decide +kernel
theorem ex_of5 : ofS exS 50 50 = (5, 5, true) := by decide +kernel
theorem ex_check : checkS exS = 0 := by decide +kernel
theorem ex_off : ∃ p ∈ (placeE 0 5 3 (symB 3) brD 2).map (·.1), onS exS p.1 p.2 = false := by decide +kernel
theorem ex_on : ∀ p ∈ (placeE 5 5 3 (symB 3) brD 2).map (·.1), onS exS p.1 p.2 = true := by decide +kernel
theorem ex_ne : placeE 5 5 3 (symB 3) brD 2 ≠ [] := by decide +kernel
theorem ex_ne0 : placeE 0 5 3 (symB 3) brD 2 ≠ [] := by decide +kernel
theorem ex_sum : (sumB park.data.toList).tmod 7 = (3 : Nat) := by decide +kernel
theorem ex_len : (placeE 5 5 3 (symB 3) brD 2).length = 14 := by decide +kernel
theorem keysS_is {en : List (Spot × Int)} (d : List Spot) (hn : (en.map (·.1)).Nodup) (hd : d.Nodup) (h1 : ∀ p ∈ d, p ∈ en.map (·.1)) (h2 : ∀ p ∈ en.map (·.1), p ∈ d) (hs : d.Pairwise (fun a b => leS a b = true)) : keysS en = d :=
  (keysS_uniq (keysS_perm hn hd fun p => ⟨h1 p, h2 p⟩) hs).symm
theorem ex_keys : keysS (placeE 5 5 3 (symB 3) brD 2) = [(4, 4), (5, 4), (6, 4), (8, 4), (9, 4), (4, 5), (5, 5), (6, 5), (9, 5), (4, 6), (5, 6), (6, 6), (9, 6), (11, 6)] :=
  keysS_is _ (by decide +kernel) (by decide +kernel) (by decide +kernel) (by decide +kernel) (by decide +kernel)
theorem ex_dots : ∃ l, dotsS 3 (placeE 5 5 3 (symB 3) brD 2) = ⟨4, 4, 3, 3⟩ :: l := by
  unfold dotsS
  rw [ex_keys]
  exact ⟨_, by rw [List.map_cons]; congr 1⟩
theorem ex_fits : ∀ d ∈ dotsS 3 (placeE 5 5 3 (symB 3) brD 2), fits d.x ∧ fits d.y := by
  unfold dotsS
  rw [ex_keys]
  simp [fits]
theorem ex_way : dotsS 2 (wayE exS 7 (5, 5) (45, 25)) = [⟨0, 0, 2, 7⟩, ⟨1, 1, 2, 7⟩, ⟨2, 1, 2, 7⟩, ⟨3, 2, 2, 7⟩, ⟨4, 2, 2, 7⟩] := by
  unfold dotsS
  rw [keysS_is [(0, 0), (1, 1), (2, 1), (3, 2), (4, 2)] (by decide +kernel) (by decide +kernel) (by decide +kernel) (by decide +kernel) (by decide +kernel)]
  decide +kernel
theorem ex_wne : wayE exS 7 (5, 5) (45, 25) ≠ [] := by decide +kernel
theorem ex_least : leastF [⟨0, 0, 0, 0⟩] [⟨3, 1, 0, 0⟩] = 3 := by decide +kernel

def cells2 : ByteArray := ⟨#[60, 1]⟩
theorem dots2 : ∀ k (h : k < cells2.size) W, Calls Tryz.prog 32 #[.int .u8 (cells2[k]).toNat] W fun e W' => e = .returned (.agg #[.bool (brD k 0), .bool (brD k 1), .bool (brD k 2), .bool (brD k 3), .bool (brD k 4), .bool (brD k 5)]) ∧ Below W.heap.size W W' := by
  intro k h W
  have h2 : k < 2 := h
  rcases (show k = 0 ∨ k = 1 from by omega) with rfl | rfl
  · exact bdots60 W
  · exact bdots1 W
theorem itoa1 : ∀ W, Calls Tryz.prog 31 #[.int .i64 1] W fun e W' => e = .returned (.string one) ∧ Below W.heap.size W W' := by
  intro W
  refine (Tryz.strconv_Itoa_small 1 (by omega) W).mono ?_
  rintro e W' ⟨rfl, rfl⟩
  refine ⟨?_, Below.refl _ _⟩
  rw [Lib.decDigits]
  rfl

theorem lawof_any (s : Sh) (x y i j : Int) (b : Bool) (h : ofS s x y = (i, j, b)) (w : World) (f0 : fits s.ax) (f1 : fits s.ay) :
    Calls Tryz.prog 20 #[shV s, .int .i64 x, .int .i64 y, .int .i64 i, .int .i64 j, .bool b] w fun e w' => e = .returned (.bool true) ∧ Below w.heap.size w w' := by
  obtain ⟨ax, ay, st, sw, sh, sg⟩ := s
  replace h := Lib.hid h
  cases b <;>
  · go_enter Tryz.func20, Tryz.ntmps20
    go_wp2_with (first | (go_at_call 27; refine (of_eq h.out _ f0 f1).mono ?_; rintro e w' ⟨rfl, hb_⟩; obtain ⟨p, rfl⟩ := grow_of_below hb_; clear hb_) | fail)
    go_ret
    exact ⟨rfl, (by repeat' (first | with_reducible exact Below.refl _ _ | with_reducible exact Nat.le_refl _ | with_reducible assumption | with_reducible refine Go.below_growBy' ?_ ?_ _ | with_reducible refine Below.alloc ?_ ?_ _ | with_reducible refine Below.setCell ?_ ?_ _ | with_reducible refine Below.drew ?_ | with_reducible refine Go.le_alloc ?_ | with_reducible refine Go.le_growBy ?_ | with_reducible refine Go.le_setCell ?_ | with_reducible refine Go.le_drew ?_ | omega | (dsimp only; omega)))⟩

set_option maxRecDepth 100000 in
theorem example_any (w : World) : Calls Tryz.prog 18 #[] w fun e w' => e = .returned (shV exS) ∧ Below w.heap.size w w' := by
  go_enter Tryz.func18, Tryz.ntmps18
  go_wp2_with (first | (refine wpList_build_as (by rfl) 29 _ (by rfl) (shC exS) (by kernel_rfl) ?_) | fail)
  have hi : (Tryz.prog.info? 29).map (·.size) = some (shC exS).size := by kernel_rfl
  exact bodyPost_ret (results_cell_row (by rfl) _ _ w.heap.size 29 (shC exS) (0, 0) _ (by rfl) (heap_alloc_last w _) Tryz.underlying29 (by rfl) hi) rfl ⟨rfl, (by repeat' (first | with_reducible exact Below.refl _ _ | with_reducible exact Nat.le_refl _ | with_reducible assumption | with_reducible refine Go.below_growBy' ?_ ?_ _ | with_reducible refine Below.alloc ?_ ?_ _ | with_reducible refine Below.setCell ?_ ?_ _ | with_reducible refine Below.drew ?_ | with_reducible refine Go.le_alloc ?_ | with_reducible refine Go.le_growBy ?_ | with_reducible refine Go.le_setCell ?_ | with_reducible refine Go.le_drew ?_ | omega | (dsimp only; omega)))⟩

/-- the first place of the examples: too near to the edge -/
theorem ex_place1 (w : World) : Calls Tryz.prog 8 #[shV exS, .agg (plC 3 5 50 0 0 park ⟨#[]⟩), .int .i64 1] w fun e w' => e = .returned (.tuple #[.slice none 0 0, .bool false]) ∧ Below w.heap.size w w' := by
  refine (place_yes exS 3 5 50 0 0 1 0 5 park ⟨#[]⟩ one cells2 brD 3 w (by decide) (by decide) ex_of4 (by decide) (by omega) (by omega) (by decide) (by omega) ex_sum (by decide) (fun X _ => itoa1 X) write_one dots2 ex_ne0).mono ?_
  rintro e w' ⟨hb, ⟨h, _⟩ | ⟨_, he⟩⟩
  · obtain ⟨p, hp, h2⟩ := ex_off
    rw [h p hp] at h2
    cases h2
  · exact ⟨he, hb⟩
/-- the second one -/
theorem ex_place2 (w : World) : Calls Tryz.prog 8 #[shV exS, .agg (plC 3 50 50 0 0 park ⟨#[]⟩), .int .i64 1] w fun e w' => ∃ v, e = .returned (.tuple #[v, .bool true]) ∧ Dts w'.heap.size w' v (dotsS 3 (placeE 5 5 3 (symB 3) brD 2)) ∧ Below w.heap.size w w' := by
  refine (place_yes exS 3 50 50 0 0 1 5 5 park ⟨#[]⟩ one cells2 brD 3 w (by decide) (by decide) ex_of5 (by decide) (by omega) (by omega) (by decide) (by omega) ex_sum (by decide) (fun X _ => itoa1 X) write_one dots2 ex_ne).mono ?_
  rintro e w' ⟨hb, ⟨_, v, base, he, _, hr⟩ | ⟨⟨p, hp, h⟩, _⟩⟩
  · exact ⟨v, he, dts_of_row hr (by rw [dotsS_length]; exact Nat.le_trans (Nat.le_of_eq ex_len) (by omega)) ex_fits, hb⟩
  · rw [ex_on p hp] at h
    cases h
end Go.Proofs.YtjfdbigkbgolmaaGreatDoor
namespace Go.Proofs.YtjfdbigkbgolmaaGreatDoor
set_option linter.unusedVariables false
set_option linter.unusedSimpArgs false
open Go.RowKit Go.Shelf Go.Maps
attribute [local go_sem] Oper.semAt_some

abbrev exV : Value := .agg #[.int .i64 0, .int .i64 0, .int .i64 10, .int .i64 40, .int .i64 30, .int .i64 2]
theorem ex_any (w : World) : Calls Tryz.prog 18 #[] w fun e w' => e = .returned exV ∧ Below w.heap.size w w' := example_any w
theorem ex_chk (w : World) : Calls Tryz.prog 19 #[exV] w fun e w' => e = .returned (.int .i64 0) ∧ Below w.heap.size w w' := check_eq (s := exS) ex_check w (by decide) (by decide)
theorem ex_l1 (w : World) : Calls Tryz.prog 20 #[exV, .int .i64 25, .int .i64 99, .int .i64 2, .int .i64 9, .bool true] w fun e w' => e = .returned (.bool true) ∧ Below w.heap.size w w' := lawof_any exS 25 99 2 9 true ex_of1 w (by decide) (by decide)
theorem ex_l2 (w : World) : Calls Tryz.prog 20 #[exV, .int .i64 (-1), .int .i64 5, .int .i64 0, .int .i64 0, .bool false] w fun e w' => e = .returned (.bool true) ∧ Below w.heap.size w w' := lawof_any exS (-1) 5 0 0 false ex_of2 w (by decide) (by decide)
theorem ex_l3 (w : World) : Calls Tryz.prog 20 #[exV, .int .i64 400, .int .i64 5, .int .i64 0, .int .i64 0, .bool false] w fun e w' => e = .returned (.bool true) ∧ Below w.heap.size w w' := lawof_any exS 400 5 0 0 false ex_of3 w (by decide) (by decide)
theorem ex_p1 (w : World) : Calls Tryz.prog 8 #[exV, .agg #[.int .i64 3, .int .i64 5, .int .i64 50, .string ⟨#[112, 97, 114, 107]⟩, .string ⟨#[]⟩, .int .i64 0, .int .i64 0], .int .i64 1] w fun e w' => e = .returned (.tuple #[.slice none 0 0, .bool false]) ∧ Below w.heap.size w w' := ex_place1 w
theorem ex_p2 (w : World) : Calls Tryz.prog 8 #[exV, .agg #[.int .i64 3, .int .i64 50, .int .i64 50, .string ⟨#[112, 97, 114, 107]⟩, .string ⟨#[]⟩, .int .i64 0, .int .i64 0], .int .i64 1] w fun e w' => ∃ v, e = .returned (.tuple #[v, .bool true]) ∧ Dts w'.heap.size w' v (dotsS 3 (placeE 5 5 3 (symB 3) brD 2)) ∧ Below w.heap.size w w' := ex_place2 w

/-- the dots wanted -/
def wantL : List Dt := [⟨0, 0, 2, 7⟩, ⟨1, 1, 2, 7⟩, ⟨2, 1, 2, 7⟩, ⟨3, 2, 2, 7⟩, ⟨4, 2, 2, 7⟩]

theorem wantL_xs (k : Nat) (h : k < 5) : ∃ x y : Int, wantL[k]? = some ⟨x, y, 2, 7⟩ ∧ (#[.int .i64 0, .int .i64 1, .int .i64 2, .int .i64 3, .int .i64 4] : Array Value)[k]? = some (.int .i64 x) ∧ (#[.int .i64 0, .int .i64 1, .int .i64 1, .int .i64 2, .int .i64 2] : Array Value)[k]? = some (.int .i64 y) := by
  rcases (show k = 0 ∨ k = 1 ∨ k = 2 ∨ k = 3 ∨ k = 4 from by omega) with rfl | rfl | rfl | rfl | rfl
  · exact ⟨_, _, rfl, rfl, rfl⟩
  · exact ⟨_, _, rfl, rfl, rfl⟩
  · exact ⟨_, _, rfl, rfl, rfl⟩
  · exact ⟨_, _, rfl, rfl, rfl⟩
  · exact ⟨_, _, rfl, rfl, rfl⟩
theorem wantL_take (k : Nat) {x y : Int} (h : wantL[k]? = some ⟨x, y, 2, 7⟩) : (wantL.take (k + 1)).flatMap encD = (wantL.take k).flatMap encD ++ encD ⟨x, y, 2, 7⟩ := by
  rw [List.take_add_one, h]
  simp [List.flatMap_append]

theorem Dts.up {n : Nat} {A B : World} {sv : Value} {l : List Dt} (h : Dts n A sv l) (hb : Below n A B) (hn : n ≤ B.heap.size) : Dts B.heap.size B sv l := (h.below hb).mono hn

set_option maxRecDepth 100000 in
theorem eqlDot (dx dy dk di ex ey ek ei : Int) (w : World) : (binOp .eql 59 (.agg #[.int .i64 dx, .int .i64 dy, .int .i64 dk, .int .i64 di]) (.agg #[.int .i64 ex, .int .i64 ey, .int .i64 ek, .int .i64 ei])).run Tryz.prog w = .ok (.bool (decide ((⟨dx, dy, dk, di⟩ : Dt) = ⟨ex, ey, ek, ei⟩))) w := by
  have u3 := Tryz.underlying3
  have a3 := Tryz.isAgg3
  have z3 := Tryz.sizeOf3
  have hS : Tryz.prog.underlying 59 = some (.struct (Tryz.prog.fieldsOf 59)) := by kernel_rfl
  have hp : Tryz.prog.stoodInHeld 59 = false := by kernel_rfl
  rw [run_eql_struct, show (10000 : Nat) = 9999 + 1 from rfl, run_equalIn_agg w 9999 59 _ _ hS hp]
  simp only [Program.fieldsOf, Tryz.underlying59]
  go_simp
  by_cases h1 : dx = ex <;> by_cases h2 : dy = ey <;> by_cases h3 : dk = ek <;> by_cases h4 : di = ei <;> simp [h1, h2, h3, h4]
theorem eqlDot_first (w : World) : (binOp .eql 59 (.agg #[.int .i64 4, .int .i64 4, .int .i64 3, .int .i64 3]) (.agg #[.int .i64 4, .int .i64 4, .int .i64 3, .int .i64 3])).run Tryz.prog w = .ok (.bool true) w := by
  rw [eqlDot]
  rfl

/-- the dots of a row of one, laid by the call -/
theorem dts_one {W : World} {B : Nat} {x y k i : Int} (h : Blk W B #[.int .i64 x, .int .i64 y, .int .i64 k, .int .i64 i] 59) (c : Nat) (hx : fits x) (hy : fits y) : Dts W.heap.size W (.slice (some ⟨B, 0, none⟩) 1 c) [⟨x, y, k, i⟩] := by
  refine .inr ⟨B, 0, c, rfl, h.lt, by simp, by simp [hx, hy], fun j hj => ?_⟩
  obtain rfl : j = 0 := by simpa using hj
  exact ⟨h.cell 0, h.cell 1, h.cell 2, h.cell 3⟩
theorem least_eq {va vb : Value} {a b : List Dt} {r : Int} (hr : leastF a b = r) (w : World) (ha : Dts w.heap.size w va a) (hb : Dts w.heap.size w vb b) :
    Calls Tryz.prog 21 #[va, vb] w fun e w' => e = .returned (.int .i64 r) ∧ Below w.heap.size w w' := by
  have h := least_any va vb a b w ha hb
  rw [hr] at h
  exact h
theorem same_yes {va vb : Value} {a : List Dt} (w : World) (ha : Dts w.heap.size w va a) (hb : Dts w.heap.size w vb a) :
    Calls Tryz.prog 10 #[va, vb] w fun e w' => e = .returned (.bool true) ∧ Below w.heap.size w w' := by
  have h := same_any va vb a a w ha hb
  rw [decide_eq_true rfl] at h
  exact h
theorem ex_lst (X : World) : Calls Tryz.prog 21 #[.slice (some ⟨X.heap.size, 0, none⟩) 1 1, .slice (some ⟨X.heap.size + 1, 0, none⟩) 1 1] ((X.alloc (.cells #[.int .i64 0, .int .i64 0, .int .i64 0, .int .i64 0] 59)).alloc (.cells #[.int .i64 3, .int .i64 1, .int .i64 0, .int .i64 0] 59)) fun e w' => e = .returned (.int .i64 3) ∧ Below X.heap.size X w' := by
  have k1 := (Blk.new X #[.int .i64 0, .int .i64 0, .int .i64 0, .int .i64 0] 59).alloc (.cells #[.int .i64 3, .int .i64 1, .int .i64 0, .int .i64 0] 59)
  have k2 := Blk.new (X.alloc (.cells #[.int .i64 0, .int .i64 0, .int .i64 0, .int .i64 0] 59)) #[.int .i64 3, .int .i64 1, .int .i64 0, .int .i64 0] 59
  rw [World.size_alloc] at k2
  refine (least_eq ex_least _ (dts_one k1 1 (by decide) (by decide)) (dts_one k2 1 (by decide) (by decide))).mono ?_
  rintro e w' ⟨rfl, hb⟩
  exact ⟨rfl, Below.trans (b := (X.alloc (.cells #[.int .i64 0, .int .i64 0, .int .i64 0, .int .i64 0] 59)).alloc (.cells #[.int .i64 3, .int .i64 1, .int .i64 0, .int .i64 0] 59)) (by repeat' (first | with_reducible exact Below.refl _ _ | with_reducible exact Nat.le_refl _ | with_reducible assumption | with_reducible refine Go.below_growBy' ?_ ?_ _ | with_reducible refine Below.alloc ?_ ?_ _ | with_reducible refine Below.setCell ?_ ?_ _ | with_reducible refine Below.drew ?_ | with_reducible refine Go.le_alloc ?_ | with_reducible refine Go.le_growBy ?_ | with_reducible refine Go.le_setCell ?_ | with_reducible refine Go.le_drew ?_ | omega | (dsimp only; omega))) (hb.mono (by simp; omega))⟩
theorem ex_ways (X : World) : Calls Tryz.prog 14 #[exV, .slice (some ⟨X.heap.size + 1, 0, none⟩) 1 1] ((X.alloc (.cells #[.int .i64 5, .int .i64 5, .int .i64 45, .int .i64 25] 25)).alloc (.cells (wayC 7 X.heap.size) 62)) fun e w' => ∃ v, e = .returned v ∧ Dts w'.heap.size w' v wantL ∧ Below X.heap.size X w' := by
  have k1 := (Blk.new X #[.int .i64 5, .int .i64 5, .int .i64 45, .int .i64 25] 25).alloc (.cells (wayC 7 X.heap.size) 62)
  have k2 := Blk.new (X.alloc (.cells #[.int .i64 5, .int .i64 5, .int .i64 45, .int .i64 25] 25)) (wayC 7 X.heap.size) 62
  rw [World.size_alloc] at k2
  refine ((callsIn_wide (n := 3)).1 (ways1_in exS 7 (5, 5) (45, 25) _ _ _ ex_check (by decide) ex_wne (by decide +kernel) (by decide +kernel) k2 k1)).mono ?_
  rintro e w' ⟨v, base, rfl, -, hrow, hb⟩
  rw [ex_way] at hrow
  exact ⟨v, rfl, dts_of_row (l := wantL) hrow (by decide) (by simp [wantL, fits]), Below.trans (b := (X.alloc (.cells #[.int .i64 5, .int .i64 5, .int .i64 45, .int .i64 25] 25)).alloc (.cells (wayC 7 X.heap.size) 62)) (by repeat' (first | with_reducible exact Below.refl _ _ | with_reducible exact Nat.le_refl _ | with_reducible assumption | with_reducible refine Go.below_growBy' ?_ ?_ _ | with_reducible refine Below.alloc ?_ ?_ _ | with_reducible refine Below.setCell ?_ ?_ _ | with_reducible refine Below.drew ?_ | with_reducible refine Go.le_alloc ?_ | with_reducible refine Go.le_growBy ?_ | with_reducible refine Go.le_setCell ?_ | with_reducible refine Go.le_drew ?_ | omega | (dsimp only; omega))) (hb.mono (by simp; omega))⟩

theorem cells6 {W : World} {B : Nat} {a b c d e f : Int} {t : TypeId} (h : Blk W B #[.int .i64 a, .int .i64 b, .int .i64 c, .int .i64 d, .int .i64 e, .int .i64 f] t) : W.cell? ⟨B, 0, none⟩ = some (.int .i64 a) ∧ W.cell? ⟨B, 1, none⟩ = some (.int .i64 b) ∧ W.cell? ⟨B, 2, none⟩ = some (.int .i64 c) ∧ W.cell? ⟨B, 3, none⟩ = some (.int .i64 d) ∧ W.cell? ⟨B, 4, none⟩ = some (.int .i64 e) ∧ W.cell? ⟨B, 5, none⟩ = some (.int .i64 f) :=
  ⟨h.cell 0, h.cell 1, h.cell 2, h.cell 3, h.cell 4, h.cell 5⟩
theorem ex_p3 (w : World) : Calls Tryz.prog 8 #[exV, .agg #[.int .i64 3, .int .i64 50, .int .i64 50, .string ⟨#[112, 97, 114, 107]⟩, .string ⟨#[]⟩, .int .i64 0, .int .i64 0], .int .i64 1] w fun e w' => ∃ b off cap, e = .returned (.tuple #[.slice (some ⟨b, off, none⟩) 14 cap, .bool true]) ∧ (w'.cell? ⟨b, off, none⟩ = some (.int .i64 4) ∧ w'.cell? ⟨b, off + 1, none⟩ = some (.int .i64 4) ∧ w'.cell? ⟨b, off + 2, none⟩ = some (.int .i64 3) ∧ w'.cell? ⟨b, off + 3, none⟩ = some (.int .i64 3)) ∧ Below w.heap.size w w' := by
  refine (ex_p2 w).mono ?_
  rintro e w' ⟨v, rfl, hD, hb⟩
  obtain ⟨l, hl⟩ := ex_dots
  have hlen : (dotsS 3 (placeE 5 5 3 (symB 3) brD 2)).length = 14 := by rw [dotsS_length]; exact ex_len
  rw [hl] at hD hlen
  obtain ⟨-, a, cap, rfl, hr⟩ := hD.open_
  obtain ⟨b, off, rfl, -, hrow, -⟩ := hr 0 (by simp)
  rw [hlen]
  exact ⟨b, off, cap, rfl, ⟨by simpa using hrow.c0, by simpa using hrow.c1, by simpa using hrow.c2, by simpa using hrow.c3⟩, hb⟩

theorem ex_lst2 {X : World} {B C : Nat} (h1 : X.heap.size = B) (h2 : B + 1 = C) : Calls Tryz.prog 21 #[.slice (some ⟨B, 0, none⟩) 1 1, .slice (some ⟨C, 0, none⟩) 1 1] ((X.alloc (.cells #[.int .i64 0, .int .i64 0, .int .i64 0, .int .i64 0] 59)).alloc (.cells #[.int .i64 3, .int .i64 1, .int .i64 0, .int .i64 0] 59)) fun e w' => e = .returned (.int .i64 3) ∧ Below X.heap.size X w' := by
  subst h1 h2
  exact ex_lst X

set_option maxRecDepth 100000 in
set_option maxHeartbeats 4000000 in
theorem sanity_any (w : World) : Calls Tryz.prog 5 #[] w fun e w' => e = .returned (.bool true) ∧ Below w.heap.size w w' := by
  obtain ⟨i0, hi0, hz0, hz1, hz2⟩ := info_parts dotInfo
  go_enter Tryz.func5, Tryz.ntmps5
  go_wp2_with (first
    | (go_at_call 18; refine (ex_any _).mono ?_; rintro e w' ⟨rfl, hb_⟩; obtain ⟨q3, rfl⟩ := grow_of_below hb_; clear hb_)
    | (go_at_call 19; refine (ex_chk _).mono ?_; rintro e w' ⟨rfl, hb_⟩; obtain ⟨q2, rfl⟩ := grow_of_below hb_; clear hb_)
    | (go_at_call 20; refine (by with_reducible exact ex_l1 _ : Calls _ _ _ _ fun e w' => e = .returned (.bool true) ∧ Below _ _ w').mono ?_; rintro e w' ⟨rfl, hb_⟩; obtain ⟨q1, rfl⟩ := grow_of_below hb_; clear hb_)
    | (go_at_call 20; refine (by with_reducible exact ex_l2 _ : Calls _ _ _ _ fun e w' => e = .returned (.bool true) ∧ Below _ _ w').mono ?_; rintro e w' ⟨rfl, hb_⟩; obtain ⟨q0, rfl⟩ := grow_of_below hb_; clear hb_)
    | (go_at_call 20; refine (by with_reducible exact ex_l3 _ : Calls _ _ _ _ fun e w' => e = .returned (.bool true) ∧ Below _ _ w').mono ?_; rintro e w' ⟨rfl, hb_⟩; obtain ⟨p, rfl⟩ := grow_of_below hb_; clear hb_)
    | fail)
  refine wp_world_alloc ?_
  intro W hbW h5
  have hB0 : Below w.heap.size w W := Below.trans ((by repeat' (first | with_reducible exact Below.refl _ _ | with_reducible exact Nat.le_refl _ | with_reducible assumption | with_reducible refine Go.below_growBy' ?_ ?_ _ | with_reducible refine Below.alloc ?_ ?_ _ | with_reducible refine Below.setCell ?_ ?_ _ | with_reducible refine Below.drew ?_ | with_reducible refine Go.le_alloc ?_ | with_reducible refine Go.le_growBy ?_ | with_reducible refine Go.le_setCell ?_ | with_reducible refine Go.le_drew ?_ | omega | (dsimp only; omega)))) (hbW.mono (by simp; omega))
  have k5 : Blk W _ _ _ := h5
  have k4 := (Blk.new _ _ _).below hbW (by simp)
  have k1 := (((Blk.new _ _ _).grow _).alloc _).below hbW (by simp; omega)
  simp only [World.size_alloc, World.size_growBy, Array.size_append] at k1 k4 k5
  clear h5 hbW
  generalize w.heap.size + q3.objs.size + 1 + (q2.objs.size + (q1.objs.size + (q0.objs.size + p.objs.size))) = B4 at *
  generalize w.heap.size + q3.objs.size = B1 at *
  have l1 := k1.lt
  have l4 := k4.lt
  have l5 := k5.lt
  have hs0 := hB0.size
  go_loopw [3, 6] (fun u i wr => ∃ (k : Nat) (v : Value), k ≤ 5 ∧ u = v ∧ i = .int .i64 k ∧ wr.ownsRow W.heap.size 59 4 v k ((wantL.take k).flatMap encD) ∧ Below W.heap.size W wr)
    (fun _ i _ => 5 - (intOf i).toNat)
  case atStart => exact ⟨0, _, Nat.zero_le _, rfl, rfl, ⟨by simp, .inl ⟨rfl, rfl⟩⟩, Below.refl _ _⟩
  case round =>
    obtain ⟨k, v, hk, rfl, rfl, hrow, hB⟩ := hrel
    have hsz := hB.size
    by_cases hlt : k < 5
    · obtain ⟨x, y, hg, hx, hy⟩ := wantL_xs k hlt
      have c4 : wr.cell? ⟨B4, k, none⟩ = some (.int .i64 x) := ((k4.below hB l4).cell k).trans hx
      have c5 : wr.cell? ⟨B4 + 1, k, none⟩ = some (.int .i64 y) := ((k5.below hB l5).cell k).trans hy
      have htk := Lib.hid (wantL_take k hg)
      have hltI : (k : Int) < 5 := by omega
      clear hg hx hy k1 k4 k5
      go_wp2_with fail
      have hrowD : wr.drew.ownsRow W.heap.size 59 4 u3 k ((wantL.take k).flatMap encD) := hrow
      go_region_law (refine step_append_lies _ (by rfl) _ _ _ (by rfl) W.heap.size 59 i0 _ 4 32 Tryz.underlying42 hi0 hz0 hz1 hz2 rfl (by omega) u3 k _ (by rfl) (hrowD.alloc _) _ 1 1 _ (by rfl) ?_ (World.news_of_block (heap_alloc_new _ _)) (by simp [Value.oneCell']) (by omega) (by unfold maxLen; omega) (by omega) (by simp; omega) _ rfl ?_; rfl; intro g2 cap2 w3 hown3 hgrow3 hat3 hlt3)
      all_goals
        clear c4 c5 hrowD
        have hB3 : Below W.heap.size W w3 := ((hB.alloc hsz (.cells #[.int .i64 x, .int .i64 y, .int .i64 2, .int .i64 7] 59)).drew).grown hgrow3 (by show W.heap.size ≤ (wr.alloc _).heap.size; simp; omega) (fun r e => (hrow.lt r e).1)
        go_wp2_with fail
        go_roundw
        case rel => exact ⟨k + 1, _, by omega, rfl, by go_num, by rw [htk.out]; exact hown3, hB3⟩
        case measure => simp [intOf]; omega
    · obtain rfl : k = 5 := by omega
      have hL : Dts wr.heap.size wr u3 wantL := dts_of_row (W := wr) (l := wantL) hrow (by decide) (by simp [wantL, fits])
      have hBw : Below w.heap.size w wr := hB0.trans (hB.mono hs0)
      have hsw := hBw.size
      have m1 := k1.below hB l1
      obtain ⟨c0, c1, c2, c3, c4, c5⟩ := cells6 m1
      have lm := m1.lt
      clear k1 k4 k5 hrow
      generalize u3 = sv at *
      have hE := eqlDot_first
      have hG := guardDot
      go_wp2_with (first
        | (go_at_call 14; refine (ex_ways wr).mono ?_; rintro e w1 ⟨vl, rfl, hL2, hb1⟩; clear c0 c1 c2 c3 c4 c5; obtain ⟨c0, c1, c2, c3, c4, c5⟩ := cells6 (m1.below hb1 lm); replace hL := hL.up hb1 hb1.size; have hBw1 := hBw.trans (hb1.mono hsw))
        | (go_at_call 8; refine (by with_reducible exact ex_p1 _ : Calls _ _ _ _ fun e w' => e = .returned (.tuple #[.slice none 0 0, .bool false]) ∧ Below _ _ w').mono ?_; rintro e w' ⟨rfl, hb_⟩; obtain ⟨p1, rfl⟩ := grow_of_below hb_; clear hb_)
        | (go_at_call 8; refine (ex_p3 _).mono ?_; rintro e w3 ⟨pb, po, pc, rfl, ⟨e0, e1, e2, e3⟩, hb3⟩; have hb13 : Below w1.heap.size w1 w3 := (below_growBy w1 p1).trans (hb3.mono (by simp)); replace hL := hL.up hb13 hb13.size; replace hL2 := hL2.up hb13 hb13.size; have hBw3 := hBw1.trans (hb13.mono hBw1.size); have hs3 := hBw3.size; clear hb3 hb13 hBw1 hb1 c0 c1 c2 c3 c4 c5 hBw hsw m1 lm hB hsz hB0)
        | (go_at_call 10; refine (same_yes _ hL2 hL).mono ?_; rintro e w' ⟨rfl, hb_⟩; obtain ⟨p5, rfl⟩ := grow_of_below hb_; clear hb_)
        | (go_at_call 21; refine (ex_lst2 (by simp) rfl).mono ?_; rintro e w' ⟨rfl, hb_⟩; obtain ⟨p6, rfl⟩ := grow_of_below hb_; clear hb_)
        | fail)
      go_ret
      exact ⟨rfl, (by repeat' (first | with_reducible exact Below.refl _ _ | with_reducible exact Nat.le_refl _ | with_reducible assumption | with_reducible refine Go.below_growBy' ?_ ?_ _ | with_reducible refine Below.alloc ?_ ?_ _ | with_reducible refine Below.setCell ?_ ?_ _ | with_reducible refine Below.drew ?_ | with_reducible refine Go.le_alloc ?_ | with_reducible refine Go.le_growBy ?_ | with_reducible refine Go.le_setCell ?_ | with_reducible refine Go.le_drew ?_ | omega | (dsimp only; omega)))⟩
end Go.Proofs.YtjfdbigkbgolmaaGreatDoor
