/-
  Chapter 29: the examples of the chapter: what they come to.
-/
import Derived.Test.YtjfdbigkbgolmaaDoorR2
import Derived.Test.YtjfdbigkbgolmaaDoorT2
namespace Go.Proofs.YtjfdbigkbgolmaaDoor
set_option linter.unusedVariables false
set_option linter.unusedSimpArgs false
open Go.RowKit Go.Shelf Go.Maps
attribute [local go_sem] Oper.semAt_some

/-- the dots of the cells 60, 1, 3 -/
def brD (k n : Nat) : Bool :=
  match k with
  | 0 => decide (2 ≤ n)
  | 1 => decide (n = 0)
  | _ => decide (n ≤ 1)
def exS : Sh := ⟨0, 0, 10, 40, 30, 2⟩
def park : ByteArray := ⟨#[112, 97, 114, 107]⟩

theorem ex_of1 : ofS exS 25 99 = (2, 9, true) := by decide +kernel
theorem ex_of2 : ofS exS (-1) 5 = (0, 0, false) := by decide +kernel
theorem ex_of3 : ofS exS 400 5 = (0, 0, false) := by decide +kernel
theorem ex_of4 : ofS exS 5 50 = (0, 5, true) := by decide +kernel
theorem ex_of5 : ofS exS 50 50 = (5, 5, true) := by decide +kernel
theorem ex_check : checkS exS = 0 := by decide +kernel
theorem ex_off : ∃ p ∈ (placeE 0 5 3 (symB 3) brD 2).map (·.1), onS exS p.1 p.2 = false := by decide +kernel
theorem ex_on : ∀ p ∈ (placeE 5 5 3 (symB 3) brD 2).map (·.1), onS exS p.1 p.2 = true := by decide +kernel
theorem ex_ne : placeE 5 5 3 (symB 3) brD 2 ≠ [] := by decide +kernel
theorem ex_ne0 : placeE 0 5 3 (symB 3) brD 2 ≠ [] := by decide +kernel
theorem ex_sum : (sumB park.data.toList).tmod 7 = (3 : Nat) := by decide +kernel
theorem ex_len : (placeE 5 5 3 (symB 3) brD 2).length = 14 := by decide +kernel
theorem keysS_is {en : List (Spot × Int)} (d : List Spot) (hn : (en.map (·.1)).Nodup) (hd : d.Nodup) (h1 : ∀ p ∈ d, p ∈ en.map (·.1)) (h2 : ∀ p ∈ en.map (·.1), p ∈ d) (hs : d.Pairwise (fun a b => leS a b = true)) : keysS en = d :=
  (keysS_uniq (keysS_perm hn hd fun p => ⟨h1 p, h2 p⟩) hs).symm
theorem ex_keys : keysS (placeE 5 5 3 (symB 3) brD 2) = [(4, 4), (5, 4), (6, 4), (8, 4), (9, 4), (4, 5), (5, 5), (6, 5), (9, 5), (4, 6), (5, 6), (6, 6), (9, 6), (11, 6)] :=
  keysS_is _ (by decide +kernel) (by decide +kernel) (by decide +kernel) (by decide +kernel) (by decide +kernel)
theorem ex_dots : ∃ l, dotsS 3 (placeE 5 5 3 (symB 3) brD 2) = ⟨4, 4, 3, 3⟩ :: l := by
  unfold dotsS
  rw [ex_keys]
  exact ⟨_, by rw [List.map_cons]; congr 1⟩
theorem ex_fits : ∀ d ∈ dotsS 3 (placeE 5 5 3 (symB 3) brD 2), fits d.x ∧ fits d.y := by
  unfold dotsS
  rw [ex_keys]
  simp [fits]
theorem ex_way : dotsS 2 (wayE exS 7 (5, 5) (45, 25)) = [⟨0, 0, 2, 7⟩, ⟨1, 1, 2, 7⟩, ⟨2, 1, 2, 7⟩, ⟨3, 2, 2, 7⟩, ⟨4, 2, 2, 7⟩] := by
  unfold dotsS
  rw [keysS_is [(0, 0), (1, 1), (2, 1), (3, 2), (4, 2)] (by decide +kernel) (by decide +kernel) (by decide +kernel) (by decide +kernel) (by decide +kernel)]
  decide +kernel
theorem ex_wne : wayE exS 7 (5, 5) (45, 25) ≠ [] := by decide +kernel
theorem ex_least : leastF [⟨0, 0, 0, 0⟩] [⟨3, 1, 0, 0⟩] = 3 := by decide +kernel

def cells2 : ByteArray := ⟨#[60, 1]⟩
theorem dots2 : ∀ k (h : k < cells2.size) W, Calls Tryd.prog 39 #[.int .u8 (cells2[k]).toNat] W fun e W' => e = .returned (.agg #[.bool (brD k 0), .bool (brD k 1), .bool (brD k 2), .bool (brD k 3), .bool (brD k 4), .bool (brD k 5)]) ∧ Below W.heap.size W W' := by
  intro k h W
  have h2 : k < 2 := h
  rcases (show k = 0 ∨ k = 1 from by omega) with rfl | rfl
  · exact bdots60 W
  · exact bdots1 W
theorem itoa1 : ∀ W, Calls Tryd.prog 38 #[.int .i64 1] W fun e W' => e = .returned (.string one) ∧ Below W.heap.size W W' := by
  intro W
  refine (Tryd.strconv_Itoa_small 1 (by omega) W).mono ?_
  rintro e W' ⟨rfl, rfl⟩
  refine ⟨?_, Below.refl _ _⟩
  rw [Lib.decDigits]
  rfl

theorem lawof_any (s : Sh) (x y i j : Int) (b : Bool) (h : ofS s x y = (i, j, b)) (w : World) (f0 : fits s.ax) (f1 : fits s.ay) :
    Calls Tryd.prog 20 #[shV s, .int .i64 x, .int .i64 y, .int .i64 i, .int .i64 j, .bool b] w fun e w' => e = .returned (.bool true) ∧ Below w.heap.size w w' := by
  obtain ⟨ax, ay, st, sw, sh, sg⟩ := s
  replace h := Lib.hid h
  cases b <;>
  · go_enter Tryd.func20, Tryd.ntmps20
    go_wp2_with (first | (go_at_call 11; refine (of_eq h.out _ f0 f1).mono ?_; rintro e w' ⟨rfl, hb_⟩; obtain ⟨p, rfl⟩ := grow_of_below hb_; clear hb_) | fail)
    go_ret
    exact ⟨rfl, (by repeat' (first | with_reducible exact Below.refl _ _ | with_reducible exact Nat.le_refl _ | with_reducible assumption | with_reducible refine Go.below_growBy' ?_ ?_ _ | with_reducible refine Below.alloc ?_ ?_ _ | with_reducible refine Below.setCell ?_ ?_ _ | with_reducible refine Below.drew ?_ | with_reducible refine Go.le_alloc ?_ | with_reducible refine Go.le_growBy ?_ | with_reducible refine Go.le_setCell ?_ | with_reducible refine Go.le_drew ?_ | omega | (dsimp only; omega)))⟩

set_option maxRecDepth 100000 in
theorem example_any (w : World) : Calls Tryd.prog 19 #[] w fun e w' => e = .returned (shV exS) ∧ Below w.heap.size w w' := by
  go_enter Tryd.func19, Tryd.ntmps19
  go_wp2_with (first | (refine wpList_build_as (by rfl) 26 _ (by rfl) (shC exS) (by kernel_rfl) ?_) | fail)
  have hi : (Tryd.prog.info? 26).map (·.size) = some (shC exS).size := by kernel_rfl
  exact bodyPost_ret (results_cell_row (by rfl) _ _ w.heap.size 26 (shC exS) (0, 0) _ (by rfl) (heap_alloc_last w _) Tryd.underlying26 (by rfl) hi) rfl ⟨rfl, (by repeat' (first | with_reducible exact Below.refl _ _ | with_reducible exact Nat.le_refl _ | with_reducible assumption | with_reducible refine Go.below_growBy' ?_ ?_ _ | with_reducible refine Below.alloc ?_ ?_ _ | with_reducible refine Below.setCell ?_ ?_ _ | with_reducible refine Below.drew ?_ | with_reducible refine Go.le_alloc ?_ | with_reducible refine Go.le_growBy ?_ | with_reducible refine Go.le_setCell ?_ | with_reducible refine Go.le_drew ?_ | omega | (dsimp only; omega)))⟩

/-- the first place of the examples: too near to the edge -/
theorem ex_place1 (w : World) : Calls Tryd.prog 16 #[shV exS, .agg (plC 3 5 50 0 0 park ⟨#[]⟩), .int .i64 1] w fun e w' => e = .returned (.tuple #[.slice none 0 0, .bool false]) ∧ Below w.heap.size w w' := by
  refine (place_yes exS 3 5 50 0 0 1 0 5 park ⟨#[]⟩ one cells2 brD 3 w (by decide) (by decide) ex_of4 (by decide) (by omega) (by omega) (by decide) (by omega) ex_sum (by decide) itoa1 write_one dots2 ex_ne0).mono ?_
  rintro e w' ⟨hb, ⟨h, _⟩ | ⟨_, he⟩⟩
  · obtain ⟨p, hp, h2⟩ := ex_off
    rw [h p hp] at h2
    cases h2
  · exact ⟨he, hb⟩
/-- the second one -/
theorem ex_place2 (w : World) : Calls Tryd.prog 16 #[shV exS, .agg (plC 3 50 50 0 0 park ⟨#[]⟩), .int .i64 1] w fun e w' => ∃ v, e = .returned (.tuple #[v, .bool true]) ∧ Dts w'.heap.size w' v (dotsS 3 (placeE 5 5 3 (symB 3) brD 2)) ∧ Below w.heap.size w w' := by
  refine (place_yes exS 3 50 50 0 0 1 5 5 park ⟨#[]⟩ one cells2 brD 3 w (by decide) (by decide) ex_of5 (by decide) (by omega) (by omega) (by decide) (by omega) ex_sum (by decide) itoa1 write_one dots2 ex_ne).mono ?_
  rintro e w' ⟨hb, ⟨_, v, base, he, _, hr⟩ | ⟨⟨p, hp, h⟩, _⟩⟩
  · exact ⟨v, he, dts_of_row hr (by rw [dotsS_length]; exact Nat.le_trans (Nat.le_of_eq ex_len) (by omega)) ex_fits, hb⟩
  · rw [ex_on p hp] at h
    cases h
end Go.Proofs.YtjfdbigkbgolmaaDoor
