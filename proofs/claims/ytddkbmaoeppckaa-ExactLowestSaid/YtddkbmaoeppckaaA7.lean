import Derived.Test.YtddkbmaoeppckaaA6
import Derived.BigRegion
import Derived.Deep.RegionHeld3
namespace Go.Proofs.Ytddkbmaoeppckaa
open Go.RowKit

theorem fits_wrap (n : Int) : fits (wrap64 n) := by unfold wrap64 fits; omega
theorem fits_lit {n : Int} (h : decide (-9223372036854775808 ≤ n ∧ n ≤ 9223372036854775807) = true) : fits n := (of_decide_eq_true h : -9223372036854775808 ≤ n ∧ n ≤ 9223372036854775807)

/-- four ints in a row -/
def Row4 (W : World) (b o : Nat) : Prop := ∃ x0 x1 x2 x3 : Int, fits x0 ∧ fits x1 ∧ fits x2 ∧ fits x3 ∧ W.cell? ⟨b, o, none⟩ = some (.int .i64 x0) ∧ W.cell? ⟨b, o + 1, none⟩ = some (.int .i64 x1) ∧ W.cell? ⟨b, o + 2, none⟩ = some (.int .i64 x2) ∧ W.cell? ⟨b, o + 3, none⟩ = some (.int .i64 x3)

set_option maxHeartbeats 1000000 in
theorem signs_any (a b c d : Int) (w : World) (ha : fits a) (hb : fits b) (hc : fits c) (hd : fits d) :
    Calls Try.prog 3 #[.agg #[.int .i64 a, .int .i64 b, .int .i64 c, .int .i64 d]] w fun r w' => r = .returned (.bool true) ∧ Below w.heap.size w w' := by
  go_enter Try.func3, Try.ntmps3
  go_wp2_with (go_at_call 9; refine (sanity_any _).mono ?_; rintro e w' ⟨rfl, hb_⟩; obtain ⟨p, rfl⟩ := grow_of_below hb_; clear hb_)
  first | with_reducible refine wp_region_grow2 (by kernel_rfl) (by kernel_rfl) ?_ | with_reducible refine wp_region_grow (by kernel_rfl) (by kernel_rfl) ?_
  repeat (first | go_big_quiet_step (fail) | quiet_step (fail))
  refine wpQuiet_nil ?_
  intro _ hw_
  obtain ⟨p, hw_⟩ := hw_
  subst hw_
  go_wp2_with fail
  refine wp_world_alloc fun W hB hblk => ?_
  have hB0 : Below w.heap.size w W := Below.trans (b := (w.alloc (.cells #[.int .i64 a, .int .i64 b, .int .i64 c, .int .i64 d] 22)).growBy p) (by repeat' (first | with_reducible exact Below.refl _ _ | with_reducible exact Nat.le_refl _ | with_reducible assumption | with_reducible refine Go.below_growBy' ?_ ?_ _ | with_reducible refine Below.alloc ?_ ?_ _ | with_reducible refine Below.setCell ?_ ?_ _ | with_reducible refine Below.drew ?_ | with_reducible refine Go.le_alloc ?_ | with_reducible refine Go.le_growBy ?_ | with_reducible refine Go.le_setCell ?_ | with_reducible refine Go.le_drew ?_ | omega)) (hB.mono (by simp; omega))
  clear hB
  simp only [World.size_growBy, World.size_alloc] at hblk
  generalize w.heap.size + 1 + p.objs.size = BB at *
  have hrow : ∀ k : Nat, k < 7 → Row4 W BB (k * 4) := by
    intro k hk
    match k, hk with
    | 0, _ => exact ⟨a, b, c, d, ha, hb, hc, hd, cell_of_block hblk 0, cell_of_block hblk 1, cell_of_block hblk 2, cell_of_block hblk 3⟩
    | 1, _ => exact ⟨a, b, b, a, ha, hb, hb, ha, cell_of_block hblk 4, cell_of_block hblk 5, cell_of_block hblk 6, cell_of_block hblk 7⟩
    | 2, _ => exact ⟨a, b, a, c, ha, hb, ha, hc, cell_of_block hblk 8, cell_of_block hblk 9, cell_of_block hblk 10, cell_of_block hblk 11⟩
    | 3, _ => exact ⟨a, _, _, b, ha, fits_wrap _, fits_wrap _, hb, cell_of_block hblk 12, cell_of_block hblk 13, cell_of_block hblk 14, cell_of_block hblk 15⟩
    | 4, _ => exact ⟨a, a, b, b, ha, ha, hb, hb, cell_of_block hblk 16, cell_of_block hblk 17, cell_of_block hblk 18, cell_of_block hblk 19⟩
    | 5, _ => exact ⟨a, _, _, b, ha, fits_wrap _, fits_wrap _, hb, cell_of_block hblk 20, cell_of_block hblk 21, cell_of_block hblk 22, cell_of_block hblk 23⟩
    | 6, _ => exact ⟨_, a, _, b, fits_lit (n := -9223372036854775808) (by decide), ha, fits_lit (n := 9223372036854775807) (by decide), hb, cell_of_block hblk 24, cell_of_block hblk 25, cell_of_block hblk 26, cell_of_block hblk 27⟩
  clear hblk
  go_loopw [60] (fun u wr => ∃ k : Nat, k ≤ 7 ∧ u = .int .i64 k ∧ Below W.heap.size W wr) (fun u _ => 7 - (intOf u).toNat)
  case atStart => exact ⟨0, by omega, rfl, Below.refl _ _⟩
  case round =>
    obtain ⟨k, hk, rfl, hB⟩ := hrel
    obtain ⟨p2, rfl⟩ := grow_of_below hB
    clear hB
    by_cases hk7 : k < 7
    · obtain ⟨x0, x1, x2, x3, f0, f1, f2, f3, c0, c1, c2, c3⟩ := hrow k hk7
      go_wp2_with fail
      first | with_reducible refine wp_region_grow2 (by kernel_rfl) (by kernel_rfl) ?_ | with_reducible refine wp_region_grow (by kernel_rfl) (by kernel_rfl) ?_
      repeat (first | go_big_quiet_step (first | (go_at_call 10; exact Calls.grow_of (c_sign2 x0 x1 x2 x3 _ f0 f1 f2 f3)) | (go_at_call 11; exact Calls.grow_of (c_rsign2 x0 x1 x2 x3 _ f0 f1 f2 f3))) | quiet_step (first | (go_at_call 10; exact Calls.grow_of (c_sign2 x0 x1 x2 x3 _ f0 f1 f2 f3)) | (go_at_call 11; exact Calls.grow_of (c_rsign2 x0 x1 x2 x3 _ f0 f1 f2 f3))))
      refine wpQuiet_nil ?_
      intro _ hw_
      obtain ⟨p, hw_⟩ := hw_
      subst hw_
      go_wp2_with fail
      go_region_held3 (fun w' => w'.cell? ⟨W.heap.size + p2.objs.size, 0, none⟩ = some (.int .i64 x0) ∧ w'.cell? ⟨W.heap.size + p2.objs.size, 1, none⟩ = some (.int .i64 x1) ∧ w'.cell? ⟨W.heap.size + p2.objs.size, 2, none⟩ = some (.int .i64 x2) ∧ w'.cell? ⟨W.heap.size + p2.objs.size, 3, none⟩ = some (.int .i64 x3)) (simp [go_sem]) (fail)
      all_goals
        go_wp2_with fail
        first | with_reducible refine wp_region_grow2 (by kernel_rfl) (by kernel_rfl) ?_ | with_reducible refine wp_region_grow (by kernel_rfl) (by kernel_rfl) ?_
        repeat (first | go_big_quiet_step (first | (go_at_call 12; exact Calls.grow_of (cmpr_any x0 x1 x2 x3 _ f0 f1 f2 f3)) | (go_at_call 13; exact Calls.grow_of (rcmpr_any x0 x1 x2 x3 _ f0 f1 f2 f3))) | quiet_step (first | (go_at_call 12; exact Calls.grow_of (cmpr_any x0 x1 x2 x3 _ f0 f1 f2 f3)) | (go_at_call 13; exact Calls.grow_of (rcmpr_any x0 x1 x2 x3 _ f0 f1 f2 f3))))
        refine wpQuiet_nil ?_
        intro _ hw_
        obtain ⟨p, hw_⟩ := hw_
        subst hw_
        go_wp2_with fail
        go_roundw
        case rel => exact ⟨k + 1, by omega, by go_num, (by repeat' (first | with_reducible exact Below.refl _ _ | with_reducible exact Nat.le_refl _ | with_reducible assumption | with_reducible refine Go.below_growBy' ?_ ?_ _ | with_reducible refine Below.alloc ?_ ?_ _ | with_reducible refine Below.setCell ?_ ?_ _ | with_reducible refine Below.drew ?_ | with_reducible refine Go.le_alloc ?_ | with_reducible refine Go.le_growBy ?_ | with_reducible refine Go.le_setCell ?_ | with_reducible refine Go.le_drew ?_ | omega))⟩
        case measure => simp [intOf]; omega
    · go_wp2_with fail
      go_ret
      exact ⟨rfl, (below_growBy W p2).mono hB0.size |> hB0.trans⟩
end Go.Proofs.Ytddkbmaoeppckaa
