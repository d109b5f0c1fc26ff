/-
  'ExactLowest': for every two ints and a factor the function returns true: Gcd and Lowest return what the reference returns, at the five pairs that are made of them; the arguments read as they did.
-/
import Derived.Test.YtddkbmaoeppckaaA7
import Derived.Test.YtddkbmaoeppckaaFrame
namespace Go.Proofs.Ytddkbmaoeppckaa
open Go.RowKit

def Row2 (W : World) (b o : Nat) : Prop := ∃ x0 x1 : Int, fits x0 ∧ fits x1 ∧ W.cell? ⟨b, o, none⟩ = some (.int .i64 x0) ∧ W.cell? ⟨b, o + 1, none⟩ = some (.int .i64 x1)

set_option maxRecDepth 100000 in
set_option maxHeartbeats 2000000 in
theorem lowests_any (a b f : Int) (w : World) (ha : fits a) (hb : fits b) (hf : fits f) :
    Calls Try.prog 7 #[.int .i64 a, .int .i64 b, .int .i64 f] w fun r w' => r = .returned (.bool true) ∧ Below w.heap.size w w' := by
  have ⟨_a0, _a1⟩ := ha
  have ⟨_b0, _b1⟩ := hb
  have ⟨_f0, _f1⟩ := hf
  go_enter Try.func7, Try.ntmps7
  go_wp2_with (go_at_call 9; refine (sanity_any _).mono ?_; rintro e w' ⟨rfl, hb_⟩; obtain ⟨p, rfl⟩ := grow_of_below hb_; clear hb_)
  refine wp_world_alloc fun W hB hblk => ?_
  have hB0 : Below w.heap.size w W := Below.trans (b := w.growBy p) (by repeat' (first | with_reducible exact Below.refl _ _ | with_reducible exact Nat.le_refl _ | with_reducible assumption | with_reducible refine Go.below_growBy' ?_ ?_ _ | with_reducible refine Below.alloc ?_ ?_ _ | with_reducible refine Below.setCell ?_ ?_ _ | with_reducible refine Below.drew ?_ | with_reducible refine Go.le_alloc ?_ | with_reducible refine Go.le_growBy ?_ | with_reducible refine Go.le_setCell ?_ | with_reducible refine Go.le_drew ?_ | omega)) (hB.mono (by repeat' (first | with_reducible exact Below.refl _ _ | with_reducible exact Nat.le_refl _ | with_reducible assumption | with_reducible refine Go.below_growBy' ?_ ?_ _ | with_reducible refine Below.alloc ?_ ?_ _ | with_reducible refine Below.setCell ?_ ?_ _ | with_reducible refine Below.drew ?_ | with_reducible refine Go.le_alloc ?_ | with_reducible refine Go.le_growBy ?_ | with_reducible refine Go.le_setCell ?_ | with_reducible refine Go.le_drew ?_ | omega)))
  clear hB
  simp only [World.size_growBy] at hblk
  generalize w.heap.size + p.objs.size = BB at *
  have hrow : ∀ k : Nat, k < 5 → Row2 W BB (k * 2) := by
    intro k hk
    match k, hk with
    | 0, _ => exact ⟨a, b, ha, hb, cell_of_block hblk 0, cell_of_block hblk 1⟩
    | 1, _ => exact ⟨_, _, fits_wrap _, fits_wrap _, cell_of_block hblk 2, cell_of_block hblk 3⟩
    | 2, _ => exact ⟨a, _, ha, fits_lit (n := 0) (by decide), cell_of_block hblk 4, cell_of_block hblk 5⟩
    | 3, _ => exact ⟨_, b, fits_lit (n := -9223372036854775808) (by decide), hb, cell_of_block hblk 6, cell_of_block hblk 7⟩
    | 4, _ => exact ⟨a, _, ha, fits_lit (n := 9223372036854775807) (by decide), cell_of_block hblk 8, cell_of_block hblk 9⟩
  clear hblk
  go_loopw [37] (fun u wr => ∃ k : Nat, k ≤ 5 ∧ u = .int .i64 k ∧ Below W.heap.size W wr) (fun u _ => 5 - (intOf u).toNat)
  case atStart => exact ⟨0, by omega, rfl, Below.refl _ _⟩
  case round =>
    obtain ⟨k, hk, rfl, hB⟩ := hrel
    obtain ⟨p2, rfl⟩ := grow_of_below hB
    clear hB
    by_cases hk5 : k < 5
    · obtain ⟨x0, x1, f0, f1, c0, c1⟩ := hrow k hk5
      by_cases hx : x1 < 1
      · go_wp2_with (first | (go_at_call 17; refine (lowest_no _ _ _ hx).mono ?_; rintro e w' ⟨rfl, hb_⟩; obtain ⟨p, rfl⟩ := grow_of_below hb_; clear hb_) | (go_at_call 18; refine (rlowest_no _ _ _ hx).mono ?_; rintro e w' ⟨rfl, hb_⟩; obtain ⟨p, rfl⟩ := grow_of_below hb_; clear hb_))
        first | with_reducible refine wp_region_grow2 (by kernel_rfl) (by kernel_rfl) ?_ | with_reducible refine wp_region_grow (by kernel_rfl) (by kernel_rfl) ?_
        repeat (first | go_big_quiet_step (first | (go_at_call 19; exact Calls.grow_of (gcd_any x0 x1 _ f0 f1)) | (go_at_call 20; exact Calls.grow_of (rgcd_any x0 x1 _ f0 f1))) | quiet_step (first | (go_at_call 19; exact Calls.grow_of (gcd_any x0 x1 _ f0 f1)) | (go_at_call 20; exact Calls.grow_of (rgcd_any x0 x1 _ f0 f1))))
        refine wpQuiet_nil ?_
        intro _ hw_
        obtain ⟨p, hw_⟩ := hw_
        subst hw_
        go_wp2_with fail
        go_roundw
        case rel => exact ⟨k + 1, by omega, by go_num, (by repeat' (first | with_reducible exact Below.refl _ _ | with_reducible exact Nat.le_refl _ | with_reducible assumption | with_reducible refine Go.below_growBy' ?_ ?_ _ | with_reducible refine Below.alloc ?_ ?_ _ | with_reducible refine Below.setCell ?_ ?_ _ | with_reducible refine Below.drew ?_ | with_reducible refine Go.le_alloc ?_ | with_reducible refine Go.le_growBy ?_ | with_reducible refine Go.le_setCell ?_ | with_reducible refine Go.le_drew ?_ | omega))⟩
        case measure => simp [intOf]; omega
      · have hx1 : 1 ≤ x1 := by omega
        clear hx
        go_wp2_with (first | (go_at_call 17; refine (lowest_yes _ _ _ f0 f1 hx1).mono ?_; rintro e w' ⟨rfl, hb_⟩; obtain ⟨p, rfl⟩ := grow_of_below hb_; clear hb_) | (go_at_call 18; refine (rlowest_yes _ _ _ f0 f1 hx1).mono ?_; rintro e w' ⟨rfl, hb_⟩; obtain ⟨p, rfl⟩ := grow_of_below hb_; clear hb_))
        first | with_reducible refine wp_region_grow2 (by kernel_rfl) (by kernel_rfl) ?_ | with_reducible refine wp_region_grow (by kernel_rfl) (by kernel_rfl) ?_
        repeat (first | go_big_quiet_step (first | (go_at_call 19; exact Calls.grow_of (gcd_any x0 x1 _ f0 f1)) | (go_at_call 20; exact Calls.grow_of (rgcd_any x0 x1 _ f0 f1))) | quiet_step (first | (go_at_call 19; exact Calls.grow_of (gcd_any x0 x1 _ f0 f1)) | (go_at_call 20; exact Calls.grow_of (rgcd_any x0 x1 _ f0 f1))))
        refine wpQuiet_nil ?_
        intro _ hw_
        obtain ⟨p, hw_⟩ := hw_
        subst hw_
        go_wp2_with fail
        go_roundw
        case rel => exact ⟨k + 1, by omega, by go_num, (by repeat' (first | with_reducible exact Below.refl _ _ | with_reducible exact Nat.le_refl _ | with_reducible assumption | with_reducible refine Go.below_growBy' ?_ ?_ _ | with_reducible refine Below.alloc ?_ ?_ _ | with_reducible refine Below.setCell ?_ ?_ _ | with_reducible refine Below.drew ?_ | with_reducible refine Go.le_alloc ?_ | with_reducible refine Go.le_growBy ?_ | with_reducible refine Go.le_setCell ?_ | with_reducible refine Go.le_drew ?_ | omega))⟩
        case measure => simp [intOf]; omega
    · go_wp2_with fail
      go_ret
      exact ⟨rfl, (below_growBy W p2).mono hB0.size |> hB0.trans⟩
end Go.Proofs.Ytddkbmaoeppckaa
namespace Go.Proofs.Ytddkbmaoeppckaa.exactLowest
open Go.ChangeShapes Go.WideShapes Go.ChangeAt Go.RowKit
set_option linter.unusedVariables false

theorem own : ownKnob Try.prog.godebug = none := by kernel_rfl
theorem laidOut : laidOutB Try.prog = true := by kernel_rfl

theorem walk (W : World) (base : Nat) (args : Array Value) (hval : ∀ (j : Nat) t v, Try.f7.params[j]? = some t → args[j]? = some v → Value.okWide Try.prog W .any base t v) (hsz : args.toList.length = 3) :
    Calls Try.prog 7 args W fun e W' => e = .returned (.bool true) ∧ Below W.heap.size W W' := by
  obtain ⟨v0, v1, v2, rfl⟩ : ∃ v0 v1 v2, args = #[v0, v1, v2] := by
    match args, hsz with
    | ⟨[v0, v1, v2]⟩, _ => exact ⟨v0, v1, v2, rfl⟩
  obtain ⟨a, rfl, ha⟩ := okWide_int_has Try.underlying3 (hval 0 3 v0 rfl rfl)
  obtain ⟨b, rfl, hb⟩ := okWide_int_has Try.underlying3 (hval 1 3 v1 rfl rfl)
  obtain ⟨f, rfl, hf⟩ := okWide_int_has Try.underlying3 (hval 2 3 v2 rfl rfl)
  exact lowests_any a b f W ha hb hf

set_option maxRecDepth 100000 in
theorem lifted (os : Os) (started : os.Started) (H : Type) (enc : TypeId × Value → H) :
    ReturnsInHanded {} Try.checked os 7 .any (Rows.exactLowestSpec.pre6 enc Try.prog Try.f7 Rows.exactLowestRow.domain false) (Rows.exactLowestSpec.post enc Try.prog Try.f7 false true false false) := by
  refine returnsInHanded_of_change (C := Try.checked) own started (by kernel_rfl) Try.func7
    (ChangeSpec.witness6 (enc := enc) (C := Try.checked) false ⟨#[], #[.int .i64 0, .int .i64 0, .int .i64 0], []⟩ 8 (by kernel_rfl) (by kernel_rfl) (by kernel_rfl) (by kernel_rfl)) ?_
  intro W base args ds gs before hval0 hW hcnd _
  exact law_calls 4 laidOut (by kernel_rfl) rfl rfl Try.underlying4 (fun ds h => match ds, h with | [_, _, _], _ => rfl) hW (fun hsz _ => walk W base args hval0 hsz)

theorem over : Rows.exactLowestRow.holds Try.pinned (OpenSpec.ofChange Rows.exactLowestSpec) :=
  OpenClaim.holds_of_wide 7 Try.f7 rfl rfl rfl rfl rfl rfl rfl ⟨rfl, rfl, rfl, rfl, rfl⟩ rfl rfl rfl rfl rfl (by kernel_rfl) Try.func7 (by kernel_rfl)
    (of_decide_eq_true (by kernel_rfl)) (by unfold Func.isWrapper; first | (rw [if_pos (by decide +kernel)]; kernel_rfl) | (rw [if_neg (by decide +kernel)]; exact ⟨rfl, rfl⟩))
    (fun os started H enc _ => lifted os started H enc)

theorem proved : Rows.ExactLowestSaid := over
#print axioms proved
end Go.Proofs.Ytddkbmaoeppckaa.exactLowest
