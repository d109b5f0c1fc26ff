/-
  'ExactRoots': for every int the function returns true: Sqrt returns what the reference returns, and is the root rounded down, at the six numbers that are made of it; the argument reads as it did.
-/
import Derived.Test.YtddkbmaoeppckaaA7
import Derived.Test.YtddkbmaoeppckaaFrame
namespace Go.Proofs.Ytddkbmaoeppckaa
open Go.RowKit

def Row1 (W : World) (b o : Nat) : Prop := ∃ x : Int, fits x ∧ W.cell? ⟨b, o, none⟩ = some (.int .i64 x)

theorem root_in {x : Int} (h0 : 0 ≤ x) (h1 : x < 2305843009213693952) : 0 ≤ root x ∧ root x ≤ 1518500249 ∧ root x * root x ≤ x ∧ ¬ (root x + 1) * (root x + 1) ≤ x := by
  obtain ⟨s0, s1, s2, s3⟩ := root_is h0
  have h2 : root x ≤ 1518500249 := by
    by_cases h : 1518500249 < root x
    · have := sq_le (a := 1518500250) (b := root x) (by decide) (by omega)
      omega
    · omega
  refine ⟨s0, h2, s2, ?_⟩
  rcases s3 with h | h <;> omega

set_option maxRecDepth 100000 in
set_option maxHeartbeats 1000000 in
theorem roots_any (n : Int) (w : World) (hn : fits n) :
    Calls Try.prog 6 #[.int .i64 n] w fun r w' => r = .returned (.bool true) ∧ Below w.heap.size w w' := by
  have ⟨_n0, _n1⟩ := hn
  obtain ⟨a0, a1⟩ := rem30 n
  have b0 := Int.lt_tmod_of_pos n (b := 1000000) (by decide)
  have b1 := Int.tmod_lt_of_pos n (b := 1000000) (by decide)
  obtain ⟨m10, m11⟩ := mul_small a0 a1 a0 a1
  go_enter Try.func6, Try.ntmps6
  go_wp2_with (go_at_call 9; refine (sanity_any _).mono ?_; rintro e w' ⟨rfl, hb_⟩; obtain ⟨p, rfl⟩ := grow_of_below hb_; clear hb_)
  refine wp_world_alloc fun W hB hblk => ?_
  have hB0 : Below w.heap.size w W := Below.trans (b := w.growBy p) (by repeat' (first | with_reducible exact Below.refl _ _ | with_reducible exact Nat.le_refl _ | with_reducible assumption | with_reducible refine Go.below_growBy' ?_ ?_ _ | with_reducible refine Below.alloc ?_ ?_ _ | with_reducible refine Below.setCell ?_ ?_ _ | with_reducible refine Below.drew ?_ | with_reducible refine Go.le_alloc ?_ | with_reducible refine Go.le_growBy ?_ | with_reducible refine Go.le_setCell ?_ | with_reducible refine Go.le_drew ?_ | omega)) (hB.mono (by repeat' (first | with_reducible exact Below.refl _ _ | with_reducible exact Nat.le_refl _ | with_reducible assumption | with_reducible refine Go.below_growBy' ?_ ?_ _ | with_reducible refine Below.alloc ?_ ?_ _ | with_reducible refine Below.setCell ?_ ?_ _ | with_reducible refine Below.drew ?_ | with_reducible refine Go.le_alloc ?_ | with_reducible refine Go.le_growBy ?_ | with_reducible refine Go.le_setCell ?_ | with_reducible refine Go.le_drew ?_ | omega)))
  clear hB
  simp only [World.size_growBy] at hblk
  generalize w.heap.size + p.objs.size = BB at *
  have hrow : ∀ k : Nat, k < 6 → Row1 W BB k := by
    intro k hk
    match k, hk with
    | 0, _ => exact ⟨n, hn, cell_of_block hblk 0⟩
    | 1, _ => exact ⟨_, ⟨by omega, by omega⟩, cell_of_block hblk 1⟩
    | 2, _ => exact ⟨_, ⟨by omega, by omega⟩, cell_of_block hblk 2⟩
    | 3, _ => exact ⟨_, ⟨by omega, by omega⟩, cell_of_block hblk 3⟩
    | 4, _ => exact ⟨_, ⟨by omega, by omega⟩, cell_of_block hblk 4⟩
    | 5, _ => exact ⟨_, fits_lit (n := 9223372036854775807) (by decide), cell_of_block hblk 5⟩
  clear hblk
  go_loopw [27] (fun u wr => ∃ k : Nat, k ≤ 6 ∧ u = .int .i64 k ∧ Below W.heap.size W wr) (fun u _ => 6 - (intOf u).toNat)
  case atStart => exact ⟨0, by omega, rfl, Below.refl _ _⟩
  case round =>
    obtain ⟨k, hk, rfl, hB⟩ := hrel
    obtain ⟨p2, rfl⟩ := grow_of_below hB
    clear hB
    by_cases hk6 : k < 6
    · obtain ⟨x, fx, cx⟩ := hrow k hk6
      by_cases hx : 0 ≤ x ∧ x < 2305843009213693952
      · obtain ⟨hx0, hx1⟩ := hx
        obtain ⟨q0, q1, q2, q3⟩ := root_in hx0 hx1
        have hq0 := sq_le (a := root x + 1) (b := 1518500250) (by omega) (by omega)
        have hq1 := sq_le (a := 0) (b := root x) (by omega) (by omega)
        have hq2 := sq_le (a := 0) (b := root x + 1) (by omega) (by omega)
        go_wp2_with (first | (go_at_call 15; refine (sqrt_any _ _ fx).mono ?_; rintro e w' ⟨rfl, hb_⟩; obtain ⟨p, rfl⟩ := grow_of_below hb_; clear hb_) | (go_at_call 16; refine (rsqrt_any _ _ fx).mono ?_; rintro e w' ⟨rfl, hb_⟩; obtain ⟨p, rfl⟩ := grow_of_below hb_; clear hb_))
        go_roundw
        case rel => exact ⟨k + 1, by omega, by go_num, (by repeat' (first | with_reducible exact Below.refl _ _ | with_reducible exact Nat.le_refl _ | with_reducible assumption | with_reducible refine Go.below_growBy' ?_ ?_ _ | with_reducible refine Below.alloc ?_ ?_ _ | with_reducible refine Below.setCell ?_ ?_ _ | with_reducible refine Below.drew ?_ | with_reducible refine Go.le_alloc ?_ | with_reducible refine Go.le_growBy ?_ | with_reducible refine Go.le_setCell ?_ | with_reducible refine Go.le_drew ?_ | omega))⟩
        case measure => simp [intOf]; omega
      · by_cases hx0 : 0 ≤ x
        · have hx1 : ¬ x < 2305843009213693952 := fun h => hx ⟨hx0, h⟩
          clear hx
          go_wp2_with (first | (go_at_call 15; refine (sqrt_any _ _ fx).mono ?_; rintro e w' ⟨rfl, hb_⟩; obtain ⟨p, rfl⟩ := grow_of_below hb_; clear hb_) | (go_at_call 16; refine (rsqrt_any _ _ fx).mono ?_; rintro e w' ⟨rfl, hb_⟩; obtain ⟨p, rfl⟩ := grow_of_below hb_; clear hb_))
          go_roundw
          case rel => exact ⟨k + 1, by omega, by go_num, (by repeat' (first | with_reducible exact Below.refl _ _ | with_reducible exact Nat.le_refl _ | with_reducible assumption | with_reducible refine Go.below_growBy' ?_ ?_ _ | with_reducible refine Below.alloc ?_ ?_ _ | with_reducible refine Below.setCell ?_ ?_ _ | with_reducible refine Below.drew ?_ | with_reducible refine Go.le_alloc ?_ | with_reducible refine Go.le_growBy ?_ | with_reducible refine Go.le_setCell ?_ | with_reducible refine Go.le_drew ?_ | omega))⟩
          case measure => simp [intOf]; omega
        · clear hx
          go_wp2_with (first | (go_at_call 15; refine (sqrt_any _ _ fx).mono ?_; rintro e w' ⟨rfl, hb_⟩; obtain ⟨p, rfl⟩ := grow_of_below hb_; clear hb_) | (go_at_call 16; refine (rsqrt_any _ _ fx).mono ?_; rintro e w' ⟨rfl, hb_⟩; obtain ⟨p, rfl⟩ := grow_of_below hb_; clear hb_))
          go_roundw
          case rel => exact ⟨k + 1, by omega, by go_num, (by repeat' (first | with_reducible exact Below.refl _ _ | with_reducible exact Nat.le_refl _ | with_reducible assumption | with_reducible refine Go.below_growBy' ?_ ?_ _ | with_reducible refine Below.alloc ?_ ?_ _ | with_reducible refine Below.setCell ?_ ?_ _ | with_reducible refine Below.drew ?_ | with_reducible refine Go.le_alloc ?_ | with_reducible refine Go.le_growBy ?_ | with_reducible refine Go.le_setCell ?_ | with_reducible refine Go.le_drew ?_ | omega))⟩
          case measure => simp [intOf]; omega
    · go_wp2_with fail
      go_ret
      exact ⟨rfl, (below_growBy W p2).mono hB0.size |> hB0.trans⟩
end Go.Proofs.Ytddkbmaoeppckaa
namespace Go.Proofs.Ytddkbmaoeppckaa.exactRoots
open Go.ChangeShapes Go.WideShapes Go.ChangeAt Go.RowKit
set_option linter.unusedVariables false

theorem own : ownKnob Try.prog.godebug = none := by kernel_rfl
theorem laidOut : laidOutB Try.prog = true := by kernel_rfl

theorem walk (W : World) (base : Nat) (args : Array Value) (hval : ∀ (j : Nat) t v, Try.f6.params[j]? = some t → args[j]? = some v → Value.okWide Try.prog W .any base t v) (hsz : args.toList.length = 1) :
    Calls Try.prog 6 args W fun e W' => e = .returned (.bool true) ∧ Below W.heap.size W W' := by
  obtain ⟨v0, rfl⟩ : ∃ v0, args = #[v0] := by
    match args, hsz with
    | ⟨[v0]⟩, _ => exact ⟨v0, rfl⟩
  obtain ⟨n, rfl, hn⟩ := okWide_int_has Try.underlying3 (hval 0 3 v0 rfl rfl)
  exact roots_any n W hn

set_option maxRecDepth 100000 in
theorem lifted (os : Os) (started : os.Started) (H : Type) (enc : TypeId × Value → H) :
    ReturnsInHanded {} Try.checked os 6 .any (Rows.exactRootsSpec.pre6 enc Try.prog Try.f6 Rows.exactRootsRow.domain false) (Rows.exactRootsSpec.post enc Try.prog Try.f6 false true false false) := by
  refine returnsInHanded_of_change (C := Try.checked) own started (by kernel_rfl) Try.func6
    (ChangeSpec.witness6 (enc := enc) (C := Try.checked) false ⟨#[], #[.int .i64 0], []⟩ 8 (by kernel_rfl) (by kernel_rfl) (by kernel_rfl) (by kernel_rfl)) ?_
  intro W base args ds gs before hval0 hW hcnd _
  exact law_calls 4 laidOut (by kernel_rfl) rfl rfl Try.underlying4 (fun ds h => match ds, h with | [_], _ => rfl) hW (fun hsz _ => walk W base args hval0 hsz)

theorem over : Rows.exactRootsRow.holds Try.pinned (OpenSpec.ofChange Rows.exactRootsSpec) :=
  OpenClaim.holds_of_wide 6 Try.f6 rfl rfl rfl rfl rfl rfl rfl ⟨rfl, rfl, rfl, rfl, rfl⟩ rfl rfl rfl rfl rfl (by kernel_rfl) Try.func6 (by kernel_rfl)
    (of_decide_eq_true (by kernel_rfl)) (by unfold Func.isWrapper; first | (rw [if_pos (by decide +kernel)]; kernel_rfl) | (rw [if_neg (by decide +kernel)]; exact ⟨rfl, rfl⟩))
    (fun os started H enc _ => lifted os started H enc)

theorem proved : Rows.ExactRootsSaid := over
#print axioms proved
end Go.Proofs.Ytddkbmaoeppckaa.exactRoots
