/-
  hachureref05: Cross and Check: what they return.
  hachureref05.Check: it returns.
-/
import Derived.Test.YtjfdbigkbgolmaaGreatDoorZr
import Derived.Test.YtjfdbigkbgolmaaGreatDoorZd

namespace Go.Proofs.YtjfdbigkbgolmaaGreatDoor
set_option linter.unusedVariables false
set_option linter.unusedSimpArgs false
open Go.RowKit Go.Shelf Go.Maps
attribute [local go_sem] Oper.semAt_some
attribute [local go_sem ↓] Go.wp_at_zero Go.wp_at_succ

/-- points at an address, whatever the world that has only grown -/
theorem Pts.at_ {n₀ : Nat} {w : World} {a : Option Addr} {ps : List Spot} {cap : Nat} (h : Pts n₀ w (.slice a ps.length cap) ps) (h0 : 0 < ps.length) : ∃ b off, a = some ⟨b, off, none⟩ ∧ ∀ X, Below n₀ w X → ∀ j, (h : j < ps.length) → X.cell? ⟨b, off + j * 2, none⟩ = some (.int .i64 ps[j].1) ∧ X.cell? ⟨b, off + j * 2 + 1, none⟩ = some (.int .i64 ps[j].2) := by
  obtain ⟨a', cap', e, hp⟩ := h
  simp only [Value.slice.injEq, true_and] at e
  obtain ⟨rfl, rfl⟩ := e
  obtain ⟨b, off, rfl, hb, -⟩ := hp 0 h0
  refine ⟨b, off, rfl, fun X hX j hj => ?_⟩
  obtain ⟨b', off', e, hb', y0, y1⟩ := hp j hj
  simp only [Option.some.injEq, Addr.mk.injEq, and_true] at e
  obtain ⟨rfl, rfl⟩ := e
  exact ⟨(hX.cell (p := ⟨b, off + j * 2, none⟩) hb).trans y0, (hX.cell (p := ⟨b, off + j * 2 + 1, none⟩) hb).trans y1⟩
set_option maxRecDepth 100000 in
set_option maxHeartbeats 4000000 in
theorem rcross_any (lv mv : Value) (ps qs : List Spot) (n₀ : Nat) (w : World) (hn : n₀ ≤ w.heap.size) (h : Pts n₀ w lv ps) (h2 : Pts n₀ w mv qs) (hl : ps.length ≤ 1000) (hl2 : qs.length ≤ 1000) :
    Calls Tryz.prog 88 #[lv, mv] w fun e w' => SomeB e ∧ Below w.heap.size w w' := by
  have hlI : (ps.length : Int) ≤ 1000 := by omega
  have hl2I : (qs.length : Int) ≤ 1000 := by omega
  have hf1 := fun X (hX : Below w.heap.size w X) => rfine_any lv ps n₀ X (h.below (hX.mono hn)) (Nat.le_trans hn hX.size) hl
  have hf2 := fun X (hX : Below w.heap.size w X) => rfine_any mv qs n₀ X (h2.below (hX.mono hn)) (Nat.le_trans hn hX.size) hl2
  obtain ⟨r1, hr1⟩ : ∃ r, rightL ps = r := ⟨_, rfl⟩
  obtain ⟨r2, hr2⟩ : ∃ r, rightL qs = r := ⟨_, rfl⟩
  rw [hr1] at hf1
  rw [hr2] at hf2
  clear hr1 hr2
  have hend := fun (i k : Nat) X (hX : Below w.heap.size w X) (hi : i + 1 < ps.length) (hk : k + 1 < qs.length) => rend_any lv mv ps qs i k n₀ X (Nat.le_trans hn hX.size) (h.below (hX.mono hn)) (h2.below (hX.mono hn)) hl hl2 hi hk
  have hlv : ∃ a cap, lv = .slice a ps.length cap := by obtain ⟨a, cap, e, -⟩ := h; exact ⟨a, cap, e⟩
  have hmv : ∃ a cap, mv = .slice a qs.length cap := by obtain ⟨a, cap, e, -⟩ := h2; exact ⟨a, cap, e⟩
  obtain ⟨a, cap, rfl⟩ := hlv
  obtain ⟨a2, cap2, rfl⟩ := hmv
  replace hend := Lib.hid hend
  cases r1 with
  | false =>
    go_enter Tryz.func88, Tryz.ntmps88
    go_wp2_with (first | (go_at_call 113; refine (hf1 _ (by repeat' (first | with_reducible exact Below.refl _ _ | with_reducible exact Nat.le_refl _ | with_reducible assumption | with_reducible refine Go.below_growBy' ?_ ?_ _ | with_reducible refine Below.alloc ?_ ?_ _ | with_reducible refine Below.setCell ?_ ?_ _ | with_reducible refine Below.drew ?_ | with_reducible refine Go.le_alloc ?_ | with_reducible refine Go.le_growBy ?_ | with_reducible refine Go.le_setCell ?_ | with_reducible refine Go.le_drew ?_ | omega | (dsimp only; omega)))).mono ?_; rintro e w' ⟨rfl, hb_⟩; obtain ⟨p, rfl⟩ := grow_of_below hb_; clear hb_) | fail)
    go_ret
    exact ⟨SomeB.mk _, (by repeat' (first | with_reducible exact Below.refl _ _ | with_reducible exact Nat.le_refl _ | with_reducible assumption | with_reducible refine Go.below_growBy' ?_ ?_ _ | with_reducible refine Below.alloc ?_ ?_ _ | with_reducible refine Below.setCell ?_ ?_ _ | with_reducible refine Below.drew ?_ | with_reducible refine Go.le_alloc ?_ | with_reducible refine Go.le_growBy ?_ | with_reducible refine Go.le_setCell ?_ | with_reducible refine Go.le_drew ?_ | omega | (dsimp only; omega)))⟩
  | true =>
  cases r2 with
  | false =>
    go_enter Tryz.func88, Tryz.ntmps88
    go_wp2_with (first
      | (go_at_call 113; with_reducible refine (hf1 _ ?_).mono ?_; exact (by repeat' (first | with_reducible exact Below.refl _ _ | with_reducible exact Nat.le_refl _ | with_reducible assumption | with_reducible refine Go.below_growBy' ?_ ?_ _ | with_reducible refine Below.alloc ?_ ?_ _ | with_reducible refine Below.setCell ?_ ?_ _ | with_reducible refine Below.drew ?_ | with_reducible refine Go.le_alloc ?_ | with_reducible refine Go.le_growBy ?_ | with_reducible refine Go.le_setCell ?_ | with_reducible refine Go.le_drew ?_ | omega | (dsimp only; omega))); rintro e w' ⟨rfl, hb_⟩; obtain ⟨p, rfl⟩ := grow_of_below hb_; clear hb_)
      | (go_at_call 113; with_reducible refine (hf2 _ ?_).mono ?_; exact (by repeat' (first | with_reducible exact Below.refl _ _ | with_reducible exact Nat.le_refl _ | with_reducible assumption | with_reducible refine Go.below_growBy' ?_ ?_ _ | with_reducible refine Below.alloc ?_ ?_ _ | with_reducible refine Below.setCell ?_ ?_ _ | with_reducible refine Below.drew ?_ | with_reducible refine Go.le_alloc ?_ | with_reducible refine Go.le_growBy ?_ | with_reducible refine Go.le_setCell ?_ | with_reducible refine Go.le_drew ?_ | omega | (dsimp only; omega))); rintro e w' ⟨rfl, hb_⟩; obtain ⟨p, rfl⟩ := grow_of_below hb_; clear hb_)
      | fail)
    go_ret
    exact ⟨SomeB.mk _, (by repeat' (first | with_reducible exact Below.refl _ _ | with_reducible exact Nat.le_refl _ | with_reducible assumption | with_reducible refine Go.below_growBy' ?_ ?_ _ | with_reducible refine Below.alloc ?_ ?_ _ | with_reducible refine Below.setCell ?_ ?_ _ | with_reducible refine Below.drew ?_ | with_reducible refine Go.le_alloc ?_ | with_reducible refine Go.le_growBy ?_ | with_reducible refine Go.le_setCell ?_ | with_reducible refine Go.le_drew ?_ | omega | (dsimp only; omega)))⟩
  | true =>
    go_enter Tryz.func88, Tryz.ntmps88
    go_upto_region 4 with (first
      | (go_at_call 113; with_reducible refine (hf1 _ ?_).mono ?_; exact (by repeat' (first | with_reducible exact Below.refl _ _ | with_reducible exact Nat.le_refl _ | with_reducible assumption | with_reducible refine Go.below_growBy' ?_ ?_ _ | with_reducible refine Below.alloc ?_ ?_ _ | with_reducible refine Below.setCell ?_ ?_ _ | with_reducible refine Below.drew ?_ | with_reducible refine Go.le_alloc ?_ | with_reducible refine Go.le_growBy ?_ | with_reducible refine Go.le_setCell ?_ | with_reducible refine Go.le_drew ?_ | omega | (dsimp only; omega))); rintro e w' ⟨rfl, hb_⟩; obtain ⟨p, rfl⟩ := grow_of_below hb_; clear hb_)
      | (go_at_call 113; with_reducible refine (hf2 _ ?_).mono ?_; exact (by repeat' (first | with_reducible exact Below.refl _ _ | with_reducible exact Nat.le_refl _ | with_reducible assumption | with_reducible refine Go.below_growBy' ?_ ?_ _ | with_reducible refine Below.alloc ?_ ?_ _ | with_reducible refine Below.setCell ?_ ?_ _ | with_reducible refine Below.drew ?_ | with_reducible refine Go.le_alloc ?_ | with_reducible refine Go.le_growBy ?_ | with_reducible refine Go.le_setCell ?_ | with_reducible refine Go.le_drew ?_ | omega | (dsimp only; omega))); rintro e w' ⟨rfl, hb_⟩; obtain ⟨p, rfl⟩ := grow_of_below hb_; clear hb_)
      | fail)
    refine wp_world (fun W0 hW0 => ?_)
    have hB0 : Below w.heap.size w W0 := by
      rw [hW0]
      exact (by repeat' (first | with_reducible exact Below.refl _ _ | with_reducible exact Nat.le_refl _ | with_reducible assumption | with_reducible refine Go.below_growBy' ?_ ?_ _ | with_reducible refine Below.alloc ?_ ?_ _ | with_reducible refine Below.setCell ?_ ?_ _ | with_reducible refine Below.drew ?_ | with_reducible refine Go.le_alloc ?_ | with_reducible refine Go.le_growBy ?_ | with_reducible refine Go.le_setCell ?_ | with_reducible refine Go.le_drew ?_ | omega | (dsimp only; omega)))
    clear hW0 hf1 hf2
    go_loopw [5] (fun t wr => ∃ i : Nat, i ≤ ps.length ∧ t = .int .i64 (i : Nat) ∧ Below w.heap.size w wr) (fun t _ => ps.length - (intOf t).toNat)
    case atStart => exact ⟨0, Nat.zero_le _, rfl, hB0⟩
    case round =>
      clear hB0
      obtain ⟨i, hi, rfl, hB⟩ := hrel
      obtain ⟨i1, hi1⟩ : ∃ i1, i + 1 = i1 := ⟨_, rfl⟩
      have hwi : IntKind.i64.wrap ((i : Int) + 1) = (i1 : Nat) := (wrap_in7 (by omega) (by omega)).trans (by omega)
      have hii : (i : Int) + 1 = (i1 : Nat) := by omega
      by_cases hlt : i1 < ps.length
      · have hiI : (i : Int) < (ps.length : Int) := by omega
        have hi1I : (i1 : Int) < (ps.length : Int) := by omega
        obtain ⟨b, off, rfl, hpi⟩ := h.at_ (by omega)
        go_wp2_with fail
        go_loopw [6] (fun t wx => ∃ k : Nat, k ≤ qs.length ∧ t = .int .i64 (k : Nat) ∧ Below w.heap.size w wx) (fun t _ => qs.length - (intOf t).toNat)
        case atStart => exact ⟨0, Nat.zero_le _, rfl, hB⟩
        case round =>
          clear hB
          obtain ⟨k, hk, rfl, hB⟩ := hrel
          obtain ⟨j1, hj1⟩ : ∃ j1, k + 1 = j1 := ⟨_, rfl⟩
          have hwk : IntKind.i64.wrap ((k : Int) + 1) = (j1 : Nat) := (wrap_in7 (by omega) (by omega)).trans (by omega)
          have hkk : (k : Int) + 1 = (j1 : Nat) := by omega
          have hsz := hB.size
          by_cases hlk : j1 < qs.length
          · have hkI : (k : Int) < (qs.length : Int) := by omega
            have hk1I : (j1 : Int) < (qs.length : Int) := by omega
            obtain ⟨c, of2, rfl, hqi⟩ := h2.at_ (by omega)
            obtain ⟨p0, p1⟩ := hpi _ (hB.mono hn) i (by omega)
            obtain ⟨p2, p3⟩ := hpi _ (hB.mono hn) i1 (by omega)
            obtain ⟨q0, q1⟩ := hqi _ (hB.mono hn) k (by omega)
            obtain ⟨q2, q3⟩ := hqi _ (hB.mono hn) j1 (by omega)
            generalize ps[i] = P0 at *
            generalize ps[i1] = P1 at *
            generalize qs[k] = Q0 at *
            generalize qs[j1] = Q1 at *
            obtain ⟨P0x, P0y⟩ := P0
            obtain ⟨P1x, P1y⟩ := P1
            obtain ⟨Q0x, Q0y⟩ := Q0
            obtain ⟨Q1x, Q1y⟩ := Q1
            simp only at p0 p1 p2 p3 q0 q1 q2 q3
            clear hpi hqi
            replace hi1 := Lib.hid hi1
            replace hj1 := Lib.hid hj1
            go_upto_region 9 with fail
            first | with_reducible refine wp_region_grow_tail2 18 (by kernel_rfl) (by kernel_rfl) ?_ | with_reducible refine wp_region_grow_tail 18 (by kernel_rfl) (by kernel_rfl) ?_
            simp only [List.take_succ_cons, List.take_zero, List.drop_succ_cons, List.drop_zero]
            repeat (first | go_big_quiet_step (fail) | quiet_step (fail))
            refine wpQuiet_nil ?_
            intro _ hw_
            obtain ⟨p, hw_⟩ := hw_
            subst hw_
            go_upto_region 10 with (first | (go_at_call 115; refine (rmeet_any _ _ _ _ _ _ _ _ _).mono ?_; rintro e w3 ⟨⟨r, rfl, r0, r1⟩, hb3⟩) | fail)
            have hB3 : Below w.heap.size w w3 := Below.trans (b := wr.growBy p) (below_growBy' hB hsz p) (hb3.mono (by simp; omega))
            have hB3s := hB3.size
            clear hb3 p0 p1 p2 p3 q0 q1 q2 q3
            by_cases hr2 : r = 2
            · subst hr2
              go_wp2_with fail
              go_ret
              exact ⟨SomeB.mk _, hB3⟩
            · have hr2b : (r == 2) = false := by simpa using hr2
              by_cases hr1 : r = 1
              · subst hr1
                go_wp2_with (first | (go_at_call 116; refine (hend.out i k _ hB3 (by have := hi1.out; omega) (by have := hj1.out; omega)).mono ?_; rintro e w4 ⟨⟨b4, rfl⟩, hb4⟩) | fail)
                · go_ret
                  exact ⟨SomeB.mk _, hB3.trans (hb4.mono hB3s)⟩
                · have hj := hj1.out
                  refine ⟨⟨j1, by omega, rfl, hB3.trans (hb4.mono hB3s)⟩, ?_⟩
                  simp [intOf]
                  omega
              · have hr1b : (r == 1) = false := by simpa using hr1
                go_wp2_with fail
                go_roundw
                case rel => exact ⟨k + 1, by have := hj1.out; omega, by go_num, hB3⟩
                case measure => simp [intOf]; try omega
          · go_wp2_with fail
            go_roundw
            case rel => exact ⟨i + 1, by omega, by go_num, hB⟩
            case measure => simp [intOf]; try omega
      · go_wp2_with fail
        go_ret
        exact ⟨SomeB.mk _, hB⟩

end Go.Proofs.YtjfdbigkbgolmaaGreatDoor
namespace Go.Proofs.YtjfdbigkbgolmaaGreatDoor
set_option linter.unusedVariables false
set_option linter.unusedSimpArgs false
open Go.RowKit Go.Shelf Go.Maps
attribute [local go_sem] Oper.semAt_some
attribute [local go_sem ↓] Go.wp_at_zero Go.wp_at_succ

def FMt (b off n cap k k1 m m1 : Nat) (wt P0x P0y P1x P1y Q0x Q0y Q1x Q1y : Int) (i : Nat) (v : Value) (w : World) : Prop :=
  match i with
  | 0 => v = .slice (some ⟨b, off, none⟩) n cap
  | 1 => v = .int .i64 (k : Nat)
  | 2 => v = .pointer (some ⟨b, off + k * 2, none⟩)
  | 3 => v = .agg #[.int .i64 P0x, .int .i64 P0y]
  | 4 => v = .slice (some ⟨b, off, none⟩) n cap
  | 5 => v = .int .i64 (k : Nat)
  | 6 => v = .int .i64 (k1 : Nat)
  | 7 => v = .pointer (some ⟨b, off + k1 * 2, none⟩)
  | 8 => v = .agg #[.int .i64 P1x, .int .i64 P1y]
  | 9 => v = .slice (some ⟨b, off, none⟩) n cap
  | 10 => v = .int .i64 (m : Nat)
  | 11 => v = .pointer (some ⟨b, off + m * 2, none⟩)
  | 12 => v = .agg #[.int .i64 Q0x, .int .i64 Q0y]
  | 13 => v = .slice (some ⟨b, off, none⟩) n cap
  | 14 => v = .int .i64 (m : Nat)
  | 15 => v = .int .i64 (m1 : Nat)
  | 16 => v = .pointer (some ⟨b, off + m1 * 2, none⟩)
  | 17 => v = .agg #[.int .i64 Q1x, .int .i64 Q1y]
  | 18 => ∃ r : Int, v = .int .i64 r
  | 19 => v = .int .i64 wt
  | _ => False
theorem FMt.kept {b off n cap k k1 m m1 : Nat} {wt P0x P0y P1x P1y Q0x Q0y Q1x Q1y : Int} {i : Nat} {v : Value} {w w' : World} (h : FMt b off n cap k k1 m m1 wt P0x P0y P1x P1y Q0x Q0y Q1x Q1y i v w) (hg : w.grownBy w' none) : FMt b off n cap k k1 m m1 wt P0x P0y P1x P1y Q0x Q0y Q1x Q1y i v w' := by
  unfold FMt at *
  split at h
  all_goals first | exact h | (exact h)
set_option maxRecDepth 100000 in
set_option maxHeartbeats 8000000 in
theorem rcheck5_any (lv : Value) (ps : List Spot) (n₀ : Nat) (w : World) (hn : n₀ ≤ w.heap.size) (h : Pts n₀ w lv ps) (hl : ps.length ≤ 1000) :
    Calls Tryz.prog 87 #[lv] w fun e w' => (∃ r : Int, e = .returned (.int .i64 r)) ∧ Below w.heap.size w w' := by
  have hlI : (ps.length : Int) ≤ 1000 := by omega
  have hf1 := fun X (hX : Below w.heap.size w X) => rfine_any lv ps n₀ X (h.below (hX.mono hn)) (Nat.le_trans hn hX.size) hl
  have hcl := fun X (hX : Below w.heap.size w X) => rclosed_any lv ps n₀ X (h.below (hX.mono hn)) hl
  obtain ⟨r1, hr1⟩ : ∃ r, rightL ps = r := ⟨_, rfl⟩
  obtain ⟨cl, hcle⟩ : ∃ r, closedF ps = r := ⟨_, rfl⟩
  rw [hr1] at hf1
  rw [hcle] at hcl
  clear hr1 hcle
  have hlv : ∃ a cap, lv = .slice a ps.length cap := by obtain ⟨a, cap, e, -⟩ := h; exact ⟨a, cap, e⟩
  obtain ⟨a, cap, rfl⟩ := hlv
  by_cases h2 : ps.length < 2
  · have h2I : (ps.length : Int) < 2 := by omega
    go_enter Tryz.func87, Tryz.ntmps87
    go_wp2_with fail
    go_ret
    exact ⟨⟨_, rfl⟩, (by repeat' (first | with_reducible exact Below.refl _ _ | with_reducible exact Nat.le_refl _ | with_reducible assumption | with_reducible refine Go.below_growBy' ?_ ?_ _ | with_reducible refine Below.alloc ?_ ?_ _ | with_reducible refine Below.setCell ?_ ?_ _ | with_reducible refine Below.drew ?_ | with_reducible refine Go.le_alloc ?_ | with_reducible refine Go.le_growBy ?_ | with_reducible refine Go.le_setCell ?_ | with_reducible refine Go.le_drew ?_ | omega | (dsimp only; omega)))⟩
  · have h2I : ¬ (ps.length : Int) < 2 := by omega
    by_cases h40 : 40 < ps.length
    · have h40I : (40 : Int) < (ps.length : Int) := by omega
      go_enter Tryz.func87, Tryz.ntmps87
      go_wp2_with fail
      go_ret
      exact ⟨⟨_, rfl⟩, (by repeat' (first | with_reducible exact Below.refl _ _ | with_reducible exact Nat.le_refl _ | with_reducible assumption | with_reducible refine Go.below_growBy' ?_ ?_ _ | with_reducible refine Below.alloc ?_ ?_ _ | with_reducible refine Below.setCell ?_ ?_ _ | with_reducible refine Below.drew ?_ | with_reducible refine Go.le_alloc ?_ | with_reducible refine Go.le_growBy ?_ | with_reducible refine Go.le_setCell ?_ | with_reducible refine Go.le_drew ?_ | omega | (dsimp only; omega)))⟩
    · have h40I : ¬ (40 : Int) < (ps.length : Int) := by omega
      cases r1 with
      | false =>
        go_enter Tryz.func87, Tryz.ntmps87
        go_wp2_with (first | (go_at_call 113; refine (hf1 _ (by repeat' (first | with_reducible exact Below.refl _ _ | with_reducible exact Nat.le_refl _ | with_reducible assumption | with_reducible refine Go.below_growBy' ?_ ?_ _ | with_reducible refine Below.alloc ?_ ?_ _ | with_reducible refine Below.setCell ?_ ?_ _ | with_reducible refine Below.drew ?_ | with_reducible refine Go.le_alloc ?_ | with_reducible refine Go.le_growBy ?_ | with_reducible refine Go.le_setCell ?_ | with_reducible refine Go.le_drew ?_ | omega | (dsimp only; omega)))).mono ?_; rintro e w' ⟨rfl, hb_⟩; obtain ⟨p, rfl⟩ := grow_of_below hb_; clear hb_) | fail)
        go_ret
        exact ⟨⟨_, rfl⟩, (by repeat' (first | with_reducible exact Below.refl _ _ | with_reducible exact Nat.le_refl _ | with_reducible assumption | with_reducible refine Go.below_growBy' ?_ ?_ _ | with_reducible refine Below.alloc ?_ ?_ _ | with_reducible refine Below.setCell ?_ ?_ _ | with_reducible refine Below.drew ?_ | with_reducible refine Go.le_alloc ?_ | with_reducible refine Go.le_growBy ?_ | with_reducible refine Go.le_setCell ?_ | with_reducible refine Go.le_drew ?_ | omega | (dsimp only; omega)))⟩
      | true =>
        obtain ⟨b, off, rfl, hpi⟩ := h.at_ (by omega)
        obtain ⟨L2, hL2⟩ : ∃ L2 : Nat, ps.length = L2 + 2 := ⟨ps.length - 2, by omega⟩
        have hL2I : (ps.length : Int) - 2 = (L2 : Nat) := by omega
        have hwL : IntKind.i64.wrap (L2 : Int) = L2 := wrap_in7 (by omega) (by omega)
        go_enter Tryz.func87, Tryz.ntmps87
        replace hL2 := Lib.hid hL2
        go_upto_region 7 with (first | (go_at_call 113; refine (hf1 _ (by repeat' (first | with_reducible exact Below.refl _ _ | with_reducible exact Nat.le_refl _ | with_reducible assumption | with_reducible refine Go.below_growBy' ?_ ?_ _ | with_reducible refine Below.alloc ?_ ?_ _ | with_reducible refine Below.setCell ?_ ?_ _ | with_reducible refine Below.drew ?_ | with_reducible refine Go.le_alloc ?_ | with_reducible refine Go.le_growBy ?_ | with_reducible refine Go.le_setCell ?_ | with_reducible refine Go.le_drew ?_ | omega | (dsimp only; omega)))).mono ?_; rintro e w' ⟨rfl, hb_⟩; obtain ⟨p, rfl⟩ := grow_of_below hb_; clear hb_) | fail)
        refine wp_world (fun W0 hW0 => ?_)
        have hB0 : Below w.heap.size w W0 := by
          rw [hW0]
          exact (by repeat' (first | with_reducible exact Below.refl _ _ | with_reducible exact Nat.le_refl _ | with_reducible assumption | with_reducible refine Go.below_growBy' ?_ ?_ _ | with_reducible refine Below.alloc ?_ ?_ _ | with_reducible refine Below.setCell ?_ ?_ _ | with_reducible refine Below.drew ?_ | with_reducible refine Go.le_alloc ?_ | with_reducible refine Go.le_growBy ?_ | with_reducible refine Go.le_setCell ?_ | with_reducible refine Go.le_drew ?_ | omega | (dsimp only; omega)))
        clear hW0 hf1
        go_loopw [4] (fun t wr => ∃ m : Nat, m ≤ ps.length ∧ t = .int .i64 (m : Nat) ∧ Below w.heap.size w wr) (fun t _ => ps.length - (intOf t).toNat)
        case atStart => exact ⟨0, Nat.zero_le _, rfl, hB0⟩
        case round =>
          clear hB0
          obtain ⟨m, hi, rfl, hB⟩ := hrel
          obtain ⟨m1, hi1⟩ : ∃ m1, m + 1 = m1 := ⟨_, rfl⟩
          have hwi : IntKind.i64.wrap ((m : Int) + 1) = (m1 : Nat) := (wrap_in7 (by omega) (by omega)).trans (by omega)
          have hii : (m : Int) + 1 = (m1 : Nat) := by omega
          have hsz := hB.size
          by_cases hlt : m ≤ L2
          · have hltI : (m : Int) ≤ (L2 : Int) := by omega
            have hiI : (m : Int) < (ps.length : Int) := by have := hL2.out; omega
            have hi1I : (m1 : Int) < (ps.length : Int) := by have := hL2.out; omega
            have hil : m < ps.length := by omega
            have hi1l : m1 < ps.length := by omega
            obtain ⟨q0, q1⟩ := hpi _ (hB.mono hn) m hil
            obtain ⟨q2, q3⟩ := hpi _ (hB.mono hn) m1 hi1l
            have hQ0 : ∀ X, Below w.heap.size w X → X.cell? ⟨b, off + m * 2, none⟩ = some (.int .i64 ps[m].1) ∧ X.cell? ⟨b, off + m * 2 + 1, none⟩ = some (.int .i64 ps[m].2) := fun X hX => hpi X (hX.mono hn) m hil
            have hQ1 : ∀ X, Below w.heap.size w X → X.cell? ⟨b, off + m1 * 2, none⟩ = some (.int .i64 ps[m1].1) ∧ X.cell? ⟨b, off + m1 * 2 + 1, none⟩ = some (.int .i64 ps[m1].2) := fun X hX => hpi X (hX.mono hn) m1 hi1l
            generalize ps[m] = Q0 at *
            generalize ps[m1] = Q1 at *
            obtain ⟨Q0x, Q0y⟩ := Q0
            obtain ⟨Q1x, Q1y⟩ := Q1
            simp only at q0 q1 q2 q3 hQ0 hQ1
            replace hi1 := Lib.hid hi1
            obtain ⟨t1, ht1⟩ : ∃ t, (decide (Q0x = Q1x) && decide (Q0y = Q1y)) = t := ⟨_, rfl⟩
            have hE1 := fun W => (eqlPt Q0x Q0y Q1x Q1y W).trans (by rw [ht1])
            have hG := guardPt
            clear ht1
            go_upto_region 9 with fail
            cases t1 with
            | true =>
              first | with_reducible refine wp_region_grow2 (by kernel_rfl) (by kernel_rfl) ?_ | with_reducible refine wp_region_grow (by kernel_rfl) (by kernel_rfl) ?_
              repeat (first | go_big_quiet_step (fail) | quiet_step (fail))
              refine wpQuiet_nil ?_
              intro _ hw_
              obtain ⟨p, hw_⟩ := hw_
              subst hw_
              go_wp2_with fail
              go_ret
              exact ⟨⟨_, rfl⟩, below_growBy' hB hsz _⟩
            | false =>
              first | with_reducible refine wp_region_grow2 (by kernel_rfl) (by kernel_rfl) ?_ | with_reducible refine wp_region_grow (by kernel_rfl) (by kernel_rfl) ?_
              repeat (first | go_big_quiet_step (fail) | quiet_step (fail))
              refine wpQuiet_nil ?_
              intro _ hw_
              obtain ⟨p, hw_⟩ := hw_
              subst hw_
              go_wp2_with fail
              refine wp_world (fun W5 hW5 => ?_)
              have hB5 : Below w.heap.size w W5 := by
                rw [hW5]
                exact below_growBy' hB hsz _
              clear hW5 q0 q1 q2 q3 hE1 hG hB hsz
              go_loopw [5] (fun t wx => ∃ k : Nat, k ≤ m ∧ t = .int .i64 (k : Nat) ∧ Below w.heap.size w wx) (fun t _ => m - (intOf t).toNat)
              case atStart => exact ⟨0, Nat.zero_le _, rfl, hB5⟩
              case round =>
                clear hB5
                obtain ⟨k, hk, rfl, hB⟩ := hrel
                have hsz := hB.size
                by_cases hki : k < m
                · have hkiI : (k : Int) < (m : Int) := by omega
                  obtain ⟨k1, hk1⟩ : ∃ k1, k + 1 = k1 := ⟨_, rfl⟩
                  have hwk : IntKind.i64.wrap ((k : Int) + 1) = (k1 : Nat) := (wrap_in7 (by omega) (by omega)).trans (by omega)
                  have hkk : (k : Int) + 1 = (k1 : Nat) := by omega
                  have hkl : k < ps.length := by omega
                  have hk1l : k1 < ps.length := by omega
                  have hkI : (k : Int) < (ps.length : Int) := by omega
                  have hk1I : (k1 : Int) < (ps.length : Int) := by omega
                  replace hk1 := Lib.hid hk1
                  go_upto_region 15 with fail
                  go_cut [57] (fun v wx => ∃ f : Int, v = .bool (decide (f = 0)) ∧ Below w.heap.size w wx)
                  case first =>
                    by_cases e1 : k1 = m
                    · have e1I : ((k1 : Int) == (m : Int)) = true := by simp [e1]
                      replace e1 := Lib.hid e1
                      go_wp2_with fail
                      go_meet
                      exact ⟨0, rfl, (by repeat' (first | with_reducible exact Below.refl _ _ | with_reducible exact Nat.le_refl _ | with_reducible assumption | with_reducible refine Go.below_growBy' ?_ ?_ _ | with_reducible refine Below.alloc ?_ ?_ _ | with_reducible refine Below.setCell ?_ ?_ _ | with_reducible refine Below.drew ?_ | with_reducible refine Go.le_alloc ?_ | with_reducible refine Go.le_growBy ?_ | with_reducible refine Go.le_setCell ?_ | with_reducible refine Go.le_drew ?_ | omega | (dsimp only; omega)))⟩
                    · have e1I : ((k1 : Int) == (m : Int)) = false := by simp; omega
                      cases cl with
                      | false =>
                        go_wp2_with (first | (go_at_call 114; refine (hcl _ (by repeat' (first | with_reducible exact Below.refl _ _ | with_reducible exact Nat.le_refl _ | with_reducible assumption | with_reducible refine Go.below_growBy' ?_ ?_ _ | with_reducible refine Below.alloc ?_ ?_ _ | with_reducible refine Below.setCell ?_ ?_ _ | with_reducible refine Below.drew ?_ | with_reducible refine Go.le_alloc ?_ | with_reducible refine Go.le_growBy ?_ | with_reducible refine Go.le_setCell ?_ | with_reducible refine Go.le_drew ?_ | omega | (dsimp only; omega)))).mono ?_; rintro e w' ⟨rfl, hb_⟩; obtain ⟨p, rfl⟩ := grow_of_below hb_; clear hb_) | fail)
                        go_meet
                        exact ⟨1, rfl, (by repeat' (first | with_reducible exact Below.refl _ _ | with_reducible exact Nat.le_refl _ | with_reducible assumption | with_reducible refine Go.below_growBy' ?_ ?_ _ | with_reducible refine Below.alloc ?_ ?_ _ | with_reducible refine Below.setCell ?_ ?_ _ | with_reducible refine Below.drew ?_ | with_reducible refine Go.le_alloc ?_ | with_reducible refine Go.le_growBy ?_ | with_reducible refine Go.le_setCell ?_ | with_reducible refine Go.le_drew ?_ | omega | (dsimp only; omega)))⟩
                      | true =>
                        by_cases e2 : k = 0
                        · have e2I : ((k : Int) == 0) = true := by simp; omega
                          replace e2 := Lib.hid e2
                          by_cases e3 : m = L2
                          · have e3I : ((m : Int) == (L2 : Int)) = true := by simp; omega
                            replace e3 := Lib.hid e3
                            go_wp2_with (first | (go_at_call 114; refine (hcl _ (by repeat' (first | with_reducible exact Below.refl _ _ | with_reducible exact Nat.le_refl _ | with_reducible assumption | with_reducible refine Go.below_growBy' ?_ ?_ _ | with_reducible refine Below.alloc ?_ ?_ _ | with_reducible refine Below.setCell ?_ ?_ _ | with_reducible refine Below.drew ?_ | with_reducible refine Go.le_alloc ?_ | with_reducible refine Go.le_growBy ?_ | with_reducible refine Go.le_setCell ?_ | with_reducible refine Go.le_drew ?_ | omega | (dsimp only; omega)))).mono ?_; rintro e w' ⟨rfl, hb_⟩; obtain ⟨p, rfl⟩ := grow_of_below hb_; clear hb_) | fail)
                            go_meet
                            exact ⟨0, rfl, (by repeat' (first | with_reducible exact Below.refl _ _ | with_reducible exact Nat.le_refl _ | with_reducible assumption | with_reducible refine Go.below_growBy' ?_ ?_ _ | with_reducible refine Below.alloc ?_ ?_ _ | with_reducible refine Below.setCell ?_ ?_ _ | with_reducible refine Below.drew ?_ | with_reducible refine Go.le_alloc ?_ | with_reducible refine Go.le_growBy ?_ | with_reducible refine Go.le_setCell ?_ | with_reducible refine Go.le_drew ?_ | omega | (dsimp only; omega)))⟩
                          · have e3I : ((m : Int) == (L2 : Int)) = false := by simp; omega
                            go_wp2_with (first | (go_at_call 114; refine (hcl _ (by repeat' (first | with_reducible exact Below.refl _ _ | with_reducible exact Nat.le_refl _ | with_reducible assumption | with_reducible refine Go.below_growBy' ?_ ?_ _ | with_reducible refine Below.alloc ?_ ?_ _ | with_reducible refine Below.setCell ?_ ?_ _ | with_reducible refine Below.drew ?_ | with_reducible refine Go.le_alloc ?_ | with_reducible refine Go.le_growBy ?_ | with_reducible refine Go.le_setCell ?_ | with_reducible refine Go.le_drew ?_ | omega | (dsimp only; omega)))).mono ?_; rintro e w' ⟨rfl, hb_⟩; obtain ⟨p, rfl⟩ := grow_of_below hb_; clear hb_) | fail)
                            go_meet
                            exact ⟨1, rfl, (by repeat' (first | with_reducible exact Below.refl _ _ | with_reducible exact Nat.le_refl _ | with_reducible assumption | with_reducible refine Go.below_growBy' ?_ ?_ _ | with_reducible refine Below.alloc ?_ ?_ _ | with_reducible refine Below.setCell ?_ ?_ _ | with_reducible refine Below.drew ?_ | with_reducible refine Go.le_alloc ?_ | with_reducible refine Go.le_growBy ?_ | with_reducible refine Go.le_setCell ?_ | with_reducible refine Go.le_drew ?_ | omega | (dsimp only; omega)))⟩
                        · have e2I : ((k : Int) == 0) = false := by simp; omega
                          go_wp2_with (first | (go_at_call 114; refine (hcl _ (by repeat' (first | with_reducible exact Below.refl _ _ | with_reducible exact Nat.le_refl _ | with_reducible assumption | with_reducible refine Go.below_growBy' ?_ ?_ _ | with_reducible refine Below.alloc ?_ ?_ _ | with_reducible refine Below.setCell ?_ ?_ _ | with_reducible refine Below.drew ?_ | with_reducible refine Go.le_alloc ?_ | with_reducible refine Go.le_growBy ?_ | with_reducible refine Go.le_setCell ?_ | with_reducible refine Go.le_drew ?_ | omega | (dsimp only; omega)))).mono ?_; rintro e w' ⟨rfl, hb_⟩; obtain ⟨p, rfl⟩ := grow_of_below hb_; clear hb_) | fail)
                          go_meet
                          exact ⟨1, rfl, (by repeat' (first | with_reducible exact Below.refl _ _ | with_reducible exact Nat.le_refl _ | with_reducible assumption | with_reducible refine Go.below_growBy' ?_ ?_ _ | with_reducible refine Below.alloc ?_ ?_ _ | with_reducible refine Below.setCell ?_ ?_ _ | with_reducible refine Below.drew ?_ | with_reducible refine Go.le_alloc ?_ | with_reducible refine Go.le_growBy ?_ | with_reducible refine Go.le_setCell ?_ | with_reducible refine Go.le_drew ?_ | omega | (dsimp only; omega)))⟩
                  case rest =>
                  obtain ⟨f, rfl, hB6⟩ := hcut
                  obtain ⟨W6, rfl⟩ : ∃ W, W = wc := ⟨_, rfl⟩
                  go_upto_if 57 with fail
                  go_cut [6] (fun v wx => ∃ wt : Int, v = .int .i64 wt ∧ W6 = wx)
                  case first =>
                    by_cases hf : f = 0
                    · simp only [hf, decide_true]
                      go_wp2_with fail
                      go_meet
                      exact ⟨1, rfl, rfl⟩
                    · simp only [hf, decide_false]
                      go_wp2_with fail
                      go_meet
                      exact ⟨0, rfl, rfl⟩
                  case rest =>
                  obtain ⟨wt, rfl, rfl⟩ := hcut
                  have hp0 : ∀ X, Below w.heap.size w X → X.cell? ⟨b, off + k * 2, none⟩ = some (.int .i64 ps[k].1) ∧ X.cell? ⟨b, off + k * 2 + 1, none⟩ = some (.int .i64 ps[k].2) := fun X hX => hpi X (hX.mono hn) k hkl
                  have hp1 : ∀ X, Below w.heap.size w X → X.cell? ⟨b, off + k1 * 2, none⟩ = some (.int .i64 ps[k1].1) ∧ X.cell? ⟨b, off + k1 * 2 + 1, none⟩ = some (.int .i64 ps[k1].2) := fun X hX => hpi X (hX.mono hn) k1 hk1l
                  generalize ps[k] = P0 at *
                  generalize ps[k1] = P1 at *
                  obtain ⟨P0x, P0y⟩ := P0
                  obtain ⟨P1x, P1y⟩ := P1
                  simp only at hp0 hp1
                  have cf0 := fun X hX => (hp0 X hX).1
                  have cf1 := fun X hX => (hp0 X hX).2
                  have cf2 := fun X hX => (hp1 X hX).1
                  have cf3 := fun X hX => (hp1 X hX).2
                  have cf4 := fun X hX => (hQ0 X hX).1
                  have cf5 := fun X hX => (hQ0 X hX).2
                  have cf6 := fun X hX => (hQ1 X hX).1
                  have cf7 := fun X hX => (hQ1 X hX).2
                  replace hB6 := hB6.drew
                  have hwk1 : IntKind.i64.wrap (k1 : Int) = k1 := wrap_in7 (by omega) (by omega)
                  have hwm1 : IntKind.i64.wrap (m1 : Int) = m1 := wrap_in7 (by omega) (by omega)
                  go_upto_region 17 with fail
                  obtain ⟨n, hn9⟩ : ∃ n, ps.length = n := ⟨_, rfl⟩
                  rw [hn9] at hkI hk1I hiI hi1I ⊢
                  have hn9I : (n : Int) ≤ 1000 := by omega
                  replace hn9 := Lib.hid hn9
                  refine Go.wp_region_rel 20 (by kernel_rfl) (by kernel_rfl) (fun _ W => Below w.heap.size w W) (fun w w' => w.grownBy w' none) (FMt b off n cap k k1 m m1 wt P0x P0y P1x P1y Q0x Q0y Q1x Q1y) (fun _ _ _ _ h g => h.kept g) hB6 ?_ ?_
                  · clear hpi hcl hQ0 hQ1 hp0 hp1 hB6
                    intro i9 o9 hi9 ho c9 bb W hc hM hA hD K hK
                    match i9, hi9, ho with
                    | 0, _, ho =>
                      cases ho
                      have f0 : bb.tmps[0]?.getD undef = .slice (some ⟨b, off, none⟩) n cap := evalAt (v := .slice (some ⟨b, off, none⟩) n cap) (hA.at_ (k := 0) (by kernel_rfl))
                      go_simp
                      exact hK (.slice (some ⟨b, off, none⟩) n cap) W rfl (grown_refl _) hM
                    | 1, _, ho =>
                      cases ho
                      have f5 : bb.tmps[5]?.getD undef = .int .i64 (k : Nat) := evalAt (v := .int .i64 (k : Nat)) (hA.at_ (k := 5) (by kernel_rfl))
                      go_simp
                      exact hK (.int .i64 (k : Nat)) W rfl (grown_refl _) hM
                    | 2, _, ho =>
                      cases ho
                      have f58 : bb.tmps[58]?.getD undef = .slice (some ⟨b, off, none⟩) n cap := evalAt (v := .slice (some ⟨b, off, none⟩) n cap) (dep_at hD 0 58 (by kernel_rfl) rfl rfl)
                      have f59 : bb.tmps[59]?.getD undef = .int .i64 (k : Nat) := evalAt (v := .int .i64 (k : Nat)) (dep_at hD 1 59 (by kernel_rfl) rfl rfl)
                      go_simp
                      exact hK (.pointer (some ⟨b, off + k * 2, none⟩)) W rfl (grown_refl _) hM
                    | 3, _, ho =>
                      cases ho
                      have f60 : bb.tmps[60]?.getD undef = .pointer (some ⟨b, off + k * 2, none⟩) := evalAt (v := .pointer (some ⟨b, off + k * 2, none⟩)) (dep_at hD 2 60 (by kernel_rfl) rfl rfl)
                      have z0 : W.cell? ⟨b, off + k * 2, none⟩ = some (.int .i64 P0x) := cf0 W hM
                      have z1 : W.cell? ⟨b, off + k * 2 + 1, none⟩ = some (.int .i64 P0y) := cf1 W hM
                      go_simp
                      exact hK (.agg #[.int .i64 P0x, .int .i64 P0y]) W rfl (grown_refl _) hM
                    | 4, _, ho =>
                      cases ho
                      have f0 : bb.tmps[0]?.getD undef = .slice (some ⟨b, off, none⟩) n cap := evalAt (v := .slice (some ⟨b, off, none⟩) n cap) (hA.at_ (k := 0) (by kernel_rfl))
                      go_simp
                      exact hK (.slice (some ⟨b, off, none⟩) n cap) W rfl (grown_refl _) hM
                    | 5, _, ho =>
                      cases ho
                      have f5 : bb.tmps[5]?.getD undef = .int .i64 (k : Nat) := evalAt (v := .int .i64 (k : Nat)) (hA.at_ (k := 5) (by kernel_rfl))
                      go_simp
                      exact hK (.int .i64 (k : Nat)) W rfl (grown_refl _) hM
                    | 6, _, ho =>
                      cases ho
                      have f63 : bb.tmps[63]?.getD undef = .int .i64 (k : Nat) := evalAt (v := .int .i64 (k : Nat)) (dep_at hD 5 63 (by kernel_rfl) rfl rfl)
                      go_simp
                      exact hK (.int .i64 (k1 : Nat)) W rfl (grown_refl _) hM
                    | 7, _, ho =>
                      cases ho
                      have f62 : bb.tmps[62]?.getD undef = .slice (some ⟨b, off, none⟩) n cap := evalAt (v := .slice (some ⟨b, off, none⟩) n cap) (dep_at hD 4 62 (by kernel_rfl) rfl rfl)
                      have f64 : bb.tmps[64]?.getD undef = .int .i64 (k1 : Nat) := evalAt (v := .int .i64 (k1 : Nat)) (dep_at hD 6 64 (by kernel_rfl) rfl rfl)
                      go_simp
                      exact hK (.pointer (some ⟨b, off + k1 * 2, none⟩)) W rfl (grown_refl _) hM
                    | 8, _, ho =>
                      cases ho
                      have f65 : bb.tmps[65]?.getD undef = .pointer (some ⟨b, off + k1 * 2, none⟩) := evalAt (v := .pointer (some ⟨b, off + k1 * 2, none⟩)) (dep_at hD 7 65 (by kernel_rfl) rfl rfl)
                      have z0 : W.cell? ⟨b, off + k1 * 2, none⟩ = some (.int .i64 P1x) := cf2 W hM
                      have z1 : W.cell? ⟨b, off + k1 * 2 + 1, none⟩ = some (.int .i64 P1y) := cf3 W hM
                      go_simp
                      exact hK (.agg #[.int .i64 P1x, .int .i64 P1y]) W rfl (grown_refl _) hM
                    | 9, _, ho =>
                      cases ho
                      have f0 : bb.tmps[0]?.getD undef = .slice (some ⟨b, off, none⟩) n cap := evalAt (v := .slice (some ⟨b, off, none⟩) n cap) (hA.at_ (k := 0) (by kernel_rfl))
                      go_simp
                      exact hK (.slice (some ⟨b, off, none⟩) n cap) W rfl (grown_refl _) hM
                    | 10, _, ho =>
                      cases ho
                      have f4 : bb.tmps[4]?.getD undef = .int .i64 (m : Nat) := evalAt (v := .int .i64 (m : Nat)) (hA.at_ (k := 4) (by kernel_rfl))
                      go_simp
                      exact hK (.int .i64 (m : Nat)) W rfl (grown_refl _) hM
                    | 11, _, ho =>
                      cases ho
                      have f67 : bb.tmps[67]?.getD undef = .slice (some ⟨b, off, none⟩) n cap := evalAt (v := .slice (some ⟨b, off, none⟩) n cap) (dep_at hD 9 67 (by kernel_rfl) rfl rfl)
                      have f68 : bb.tmps[68]?.getD undef = .int .i64 (m : Nat) := evalAt (v := .int .i64 (m : Nat)) (dep_at hD 10 68 (by kernel_rfl) rfl rfl)
                      go_simp
                      exact hK (.pointer (some ⟨b, off + m * 2, none⟩)) W rfl (grown_refl _) hM
                    | 12, _, ho =>
                      cases ho
                      have f69 : bb.tmps[69]?.getD undef = .pointer (some ⟨b, off + m * 2, none⟩) := evalAt (v := .pointer (some ⟨b, off + m * 2, none⟩)) (dep_at hD 11 69 (by kernel_rfl) rfl rfl)
                      have z0 : W.cell? ⟨b, off + m * 2, none⟩ = some (.int .i64 Q0x) := cf4 W hM
                      have z1 : W.cell? ⟨b, off + m * 2 + 1, none⟩ = some (.int .i64 Q0y) := cf5 W hM
                      go_simp
                      exact hK (.agg #[.int .i64 Q0x, .int .i64 Q0y]) W rfl (grown_refl _) hM
                    | 13, _, ho =>
                      cases ho
                      have f0 : bb.tmps[0]?.getD undef = .slice (some ⟨b, off, none⟩) n cap := evalAt (v := .slice (some ⟨b, off, none⟩) n cap) (hA.at_ (k := 0) (by kernel_rfl))
                      go_simp
                      exact hK (.slice (some ⟨b, off, none⟩) n cap) W rfl (grown_refl _) hM
                    | 14, _, ho =>
                      cases ho
                      have f4 : bb.tmps[4]?.getD undef = .int .i64 (m : Nat) := evalAt (v := .int .i64 (m : Nat)) (hA.at_ (k := 4) (by kernel_rfl))
                      go_simp
                      exact hK (.int .i64 (m : Nat)) W rfl (grown_refl _) hM
                    | 15, _, ho =>
                      cases ho
                      have f72 : bb.tmps[72]?.getD undef = .int .i64 (m : Nat) := evalAt (v := .int .i64 (m : Nat)) (dep_at hD 14 72 (by kernel_rfl) rfl rfl)
                      go_simp
                      exact hK (.int .i64 (m1 : Nat)) W rfl (grown_refl _) hM
                    | 16, _, ho =>
                      cases ho
                      have f71 : bb.tmps[71]?.getD undef = .slice (some ⟨b, off, none⟩) n cap := evalAt (v := .slice (some ⟨b, off, none⟩) n cap) (dep_at hD 13 71 (by kernel_rfl) rfl rfl)
                      have f73 : bb.tmps[73]?.getD undef = .int .i64 (m1 : Nat) := evalAt (v := .int .i64 (m1 : Nat)) (dep_at hD 15 73 (by kernel_rfl) rfl rfl)
                      go_simp
                      exact hK (.pointer (some ⟨b, off + m1 * 2, none⟩)) W rfl (grown_refl _) hM
                    | 17, _, ho =>
                      cases ho
                      have f74 : bb.tmps[74]?.getD undef = .pointer (some ⟨b, off + m1 * 2, none⟩) := evalAt (v := .pointer (some ⟨b, off + m1 * 2, none⟩)) (dep_at hD 16 74 (by kernel_rfl) rfl rfl)
                      have z0 : W.cell? ⟨b, off + m1 * 2, none⟩ = some (.int .i64 Q1x) := cf6 W hM
                      have z1 : W.cell? ⟨b, off + m1 * 2 + 1, none⟩ = some (.int .i64 Q1y) := cf7 W hM
                      go_simp
                      exact hK (.agg #[.int .i64 Q1x, .int .i64 Q1y]) W rfl (grown_refl _) hM
                    | 18, _, ho =>
                      cases ho
                      have f61 : bb.tmps[61]?.getD undef = .agg #[.int .i64 P0x, .int .i64 P0y] := evalAt (v := .agg #[.int .i64 P0x, .int .i64 P0y]) (dep_at hD 3 61 (by kernel_rfl) rfl rfl)
                      have f66 : bb.tmps[66]?.getD undef = .agg #[.int .i64 P1x, .int .i64 P1y] := evalAt (v := .agg #[.int .i64 P1x, .int .i64 P1y]) (dep_at hD 8 66 (by kernel_rfl) rfl rfl)
                      have f70 : bb.tmps[70]?.getD undef = .agg #[.int .i64 Q0x, .int .i64 Q0y] := evalAt (v := .agg #[.int .i64 Q0x, .int .i64 Q0y]) (dep_at hD 12 70 (by kernel_rfl) rfl rfl)
                      have f75 : bb.tmps[75]?.getD undef = .agg #[.int .i64 Q1x, .int .i64 Q1y] := evalAt (v := .agg #[.int .i64 Q1x, .int .i64 Q1y]) (dep_at hD 17 75 (by kernel_rfl) rfl rfl)
                      go_simp
                      refine (rmeet_any P0x P0y P1x P1y Q0x Q0y Q1x Q1y W).mono ?_
                      rintro e W' ⟨⟨r, rfl, -, -⟩, hb⟩
                      go_simp
                      exact hK (.int .i64 r) W' ⟨r, rfl⟩ (grownBy_of_below hb) (hM.grown (grownBy_of_below hb) hM.size (fun r e => by cases e))
                    | 19, _, ho =>
                      cases ho
                      have f6 : bb.tmps[6]?.getD undef = .int .i64 wt := evalAt (v := .int .i64 wt) (hA.at_ (k := 6) (by kernel_rfl))
                      go_simp
                      exact hK (.int .i64 wt) W rfl (grown_refl _) hM
                    | i + 20, hi, _ => exact absurd hi (by omega)
                  · intro bb W hM hA hall
                    obtain ⟨r, hr76⟩ := (show ∃ r : Int, bb.eval (.tmp 76) = .int .i64 r from hall 18 (by omega) _ _ rfl rfl)
                    have hw77 : bb.eval (.tmp 77) = .int .i64 wt := hall 19 (by omega) _ _ rfl rfl
                    have hfr := hA.frame [true, true, true, true, true, true, true, true, true, true, true, true, true, true, true, true, true, true, true, true, true, true, true, true, true, true, true, true, true, true, true, true, true, true, true, true, true, true, true, true, true, true, true, true, true, true, true, true, true, true, true, true, true, true, true, true, true, true, false, false, false, false, false, false, false, false, false, false, false, false, false, false, false, false, false, false, false, false, true] _ rfl (by kernel_rfl)
                    clear hall hA
                    obtain ⟨f9, hf9⟩ : ∃ f : Nat → Value, (fun k => bb.tmps.getD k undef) = f := ⟨_, rfl⟩
                    have g76 : f9 76 = .int .i64 r := by rw [← hf9, ← hr76]; rfl
                    have g77 : f9 77 = .int .i64 wt := by rw [← hf9, ← hw77]; rfl
                    rw [hf9] at hfr
                    clear hf9 hr76 hw77
                    subst hfr
                    simp only [pickL, g76, g77, Nat.reduceAdd]
                    clear g76 g77
                    simp only [List.drop_succ_cons, List.drop_zero]
                    have e9 := hn9.out
                    clear hn9
                    subst e9
                    by_cases he : r = wt
                    · have heb : (r != wt) = false := by simp [he]
                      replace he := Lib.hid he
                      go_wp2_with fail
                      go_roundw
                      case rel => exact ⟨k1, by have := hk1.out; omega, by first | rfl | go_num, hM⟩
                      case measure => have := hk1.out; simp [intOf]; try omega
                    · have heb : (r != wt) = true := by simp [he]
                      replace he := Lib.hid he
                      go_wp2_with fail
                      go_ret
                      exact ⟨⟨_, rfl⟩, hM⟩
                · have hkiI : ¬ (k : Int) < (m : Int) := by omega
                  go_wp2_with fail
                  go_roundw
                  case rel => exact ⟨m + 1, by omega, by go_num, hB⟩
                  case measure => have := hi1.out; simp [intOf]; omega
          · have hltI : ¬ (m : Int) ≤ (L2 : Int) := by omega
            go_wp2_with fail
            go_ret
            exact ⟨⟨_, rfl⟩, hB⟩
end Go.Proofs.YtjfdbigkbgolmaaGreatDoor
