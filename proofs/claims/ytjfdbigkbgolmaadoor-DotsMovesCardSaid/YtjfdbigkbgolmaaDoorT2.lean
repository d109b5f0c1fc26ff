/-
  Chapter 29: SameAll: whether two lists of dots are equal.
-/
import Derived.Test.YtjfdbigkbgolmaaDoorT1
namespace Go.Proofs.YtjfdbigkbgolmaaDoor
set_option linter.unusedVariables false
set_option linter.unusedSimpArgs false
open Go.RowKit Go.Shelf
attribute [local go_sem] Oper.semAt_some

set_option maxRecDepth 100000 in
theorem neqDot (dx dy dk di ex ey ek ei : Int) (w : World) : (binOp .neq 45 (.agg #[.int .i64 dx, .int .i64 dy, .int .i64 dk, .int .i64 di]) (.agg #[.int .i64 ex, .int .i64 ey, .int .i64 ek, .int .i64 ei])).run Tryd.prog w = .ok (.bool (!decide ((⟨dx, dy, dk, di⟩ : Dt) = ⟨ex, ey, ek, ei⟩))) w := by
  have u3 := Tryd.underlying3
  have a3 := Tryd.isAgg3
  have z3 := Tryd.sizeOf3
  have hS : Tryd.prog.underlying 45 = some (.struct (Tryd.prog.fieldsOf 45)) := by kernel_rfl
  have hp : Tryd.prog.stoodInHeld 45 = false := by kernel_rfl
  rw [run_neq_struct, show (10000 : Nat) = 9999 + 1 from rfl, run_equalIn_agg w 9999 45 _ _ hS hp]
  simp only [Program.fieldsOf, Tryd.underlying45]
  go_simp
  by_cases h1 : dx = ex <;> by_cases h2 : dy = ey <;> by_cases h3 : dk = ek <;> by_cases h4 : di = ei <;> simp [h1, h2, h3, h4]
theorem guardDot (op : BinOp) (a b : Operand) (xs ys : Array Value) (w : World) : (eqGuard op 45 a b (.agg xs) (.agg ys)).run Tryd.prog w = .ok () w := run_eqGuard_agg w op 45 a b xs ys (by kernel_rfl)

def sameF (a b : List Dt) : Bool := decide (a = b)

set_option maxRecDepth 100000 in
set_option maxHeartbeats 4000000 in
theorem same_any (va vb : Value) (a b : List Dt) (w : World) (ha : Dts w.heap.size w va a) (hb : Dts w.heap.size w vb b) :
    Calls Tryd.prog 17 #[va, vb] w fun e w' => e = .returned (.bool (decide (a = b))) ∧ Below w.heap.size w w' := by
  obtain ⟨la, aa, ca, rfl, ra⟩ := ha.open_
  obtain ⟨lb, ab, cb, rfl, rb⟩ := hb.open_
  obtain ⟨r, hr⟩ : ∃ r, decide (a = b) = r := ⟨_, rfl⟩
  rw [hr]
  replace hr := Lib.hid hr
  by_cases hl : a.length = b.length
  · have hlI : ((a.length : Int) == (b.length : Int)) = true := by simp [hl]
    go_enter Tryd.func17, Tryd.ntmps17
    go_wp2_with fail
    go_loopw [5] (fun i wr => ∃ k : Nat, k ≤ a.length ∧ i = .int .i64 k ∧ Below w.heap.size w wr ∧ a.take k = b.take k)
      (fun i _ => a.length - (intOf i).toNat)
    case atStart => exact ⟨0, Nat.zero_le _, rfl, Below.refl _ _, rfl⟩
    case round =>
      obtain ⟨k, hk, rfl, hB, htk⟩ := hrel
      have hsz := hB.size
      by_cases hlt : k < a.length
      · have hltI : (k : Int) < (a.length : Int) := by omega
        have hltI2 : (k : Int) < (b.length : Int) := by omega
        obtain ⟨bl, off, rfl, hbl, hrow, -, -⟩ := ra k hlt
        obtain ⟨bl2, off2, rfl, hbl2, hrow2, -, -⟩ := rb k (by omega)
        obtain ⟨c0, c1, c2, c3⟩ := hrow.below hB hbl
        obtain ⟨e0, e1, e2, e3⟩ := hrow2.below hB hbl2
        have hta := List.take_add_one (l := a) (i := k)
        have htb := List.take_add_one (l := b) (i := k)
        rw [List.getElem?_eq_getElem hlt] at hta
        rw [List.getElem?_eq_getElem (show k < b.length by omega)] at htb
        have hga : a[k]? = some a[k] := List.getElem?_eq_getElem hlt
        have hgb : b[k]? = some b[k] := List.getElem?_eq_getElem (by omega)
        obtain ⟨d, hd⟩ : ∃ d, a[k] = d := ⟨_, rfl⟩
        obtain ⟨e, he⟩ : ∃ e, b[k] = e := ⟨_, rfl⟩
        rw [hd] at c0 c1 c2 c3 hta hga
        rw [he] at e0 e1 e2 e3 htb hgb
        clear hd he hrow hrow2 ra rb ha hb
        obtain ⟨dx, dy, dk, di⟩ := d
        obtain ⟨ex, ey, ek, ei⟩ := e
        simp only at c0 c1 c2 c3 e0 e1 e2 e3
        replace htk := Lib.hid htk
        replace hta := Lib.hid hta
        replace htb := Lib.hid htb
        replace hga := Lib.hid hga
        replace hgb := Lib.hid hgb
        replace hl := Lib.hid hl
        have hg := guardDot
        have hn := neqDot dx dy dk di ex ey ek ei
        by_cases hde : (⟨dx, dy, dk, di⟩ : Dt) = ⟨ex, ey, ek, ei⟩
        · rw [decide_eq_true hde] at hn
          replace hde := Lib.hid hde
          go_wp2_with fail
          first | with_reducible refine wp_region_grow2 (by kernel_rfl) (by kernel_rfl) ?_ | with_reducible refine wp_region_grow (by kernel_rfl) (by kernel_rfl) ?_
          repeat (first | go_big_quiet_step (fail) | quiet_step (fail))
          refine wpQuiet_nil ?_
          intro _ hw_
          obtain ⟨p, hw_⟩ := hw_
          subst hw_
          go_wp2_with fail
          go_roundw
          case rel => exact ⟨k + 1, by omega, by go_num, (by repeat' (first | with_reducible exact Below.refl _ _ | with_reducible exact Nat.le_refl _ | with_reducible assumption | with_reducible refine Go.below_growBy' ?_ ?_ _ | with_reducible refine Below.alloc ?_ ?_ _ | with_reducible refine Below.setCell ?_ ?_ _ | with_reducible refine Below.drew ?_ | with_reducible refine Go.le_alloc ?_ | with_reducible refine Go.le_growBy ?_ | with_reducible refine Go.le_setCell ?_ | with_reducible refine Go.le_drew ?_ | omega | (dsimp only; omega))), by rw [hta.out, htb.out, htk.out, hde.out]⟩
          case measure => simp [intOf]; omega
        · rw [decide_eq_false hde] at hn
          have hab : decide (a = b) = false := by
            refine decide_eq_false (fun e => hde ?_)
            have h1 := hga.out
            rw [e, hgb.out] at h1
            exact (Option.some.inj h1).symm
          obtain rfl : r = false := hr.out.symm.trans hab
          clear hde hab
          go_wp2_with fail
          first | with_reducible refine wp_region_grow2 (by kernel_rfl) (by kernel_rfl) ?_ | with_reducible refine wp_region_grow (by kernel_rfl) (by kernel_rfl) ?_
          repeat (first | go_big_quiet_step (fail) | quiet_step (fail))
          refine wpQuiet_nil ?_
          intro _ hw_
          obtain ⟨p, hw_⟩ := hw_
          subst hw_
          go_wp2_with fail
          go_ret
          exact ⟨rfl, (by repeat' (first | with_reducible exact Below.refl _ _ | with_reducible exact Nat.le_refl _ | with_reducible assumption | with_reducible refine Go.below_growBy' ?_ ?_ _ | with_reducible refine Below.alloc ?_ ?_ _ | with_reducible refine Below.setCell ?_ ?_ _ | with_reducible refine Below.drew ?_ | with_reducible refine Go.le_alloc ?_ | with_reducible refine Go.le_growBy ?_ | with_reducible refine Go.le_setCell ?_ | with_reducible refine Go.le_drew ?_ | omega | (dsimp only; omega)))⟩
      · obtain rfl : k = a.length := by omega
        have hab : decide (a = b) = true := by
          rw [List.take_length, hl, List.take_length] at htk
          exact decide_eq_true htk
        obtain rfl : r = true := hr.out.symm.trans hab
        clear hab htk
        go_wp2_with fail
        go_ret
        exact ⟨rfl, hB⟩
  · have hlI : ((a.length : Int) == (b.length : Int)) = false := by simp; omega
    have hab : decide (a = b) = false := decide_eq_false (fun e => hl (by rw [e]))
    obtain rfl : r = false := hr.out.symm.trans hab
    clear hab
    go_enter Tryd.func17, Tryd.ntmps17
    go_wp2_with fail
    go_ret
    exact ⟨rfl, Below.refl _ _⟩
end Go.Proofs.YtjfdbigkbgolmaaDoor
