/-
  Chapter 29: how far dots are from one another (apart, Least).
  Chapter 29: SameAll: whether two lists of dots are equal.
  Chapter 29: Least: it does not depend on the order, it is 0 exactly if both have a common dot, and more dots are not farther away.
  A law's argument []api.Dot, opened: a slice value whose elements are four ints each. And a struct or an array of ints behind a slice.
  Chapter 29: append of a list of dots onto a slice that has nothing and no room.
-/
import Derived.Test.YtjfdbigkbgolmaaGreatDoorZw
import Derived.Test.YtjfdbigkbgolmaaGreatDoorZa
import Derived.Deep.Slices
import Derived.OpenShut
import Derived.Deep.AppendSrc
import Derived.Deep.AppendLies
namespace Go.Proofs.YtjfdbigkbgolmaaGreatDoor
set_option linter.unusedVariables false
set_option linter.unusedSimpArgs false
open Go.RowKit Go.Shelf
attribute [local go_sem] Oper.semAt_some

/-- the difference of two numbers, at most 80 -/
def apF (a b : Int) : Int := if a ≤ b then (if 80 < b - a then 80 else b - a) else (if 80 < a - b then 80 else a - b)
theorem uw_sub {x y : Int} (hx : fits x) (hy : fits y) (h : y ≤ x) : IntKind.u64.wrap (IntKind.u64.wrap x - IntKind.u64.wrap y) = x - y := by
  obtain ⟨x0, x1⟩ := hx
  obtain ⟨y0, y1⟩ := hy
  simp [IntKind.wrap, IntKind.bits, IntKind.signed]
  omega

theorem apart_any (a b : Int) (w : World) (ha : fits a) (hb : fits b) :
    Calls Tryz.prog 57 #[.int .i64 a, .int .i64 b] w fun e w' => e = .returned (.int .i64 (apF a b)) ∧ w = w' := by
  obtain ⟨r, hr⟩ : ∃ r, apF a b = r := ⟨_, rfl⟩
  rw [hr]
  have hu1 := fun h => uw_sub (x := a) (y := b) ha hb h
  have hu2 := fun h => uw_sub (x := b) (y := a) hb ha h
  obtain ⟨a0, a1⟩ := ha
  obtain ⟨b0, b1⟩ := hb
  unfold apF at hr
  by_cases h : b < a
  · have hu := hu1 (by omega)
    rw [if_neg (by omega)] at hr
    clear hu1 hu2
    by_cases h8 : 80 < a - b
    · rw [if_pos h8] at hr
      subst hr
      go_enter Tryz.func57, Tryz.ntmps57
      go_wp2_with fail
      go_ret
      exact ⟨rfl, rfl⟩
    · rw [if_neg h8] at hr
      subst hr
      go_enter Tryz.func57, Tryz.ntmps57
      go_wp2_with fail
      go_ret
      exact ⟨rfl, rfl⟩
  · have hu := hu2 (by omega)
    rw [if_pos (by omega)] at hr
    clear hu1 hu2
    by_cases h8 : 80 < b - a
    · rw [if_pos h8] at hr
      subst hr
      go_enter Tryz.func57, Tryz.ntmps57
      go_wp2_with fail
      go_ret
      exact ⟨rfl, rfl⟩
    · rw [if_neg h8] at hr
      subst hr
      go_enter Tryz.func57, Tryz.ntmps57
      go_wp2_with fail
      go_ret
      exact ⟨rfl, rfl⟩
theorem apF_in (a b : Int) : 0 ≤ apF a b ∧ apF a b ≤ 80 := by unfold apF; repeat' split; all_goals omega

/-- dots in a block below n₀; or none -/
structure DtRow (W : World) (b o : Nat) (d : Dt) : Prop where
  c0 : W.cell? ⟨b, o, none⟩ = some (.int .i64 d.x)
  c1 : W.cell? ⟨b, o + 1, none⟩ = some (.int .i64 d.y)
  c2 : W.cell? ⟨b, o + 2, none⟩ = some (.int .i64 d.k)
  c3 : W.cell? ⟨b, o + 3, none⟩ = some (.int .i64 d.i)
theorem DtRow.below {n₀ : Nat} {A B : World} (h : Below n₀ A B) {b o : Nat} {d : Dt} (hb : b < n₀) (r : DtRow A b o d) : DtRow B b o d :=
  ⟨(h.cell (p := ⟨b, o, none⟩) hb).trans r.c0, (h.cell (p := ⟨b, o + 1, none⟩) hb).trans r.c1, (h.cell (p := ⟨b, o + 2, none⟩) hb).trans r.c2, (h.cell (p := ⟨b, o + 3, none⟩) hb).trans r.c3⟩
def Dts (n₀ : Nat) (W : World) (sv : Value) (l : List Dt) : Prop :=
  (sv = .slice none 0 0 ∧ l = []) ∨ ∃ b off cap, sv = .slice (some ⟨b, off, none⟩) l.length cap ∧ b < n₀ ∧ l.length ≤ 4294967296 ∧ (∀ d ∈ l, fits d.x ∧ fits d.y) ∧ ∀ j, (h : j < l.length) → DtRow W b (off + j * 4) l[j]
theorem Dts.below {n₀ : Nat} {A B : World} (h : Below n₀ A B) {sv : Value} {l : List Dt} : Dts n₀ A sv l → Dts n₀ B sv l
  | .inl e => .inl e
  | .inr ⟨b, off, cap, e, hb, hl, hf, hc⟩ => .inr ⟨b, off, cap, e, hb, hl, hf, fun j hj => (hc j hj).below h hb⟩
theorem Dts.mono {n₀ n₁ : Nat} (h : n₀ ≤ n₁) {W : World} {sv : Value} {l : List Dt} : Dts n₀ W sv l → Dts n₁ W sv l
  | .inl e => .inl e
  | .inr ⟨b, off, cap, e, hb, r⟩ => .inr ⟨b, off, cap, e, Nat.lt_of_lt_of_le hb h, r⟩

theorem flat4 : ∀ (l : List Dt) (j : Nat) (h : j < l.length), (l.flatMap encD)[j * 4]? = some (.int .i64 l[j].x) ∧ (l.flatMap encD)[j * 4 + 1]? = some (.int .i64 l[j].y) ∧ (l.flatMap encD)[j * 4 + 2]? = some (.int .i64 l[j].k) ∧ (l.flatMap encD)[j * 4 + 3]? = some (.int .i64 l[j].i)
  | [], j, h => by simp at h
  | d :: l, 0, _ => by simp
  | d :: l, j + 1, h => by
    have ih := flat4 l j (by simpa using h)
    have e : (j + 1) * 4 = j * 4 + 1 + 1 + 1 + 1 := by omega
    rw [e]
    simpa [List.flatMap_cons, Nat.add_assoc] using ih
/-- the dots of a row of the call's own -/
theorem dts_of_row {base : Nat} {W : World} {v : Value} {l : List Dt} (h : W.ownsRow base 59 4 v l.length (l.flatMap encD)) (hl : l.length ≤ 4294967296) (hf : ∀ d ∈ l, fits d.x ∧ fits d.y) : Dts W.heap.size W v l := by
  rcases h.2 with ⟨rfl, h0⟩ | ⟨g, cap, cur, rfl, hbase, hgb, _⟩
  · exact .inl ⟨rfl, List.eq_nil_of_length_eq_zero h0⟩
  · refine .inr ⟨g, 0, cap, rfl, (Array.getElem?_eq_some_iff.1 hgb).1, hl, hf, fun j hj => ?_⟩
    obtain ⟨f0, f1, f2, f3⟩ := flat4 l j hj
    rw [Nat.zero_add]
    exact ⟨(h.cellAt _ (by omega)).trans f0, (h.cellAt _ (by omega)).trans f1, (h.cellAt _ (by omega)).trans f2, (h.cellAt _ (by omega)).trans f3⟩

def apD (d e : Dt) : Int := if apF d.y e.y > apF d.x e.x then apF d.y e.y else apF d.x e.x
def stepL (m : Int) (d e : Dt) : Int := if apD d e < m then apD d e else m
def leastI (d : Dt) (m : Int) (b : List Dt) : Int := b.foldl (fun m e => stepL m d e) m
def leastF (a b : List Dt) : Int := a.foldl (fun m d => leastI d m b) 80
theorem stepL_in {m : Int} (h : 0 ≤ m ∧ m ≤ 80) (d e : Dt) : 0 ≤ stepL m d e ∧ stepL m d e ≤ 80 := by
  have h1 := apF_in d.x e.x
  have h2 := apF_in d.y e.y
  unfold stepL apD
  repeat' split
  all_goals omega
theorem leastI_in (d : Dt) : ∀ (b : List Dt) (m : Int), 0 ≤ m ∧ m ≤ 80 → 0 ≤ leastI d m b ∧ leastI d m b ≤ 80
  | [], m, h => h
  | e :: b, m, h => by
    have := leastI_in d b (stepL m d e) (stepL_in h d e)
    simpa [leastI] using this
theorem leastI_take {d : Dt} {m : Int} {b : List Dt} {k : Nat} (h : k < b.length) : leastI d m (b.take (k + 1)) = stepL (leastI d m (b.take k)) d b[k] := by
  unfold leastI
  rw [List.take_add_one, List.getElem?_eq_getElem h, List.foldl_append]
  rfl
theorem leastF_take {a b : List Dt} {k : Nat} (h : k < a.length) : leastF (a.take (k + 1)) b = leastI a[k] (leastF (a.take k) b) b := by
  unfold leastF
  rw [List.take_add_one, List.getElem?_eq_getElem h, List.foldl_append]
  rfl
theorem leastF_in (b : List Dt) : ∀ (a : List Dt), 0 ≤ leastF a b ∧ leastF a b ≤ 80 := by
  have h : ∀ (a : List Dt) (m : Int), 0 ≤ m ∧ m ≤ 80 → 0 ≤ a.foldl (fun m d => leastI d m b) m ∧ a.foldl (fun m d => leastI d m b) m ≤ 80 := by
    intro a
    induction a with
    | nil => exact fun m h => h
    | cons d a ih => exact fun m h => ih _ (leastI_in d b m h)
  exact fun a => h a 80 ⟨by decide, by decide⟩

theorem apart_eq {a b r : Int} (hr : apF a b = r) (w : World) (ha : fits a) (hb : fits b) :
    Calls Tryz.prog 57 #[.int .i64 a, .int .i64 b] w fun e w' => e = .returned (.int .i64 r) ∧ w = w' := by
  have h := apart_any a b w ha hb
  rw [hr] at h
  exact h

/-- the slice of dots, as the walk sees it -/
theorem Dts.open_ {n₀ : Nat} {W : World} {sv : Value} {l : List Dt} (h : Dts n₀ W sv l) : l.length ≤ 4294967296 ∧ ∃ a cap, sv = .slice a l.length cap ∧ ∀ j, (h : j < l.length) → ∃ b off, a = some ⟨b, off, none⟩ ∧ b < n₀ ∧ DtRow W b (off + j * 4) l[j] ∧ fits l[j].x ∧ fits l[j].y := by
  rcases h with ⟨rfl, rfl⟩ | ⟨b, off, cap, rfl, hb, hl, hf, hc⟩
  · exact ⟨by simp, none, 0, rfl, fun j hj => by simp at hj⟩
  · exact ⟨hl, _, cap, rfl, fun j hj => ⟨b, off, rfl, hb, hc j hj, hf _ (List.getElem_mem hj)⟩⟩

set_option maxRecDepth 100000 in
set_option maxHeartbeats 4000000 in
theorem least_any (va vb : Value) (a b : List Dt) (w : World) (ha : Dts w.heap.size w va a) (hb : Dts w.heap.size w vb b) :
    Calls Tryz.prog 21 #[va, vb] w fun e w' => e = .returned (.int .i64 (leastF a b)) ∧ Below w.heap.size w w' := by
  obtain ⟨la, aa, ca, rfl, ra⟩ := ha.open_
  obtain ⟨lb, ab, cb, rfl, rb⟩ := hb.open_
  go_enter Tryz.func21, Tryz.ntmps21
  go_wp2_with fail
  go_loopw [5, 12] (fun m i wr => ∃ k : Nat, k ≤ a.length ∧ m = .int .i64 (leastF (a.take k) b) ∧ i = .int .i64 k ∧ Below w.heap.size w wr)
    (fun _ i _ => a.length - (intOf i).toNat)
  case atStart => exact ⟨0, Nat.zero_le _, rfl, rfl, Below.refl _ _⟩
  case round =>
    obtain ⟨k, hk, rfl, rfl, hB⟩ := hrel
    have hsz := hB.size
    by_cases hlt : k < a.length
    · have hltI : (k : Int) < (a.length : Int) := by omega
      obtain ⟨bl, off, rfl, hbl, hrow, f0, f1⟩ := ra k hlt
      obtain ⟨c0, c1, c2, c3⟩ := hrow.below hB hbl
      obtain ⟨m0, hm0⟩ : ∃ m, leastF (a.take k) b = m := ⟨_, rfl⟩
      have hin := leastF_in b (a.take k)
      rw [hm0] at hin
      have htk := leastF_take (a := a) (b := b) hlt
      rw [hm0] at htk ⊢
      obtain ⟨d, hd⟩ : ∃ d, a[k] = d := ⟨_, rfl⟩
      rw [hd] at c0 c1 c2 c3 f0 f1 htk
      clear hm0 hd hrow
      replace htk := Lib.hid htk
      obtain ⟨dx, dy, dk, di⟩ := d
      simp only at c0 c1 c2 c3 f0 f1
      go_wp2_with fail
      obtain ⟨W, hW⟩ : ∃ W, wr.alloc (.cells #[.int .i64 dx, .int .i64 dy, .int .i64 dk, .int .i64 di] 59) = W := ⟨_, rfl⟩
      have bX : Blk W wr.heap.size #[.int .i64 dx, .int .i64 dy, .int .i64 dk, .int .i64 di] 59 := by rw [← hW]; exact Blk.new wr _ _
      have hBW : Below w.heap.size w W := by rw [← hW]; exact hB.alloc hsz _
      rw [hW]
      clear hW
      have hBx : w.heap.size ≤ wr.heap.size := hsz
      generalize wr.heap.size = Bx at *
      go_loopw [5, 18] (fun m i wr => ∃ j : Nat, j ≤ b.length ∧ m = .int .i64 (leastI ⟨dx, dy, dk, di⟩ m0 (b.take j)) ∧ i = .int .i64 j ∧ Below w.heap.size w wr ∧ Blk wr Bx #[.int .i64 dx, .int .i64 dy, .int .i64 dk, .int .i64 di] 59)
        (fun _ i _ => b.length - (intOf i).toNat)
      case atStart => exact ⟨0, Nat.zero_le _, rfl, rfl, hBW, bX⟩
      case round =>
        obtain ⟨j, hj, rfl, rfl, hB2, bX2⟩ := hrel
        have hsz2 := hB2.size
        by_cases hlt2 : j < b.length
        · have hltI2 : (j : Int) < (b.length : Int) := by omega
          obtain ⟨bl2, off2, rfl, hbl2, hrow2, f2, f3⟩ := rb j hlt2
          obtain ⟨e0, e1, e2, e3⟩ := hrow2.below hB2 hbl2
          obtain ⟨m1, hm1⟩ : ∃ m, leastI ⟨dx, dy, dk, di⟩ m0 (b.take j) = m := ⟨_, rfl⟩
          have htk2 := leastI_take (d := ⟨dx, dy, dk, di⟩) (m := m0) hlt2
          rw [hm1] at htk2 ⊢
          obtain ⟨e, he⟩ : ∃ e, b[j] = e := ⟨_, rfl⟩
          rw [he] at e0 e1 e2 e3 f2 f3 htk2
          clear hm1 he hrow2
          obtain ⟨ex, ey, ek, ei⟩ := e
          simp only at e0 e1 e2 e3 f2 f3
          obtain ⟨r1, hr1⟩ : ∃ r, apF dx ex = r := ⟨_, rfl⟩
          obtain ⟨r2, hr2⟩ : ∃ r, apF dy ey = r := ⟨_, rfl⟩
          simp only [stepL, apD, hr1, hr2] at htk2
          replace htk2 := Lib.hid htk2
          replace hr1 := Lib.hid hr1
          replace hr2 := Lib.hid hr2
          have x0 : wr.cell? ⟨Bx, 0, none⟩ = some (.int .i64 dx) := bX2.cell 0
          have x1 : wr.cell? ⟨Bx, 1, none⟩ = some (.int .i64 dy) := bX2.cell 1
          have lX := bX2.lt
          clear ra rb ha hb c0 c1 c2 c3
          go_wp2_with fail
          first | with_reducible refine wp_region_grow2 (by kernel_rfl) (by kernel_rfl) ?_ | with_reducible refine wp_region_grow (by kernel_rfl) (by kernel_rfl) ?_
          repeat (first | go_big_quiet_step ((go_at_call 57; exact Calls.grow_of_same (apart_eq (by first | with_reducible exact hr1.out | with_reducible exact hr2.out) _ (by assumption) (by assumption)))) | quiet_step ((go_at_call 57; exact Calls.grow_of_same (apart_eq (by first | with_reducible exact hr1.out | with_reducible exact hr2.out) _ (by assumption) (by assumption)))))
          refine wpQuiet_nil ?_
          intro _ hw_
          obtain ⟨p, hw_⟩ := hw_
          subst hw_
          have hW9 : Below wr.heap.size wr ((wr.alloc (.cells #[.int .i64 ex, .int .i64 ey, .int .i64 ek, .int .i64 ei] 59)).growBy p) := (by repeat' (first | with_reducible exact Below.refl _ _ | with_reducible exact Nat.le_refl _ | with_reducible assumption | with_reducible refine Go.below_growBy' ?_ ?_ _ | with_reducible refine Below.alloc ?_ ?_ _ | with_reducible refine Below.setCell ?_ ?_ _ | with_reducible refine Below.drew ?_ | with_reducible refine Go.le_alloc ?_ | with_reducible refine Go.le_growBy ?_ | with_reducible refine Go.le_setCell ?_ | with_reducible refine Go.le_drew ?_ | omega | (dsimp only; omega)))
          go_wp2_with fail
          go_roundw
          case rel => exact ⟨j + 1, by omega, by rw [htk2.out]; congr 1; omega, by go_num, hB2.trans (hW9.mono hsz2), bX2.below hW9 lX⟩
          case measure => simp [intOf]; omega
        · obtain rfl : j = b.length := by omega
          rw [List.take_length]
          have h9 := htk.out
          go_wp2_with fail
          go_roundw
          case rel => exact ⟨k + 1, by omega, by rw [htk.out], by go_num, hB2⟩
          case measure => simp [intOf]; omega
    · obtain rfl : k = a.length := by omega
      rw [List.take_length]
      go_wp2_with fail
      go_ret
      exact ⟨rfl, hB⟩
end Go.Proofs.YtjfdbigkbgolmaaGreatDoor
namespace Go.Proofs.YtjfdbigkbgolmaaGreatDoor
set_option linter.unusedVariables false
set_option linter.unusedSimpArgs false
open Go.RowKit Go.Shelf
attribute [local go_sem] Oper.semAt_some

set_option maxRecDepth 100000 in
theorem neqDot (dx dy dk di ex ey ek ei : Int) (w : World) : (binOp .neq 59 (.agg #[.int .i64 dx, .int .i64 dy, .int .i64 dk, .int .i64 di]) (.agg #[.int .i64 ex, .int .i64 ey, .int .i64 ek, .int .i64 ei])).run Tryz.prog w = .ok (.bool (!decide ((⟨dx, dy, dk, di⟩ : Dt) = ⟨ex, ey, ek, ei⟩))) w := by
  have u3 := Tryz.underlying3
  have a3 := Tryz.isAgg3
  have z3 := Tryz.sizeOf3
  have hS : Tryz.prog.underlying 59 = some (.struct (Tryz.prog.fieldsOf 59)) := by kernel_rfl
  have hp : Tryz.prog.stoodInHeld 59 = false := by kernel_rfl
  rw [run_neq_struct, show (10000 : Nat) = 9999 + 1 from rfl, run_equalIn_agg w 9999 59 _ _ hS hp]
  simp only [Program.fieldsOf, Tryz.underlying59]
  go_simp
  by_cases h1 : dx = ex <;> by_cases h2 : dy = ey <;> by_cases h3 : dk = ek <;> by_cases h4 : di = ei <;> simp [h1, h2, h3, h4]
theorem guardDot (op : BinOp) (a b : Operand) (xs ys : Array Value) (w : World) : (eqGuard op 59 a b (.agg xs) (.agg ys)).run Tryz.prog w = .ok () w := run_eqGuard_agg w op 59 a b xs ys (by kernel_rfl)

def sameF (a b : List Dt) : Bool := decide (a = b)

set_option maxRecDepth 100000 in
set_option maxHeartbeats 4000000 in
theorem same_any (va vb : Value) (a b : List Dt) (w : World) (ha : Dts w.heap.size w va a) (hb : Dts w.heap.size w vb b) :
    Calls Tryz.prog 10 #[va, vb] w fun e w' => e = .returned (.bool (decide (a = b))) ∧ Below w.heap.size w w' := by
  obtain ⟨la, aa, ca, rfl, ra⟩ := ha.open_
  obtain ⟨lb, ab, cb, rfl, rb⟩ := hb.open_
  obtain ⟨r, hr⟩ : ∃ r, decide (a = b) = r := ⟨_, rfl⟩
  rw [hr]
  replace hr := Lib.hid hr
  by_cases hl : a.length = b.length
  · have hlI : ((a.length : Int) == (b.length : Int)) = true := by simp [hl]
    go_enter Tryz.func10, Tryz.ntmps10
    go_wp2_with fail
    go_loopw [5] (fun i wr => ∃ k : Nat, k ≤ a.length ∧ i = .int .i64 k ∧ Below w.heap.size w wr ∧ a.take k = b.take k)
      (fun i _ => a.length - (intOf i).toNat)
    case atStart => exact ⟨0, Nat.zero_le _, rfl, Below.refl _ _, rfl⟩
    case round =>
      obtain ⟨k, hk, rfl, hB, htk⟩ := hrel
      have hsz := hB.size
      by_cases hlt : k < a.length
      · have hltI : (k : Int) < (a.length : Int) := by omega
        have hltI2 : (k : Int) < (b.length : Int) := by omega
        obtain ⟨bl, off, rfl, hbl, hrow, -, -⟩ := ra k hlt
        obtain ⟨bl2, off2, rfl, hbl2, hrow2, -, -⟩ := rb k (by omega)
        obtain ⟨c0, c1, c2, c3⟩ := hrow.below hB hbl
        obtain ⟨e0, e1, e2, e3⟩ := hrow2.below hB hbl2
        have hta := List.take_add_one (l := a) (i := k)
        have htb := List.take_add_one (l := b) (i := k)
        rw [List.getElem?_eq_getElem hlt] at hta
        rw [List.getElem?_eq_getElem (show k < b.length by omega)] at htb
        have hga : a[k]? = some a[k] := List.getElem?_eq_getElem hlt
        have hgb : b[k]? = some b[k] := List.getElem?_eq_getElem (by omega)
        obtain ⟨d, hd⟩ : ∃ d, a[k] = d := ⟨_, rfl⟩
        obtain ⟨e, he⟩ : ∃ e, b[k] = e := ⟨_, rfl⟩
        rw [hd] at c0 c1 c2 c3 hta hga
        rw [he] at e0 e1 e2 e3 htb hgb
        clear hd he hrow hrow2 ra rb ha hb
        obtain ⟨dx, dy, dk, di⟩ := d
        obtain ⟨ex, ey, ek, ei⟩ := e
        simp only at c0 c1 c2 c3 e0 e1 e2 e3
        replace htk := Lib.hid htk
        replace hta := Lib.hid hta
        replace htb := Lib.hid htb
        replace hga := Lib.hid hga
        replace hgb := Lib.hid hgb
        replace hl := Lib.hid hl
        have hg := guardDot
        have hn := neqDot dx dy dk di ex ey ek ei
        by_cases hde : (⟨dx, dy, dk, di⟩ : Dt) = ⟨ex, ey, ek, ei⟩
        · rw [decide_eq_true hde] at hn
          replace hde := Lib.hid hde
          go_wp2_with fail
          first | with_reducible refine wp_region_grow2 (by kernel_rfl) (by kernel_rfl) ?_ | with_reducible refine wp_region_grow (by kernel_rfl) (by kernel_rfl) ?_
          repeat (first | go_big_quiet_step (fail) | quiet_step (fail))
          refine wpQuiet_nil ?_
          intro _ hw_
          obtain ⟨p, hw_⟩ := hw_
          subst hw_
          go_wp2_with fail
          go_roundw
          case rel => exact ⟨k + 1, by omega, by go_num, (by repeat' (first | with_reducible exact Below.refl _ _ | with_reducible exact Nat.le_refl _ | with_reducible assumption | with_reducible refine Go.below_growBy' ?_ ?_ _ | with_reducible refine Below.alloc ?_ ?_ _ | with_reducible refine Below.setCell ?_ ?_ _ | with_reducible refine Below.drew ?_ | with_reducible refine Go.le_alloc ?_ | with_reducible refine Go.le_growBy ?_ | with_reducible refine Go.le_setCell ?_ | with_reducible refine Go.le_drew ?_ | omega | (dsimp only; omega))), by rw [hta.out, htb.out, htk.out, hde.out]⟩
          case measure => simp [intOf]; omega
        · rw [decide_eq_false hde] at hn
          have hab : decide (a = b) = false := by
            refine decide_eq_false (fun e => hde ?_)
            have h1 := hga.out
            rw [e, hgb.out] at h1
            exact (Option.some.inj h1).symm
          obtain rfl : r = false := hr.out.symm.trans hab
          clear hde hab
          go_wp2_with fail
          first | with_reducible refine wp_region_grow2 (by kernel_rfl) (by kernel_rfl) ?_ | with_reducible refine wp_region_grow (by kernel_rfl) (by kernel_rfl) ?_
          repeat (first | go_big_quiet_step (fail) | quiet_step (fail))
          refine wpQuiet_nil ?_
          intro _ hw_
          obtain ⟨p, hw_⟩ := hw_
          subst hw_
          go_wp2_with fail
          go_ret
          exact ⟨rfl, (by repeat' (first | with_reducible exact Below.refl _ _ | with_reducible exact Nat.le_refl _ | with_reducible assumption | with_reducible refine Go.below_growBy' ?_ ?_ _ | with_reducible refine Below.alloc ?_ ?_ _ | with_reducible refine Below.setCell ?_ ?_ _ | with_reducible refine Below.drew ?_ | with_reducible refine Go.le_alloc ?_ | with_reducible refine Go.le_growBy ?_ | with_reducible refine Go.le_setCell ?_ | with_reducible refine Go.le_drew ?_ | omega | (dsimp only; omega)))⟩
      · obtain rfl : k = a.length := by omega
        have hab : decide (a = b) = true := by
          rw [List.take_length, hl, List.take_length] at htk
          exact decide_eq_true htk
        obtain rfl : r = true := hr.out.symm.trans hab
        clear hab htk
        go_wp2_with fail
        go_ret
        exact ⟨rfl, hB⟩
  · have hlI : ((a.length : Int) == (b.length : Int)) = false := by simp; omega
    have hab : decide (a = b) = false := decide_eq_false (fun e => hl (by rw [e]))
    obtain rfl : r = false := hr.out.symm.trans hab
    clear hab
    go_enter Tryz.func10, Tryz.ntmps10
    go_wp2_with fail
    go_ret
    exact ⟨rfl, Below.refl _ _⟩
end Go.Proofs.YtjfdbigkbgolmaaGreatDoor
namespace Go.Proofs.YtjfdbigkbgolmaaGreatDoor
set_option linter.unusedVariables false
set_option linter.unusedSimpArgs false
open Go.RowKit Go.Shelf

theorem stepL_le (m k : Int) (d e : Dt) : stepL m d e ≤ k ↔ m ≤ k ∨ apD d e ≤ k := by
  unfold stepL
  split <;> omega
theorem leastI_le (d : Dt) (k : Int) : ∀ (b : List Dt) (m : Int), leastI d m b ≤ k ↔ m ≤ k ∨ ∃ e ∈ b, apD d e ≤ k
  | [], m => by simp [leastI]
  | e :: b, m => by
    have ih := leastI_le d k b (stepL m d e)
    have h : leastI d m (e :: b) = leastI d (stepL m d e) b := rfl
    rw [h, ih, stepL_le]
    simp only [List.mem_cons, exists_eq_or_imp, or_assoc]
theorem leastG_le (b : List Dt) (k : Int) : ∀ (a : List Dt) (m : Int), a.foldl (fun m d => leastI d m b) m ≤ k ↔ m ≤ k ∨ ∃ d ∈ a, ∃ e ∈ b, apD d e ≤ k
  | [], m => by simp
  | d :: a, m => by
    have ih := leastG_le b k a (leastI d m b)
    simp only [List.foldl_cons]
    rw [ih, leastI_le]
    simp only [List.mem_cons, exists_eq_or_imp, or_assoc]
theorem leastF_le {a b : List Dt} {k : Int} : leastF a b ≤ k ↔ 80 ≤ k ∨ ∃ d ∈ a, ∃ e ∈ b, apD d e ≤ k := leastG_le b k a 80
theorem apF_comm (x y : Int) : apF x y = apF y x := by unfold apF; repeat' split; all_goals omega
theorem apD_comm (d e : Dt) : apD d e = apD e d := by unfold apD; rw [apF_comm d.x, apF_comm d.y]
theorem apF_zero {x y : Int} : apF x y ≤ 0 ↔ x = y := by unfold apF; repeat' split; all_goals omega
theorem apD_zero {d e : Dt} : apD d e ≤ 0 ↔ d.x = e.x ∧ d.y = e.y := by
  rw [← apF_zero, ← apF_zero]
  unfold apD
  split <;> omega
theorem leastF_comm (a b : List Dt) : leastF a b = leastF b a := by
  have h : ∀ a b, leastF a b ≤ leastF b a := fun a b => by
    rcases leastF_le.1 (Int.le_refl (leastF b a)) with h | ⟨d, hd, e, he, h⟩
    · exact leastF_le.2 (.inl h)
    · exact leastF_le.2 (.inr ⟨e, he, d, hd, by rw [apD_comm]; exact h⟩)
  exact Int.le_antisymm (h a b) (h b a)
/-- whether two lists have a common dot -/
def commonF (a b : List Dt) : Bool := a.any fun d => b.any fun e => decide (d.x = e.x) && decide (d.y = e.y)
theorem leastF_zero (a b : List Dt) : decide (leastF a b = 0) = commonF a b := by
  rw [Bool.eq_iff_iff]
  have h0 := (leastF_in b a).1
  have h := leastF_le (a := a) (b := b) (k := 0)
  simp only [apD_zero] at h
  simp only [commonF, List.any_eq_true, Bool.and_eq_true, decide_eq_true_eq]
  constructor
  · intro h1
    rcases h.1 (by omega) with h2 | h2
    · omega
    · exact h2
  · intro h1
    have := h.2 (.inr h1)
    omega
theorem leastF_more (a b c : List Dt) : leastF a (b ++ c) ≤ leastF a b := by
  rcases leastF_le.1 (Int.le_refl (leastF a b)) with h | ⟨d, hd, e, he, h⟩
  · exact leastF_le.2 (.inl h)
  · exact leastF_le.2 (.inr ⟨d, hd, e, List.mem_append.2 (.inl he), h⟩)
theorem leastF_nil (a : List Dt) : leastF a [] = 80 := by
  rcases (leastF_le (a := a) (b := [])).1 (Int.le_refl _) with h | ⟨d, hd, e, he, h⟩
  · have := (leastF_in [] a).2; omega
  · simp at he
theorem leastF_nil' (b : List Dt) : leastF [] b = 80 := rfl
end Go.Proofs.YtjfdbigkbgolmaaGreatDoor
namespace Go.Proofs.YtjfdbigkbgolmaaGreatDoor
set_option linter.unusedVariables false
set_option linter.unusedSimpArgs false
open Go.RowKit Go.Shelf
section
variable {H : Type} {enc : TypeId × Value → H} {P : Program} {W : World} {base : Nat} {sp : Nat → Bool} {hd : Bool} {t e : TypeId} {v : Value}

theorem trodAll_head {ts : List TypeId} {vs : List Value} {ds : List (DataW H)} {ps : List MemPlace} (h : DataW.TrodAll enc P W base sp hd (t :: ts) (v :: vs) ds ps) : ∃ d p, DataW.Trod enc P W base sp hd t v d p := by
  cases ds with
  | nil => exact h.elim
  | cons d ds => obtain ⟨p, q, h1, -, -⟩ := h; exact ⟨d, p, h1⟩
theorem trodAll_tail {ts : List TypeId} {vs : List Value} {ds : List (DataW H)} {ps : List MemPlace} (h : DataW.TrodAll enc P W base sp hd (t :: ts) (v :: vs) ds ps) : ∃ ds' ps', DataW.TrodAll enc P W base sp hd ts vs ds' ps' := by
  cases ds with
  | nil => exact h.elim
  | cons d ds => obtain ⟨p, q, -, h2, -⟩ := h; exact ⟨ds, q, h2⟩

theorem okWide_slice {r : Reach} (ht : P.underlying t = some (.slice e)) (h : Value.okWide P W r base t v) : ∀ cs, v ≠ .agg cs := by
  intro cs hcs
  subst hcs
  simp [Value.okWide, ht, Cell.okWide, Cell.ok] at h

theorem lit_fits (z : Int) (h : (Lit.int .i64 z).wf = true) : fits z := by
  simp [Lit.wf, IntKind.min, IntKind.max, IntKind.signed, IntKind.bits] at h
  exact ⟨by omega, by omega⟩

/-- a struct of ints, read -/
theorem ints_cells {fs : Array Field} {fuel : Nat} {cs : List Value} {x : DataW H × List MemPlace} (he : P.underlying e = some (.struct fs)) (hn : P.cellsOf e = fs.size)
    (hf : ∀ (i : Nat) (f : Field), fs[i]? = some f → f.offset = i ∧ P.cellsOf f.type = 1 ∧ P.underlying f.type = some (.int .i64))
    (h : DataW.trod enc P W base sp hd fuel e cs = some x) : cs.length = fs.size ∧ ∀ i, i < fs.size → ∃ z : Int, cs[i]? = some (.int .i64 z) ∧ fits z := by
  obtain ⟨xs, n, rfl, -, hl, hxl, hf'⟩ := DataW.trod_struct he h
  refine ⟨by omega, fun i hi => ?_⟩
  have hfi := Array.getElem?_eq_getElem hi
  obtain ⟨h1, h2, h3⟩ := hf i _ hfi
  have h4 := hf' i _ hfi
  rw [h1, h2, List.getElem?_eq_getElem (by omega : i < xs.length)] at h4
  obtain ⟨z, h5, -, h6⟩ := DataW.trod_int h3 h4
  refine ⟨z, ?_, lit_fits _ h6⟩
  have h7 : ((cs.drop i).take 1)[0]? = some (.int .i64 z) := by rw [h5]; rfl
  rw [List.getElem?_take, if_pos (by omega), List.getElem?_drop] at h7
  exact h7

/-- a slice of dots that came in: its list, as long as it is -/
def DtsA (n₀ : Nat) (W : World) (a : Option Addr) (l : List Dt) : Prop :=
  ∀ j, (h : j < l.length) → ∃ b off, a = some ⟨b, off, none⟩ ∧ b < n₀ ∧ DtRow W b (off + j * 4) l[j] ∧ (fits l[j].x ∧ fits l[j].y ∧ fits l[j].k ∧ fits l[j].i)
theorem DtsA.below {n₀ : Nat} {A B : World} (h : Below n₀ A B) {a : Option Addr} {l : List Dt} (r : DtsA n₀ A a l) : DtsA n₀ B a l := fun j hj => by
  obtain ⟨b, off, h1, h2, h3, h4⟩ := r j hj
  exact ⟨b, off, h1, h2, h3.below h h2, h4⟩
theorem DtsA.up {n₀ n₁ : Nat} (hn : n₀ ≤ n₁) {A : World} {a : Option Addr} {l : List Dt} (r : DtsA n₀ A a l) : DtsA n₁ A a l := fun j hj => by
  obtain ⟨b, off, h1, h2, h3, h4⟩ := r j hj
  exact ⟨b, off, h1, by omega, h3, h4⟩

theorem dtField : ∃ fs : Array Field, Tryz.prog.underlying 59 = some (.struct fs) ∧ Tryz.prog.cellsOf 59 = fs.size ∧ fs.size = 4 ∧ ∀ (i : Nat) (f : Field), fs[i]? = some f → f.offset = i ∧ Tryz.prog.cellsOf f.type = 1 ∧ Tryz.prog.underlying f.type = some (.int .i64) := by
  refine ⟨_, Tryz.underlying59, by kernel_rfl, rfl, fun i f h => ?_⟩
  match i, h with
  | 0, h => cases Option.some.inj h; exact ⟨rfl, by kernel_rfl, Tryz.underlying3⟩
  | 1, h => cases Option.some.inj h; exact ⟨rfl, by kernel_rfl, Tryz.underlying3⟩
  | 2, h => cases Option.some.inj h; exact ⟨rfl, by kernel_rfl, Tryz.underlying3⟩
  | 3, h => cases Option.some.inj h; exact ⟨rfl, by kernel_rfl, Tryz.underlying3⟩
  | i + 4, h => simp at h
instance : Inhabited Dt := ⟨⟨0, 0, 0, 0⟩⟩
theorem dots_arg {v : Value} (hv : ∀ cs, v ≠ .agg cs) (h : ∃ d p, DataW.Trod enc Tryz.prog W base sp hd 42 v d p) : ∃ a len cap l, v = .slice a len cap ∧ l.length = len ∧ DtsA W.heap.size W a l := by
  obtain ⟨d, p, fuel, h⟩ := h
  have hcs : v.cells.toList = [v] := by cases v <;> first | rfl | exact absurd rfl (hv _)
  rw [hcs] at h
  obtain ⟨fs, he, hn, hn4, hf⟩ := dtField
  rcases Go.Deep.open_slice Tryz.underlying42 h with ⟨h1, -⟩ | ⟨a, len, cap, m, n, D, Pl, h1, -, h2, -, h3, -, h4⟩
  · obtain rfl : v = .slice none 0 0 := by simpa using h1
    exact ⟨_, _, _, [], rfl, rfl, fun j hj => by simp at hj⟩
  · obtain rfl : v = .slice (some a) len cap := by simpa using h1
    have hm : len ≤ m := by rw [h3]; split <;> omega
    have each : ∀ i, i < len → ∃ d : Dt, (W.cell? ((a.add (i * 4)).add 0) = some (.int .i64 d.x) ∧ W.cell? ((a.add (i * 4)).add 1) = some (.int .i64 d.y) ∧ W.cell? ((a.add (i * 4)).add 2) = some (.int .i64 d.k) ∧ W.cell? ((a.add (i * 4)).add 3) = some (.int .i64 d.i)) ∧ (fits d.x ∧ fits d.y ∧ fits d.k ∧ fits d.i) := by
      intro i hi
      obtain ⟨cs', h5, h6⟩ := h4 i (by omega)
      rw [hn, hn4] at h5
      obtain ⟨-, -, h7⟩ := World.cells?_some h5
      obtain ⟨-, h8⟩ := ints_cells he hn hf h6
      rw [hn4] at h8
      obtain ⟨x, x0, x1⟩ := h8 0 (by omega)
      obtain ⟨y, y0, y1⟩ := h8 1 (by omega)
      obtain ⟨k, k0, k1⟩ := h8 2 (by omega)
      obtain ⟨z, z0, z1⟩ := h8 3 (by omega)
      exact ⟨⟨x, y, k, z⟩, ⟨(h7 0 (by omega)).trans x0, (h7 1 (by omega)).trans y0, (h7 2 (by omega)).trans k0, (h7 3 (by omega)).trans z0⟩, x1, y1, k1, z1⟩
    obtain ⟨f, hfd⟩ := Go.Deep.choose_lt each
    refine ⟨some a, len, cap, (List.range len).map f, rfl, by simp, fun j hj => ?_⟩
    have hj' : j < len := by simpa using hj
    obtain ⟨⟨c0, c1, c2, c3⟩, hfit⟩ := hfd j hj'
    have hspot : a.spot = none := by
      obtain ⟨⟨d0, -⟩, -⟩ := hfd 0 (by omega)
      simpa [Addr.add] using World.cell?_spot d0
    obtain ⟨b, off, spot⟩ := a
    simp only at hspot
    subst hspot
    rw [Go.WideShapes.add_plain, Go.WideShapes.add_plain] at c0 c1 c2 c3
    have hg : ((List.range len).map f)[j] = f j := by simp
    rw [hg]
    exact ⟨b, off, rfl, World.block_lt_of_cell? _ _ c0, ⟨c0, c1, c2, c3⟩, hfit⟩
end
end Go.Proofs.YtjfdbigkbgolmaaGreatDoor
namespace Go.Proofs.YtjfdbigkbgolmaaGreatDoor
set_option linter.unusedVariables false
set_option linter.unusedSimpArgs false
open Go.RowKit Go.Shelf Go.Deep

theorem flatD_length (l : List Dt) : (l.flatMap encD).length = l.length * 4 := by
  induction l with
  | nil => rfl
  | cons e l ih => simp at ih ⊢; omega
theorem flatD_one (l : List Dt) : ∀ u ∈ l.flatMap encD, u.oneCell' = true := by
  intro u hu
  obtain ⟨e, he, h⟩ := List.mem_flatMap.1 hu
  simp at h
  rcases h with rfl | rfl | rfl | rfl <;> rfl
theorem Dts.news {n₀ : Nat} {W : World} {sv : Value} {l : List Dt} (h : Dts n₀ W sv l) (hne : l ≠ []) : ∃ b off cap, sv = .slice (some ⟨b, off, none⟩) l.length cap ∧ b < n₀ ∧ ∀ j u, (l.flatMap encD)[j]? = some u → W.cell? ((⟨b, off, none⟩ : Addr).add j) = some u := by
  rcases h with ⟨-, rfl⟩ | ⟨b, off, cap, rfl, hb, hl, -, hc⟩
  · exact absurd rfl hne
  · refine ⟨b, off, cap, rfl, hb, fun j u hj => ?_⟩
    rw [Go.WideShapes.add_plain]
    obtain ⟨hlt, -⟩ := List.getElem?_eq_some_iff.1 hj
    rw [flatD_length] at hlt
    obtain ⟨q, r, hr, rfl⟩ : ∃ q r, r < 4 ∧ j = q * 4 + r := ⟨j / 4, j % 4, Nat.mod_lt _ (by decide), by omega⟩
    obtain ⟨f0, f1, f2, f3⟩ := flat4 l q (by omega)
    obtain ⟨c0, c1, c2, c3⟩ := hc q (by omega)
    match r, hr, hj with
    | 0, _, hj => exact c0.trans (f0.symm.trans hj)
    | 1, _, hj => exact c1.trans (f1.symm.trans hj)
    | 2, _, hj => exact c2.trans (f2.symm.trans hj)
    | 3, _, hj => exact c3.trans (f3.symm.trans hj)

theorem append_fresh (W : World) (base Z : Nat) (xv : Value) (l : List Dt) (ty : TypeId) (hZ : W.ownsRow base 59 4 (.slice (some ⟨Z, 0, none⟩) 0 0) 0 []) (hx : Dts W.heap.size W xv l) (hl : l.length ≤ 1000000) (hb : base ≤ W.heap.size) :
    ∃ v' W', (Builtin.append_ #[42, 42] ty #[.slice (some ⟨Z, 0, none⟩) 0 0, xv]).run Tryz.prog W = .ok v' W' ∧ W'.ownsRow base 59 4 v' l.length (l.flatMap encD) ∧ Below W.heap.size W W' := by
  obtain ⟨i0, hi0, hz0, hz1, hz2⟩ := info_parts dotInfo
  by_cases hne : l = []
  · subst hne
    have hs : Src Tryz.prog i0.size 42 xv 0 [] W := by
      rcases hx with ⟨rfl, -⟩ | ⟨b, off, cap, rfl, -⟩
      · exact Src.ofNil W Tryz.underlying42 0
      · exact Src.ofSlice W Tryz.underlying42 _ 0 cap [] (by simp) (by simp) (by simp)
    have hr := run_append_room_src (P := Tryz.prog) W 42 42 ty 59 i0 Tryz.underlying42 hi0 Z 0 0 0 xv 0 [] hs (by omega) (by simp) (by simp)
    exact ⟨_, W, hr, hZ, Below.refl _ _⟩
  · obtain ⟨b, off, cap, rfl, hbn, hnews⟩ := hx.news hne
    have hpos : 0 < l.length := List.length_pos_iff.2 hne
    obtain ⟨v', W', hr, hown, -, -, -⟩ := run_append_own_at (P := Tryz.prog) W base 42 ty 59 i0 _ 4 32 Tryz.underlying42 hi0 hz0 hz1 hz2 rfl (by omega) _ 0 [] hZ ⟨b, off, none⟩ l.length cap (l.flatMap encD) (flatD_length l) hnews (flatD_one l) (by unfold maxLen; omega) (by omega) hb
    have hs : Src Tryz.prog i0.size 42 (.slice (some ⟨b, off, none⟩) l.length cap) l.length (l.flatMap encD) W := Src.ofSlice W Tryz.underlying42 _ _ cap _ (by rw [hz1]; exact flatD_length l) hnews (flatD_one l)
    have hold : (Builtin.firstCells i0.size 0 (.slice (some ⟨Z, 0, none⟩) 0 0)).run Tryz.prog W.drew = .ok (([] : List Value).toArray) W.drew := run_firstCells_some W.drew i0.size 0 ⟨Z, 0, none⟩ 0 0 [] (by simp) (by simp)
    have hcap : Builtin.nextslicecap (0 + l.length) 0 * i0.bytes ≤ 281474976710656 := growslice_fits (by omega) (by rw [hz2]; omega)
    have hr2 := run_append_grow_src (P := Tryz.prog) W 42 42 ty 59 i0 _ Tryz.underlying42 hi0 hz0 (some ⟨Z, 0, none⟩) 0 0 [] hold _ l.length _ hs (by omega) (by omega) hcap
    rw [hr2] at hr
    injection hr with h1 h2
    subst h1 h2
    refine ⟨_, _, hr2, ?_, (Below.refl _ W).drew.alloc (Nat.le_refl _) _⟩
    simpa using hown

/-- at a step of a region that draws -/
theorem step_append_fresh {ops : Array Oper} {o : Oper} {a : Act} {w : World} {K : Act → World → Prop} {Q : Exit → Act → World → Prop} {E : Prop} (hgd : o.guard = none) (s x : Operand)
    (ho : o.op = .call { callee := .builtin .append, args := #[s, x], argTypes := #[42, 42] })
    (base Z : Nat) (hs : a.eval s = .slice (some ⟨Z, 0, none⟩) 0 0) (hZ : w.ownsRow base 59 4 (.slice (some ⟨Z, 0, none⟩) 0 0) 0 []) (xv : Value) (l : List Dt) (hxv : a.eval x = xv) (hx : Dts w.heap.size w xv l) (hl : l.length ≤ 1000000) (hb : base ≤ w.heap.size)
    (h : ∀ v' w', w'.ownsRow base 59 4 v' l.length (l.flatMap encD) → Below w.heap.size w w' → K (a.put o.dst v') w') :
    if Region.wanted o (yielded ops a.tmps) = true then Oper.wp Tryz.prog o a w K Q else E := by
  have hw : Region.wanted o (yielded ops a.tmps) = true := by simp [Region.wanted, hgd]
  rw [if_pos hw]
  obtain ⟨v', w', hr, h2, h3⟩ := append_fresh w base Z xv l o.type hZ hx hl hb
  unfold Oper.wp execOp
  simp only [ho, resolve, invoke, builtin, Sem.run_bind, Sem.run_pure, Result.andThen_ok, List.map_toArray, List.map_cons, List.map_nil, hs, hxv, hr]
  exact h v' w' h2 h3
end Go.Proofs.YtjfdbigkbgolmaaGreatDoor
