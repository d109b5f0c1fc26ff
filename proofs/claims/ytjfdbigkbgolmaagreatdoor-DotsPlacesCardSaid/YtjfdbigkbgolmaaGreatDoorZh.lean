/-
  Chapter 29: the dots of a line: the iterator's contract.
  Small facts that many walks want: a slot's value, a wrap that is none, a world that has only grown.
  A whole value stored into a block that is known whole, at a step of a region that draws its order, and in a plain region.
-/
import Derived.Test.YtjfdbigkbgolmaaGreatDoorZb
import Derived.Test.YtjfdbigkbgolmaaGreatDoorZc
import Derived.Test.YtjfdbigkbgolmaaGreatDoorZd
import Derived.Laws.Tables
import Derived.Laws.Rows
namespace Go.Proofs.YtjfdbigkbgolmaaGreatDoor
set_option linter.unusedVariables false
set_option linter.unusedSimpArgs false
open Go.RowKit Go.Shelf
attribute [local go_sem] Oper.semAt_some

/-- the greatest of four numbers, as Go reckons it -/
def mx (x y : Int) : Int := if y > x then y else x
def max4 (a b c d : Int) : Int := mx (mx (mx a b) c) d
theorem run_max4 {P : Program} (ts : Array TypeId) (t : TypeId) (a b c d : Int) (w : World) : (Builtin.max_ ts t #[.int .i64 a, .int .i64 b, .int .i64 c, .int .i64 d]).run P w = .ok (.int .i64 (max4 a b c d)) w := by
  simp [Builtin.max_, Builtin.max2, max4, mx]
theorem max4_ge (a b c d : Int) : a ≤ max4 a b c d ∧ b ≤ max4 a b c d ∧ c ≤ max4 a b c d ∧ d ≤ max4 a b c d := by
  unfold max4 mx
  repeat' split
  all_goals omega
theorem max4_le {a b c d m : Int} (ha : a ≤ m) (hb : b ≤ m) (hc : c ≤ m) (hd : d ≤ m) : max4 a b c d ≤ m := by
  unfold max4 mx
  repeat' split
  all_goals omega
/-- how many steps a line has -/
def lineN (a b : Spot) : Int := max4 (b.1 - a.1) (-(b.1 - a.1)) (b.2 - a.2) (-(b.2 - a.2))
def lineAt (a b : Spot) (t : Int) : Spot :=
  if 0 < lineN a b then
    (a.1 + (2 * t * (b.1 - a.1) + lineN a b) / (2 * lineN a b), a.2 + (2 * t * (b.2 - a.2) + lineN a b) / (2 * lineN a b))
  else a

/-- a dot near the origin -/
structure Near (p : Spot) : Prop where
  x0 : -1048576 ≤ p.1
  x1 : p.1 ≤ 1048576
  y0 : -1048576 ≤ p.2
  y1 : p.2 ≤ 1048576
instance (n : Int) : Decidable (fits n) := inferInstanceAs (Decidable (_ ∧ _))
instance (p : Spot) : Decidable (FitS p) := inferInstanceAs (Decidable (_ ∧ _))
/-- what comes at the first k turns -/
def upto {α : Type} (f : Nat → α) (k : Nat) : List α := (List.range k).map f
theorem upto_succ {α : Type} (f : Nat → α) (k : Nat) : upto f (k + 1) = upto f k ++ [f k] := by simp [upto, List.range_succ]
theorem upto_length {α : Type} (f : Nat → α) (k : Nat) : (upto f k).length = k := by simp [upto]
theorem grownBy_of_below {w w' : World} (h : RowKit.Below w.heap.size w w') : w.grownBy w' none := ⟨h.os, h.tape, h.output, h.size, fun k hk _ => h.block k hk⟩
abbrev NSpot := { p : Spot // FitS p }
def lineS (a b : Spot) (k : Nat) : NSpot := if h : FitS (lineAt a b k) then ⟨lineAt a b k, h⟩ else ⟨(0, 0), by constructor <;> constructor <;> decide⟩
theorem lineS_val {a b : Spot} {k : Nat} (h : FitS (lineAt a b k)) : (lineS a b k).1 = lineAt a b k := by unfold lineS; rw [dif_pos h]
theorem lineAt_pos {ax ay bx by_ N t : Int} (h : lineN (ax, ay) (bx, by_) = N) (h0 : 0 < N) : lineAt (ax, ay) (bx, by_) t = (ax + (2 * t * (bx - ax) + N) / (2 * N), ay + (2 * t * (by_ - ay) + N) / (2 * N)) := by
  unfold lineAt
  rw [h, if_pos h0]
theorem lineAt_zero {a b : Spot} {N t : Int} (h : lineN a b = N) (h0 : ¬ 0 < N) : lineAt a b t = a := by
  unfold lineAt
  rw [h, if_neg h0]
/-- the product of a step with a difference -/
theorem step_in {t N x : Int} (t0 : 0 ≤ t) (t1 : t ≤ N) (N1 : N ≤ 4194304) (x0 : -N ≤ x) (x1 : x ≤ N) : -(2 * N) * 4194304 ≤ 2 * t * x ∧ 2 * t * x ≤ (2 * N) * 4194304 := by
  have h1 : 2 * t * x ≤ 2 * t * N := Int.mul_le_mul_of_nonneg_left x1 (by omega)
  have h2 : 2 * t * (-N) ≤ 2 * t * x := Int.mul_le_mul_of_nonneg_left x0 (by omega)
  have h3 : 2 * t * N ≤ 2 * N * 4194304 := Int.mul_le_mul (by omega) N1 (by omega) (by omega)
  have h4 : 2 * t * (-N) = -(2 * t * N) := by rw [Int.mul_neg]
  have h5 : -(2 * N) * 4194304 = -(2 * N * 4194304) := by rw [Int.neg_mul]
  omega
/-- a quotient of a step -/
theorem quot_in {t N x : Int} (N0 : 0 < N) (t0 : 0 ≤ t) (t1 : t ≤ N) (N1 : N ≤ 4194304) (x0 : -N ≤ x) (x1 : x ≤ N) : -4194305 ≤ (2 * t * x + N) / (2 * N) ∧ (2 * t * x + N) / (2 * N) ≤ 4194305 := by
  obtain ⟨h1, h2⟩ := step_in t0 t1 N1 x0 x1
  constructor
  · refine Int.le_ediv_of_mul_le (by omega) ?_
    have : -4194305 * (2 * N) = -(2 * N) * 4194304 - 2 * N := by grind
    omega
  · refine Int.ediv_le_of_le_mul (by omega) ?_
    have : 4194305 * (2 * N) = (2 * N) * 4194304 + 2 * N := by grind
    omega

attribute [local go_sem] run_max4

set_option maxRecDepth 100000 in
set_option maxHeartbeats 4000000 in
theorem line1_in (n : Nat) (hn : 1 ≤ n) (l Ba Bb n₀ : Nat) (ax ay bx by_ : Int) (ha0 : -1048576 ≤ ax) (ha1 : ax ≤ 1048576) (ha2 : -1048576 ≤ ay) (ha3 : ay ≤ 1048576) (hb0 : -1048576 ≤ bx) (hb1 : bx ≤ 1048576) (hb2 : -1048576 ≤ by_) (hb3 : by_ ≤ 1048576)
    (J Jx : List NSpot → World → Prop)
    (hY : ∀ pre (x : NSpot) W, J pre W → pre.length < (lineN (ax, ay) (bx, by_) + 1).toNat → YieldAt Fence.wide (n - 1) Tryz.prog l #[spotV x.1] W fun e W' =>
      (e = .returned (.bool true) ∧ J (pre ++ [x]) W' ∧ (W'.heap[Ba]? = W.heap[Ba]? ∧ W'.heap[Bb]? = W.heap[Bb]?)) ∨ (e = .returned (.bool false) ∧ Jx (pre ++ [x]) W'))
    (hJ : ∀ pre (A A' : World), J pre A → A.grownBy A' none → J pre A')
    (W : World)
    (kA : Blk W Ba #[.int .i64 ax, .int .i64 ay] 85) (kB : Blk W Bb #[.int .i64 bx, .int .i64 by_] 85) (h0 : J [] W) :
    CallsIn Fence.wide n Tryz.prog 91 #[.func (.yield l) #[] #[], .pointer (some ⟨Bb, 0, none⟩), .pointer (some ⟨Ba, 0, none⟩)] W fun e W' => (∃ v, e = .returned v) ∧
      ((∃ ys, ys = upto (lineS (ax, ay) (bx, by_)) (lineN (ax, ay) (bx, by_) + 1).toNat ∧ J ys W') ∨ (∃ pre, True ∧ Jx pre W')) := by
  have c0 : W.cell? ⟨Ba, 0, none⟩ = some (.int .i64 ax) := kA.cell 0
  have c1 : W.cell? ⟨Ba, 1, none⟩ = some (.int .i64 ay) := kA.cell 1
  have c2 : W.cell? ⟨Bb, 0, none⟩ = some (.int .i64 bx) := kB.cell 0
  have c3 : W.cell? ⟨Bb, 1, none⟩ = some (.int .i64 by_) := kB.cell 1
  obtain ⟨N, hN⟩ : ∃ N, max4 (bx - ax) (-(bx - ax)) (by_ - ay) (-(by_ - ay)) = N := ⟨_, rfl⟩
  have hge := max4_ge (bx - ax) (-(bx - ax)) (by_ - ay) (-(by_ - ay))
  have hle := max4_le (a := bx - ax) (b := -(bx - ax)) (c := by_ - ay) (d := -(by_ - ay)) (m := 2097152) (by omega) (by omega) (by omega) (by omega)
  rw [hN] at hge hle
  obtain ⟨g0, g1, g2, g3⟩ := hge
  have hNe := Lib.hid (show lineN (ax, ay) (bx, by_) = N from hN)
  refine callsIn_of_wp Tryz.func91 rfl trivial ?_ rfl
  simp only [Tryz.ntmps91, List.size_toArray, List.length_cons, List.length_nil, Nat.reduceAdd, Nat.reduceSub, Array.replicate_succ, Array.replicate_zero, List.push_toArray, List.append_toArray, List.nil_append, List.cons_append]
  gi_wp2
  refine wpIn_wide.2 ?_
  first | with_reducible refine wp_region_grow2 (by kernel_rfl) (by kernel_rfl) ?_ | with_reducible refine wp_region_grow (by kernel_rfl) (by kernel_rfl) ?_
  repeat (first | go_big_quiet_step (fail) | quiet_step (fail))
  refine wpQuiet_nil ?_
  intro _ hw_
  obtain ⟨p, hw_⟩ := hw_
  subst hw_
  gi_wp2
  have N0 : 0 ≤ N := by omega
  obtain ⟨m, hm⟩ : ∃ m : Nat, N = m := ⟨N.toNat, by omega⟩
  have hm1 : (N + 1).toNat = m + 1 := by omega
  replace hm := Lib.hid hm
  replace hm1 := Lib.hid hm1
  have kA1 := kA.grow p
  have kB1 := kB.grow p
  have h1 := hJ [] W _ h0 (grownBy_growBy W p)
  generalize W.growBy p = W1 at *
  gi_loopw [28] (fun i wr => ∃ k : Nat, k ≤ m + 1 ∧ i = .int .i64 k ∧ J (upto (lineS (ax, ay) (bx, by_)) k) wr ∧ Blk wr Ba #[.int .i64 ax, .int .i64 ay] 85 ∧ Blk wr Bb #[.int .i64 bx, .int .i64 by_] 85)
    (fun i _ => m + 1 - (intOf i).toNat)
  case atStart => exact ⟨0, by omega, rfl, h1, kA1, kB1⟩
  case round =>
    obtain ⟨k, hk, rfl, hJs, kA2, kB2⟩ := hrel
    have hlA : lineN (ax, ay) (bx, by_) = N := hNe.out
    by_cases hlt : k < m + 1
    · have hltI : (k : Int) < N + 1 := by have := hm.out; omega
      have c0 : wr.cell? ⟨Ba, 0, none⟩ = some (.int .i64 ax) := kA2.cell 0
      have c1 : wr.cell? ⟨Ba, 1, none⟩ = some (.int .i64 ay) := kA2.cell 1
      have lA := kA2.lt
      have lB := kB2.lt
      by_cases hNz : 0 < N
      · obtain ⟨s0, s1⟩ := step_in (t := (k : Int)) (N := N) (x := bx - ax) (by omega) (by omega) (by omega) (by omega) (by omega)
        obtain ⟨s2, s3⟩ := step_in (t := (k : Int)) (N := N) (x := by_ - ay) (by omega) (by omega) (by omega) (by omega) (by omega)
        obtain ⟨r0, r1⟩ := quot_in (t := (k : Int)) (N := N) (x := bx - ax) hNz (by omega) (by omega) (by omega) (by omega) (by omega)
        obtain ⟨r2, r3⟩ := quot_in (t := (k : Int)) (N := N) (x := by_ - ay) hNz (by omega) (by omega) (by omega) (by omega) (by omega)
        have s0 : -17592186044416 ≤ 2 * (k : Int) * (bx - ax) := by omega
        have s1 : 2 * (k : Int) * (bx - ax) ≤ 17592186044416 := by omega
        have s2 : -17592186044416 ≤ 2 * (k : Int) * (by_ - ay) := by omega
        have s3 : 2 * (k : Int) * (by_ - ay) ≤ 17592186044416 := by omega
        obtain ⟨q1, e1⟩ : ∃ q, (2 * (k : Int) * (bx - ax) + N) / (2 * N) = q := ⟨_, rfl⟩
        obtain ⟨q2, e2⟩ : ∃ q, (2 * (k : Int) * (by_ - ay) + N) / (2 * N) = q := ⟨_, rfl⟩
        have hv : lineAt (ax, ay) (bx, by_) k = (ax + q1, ay + q2) := by rw [lineAt_pos hlA hNz, ← e1, ← e2]
        rw [e1] at r0 r1
        rw [e2] at r2 r3
        have hfit : FitS (lineAt (ax, ay) (bx, by_) k) := by rw [hv]; exact ⟨⟨by omega, by omega⟩, ⟨by omega, by omega⟩⟩
        have hval : (lineS (ax, ay) (bx, by_) k).1 = (ax + q1, ay + q2) := (lineS_val hfit).trans hv
        clear hfit hv
        replace e1 := Lib.hid e1
        replace e2 := Lib.hid e2
        replace hlA := Lib.hid hlA
        gi_wp2
        refine wpIn_wide.2 ?_
        first | with_reducible refine wp_region_grow_tail2 25 (by kernel_rfl) (by kernel_rfl) ?_ | with_reducible refine wp_region_grow_tail 25 (by kernel_rfl) (by kernel_rfl) ?_
        simp only [List.take_succ_cons, List.take_zero, List.drop_succ_cons, List.drop_zero]
        repeat (first | go_big_quiet_step ((go_at_call 92; exact Calls.grow_of_same (floor_eq (by first | with_reducible exact e1.out | with_reducible exact e2.out) _ (by omega) (by omega) (by omega)))) | quiet_step ((go_at_call 92; exact Calls.grow_of_same (floor_eq (by first | with_reducible exact e1.out | with_reducible exact e2.out) _ (by omega) (by omega) (by omega)))))
        refine wpQuiet_nil ?_
        intro _ hw_
        obtain ⟨p, hw_⟩ := hw_
        subst hw_
        go_wp2_with fail
        have hB3 : RowKit.Below wr.heap.size wr ((wr.alloc (.cells #[.int .i64 (ax + q1), .int .i64 (ay + q2)] 85)).growBy p) := (by repeat' (first | with_reducible exact Below.refl _ _ | with_reducible exact Nat.le_refl _ | with_reducible assumption | with_reducible refine Go.below_growBy' ?_ ?_ _ | with_reducible refine Below.alloc ?_ ?_ _ | with_reducible refine Below.setCell ?_ ?_ _ | with_reducible refine Below.drew ?_ | with_reducible refine Go.le_alloc ?_ | with_reducible refine Go.le_growBy ?_ | with_reducible refine Go.le_setCell ?_ | with_reducible refine Go.le_drew ?_ | omega | (dsimp only; omega)))
        have bX := (Blk.new wr #[.int .i64 (ax + q1), .int .i64 (ay + q2)] 85).grow p
        obtain ⟨W3, hW3⟩ : ∃ W3, (wr.alloc (.cells #[.int .i64 (ax + q1), .int .i64 (ay + q2)] 85)).growBy p = W3 := ⟨_, rfl⟩
        rw [hW3] at hB3 bX ⊢
        clear hW3
        have hJ3 := hJ _ wr W3 hJs (grownBy_of_below hB3)
        have kA3 := kA2.below hB3 lA
        have kB3 := kB2.below hB3 lB
        have x0 : W3.cell? ⟨wr.heap.size, 0, none⟩ = some (.int .i64 (ax + q1)) := bX.cell 0
        have x1 : W3.cell? ⟨wr.heap.size, 1, none⟩ = some (.int .i64 (ay + q2)) := bX.cell 1
        obtain ⟨fn, tmps, assign, body, hy, hR⟩ := hY _ (lineS (ax, ay) (bx, by_) k) W3 hJ3 (by rw [upto_length, hNe.out, hm1.out]; exact hlt)
        rw [hval] at hy
        clear s0 s1 s2 s3 r0 r1 r2 r3 c0 c1 hB3 bX
        generalize wr.heap.size = Bx at *
        gi_wp2
        refine hR.mono ?_
        rintro e W4 (⟨rfl, hJ4, e5, e6⟩ | ⟨rfl, hJx⟩)
        · gi_wp2
          go_roundw
          case rel => exact ⟨k + 1, by omega, by go_num, by rw [upto_succ]; exact hJ4, e5.trans kA3, e6.trans kB3⟩
          case measure => simp [intOf]; omega
        · gi_wp2
          refine bodyPost_ret (results_none rfl _ _ _) rfl ?_
          exact ⟨⟨_, rfl⟩, .inr ⟨_, trivial, hJx⟩⟩
      · have hfit : FitS (lineAt (ax, ay) (bx, by_) k) := by rw [lineAt_zero hlA hNz]; exact ⟨⟨by omega, by omega⟩, ⟨by omega, by omega⟩⟩
        have hval : (lineS (ax, ay) (bx, by_) k).1 = (ax, ay) := (lineS_val hfit).trans (lineAt_zero hlA hNz)
        clear hfit
        replace hlA := Lib.hid hlA
        have hB3 : RowKit.Below wr.heap.size wr (wr.alloc (.cells #[.int .i64 ax, .int .i64 ay] 85)) := (by repeat' (first | with_reducible exact Below.refl _ _ | with_reducible exact Nat.le_refl _ | with_reducible assumption | with_reducible refine Go.below_growBy' ?_ ?_ _ | with_reducible refine Below.alloc ?_ ?_ _ | with_reducible refine Below.setCell ?_ ?_ _ | with_reducible refine Below.drew ?_ | with_reducible refine Go.le_alloc ?_ | with_reducible refine Go.le_growBy ?_ | with_reducible refine Go.le_setCell ?_ | with_reducible refine Go.le_drew ?_ | omega | (dsimp only; omega)))
        have hJ3 := hJ _ wr _ hJs (grownBy_of_below hB3)
        have kA3 := kA2.below hB3 lA
        have kB3 := kB2.below hB3 lB
        obtain ⟨fn, tmps, assign, body, hy, hR⟩ := hY _ (lineS (ax, ay) (bx, by_) k) _ hJ3 (by rw [upto_length, hNe.out, hm1.out]; exact hlt)
        rw [hval] at hy
        gi_wp2
        refine hR.mono ?_
        rintro e W4 (⟨rfl, hJ4, e5, e6⟩ | ⟨rfl, hJx⟩)
        · gi_wp2
          go_roundw
          case rel => exact ⟨k + 1, by omega, by go_num, by rw [upto_succ]; exact hJ4, e5.trans kA3, e6.trans kB3⟩
          case measure => simp [intOf]; omega
        · gi_wp2
          refine bodyPost_ret (results_none rfl _ _ _) rfl ?_
          exact ⟨⟨_, rfl⟩, .inr ⟨_, trivial, hJx⟩⟩
    · obtain rfl : k = m + 1 := by omega
      have hltI : ¬ (((m + 1 : Nat) : Int) < N + 1) := by have := hm.out; omega
      replace hlA := Lib.hid hlA
      gi_wp2
      go_end0
      exact ⟨⟨_, rfl⟩, .inl (by rw [hNe.out, hm1.out]; exact hJs)⟩

/-- the two boxes stay -/
def KeepB (Ba Bb : Nat) (A B : World) : Prop := B.heap[Ba]? = A.heap[Ba]? ∧ B.heap[Bb]? = A.heap[Bb]?
theorem keepB_t {Ba Bb : Nat} {A B C : World} (h : KeepB Ba Bb A B) (k : KeepB Ba Bb B C) : KeepB Ba Bb A C := ⟨k.1.trans h.1, k.2.trans h.2⟩
theorem keepB_b {Ba Bb : Nat} {w : World} (ha : Ba < w.heap.size) (hb : Bb < w.heap.size) (W : World) (l : Nat) (o o' : Obj) (hl : w.heap.size ≤ l) (_ : W.heap[l]? = some o) (_ : o.isCells = false) (_ : o.isWalk = false) : KeepB Ba Bb W (W.putObj l o') :=
  ⟨World.putObj_heap_other (by omega), World.putObj_heap_other (by omega)⟩

theorem line_stops (n : Nat) (hn : 1 ≤ n) (Ba Bb : Nat) (a b : Spot) (ha : Near a) (hb : Near b) (w : World)
    (kA : Blk w Ba #[.int .i64 a.1, .int .i64 a.2] 85) (kB : Blk w Bb #[.int .i64 b.1, .int .i64 b.2] 85) :
    SeqStopsK Fence.wide n Tryz.prog 91 #[.pointer (some ⟨Bb, 0, none⟩), .pointer (some ⟨Ba, 0, none⟩)] (fun x : NSpot => #[spotV x.1]) (KeepB Ba Bb) (fun ys => ys = upto (lineS a b) (lineN a b + 1).toNat) (fun _ => True) (lineN a b + 1).toNat w := fun l J Jx W hW hJ _ hY h0 => by
  obtain ⟨ax, ay⟩ := a
  obtain ⟨bx, by_⟩ := b
  obtain ⟨a0, a1, a2, a3⟩ := ha
  obtain ⟨b0, b1, b2, b3⟩ := hb
  exact line1_in n hn l Ba Bb 0 ax ay bx by_ a0 a1 a2 a3 b0 b1 b2 b3 J Jx hY (fun pre A A' hj hg => hJ pre A A' none hj hg (fun r e => by cases e)) W (kA.below hW kA.lt) (kB.below hW kB.lt) h0

set_option maxHeartbeats 1000000 in
/-- line: both dots are boxed; the function value captures the boxes -/
theorem line_any (ax ay bx by_ : Int) (w : World) :
    Calls Tryz.prog 47 #[spotV (ax, ay), spotV (bx, by_)] w fun e w' => e = .returned (.func (.func 91) #[] #[.pointer (some ⟨w.heap.size + 1, 0, none⟩), .pointer (some ⟨w.heap.size, 0, none⟩)]) ∧
      w' = (w.alloc (.cells #[.int .i64 ax, .int .i64 ay] 85)).alloc (.cells #[.int .i64 bx, .int .i64 by_] 85) := by
  go_enter Tryz.func47, Tryz.ntmps47
  go_wp2_with fail
  go_ret
  exact ⟨rfl, rfl⟩

theorem waysClosure_any (x y : Int) (w : World) :
    Calls Tryz.prog 45 #[.agg #[.int .i64 x, .int .i64 y]] w fun e w' => e = .returned (.bool (!rightP x y)) ∧ Below w.heap.size w w' := by
  obtain ⟨b, hb⟩ : ∃ b, rightP x y = b := ⟨_, rfl⟩
  rw [hb]
  replace hb := Lib.hid hb
  go_enter Tryz.func45, Tryz.ntmps45
  go_wp2_with (go_at_call 46; refine (right_eq hb.out _).mono ?_; rintro e w' ⟨rfl, hb_⟩; obtain ⟨p, rfl⟩ := grow_of_below hb_; clear hb_)
  go_ret
  exact ⟨by simp, (by repeat' (first | with_reducible exact Below.refl _ _ | with_reducible exact Nat.le_refl _ | with_reducible assumption | with_reducible refine Go.below_growBy' ?_ ?_ _ | with_reducible refine Below.alloc ?_ ?_ _ | with_reducible refine Below.setCell ?_ ?_ _ | with_reducible refine Below.drew ?_ | with_reducible refine Go.le_alloc ?_ | with_reducible refine Go.le_growBy ?_ | with_reducible refine Go.le_setCell ?_ | with_reducible refine Go.le_drew ?_ | omega | (dsimp only; omega)))⟩
end Go.Proofs.YtjfdbigkbgolmaaGreatDoor
namespace Go.Proofs.YtjfdbigkbgolmaaGreatDoor
set_option linter.unusedVariables false
set_option linter.unusedSimpArgs false
open Go.RowKit Go.Shelf
theorem evalAt {b : Act} {k : Nat} {v : Value} (h : b.eval (.tmp k) = v) : b.tmps[k]?.getD undef = v := by
  rw [← h]
  simp [Act.eval]
theorem evalSome {b : Act} {k : Nat} {v : Value} (h : b.eval (.tmp k) = v) (hk : k < b.tmps.size) : b.tmps[k]? = some v := by
  have h2 := evalAt h
  rw [Array.getElem?_eq_getElem hk] at h2 ⊢
  exact congrArg some h2
theorem grown_refl (w : World) : w.grownBy w none := grownBy_of_below (Below.refl _ _)
theorem drew_grown7 (W : World) : W.grownBy W.drew none := ⟨rfl, rfl, rfl, Nat.le_refl _, fun _ _ _ => rfl⟩
theorem wrap_in7 {x : Int} (h0 : -9223372036854775808 ≤ x) (h1 : x ≤ 9223372036854775807) : IntKind.i64.wrap x = x := by
  simp [IntKind.wrap, IntKind.bits, IntKind.signed]
  omega
theorem grownBy_any {W W' : World} (h : W.grownBy W' none) (r : Option Nat) : W.grownBy W' r := ⟨h.os, h.tape, h.output, h.size, fun k hk _ => h.block k hk (by simp)⟩
end Go.Proofs.YtjfdbigkbgolmaaGreatDoor
namespace Go.Proofs.YtjfdbigkbgolmaaGreatDoor
set_option linter.unusedVariables false
set_option linter.unusedSimpArgs false
open Go.RowKit Go.Shelf

section
variable {P : Program}
theorem setRow_grown {W : World} {B : Nat} {c : Array Value} {t : TypeId} (h : Blk W B c t) (cs : Array Value) : Blk (W.setRow B cs) B cs t ∧ W.grownBy (W.setRow B cs) (some B) :=
  ⟨setRow_heap W B c cs t (0, 0) h, rfl, rfl, rfl, by simp [World.setRow], fun k _ hk => setRow_other W B k _ (fun e => hk (by rw [e]))⟩
theorem step_store_blk {ops : Array Oper} {o : Oper} {a : Act} {w : World} {K : Act → World → Prop} {Q : Exit → Act → World → Prop} {E : Prop} (hgd : o.guard = none) (ty : TypeId) (x y : Operand) (ho : o.op = .store ty x y)
    (B : Nat) (cs : Array Value) (hx : a.eval x = .pointer (some ⟨B, 0, none⟩)) (hy : a.eval y = .agg cs) (t : TypeId) (old : Array Value) (hB : Blk w B old t) (hi : (P.info? ty).map (·.size) = some cs.size)
    (hold : old.size = cs.size) (h1 : cs.all (·.oneCell') = true) (h : ∀ w', Blk w' B cs t → w.grownBy w' (some B) → K (a.put o.dst undef) w') :
    if Region.wanted o (yielded ops a.tmps) = true then Oper.wp P o a w K Q else E := by
  have hw : Region.wanted o (yielded ops a.tmps) = true := by simp [Region.wanted, hgd]
  rw [if_pos hw]
  obtain ⟨k1, k2⟩ := setRow_grown hB cs
  exact wp_store_row ty x y ho B cs hx hy t old hB hi hold h1 (h _ k1 k2)
theorem wpList_store_blk {ops : Array Oper} {rest : List Oper} {o : Oper} {a : Act} {w : World} {Q : Exit → Act → World → Prop} (hgd : o.guard = none) (ty : TypeId) (x y : Operand) (ho : o.op = .store ty x y)
    (B : Nat) (cs : Array Value) (hx : a.eval x = .pointer (some ⟨B, 0, none⟩)) (hy : a.eval y = .agg cs) (t : TypeId) (old : Array Value) (hB : Blk w B old t) (hi : (P.info? ty).map (·.size) = some cs.size)
    (hold : old.size = cs.size) (h1 : cs.all (·.oneCell') = true) (h : ∀ w', Blk w' B cs t → w.grownBy w' (some B) → wpList P ops Q rest (a.put o.dst undef) w') : wpList P ops Q (o :: rest) a w :=
  wpList_plain hgd fun _ hK => by
    obtain ⟨k1, k2⟩ := setRow_grown hB cs
    exact wp_store_row ty x y ho B cs hx hy t old hB hi hold h1 (hK _ _ (h _ k1 k2))
end
end Go.Proofs.YtjfdbigkbgolmaaGreatDoor
