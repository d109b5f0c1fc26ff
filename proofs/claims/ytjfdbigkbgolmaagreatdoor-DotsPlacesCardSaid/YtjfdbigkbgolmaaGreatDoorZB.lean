/-
  Chapter 29: the reference's Line, walked.
-/
import Derived.Test.YtjfdbigkbgolmaaGreatDoorZh
import Derived.Test.YtjfdbigkbgolmaaGreatDoorZb
import Derived.Deep.AppendLies
import Derived.Deep.RegionLaw
import Derived.Deep.DrawnRows
import Derived.Deep.CutBlock
import Derived.Deep.DeepCutAuto
namespace Go.Proofs.YtjfdbigkbgolmaaGreatDoor
set_option linter.unusedVariables false
set_option linter.unusedSimpArgs false
open Go.RowKit Go.Shelf
attribute [local go_sem] Oper.semAt_some
attribute [local go_sem ↓] Go.wp_at_zero Go.wp_at_succ

theorem rabs_any (n r : Int) (w : World) (hr : max n (-n) = r) (h0 : -4611686018427387904 ≤ n) (h1 : n ≤ 4611686018427387904) :
    Calls Tryz.prog 94 #[.int .i64 n] w fun e w' => e = .returned (.int .i64 r) ∧ w = w' := by
  subst hr
  have hw : IntKind.i64.wrap (-n) = -n := wrap_in7 (by omega) (by omega)
  go_enter Tryz.func94, Tryz.ntmps94
  go_wp2_with fail
  go_ret
  exact ⟨rfl, rfl⟩

def lineP (a b : Spot) : List Spot := upto (fun k => lineAt a b k) (lineN a b + 1).toNat
theorem rline_N (a b : Spot) : max (max (b.1 - a.1) (-(b.1 - a.1))) (max (b.2 - a.2) (-(b.2 - a.2))) = lineN a b := by
  unfold lineN max4 mx
  repeat' split
  all_goals omega
/-- a dot, nearer to the origin -/
structure Near5 (p : Spot) : Prop where
  x0 : -100000 ≤ p.1
  x1 : p.1 ≤ 100000
  y0 : -100000 ≤ p.2
  y1 : p.2 ≤ 100000
theorem lineN_near {a b : Spot} (ha : Near5 a) (hb : Near5 b) : 0 ≤ lineN a b ∧ lineN a b ≤ 200000 := by
  obtain ⟨a0, a1, a2, a3⟩ := ha
  obtain ⟨b0, b1, b2, b3⟩ := hb
  refine ⟨?_, max4_le (by omega) (by omega) (by omega) (by omega)⟩
  have := max4_ge (b.1 - a.1) (-(b.1 - a.1)) (b.2 - a.2) (-(b.2 - a.2))
  unfold lineN
  omega
theorem ediv_bd {a b M : Int} (hb : 1 ≤ b) (hM : 0 ≤ M) (h0 : -M ≤ a) (h1 : a ≤ M) : -M ≤ a / b ∧ a / b ≤ M := by
  have h2 := Int.mul_le_mul_of_nonneg_left hb hM
  rw [Int.mul_one] at h2
  refine ⟨Int.le_ediv_of_mul_le (by omega) ?_, Int.ediv_le_of_le_mul (by omega) (by omega)⟩
  rw [Int.neg_mul]
  omega
theorem prod_bd {a b : Int} (a0 : 0 ≤ a) (a1 : a ≤ 400000) (b0 : -200000 ≤ b) (b1 : b ≤ 200000) : -80000000000 ≤ a * b ∧ a * b ≤ 80000000000 := by
  have h1 := Int.mul_le_mul_of_nonneg_left b1 a0
  have h2 := Int.mul_le_mul_of_nonneg_left b0 a0
  omega

/-- the worlds of Line's walk -/
structure LN (w : World) (B2 B3 base : Nat) (ax ay bx by_ : Int) (lv : Value) (l : List Spot) (W : World) : Prop where
  k2 : Blk W B2 #[.int .i64 ax, .int .i64 ay] 25
  k3 : Blk W B3 #[.int .i64 bx, .int .i64 by_] 25
  l2 : B2 < base
  l3 : B3 < base
  lw : w.heap.size ≤ base
  row : W.ownsRow base 25 2 lv l.length (l.flatMap encS)
  below : Below w.heap.size w W
  lb : base ≤ W.heap.size
section
variable {w W W' : World} {B2 B3 base : Nat} {ax ay bx by_ : Int} {lv : Value} {l : List Spot}
theorem LN.grown (h : LN w B2 B3 base ax ay bx by_ lv l W) (hg : W.grownBy W' none) : LN w B2 B3 base ax ay bx by_ lv l W' :=
  ⟨h.k2.kept hg (by simp), h.k3.kept hg (by simp), h.l2, h.l3, h.lw, by
    refine h.row.kept hg ?_
    rcases h.row.2 with ⟨rfl, _⟩ | ⟨g, cap, cur, rfl, _⟩
    · exact .inl rfl
    · exact .inr (fun e => by cases e), h.below.grown hg h.below.size (fun k e => by cases e), Nat.le_trans h.lb hg.size⟩
theorem LN.alloc (h : LN w B2 B3 base ax ay bx by_ lv l W) (o : Obj) : LN w B2 B3 base ax ay bx by_ lv l (W.alloc o) := h.grown (World.grownBy_alloc W o none)
theorem LN.a0 (h : LN w B2 B3 base ax ay bx by_ lv l W) : W.cell? ⟨B2, 0, none⟩ = some (.int .i64 ax) := h.k2.cell 0
theorem LN.a1 (h : LN w B2 B3 base ax ay bx by_ lv l W) : W.cell? ⟨B2, 1, none⟩ = some (.int .i64 ay) := h.k2.cell 1
theorem LN.b0 (h : LN w B2 B3 base ax ay bx by_ lv l W) : W.cell? ⟨B3, 0, none⟩ = some (.int .i64 bx) := h.k3.cell 0
theorem LN.b1 (h : LN w B2 B3 base ax ay bx by_ lv l W) : W.cell? ⟨B3, 1, none⟩ = some (.int .i64 by_) := h.k3.cell 1
theorem LN.appended {g cap : Nat} {p : Spot} (h : LN w B2 B3 base ax ay bx by_ lv l W) (hg : W.grownBy W' lv.ownBlock) (hown : W'.ownsRow base 25 2 (.slice (some ⟨g, 0, none⟩) (l.length + 1) cap) (l.length + 1) (l.flatMap encS ++ encS p)) :
    LN w B2 B3 base ax ay bx by_ (.slice (some ⟨g, 0, none⟩) (l.length + 1) cap) (l ++ [p]) W' := by
  have hne : ∀ B, B < base → lv.ownBlock ≠ some B := fun B hB e => by have := (h.row.lt _ e).1; omega
  refine ⟨h.k2.kept hg (hne _ h.l2), h.k3.kept hg (hne _ h.l3), h.l2, h.l3, h.lw, ?_, h.below.grown hg h.below.size (fun r e => by have := (h.row.lt _ e).1; have := h.lw; omega), Nat.le_trans h.lb hg.size⟩
  rw [List.length_append, List.flatMap_append]
  simpa using hown
end
theorem pnews {X : World} {P : Nat} {x y : Int} (h : Blk X P #[.int .i64 x, .int .i64 y] 25) : ∀ j u, (encS (x, y))[j]? = some u → X.cell? ((⟨P, 0, none⟩ : Addr).add j) = some u := fun j u hj => by
  rw [Go.WideShapes.add_plain, Nat.zero_add]
  match j, hj with
  | 0, hj => exact (h.cell 0).trans hj
  | 1, hj => exact (h.cell 1).trans hj
  | j + 2, hj => simp at hj
theorem pointInfo' : (Tryz.prog.info? 25).map (fun i => (i.zero, i.size, i.bytes)) = some (some (.agg #[.int .i64 0, .int .i64 0]), 2, 16) := by kernel_rfl
theorem prow_one {X : World} {L base : Nat} {x y : Int} (h : Blk X L #[.int .i64 x, .int .i64 y] 25) (hb : base ≤ L) : X.ownsRow base 25 2 (.slice (some ⟨L, 0, none⟩) 1 1) 1 [.int .i64 x, .int .i64 y] :=
  ⟨rfl, .inr ⟨L, 1, _, rfl, hb, h, Nat.le_refl _, by unfold maxLen; omega, rfl, rfl⟩⟩

def FLine (B2 B3 : Nat) (u6 : Value) (t N ax ay bx by_ qx qy : Int) (i : Nat) (v : Value) (w : World) : Prop :=
  match i with
  | 0 => v = u6
  | 1 => v = .pointer (some ⟨B2, 0, none⟩)
  | 2 => v = .int .i64 ax
  | 3 => v = .int .i64 t
  | 4 => v = .int .i64 (2 * t)
  | 5 => v = .pointer (some ⟨B3, 0, none⟩)
  | 6 => v = .int .i64 bx
  | 7 => v = .pointer (some ⟨B2, 0, none⟩)
  | 8 => v = .int .i64 ax
  | 9 => v = .int .i64 (bx - ax)
  | 10 => v = .int .i64 ((2 * t) * (bx - ax))
  | 11 => v = .int .i64 N
  | 12 => v = .int .i64 (((2 * t) * (bx - ax)) + N)
  | 13 => v = .int .i64 N
  | 14 => v = .int .i64 (2 * N)
  | 15 => v = .int .i64 qx
  | 16 => v = .int .i64 (ax + qx)
  | 17 => v = .pointer (some ⟨B2, 1, none⟩)
  | 18 => v = .int .i64 ay
  | 19 => v = .int .i64 t
  | 20 => v = .int .i64 (2 * t)
  | 21 => v = .pointer (some ⟨B3, 1, none⟩)
  | 22 => v = .int .i64 by_
  | 23 => v = .pointer (some ⟨B2, 1, none⟩)
  | 24 => v = .int .i64 ay
  | 25 => v = .int .i64 (by_ - ay)
  | 26 => v = .int .i64 ((2 * t) * (by_ - ay))
  | 27 => v = .int .i64 N
  | 28 => v = .int .i64 (((2 * t) * (by_ - ay)) + N)
  | 29 => v = .int .i64 N
  | 30 => v = .int .i64 (2 * N)
  | 31 => v = .int .i64 qy
  | 32 => v = .int .i64 (ay + qy)
  | 33 => v = .agg #[.int .i64 (ax + qx), .int .i64 (ay + qy)]
  | 34 => ∃ L, v = .slice (some ⟨L, 0, none⟩) 1 1 ∧ Blk w L #[.int .i64 (ax + qx), .int .i64 (ay + qy)] 25
  | _ => False
theorem FLine.kept {B2 B3 : Nat} {u6 : Value} {t N ax ay bx by_ qx qy : Int} {i : Nat} {v : Value} {w w' : World} (h : FLine B2 B3 u6 t N ax ay bx by_ qx qy i v w) (hg : w.grownBy w' none) : FLine B2 B3 u6 t N ax ay bx by_ qx qy i v w' := by
  unfold FLine at *
  split at h
  all_goals first | exact h | (obtain ⟨L, h1, h2⟩ := h; exact ⟨L, h1, h2.kept hg (by simp)⟩)

set_option maxRecDepth 100000 in
set_option maxHeartbeats 4000000 in
theorem rline_any (a b : Spot) (w : World) (ha : Near5 a) (hb : Near5 b) :
    Calls Tryz.prog 51 #[.agg #[.int .i64 a.1, .int .i64 a.2], .agg #[.int .i64 b.1, .int .i64 b.2]] w fun e w' => ∃ v base, e = .returned v ∧ w.heap.size ≤ base ∧ w'.ownsRow base 25 2 v (lineP a b).length ((lineP a b).flatMap encS) ∧ Below w.heap.size w w' := by
  obtain ⟨N0, N1⟩ := lineN_near ha hb
  have hN := rline_N a b
  obtain ⟨ax, ay⟩ := a
  obtain ⟨bx, by_⟩ := b
  obtain ⟨a0, a1, a2, a3⟩ := ha
  obtain ⟨b0, b1, b2, b3⟩ := hb
  simp only at a0 a1 a2 a3 b0 b1 b2 b3 hN
  obtain ⟨N, hNe⟩ : ∃ N, lineN (ax, ay) (bx, by_) = N := ⟨_, rfl⟩
  rw [hNe] at hN N0 N1
  obtain ⟨i0, hi0, hz0, hz1, hz2⟩ := info_parts pointInfo'
  obtain ⟨mX, hmX⟩ : ∃ m, max (bx - ax) (-(bx - ax)) = m := ⟨_, rfl⟩
  obtain ⟨mY, hmY⟩ : ∃ m, max (by_ - ay) (-(by_ - ay)) = m := ⟨_, rfl⟩
  rw [hmX, hmY] at hN
  have q1 : IntKind.i64.wrap (bx - ax) = bx - ax := wrap_in7 (by omega) (by omega)
  have q2 : IntKind.i64.wrap (by_ - ay) = by_ - ay := wrap_in7 (by omega) (by omega)
  go_enter Tryz.func51, Tryz.ntmps51
  go_wp2_with fail
  first | with_reducible refine wp_region_grow_tail2 12 (by kernel_rfl) (by kernel_rfl) ?_ | with_reducible refine wp_region_grow_tail 12 (by kernel_rfl) (by kernel_rfl) ?_
  simp only [List.take_succ_cons, List.take_zero, List.drop_succ_cons, List.drop_zero]
  repeat (first | go_big_quiet_step (first | (go_at_call 94; exact Calls.grow_of_same (rabs_any _ _ _ (by first | with_reducible exact hmX | with_reducible exact hmY) (by omega) (by omega))) | fail) | quiet_step (first | (go_at_call 94; exact Calls.grow_of_same (rabs_any _ _ _ (by first | with_reducible exact hmX | with_reducible exact hmY) (by omega) (by omega))) | fail))
  refine wpQuiet_nil ?_
  intro _ hw_
  obtain ⟨p, hw_⟩ := hw_
  subst hw_
  replace hmX := Lib.hid hmX
  replace hmY := Lib.hid hmY
  by_cases hz : N = 0
  · subst hz
    have hLP : lineP (ax, ay) (bx, by_) = [(ax, ay)] := by
      unfold lineP lineAt
      rw [hNe]
      rfl
    go_wp2_with fail
    have kL := Blk.new (((w.alloc (.cells #[.int .i64 ax, .int .i64 ay] 25)).alloc (.cells #[.int .i64 bx, .int .i64 by_] 25)).growBy p) #[.int .i64 ax, .int .i64 ay] 25
    simp only [World.size_alloc, World.size_growBy] at kL
    have hrow := prow_one (base := w.heap.size) kL (by omega)
    go_ret
    rw [hLP]
    exact ⟨_, w.heap.size, rfl, Nat.le_refl _, hrow, (by repeat' (first | with_reducible exact Below.refl _ _ | with_reducible exact Nat.le_refl _ | with_reducible assumption | with_reducible refine Go.below_growBy' ?_ ?_ _ | with_reducible refine Below.alloc ?_ ?_ _ | with_reducible refine Below.setCell ?_ ?_ _ | with_reducible refine Below.drew ?_ | with_reducible refine Go.le_alloc ?_ | with_reducible refine Go.le_growBy ?_ | with_reducible refine Go.le_setCell ?_ | with_reducible refine Go.le_drew ?_ | omega | (dsimp only; omega)))⟩
  · have hNp : 0 < N := by omega
    have hNb : (N == 0) = false := by simpa using hz
    go_wp2_with fail
    have k2 := ((Blk.new w #[.int .i64 ax, .int .i64 ay] 25).alloc (.cells #[.int .i64 bx, .int .i64 by_] 25)).grow p
    have k3 := (Blk.new (w.alloc (.cells #[.int .i64 ax, .int .i64 ay] 25)) #[.int .i64 bx, .int .i64 by_] 25).grow p
    rw [World.size_alloc] at k3
    have hB : Below w.heap.size w (((w.alloc (.cells #[.int .i64 ax, .int .i64 ay] 25)).alloc (.cells #[.int .i64 bx, .int .i64 by_] 25)).growBy p) := (by repeat' (first | with_reducible exact Below.refl _ _ | with_reducible exact Nat.le_refl _ | with_reducible assumption | with_reducible refine Go.below_growBy' ?_ ?_ _ | with_reducible refine Below.alloc ?_ ?_ _ | with_reducible refine Below.setCell ?_ ?_ _ | with_reducible refine Below.drew ?_ | with_reducible refine Go.le_alloc ?_ | with_reducible refine Go.le_growBy ?_ | with_reducible refine Go.le_setCell ?_ | with_reducible refine Go.le_drew ?_ | omega | (dsimp only; omega)))
    obtain ⟨W0, hW0⟩ : ∃ W, (((w.alloc (.cells #[.int .i64 ax, .int .i64 ay] 25)).alloc (.cells #[.int .i64 bx, .int .i64 by_] 25)).growBy p) = W := ⟨_, rfl⟩
    rw [hW0] at k2 k3 hB ⊢
    clear hW0
    have hL0 : LN w w.heap.size (w.heap.size + 1) W0.heap.size ax ay bx by_ (.slice none 0 0) [] W0 := ⟨k2, k3, k2.lt, k3.lt, hB.size, World.ownsRow_nil _ _ _ _, hB, Nat.le_refl _⟩
    clear k2 k3 hB
    obtain ⟨B3, hB3⟩ : ∃ b, w.heap.size + 1 = b := ⟨_, rfl⟩
    obtain ⟨B2, hB2⟩ : ∃ b, w.heap.size = b := ⟨_, rfl⟩
    rw [hB3, hB2] at hL0 ⊢
    replace hB2 := Lib.hid hB2
    clear hB3
    go_loopw [6, 7] (fun v i wr => ∃ t : Nat, (t : Int) ≤ N + 1 ∧ i = .int .i64 (t : Nat) ∧ LN w B2 B3 W0.heap.size ax ay bx by_ v (upto (fun k => lineAt (ax, ay) (bx, by_) k) t) wr) (fun _ i _ => (N + 1).toNat - (intOf i).toNat)
    case atStart => exact ⟨0, by omega, rfl, by simpa [upto] using hL0⟩
    case round =>
      clear hL0
      obtain ⟨t, ht, rfl, hM⟩ := hrel
      by_cases hlt : (t : Int) ≤ N
      · have hprod : ∀ d, -200000 ≤ d → d ≤ 200000 → -80000000000 ≤ (2 * (t : Int)) * d ∧ (2 * (t : Int)) * d ≤ 80000000000 := fun d h0 h1 => prod_bd (by omega) (by omega) h0 h1
        obtain ⟨X0, X1⟩ := hprod (bx - ax) (by omega) (by omega)
        obtain ⟨Y0, Y1⟩ := hprod (by_ - ay) (by omega) (by omega)
        have hat : lineAt (ax, ay) (bx, by_) t = (ax + (2 * t * (bx - ax) + N) / (2 * N), ay + (2 * t * (by_ - ay) + N) / (2 * N)) := lineAt_pos hNe hNp
        have hsucc : upto (fun k : Nat => lineAt (ax, ay) (bx, by_) k) (t + 1) = upto (fun k : Nat => lineAt (ax, ay) (bx, by_) k) t ++ [lineAt (ax, ay) (bx, by_) t] := upto_succ _ t
        rw [hat] at hsucc
        obtain ⟨ox0, ox1⟩ := ediv_bd (a := 2 * t * (bx - ax) + N) (b := 2 * N) (M := 100000000000) (by omega) (by omega) (by omega) (by omega)
        obtain ⟨oy0, oy1⟩ := ediv_bd (a := 2 * t * (by_ - ay) + N) (b := 2 * N) (M := 100000000000) (by omega) (by omega) (by omega) (by omega)
        have hfx := fun W => rfloor_eq (a := 2 * t * (bx - ax) + N) (b := 2 * N) rfl W (by omega) (by omega) (by omega) (by omega)
        have hfy := fun W => rfloor_eq (a := 2 * t * (by_ - ay) + N) (b := 2 * N) rfl W (by omega) (by omega) (by omega) (by omega)
        have s1 : IntKind.i64.wrap (2 * (t : Int)) = 2 * t := wrap_in7 (by omega) (by omega)
        have s2 : IntKind.i64.wrap (2 * (t : Int) * (bx - ax)) = 2 * t * (bx - ax) := wrap_in7 (by omega) (by omega)
        have s3 : IntKind.i64.wrap (2 * (t : Int) * (by_ - ay)) = 2 * t * (by_ - ay) := wrap_in7 (by omega) (by omega)
        have s4 : IntKind.i64.wrap (2 * (t : Int) * (bx - ax) + N) = 2 * t * (bx - ax) + N := wrap_in7 (by omega) (by omega)
        have s5 : IntKind.i64.wrap (2 * (t : Int) * (by_ - ay) + N) = 2 * t * (by_ - ay) + N := wrap_in7 (by omega) (by omega)
        have s6 : IntKind.i64.wrap (2 * N) = 2 * N := wrap_in7 (by omega) (by omega)
        clear hprod hat
        generalize (2 * t * (bx - ax) + N) / (2 * N) = qx at *
        generalize (2 * t * (by_ - ay) + N) / (2 * N) = qy at *
        have s7 : IntKind.i64.wrap (ax + qx) = ax + qx := wrap_in7 (by omega) (by omega)
        have s8 : IntKind.i64.wrap (ay + qy) = ay + qy := wrap_in7 (by omega) (by omega)
        replace hsucc := Lib.hid hsucc
        obtain ⟨l, hl⟩ : ∃ l, upto (fun k : Nat => lineAt (ax, ay) (bx, by_) k) t = l := ⟨_, rfl⟩
        have hll : l.length = t := by rw [← hl]; exact upto_length _ _
        rw [hl] at hM
        go_wp2_with fail
        refine Go.wp_region_rel 35 (by kernel_rfl) (by kernel_rfl) (fun _ W => LN w B2 B3 W0.heap.size ax ay bx by_ u6 l W) (fun w w' => w.grownBy w' none) (FLine B2 B3 u6 t N ax ay bx by_ qx qy) (fun _ _ _ _ h g => h.kept g) (hM.grown (drew_grown7 _)) ?_ ?_
        · clear hM hl hll hsucc
          intro i o hi ho c bb W hc hM hA hD K hK
          match i, hi, ho with
          | 0, _, ho =>
            cases ho
            have f6 : bb.tmps[6]?.getD undef = u6 := evalAt (v := u6) (hA.at_ (k := 6) (by kernel_rfl))
            go_simp
            exact hK (u6) W rfl (grown_refl _) hM
          | 1, _, ho =>
            cases ho
            have f2 : bb.tmps[2]?.getD undef = .pointer (some ⟨B2, 0, none⟩) := evalAt (v := .pointer (some ⟨B2, 0, none⟩)) (hA.at_ (k := 2) (by kernel_rfl))
            go_simp
            exact hK (.pointer (some ⟨B2, 0, none⟩)) W rfl (grown_refl _) hM
          | 2, _, ho =>
            cases ho
            have f31 : bb.tmps[31]?.getD undef = .pointer (some ⟨B2, 0, none⟩) := evalAt (v := .pointer (some ⟨B2, 0, none⟩)) (dep_at hD 1 31 (by kernel_rfl) rfl rfl)
            have z0 : W.cell? ⟨B2, 0, none⟩ = some (.int .i64 ax) := hM.a0
            go_simp
            exact hK (.int .i64 ax) W rfl (grown_refl _) hM
          | 3, _, ho =>
            cases ho
            have f7 : bb.tmps[7]?.getD undef = .int .i64 t := evalAt (v := .int .i64 t) (hA.at_ (k := 7) (by kernel_rfl))
            go_simp
            exact hK (.int .i64 t) W rfl (grown_refl _) hM
          | 4, _, ho =>
            cases ho
            have f33 : bb.tmps[33]?.getD undef = .int .i64 t := evalAt (v := .int .i64 t) (dep_at hD 3 33 (by kernel_rfl) rfl rfl)
            go_simp
            exact hK (.int .i64 (2 * t)) W rfl (grown_refl _) hM
          | 5, _, ho =>
            cases ho
            have f3 : bb.tmps[3]?.getD undef = .pointer (some ⟨B3, 0, none⟩) := evalAt (v := .pointer (some ⟨B3, 0, none⟩)) (hA.at_ (k := 3) (by kernel_rfl))
            go_simp
            exact hK (.pointer (some ⟨B3, 0, none⟩)) W rfl (grown_refl _) hM
          | 6, _, ho =>
            cases ho
            have f35 : bb.tmps[35]?.getD undef = .pointer (some ⟨B3, 0, none⟩) := evalAt (v := .pointer (some ⟨B3, 0, none⟩)) (dep_at hD 5 35 (by kernel_rfl) rfl rfl)
            have z0 : W.cell? ⟨B3, 0, none⟩ = some (.int .i64 bx) := hM.b0
            go_simp
            exact hK (.int .i64 bx) W rfl (grown_refl _) hM
          | 7, _, ho =>
            cases ho
            have f2 : bb.tmps[2]?.getD undef = .pointer (some ⟨B2, 0, none⟩) := evalAt (v := .pointer (some ⟨B2, 0, none⟩)) (hA.at_ (k := 2) (by kernel_rfl))
            go_simp
            exact hK (.pointer (some ⟨B2, 0, none⟩)) W rfl (grown_refl _) hM
          | 8, _, ho =>
            cases ho
            have f37 : bb.tmps[37]?.getD undef = .pointer (some ⟨B2, 0, none⟩) := evalAt (v := .pointer (some ⟨B2, 0, none⟩)) (dep_at hD 7 37 (by kernel_rfl) rfl rfl)
            have z0 : W.cell? ⟨B2, 0, none⟩ = some (.int .i64 ax) := hM.a0
            go_simp
            exact hK (.int .i64 ax) W rfl (grown_refl _) hM
          | 9, _, ho =>
            cases ho
            have f36 : bb.tmps[36]?.getD undef = .int .i64 bx := evalAt (v := .int .i64 bx) (dep_at hD 6 36 (by kernel_rfl) rfl rfl)
            have f38 : bb.tmps[38]?.getD undef = .int .i64 ax := evalAt (v := .int .i64 ax) (dep_at hD 8 38 (by kernel_rfl) rfl rfl)
            go_simp
            exact hK (.int .i64 (bx - ax)) W rfl (grown_refl _) hM
          | 10, _, ho =>
            cases ho
            have f34 : bb.tmps[34]?.getD undef = .int .i64 (2 * t) := evalAt (v := .int .i64 (2 * t)) (dep_at hD 4 34 (by kernel_rfl) rfl rfl)
            have f39 : bb.tmps[39]?.getD undef = .int .i64 (bx - ax) := evalAt (v := .int .i64 (bx - ax)) (dep_at hD 9 39 (by kernel_rfl) rfl rfl)
            go_simp
            exact hK (.int .i64 ((2 * t) * (bx - ax))) W rfl (grown_refl _) hM
          | 11, _, ho =>
            cases ho
            have f5 : bb.tmps[5]?.getD undef = .int .i64 N := evalAt (v := .int .i64 N) (hA.at_ (k := 5) (by kernel_rfl))
            go_simp
            exact hK (.int .i64 N) W rfl (grown_refl _) hM
          | 12, _, ho =>
            cases ho
            have f40 : bb.tmps[40]?.getD undef = .int .i64 ((2 * t) * (bx - ax)) := evalAt (v := .int .i64 ((2 * t) * (bx - ax))) (dep_at hD 10 40 (by kernel_rfl) rfl rfl)
            have f41 : bb.tmps[41]?.getD undef = .int .i64 N := evalAt (v := .int .i64 N) (dep_at hD 11 41 (by kernel_rfl) rfl rfl)
            go_simp
            exact hK (.int .i64 (((2 * t) * (bx - ax)) + N)) W rfl (grown_refl _) hM
          | 13, _, ho =>
            cases ho
            have f5 : bb.tmps[5]?.getD undef = .int .i64 N := evalAt (v := .int .i64 N) (hA.at_ (k := 5) (by kernel_rfl))
            go_simp
            exact hK (.int .i64 N) W rfl (grown_refl _) hM
          | 14, _, ho =>
            cases ho
            have f43 : bb.tmps[43]?.getD undef = .int .i64 N := evalAt (v := .int .i64 N) (dep_at hD 13 43 (by kernel_rfl) rfl rfl)
            go_simp
            exact hK (.int .i64 (2 * N)) W rfl (grown_refl _) hM
          | 15, _, ho =>
            cases ho
            have f42 : bb.tmps[42]?.getD undef = .int .i64 (((2 * t) * (bx - ax)) + N) := evalAt (v := .int .i64 (((2 * t) * (bx - ax)) + N)) (dep_at hD 12 42 (by kernel_rfl) rfl rfl)
            have f44 : bb.tmps[44]?.getD undef = .int .i64 (2 * N) := evalAt (v := .int .i64 (2 * N)) (dep_at hD 14 44 (by kernel_rfl) rfl rfl)
            go_simp
            refine (hfx W).mono ?_
            rintro e W' ⟨rfl, rfl⟩
            go_simp
            exact hK (.int .i64 qx) W rfl (grown_refl _) hM
          | 16, _, ho =>
            cases ho
            have f32 : bb.tmps[32]?.getD undef = .int .i64 ax := evalAt (v := .int .i64 ax) (dep_at hD 2 32 (by kernel_rfl) rfl rfl)
            have f45 : bb.tmps[45]?.getD undef = .int .i64 qx := evalAt (v := .int .i64 qx) (dep_at hD 15 45 (by kernel_rfl) rfl rfl)
            go_simp
            exact hK (.int .i64 (ax + qx)) W rfl (grown_refl _) hM
          | 17, _, ho =>
            cases ho
            have f2 : bb.tmps[2]?.getD undef = .pointer (some ⟨B2, 0, none⟩) := evalAt (v := .pointer (some ⟨B2, 0, none⟩)) (hA.at_ (k := 2) (by kernel_rfl))
            go_simp
            exact hK (.pointer (some ⟨B2, 1, none⟩)) W rfl (grown_refl _) hM
          | 18, _, ho =>
            cases ho
            have f47 : bb.tmps[47]?.getD undef = .pointer (some ⟨B2, 1, none⟩) := evalAt (v := .pointer (some ⟨B2, 1, none⟩)) (dep_at hD 17 47 (by kernel_rfl) rfl rfl)
            have z0 : W.cell? ⟨B2, 1, none⟩ = some (.int .i64 ay) := hM.a1
            go_simp
            exact hK (.int .i64 ay) W rfl (grown_refl _) hM
          | 19, _, ho =>
            cases ho
            have f7 : bb.tmps[7]?.getD undef = .int .i64 t := evalAt (v := .int .i64 t) (hA.at_ (k := 7) (by kernel_rfl))
            go_simp
            exact hK (.int .i64 t) W rfl (grown_refl _) hM
          | 20, _, ho =>
            cases ho
            have f49 : bb.tmps[49]?.getD undef = .int .i64 t := evalAt (v := .int .i64 t) (dep_at hD 19 49 (by kernel_rfl) rfl rfl)
            go_simp
            exact hK (.int .i64 (2 * t)) W rfl (grown_refl _) hM
          | 21, _, ho =>
            cases ho
            have f3 : bb.tmps[3]?.getD undef = .pointer (some ⟨B3, 0, none⟩) := evalAt (v := .pointer (some ⟨B3, 0, none⟩)) (hA.at_ (k := 3) (by kernel_rfl))
            go_simp
            exact hK (.pointer (some ⟨B3, 1, none⟩)) W rfl (grown_refl _) hM
          | 22, _, ho =>
            cases ho
            have f51 : bb.tmps[51]?.getD undef = .pointer (some ⟨B3, 1, none⟩) := evalAt (v := .pointer (some ⟨B3, 1, none⟩)) (dep_at hD 21 51 (by kernel_rfl) rfl rfl)
            have z0 : W.cell? ⟨B3, 1, none⟩ = some (.int .i64 by_) := hM.b1
            go_simp
            exact hK (.int .i64 by_) W rfl (grown_refl _) hM
          | 23, _, ho =>
            cases ho
            have f2 : bb.tmps[2]?.getD undef = .pointer (some ⟨B2, 0, none⟩) := evalAt (v := .pointer (some ⟨B2, 0, none⟩)) (hA.at_ (k := 2) (by kernel_rfl))
            go_simp
            exact hK (.pointer (some ⟨B2, 1, none⟩)) W rfl (grown_refl _) hM
          | 24, _, ho =>
            cases ho
            have f53 : bb.tmps[53]?.getD undef = .pointer (some ⟨B2, 1, none⟩) := evalAt (v := .pointer (some ⟨B2, 1, none⟩)) (dep_at hD 23 53 (by kernel_rfl) rfl rfl)
            have z0 : W.cell? ⟨B2, 1, none⟩ = some (.int .i64 ay) := hM.a1
            go_simp
            exact hK (.int .i64 ay) W rfl (grown_refl _) hM
          | 25, _, ho =>
            cases ho
            have f52 : bb.tmps[52]?.getD undef = .int .i64 by_ := evalAt (v := .int .i64 by_) (dep_at hD 22 52 (by kernel_rfl) rfl rfl)
            have f54 : bb.tmps[54]?.getD undef = .int .i64 ay := evalAt (v := .int .i64 ay) (dep_at hD 24 54 (by kernel_rfl) rfl rfl)
            go_simp
            exact hK (.int .i64 (by_ - ay)) W rfl (grown_refl _) hM
          | 26, _, ho =>
            cases ho
            have f50 : bb.tmps[50]?.getD undef = .int .i64 (2 * t) := evalAt (v := .int .i64 (2 * t)) (dep_at hD 20 50 (by kernel_rfl) rfl rfl)
            have f55 : bb.tmps[55]?.getD undef = .int .i64 (by_ - ay) := evalAt (v := .int .i64 (by_ - ay)) (dep_at hD 25 55 (by kernel_rfl) rfl rfl)
            go_simp
            exact hK (.int .i64 ((2 * t) * (by_ - ay))) W rfl (grown_refl _) hM
          | 27, _, ho =>
            cases ho
            have f5 : bb.tmps[5]?.getD undef = .int .i64 N := evalAt (v := .int .i64 N) (hA.at_ (k := 5) (by kernel_rfl))
            go_simp
            exact hK (.int .i64 N) W rfl (grown_refl _) hM
          | 28, _, ho =>
            cases ho
            have f56 : bb.tmps[56]?.getD undef = .int .i64 ((2 * t) * (by_ - ay)) := evalAt (v := .int .i64 ((2 * t) * (by_ - ay))) (dep_at hD 26 56 (by kernel_rfl) rfl rfl)
            have f57 : bb.tmps[57]?.getD undef = .int .i64 N := evalAt (v := .int .i64 N) (dep_at hD 27 57 (by kernel_rfl) rfl rfl)
            go_simp
            exact hK (.int .i64 (((2 * t) * (by_ - ay)) + N)) W rfl (grown_refl _) hM
          | 29, _, ho =>
            cases ho
            have f5 : bb.tmps[5]?.getD undef = .int .i64 N := evalAt (v := .int .i64 N) (hA.at_ (k := 5) (by kernel_rfl))
            go_simp
            exact hK (.int .i64 N) W rfl (grown_refl _) hM
          | 30, _, ho =>
            cases ho
            have f59 : bb.tmps[59]?.getD undef = .int .i64 N := evalAt (v := .int .i64 N) (dep_at hD 29 59 (by kernel_rfl) rfl rfl)
            go_simp
            exact hK (.int .i64 (2 * N)) W rfl (grown_refl _) hM
          | 31, _, ho =>
            cases ho
            have f58 : bb.tmps[58]?.getD undef = .int .i64 (((2 * t) * (by_ - ay)) + N) := evalAt (v := .int .i64 (((2 * t) * (by_ - ay)) + N)) (dep_at hD 28 58 (by kernel_rfl) rfl rfl)
            have f60 : bb.tmps[60]?.getD undef = .int .i64 (2 * N) := evalAt (v := .int .i64 (2 * N)) (dep_at hD 30 60 (by kernel_rfl) rfl rfl)
            go_simp
            refine (hfy W).mono ?_
            rintro e W' ⟨rfl, rfl⟩
            go_simp
            exact hK (.int .i64 qy) W rfl (grown_refl _) hM
          | 32, _, ho =>
            cases ho
            have f48 : bb.tmps[48]?.getD undef = .int .i64 ay := evalAt (v := .int .i64 ay) (dep_at hD 18 48 (by kernel_rfl) rfl rfl)
            have f61 : bb.tmps[61]?.getD undef = .int .i64 qy := evalAt (v := .int .i64 qy) (dep_at hD 31 61 (by kernel_rfl) rfl rfl)
            go_simp
            exact hK (.int .i64 (ay + qy)) W rfl (grown_refl _) hM
          | 33, _, ho =>
            cases ho
            have f46 : bb.tmps[46]?.getD undef = .int .i64 (ax + qx) := evalAt (v := .int .i64 (ax + qx)) (dep_at hD 16 46 (by kernel_rfl) rfl rfl)
            have f62 : bb.tmps[62]?.getD undef = .int .i64 (ay + qy) := evalAt (v := .int .i64 (ay + qy)) (dep_at hD 32 62 (by kernel_rfl) rfl rfl)
            go_simp
            exact hK (.agg #[.int .i64 (ax + qx), .int .i64 (ay + qy)]) W rfl (grown_refl _) hM
          | 34, _, ho =>
            cases ho
            have f63 : bb.tmps[63]?.getD undef = .agg #[.int .i64 (ax + qx), .int .i64 (ay + qy)] := evalAt (v := .agg #[.int .i64 (ax + qx), .int .i64 (ay + qy)]) (dep_at hD 33 63 (by kernel_rfl) rfl rfl)
            go_simp
            exact hK (.slice (some ⟨W.heap.size, 0, none⟩) 1 1) _ ⟨_, rfl, Blk.new _ _ _⟩ (World.grownBy_alloc W _ none) (hM.alloc _)
          | i + 35, hi, _ => exact absurd hi (by omega)
        · intro bb W hM hA hall
          obtain ⟨P, hP34, kP⟩ := (show ∃ L, bb.eval (.tmp 64) = .slice (some ⟨L, 0, none⟩) 1 1 ∧ Blk W L #[.int .i64 (ax + qx), .int .i64 (ay + qy)] 25 from hall 34 (by omega) _ _ rfl rfl)
          have hP0 : bb.eval (.tmp 30) = u6 := hall 0 (by omega) _ _ rfl rfl
          have hfr := hA.frame [true, true, true, true, true, true, true, true, true, true, true, true, true, true, true, true, true, true, true, true, true, true, true, true, true, true, true, true, true, true, false, false, false, false, false, false, false, false, false, false, false, false, false, false, false, false, false, false, false, false, false, false, false, false, false, false, false, false, false, false, false, false, false, false, false, true, true] _ rfl (by kernel_rfl)
          clear hall hA
          obtain ⟨f, hf⟩ : ∃ f : Nat → Value, (fun k => bb.tmps.getD k undef) = f := ⟨_, rfl⟩
          have g30 : f 30 = u6 := by rw [← hf, ← hP0]; rfl
          have g64 : f 64 = .slice (some ⟨P, 0, none⟩) 1 1 := by rw [← hf, ← hP34]; rfl
          rw [hf] at hfr
          clear hf hP0 hP34
          subst hfr
          simp only [pickL, g30, g64, Nat.reduceAdd]
          clear g30 g64
          simp only [List.drop_succ_cons, List.drop_zero]
          have hrow := hM.row
          have hle := hM.lb
          go_wp2_with (first | (at_builtin; refine wpList_append_lies _ (by rfl) _ _ _ (by rfl) W0.heap.size 25 i0 _ 2 16 Tryz.underlying60 hi0 hz0 hz1 hz2 (by rfl) (by omega) u6 l.length _ (by rfl) hrow ⟨P, 0, none⟩ 1 1 (encS (ax + qx, ay + qy)) (by rfl) (by rfl) (pnews kP) (by simp [Value.oneCell']) (by omega) (by unfold maxLen; omega) (by omega) hle _ rfl ?_; intro g cap W2 hown hgrow hat hltg) | fail)
          go_roundw
          case rel => exact ⟨t + 1, by omega, by go_num, by rw [hsucc.out, hl]; have h9 := hM.appended hgrow hown; rw [hll] at h9; exact h9⟩
          case measure => simp [intOf]; omega
      · have htN : t = (N + 1).toNat := by omega
        subst htN
        have hrow := hM.row
        rw [upto_length] at hrow
        have hB := hM.below
        have hlw := hM.lw
        clear hM
        go_wp2_with fail
        go_ret
        unfold lineP
        rw [hNe, upto_length]
        exact ⟨_, rfl, W0.heap.size, (by first | exact hlw | exact hB2.out ▸ hlw), hrow, (by first | exact hB | exact hB2.out ▸ hB)⟩
end Go.Proofs.YtjfdbigkbgolmaaGreatDoor
