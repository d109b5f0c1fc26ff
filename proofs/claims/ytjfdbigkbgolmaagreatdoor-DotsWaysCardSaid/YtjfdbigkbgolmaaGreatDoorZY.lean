/-
  DotsWays answers true for every argument: the walk.
-/
import Derived.Test.YtjfdbigkbgolmaaGreatDoorZX
import Derived.Test.YtjfdbigkbgolmaaGreatDoorZW
import Derived.Test.YtjfdbigkbgolmaaGreatDoorZR
import Derived.Test.YtjfdbigkbgolmaaGreatDoorZH
import Derived.Test.YtjfdbigkbgolmaaGreatDoorZp
import Derived.Test.YtjfdbigkbgolmaaGreatDoorZl
import Derived.Test.YtjfdbigkbgolmaaGreatDoorZe

namespace Go.Proofs.YtjfdbigkbgolmaaGreatDoor
set_option linter.unusedVariables false
set_option linter.unusedSimpArgs false
open Go.RowKit Go.Shelf Go.Maps
attribute [local go_sem] Oper.semAt_some
attribute [local go_sem ↓] Go.wp_at_zero Go.wp_at_succ

theorem waysE_ent (s : Sh) (ws : List (Int × List Spot)) : Ent s (waysE s [] ws) := ⟨_, waysE_fold s ws []⟩
theorem ways_dts (s : Sh) (sv : Value) (ws : List Wy) (w : World) (hc : checkS s = 0) (hid : ∀ y ∈ ws, fits y.id) (hW : Wys w.heap.size w sv ws) (hlen : ws.length ≤ 8) (hpl : ∀ y ∈ ws, y.line.length ≤ 8) :
    Calls Tryz.prog 14 #[shV s, sv] w fun e w' => ∃ v, e = .returned v ∧ Dts w'.heap.size w' v (dotsS 2 (waysE s [] (ws.map Wy.key))) ∧ Below w.heap.size w w' := by
  have hs := okS_of hc
  refine ((callsIn_wide (n := 3)).1 (ways_in s sv ws w hc hid hW hlen hpl)).mono ?_
  rintro e w' ⟨v, base, rfl, -, hr, hb⟩
  exact ⟨v, rfl, dts_of_row hr (Nat.le_trans ((waysE_ent s _).len hs) (by omega)) ((waysE_ent s _).fits hs), hb⟩
theorem rways_dts (s : Sh) (sv : Value) (ws : List Wy) (w : World) (hc : checkS s = 0) (hW : Wys w.heap.size w sv ws) (hlen : ws.length ≤ 8) (hpl : ∀ y ∈ ws, y.line.length ≤ 8) :
    Calls Tryz.prog 15 #[shV s, sv] w fun e w' => ∃ v, e = .returned v ∧ Dts w'.heap.size w' v (dotsS 2 (waysE s [] (ws.map Wy.key))) ∧ Below w.heap.size w w' := by
  have hs := okS_of hc
  refine (rways_any s sv ws w hc hW hlen hpl).mono ?_
  rintro e w' ⟨v, base, rfl, -, hr, hb⟩
  exact ⟨v, rfl, dts_of_row hr (Nat.le_trans ((waysE_ent s _).len hs) (by omega)) ((waysE_ent s _).fits hs), hb⟩

/-- what the law holds of each of its three lists -/
structure Li (n₀ : Nat) (w : World) (v : Value) (ws : List Wy) : Prop where
  wys : Wys n₀ w v ws
  len : ws.length ≤ 8
  lines : ∀ y ∈ ws, y.line.length ≤ 8
  ids : ∀ y ∈ ws, fits y.id
theorem Li.up {w w' : World} {v : Value} {ws : List Wy} (h : Li w.heap.size w v ws) (hb : Below w.heap.size w w') : Li w'.heap.size w' v ws := ⟨h.wys.up hb hb.size, h.len, h.lines, h.ids⟩


def FD (B8 B9 i0 : Nat) (sv : Value) (L : List Dt) (ax ay st sw sh sg : Int) (i : Nat) (v : Value) (w : World) : Prop :=
  match i with
  | 0 => v = .agg #[.int .i64 ax, .int .i64 ay, .int .i64 st, .int .i64 sw, .int .i64 sh, .int .i64 sg]
  | 1 => v = .int .i64 (i0 : Nat)
  | 2 => v = .pointer (some ⟨B9, i0, none⟩)
  | 3 => v = sv
  | 4 => Dts w.heap.size w v L
  | 5 => v = .agg #[.int .i64 ax, .int .i64 ay, .int .i64 st, .int .i64 sw, .int .i64 sh, .int .i64 sg]
  | 6 => v = .int .i64 (i0 : Nat)
  | 7 => v = .pointer (some ⟨B9, i0, none⟩)
  | 8 => v = sv
  | 9 => Dts w.heap.size w v L
  | _ => False
theorem FD.kept {B8 B9 i0 : Nat} {sv : Value} {L : List Dt} {ax ay st sw sh sg : Int} {i : Nat} {v : Value} {w w' : World} (h : FD B8 B9 i0 sv L ax ay st sw sh sg i v w) (hg : Below w.heap.size w w') : FD B8 B9 i0 sv L ax ay st sw sh sg i v w' := by
  unfold FD at *
  split at h
  all_goals first | exact h | (exact h.up hg hg.size)

set_option maxRecDepth 100000 in
set_option maxHeartbeats 8000000 in
theorem dotsWays_any (lv mv rv : Value) (xs ms : List Int) (raw : List Wy) (w : World) (hI : Ints w.heap.size w lv xs) (hM : Ints w.heap.size w mv ms) (hR : Wys w.heap.size w rv raw) (hg : ∀ y ∈ raw, fits y.id ∧ PtsC w y.lv y.line) :
    Calls Tryz.prog 4 #[lv, mv, rv] w fun e w' => e = .returned (.bool true) ∧ Below w.heap.size w w' := by
  have hm := madeF_made xs
  have hmade := fun W (h : Ints W.heap.size W lv xs) => made_any lv xs W h
  obtain ⟨s, hse⟩ : ∃ s, madeF xs = s := ⟨_, rfl⟩
  rw [hse] at hm hmade
  clear hse
  have hck := hm.check
  obtain ⟨-, -, -, -, -, -, w0, w1, h0, h1, -⟩ := hm
  obtain ⟨W0, hW0⟩ : ∃ W : Nat, s.w = W := ⟨s.w.toNat, by omega⟩
  obtain ⟨H0, hH0⟩ : ∃ H : Nat, s.h = H := ⟨s.h.toNat, by omega⟩
  clear w0 w1 h0 h1
  replace hW0 := Lib.hid hW0
  replace hH0 := Lib.hid hH0
  have hRk : ∀ W, Below w.heap.size w W → ∀ y ∈ raw, fits y.id ∧ PtsC W y.lv y.line := fun W hW y hy => by
    obtain ⟨h1, h2, h3⟩ := hg y hy
    exact ⟨h1, (h2.below hW).mono hW.size, h3⟩
  go_enter Tryz.func4, Tryz.ntmps4
  go_upto_region 3 with (first
    | (go_at_call 5; refine (sanity_any _).mono ?_; rintro e w1 ⟨rfl, hb1⟩; have hB1 : Below w.heap.size w w1 := hb1; clear hb1)
    | (go_at_call 6; with_reducible refine (hmade _ ?_).mono ?_; exact hI.up hB1 hB1.size; rintro e w2 ⟨rfl, hb2⟩; replace hB1 := hB1.trans (hb2.mono hB1.size); clear hb2)
    | fail)
  refine wp_world (fun W3 hW3 => ?_)
  have kS : Blk W3 w2.heap.size #[.int .i64 s.ax, .int .i64 s.ay, .int .i64 s.st, .int .i64 s.w, .int .i64 s.h, .int .i64 s.g] 29 := by
    rw [hW3]
    exact Blk.new _ _ _
  have hB3 : Below w.heap.size w W3 := by
    rw [hW3]
    exact hB1.alloc hB1.size _
  clear hW3 hB1
  obtain ⟨B8, hB8⟩ : ∃ b, w2.heap.size = b := ⟨_, rfl⟩
  rw [hB8] at kS ⊢
  clear hB8
  go_upto_region 5 with (first
    | (go_at_call 11; (with_reducible refine (made8_any mv ms _ ?_).mono ?_); exact hM.up hB3 hB3.size; rintro e w4 ⟨v1, l1, rfl, hw1, n1, g1, hb4⟩; have hB4 := hB3.trans (hb4.mono hB3.size); have hv1 := hw1; obtain ⟨a1, cp1, rfl, -⟩ := hv1)
    | (go_at_call 12; (with_reducible refine (fine_any mv ms _ ?_).mono ?_); exact hM.up hB4 hB4.size; rintro e w5 ⟨v2, l2, rfl, hw2, n2, g2, hb5⟩; have hB5 := hB4.trans (hb5.mono hB4.size); have hv2 := hw2; obtain ⟨a2, cp2, rfl, -⟩ := hv2)
    | (go_at_call 13; (with_reducible refine (few_any rv raw _ ?_ ?_).mono ?_); exact hR.up hB5 hB5.size; exact hRk _ hB5; rintro e w6 ⟨v3, l3, rfl, hw3, n3, g3, hb6⟩; have hB6 := hB5.trans (hb6.mono hB5.size); have hv3 := hw3; obtain ⟨a3, cp3, rfl, -⟩ := hv3)
    | fail)
  refine wp_world (fun W7 hW7 => ?_)
  have hb67 : Below w6.heap.size w6 W7 := by
    rw [hW7]
    exact (by repeat' (first | with_reducible exact Below.refl _ _ | with_reducible exact Nat.le_refl _ | with_reducible assumption | with_reducible refine Go.below_growBy' ?_ ?_ _ | with_reducible refine Below.alloc ?_ ?_ _ | with_reducible refine Below.setCell ?_ ?_ _ | with_reducible refine Below.drew ?_ | with_reducible refine Go.le_alloc ?_ | with_reducible refine Go.le_growBy ?_ | with_reducible refine Go.le_setCell ?_ | with_reducible refine Go.le_drew ?_ | omega | (dsimp only; omega)))
  have kA : Blk W7 w6.heap.size #[.slice a1 l1.length cp1, .slice a2 l2.length cp2, .slice a3 l3.length cp3] 49 := by
    rw [hW7]
    exact Blk.new _ _ _
  clear hW7
  have hB7 : Below w.heap.size w W7 := hB6.trans (hb67.mono hB6.size)
  have kS7 := ((((kS.below hb4 kS.lt)).below hb5 (by have := kS.lt; have := hb4.size; omega)).below hb6 (by have := kS.lt; have := hb4.size; have := hb5.size; omega)).below hb67 (by have := kS.lt; have := hb4.size; have := hb5.size; have := hb6.size; omega)
  obtain ⟨B9, hB9⟩ : ∃ b, w6.heap.size = b := ⟨_, rfl⟩
  have L1 : Li W7.heap.size W7 (.slice a1 l1.length cp1) l1 := ((Li.up (Li.up ⟨hw1, by omega, fun y hy => Nat.le_trans (g1 y hy).len (by omega), fun y hy => (g1 y hy).id⟩ hb5) hb6).up hb67)
  have L2 : Li W7.heap.size W7 (.slice a2 l2.length cp2) l2 := ((Li.up ⟨hw2, by omega, fun y hy => Nat.le_trans (g2 y hy).len (by omega), fun y hy => (g2 y hy).id⟩ hb6).up hb67)
  have L3 : Li W7.heap.size W7 (.slice a3 l3.length cp3) l3 := (Li.up ⟨hw3, by omega, fun y hy => Nat.le_trans (g3 y hy).2 (by omega), fun y hy => (g3 y hy).1⟩ hb67)
  rw [hB9] at kA ⊢
  have hAll : ∀ i, i < 3 → ∃ sv ws, (∀ X, Below W7.heap.size W7 X → X.cell? ⟨B9, i, none⟩ = some sv) ∧ (∃ a c, sv = .slice a ws.length c) ∧ Li W7.heap.size W7 sv ws := fun i hi => by
    match i, hi with
    | 0, _ => exact ⟨_, l1, fun X hX => (kA.below hX kA.lt).cell 0, ⟨_, _, rfl⟩, L1⟩
    | 1, _ => exact ⟨_, l2, fun X hX => (kA.below hX kA.lt).cell 1, ⟨_, _, rfl⟩, L2⟩
    | 2, _ => exact ⟨_, l3, fun X hX => (kA.below hX kA.lt).cell 2, ⟨_, _, rfl⟩, L3⟩
  have hkS : ∀ X, Below W7.heap.size W7 X → Blk X B8 #[.int .i64 s.ax, .int .i64 s.ay, .int .i64 s.st, .int .i64 s.w, .int .i64 s.h, .int .i64 s.g] 29 := fun X hX => kS7.below hX kS7.lt
  clear L1 L2 L3 hw1 hw2 hw3 g1 g2 g3 n1 n2 n3 hb4 hb5 hb6 hb67 hB3 hB4 hB5 hB6 hB9 kA kS kS7 hI hM hR hg hRk hmade
  go_loopw [10] (fun t wr => ∃ i : Nat, i ≤ 3 ∧ t = .int .i64 (i : Nat) ∧ Below W7.heap.size W7 wr) (fun t _ => 3 - (intOf t).toNat)
  case atStart => exact ⟨0, by omega, rfl, Below.refl _ _⟩
  case round =>
    obtain ⟨i0, hi0, rfl, hB⟩ := hrel
    by_cases hlt : i0 < 3
    · have hltI : (i0 : Int) < 3 := by omega
      obtain ⟨sv, ws, hsv, ⟨sa, sc, hse⟩, hLi⟩ := hAll i0 hlt
      have hwA := fun X (hX : Below W7.heap.size W7 X) => ways_dts s sv ws X hck (hLi.up hX).ids (hLi.up hX).wys hLi.len hLi.lines
      have hwB := fun X (hX : Below W7.heap.size W7 X) => rways_dts s sv ws X hck (hLi.up hX).wys hLi.len hLi.lines
      have hLlen := (waysE_ent s (ws.map Wy.key)).len (okS_of hck)
      obtain ⟨L, hL⟩ : ∃ L, dotsS 2 (waysE s [] (ws.map Wy.key)) = L := ⟨_, rfl⟩
      rw [hL] at hwA hwB hLlen
      clear hL hLi
      have hpr := fun v X (hD : Dts X.heap.size X v L) => (callsIn_wide (n := 3)).1 (prow_in L v s W0 H0 X hW0.out hH0.out hck hD (by omega))
      have hrr := fun v X (hD : Dts X.heap.size X v L) => rrow_any L v s W0 H0 X hW0.out hH0.out hck hD
      obtain ⟨T, hT⟩ : ∃ T, strOf (rowTxt L W0 H0 H0) = T := ⟨_, rfl⟩
      rw [hT] at hpr hrr
      obtain ⟨ax, ay, st, sw, sh, sg⟩ := s
      simp only at hkS
      clear hse hT
      have s0 : ∀ X, Below W7.heap.size W7 X → X.cell? ⟨B8, 0, none⟩ = some (.int .i64 ax) := fun X hX => (hkS X hX).cell 0
      have s1 : ∀ X, Below W7.heap.size W7 X → X.cell? ⟨B8, 1, none⟩ = some (.int .i64 ay) := fun X hX => (hkS X hX).cell 1
      have s2 : ∀ X, Below W7.heap.size W7 X → X.cell? ⟨B8, 2, none⟩ = some (.int .i64 st) := fun X hX => (hkS X hX).cell 2
      have s3 : ∀ X, Below W7.heap.size W7 X → X.cell? ⟨B8, 3, none⟩ = some (.int .i64 sw) := fun X hX => (hkS X hX).cell 3
      have s4 : ∀ X, Below W7.heap.size W7 X → X.cell? ⟨B8, 4, none⟩ = some (.int .i64 sh) := fun X hX => (hkS X hX).cell 4
      have s5 : ∀ X, Below W7.heap.size W7 X → X.cell? ⟨B8, 5, none⟩ = some (.int .i64 sg) := fun X hX => (hkS X hX).cell 5
      have s9 := hsv
      have hw1 := hwA
      have hw2 := hwB
      clear hwA hwB hsv
      go_upto_region 7 with fail
      refine Go.wp_region_rel 10 (by kernel_rfl) (by kernel_rfl) (fun _ W => Below W7.heap.size W7 W) (fun w w' => Below w.heap.size w w') (FD B8 B9 i0 sv L ax ay st sw sh sg) (fun _ _ _ _ h g => h.kept g) hB.drew ?_ ?_
      · clear hAll hkS hpr hrr hB
        intro i o hi ho c bb W hc hM hA hD K hK
        match i, hi, ho with
        | 0, _, ho =>
          cases ho
          have f8 : bb.tmps[8]?.getD undef = .pointer (some ⟨B8, 0, none⟩) := evalAt (v := .pointer (some ⟨B8, 0, none⟩)) (hA.at_ (k := 8) (by kernel_rfl))
          have z0 : W.cell? ⟨B8, 0, none⟩ = some (.int .i64 ax) := s0 W hM
          have z1 : W.cell? ⟨B8, 1, none⟩ = some (.int .i64 ay) := s1 W hM
          have z2 : W.cell? ⟨B8, 2, none⟩ = some (.int .i64 st) := s2 W hM
          have z3 : W.cell? ⟨B8, 3, none⟩ = some (.int .i64 sw) := s3 W hM
          have z4 : W.cell? ⟨B8, 4, none⟩ = some (.int .i64 sh) := s4 W hM
          have z5 : W.cell? ⟨B8, 5, none⟩ = some (.int .i64 sg) := s5 W hM
          go_simp
          exact hK (.agg #[.int .i64 ax, .int .i64 ay, .int .i64 st, .int .i64 sw, .int .i64 sh, .int .i64 sg]) W rfl (Below.refl _ _) hM
        | 1, _, ho =>
          cases ho
          have f10 : bb.tmps[10]?.getD undef = .int .i64 (i0 : Nat) := evalAt (v := .int .i64 (i0 : Nat)) (hA.at_ (k := 10) (by kernel_rfl))
          go_simp
          exact hK (.int .i64 (i0 : Nat)) W rfl (Below.refl _ _) hM
        | 2, _, ho =>
          cases ho
          have f9 : bb.tmps[9]?.getD undef = .pointer (some ⟨B9, 0, none⟩) := evalAt (v := .pointer (some ⟨B9, 0, none⟩)) (hA.at_ (k := 9) (by kernel_rfl))
          have f28 : bb.tmps[28]?.getD undef = .int .i64 (i0 : Nat) := evalAt (v := .int .i64 (i0 : Nat)) (dep_at hD 1 28 (by kernel_rfl) rfl rfl)
          go_simp
          exact hK (.pointer (some ⟨B9, i0, none⟩)) W rfl (Below.refl _ _) hM
        | 3, _, ho =>
          cases ho
          have f29 : bb.tmps[29]?.getD undef = .pointer (some ⟨B9, i0, none⟩) := evalAt (v := .pointer (some ⟨B9, i0, none⟩)) (dep_at hD 2 29 (by kernel_rfl) rfl rfl)
          have za := s9 W hM
          go_simp
          exact hK (sv) W rfl (Below.refl _ _) hM
        | 4, _, ho =>
          cases ho
          have f27 : bb.tmps[27]?.getD undef = .agg #[.int .i64 ax, .int .i64 ay, .int .i64 st, .int .i64 sw, .int .i64 sh, .int .i64 sg] := evalAt (v := .agg #[.int .i64 ax, .int .i64 ay, .int .i64 st, .int .i64 sw, .int .i64 sh, .int .i64 sg]) (dep_at hD 0 27 (by kernel_rfl) rfl rfl)
          have f30 : bb.tmps[30]?.getD undef = sv := evalAt (v := sv) (dep_at hD 3 30 (by kernel_rfl) rfl rfl)
          go_simp
          refine (hw1 W hM).mono ?_
          rintro e W' ⟨v9, rfl, hd9, hb9⟩
          go_simp
          exact hK v9 W' hd9 hb9 (hM.trans (hb9.mono hM.size))
        | 5, _, ho =>
          cases ho
          have f8 : bb.tmps[8]?.getD undef = .pointer (some ⟨B8, 0, none⟩) := evalAt (v := .pointer (some ⟨B8, 0, none⟩)) (hA.at_ (k := 8) (by kernel_rfl))
          have z0 : W.cell? ⟨B8, 0, none⟩ = some (.int .i64 ax) := s0 W hM
          have z1 : W.cell? ⟨B8, 1, none⟩ = some (.int .i64 ay) := s1 W hM
          have z2 : W.cell? ⟨B8, 2, none⟩ = some (.int .i64 st) := s2 W hM
          have z3 : W.cell? ⟨B8, 3, none⟩ = some (.int .i64 sw) := s3 W hM
          have z4 : W.cell? ⟨B8, 4, none⟩ = some (.int .i64 sh) := s4 W hM
          have z5 : W.cell? ⟨B8, 5, none⟩ = some (.int .i64 sg) := s5 W hM
          go_simp
          exact hK (.agg #[.int .i64 ax, .int .i64 ay, .int .i64 st, .int .i64 sw, .int .i64 sh, .int .i64 sg]) W rfl (Below.refl _ _) hM
        | 6, _, ho =>
          cases ho
          have f10 : bb.tmps[10]?.getD undef = .int .i64 (i0 : Nat) := evalAt (v := .int .i64 (i0 : Nat)) (hA.at_ (k := 10) (by kernel_rfl))
          go_simp
          exact hK (.int .i64 (i0 : Nat)) W rfl (Below.refl _ _) hM
        | 7, _, ho =>
          cases ho
          have f9 : bb.tmps[9]?.getD undef = .pointer (some ⟨B9, 0, none⟩) := evalAt (v := .pointer (some ⟨B9, 0, none⟩)) (hA.at_ (k := 9) (by kernel_rfl))
          have f33 : bb.tmps[33]?.getD undef = .int .i64 (i0 : Nat) := evalAt (v := .int .i64 (i0 : Nat)) (dep_at hD 6 33 (by kernel_rfl) rfl rfl)
          go_simp
          exact hK (.pointer (some ⟨B9, i0, none⟩)) W rfl (Below.refl _ _) hM
        | 8, _, ho =>
          cases ho
          have f34 : bb.tmps[34]?.getD undef = .pointer (some ⟨B9, i0, none⟩) := evalAt (v := .pointer (some ⟨B9, i0, none⟩)) (dep_at hD 7 34 (by kernel_rfl) rfl rfl)
          have za := s9 W hM
          go_simp
          exact hK (sv) W rfl (Below.refl _ _) hM
        | 9, _, ho =>
          cases ho
          have f32 : bb.tmps[32]?.getD undef = .agg #[.int .i64 ax, .int .i64 ay, .int .i64 st, .int .i64 sw, .int .i64 sh, .int .i64 sg] := evalAt (v := .agg #[.int .i64 ax, .int .i64 ay, .int .i64 st, .int .i64 sw, .int .i64 sh, .int .i64 sg]) (dep_at hD 5 32 (by kernel_rfl) rfl rfl)
          have f35 : bb.tmps[35]?.getD undef = sv := evalAt (v := sv) (dep_at hD 8 35 (by kernel_rfl) rfl rfl)
          go_simp
          refine (hw2 W hM).mono ?_
          rintro e W' ⟨v9, rfl, hd9, hb9⟩
          go_simp
          exact hK v9 W' hd9 hb9 (hM.trans (hb9.mono hM.size))
        | i + 10, hi, _ => exact absurd hi (by omega)
      · intro bb W hM hA hall
        obtain ⟨va, hva⟩ : ∃ v, bb.eval (.tmp 31) = v := ⟨_, rfl⟩
        obtain ⟨vb, hvb⟩ : ∃ v, bb.eval (.tmp 36) = v := ⟨_, rfl⟩
        have hda : Dts W.heap.size W (bb.eval (.tmp 31)) L := hall 4 (by omega) _ _ rfl rfl
        have hdb : Dts W.heap.size W (bb.eval (.tmp 36)) L := hall 9 (by omega) _ _ rfl rfl
        have hfr := hA.frame [true, true, true, true, true, true, true, true, true, true, true, true, true, true, true, true, true, true, true, true, true, true, true, true, true, true, true, false, false, false, false, false, false, false, false, false, false, true, true, true, true, true, true, true, true, true, true, true, true, true, true] _ rfl (by kernel_rfl)
        rw [hva] at hda
        rw [hvb] at hdb
        clear hall hA
        obtain ⟨f, hf⟩ : ∃ f : Nat → Value, (fun k => bb.tmps.getD k undef) = f := ⟨_, rfl⟩
        have g31 : f 31 = va := by rw [← hf, ← hva]; rfl
        have g36 : f 36 = vb := by rw [← hf, ← hvb]; rfl
        rw [hf] at hfr
        clear hf hva hvb
        subst hfr
        simp only [pickL, g31, g36, Nat.reduceAdd]
        clear g31 g36
        simp only [List.drop_succ_cons, List.drop_zero]
        have z0 := s0 W hM
        have z1 := s1 W hM
        have z2 := s2 W hM
        have z3 := s3 W hM
        have z4 := s4 W hM
        have z5 := s5 W hM
        clear s0 s1 s2 s3 s4 s5 s9 hw1 hw2 hkS hB
        have hp := fun X (hX : Below W.heap.size W X) => hpr vb X (hdb.up hX hX.size)
        have hr := fun X (hX : Below W.heap.size W X) => hrr vb X (hdb.up hX hX.size)
        have hsm := fun X (hX : Below W.heap.size W X) => same_yes X (hda.up hX hX.size) (hdb.up hX hX.size)
        clear hpr hrr
        go_upto_region 8 with fail
        first | with_reducible refine wp_region_grow2 (by kernel_rfl) (by kernel_rfl) ?_ | with_reducible refine wp_region_grow (by kernel_rfl) (by kernel_rfl) ?_
        repeat (first | go_big_quiet_step (first | (go_at_call 10; exact Calls.grow_of (hsm _ (by repeat' (first | with_reducible exact Below.refl _ _ | with_reducible exact Nat.le_refl _ | with_reducible assumption | with_reducible refine Go.below_growBy' ?_ ?_ _ | with_reducible refine Below.alloc ?_ ?_ _ | with_reducible refine Below.setCell ?_ ?_ _ | with_reducible refine Below.drew ?_ | with_reducible refine Go.le_alloc ?_ | with_reducible refine Go.le_growBy ?_ | with_reducible refine Go.le_setCell ?_ | with_reducible refine Go.le_drew ?_ | omega | (dsimp only; omega))))) | (go_at_call 16; exact Calls.grow_of (hp _ (by repeat' (first | with_reducible exact Below.refl _ _ | with_reducible exact Nat.le_refl _ | with_reducible assumption | with_reducible refine Go.below_growBy' ?_ ?_ _ | with_reducible refine Below.alloc ?_ ?_ _ | with_reducible refine Below.setCell ?_ ?_ _ | with_reducible refine Below.drew ?_ | with_reducible refine Go.le_alloc ?_ | with_reducible refine Go.le_growBy ?_ | with_reducible refine Go.le_setCell ?_ | with_reducible refine Go.le_drew ?_ | omega | (dsimp only; omega))))) | (go_at_call 17; exact Calls.grow_of (hr _ (by repeat' (first | with_reducible exact Below.refl _ _ | with_reducible exact Nat.le_refl _ | with_reducible assumption | with_reducible refine Go.below_growBy' ?_ ?_ _ | with_reducible refine Below.alloc ?_ ?_ _ | with_reducible refine Below.setCell ?_ ?_ _ | with_reducible refine Below.drew ?_ | with_reducible refine Go.le_alloc ?_ | with_reducible refine Go.le_growBy ?_ | with_reducible refine Go.le_setCell ?_ | with_reducible refine Go.le_drew ?_ | omega | (dsimp only; omega)))))) | quiet_step (first | (go_at_call 10; exact Calls.grow_of (hsm _ (by repeat' (first | with_reducible exact Below.refl _ _ | with_reducible exact Nat.le_refl _ | with_reducible assumption | with_reducible refine Go.below_growBy' ?_ ?_ _ | with_reducible refine Below.alloc ?_ ?_ _ | with_reducible refine Below.setCell ?_ ?_ _ | with_reducible refine Below.drew ?_ | with_reducible refine Go.le_alloc ?_ | with_reducible refine Go.le_growBy ?_ | with_reducible refine Go.le_setCell ?_ | with_reducible refine Go.le_drew ?_ | omega | (dsimp only; omega))))) | (go_at_call 16; exact Calls.grow_of (hp _ (by repeat' (first | with_reducible exact Below.refl _ _ | with_reducible exact Nat.le_refl _ | with_reducible assumption | with_reducible refine Go.below_growBy' ?_ ?_ _ | with_reducible refine Below.alloc ?_ ?_ _ | with_reducible refine Below.setCell ?_ ?_ _ | with_reducible refine Below.drew ?_ | with_reducible refine Go.le_alloc ?_ | with_reducible refine Go.le_growBy ?_ | with_reducible refine Go.le_setCell ?_ | with_reducible refine Go.le_drew ?_ | omega | (dsimp only; omega))))) | (go_at_call 17; exact Calls.grow_of (hr _ (by repeat' (first | with_reducible exact Below.refl _ _ | with_reducible exact Nat.le_refl _ | with_reducible assumption | with_reducible refine Go.below_growBy' ?_ ?_ _ | with_reducible refine Below.alloc ?_ ?_ _ | with_reducible refine Below.setCell ?_ ?_ _ | with_reducible refine Below.drew ?_ | with_reducible refine Go.le_alloc ?_ | with_reducible refine Go.le_growBy ?_ | with_reducible refine Go.le_setCell ?_ | with_reducible refine Go.le_drew ?_ | omega | (dsimp only; omega)))))))
        refine wpQuiet_nil ?_
        intro _ hw_
        obtain ⟨p, hw_⟩ := hw_
        subst hw_
        go_wp2_with fail
        go_roundw
        case rel => exact ⟨i0 + 1, by omega, by go_num, below_growBy' hM hM.size _⟩
        case measure => simp [intOf]; try omega
    · obtain rfl : i0 = 3 := by omega
      go_wp2_with fail
      go_ret
      exact ⟨rfl, hB7.trans (hB.mono hB7.size)⟩
end Go.Proofs.YtjfdbigkbgolmaaGreatDoor
