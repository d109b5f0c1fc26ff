/-
  'DotsLines' answers true for every argument.
-/
import Derived.Test.YtjfdbigkbgolmaaDoorW2
import Derived.Test.YtjfdbigkbgolmaaDoorO1
import Derived.Test.YtjfdbigkbgolmaaDoorT6
import Derived.Deep.CutBlock
import Derived.Deep.DeepCutAuto
import Derived.Deep.RegionLaw
import Derived.Deep.DrawnRows
import Derived.Deep.RegionHeld3
import Derived.BigQuiet
namespace Go.Proofs.YtjfdbigkbgolmaaDoor
open Go.RowKit Go.Shelf Go.Deep
attribute [local go_sem] Oper.semAt_some
attribute [local go_sem] run_max4
attribute [local go_sem ↓] Go.wp_at_zero Go.wp_at_succ

theorem wrap_in {x : Int} (h0 : -9223372036854775808 ≤ x) (h1 : x ≤ 9223372036854775807) : IntKind.i64.wrap x = x := by
  simp [IntKind.wrap, IntKind.bits, IntKind.signed]
  omega

/-- whether a dot is in a place -/
def hasAt (i j : Int) (l : List Dt) : Bool := l.any fun d => decide (d.x = i) && decide (d.y = j)
theorem hasAt_take {i j : Int} {l : List Dt} {t : Nat} (h : t < l.length) : hasAt i j (l.take (t + 1)) = (hasAt i j (l.take t) || (decide (l[t].x = i) && decide (l[t].y = j))) := by
  unfold hasAt
  rw [List.take_add_one, List.getElem?_eq_getElem h, List.any_append]
  simp
theorem hasAt_all {i j : Int} {l : List Dt} (h : ∃ k, ∃ hk : k < l.length, l[k].x = i ∧ l[k].y = j) : hasAt i j l = true := by
  obtain ⟨k, hk, h1, h2⟩ := h
  unfold hasAt
  rw [List.any_eq_true]
  exact ⟨l[k], List.getElem_mem hk, by simp [h1, h2]⟩

set_option maxRecDepth 100000 in
set_option maxHeartbeats 40000000 in
theorem lines_law (sv : Value) (xs : List Int) (pu pv qu qv : Int) (w : World) (hI : Ints w.heap.size w sv xs) (p0 : 0 ≤ pu) (p1 : pu ≤ 65535) (p2 : 0 ≤ pv) (p3 : pv ≤ 65535) (q0 : 0 ≤ qu) (q1 : qu ≤ 65535) (q2 : 0 ≤ qv) (q3 : qv ≤ 65535) :
    Calls Tryd.prog 4 #[sv, .agg #[.int .u16 pu, .int .u16 pv], .agg #[.int .u16 qu, .int .u16 qv]] w fun e w' => e = .returned (.bool true) ∧ Below w.heap.size w w' := by
  have hm := madeF_made xs
  have hmade := fun W (h : Ints W.heap.size W sv xs) => made_any sv xs W h
  obtain ⟨s, hse⟩ : ∃ s, madeF xs = s := ⟨_, rfl⟩
  rw [hse] at hm hmade
  clear hse
  have hpA := hm.area p0 p2
  have hqA := hm.area q0 q2
  have hpr := hm.prod
  obtain ⟨⟨pr0, pr1⟩, pr2, pr3⟩ := hpr
  have hm' := hm
  obtain ⟨x0, x1, y0, y1, t0, t1, w0, w1, h0, h1, g0, g1⟩ := hm'
  have ra := Int.tmod_nonneg (s.w * s.st) p0
  have ra2 := Int.tmod_lt_of_pos pu (b := s.w * s.st) (by omega)
  have rb := Int.tmod_nonneg (s.h * s.st) p2
  have rb2 := Int.tmod_lt_of_pos pv (b := s.h * s.st) (by omega)
  have rc := Int.tmod_nonneg (s.w * s.st) q0
  have rc2 := Int.tmod_lt_of_pos qu (b := s.w * s.st) (by omega)
  have rd := Int.tmod_nonneg (s.h * s.st) q2
  have rd2 := Int.tmod_lt_of_pos qv (b := s.h * s.st) (by omega)
  have nz1 : ¬ s.w = 0 := by omega
  have nz2 : ¬ s.h = 0 := by omega
  have nz3 : ¬ s.st = 0 := by omega
  obtain ⟨ax, ay, st, sw, sh, sg⟩ := s
  simp only at hpA hqA pr0 pr1 pr2 pr3 x0 x1 y0 y1 t0 t1 w0 w1 h0 h1 g0 g1 ra ra2 rb rb2 rc rc2 rd rd2 nz1 nz2 nz3
  have kp := (Blk.new w #[.int .u16 pu, .int .u16 pv] 37).alloc (.cells #[.int .u16 qu, .int .u16 qv] 37)
  have kq := Blk.new (w.alloc (.cells #[.int .u16 pu, .int .u16 pv] 37)) #[.int .u16 qu, .int .u16 qv] 37
  rw [World.size_alloc] at kq
  go_enter Tryd.func4, Tryd.ntmps4
  go_upto_region 3 with (first
    | (go_at_call 7; refine (sanity_any _).mono ?_; rintro e w1 ⟨rfl, hb1⟩; replace kp := kp.below hb1 kp.lt; replace kq := kq.below hb1 kq.lt; have hB1 : Below w.heap.size w w1 := Below.trans (b := (w.alloc (.cells #[.int .u16 pu, .int .u16 pv] 37)).alloc (.cells #[.int .u16 qu, .int .u16 qv] 37)) (by repeat' (first | with_reducible exact Below.refl _ _ | with_reducible exact Nat.le_refl _ | with_reducible assumption | with_reducible refine Go.below_growBy' ?_ ?_ _ | with_reducible refine Below.alloc ?_ ?_ _ | with_reducible refine Below.setCell ?_ ?_ _ | with_reducible refine Below.drew ?_ | with_reducible refine Go.le_alloc ?_ | with_reducible refine Go.le_growBy ?_ | with_reducible refine Go.le_setCell ?_ | with_reducible refine Go.le_drew ?_ | omega | (dsimp only; omega))) (hb1.mono (by simp; omega)); clear hb1)
    | (go_at_call 8; with_reducible refine (hmade _ ?_).mono ?_; exact hI.up hB1 hB1.size; rintro e w2 ⟨rfl, hb2⟩; replace kp := kp.below hb2 kp.lt; replace kq := kq.below hb2 kq.lt; replace hB1 := hB1.trans (hb2.mono hB1.size); clear hb2)
    | fail)
  have kS := Blk.new w2 #[.int .i64 ax, .int .i64 ay, .int .i64 st, .int .i64 sw, .int .i64 sh, .int .i64 sg] 26
  replace kp := kp.alloc (.cells #[.int .i64 ax, .int .i64 ay, .int .i64 st, .int .i64 sw, .int .i64 sh, .int .i64 sg] 26)
  replace kq := kq.alloc (.cells #[.int .i64 ax, .int .i64 ay, .int .i64 st, .int .i64 sw, .int .i64 sh, .int .i64 sg] 26)
  have hBS := hB1.alloc hB1.size (.cells #[.int .i64 ax, .int .i64 ay, .int .i64 st, .int .i64 sw, .int .i64 sh, .int .i64 sg] 26)
  have hB8 := hB1.size
  obtain ⟨W3, hW3⟩ : ∃ W, w2.alloc (.cells #[.int .i64 ax, .int .i64 ay, .int .i64 st, .int .i64 sw, .int .i64 sh, .int .i64 sg] 26) = W := ⟨_, rfl⟩
  rw [hW3] at kS kp kq hBS ⊢
  clear hW3 hB1 hmade hI
  generalize w2.heap.size = B8 at *
  have l8 := kS.lt
  have lp := kp.lt
  have lq := kq.lt
  obtain ⟨c0, c1, c2, c3, c4, c5⟩ := shCells kS
  have e0 : W3.cell? ⟨w.heap.size, 0, none⟩ = some (.int .u16 pu) := kp.cell 0
  have e1 : W3.cell? ⟨w.heap.size, 1, none⟩ = some (.int .u16 pv) := kp.cell 1
  have hs3 := hBS.size
  go_cut [9] (fun v wx => ∃ B9, v = .pointer (some ⟨B9, 0, none⟩) ∧ Blk wx B9 #[.int .i64 (ax + pu.tmod (sw * st)), .int .i64 (ay + pv.tmod (sh * st))] 24 ∧ Below W3.heap.size W3 wx ∧ W3.heap.size ≤ B9)
  case first =>
    as_aux_lemma =>
      clear hm hpA hqA kq kp kS
      obtain ⟨PW, hPW⟩ : ∃ P, sw * st = P := ⟨_, rfl⟩
      obtain ⟨PH, hPH⟩ : ∃ P, sh * st = P := ⟨_, rfl⟩
      rw [hPW] at ra ra2 pr0 pr1
      rw [hPH] at rb rb2 pr2 pr3
      have g1 : IntKind.i64.wrap (sw * st) = PW := by rw [hPW]; exact wrap_in (by omega) (by omega)
      have g2 : IntKind.i64.wrap (sh * st) = PH := by rw [hPH]; exact wrap_in (by omega) (by omega)
      have g1' : RowKit.wrap64 (sw * st) = PW := by rw [hPW]; exact IntWalk.wrap64_in _ ⟨by omega, by omega⟩
      have g2' : RowKit.wrap64 (sh * st) = PH := by rw [hPH]; exact IntWalk.wrap64_in _ ⟨by omega, by omega⟩
      have nzw : ¬ PW = 0 := by omega
      have nzh : ¬ PH = 0 := by omega
      have nzw' : (PW == 0) = false := by simp; omega
      have nzh' : (PH == 0) = false := by simp; omega
      have g3 : IntKind.i64.wrap pu = pu := wrap_in (by omega) (by omega)
      have g4 : IntKind.i64.wrap pv = pv := wrap_in (by omega) (by omega)
      have em1 : pu.tmod PW = pu % PW := Int.tmod_eq_emod_of_nonneg p0
      have em2 : pv.tmod PH = pv % PH := Int.tmod_eq_emod_of_nonneg p2
      rw [em1] at ra ra2
      rw [em2] at rb rb2
      have g5 : IntKind.i64.wrap (pu % PW) = pu % PW := wrap_in (by omega) (by omega)
      have g6 : IntKind.i64.wrap (pv % PH) = pv % PH := wrap_in (by omega) (by omega)
      have g7 : IntKind.i64.wrap (ax + pu % PW) = ax + pu % PW := wrap_in (by omega) (by omega)
      have g8 : IntKind.i64.wrap (ay + pv % PH) = ay + pv % PH := wrap_in (by omega) (by omega)
      have g9 : RowKit.wrap64 (ax + pu % PW) = ax + pu % PW := IntWalk.wrap64_in _ ⟨by omega, by omega⟩
      have g10 : RowKit.wrap64 (ay + pv % PH) = ay + pv % PH := IntWalk.wrap64_in _ ⟨by omega, by omega⟩
      obtain ⟨xr, hxr⟩ : ∃ r, pu % PW = r := ⟨_, rfl⟩
      obtain ⟨yr, hyr⟩ : ∃ r, pv % PH = r := ⟨_, rfl⟩
      have g5' : IntKind.i64.wrap (pu.tmod PW) = xr := by rw [em1, ← hxr]; exact g5
      have g6' : IntKind.i64.wrap (pv.tmod PH) = yr := by rw [em2, ← hyr]; exact g6
      have g5t : pu.tmod PW = xr := em1.trans hxr
      have g6t : pv.tmod PH = yr := em2.trans hyr
      rw [hxr] at g5 g7 g9 ra ra2
      rw [hyr] at g6 g8 g10 rb rb2
      clear em1 em2
      replace hPW := Lib.hid hPW
      replace hPH := Lib.hid hPH
      go_region_held3 (fun w' => w'.cell? ⟨B8, 0, none⟩ = some (.int .i64 ax) ∧ w'.cell? ⟨B8, 1, none⟩ = some (.int .i64 ay) ∧ w'.cell? ⟨B8, 2, none⟩ = some (.int .i64 st) ∧ w'.cell? ⟨B8, 3, none⟩ = some (.int .i64 sw) ∧ w'.cell? ⟨B8, 4, none⟩ = some (.int .i64 sh) ∧ w'.cell? ⟨w.heap.size, 0, none⟩ = some (.int .u16 pu) ∧ w'.cell? ⟨w.heap.size, 1, none⟩ = some (.int .u16 pv)) (simp [go_sem, c0, c1, c2, c3, c4, e0, e1]) (fail)
      all_goals
        go_wp2_with fail
        go_meet
        simp only [hPW.out, hPH.out, g5t, g6t]
        first
          | exact ⟨W3.heap.size, rfl, Blk.new _ _ _, (by repeat' (first | with_reducible exact Below.refl _ _ | with_reducible exact Nat.le_refl _ | with_reducible assumption | with_reducible refine Go.below_growBy' ?_ ?_ _ | with_reducible refine Below.alloc ?_ ?_ _ | with_reducible refine Below.setCell ?_ ?_ _ | with_reducible refine Below.drew ?_ | with_reducible refine Go.le_alloc ?_ | with_reducible refine Go.le_growBy ?_ | with_reducible refine Go.le_setCell ?_ | with_reducible refine Go.le_drew ?_ | omega | (dsimp only; omega))), Nat.le_refl _⟩
          | exact ⟨W3.heap.size, rfl, (Blk.new _ _ _).drew, (by repeat' (first | with_reducible exact Below.refl _ _ | with_reducible exact Nat.le_refl _ | with_reducible assumption | with_reducible refine Go.below_growBy' ?_ ?_ _ | with_reducible refine Below.alloc ?_ ?_ _ | with_reducible refine Below.setCell ?_ ?_ _ | with_reducible refine Below.drew ?_ | with_reducible refine Go.le_alloc ?_ | with_reducible refine Go.le_growBy ?_ | with_reducible refine Go.le_setCell ?_ | with_reducible refine Go.le_drew ?_ | omega | (dsimp only; omega))), Nat.le_refl _⟩
  case rest =>
  obtain ⟨B9, rfl, k9, hB9, hle9⟩ := hcut
  replace kS := kS.below hB9 l8
  replace kq := kq.below hB9 lq
  have hBw := hBS.trans (hB9.mono hs3)
  clear hB9 kp hBS c0 c1 c2 c3 c4 c5 e0 e1 lp lq l8
  have hs4 := hBw.size
  have l8 := kS.lt
  have l9 := k9.lt
  have lq := kq.lt
  go_upto_region 4 with fail
  obtain ⟨c0, c1, c2, c3, c4, c5⟩ := shCells kS
  have e0 : wc.cell? ⟨w.heap.size + 1, 0, none⟩ = some (.int .u16 qu) := kq.cell 0
  have e1 : wc.cell? ⟨w.heap.size + 1, 1, none⟩ = some (.int .u16 qv) := kq.cell 1
  obtain ⟨W4, rfl⟩ : ∃ W, W = wc := ⟨_, rfl⟩
  go_cut [10] (fun v wx => ∃ B10, v = .pointer (some ⟨B10, 0, none⟩) ∧ Blk wx B10 #[.int .i64 (ax + qu.tmod (sw * st)), .int .i64 (ay + qv.tmod (sh * st))] 24 ∧ Below W4.heap.size W4 wx ∧ W4.heap.size ≤ B10)
  case first =>
    as_aux_lemma =>
      clear hm hpA hqA kq k9 kS
      obtain ⟨PW, hPW⟩ : ∃ P, sw * st = P := ⟨_, rfl⟩
      obtain ⟨PH, hPH⟩ : ∃ P, sh * st = P := ⟨_, rfl⟩
      rw [hPW] at rc rc2 pr0 pr1
      rw [hPH] at rd rd2 pr2 pr3
      have g1 : IntKind.i64.wrap (sw * st) = PW := by rw [hPW]; exact wrap_in (by omega) (by omega)
      have g2 : IntKind.i64.wrap (sh * st) = PH := by rw [hPH]; exact wrap_in (by omega) (by omega)
      have g1' : RowKit.wrap64 (sw * st) = PW := by rw [hPW]; exact IntWalk.wrap64_in _ ⟨by omega, by omega⟩
      have g2' : RowKit.wrap64 (sh * st) = PH := by rw [hPH]; exact IntWalk.wrap64_in _ ⟨by omega, by omega⟩
      have nzw : ¬ PW = 0 := by omega
      have nzh : ¬ PH = 0 := by omega
      have nzw' : (PW == 0) = false := by simp; omega
      have nzh' : (PH == 0) = false := by simp; omega
      have g3 : IntKind.i64.wrap qu = qu := wrap_in (by omega) (by omega)
      have g4 : IntKind.i64.wrap qv = qv := wrap_in (by omega) (by omega)
      have em1 : qu.tmod PW = qu % PW := Int.tmod_eq_emod_of_nonneg q0
      have em2 : qv.tmod PH = qv % PH := Int.tmod_eq_emod_of_nonneg q2
      rw [em1] at rc rc2
      rw [em2] at rd rd2
      have g5 : IntKind.i64.wrap (qu % PW) = qu % PW := wrap_in (by omega) (by omega)
      have g6 : IntKind.i64.wrap (qv % PH) = qv % PH := wrap_in (by omega) (by omega)
      have g7 : IntKind.i64.wrap (ax + qu % PW) = ax + qu % PW := wrap_in (by omega) (by omega)
      have g8 : IntKind.i64.wrap (ay + qv % PH) = ay + qv % PH := wrap_in (by omega) (by omega)
      have g9 : RowKit.wrap64 (ax + qu % PW) = ax + qu % PW := IntWalk.wrap64_in _ ⟨by omega, by omega⟩
      have g10 : RowKit.wrap64 (ay + qv % PH) = ay + qv % PH := IntWalk.wrap64_in _ ⟨by omega, by omega⟩
      obtain ⟨xr, hxr⟩ : ∃ r, qu % PW = r := ⟨_, rfl⟩
      obtain ⟨yr, hyr⟩ : ∃ r, qv % PH = r := ⟨_, rfl⟩
      have g5' : IntKind.i64.wrap (qu.tmod PW) = xr := by rw [em1, ← hxr]; exact g5
      have g6' : IntKind.i64.wrap (qv.tmod PH) = yr := by rw [em2, ← hyr]; exact g6
      have g5t : qu.tmod PW = xr := em1.trans hxr
      have g6t : qv.tmod PH = yr := em2.trans hyr
      rw [hxr] at g5 g7 g9 rc rc2
      rw [hyr] at g6 g8 g10 rd rd2
      clear em1 em2
      replace hPW := Lib.hid hPW
      replace hPH := Lib.hid hPH
      go_region_held3 (fun w' => w'.cell? ⟨B8, 0, none⟩ = some (.int .i64 ax) ∧ w'.cell? ⟨B8, 1, none⟩ = some (.int .i64 ay) ∧ w'.cell? ⟨B8, 2, none⟩ = some (.int .i64 st) ∧ w'.cell? ⟨B8, 3, none⟩ = some (.int .i64 sw) ∧ w'.cell? ⟨B8, 4, none⟩ = some (.int .i64 sh) ∧ w'.cell? ⟨w.heap.size + 1, 0, none⟩ = some (.int .u16 qu) ∧ w'.cell? ⟨w.heap.size + 1, 1, none⟩ = some (.int .u16 qv)) (simp [go_sem, c0, c1, c2, c3, c4, e0, e1]) (fail)
      all_goals
        go_wp2_with fail
        go_meet
        simp only [hPW.out, hPH.out, g5t, g6t]
        first
          | exact ⟨W4.heap.size, rfl, Blk.new _ _ _, (by repeat' (first | with_reducible exact Below.refl _ _ | with_reducible exact Nat.le_refl _ | with_reducible assumption | with_reducible refine Go.below_growBy' ?_ ?_ _ | with_reducible refine Below.alloc ?_ ?_ _ | with_reducible refine Below.setCell ?_ ?_ _ | with_reducible refine Below.drew ?_ | with_reducible refine Go.le_alloc ?_ | with_reducible refine Go.le_growBy ?_ | with_reducible refine Go.le_setCell ?_ | with_reducible refine Go.le_drew ?_ | omega | (dsimp only; omega))), Nat.le_refl _⟩
          | exact ⟨W4.heap.size, rfl, (Blk.new _ _ _).drew, (by repeat' (first | with_reducible exact Below.refl _ _ | with_reducible exact Nat.le_refl _ | with_reducible assumption | with_reducible refine Go.below_growBy' ?_ ?_ _ | with_reducible refine Below.alloc ?_ ?_ _ | with_reducible refine Below.setCell ?_ ?_ _ | with_reducible refine Below.drew ?_ | with_reducible refine Go.le_alloc ?_ | with_reducible refine Go.le_growBy ?_ | with_reducible refine Go.le_setCell ?_ | with_reducible refine Go.le_drew ?_ | omega | (dsimp only; omega))), Nat.le_refl _⟩
  case rest =>
  obtain ⟨B10, rfl, k10, hB10, hle10⟩ := hcut
  replace kS := kS.below hB10 l8
  replace k9 := k9.below hB10 l9
  replace hBw := hBw.trans (hB10.mono hs4)
  clear hB10 kq lq c0 c1 c2 c3 c4 c5 e0 e1 l8 l9
  have hs5 := hBw.size
  obtain ⟨W5, rfl⟩ : ∃ W, W = wc := ⟨_, rfl⟩
  have l8 := kS.lt
  obtain ⟨c0, c1, c2, c3, c4, c5⟩ := shCells kS
  have a0 : W5.cell? ⟨B9, 0, none⟩ = some (.int .i64 (ax + pu.tmod (sw * st))) := k9.cell 0
  have a1 : W5.cell? ⟨B9, 1, none⟩ = some (.int .i64 (ay + pv.tmod (sh * st))) := k9.cell 1
  have b0 : W5.cell? ⟨B10, 0, none⟩ = some (.int .i64 (ax + qu.tmod (sw * st))) := k10.cell 0
  have b1 : W5.cell? ⟨B10, 1, none⟩ = some (.int .i64 (ay + qv.tmod (sh * st))) := k10.cell 1
  obtain ⟨ex, hex⟩ : ∃ e, ax + pu.tmod (sw * st) = e := ⟨_, rfl⟩
  obtain ⟨ey, hey⟩ : ∃ e, ay + pv.tmod (sh * st) = e := ⟨_, rfl⟩
  obtain ⟨fx, hfx⟩ : ∃ e, ax + qu.tmod (sw * st) = e := ⟨_, rfl⟩
  obtain ⟨fy, hfy⟩ : ∃ e, ay + qv.tmod (sh * st) = e := ⟨_, rfl⟩
  rw [hex] at hpA k9 a0
  rw [hey] at hpA k9 a1
  rw [hfx] at hqA k10 b0
  rw [hfy] at hqA k10 b1
  clear hex hey hfx hfy ra ra2 rb rb2 rc rc2 rd rd2 nz1 nz2 nz3 pr0 pr1 pr2 pr3 p0 p1 p2 p3 q0 q1 q2 q3
  have fax : fits ax := ⟨by omega, by omega⟩
  have fay : fits ay := ⟨by omega, by omega⟩
  have hL := lineL2_dots (p := (ex, ey)) (q := (fx, fy)) hm hpA hqA
  have hways := fun (X : World) (B C : Nat) (h1 : X.heap.size = B) (h2 : B + 1 = C) => ways_pts2 (p := (ex, ey)) (q := (fx, fy)) h1 h2 hm hpA hqA
  have hofp := hpA.of hm
  have hofq := hqA.of hm
  have honp := hpA.on hm
  have honq := hqA.on hm
  obtain ⟨L, hLe⟩ : ∃ L, lineL2 ⟨ax, ay, st, sw, sh, sg⟩ (ex, ey) (fx, fy) = L := ⟨_, rfl⟩
  rw [hLe] at hL hways
  unfold dotOf at hL
  obtain ⟨i, hi⟩ : ∃ i, dotX ⟨ax, ay, st, sw, sh, sg⟩ ex = i := ⟨_, rfl⟩
  obtain ⟨j, hj⟩ : ∃ i, dotY ⟨ax, ay, st, sw, sh, sg⟩ ey = i := ⟨_, rfl⟩
  obtain ⟨k, hk⟩ : ∃ i, dotX ⟨ax, ay, st, sw, sh, sg⟩ fx = i := ⟨_, rfl⟩
  obtain ⟨n, hn⟩ : ∃ i, dotY ⟨ax, ay, st, sw, sh, sg⟩ fy = i := ⟨_, rfl⟩
  simp only at hL
  rw [hi] at hL hofp honp
  rw [hj] at hL hofp honp
  rw [hk] at hL hofq honq
  rw [hn] at hL hofq honq
  have hmx := max4_line i j k n
  have hlen := hL.len
  have hN0 := (lineN_is (i, j) (k, n)).1
  obtain ⟨N, hN⟩ : ∃ N, lineN (i, j) (k, n) = N := ⟨_, rfl⟩
  rw [hN] at hmx hlen hN0
  have hlenI : (L.length : Int) = 1 + N := by omega
  have honp' := onS_iff.1 honp
  have honq' := onS_iff.1 honq
  simp only at honp' honq'
  obtain ⟨⟨i0, i1⟩, j0, j1⟩ := honp'
  obtain ⟨⟨k0, k1⟩, n0, n1⟩ := honq'
  have hNs : N ≤ 80 := by have := lineN_is (i, j) (k, n); rw [hN] at this; simp only at this; omega
  have hne : ((L.length : Int) == 1 + N) = true := by simp [hlenI]
  have hne2 : ((L.length : Int) != 1 + N) = false := by simp [hlenI]
  replace hofp := Lib.hid hofp
  replace hofq := Lib.hid hofq
  have hL81 : L.length ≤ 81 := by omega
  clear hi hj hk hn hLe hpA hqA honp honq hN hlen hlenI
  go_wp2_with (first
    | (go_at_call 13; refine (hways _ _ _ rfl rfl).mono ?_; rintro e w6 ⟨lb, lo, lc, rfl, hcap, hD, hb6⟩; replace kS := kS.below hb6 l8; have k9' := k9.below hb6 k9.lt; have k10' := k10.below hb6 k10.lt; have hB6 := hBw.trans (hb6.mono hs5); clear c0 c1 c2 c3 c4 c5 a0 a1 b0 b1 hb6; obtain ⟨c0, c1, c2, c3, c4, c5⟩ := shCells kS; have a0 : w6.cell? ⟨B9, 0, none⟩ = some (.int .i64 ex) := k9'.cell 0; have a1 : w6.cell? ⟨B9, 1, none⟩ = some (.int .i64 ey) := k9'.cell 1; have b0 : w6.cell? ⟨B10, 0, none⟩ = some (.int .i64 fx) := k10'.cell 0; have b1 : w6.cell? ⟨B10, 1, none⟩ = some (.int .i64 fy) := k10'.cell 1)
    | (go_at_call 11; with_reducible refine (of_eq (s := ⟨ax, ay, st, sw, sh, sg⟩) hofp.out _ fax fay).mono ?_; rintro e w' ⟨rfl, hb_⟩; obtain ⟨pa, rfl⟩ := grow_of_below hb_; clear hb_)
    | (go_at_call 11; with_reducible refine (of_eq (s := ⟨ax, ay, st, sw, sh, sg⟩) hofq.out _ fax fay).mono ?_; rintro e w7 ⟨rfl, hb7⟩; have h67 := (below_growBy w6 pa).trans (hb7.mono (by simp)); replace kS := kS.below h67 kS.lt; replace hD := hD.up h67 h67.size; replace hB6 := hB6.trans (h67.mono hB6.size); clear hb7 h67 c0 c1 c2 c3 c4 c5 a0 a1 b0 b1 k9' k10')
    | fail)
  have hs7 := hB6.size
  have l8 := kS.lt
  obtain ⟨-, sa, sc2, hslE, hrows⟩ := hD.open_
  simp only [Value.slice.injEq, true_and] at hslE
  obtain ⟨rfl, rfl⟩ := hslE
  clear k9 k10 hB8 hle9 hle10
  go_loopw [18, 19, 20] (fun m1 m2 x wr => ∃ t : Nat, t ≤ L.length ∧ m1 = .bool (hasAt i j (L.take t)) ∧ m2 = .bool (hasAt k n (L.take t)) ∧ x = .int .i64 t ∧ Below w7.heap.size w7 wr)
    (fun _ _ x _ => L.length - (intOf x).toNat)
  case atStart => exact ⟨0, Nat.zero_le _, rfl, rfl, rfl, Below.refl _ _⟩
  case round =>
    obtain ⟨t, ht, rfl, rfl, rfl, hB⟩ := hrel
    have hsz := hB.size
    by_cases hlt : t < L.length
    · have hltI : (t : Int) < (L.length : Int) := by omega
      obtain ⟨bl, off, hsl, hbl, hrow, -⟩ := hrows t hlt
      simp only [Option.some.injEq, Addr.mk.injEq, and_true] at hsl
      obtain ⟨rfl, rfl⟩ := hsl
      obtain ⟨d0, d1, d2, d3⟩ := hrow.below hB hbl
      obtain ⟨hon, hdk, hdi⟩ := hL.on t hlt
      have hnear := hL.near t hlt
      have hf1 := hasAt_take (i := i) (j := j) hlt
      have hf2 := hasAt_take (i := k) (j := n) hlt
      obtain ⟨d, hd⟩ : ∃ d, L[t] = d := ⟨_, rfl⟩
      rw [hd] at d0 d1 d2 d3 hon hdk hdi hnear hf1 hf2
      have hdH := Lib.hid hd
      clear hd hrow
      obtain ⟨dx, dy, dk, di⟩ := d
      simp only at d0 d1 d2 d3 hon hdk hdi hf1 hf2
      subst hdk hdi
      have hon' := onS_iff.1 hon
      simp only at hon'
      obtain ⟨⟨o0, o1⟩, o2, o3⟩ := hon'
      clear hon
      obtain ⟨m1, hm1⟩ : ∃ m, hasAt i j (L.take t) = m := ⟨_, rfl⟩
      obtain ⟨m2, hm2⟩ : ∃ m, hasAt k n (L.take t) = m := ⟨_, rfl⟩
      rw [hm1] at hf1
      rw [hm2] at hf2
      rw [hm1, hm2]
      obtain ⟨r1, hr1⟩ : ∃ r, hasAt i j (L.take (t + 1)) = r := ⟨_, rfl⟩
      obtain ⟨r2, hr2⟩ : ∃ r, hasAt k n (L.take (t + 1)) = r := ⟨_, rfl⟩
      rw [hr1] at hf1
      rw [hr2] at hf2
      replace hr1 := Lib.hid hr1
      replace hr2 := Lib.hid hr2
      replace hf1 := Lib.hid hf1
      replace hf2 := Lib.hid hf2
      clear hm1 hm2
      have hLH := Lib.hid hL
      have hDH := Lib.hid hD
      clear hL hD
      go_upto_region 15 with fail
      have kd := Blk.new wr #[.int .i64 dx, .int .i64 dy, .int .i64 2, .int .i64 4] 45
      have kS' := (kS.below hB l8).alloc (.cells #[.int .i64 dx, .int .i64 dy, .int .i64 2, .int .i64 4] 45)
      have hBd : Below w7.heap.size w7 (wr.alloc (.cells #[.int .i64 dx, .int .i64 dy, .int .i64 2, .int .i64 4] 45)) := hB.alloc hsz _
      obtain ⟨Wd, hWd⟩ : ∃ W, wr.alloc (.cells #[.int .i64 dx, .int .i64 dy, .int .i64 2, .int .i64 4] 45) = W := ⟨_, rfl⟩
      rw [hWd] at kd kS' hBd ⊢
      clear hWd d0 d1 d2 d3
      have hBdle : w7.heap.size ≤ wr.heap.size := hsz
      generalize wr.heap.size = Bd at *
      have ld := kd.lt
      have x0d : Wd.cell? ⟨Bd, 0, none⟩ = some (.int .i64 dx) := kd.cell 0
      have x1d : Wd.cell? ⟨Bd, 1, none⟩ = some (.int .i64 dy) := kd.cell 1
      have x2d : Wd.cell? ⟨Bd, 2, none⟩ = some (.int .i64 2) := kd.cell 2
      have x3d : Wd.cell? ⟨Bd, 3, none⟩ = some (.int .i64 4) := kd.cell 3
      obtain ⟨-, -, -, s3d, s4d, -⟩ := shCells kS'
      go_cut [18] (fun v wx => v = .bool r1 ∧ wx = Wd)
      case first =>
        as_aux_lemma =>
          clear hofp hofq hnear hLH hDH hdH hr1 hr2 hf2
          cases m1 with
          | true =>
            go_wp2_with fail
            go_meet
            exact ⟨by rw [hf1.out]; rfl, rfl⟩
          | false =>
            by_cases hx : dx = i
            · by_cases hy : dy = j
              · have hyb : (dy == j) = true := by simp [hy]
                have hxb : (dx == i) = true := by simp [hx]
                have hv : r1 = true := by rw [hf1.out]; simp [hx, hy]
                clear hx hy
                go_wp2_with fail
                go_meet
                exact ⟨by rw [hv], rfl⟩
              · have hyb : (dy == j) = false := by simp [hy]
                have hxb : (dx == i) = true := by simp [hx]
                have hv : r1 = false := by rw [hf1.out]; simp [hy]
                clear hx hy
                go_wp2_with fail
                go_meet
                exact ⟨by rw [hv], rfl⟩
            · have hxb : (dx == i) = false := by simp [hx]
              have hv : r1 = false := by rw [hf1.out]; simp [hx]
              clear hx
              go_wp2_with fail
              go_meet
              exact ⟨by rw [hv], rfl⟩
      case rest =>
      obtain ⟨rfl, rfl⟩ := hcut
      obtain ⟨Wd, rfl⟩ : ∃ W, W = wc := ⟨_, rfl⟩
      go_upto_region 16 with fail
      go_cut [19] (fun v wx => v = .bool r2 ∧ wx = Wd)
      case first =>
        as_aux_lemma =>
          clear hofp hofq hnear hLH hDH hdH hr1 hr2 hf1
          cases m2 with
          | true =>
            go_wp2_with fail
            go_meet
            exact ⟨by rw [hf2.out]; rfl, rfl⟩
          | false =>
            by_cases hx : dx = k
            · by_cases hy : dy = n
              · have hyb : (dy == n) = true := by simp [hy]
                have hxb : (dx == k) = true := by simp [hx]
                have hv : r2 = true := by rw [hf2.out]; simp [hx, hy]
                clear hx hy
                go_wp2_with fail
                go_meet
                exact ⟨by rw [hv], rfl⟩
              · have hyb : (dy == n) = false := by simp [hy]
                have hxb : (dx == k) = true := by simp [hx]
                have hv : r2 = false := by rw [hf2.out]; simp [hy]
                clear hx hy
                go_wp2_with fail
                go_meet
                exact ⟨by rw [hv], rfl⟩
            · have hxb : (dx == k) = false := by simp [hx]
              have hv : r2 = false := by rw [hf2.out]; simp [hx]
              clear hx
              go_wp2_with fail
              go_meet
              exact ⟨by rw [hv], rfl⟩
      case rest =>
      obtain ⟨rfl, rfl⟩ := hcut
      obtain ⟨Wd, rfl⟩ : ∃ W, W = wc := ⟨_, rfl⟩
      go_upto_region 17 with fail
      go_cut [230] (fun v wx => v = .bool false ∧ Below Wd.heap.size Wd wx)
      case first =>
        have hprev : 0 < t → ∃ (t1 : Nat) (px py : Int), (t : Int) - 1 = t1 ∧ (t1 : Int) < (L.length : Int) ∧ Wd.cell? ⟨lb, lo + t1 * 4, none⟩ = some (.int .i64 px) ∧ Wd.cell? ⟨lb, lo + t1 * 4 + 1, none⟩ = some (.int .i64 py) ∧ (py < dy ∨ (py = dy ∧ px < dx)) := by
          intro h
          obtain ⟨bl', off', hsl', hbl', hrow', -⟩ := hrows (t - 1) (by omega)
          simp only [Option.some.injEq, Addr.mk.injEq, and_true] at hsl'
          obtain ⟨rfl, rfl⟩ := hsl'
          obtain ⟨g0', g1', -, -⟩ := hrow'.below hBd hbl'
          have h2 := hLH.out.up (t - 1) (by omega)
          have e : L[t - 1 + 1]'(by omega) = L[t] := by congr 1; omega
          rw [e, hdH.out] at h2
          exact ⟨t - 1, _, _, by omega, by omega, g0', g1', h2⟩
        clear hofp hofq hnear hLH hDH hdH hr1 hr2 hf1 hf2 hrows
        try clear hm
        try clear x0
        try clear x1
        try clear y0
        try clear y1
        try clear t0
        try clear t1
        try clear w0
        try clear w1
        try clear h0
        try clear h1
        try clear g0
        try clear g1
        try clear hs3
        try clear hs4
        try clear hs5
        try clear hBw
        try clear fax
        try clear fay
        try clear hways
        try clear hN0
        try clear hmx
        try clear i0
        try clear i1
        try clear j0
        try clear j1
        try clear k0
        try clear k1
        try clear n0
        try clear n1
        try clear hNs
        try clear hne
        try clear hcap
        try clear kS
        try clear hB6
        try clear hs7
        try clear l8
        try clear ht
        try clear hB
        try clear hbl
        try clear hsz
        try clear hBdle
        try clear kS'
        try clear hBd
        try clear kd
        try clear ld
        have z0 : ¬ dx < 0 := by omega
        have z1 : ¬ sw ≤ dx := by omega
        have z2 : ¬ dy < 0 := by omega
        have z3 : ¬ sh ≤ dy := by omega
        rcases Nat.eq_zero_or_pos t with h0t | hpt
        · subst h0t
          clear hprev
          as_aux_lemma =>
            dsimp only [List.append]
            refine Go.wp_region_quiet_lit (by kernel_rfl) (by kernel_rfl) ?_
            iterate 18 (go_big_quiet_step (fail))
            as_aux_lemma =>
              iterate 18 (go_big_quiet_step (fail))
              as_aux_lemma =>
                repeat (go_big_quiet_step (fail))
                refine wpQuiet_nil ?_
                intro _ hw'
                obtain ⟨nq, hw''⟩ := hw'
                subst hw''
                go_wp2_with fail
                go_meet
                exact ⟨rfl, rfl, rfl, rfl, Nat.le_refl _, fun _ _ => rfl⟩
        · obtain ⟨t1, px, py, he, hlt1, g0', g1', h2⟩ := hprev hpt
          have hptI : (0 : Int) < (t : Int) := by omega
          have hw1 : RowKit.wrap64 (t1 : Int) = (t1 : Int) := IntWalk.wrap64_in _ ⟨by omega, by omega⟩
          have ht0 : (0 : Int) ≤ (t1 : Int) := by omega
          rcases h2 with h2 | ⟨h2, h3⟩
          · have hyb : (py == dy) = false := by simp; omega
            have hnn : ¬ dy < py := by omega
            as_aux_lemma =>
              dsimp only [List.append]
              refine Go.wp_region_quiet_lit (by kernel_rfl) (by kernel_rfl) ?_
              iterate 18 (go_big_quiet_step (fail))
              as_aux_lemma =>
                iterate 18 (go_big_quiet_step (fail))
                as_aux_lemma =>
                  iterate 16 (go_big_quiet_step (fail))
                  as_aux_lemma =>
                    repeat (go_big_quiet_step (fail))
                    refine wpQuiet_nil ?_
                    intro _ hw'
                    obtain ⟨nq, hw''⟩ := hw'
                    subst hw''
                    go_wp2_with fail
                    go_meet
                    exact ⟨rfl, rfl, rfl, rfl, Nat.le_refl _, fun _ _ => rfl⟩
          · subst h2
            have hnn : ¬ dx ≤ px := by omega
            as_aux_lemma =>
              dsimp only [List.append]
              refine Go.wp_region_quiet_lit (by kernel_rfl) (by kernel_rfl) ?_
              iterate 18 (go_big_quiet_step (fail))
              as_aux_lemma =>
                iterate 18 (go_big_quiet_step (fail))
                as_aux_lemma =>
                  iterate 16 (go_big_quiet_step (fail))
                  as_aux_lemma =>
                    repeat (go_big_quiet_step (fail))
                    refine wpQuiet_nil ?_
                    intro _ hw'
                    obtain ⟨nq, hw''⟩ := hw'
                    subst hw''
                    go_wp2_with fail
                    go_meet
                    exact ⟨rfl, rfl, rfl, rfl, Nat.le_refl _, fun _ _ => rfl⟩
      case rest =>
      obtain ⟨rfl, hBc⟩ := hcut
      replace kd := kd.below hBc ld
      replace hBd := hBd.trans (hBc.mono hBd.size)
      clear x0d x1d x2d x3d s3d s4d kS' ld hBc
      obtain ⟨We, rfl⟩ : ∃ W, W = wc := ⟨_, rfl⟩
      go_upto_region 19 with fail
      have hDe := hDH.out.up hBd hBd.size
      have hcapI : (t : Int) ≤ (lc : Int) := by omega
      have ht1I : (t : Int) + 1 ≤ (L.length : Int) := by omega
      go_cut [22] (fun v wx => (∃ a cap, v = .slice a (L.length - 1) cap ∧ Dts wx.heap.size wx (.slice a (L.length - 1) cap) (L.take t ++ L.drop (t + 1))) ∧ Below We.heap.size We wx)
      case first =>
        clear hofp hofq hnear hLH hdH hr1 hr2 hf1 hf2 hrows
        have gw : IntKind.i64.wrap ((t : Int) + 1) = ((t + 1 : Nat) : Int) := (wrap_in (by omega) (by omega)).trans (by omega)
        have ht1N : ((t + 1 : Nat) : Int) ≤ (L.length : Int) := by omega
        have hneg : (0 : Int) ≤ (t : Int) + 1 := by omega
        have hneg2 : (t : Int) ≤ (t : Int) + 1 := by omega
        by_cases hlc : lc = t + 1
        · subst hlc
          go_region_law
            (first
              | (refine step_append_fresh (by rfl) _ _ (by rfl) We.heap.size _ (by rfl) (ownsRow_empty ?_ ?_) _ (L.take t) (by rfl) ((hDe.take t (t + 1) (by omega)).up (by repeat' (first | with_reducible exact Below.refl _ _ | with_reducible exact Nat.le_refl _ | with_reducible assumption | with_reducible refine Go.below_growBy' ?_ ?_ _ | with_reducible refine Below.alloc ?_ ?_ _ | with_reducible refine Below.setCell ?_ ?_ _ | with_reducible refine Below.drew ?_ | with_reducible refine Go.le_alloc ?_ | with_reducible refine Go.le_growBy ?_ | with_reducible refine Go.le_setCell ?_ | with_reducible refine Go.le_drew ?_ | omega | (dsimp only; omega))) (by repeat' (first | with_reducible exact Below.refl _ _ | with_reducible exact Nat.le_refl _ | with_reducible assumption | with_reducible refine Go.below_growBy' ?_ ?_ _ | with_reducible refine Below.alloc ?_ ?_ _ | with_reducible refine Below.setCell ?_ ?_ _ | with_reducible refine Below.drew ?_ | with_reducible refine Go.le_alloc ?_ | with_reducible refine Go.le_growBy ?_ | with_reducible refine Go.le_setCell ?_ | with_reducible refine Go.le_drew ?_ | omega | (dsimp only; omega)))) (by rw [List.length_take]; omega) (by repeat' (first | with_reducible exact Below.refl _ _ | with_reducible exact Nat.le_refl _ | with_reducible assumption | with_reducible refine Go.below_growBy' ?_ ?_ _ | with_reducible refine Below.alloc ?_ ?_ _ | with_reducible refine Below.setCell ?_ ?_ _ | with_reducible refine Below.drew ?_ | with_reducible refine Go.le_alloc ?_ | with_reducible refine Go.le_growBy ?_ | with_reducible refine Go.le_setCell ?_ | with_reducible refine Go.le_drew ?_ | omega | (dsimp only; omega))) ?_; exact Blk.new _ _ _; exact Nat.le_refl _; intro v6 w6 hrow6 hb6; have hb46 : Below We.heap.size We w6 := Below.trans (by repeat' (first | with_reducible exact Below.refl _ _ | with_reducible exact Nat.le_refl _ | with_reducible assumption | with_reducible refine Go.below_growBy' ?_ ?_ _ | with_reducible refine Below.alloc ?_ ?_ _ | with_reducible refine Below.setCell ?_ ?_ _ | with_reducible refine Below.drew ?_ | with_reducible refine Go.le_alloc ?_ | with_reducible refine Go.le_growBy ?_ | with_reducible refine Go.le_setCell ?_ | with_reducible refine Go.le_drew ?_ | omega | (dsimp only; omega))) (hb6.mono (by repeat' (first | with_reducible exact Below.refl _ _ | with_reducible exact Nat.le_refl _ | with_reducible assumption | with_reducible refine Go.below_growBy' ?_ ?_ _ | with_reducible refine Below.alloc ?_ ?_ _ | with_reducible refine Below.setCell ?_ ?_ _ | with_reducible refine Below.drew ?_ | with_reducible refine Go.le_alloc ?_ | with_reducible refine Go.le_growBy ?_ | with_reducible refine Go.le_setCell ?_ | with_reducible refine Go.le_drew ?_ | omega | (dsimp only; omega)))))
              | (refine step_append_part (by rfl) _ _ (by rfl) We.heap.size v6 (L.take t) (L.drop (t + 1)) (by rfl) hrow6 lb lo 0 0 (by rfl) ((hDe.drop (t + 1) 0 lo 0 (by omega) (by omega) (by omega)).up hb46 hb46.size) (by rw [List.length_take, List.length_drop]; omega) hb46.size ?_; intro v8 w8 hown8 hgrow8)
              | fail)
          all_goals
            have hb48 := hb46.grown hgrow8 hb46.size (fun r e => (hrow6.lt r e).1)
            have hl8 : (L.take t ++ L.drop (t + 1)).length = L.length - 1 := by rw [List.length_append, List.length_take, List.length_drop]; omega
            have hD8 : Dts w8.heap.size w8 v8 (L.take t ++ L.drop (t + 1)) := dts_of_row hown8 (by omega) (fun d hd => hDe.fits d (by rcases List.mem_append.1 hd with h | h; exact List.mem_of_mem_take h; exact List.mem_of_mem_drop h))
            try go_simp
            go_wp2_with fail
            go_meet
            obtain ⟨-, sa8, sc8, he8, -⟩ := hD8.open_
            rw [hl8] at he8
            subst he8
            exact ⟨⟨_, _, rfl, hD8⟩, hb48⟩
        · go_region_law
            (first
              | (refine step_append_fresh (by rfl) _ _ (by rfl) We.heap.size _ (by rfl) (ownsRow_empty ?_ ?_) _ (L.take t) (by rfl) ((hDe.take t lc (by omega)).up (by repeat' (first | with_reducible exact Below.refl _ _ | with_reducible exact Nat.le_refl _ | with_reducible assumption | with_reducible refine Go.below_growBy' ?_ ?_ _ | with_reducible refine Below.alloc ?_ ?_ _ | with_reducible refine Below.setCell ?_ ?_ _ | with_reducible refine Below.drew ?_ | with_reducible refine Go.le_alloc ?_ | with_reducible refine Go.le_growBy ?_ | with_reducible refine Go.le_setCell ?_ | with_reducible refine Go.le_drew ?_ | omega | (dsimp only; omega))) (by repeat' (first | with_reducible exact Below.refl _ _ | with_reducible exact Nat.le_refl _ | with_reducible assumption | with_reducible refine Go.below_growBy' ?_ ?_ _ | with_reducible refine Below.alloc ?_ ?_ _ | with_reducible refine Below.setCell ?_ ?_ _ | with_reducible refine Below.drew ?_ | with_reducible refine Go.le_alloc ?_ | with_reducible refine Go.le_growBy ?_ | with_reducible refine Go.le_setCell ?_ | with_reducible refine Go.le_drew ?_ | omega | (dsimp only; omega)))) (by rw [List.length_take]; omega) (by repeat' (first | with_reducible exact Below.refl _ _ | with_reducible exact Nat.le_refl _ | with_reducible assumption | with_reducible refine Go.below_growBy' ?_ ?_ _ | with_reducible refine Below.alloc ?_ ?_ _ | with_reducible refine Below.setCell ?_ ?_ _ | with_reducible refine Below.drew ?_ | with_reducible refine Go.le_alloc ?_ | with_reducible refine Go.le_growBy ?_ | with_reducible refine Go.le_setCell ?_ | with_reducible refine Go.le_drew ?_ | omega | (dsimp only; omega))) ?_; exact Blk.new _ _ _; exact Nat.le_refl _; intro v6 w6 hrow6 hb6; have hb46 : Below We.heap.size We w6 := Below.trans (by repeat' (first | with_reducible exact Below.refl _ _ | with_reducible exact Nat.le_refl _ | with_reducible assumption | with_reducible refine Go.below_growBy' ?_ ?_ _ | with_reducible refine Below.alloc ?_ ?_ _ | with_reducible refine Below.setCell ?_ ?_ _ | with_reducible refine Below.drew ?_ | with_reducible refine Go.le_alloc ?_ | with_reducible refine Go.le_growBy ?_ | with_reducible refine Go.le_setCell ?_ | with_reducible refine Go.le_drew ?_ | omega | (dsimp only; omega))) (hb6.mono (by repeat' (first | with_reducible exact Below.refl _ _ | with_reducible exact Nat.le_refl _ | with_reducible assumption | with_reducible refine Go.below_growBy' ?_ ?_ _ | with_reducible refine Below.alloc ?_ ?_ _ | with_reducible refine Below.setCell ?_ ?_ _ | with_reducible refine Below.drew ?_ | with_reducible refine Go.le_alloc ?_ | with_reducible refine Go.le_growBy ?_ | with_reducible refine Go.le_setCell ?_ | with_reducible refine Go.le_drew ?_ | omega | (dsimp only; omega)))))
              | (refine step_append_part (by rfl) _ _ (by rfl) We.heap.size v6 (L.take t) (L.drop (t + 1)) (by rfl) hrow6 lb (lo + (t + 1) * 4) _ _ rfl ((hDe.drop (t + 1) _ _ _ (by omega) (by omega) rfl).up hb46 hb46.size) (by rw [List.length_take, List.length_drop]; omega) hb46.size ?_; intro v8 w8 hown8 hgrow8)
              | fail)
          all_goals
            have hb48 := hb46.grown hgrow8 hb46.size (fun r e => (hrow6.lt r e).1)
            have hl8 : (L.take t ++ L.drop (t + 1)).length = L.length - 1 := by rw [List.length_append, List.length_take, List.length_drop]; omega
            have hD8 : Dts w8.heap.size w8 v8 (L.take t ++ L.drop (t + 1)) := dts_of_row hown8 (by omega) (fun d hd => hDe.fits d (by rcases List.mem_append.1 hd with h | h; exact List.mem_of_mem_take h; exact List.mem_of_mem_drop h))
            try go_simp
            go_wp2_with fail
            go_meet
            obtain ⟨-, sa8, sc8, he8, -⟩ := hD8.open_
            rw [hl8] at he8
            subst he8
            exact ⟨⟨_, _, rfl, hD8⟩, hb48⟩
      case rest =>
      obtain ⟨⟨ra, rc, rfl, hDr⟩, hBf⟩ := hcut
      replace kd := kd.below hBf kd.lt
      replace hBd := hBd.trans (hBf.mono hBd.size)
      clear hBf hDe
      obtain ⟨Wf, rfl⟩ : ∃ W, W = wc := ⟨_, rfl⟩
      have x0d : Wf.cell? ⟨Bd, 0, none⟩ = some (.int .i64 dx) := kd.cell 0
      have x1d : Wf.cell? ⟨Bd, 1, none⟩ = some (.int .i64 dy) := kd.cell 1
      have x2d : Wf.cell? ⟨Bd, 2, none⟩ = some (.int .i64 2) := kd.cell 2
      have x3d : Wf.cell? ⟨Bd, 3, none⟩ = some (.int .i64 4) := kd.cell 3
      have hBs := hBd.size
      obtain ⟨Lm, hLm⟩ : ∃ m, L.length - 1 = m := ⟨_, rfl⟩
      rw [hLm] at hDr ⊢
      clear hofp hofq hrows hDH hdH
      by_cases h1 : 1 < L.length
      · have hpos : 0 < Lm := by omega
        have hposI : (0 : Int) < (Lm : Int) := by omega
        have hn1 := hnear h1
        clear hnear hLm
        have fdx : fits dx := ⟨by omega, by omega⟩
        have fdy : fits dy := ⟨by omega, by omega⟩
        have sA := dts_one (Blk.new Wf #[.int .i64 dx, .int .i64 dy, .int .i64 2, .int .i64 4] 45) 1 fdx fdy
        have hbA : Below Wf.heap.size Wf (Wf.alloc (.cells #[.int .i64 dx, .int .i64 dy, .int .i64 2, .int .i64 4] 45)) := (by repeat' (first | with_reducible exact Below.refl _ _ | with_reducible exact Nat.le_refl _ | with_reducible assumption | with_reducible refine Go.below_growBy' ?_ ?_ _ | with_reducible refine Below.alloc ?_ ?_ _ | with_reducible refine Below.setCell ?_ ?_ _ | with_reducible refine Below.drew ?_ | with_reducible refine Go.le_alloc ?_ | with_reducible refine Go.le_growBy ?_ | with_reducible refine Go.le_setCell ?_ | with_reducible refine Go.le_drew ?_ | omega | (dsimp only; omega)))
        have sB := hDr.up hbA hbA.size
        go_wp2_with (first
          | (go_at_call 14; with_reducible refine (least_eq hn1 _ sA sB).mono ?_; rintro e wl ⟨rfl, hbl⟩; have hbw := hBd.trans ((hbA.trans (hbl.mono hbA.size)).mono hBs))
          | fail)
        go_roundw
        case rel =>
          first
            | exact ⟨t + 1, by omega, by rw [hr1.out], by rw [hr2.out], by go_num, hbw⟩
            | ((repeat apply Exists.intro); refine ⟨?_, rfl⟩; exact ⟨t + 1, by omega, by rw [hr1.out], by rw [hr2.out], by go_num, hbw⟩)
        case measure => simp [intOf]; omega
      · obtain rfl : 0 = Lm := by omega
        clear hnear hLm
        go_wp2_with fail
        go_roundw
        case rel =>
          exact ⟨t + 1, by omega, by rw [hr1.out], by rw [hr2.out], by go_num, hBd⟩
        case measure => simp [intOf]; omega
    · obtain rfl : t = L.length := by omega
      rw [List.take_length, hasAt_all hL.first, hasAt_all hL.last]
      have hge : ¬ (L.length : Int) < (L.length : Int) := by omega
      go_wp2_with fail
      go_ret
      exact ⟨rfl, hB6.trans (hB.mono hs7)⟩
end Go.Proofs.YtjfdbigkbgolmaaDoor
