/-
  Chapter 7's At over made partitions: the small functions: they return something.
  Chapter 7's At over made partitions: on, RaySpot, beyond: they return something.
-/
import Derived.Test.YtjfdbigkbgolmaaGreatDoorZF
import Derived.Test.YtjfdbigkbgolmaaGreatDoorZX

namespace Go.Proofs.YtjfdbigkbgolmaaGreatDoor
set_option linter.unusedVariables false
set_option linter.unusedSimpArgs false
open Go.RowKit Go.Shelf
attribute [local go_sem] Oper.semAt_some
attribute [local go_sem ↓] Go.wp_at_zero Go.wp_at_succ

def RetB (e : Ending) : Prop := ∃ b : Bool, e = .returned (.bool b)
def RetI (e : Ending) : Prop := ∃ x : Int, e = .returned (.int .i64 x)
theorem st3 {W : World} {b : Nat} {x y d : Int} {t : TypeId} (h : Blk W b #[.int .i64 x, .int .i64 y, .int .i64 d] t) : W.cell? ⟨b, 0, none⟩ = some (.int .i64 x) ∧ W.cell? ⟨b, 1, none⟩ = some (.int .i64 y) ∧ W.cell? ⟨b, 2, none⟩ = some (.int .i64 d) := ⟨h.cell 0, h.cell 1, h.cell 2⟩
set_option maxRecDepth 100000 in
theorem spotOf_any (x y : Int) (w : World) : Calls Tryz.prog 121 #[.agg #[.int .i64 x, .int .i64 y]] w fun e w' => e = .returned (.agg #[.int .i64 x, .int .i64 y, .int .i64 1]) ∧ Below w.heap.size w w' := by
  go_enter Tryz.func121, Tryz.ntmps121
  go_wp2_with fail
  have hk := Blk.new (w.alloc (.cells #[.int .i64 x, .int .i64 y] 25)) #[.int .i64 x, .int .i64 y, .int .i64 1] 175
  rw [World.size_alloc] at hk
  exact bodyPost_ret (results_cell_row (by rfl) _ _ _ 175 _ (0, 0) _ (by rfl) hk Tryz.underlying175 (by rfl) (by kernel_rfl)) rfl ⟨rfl, (by repeat' (first | with_reducible exact Below.refl _ _ | with_reducible exact Nat.le_refl _ | with_reducible assumption | with_reducible refine Go.below_growBy' ?_ ?_ _ | with_reducible refine Below.alloc ?_ ?_ _ | with_reducible refine Below.setCell ?_ ?_ _ | with_reducible refine Below.drew ?_ | with_reducible refine Go.le_alloc ?_ | with_reducible refine Go.le_growBy ?_ | with_reducible refine Go.le_setCell ?_ | with_reducible refine Go.le_drew ?_ | omega | (dsimp only; omega)))⟩
set_option maxRecDepth 100000 in
set_option maxHeartbeats 2000000 in
theorem bounded7_any (x y d : Int) (w : World) : Calls Tryz.prog 120 #[.agg #[.int .i64 x, .int .i64 y, .int .i64 d]] w fun e w' => RetB e ∧ Below w.heap.size w w' := by
  go_enter Tryz.func120, Tryz.ntmps120
  go_wp2_with fail
  all_goals
    go_ret
    exact ⟨⟨_, rfl⟩, (by repeat' (first | with_reducible exact Below.refl _ _ | with_reducible exact Nat.le_refl _ | with_reducible assumption | with_reducible refine Go.below_growBy' ?_ ?_ _ | with_reducible refine Below.alloc ?_ ?_ _ | with_reducible refine Below.setCell ?_ ?_ _ | with_reducible refine Below.drew ?_ | with_reducible refine Go.le_alloc ?_ | with_reducible refine Go.le_growBy ?_ | with_reducible refine Go.le_setCell ?_ | with_reducible refine Go.le_drew ?_ | omega | (dsimp only; omega)))⟩
set_option maxRecDepth 100000 in
set_option maxHeartbeats 2000000 in
theorem far_any (x y d : Int) (w : World) : Calls Tryz.prog 158 #[.agg #[.int .i64 x, .int .i64 y, .int .i64 d]] w fun e w' => RetB e ∧ Below w.heap.size w w' := by
  go_enter Tryz.func158, Tryz.ntmps158
  go_wp2_with (first | (go_at_call 93; refine (rbetween_any _ _ _ _).mono ?_; rintro e w' ⟨rfl, rfl⟩) | fail)
  all_goals
    go_ret
    exact ⟨⟨_, rfl⟩, (by repeat' (first | with_reducible exact Below.refl _ _ | with_reducible exact Nat.le_refl _ | with_reducible assumption | with_reducible refine Go.below_growBy' ?_ ?_ _ | with_reducible refine Below.alloc ?_ ?_ _ | with_reducible refine Below.setCell ?_ ?_ _ | with_reducible refine Below.drew ?_ | with_reducible refine Go.le_alloc ?_ | with_reducible refine Go.le_growBy ?_ | with_reducible refine Go.le_setCell ?_ | with_reducible refine Go.le_drew ?_ | omega | (dsimp only; omega)))⟩
set_option maxRecDepth 100000 in
set_option maxHeartbeats 4000000 in
theorem spotSide_any (ax ay ad bx by_ bd px py pd : Int) (w : World) : Calls Tryz.prog 139 #[.agg #[.int .i64 ax, .int .i64 ay, .int .i64 ad], .agg #[.int .i64 bx, .int .i64 by_, .int .i64 bd], .agg #[.int .i64 px, .int .i64 py, .int .i64 pd]] w fun e w' => RetI e ∧ Below w.heap.size w w' := by
  go_enter Tryz.func139, Tryz.ntmps139
  go_wp2_with (first
    | (go_at_call 158; refine (far_any _ _ _ _).mono ?_; rintro e w' ⟨⟨b, rfl⟩, hb_⟩; obtain ⟨p, rfl⟩ := grow_of_below hb_; clear hb_)
    | (go_at_call 157; refine (rsign2_any _ _ _ _ _ (fits_w64 _).1 (fits_w64 _).2 (fits_w64 _).1 (fits_w64 _).2 (fits_w64 _).1 (fits_w64 _).2 (fits_w64 _).1 (fits_w64 _).2).mono ?_; rintro e w' ⟨rfl, hb_⟩; obtain ⟨p, rfl⟩ := grow_of_below hb_; clear hb_)
    | fail)
  all_goals
    go_ret
    exact ⟨⟨_, rfl⟩, (by repeat' (first | with_reducible exact Below.refl _ _ | with_reducible exact Nat.le_refl _ | with_reducible assumption | with_reducible refine Go.below_growBy' ?_ ?_ _ | with_reducible refine Below.alloc ?_ ?_ _ | with_reducible refine Below.setCell ?_ ?_ _ | with_reducible refine Below.drew ?_ | with_reducible refine Go.le_alloc ?_ | with_reducible refine Go.le_growBy ?_ | with_reducible refine Go.le_setCell ?_ | with_reducible refine Go.le_drew ?_ | omega | (dsimp only; omega)))⟩
set_option maxRecDepth 100000 in
set_option maxHeartbeats 2000000 in
theorem cmp7_any (n d m e : Int) (w : World) (hn : fits n) (hd : fits d) (hm : fits m) (he : fits e) : Calls Tryz.prog 142 #[.agg #[.int .i64 n, .int .i64 d], .agg #[.int .i64 m, .int .i64 e]] w fun o w' => RetI o ∧ Below w.heap.size w w' := by
  go_enter Tryz.func142, Tryz.ntmps142
  go_wp2_with (first
    | (go_at_call 157; refine (rsign2_any _ _ _ _ _ hn.1 hn.2 he.1 he.2 hm.1 hm.2 hd.1 hd.2).mono ?_; rintro e w' ⟨rfl, hb_⟩; obtain ⟨p, rfl⟩ := grow_of_below hb_; clear hb_)
    | fail)
  all_goals
    go_ret
    exact ⟨⟨_, rfl⟩, (by repeat' (first | with_reducible exact Below.refl _ _ | with_reducible exact Nat.le_refl _ | with_reducible assumption | with_reducible refine Go.below_growBy' ?_ ?_ _ | with_reducible refine Below.alloc ?_ ?_ _ | with_reducible refine Below.setCell ?_ ?_ _ | with_reducible refine Below.drew ?_ | with_reducible refine Go.le_alloc ?_ | with_reducible refine Go.le_growBy ?_ | with_reducible refine Go.le_setCell ?_ | with_reducible refine Go.le_drew ?_ | omega | (dsimp only; omega)))⟩
set_option maxRecDepth 100000 in
set_option maxHeartbeats 2000000 in
theorem above_any (x y d px py : Int) (w : World) (hy : fits y) (hd : fits d) (hp : fits py) : Calls Tryz.prog 141 #[.agg #[.int .i64 x, .int .i64 y, .int .i64 d], .agg #[.int .i64 px, .int .i64 py]] w fun o w' => RetB o ∧ Below w.heap.size w w' := by
  go_enter Tryz.func141, Tryz.ntmps141
  go_wp2_with (first
    | (go_at_call 142; refine (cmp7_any _ _ _ _ _ hy hd hp ⟨by decide, by decide⟩).mono ?_; rintro e w' ⟨⟨r, rfl⟩, hb_⟩; obtain ⟨p, rfl⟩ := grow_of_below hb_; clear hb_)
    | fail)
  all_goals
    go_ret
    exact ⟨⟨_, rfl⟩, (by repeat' (first | with_reducible exact Below.refl _ _ | with_reducible exact Nat.le_refl _ | with_reducible assumption | with_reducible refine Go.below_growBy' ?_ ?_ _ | with_reducible refine Below.alloc ?_ ?_ _ | with_reducible refine Below.setCell ?_ ?_ _ | with_reducible refine Below.drew ?_ | with_reducible refine Go.le_alloc ?_ | with_reducible refine Go.le_growBy ?_ | with_reducible refine Go.le_setCell ?_ | with_reducible refine Go.le_drew ?_ | omega | (dsimp only; omega)))⟩
set_option maxRecDepth 100000 in
set_option maxHeartbeats 2000000 in
theorem side7_any (n a b c d : Int) (w : World) (hn : fits n) (ha : fits a) (hb : fits b) (hc : fits c) (hd : fits d) : Calls Tryz.prog 140 #[.int .i64 n, .agg #[.int .i64 a, .int .i64 b], .agg #[.int .i64 c, .int .i64 d]] w fun o w' => RetI o ∧ Below w.heap.size w w' := by
  go_enter Tryz.func140, Tryz.ntmps140
  go_wp2_with (first
    | (go_at_call 142; refine (cmp7_any _ _ _ _ _ hn ⟨by decide, by decide⟩ (by first | exact ha | exact hc) (by first | exact hb | exact hd)).mono ?_; rintro e w' ⟨⟨r, rfl⟩, hb_⟩; obtain ⟨p, rfl⟩ := grow_of_below hb_; clear hb_)
    | fail)
  all_goals
    go_ret
    exact ⟨⟨_, rfl⟩, (by repeat' (first | with_reducible exact Below.refl _ _ | with_reducible exact Nat.le_refl _ | with_reducible assumption | with_reducible refine Go.below_growBy' ?_ ?_ _ | with_reducible refine Below.alloc ?_ ?_ _ | with_reducible refine Below.setCell ?_ ?_ _ | with_reducible refine Below.drew ?_ | with_reducible refine Go.le_alloc ?_ | with_reducible refine Go.le_growBy ?_ | with_reducible refine Go.le_setCell ?_ | with_reducible refine Go.le_drew ?_ | omega | (dsimp only; omega)))⟩
end Go.Proofs.YtjfdbigkbgolmaaGreatDoor
namespace Go.Proofs.YtjfdbigkbgolmaaGreatDoor
set_option linter.unusedVariables false
set_option linter.unusedSimpArgs false
open Go.RowKit Go.Shelf
attribute [local go_sem] Oper.semAt_some
attribute [local go_sem ↓] Go.wp_at_zero Go.wp_at_succ

structure On3 (wr : World) (B3 B4 B5 : Nat) (ax ay ad bx by_ bd px py : Int) (W : World) : Prop where
  bel : Below wr.heap.size wr W
  a : Blk W B3 #[.int .i64 ax, .int .i64 ay, .int .i64 ad] 175
  b : Blk W B4 #[.int .i64 bx, .int .i64 by_, .int .i64 bd] 175
  p : Blk W B5 #[.int .i64 px, .int .i64 py] 25
theorem On3.up {wr W W' : World} {B3 B4 B5 : Nat} {ax ay ad bx by_ bd px py : Int} (h : On3 wr B3 B4 B5 ax ay ad bx by_ bd px py W) (hb : Below W.heap.size W W') : On3 wr B3 B4 B5 ax ay ad bx by_ bd px py W' :=
  ⟨h.bel.trans (hb.mono h.bel.size), h.a.below hb h.a.lt, h.b.below hb h.b.lt, h.p.below hb h.p.lt⟩

def FOn (B3 B4 B5 : Nat) (ax ay ad bx by_ bd px py : Int) (i : Nat) (v : Value) (w : World) : Prop :=
  match i with
  | 0 => v = .agg #[.int .i64 ax, .int .i64 ay, .int .i64 ad]
  | 1 => v = .agg #[.int .i64 bx, .int .i64 by_, .int .i64 bd]
  | 2 => v = .agg #[.int .i64 px, .int .i64 py]
  | 3 => v = .agg #[.int .i64 px, .int .i64 py, .int .i64 1]
  | 4 => ∃ x, v = .int .i64 x
  | _ => False
theorem FOn.kept {B3 B4 B5 : Nat} {ax ay ad bx by_ bd px py : Int} {i : Nat} {v : Value} {w w' : World} (h : FOn B3 B4 B5 ax ay ad bx by_ bd px py i v w) (hg : Below w.heap.size w w') : FOn B3 B4 B5 ax ay ad bx by_ bd px py i v w' := by
  unfold FOn at *
  split at h
  all_goals first | exact h | (exact h)
set_option maxRecDepth 100000 in
set_option maxHeartbeats 4000000 in
theorem on7_any (ax ay ad bx by_ bd px py : Int) (w : World) (f0 : fits ax) (f1 : fits ay) (f2 : fits ad) (f3 : fits bx) (f4 : fits by_) (f5 : fits bd) (f6 : fits px) (f7 : fits py) :
    Calls Tryz.prog 122 #[.agg #[.int .i64 ax, .int .i64 ay, .int .i64 ad], .agg #[.int .i64 bx, .int .i64 by_, .int .i64 bd], .agg #[.int .i64 px, .int .i64 py]] w fun e w' => RetB e ∧ Below w.heap.size w w' := by
  go_enter Tryz.func122, Tryz.ntmps122
  go_upto_region 1 with fail
  have hm : On3 w w.heap.size (w.heap.size + 1) (w.heap.size + 1 + 1) ax ay ad bx by_ bd px py (((w.alloc (.cells #[.int .i64 ax, .int .i64 ay, .int .i64 ad] 175)).alloc (.cells #[.int .i64 bx, .int .i64 by_, .int .i64 bd] 175)).alloc (.cells #[.int .i64 px, .int .i64 py] 25)) := by
    have k1 := Blk.new (w.alloc (.cells #[.int .i64 ax, .int .i64 ay, .int .i64 ad] 175)) #[.int .i64 bx, .int .i64 by_, .int .i64 bd] 175
    have k2 := Blk.new ((w.alloc (.cells #[.int .i64 ax, .int .i64 ay, .int .i64 ad] 175)).alloc (.cells #[.int .i64 bx, .int .i64 by_, .int .i64 bd] 175)) #[.int .i64 px, .int .i64 py] 25
    simp only [World.size_alloc] at k1 k2
    exact ⟨(by repeat' (first | with_reducible exact Below.refl _ _ | with_reducible exact Nat.le_refl _ | with_reducible assumption | with_reducible refine Go.below_growBy' ?_ ?_ _ | with_reducible refine Below.alloc ?_ ?_ _ | with_reducible refine Below.setCell ?_ ?_ _ | with_reducible refine Below.drew ?_ | with_reducible refine Go.le_alloc ?_ | with_reducible refine Go.le_growBy ?_ | with_reducible refine Go.le_setCell ?_ | with_reducible refine Go.le_drew ?_ | omega | (dsimp only; omega))), ((Blk.new w _ _).alloc _).alloc _, k1.alloc _, k2⟩
  obtain ⟨W1, hW1⟩ : ∃ W, (((w.alloc (.cells #[.int .i64 ax, .int .i64 ay, .int .i64 ad] 175)).alloc (.cells #[.int .i64 bx, .int .i64 by_, .int .i64 bd] 175)).alloc (.cells #[.int .i64 px, .int .i64 py] 25)) = W := ⟨_, rfl⟩
  obtain ⟨B5, hB5⟩ : ∃ b, w.heap.size + 1 + 1 = b := ⟨_, rfl⟩
  obtain ⟨B4, hB4⟩ : ∃ b, w.heap.size + 1 = b := ⟨_, rfl⟩
  obtain ⟨B3, hB3⟩ : ∃ b, w.heap.size = b := ⟨_, rfl⟩
  rw [hW1, hB5, hB4] at hm
  rw [hW1, hB5, hB4]
  have hm1 : On3 w B3 B4 B5 ax ay ad bx by_ bd px py W1 := hB3 ▸ hm
  rw [hB3]
  clear hm hW1 hB5 hB4 hB3
  refine Go.wp_region_rel 5 (by kernel_rfl) (by kernel_rfl) (fun _ W => On3 w B3 B4 B5 ax ay ad bx by_ bd px py W) (fun w w' => Below w.heap.size w w') (FOn B3 B4 B5 ax ay ad bx by_ bd px py) (fun _ _ _ _ h g => h.kept g) (hm1.up (Below.refl _ _).drew) ?_ ?_
  · clear hm1
    intro i o hi ho c bb W hc hM hA hD K hK
    match i, hi, ho with
    | 0, _, ho =>
      cases ho
      have f3 : bb.tmps[3]?.getD undef = .pointer (some ⟨B3, 0, none⟩) := evalAt (v := .pointer (some ⟨B3, 0, none⟩)) (hA.at_ (k := 3) (by kernel_rfl))
      have z0 : W.cell? ⟨B3, 0, none⟩ = some (.int .i64 ax) := hM.a.cell 0
      have z1 : W.cell? ⟨B3, 1, none⟩ = some (.int .i64 ay) := hM.a.cell 1
      have z2 : W.cell? ⟨B3, 2, none⟩ = some (.int .i64 ad) := hM.a.cell 2
      go_simp
      exact hK (.agg #[.int .i64 ax, .int .i64 ay, .int .i64 ad]) W rfl (Below.refl _ _) hM
    | 1, _, ho =>
      cases ho
      have f4 : bb.tmps[4]?.getD undef = .pointer (some ⟨B4, 0, none⟩) := evalAt (v := .pointer (some ⟨B4, 0, none⟩)) (hA.at_ (k := 4) (by kernel_rfl))
      have z0 : W.cell? ⟨B4, 0, none⟩ = some (.int .i64 bx) := hM.b.cell 0
      have z1 : W.cell? ⟨B4, 1, none⟩ = some (.int .i64 by_) := hM.b.cell 1
      have z2 : W.cell? ⟨B4, 2, none⟩ = some (.int .i64 bd) := hM.b.cell 2
      go_simp
      exact hK (.agg #[.int .i64 bx, .int .i64 by_, .int .i64 bd]) W rfl (Below.refl _ _) hM
    | 2, _, ho =>
      cases ho
      have f5 : bb.tmps[5]?.getD undef = .pointer (some ⟨B5, 0, none⟩) := evalAt (v := .pointer (some ⟨B5, 0, none⟩)) (hA.at_ (k := 5) (by kernel_rfl))
      have z0 : W.cell? ⟨B5, 0, none⟩ = some (.int .i64 px) := hM.p.cell 0
      have z1 : W.cell? ⟨B5, 1, none⟩ = some (.int .i64 py) := hM.p.cell 1
      go_simp
      exact hK (.agg #[.int .i64 px, .int .i64 py]) W rfl (Below.refl _ _) hM
    | 3, _, ho =>
      cases ho
      have f11 : bb.tmps[11]?.getD undef = .agg #[.int .i64 px, .int .i64 py] := evalAt (v := .agg #[.int .i64 px, .int .i64 py]) (dep_at hD 2 11 (by kernel_rfl) rfl rfl)
      go_simp
      refine (spotOf_any px py W).mono ?_
      rintro e W' ⟨rfl, hb⟩
      go_simp
      exact hK (.agg #[.int .i64 px, .int .i64 py, .int .i64 1]) W' rfl hb (hM.up hb)
    | 4, _, ho =>
      cases ho
      have f9 : bb.tmps[9]?.getD undef = .agg #[.int .i64 ax, .int .i64 ay, .int .i64 ad] := evalAt (v := .agg #[.int .i64 ax, .int .i64 ay, .int .i64 ad]) (dep_at hD 0 9 (by kernel_rfl) rfl rfl)
      have f10 : bb.tmps[10]?.getD undef = .agg #[.int .i64 bx, .int .i64 by_, .int .i64 bd] := evalAt (v := .agg #[.int .i64 bx, .int .i64 by_, .int .i64 bd]) (dep_at hD 1 10 (by kernel_rfl) rfl rfl)
      have f12 : bb.tmps[12]?.getD undef = .agg #[.int .i64 px, .int .i64 py, .int .i64 1] := evalAt (v := .agg #[.int .i64 px, .int .i64 py, .int .i64 1]) (dep_at hD 3 12 (by kernel_rfl) rfl rfl)
      go_simp
      refine (spotSide_any _ _ _ _ _ _ _ _ _ W).mono ?_
      rintro e W' ⟨⟨x, rfl⟩, hb⟩
      go_simp
      exact hK (.int .i64 x) W' ⟨x, rfl⟩ hb (hM.up hb)
    | i + 5, hi, _ => exact absurd hi (by omega)
  · intro bb W hM hA hall
    obtain ⟨X, hP4⟩ := (show ∃ x, bb.eval (.tmp 13) = .int .i64 x from hall 4 (by omega) _ _ rfl rfl)
    have hfr := hA.frame [true, true, true, true, true, true, true, true, true, false, false, false, false, false, true, true, true, true, true, true, true, true, true, true, true, true, true, true, true, true, true, true, true, true, true, true, true, true, true, true, true, true, true, true, true, true, true] _ rfl (by kernel_rfl)
    clear hall hA hm1
    obtain ⟨f, hf⟩ : ∃ f : Nat → Value, (fun k => bb.tmps.getD k undef) = f := ⟨_, rfl⟩
    have g13 : f 13 = .int .i64 X := by rw [← hf, ← hP4]; rfl
    rw [hf] at hfr
    clear hf hP4
    subst hfr
    simp only [pickL, g13, Nat.reduceAdd]
    clear g13
    simp only [List.drop_succ_cons, List.drop_zero]
    obtain ⟨bel, ka, kb, kp⟩ := hM
    obtain ⟨a0, a1, a2⟩ := st3 ka
    obtain ⟨b0, b1, b2⟩ := st3 kb
    obtain ⟨p0, p1, -, -⟩ := pt2 kp
    clear ka kb kp
    by_cases hX : X = 0
    · have hXb : (X != 0) = false := by simp [hX]
      go_wp2_with (first
        | (go_at_call 140; refine (side7_any _ _ _ _ _ _ (by assumption) (by assumption) (by assumption) (by assumption) (by assumption)).mono ?_; rintro e w' ⟨⟨r, rfl⟩, hb_⟩; obtain ⟨p, rfl⟩ := grow_of_below hb_; clear hb_)
        | fail)
      all_goals
        go_ret
        exact ⟨⟨_, rfl⟩, bel.trans (Below.mono (by repeat' (first | with_reducible exact Below.refl _ _ | with_reducible exact Nat.le_refl _ | with_reducible assumption | with_reducible refine Go.below_growBy' ?_ ?_ _ | with_reducible refine Below.alloc ?_ ?_ _ | with_reducible refine Below.setCell ?_ ?_ _ | with_reducible refine Below.drew ?_ | with_reducible refine Go.le_alloc ?_ | with_reducible refine Go.le_growBy ?_ | with_reducible refine Go.le_setCell ?_ | with_reducible refine Go.le_drew ?_ | omega | (dsimp only; omega))) bel.size)⟩
    · have hXb : (X != 0) = true := by simp [hX]
      go_wp2_with fail
      go_ret
      exact ⟨⟨_, rfl⟩, bel⟩
set_option maxRecDepth 100000 in
set_option maxHeartbeats 8000000 in
theorem raySpot_any (ax ay ad bx by_ bd px py : Int) (w : World) (f1 : fits ay) (f2 : fits ad) (f4 : fits by_) (f5 : fits bd) (f7 : fits py) :
    Calls Tryz.prog 123 #[.agg #[.int .i64 ax, .int .i64 ay, .int .i64 ad], .agg #[.int .i64 bx, .int .i64 by_, .int .i64 bd], .agg #[.int .i64 px, .int .i64 py]] w fun e w' => RetI e ∧ Below w.heap.size w w' := by
  go_enter Tryz.func123, Tryz.ntmps123
  go_wp2_with (first
    | (go_at_call 121; refine (spotOf_any _ _ _).mono ?_; rintro e w' ⟨rfl, hb_⟩; obtain ⟨p, rfl⟩ := grow_of_below hb_; clear hb_)
    | (go_at_call 141; refine (above_any _ _ _ _ _ _ (by assumption) (by assumption) (by assumption)).mono ?_; rintro e w' ⟨⟨b, rfl⟩, hb_⟩; obtain ⟨p, rfl⟩ := grow_of_below hb_; clear hb_)
    | (go_at_call 139; refine (spotSide_any _ _ _ _ _ _ _ _ _ _).mono ?_; rintro e w' ⟨⟨r, rfl⟩, hb_⟩; obtain ⟨p, rfl⟩ := grow_of_below hb_; clear hb_)
    | fail)
  all_goals
    go_ret
    exact ⟨⟨_, rfl⟩, (by repeat' (first | with_reducible exact Below.refl _ _ | with_reducible exact Nat.le_refl _ | with_reducible assumption | with_reducible refine Go.below_growBy' ?_ ?_ _ | with_reducible refine Below.alloc ?_ ?_ _ | with_reducible refine Below.setCell ?_ ?_ _ | with_reducible refine Below.drew ?_ | with_reducible refine Go.le_alloc ?_ | with_reducible refine Go.le_growBy ?_ | with_reducible refine Go.le_setCell ?_ | with_reducible refine Go.le_drew ?_ | omega | (dsimp only; omega)))⟩
set_option maxRecDepth 100000 in
set_option maxHeartbeats 8000000 in
theorem beyond_any (a0 a1 a2 a3 a4 a5 a6 b0 b1 b2 b3 b4 b5 b6 : Int) (w : World) (f1 : fits a1) (f2 : fits a2) (f4 : fits b1) (f5 : fits b2) :
    Calls Tryz.prog 124 #[.agg #[.int .i64 a0, .int .i64 a1, .int .i64 a2, .int .i64 a3, .int .i64 a4, .int .i64 a5, .int .i64 a6], .agg #[.int .i64 b0, .int .i64 b1, .int .i64 b2, .int .i64 b3, .int .i64 b4, .int .i64 b5, .int .i64 b6]] w fun e w' => RetB e ∧ Below w.heap.size w w' := by
  go_enter Tryz.func124, Tryz.ntmps124
  go_wp2_with (first
    | (go_at_call 142; refine (cmp7_any _ _ _ _ _ (by assumption) (by assumption) (by assumption) (by assumption)).mono ?_; rintro e w' ⟨⟨r, rfl⟩, hb_⟩; obtain ⟨p, rfl⟩ := grow_of_below hb_; clear hb_)
    | (go_at_call 139; refine (spotSide_any _ _ _ _ _ _ _ _ _ _).mono ?_; rintro e w' ⟨⟨r, rfl⟩, hb_⟩; obtain ⟨p, rfl⟩ := grow_of_below hb_; clear hb_)
    | fail)
  all_goals
    go_ret
    exact ⟨⟨_, rfl⟩, (by repeat' (first | with_reducible exact Below.refl _ _ | with_reducible exact Nat.le_refl _ | with_reducible assumption | with_reducible refine Go.below_growBy' ?_ ?_ _ | with_reducible refine Below.alloc ?_ ?_ _ | with_reducible refine Below.setCell ?_ ?_ _ | with_reducible refine Below.drew ?_ | with_reducible refine Go.le_alloc ?_ | with_reducible refine Go.le_growBy ?_ | with_reducible refine Go.le_setCell ?_ | with_reducible refine Go.le_drew ?_ | omega | (dsimp only; omega)))⟩
end Go.Proofs.YtjfdbigkbgolmaaGreatDoor
