/-
  Chapter 10's made maps: way: one more way.
-/
import Derived.Test.YtjfdbigkbgolmaaGreatDoorZL
import Derived.Test.YtjfdbigkbgolmaaGreatDoorZM

namespace Go.Proofs.YtjfdbigkbgolmaaGreatDoor
set_option linter.unusedVariables false
set_option linter.unusedSimpArgs false
open Go.RowKit Go.Shelf
attribute [local go_sem] Oper.semAt_some
attribute [local go_sem ↓] Go.wp_at_zero Go.wp_at_succ

theorem DY.pt0 {n₀ D : Nat} {sv : Value} {xs : List Int} {S0 S : BS} {W0 W : World} {L : OwnL} {T : SlL} {B : Nat} {X Y X' : Int} {t : TypeId} (h : DY n₀ D sv xs S0 W0 S W ((B, #[.int .i64 X, .int .i64 Y], t) :: L) T) (f : fits X') : ∃ X7, fits X7 ∧ DY n₀ D sv xs S0 W0 S (W.setCell ⟨B, 0, none⟩ (.int .i64 X')) ((B, #[.int .i64 X7, .int .i64 Y], t) :: L) T :=
  ⟨X', f, h.set 0 _ (by simp)⟩
theorem DY.pt1 {n₀ D : Nat} {sv : Value} {xs : List Int} {S0 S : BS} {W0 W : World} {L : OwnL} {T : SlL} {B : Nat} {X Y Y' : Int} {t : TypeId} (h : DY n₀ D sv xs S0 W0 S W ((B, #[.int .i64 X, .int .i64 Y], t) :: L) T) (f : fits Y') : ∃ Y7, fits Y7 ∧ DY n₀ D sv xs S0 W0 S (W.setCell ⟨B, 1, none⟩ (.int .i64 Y')) ((B, #[.int .i64 X, .int .i64 Y7], t) :: L) T :=
  ⟨Y', f, h.set 1 _ (by simp)⟩
theorem DY.put {n₀ D : Nat} {sv : Value} {xs : List Int} {S0 S : BS} {W0 W W' : World} {L : OwnL} {T : SlL} {B i : Nat} {c c' : Array Value} {v : Value} {t : TypeId} (h : DY n₀ D sv xs S0 W0 S W ((B, c, t) :: L) T) (hW : W' = W.setCell ⟨B, i, none⟩ v) (hc : c.setIfInBounds i v = c') : DY n₀ D sv xs S0 W0 S W' ((B, c', t) :: L) T := hW ▸ h.set i v hc
theorem DY.wd {n₀ D : Nat} {sv : Value} {xs : List Int} {S0 S : BS} {W0 W W' : World} {L : OwnL} {T : SlL} {B : Nat} {id lev wt d : Int} {lv : Value} {cs ns : ByteArray} {st : Bool} {t : TypeId} (h : DY n₀ D sv xs S0 W0 S W ((B, wyC7 id lv lev cs ns st wt 0, t) :: L) T) (hW : W' = W.setCell ⟨B, 7, none⟩ (.int .i64 d)) (f : fits d) : ∃ d7, fits d7 ∧ DY n₀ D sv xs S0 W0 S W' ((B, wyC7 id lv lev cs ns st wt d7, t) :: L) T :=
  ⟨d, f, h.put hW rfl⟩

def FWy (wr : World) (B6 B7 k M : Nat) (ax ay bx by_ : Int) (i : Nat) (v : Value) (w : World) : Prop :=
  match i with
  | 0 => v = .pointer (some ⟨B6, 0, none⟩)
  | 1 => v = .int .i64 ax
  | 2 => v = .pointer (some ⟨B7, 0, none⟩)
  | 3 => v = .int .i64 bx
  | 4 => v = .pointer (some ⟨B6, 0, none⟩)
  | 5 => v = .int .i64 ax
  | 6 => ∃ x, v = .int .i64 x ∧ fits x
  | 7 => v = .int .i64 (k : Nat)
  | 8 => ∃ x, v = .int .i64 x ∧ fits x
  | 9 => v = .int .i64 (M : Nat)
  | 10 => v = .int .i64 ((M : Nat) + 1)
  | 11 => ∃ x, v = .int .i64 x ∧ fits x
  | 12 => ∃ x, v = .int .i64 x ∧ fits x
  | 13 => v = .pointer (some ⟨B6, 1, none⟩)
  | 14 => v = .int .i64 ay
  | 15 => v = .pointer (some ⟨B7, 1, none⟩)
  | 16 => v = .int .i64 by_
  | 17 => v = .pointer (some ⟨B6, 1, none⟩)
  | 18 => v = .int .i64 ay
  | 19 => ∃ x, v = .int .i64 x ∧ fits x
  | 20 => v = .int .i64 (k : Nat)
  | 21 => ∃ x, v = .int .i64 x ∧ fits x
  | 22 => v = .int .i64 (M : Nat)
  | 23 => v = .int .i64 ((M : Nat) + 1)
  | 24 => ∃ x, v = .int .i64 x ∧ fits x
  | 25 => ∃ x, v = .int .i64 x ∧ fits x
  | 26 => ∃ X Y, v = .agg #[.int .i64 X, .int .i64 Y] ∧ fits X ∧ fits Y
  | 27 => ∃ B, v = .pointer (some ⟨B, 0, none⟩) ∧ wr.heap.size ≤ B ∧ Blk w B #[.int .i64 0, .int .i64 0] 25
  | _ => False
theorem FWy.kept {wr : World} {B6 B7 k M : Nat} {ax ay bx by_ : Int} {i : Nat} {v : Value} {w w' : World} (h : FWy wr B6 B7 k M ax ay bx by_ i v w) (hg : Below w.heap.size w w') : FWy wr B6 B7 k M ax ay bx by_ i v w' := by
  unfold FWy at *
  split at h
  all_goals first | exact h | (exact h) | (obtain ⟨B, h1, h2, h3⟩ := h; exact ⟨B, h1, h2, h3.below hg h3.lt⟩)
def WayR (n₀ D : Nat) (sv : Value) (xs : List Int) (S : BS) (w : World) (m M BW B6 B7 : Nat) (lev ax ay bx by_ : Int) (ov kk : Value) (wr : World) : Prop :=
  ∃ (k : Nat) (S' : BS) (lv : Value) (n : Nat), 1 ≤ k ∧ k ≤ M + 1 ∧ kk = .int .i64 (k : Nat) ∧ n ≤ k ∧ DY n₀ D sv xs S w S' wr [(BW, wyC7 (41 + m) lv lev ⟨#[]⟩ ⟨#[]⟩ false 0 0, 62), (B6, #[.int .i64 ax, .int .i64 ay], 25), (B7, #[.int .i64 bx, .int .i64 by_], 25)] [(25, lv, n), (62, ov, m)]


set_option maxRecDepth 100000 in
set_option maxHeartbeats 8000000 in
theorem way_any (n₀ D : Nat) (sv : Value) (xs : List Int) (S : BS) (w : World) (h : TD S n₀ D sv xs w) (ov : Value) (m : Nat) (hso : SL S w 62 ov m) (hm : m ≤ 100) (ax ay bx by_ lev : Int) (fa : fits ax) (fb : fits ay) (fc : fits bx) (fd : fits by_) (fl : fits lev) :
    Calls Tryz.prog 65 #[ov, .agg #[.int .i64 ax, .int .i64 ay], .agg #[.int .i64 bx, .int .i64 by_], .int .i64 lev, .pointer (some ⟨D, 0, none⟩)] w fun e w' => ∃ S' v, e = .returned v ∧ SL S' w' 62 v (m + 1) ∧ TD S' n₀ D sv xs w' ∧ Ev (oneB D) S w S' w' := by
  obtain ⟨oa, oc, rfl, hoc⟩ := hso.form
  go_enter Tryz.func65, Tryz.ntmps65
  go_upto_region 2 with fail
  refine wp_world (fun W1 hW1 => ?_)
  obtain ⟨B6, hB6⟩ : ∃ b, w.heap.size = b := ⟨_, rfl⟩
  obtain ⟨B7, hB7⟩ : ∃ b, w.heap.size + 1 = b := ⟨_, rfl⟩
  obtain ⟨BL, hBL⟩ : ∃ b, w.heap.size + 1 + 1 = b := ⟨_, rfl⟩
  obtain ⟨BW, hBW⟩ : ∃ b, w.heap.size + 1 + 1 + 1 = b := ⟨_, rfl⟩
  obtain ⟨S1, hd⟩ : ∃ S1, DY n₀ D sv xs S w S1 W1 [(BW, wyC7 (41 + m) (.slice (some ⟨BL, 0, none⟩) 1 1) lev ⟨#[]⟩ ⟨#[]⟩ false 0 0, 62), (B6, #[.int .i64 ax, .int .i64 ay], 25), (B7, #[.int .i64 bx, .int .i64 by_], 25)] [(25, .slice (some ⟨BL, 0, none⟩) 1 1, 1), (62, .slice oa m oc, m)] := by
    have h1 := ((((h.dw.add hso).box #[.int .i64 ax, .int .i64 ay] 25).box #[.int .i64 bx, .int .i64 by_] 25).swap.cellT (tb_point fa fb))
    have h2 := (h1.add (SL.blk (.inr rfl) (Blk.new _ _ _) (by show 1 * 2 ≤ 2; omega))).box (wyC7 (41 + m) (.slice (some ⟨BL, 0, none⟩) 1 1) lev ⟨#[]⟩ ⟨#[]⟩ false 0 0) 62
    simp only [World.size_alloc] at h2
    rw [hBW, hBL, hB7, hB6] at h2
    rw [hW1, hBL]
    exact ⟨_, h2⟩
  rw [hBW, hBL, hB7, hB6]
  clear hW1 hBW hBL hB7 hB6
  obtain ⟨lv, hlv⟩ : ∃ v, Value.slice (some ⟨BL, 0, none⟩) 1 1 = v := ⟨_, rfl⟩
  rw [hlv] at hd
  clear hlv
  go_wp2_with (first
    | (go_at_call 22; (with_reducible refine (hd.call 3 (by omega) (by omega)).mono ?_); rintro e W2 ⟨many, rfl, m0, m1, hd2⟩)
    | fail)
  obtain ⟨M, rfl⟩ : ∃ M : Nat, many = M := ⟨many.toNat, by omega⟩
  go_loopw [13] (fun kk wr => WayR n₀ D sv xs S w m M BW B6 B7 lev ax ay bx by_ (.slice oa m oc) kk wr) (fun kk _ => M + 1 - (intOf kk).toNat)
  case atStart => exact ⟨1, S1, lv, 1, by omega, by omega, rfl, by omega, hd2⟩
  case round =>
    clear hd hd2 lv
    obtain ⟨ov, hov⟩ : ∃ v, Value.slice oa m oc = v := ⟨_, rfl⟩
    rw [hov] at hrel
    rw [hov]
    obtain ⟨k, S', lv, n, hk1, hkM, rfl, hn, hd⟩ := hrel
    by_cases hlt : k ≤ M
    · have hltI : (k : Int) ≤ (M : Int) := by omega
      have hM0 : ¬ (M : Int) + 1 = 0 := by omega
      have hMw : IntKind.i64.wrap ((M : Int) + 1) = M + 1 := wrap_in7 (by omega) (by omega)
      have k6 := hd.b1
      have k7 := hd.b2
      obtain ⟨la, lc, rfl, -⟩ := hd.s0.form
      obtain ⟨lv, hlv⟩ : ∃ v, Value.slice la n lc = v := ⟨_, rfl⟩
      rw [hlv] at hd
      go_upto_region 6 with fail
      refine Go.wp_region_rel 28 (by kernel_rfl) (by kernel_rfl) (fun _ W => WG7 wr B6 B7 ax ay bx by_ W) (fun w w' => Below w.heap.size w w') (FWy wr B6 B7 k M ax ay bx by_) (fun _ _ _ _ h g => h.kept g) ⟨(Below.refl _ _).drew, k6.drew, k7.drew⟩ ?_ ?_
      · clear hd k6 k7 h hso
        intro i o hi ho c bb W hc hM hA hD K hK
        match i, hi, ho with
        | 0, _, ho =>
          cases ho
          have f6 : bb.tmps[6]?.getD undef = .pointer (some ⟨B6, 0, none⟩) := evalAt (v := .pointer (some ⟨B6, 0, none⟩)) (hA.at_ (k := 6) (by kernel_rfl))
          go_simp
          exact hK (.pointer (some ⟨B6, 0, none⟩)) W rfl (Below.refl _ _) hM
        | 1, _, ho =>
          cases ho
          have f30 : bb.tmps[30]?.getD undef = .pointer (some ⟨B6, 0, none⟩) := evalAt (v := .pointer (some ⟨B6, 0, none⟩)) (dep_at hD 0 30 (by kernel_rfl) rfl rfl)
          have z0 : W.cell? ⟨B6, 0, none⟩ = some (.int .i64 ax) := hM.a.cell 0
          go_simp
          exact hK (.int .i64 ax) W rfl (Below.refl _ _) hM
        | 2, _, ho =>
          cases ho
          have f7 : bb.tmps[7]?.getD undef = .pointer (some ⟨B7, 0, none⟩) := evalAt (v := .pointer (some ⟨B7, 0, none⟩)) (hA.at_ (k := 7) (by kernel_rfl))
          go_simp
          exact hK (.pointer (some ⟨B7, 0, none⟩)) W rfl (Below.refl _ _) hM
        | 3, _, ho =>
          cases ho
          have f32 : bb.tmps[32]?.getD undef = .pointer (some ⟨B7, 0, none⟩) := evalAt (v := .pointer (some ⟨B7, 0, none⟩)) (dep_at hD 2 32 (by kernel_rfl) rfl rfl)
          have z0 : W.cell? ⟨B7, 0, none⟩ = some (.int .i64 bx) := hM.u.cell 0
          go_simp
          exact hK (.int .i64 bx) W rfl (Below.refl _ _) hM
        | 4, _, ho =>
          cases ho
          have f6 : bb.tmps[6]?.getD undef = .pointer (some ⟨B6, 0, none⟩) := evalAt (v := .pointer (some ⟨B6, 0, none⟩)) (hA.at_ (k := 6) (by kernel_rfl))
          go_simp
          exact hK (.pointer (some ⟨B6, 0, none⟩)) W rfl (Below.refl _ _) hM
        | 5, _, ho =>
          cases ho
          have f34 : bb.tmps[34]?.getD undef = .pointer (some ⟨B6, 0, none⟩) := evalAt (v := .pointer (some ⟨B6, 0, none⟩)) (dep_at hD 4 34 (by kernel_rfl) rfl rfl)
          have z0 : W.cell? ⟨B6, 0, none⟩ = some (.int .i64 ax) := hM.a.cell 0
          go_simp
          exact hK (.int .i64 ax) W rfl (Below.refl _ _) hM
        | 6, _, ho =>
          cases ho
          have f33 : bb.tmps[33]?.getD undef = .int .i64 bx := evalAt (v := .int .i64 bx) (dep_at hD 3 33 (by kernel_rfl) rfl rfl)
          have f35 : bb.tmps[35]?.getD undef = .int .i64 ax := evalAt (v := .int .i64 ax) (dep_at hD 5 35 (by kernel_rfl) rfl rfl)
          go_simp
          exact hK _ W ⟨_, rfl, (by first | with_reducible exact fits_w64 _ | with_reducible exact fits_wrap _ | with_reducible assumption | exact ⟨by omega, by omega⟩)⟩ (Below.refl _ _) hM
        | 7, _, ho =>
          cases ho
          have f13 : bb.tmps[13]?.getD undef = .int .i64 (k : Nat) := evalAt (v := .int .i64 (k : Nat)) (hA.at_ (k := 13) (by kernel_rfl))
          go_simp
          exact hK (.int .i64 (k : Nat)) W rfl (Below.refl _ _) hM
        | 8, _, ho =>
          cases ho
          have f36 := dep_at hD 6 36 (by kernel_rfl) rfl rfl
          obtain ⟨x36, e36, g36⟩ := f36
          have f36 := evalAt e36
          have f37 : bb.tmps[37]?.getD undef = .int .i64 (k : Nat) := evalAt (v := .int .i64 (k : Nat)) (dep_at hD 7 37 (by kernel_rfl) rfl rfl)
          go_simp
          exact hK _ W ⟨_, rfl, (by first | with_reducible exact fits_w64 _ | with_reducible exact fits_wrap _ | with_reducible assumption | exact ⟨by omega, by omega⟩)⟩ (Below.refl _ _) hM
        | 9, _, ho =>
          cases ho
          have f12 : bb.tmps[12]?.getD undef = .int .i64 (M : Nat) := evalAt (v := .int .i64 (M : Nat)) (hA.at_ (k := 12) (by kernel_rfl))
          go_simp
          exact hK (.int .i64 (M : Nat)) W rfl (Below.refl _ _) hM
        | 10, _, ho =>
          cases ho
          have f39 : bb.tmps[39]?.getD undef = .int .i64 (M : Nat) := evalAt (v := .int .i64 (M : Nat)) (dep_at hD 9 39 (by kernel_rfl) rfl rfl)
          go_simp
          exact hK (.int .i64 ((M : Nat) + 1)) W rfl (Below.refl _ _) hM
        | 11, _, ho =>
          cases ho
          have f38 := dep_at hD 8 38 (by kernel_rfl) rfl rfl
          obtain ⟨x38, e38, g38⟩ := f38
          have f38 := evalAt e38
          have f40 : bb.tmps[40]?.getD undef = .int .i64 ((M : Nat) + 1) := evalAt (v := .int .i64 ((M : Nat) + 1)) (dep_at hD 10 40 (by kernel_rfl) rfl rfl)
          go_simp
          exact hK _ W ⟨_, rfl, (by first | with_reducible exact fits_w64 _ | with_reducible exact fits_wrap _ | with_reducible assumption | exact ⟨by omega, by omega⟩)⟩ (Below.refl _ _) hM
        | 12, _, ho =>
          cases ho
          have f31 : bb.tmps[31]?.getD undef = .int .i64 ax := evalAt (v := .int .i64 ax) (dep_at hD 1 31 (by kernel_rfl) rfl rfl)
          have f41 := dep_at hD 11 41 (by kernel_rfl) rfl rfl
          obtain ⟨x41, e41, g41⟩ := f41
          have f41 := evalAt e41
          go_simp
          exact hK _ W ⟨_, rfl, (by first | with_reducible exact fits_w64 _ | with_reducible exact fits_wrap _ | with_reducible assumption | exact ⟨by omega, by omega⟩)⟩ (Below.refl _ _) hM
        | 13, _, ho =>
          cases ho
          have f6 : bb.tmps[6]?.getD undef = .pointer (some ⟨B6, 0, none⟩) := evalAt (v := .pointer (some ⟨B6, 0, none⟩)) (hA.at_ (k := 6) (by kernel_rfl))
          go_simp
          exact hK (.pointer (some ⟨B6, 1, none⟩)) W rfl (Below.refl _ _) hM
        | 14, _, ho =>
          cases ho
          have f43 : bb.tmps[43]?.getD undef = .pointer (some ⟨B6, 1, none⟩) := evalAt (v := .pointer (some ⟨B6, 1, none⟩)) (dep_at hD 13 43 (by kernel_rfl) rfl rfl)
          have z0 : W.cell? ⟨B6, 1, none⟩ = some (.int .i64 ay) := hM.a.cell 1
          go_simp
          exact hK (.int .i64 ay) W rfl (Below.refl _ _) hM
        | 15, _, ho =>
          cases ho
          have f7 : bb.tmps[7]?.getD undef = .pointer (some ⟨B7, 0, none⟩) := evalAt (v := .pointer (some ⟨B7, 0, none⟩)) (hA.at_ (k := 7) (by kernel_rfl))
          go_simp
          exact hK (.pointer (some ⟨B7, 1, none⟩)) W rfl (Below.refl _ _) hM
        | 16, _, ho =>
          cases ho
          have f45 : bb.tmps[45]?.getD undef = .pointer (some ⟨B7, 1, none⟩) := evalAt (v := .pointer (some ⟨B7, 1, none⟩)) (dep_at hD 15 45 (by kernel_rfl) rfl rfl)
          have z0 : W.cell? ⟨B7, 1, none⟩ = some (.int .i64 by_) := hM.u.cell 1
          go_simp
          exact hK (.int .i64 by_) W rfl (Below.refl _ _) hM
        | 17, _, ho =>
          cases ho
          have f6 : bb.tmps[6]?.getD undef = .pointer (some ⟨B6, 0, none⟩) := evalAt (v := .pointer (some ⟨B6, 0, none⟩)) (hA.at_ (k := 6) (by kernel_rfl))
          go_simp
          exact hK (.pointer (some ⟨B6, 1, none⟩)) W rfl (Below.refl _ _) hM
        | 18, _, ho =>
          cases ho
          have f47 : bb.tmps[47]?.getD undef = .pointer (some ⟨B6, 1, none⟩) := evalAt (v := .pointer (some ⟨B6, 1, none⟩)) (dep_at hD 17 47 (by kernel_rfl) rfl rfl)
          have z0 : W.cell? ⟨B6, 1, none⟩ = some (.int .i64 ay) := hM.a.cell 1
          go_simp
          exact hK (.int .i64 ay) W rfl (Below.refl _ _) hM
        | 19, _, ho =>
          cases ho
          have f46 : bb.tmps[46]?.getD undef = .int .i64 by_ := evalAt (v := .int .i64 by_) (dep_at hD 16 46 (by kernel_rfl) rfl rfl)
          have f48 : bb.tmps[48]?.getD undef = .int .i64 ay := evalAt (v := .int .i64 ay) (dep_at hD 18 48 (by kernel_rfl) rfl rfl)
          go_simp
          exact hK _ W ⟨_, rfl, (by first | with_reducible exact fits_w64 _ | with_reducible exact fits_wrap _ | with_reducible assumption | exact ⟨by omega, by omega⟩)⟩ (Below.refl _ _) hM
        | 20, _, ho =>
          cases ho
          have f13 : bb.tmps[13]?.getD undef = .int .i64 (k : Nat) := evalAt (v := .int .i64 (k : Nat)) (hA.at_ (k := 13) (by kernel_rfl))
          go_simp
          exact hK (.int .i64 (k : Nat)) W rfl (Below.refl _ _) hM
        | 21, _, ho =>
          cases ho
          have f49 := dep_at hD 19 49 (by kernel_rfl) rfl rfl
          obtain ⟨x49, e49, g49⟩ := f49
          have f49 := evalAt e49
          have f50 : bb.tmps[50]?.getD undef = .int .i64 (k : Nat) := evalAt (v := .int .i64 (k : Nat)) (dep_at hD 20 50 (by kernel_rfl) rfl rfl)
          go_simp
          exact hK _ W ⟨_, rfl, (by first | with_reducible exact fits_w64 _ | with_reducible exact fits_wrap _ | with_reducible assumption | exact ⟨by omega, by omega⟩)⟩ (Below.refl _ _) hM
        | 22, _, ho =>
          cases ho
          have f12 : bb.tmps[12]?.getD undef = .int .i64 (M : Nat) := evalAt (v := .int .i64 (M : Nat)) (hA.at_ (k := 12) (by kernel_rfl))
          go_simp
          exact hK (.int .i64 (M : Nat)) W rfl (Below.refl _ _) hM
        | 23, _, ho =>
          cases ho
          have f52 : bb.tmps[52]?.getD undef = .int .i64 (M : Nat) := evalAt (v := .int .i64 (M : Nat)) (dep_at hD 22 52 (by kernel_rfl) rfl rfl)
          go_simp
          exact hK (.int .i64 ((M : Nat) + 1)) W rfl (Below.refl _ _) hM
        | 24, _, ho =>
          cases ho
          have f51 := dep_at hD 21 51 (by kernel_rfl) rfl rfl
          obtain ⟨x51, e51, g51⟩ := f51
          have f51 := evalAt e51
          have f53 : bb.tmps[53]?.getD undef = .int .i64 ((M : Nat) + 1) := evalAt (v := .int .i64 ((M : Nat) + 1)) (dep_at hD 23 53 (by kernel_rfl) rfl rfl)
          go_simp
          exact hK _ W ⟨_, rfl, (by first | with_reducible exact fits_w64 _ | with_reducible exact fits_wrap _ | with_reducible assumption | exact ⟨by omega, by omega⟩)⟩ (Below.refl _ _) hM
        | 25, _, ho =>
          cases ho
          have f44 : bb.tmps[44]?.getD undef = .int .i64 ay := evalAt (v := .int .i64 ay) (dep_at hD 14 44 (by kernel_rfl) rfl rfl)
          have f54 := dep_at hD 24 54 (by kernel_rfl) rfl rfl
          obtain ⟨x54, e54, g54⟩ := f54
          have f54 := evalAt e54
          go_simp
          exact hK _ W ⟨_, rfl, (by first | with_reducible exact fits_w64 _ | with_reducible exact fits_wrap _ | with_reducible assumption | exact ⟨by omega, by omega⟩)⟩ (Below.refl _ _) hM
        | 26, _, ho =>
          cases ho
          have f42 := dep_at hD 12 42 (by kernel_rfl) rfl rfl
          obtain ⟨x42, e42, g42⟩ := f42
          have f42 := evalAt e42
          have f55 := dep_at hD 25 55 (by kernel_rfl) rfl rfl
          obtain ⟨x55, e55, g55⟩ := f55
          have f55 := evalAt e55
          go_simp
          exact hK _ W ⟨_, _, rfl, g42, g55⟩ (Below.refl _ _) hM
        | 27, _, ho =>
          cases ho
          go_simp
          exact hK (.pointer (some ⟨W.heap.size, 0, none⟩)) _ ⟨_, rfl, hM.b.size, Blk.new _ _ _⟩ ((Below.refl _ _).alloc (Nat.le_refl _) _) (hM.up ((Below.refl _ _).alloc (Nat.le_refl _) _))
        | i + 28, hi, _ => exact absurd hi (by omega)
      · intro bb W hM hA hall
        obtain ⟨X, Y, hP26, fX, fY⟩ := (show ∃ X Y, bb.eval (.tmp 56) = .agg #[.int .i64 X, .int .i64 Y] ∧ fits X ∧ fits Y from hall 26 (by omega) _ _ rfl rfl)
        obtain ⟨B14, hP27, hBl, kB0⟩ := (show ∃ B, bb.eval (.tmp 14) = .pointer (some ⟨B, 0, none⟩) ∧ wr.heap.size ≤ B ∧ Blk W B #[.int .i64 0, .int .i64 0] 25 from hall 27 (by omega) _ _ rfl rfl)
        have hfr := hA.frame [true, true, true, true, true, true, true, true, true, true, true, true, true, true, false, true, true, true, true, true, true, true, true, true, true, true, true, true, true, true, false, false, false, false, false, false, false, false, false, false, false, false, false, false, false, false, false, false, false, false, false, false, false, false, false, false, false, true, true, true, true, true, true, true, true, true, true, true, true, true, true, true, true, true, true, true, true, true, true, true, true, true, true, true, true, true, true, true, true, true, true, true, true, true, true, true, true, true, true, true, true, true, true, true, true, true, true, true, true, true, true, true, true, true, true, true, true, true, true, true, true, true, true] _ rfl (by kernel_rfl)
        clear hall hA
        obtain ⟨f, hf⟩ : ∃ f : Nat → Value, (fun k => bb.tmps.getD k undef) = f := ⟨_, rfl⟩
        have g56 : f 56 = .agg #[.int .i64 X, .int .i64 Y] := by rw [← hf, ← hP26]; rfl
        have g14 : f 14 = .pointer (some ⟨B14, 0, none⟩) := by rw [← hf, ← hP27]; rfl
        rw [hf] at hfr
        clear hf hP26 hP27
        subst hfr
        simp only [pickL, g56, g14, Nat.reduceAdd]
        clear g56 g14
        simp only [List.drop_succ_cons, List.drop_zero]
        refine wpList_store_blk (by rfl) _ _ _ (by rfl) B14 #[.int .i64 X, .int .i64 Y] (by rfl) (by rfl) _ _ kB0 (by rfl) (by rfl) (by simp [Value.oneCell']) ?_
        intro W5 kP hg5
        have hd5 := hd.fresh (hM.b.trans (Below.of_grown hg5 hM.b.size (fun r e => by cases e; exact hBl))) hBl kP
        clear hM kB0 hg5 kP hBl hd k6 k7
        go_upto_region 8 with (first
          | (go_at_call 22; (with_reducible refine (hd5.call 17 (by omega) (by omega)).mono ?_); rintro e W6 ⟨dr, rfl, r0, r1, hd6⟩)
          | fail)
        obtain ⟨a0, a1, -, -⟩ := pt2 hd6.b2
        obtain ⟨b0, b1, -, -⟩ := pt2 hd6.b3
        clear hd5
        by_cases hy : ay = by_
        · subst hy
          obtain ⟨p0, p1, fr0, fr1⟩ := pt2 hd6.b0
          go_upto_region 10 with fail
          refine wp_world (fun W8 hW8 => ?_)
          obtain ⟨Y7, fY7, hd8⟩ := hd6.pt1 (fits_w64 (Y + (dr - 8)))
          rw [← hW8] at hd8
          clear hW8 p0 p1 fr0 fr1 a0 a1 b0 b1 hd6
          by_cases hx : ax = bx
          · subst hx
            obtain ⟨p0, p1, fr0, fr1⟩ := pt2 hd8.b0
            obtain ⟨a0, a1, -, -⟩ := pt2 hd8.b2
            obtain ⟨b0, b1, -, -⟩ := pt2 hd8.b3
            go_upto_region 12 with fail
            refine wp_world (fun W9 hW9 => ?_)
            obtain ⟨X7, fX7, hd7⟩ := hd8.pt0 (fits_w64 (X + (dr - 8)))
            rw [← hW9] at hd7
            clear hW9 p0 p1 fr0 fr1 a0 a1 b0 b1 hd8
            obtain ⟨p0, p1, -, -⟩ := pt2 hd7.b0
            obtain ⟨y0, y1, y2, y3, y4, y5, y6, y7⟩ := cells8 hd7.b1
            go_wp2_with (first
              | (at_builtin; refine wpList_append_new hd7.tw (by rfl) _ _ 60 (by rfl) Tryz.underlying60 et_point (by rfl) hd7.s0 (by rfl) rfl (tb_point fX7 fY7) rfl (by omega) ?_; intro v9 S9 w9 hsl9 he9; obtain ⟨a9, c9, rfl, -⟩ := hsl9.form; have hd8 := (hd7.evo he9).tail; obtain ⟨z0, z1, z2, z3, z4, z5, z6, z7⟩ := cells8 hd8.b0; have zf := hd8.b0.frozen 1)
              | fail)
            have hd9 := ((hd8.tailT.add hsl9).set 1 (.slice a9 (n + 1) c9) (c' := wyC7 (41 + m) (.slice a9 (n + 1) c9) lev ⟨#[]⟩ ⟨#[]⟩ false 0 0) (by simp))
            go_roundw
            case rel => exact ⟨k + 1, S9, _, n + 1, by omega, by omega, by go_num, by omega, hd9⟩
            case measure => simp [intOf]; omega
          · have hxb : (ax == bx) = false := by simpa using hx
            obtain ⟨a0, a1, -, -⟩ := pt2 hd8.b2
            obtain ⟨b0, b1, -, -⟩ := pt2 hd8.b3
            go_upto_region 12 with fail
            clear a0 a1 b0 b1
            have hd7 := hd8
            have fX7 := fX
            clear hd8
            obtain ⟨p0, p1, -, -⟩ := pt2 hd7.b0
            obtain ⟨y0, y1, y2, y3, y4, y5, y6, y7⟩ := cells8 hd7.b1
            go_wp2_with (first
              | (at_builtin; refine wpList_append_new hd7.tw (by rfl) _ _ 60 (by rfl) Tryz.underlying60 et_point (by rfl) hd7.s0 (by rfl) rfl (tb_point fX7 fY7) rfl (by omega) ?_; intro v9 S9 w9 hsl9 he9; obtain ⟨a9, c9, rfl, -⟩ := hsl9.form; have hd8 := (hd7.evo he9).tail; obtain ⟨z0, z1, z2, z3, z4, z5, z6, z7⟩ := cells8 hd8.b0; have zf := hd8.b0.frozen 1)
              | fail)
            have hd9 := ((hd8.tailT.add hsl9).set 1 (.slice a9 (n + 1) c9) (c' := wyC7 (41 + m) (.slice a9 (n + 1) c9) lev ⟨#[]⟩ ⟨#[]⟩ false 0 0) (by simp))
            go_roundw
            case rel => exact ⟨k + 1, S9, _, n + 1, by omega, by omega, by go_num, by omega, hd9⟩
            case measure => simp [intOf]; omega
        · have hyb : (ay == by_) = false := by simpa using hy
          go_upto_region 10 with fail
          clear a0 a1 b0 b1
          have hd8 := hd6
          have fY7 := fY
          clear hd6
          obtain ⟨Y7, hY7⟩ : ∃ y, y = Y := ⟨_, rfl⟩
          rw [← hY7] at fY7 hd8
          clear hY7
          by_cases hx : ax = bx
          · subst hx
            obtain ⟨p0, p1, fr0, fr1⟩ := pt2 hd8.b0
            obtain ⟨a0, a1, -, -⟩ := pt2 hd8.b2
            obtain ⟨b0, b1, -, -⟩ := pt2 hd8.b3
            go_upto_region 12 with fail
            refine wp_world (fun W9 hW9 => ?_)
            obtain ⟨X7, fX7, hd7⟩ := hd8.pt0 (fits_w64 (X + (dr - 8)))
            rw [← hW9] at hd7
            clear hW9 p0 p1 fr0 fr1 a0 a1 b0 b1 hd8
            obtain ⟨p0, p1, -, -⟩ := pt2 hd7.b0
            obtain ⟨y0, y1, y2, y3, y4, y5, y6, y7⟩ := cells8 hd7.b1
            go_wp2_with (first
              | (at_builtin; refine wpList_append_new hd7.tw (by rfl) _ _ 60 (by rfl) Tryz.underlying60 et_point (by rfl) hd7.s0 (by rfl) rfl (tb_point fX7 fY7) rfl (by omega) ?_; intro v9 S9 w9 hsl9 he9; obtain ⟨a9, c9, rfl, -⟩ := hsl9.form; have hd8 := (hd7.evo he9).tail; obtain ⟨z0, z1, z2, z3, z4, z5, z6, z7⟩ := cells8 hd8.b0; have zf := hd8.b0.frozen 1)
              | fail)
            have hd9 := ((hd8.tailT.add hsl9).set 1 (.slice a9 (n + 1) c9) (c' := wyC7 (41 + m) (.slice a9 (n + 1) c9) lev ⟨#[]⟩ ⟨#[]⟩ false 0 0) (by simp))
            go_roundw
            case rel => exact ⟨k + 1, S9, _, n + 1, by omega, by omega, by go_num, by omega, hd9⟩
            case measure => simp [intOf]; omega
          · have hxb : (ax == bx) = false := by simpa using hx
            obtain ⟨a0, a1, -, -⟩ := pt2 hd8.b2
            obtain ⟨b0, b1, -, -⟩ := pt2 hd8.b3
            go_upto_region 12 with fail
            clear a0 a1 b0 b1
            have hd7 := hd8
            have fX7 := fX
            clear hd8
            obtain ⟨p0, p1, -, -⟩ := pt2 hd7.b0
            obtain ⟨y0, y1, y2, y3, y4, y5, y6, y7⟩ := cells8 hd7.b1
            go_wp2_with (first
              | (at_builtin; refine wpList_append_new hd7.tw (by rfl) _ _ 60 (by rfl) Tryz.underlying60 et_point (by rfl) hd7.s0 (by rfl) rfl (tb_point fX7 fY7) rfl (by omega) ?_; intro v9 S9 w9 hsl9 he9; obtain ⟨a9, c9, rfl, -⟩ := hsl9.form; have hd8 := (hd7.evo he9).tail; obtain ⟨z0, z1, z2, z3, z4, z5, z6, z7⟩ := cells8 hd8.b0; have zf := hd8.b0.frozen 1)
              | fail)
            have hd9 := ((hd8.tailT.add hsl9).set 1 (.slice a9 (n + 1) c9) (c' := wyC7 (41 + m) (.slice a9 (n + 1) c9) lev ⟨#[]⟩ ⟨#[]⟩ false 0 0) (by simp))
            go_roundw
            case rel => exact ⟨k + 1, S9, _, n + 1, by omega, by omega, by go_num, by omega, hd9⟩
            case measure => simp [intOf]; omega
    · have hge : ¬ (k : Int) ≤ (M : Int) := by omega
      have hn4 : n ≤ 4 := by omega
      clear hlt hk1 hkM hn
      obtain ⟨b0, b1, -, -⟩ := pt2 hd.b2
      obtain ⟨y0, y1, y2, y3, y4, y5, y6, y7⟩ := cells8 hd.b0
      go_upto_region 14 with (first
        | (at_builtin; refine wpList_append_new hd.tw (by rfl) _ _ 60 (by rfl) Tryz.underlying60 et_point (by rfl) hd.s0 (by rfl) rfl (tb_point fc fd) rfl (by omega) ?_; intro v9 S9 w9 hsl9 he9; obtain ⟨a9, c9, rfl, -⟩ := hsl9.form; have hd8 := hd.evo he9; obtain ⟨z0, z1, z2, z3, z4, z5, z6, z7⟩ := cells8 hd8.b0; have zf := hd8.b0.frozen 1)
        | fail)
      refine wp_world (fun WA hWA => ?_)
      have hdA := (hd8.tailT.add hsl9).put hWA (c' := wyC7 (41 + m) (.slice a9 (n + 1) c9) lev ⟨#[]⟩ ⟨#[]⟩ false 0 0) rfl
      clear hd hd8 hsl9 he9 hWA z0 z1 z2 z3 z4 z5 z6 z7 zf b0 b1 y0 y1 y2 y3 y4 y5 y6 y7
      have st1 : Strs #[.string ⟨#[112, 97, 116, 104]⟩, .string ⟨#[114, 111, 97, 100]⟩] := strs_of [⟨#[112, 97, 116, 104]⟩, ⟨#[114, 111, 97, 100]⟩] (by decide)
      go_upto_region 15 with (first
        | (go_at_call 22; (with_reducible refine ((hdA.box _ _).call 2 (by omega) (by omega)).mono ?_); rintro e Wb ⟨q, rfl, q0, q1, hb⟩; obtain ⟨q, rfl⟩ := Int.eq_ofNat_of_zero_le q0; obtain ⟨s1, cs1, hs1⟩ := st1.at_ hb.b0 (q := q) (by simp; omega); have hdB := hb.tail; obtain ⟨z0, z1, z2, z3, z4, z5, z6, z7⟩ := cells8 hdB.b0; have zf := hdB.b0.frozen 3)
        | fail)
      refine wp_world (fun WC hWC => ?_)
      have hdC := hdB.put hWC (c' := wyC7 (41 + m) (.slice a9 (n + 1) c9) lev s1 ⟨#[]⟩ false 0 0) rfl
      clear hdA hdB hb hWC z0 z1 z2 z3 z4 z5 z6 z7 zf cs1 st1
      have st2 : Strs #[.string ⟨#[]⟩, .string ⟨#[]⟩, .string ⟨#[82, 105, 110, 103]⟩, .string ⟨#[79, 108, 100, 32, 87, 97, 121]⟩] := strs_of [⟨#[]⟩, ⟨#[]⟩, ⟨#[82, 105, 110, 103]⟩, ⟨#[79, 108, 100, 32, 87, 97, 121]⟩] (by decide)
      go_upto_region 16 with (first
        | (go_at_call 22; (with_reducible refine ((hdC.box _ _).call 4 (by omega) (by omega)).mono ?_); rintro e Wd ⟨q', rfl, q'0, q'1, hd⟩; obtain ⟨q', rfl⟩ := Int.eq_ofNat_of_zero_le q'0; obtain ⟨s2, cs2, hs2⟩ := st2.at_ hd.b0 (q := q') (by simp; omega); have hdD := hd.tail; obtain ⟨z0, z1, z2, z3, z4, z5, z6, z7⟩ := cells8 hdD.b0; have zf := hdD.b0.frozen 4)
        | fail)
      refine wp_world (fun WE hWE => ?_)
      have hdE := hdD.put hWE (c' := wyC7 (41 + m) (.slice a9 (n + 1) c9) lev s1 s2 false 0 0) rfl
      clear hdC hdD hd hWE z0 z1 z2 z3 z4 z5 z6 z7 zf cs2 st2
      go_upto_region 17 with (first
        | (go_at_call 22; (with_reducible refine (hdE.call 4 (by omega) (by omega)).mono ?_); rintro e Wf ⟨s, rfl, g0, g1, hdF⟩; obtain ⟨z0, z1, z2, z3, z4, z5, z6, z7⟩ := cells8 hdF.b0; have zf := hdF.b0.frozen 5)
        | fail)
      refine wp_world (fun WG hWG => ?_)
      have hdG := hdF.put hWG (c' := wyC7 (41 + m) (.slice a9 (n + 1) c9) lev s1 s2 (s == 0) 0 0) rfl
      clear hdE hdF hWG z0 z1 z2 z3 z4 z5 z6 z7 zf
      obtain ⟨sb, hsb⟩ : ∃ b, (s == 0) = b := ⟨_, rfl⟩
      rw [hsb] at hdG
      go_upto_region 18 with (first
        | (go_at_call 22; (with_reducible refine (hdG.call 60 (by omega) (by omega)).mono ?_); rintro e Wh ⟨t, rfl, t0, t1, hdH⟩; obtain ⟨z0, z1, z2, z3, z4, z5, z6, z7⟩ := cells8 hdH.b0; have zf := hdH.b0.frozen 6)
        | fail)
      refine wp_world (fun WI hWI => ?_)
      have hdI := hdH.put hWI (c' := wyC7 (41 + m) (.slice a9 (n + 1) c9) lev s1 s2 sb (1 + t) 0) rfl
      clear hdG hdH hWI z0 z1 z2 z3 z4 z5 z6 z7 zf
      go_upto_region 19 with (first
        | (go_at_call 22; (with_reducible refine (hdI.call 3 (by omega) (by omega)).mono ?_); rintro e Wj ⟨x, rfl, x0, x1, hdJ⟩)
        | (go_at_call 22; (with_reducible refine (hdJ.call 2 (by omega) (by omega)).mono ?_); rintro e Wk ⟨y, rfl, y0, y1, hdK⟩; obtain ⟨z0, z1, z2, z3, z4, z5, z6, z7⟩ := cells8 hdK.b0; have zf := hdK.b0.frozen 7)
        | fail)
      refine wp_world (fun WL hWL => ?_)
      obtain ⟨d7, f7, hdL⟩ := hdK.wd hWL (by first | with_reducible exact fits_w64 _ | with_reducible exact fits_wrap _ | with_reducible assumption | exact ⟨by omega, by omega⟩)
      clear hdI hdJ hdK hWL z0 z1 z2 z3 z4 z5 z6 z7 zf
      obtain ⟨z0, z1, z2, z3, z4, z5, z6, z7⟩ := cells8 hdL.b0
      have f0 : fits (41 + (m : Int)) := ⟨by omega, by omega⟩
      have f6 : fits (1 + t) := ⟨by omega, by omega⟩
      go_wp2_with (first
        | (at_builtin; refine wpList_append_new hdL.tw (by rfl) _ _ 36 (by rfl) Tryz.underlying36 et_way (by rfl) hdL.s1 (by rfl) rfl (tb_way f0 fl hs1 hs2 f6 f7 hdL.s0 (by omega)) rfl (by omega) ?_; intro v9 S9 w9 hsl9 he9)
        | fail)
      go_ret
      exact ⟨S9, v9, rfl, hsl9, (hdL.evo he9).td, (hdL.evo he9).st.ev⟩
end Go.Proofs.YtjfdbigkbgolmaaGreatDoor
