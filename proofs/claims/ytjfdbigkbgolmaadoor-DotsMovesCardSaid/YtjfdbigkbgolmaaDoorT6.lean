/-
  'DotsApart' answers true for every argument.
-/
import Derived.Test.YtjfdbigkbgolmaaDoorT5
import Derived.Test.YtjfdbigkbgolmaaDoorR4
import Derived.Deep.CutRange
import Derived.Deep.CutBlock
import Derived.Deep.DeepCutAuto
namespace Go.Proofs.YtjfdbigkbgolmaaDoor
set_option linter.unusedVariables false
set_option linter.unusedSimpArgs false
open Go.RowKit Go.Shelf Go.Deep
attribute [local go_sem] Oper.semAt_some
attribute [local go_sem ↓] Go.wp_at_zero Go.wp_at_succ

theorem small_dts (a : Option Addr) (cap : Nat) (l : List Dt) (W : World) (hA : DtsA W.heap.size W a l) :
    Calls Tryd.prog 18 #[.slice a l.length cap] W fun e w' => ∃ v, e = .returned v ∧ Dts w'.heap.size w' v (smallL l) ∧ Below W.heap.size W w' := by
  refine (small_any a cap l W hA).mono ?_
  rintro e w' ⟨v, rfl, hr, hb⟩
  exact ⟨v, rfl, dts_of_row hr (by rw [smallL_length]; omega) (smallL_fits l), hb⟩
theorem dtsA_one {W : World} {B : Nat} {d : Dt} (h : Blk W B (encD d).toArray 45) (f : fits d.x ∧ fits d.y ∧ fits d.k ∧ fits d.i) : DtsA W.heap.size W (some ⟨B, 0, none⟩) [d] := by
  intro j hj
  obtain rfl : j = 0 := by simpa using hj
  exact ⟨B, 0, rfl, h.lt, ⟨h.cell 0, h.cell 1, h.cell 2, h.cell 3⟩, f⟩

/-- small of one dot that the call has laid -/
theorem small_one (B : Nat) (d : Dt) (W : World) (h : Blk W B #[.int .i64 d.x, .int .i64 d.y, .int .i64 d.k, .int .i64 d.i] 45) (f : fits d.x ∧ fits d.y ∧ fits d.k ∧ fits d.i) :
    Calls Tryd.prog 18 #[.slice (some ⟨B, 0, none⟩) 1 1] W fun e w' => ∃ b off cap, e = .returned (.slice (some ⟨b, off, none⟩) 1 cap) ∧ (∀ j u, (encD (smallD d))[j]? = some u → w'.cell? ((⟨b, off, none⟩ : Addr).add j) = some u) ∧ Below W.heap.size W w' := by
  refine (small_dts (some ⟨B, 0, none⟩) 1 [d] W (dtsA_one h f)).mono ?_
  rintro e w' ⟨v, rfl, s, hb⟩
  obtain ⟨b, off, cap, rfl, -, hn⟩ := s.news (by simp [smallL])
  exact ⟨b, off, cap, rfl, fun j u hj => hn j u (by simpa [smallL] using hj), hb⟩
theorem cells4 {W : World} {B : Nat} {a b c d : Int} {t : TypeId} (h : Blk W B #[.int .i64 a, .int .i64 b, .int .i64 c, .int .i64 d] t) : W.cell? ⟨B, 0, none⟩ = some (.int .i64 a) ∧ W.cell? ⟨B, 1, none⟩ = some (.int .i64 b) ∧ W.cell? ⟨B, 2, none⟩ = some (.int .i64 c) ∧ W.cell? ⟨B, 3, none⟩ = some (.int .i64 d) :=
  ⟨h.cell 0, h.cell 1, h.cell 2, h.cell 3⟩
theorem ownsRow_empty {X : World} {Z base : Nat} (h : Blk X Z #[] 45) (hb : base ≤ Z) : X.ownsRow base 45 4 (.slice (some ⟨Z, 0, none⟩) 0 0) 0 [] :=
  ⟨rfl, .inr ⟨Z, 0, #[], rfl, hb, h, Nat.le_refl _, Nat.zero_le _, rfl, rfl⟩⟩

theorem Dts.fits {n : Nat} {W : World} {sv : Value} {l : List Dt} (h : Dts n W sv l) : ∀ d ∈ l, Go.Proofs.YtjfdbigkbgolmaaDoor.fits d.x ∧ Go.Proofs.YtjfdbigkbgolmaaDoor.fits d.y := by
  rcases h with ⟨-, rfl⟩ | ⟨b, off, cap, -, -, -, hf, -⟩
  · simp
  · exact hf
theorem dts_snoc {W W0 : World} {base g cap n0 : Nat} {sv : Value} {B : List Dt} {d : Dt} (h : W.ownsRow base 45 4 (.slice (some ⟨g, 0, none⟩) (B.length + 1) cap) (B.length + 1) (B.flatMap encD ++ encD d)) (hl : B.length ≤ 1000000) (hB : Dts n0 W0 sv B) (hd : fits d.x ∧ fits d.y) :
    Dts W.heap.size W (.slice (some ⟨g, 0, none⟩) (B.length + 1) cap) (B ++ [d]) := by
  have e1 : (B ++ [d]).length = B.length + 1 := by simp
  have e2 : (B ++ [d]).flatMap encD = B.flatMap encD ++ encD d := by simp [List.flatMap_append]
  refine dts_of_row (base := base) (l := B ++ [d]) (by rw [e1, e2]; exact h) (by omega) ?_
  intro x hx
  rcases List.mem_append.1 hx with h1 | h1
  · exact hB.fits x h1
  · obtain rfl := List.mem_singleton.1 h1
    exact hd

/-- whether a dot is among dots -/
def inF (d : Dt) (m : Bool) (b : List Dt) : Bool := m || b.any fun e => decide (d.x = e.x) && decide (d.y = e.y)
theorem inF_take {d : Dt} {m : Bool} {b : List Dt} {k : Nat} (h : k < b.length) : inF d m (b.take (k + 1)) = (inF d m (b.take k) || (decide (d.x = b[k].x) && decide (d.y = b[k].y))) := by
  unfold inF
  rw [List.take_add_one, List.getElem?_eq_getElem h, List.any_append]
  simp [Bool.or_assoc]
theorem commonF_take {a b : List Dt} {k : Nat} (h : k < a.length) : commonF (a.take (k + 1)) b = inF a[k] (commonF (a.take k) b) b := by
  unfold commonF inF
  rw [List.take_add_one, List.getElem?_eq_getElem h, List.any_append]
  simp

set_option maxRecDepth 100000 in
set_option maxHeartbeats 4000000 in
theorem apart_law (a b : Option Addr) (ca cb : Nat) (la lb : List Dt) (cx cy ck ci : Int) (w : World) (hA : DtsA w.heap.size w a la) (hB : DtsA w.heap.size w b lb) (f0 : fits cx) (f1 : fits cy) (f2 : fits ck) (f3 : fits ci) :
    Calls Tryd.prog 6 #[.slice a la.length ca, .slice b lb.length cb, .agg #[.int .i64 cx, .int .i64 cy, .int .i64 ck, .int .i64 ci]] w fun e w' => e = .returned (.bool true) ∧ Below w.heap.size w w' := by
  have k5 := Blk.new w #[.int .i64 cx, .int .i64 cy, .int .i64 ck, .int .i64 ci] 45
  go_enter Tryd.func6, Tryd.ntmps6
  go_wp2_with (first
    | (go_at_call 7; refine (sanity_any _).mono ?_; rintro e w' ⟨rfl, hb_⟩; obtain ⟨p, rfl⟩ := grow_of_below hb_; clear hb_)
    | (go_at_call 18; with_reducible refine (small_dts a ca la _ ?_).mono ?_; exact (hA.below (by repeat' (first | with_reducible exact Below.refl _ _ | with_reducible exact Nat.le_refl _ | with_reducible assumption | with_reducible refine Go.below_growBy' ?_ ?_ _ | with_reducible refine Below.alloc ?_ ?_ _ | with_reducible refine Below.setCell ?_ ?_ _ | with_reducible refine Below.drew ?_ | with_reducible refine Go.le_alloc ?_ | with_reducible refine Go.le_growBy ?_ | with_reducible refine Go.le_setCell ?_ | with_reducible refine Go.le_drew ?_ | omega | (dsimp only; omega)))).up (by repeat' (first | with_reducible exact Below.refl _ _ | with_reducible exact Nat.le_refl _ | with_reducible assumption | with_reducible refine Go.below_growBy' ?_ ?_ _ | with_reducible refine Below.alloc ?_ ?_ _ | with_reducible refine Below.setCell ?_ ?_ _ | with_reducible refine Below.drew ?_ | with_reducible refine Go.le_alloc ?_ | with_reducible refine Go.le_growBy ?_ | with_reducible refine Go.le_setCell ?_ | with_reducible refine Go.le_drew ?_ | omega | (dsimp only; omega))); rintro e w1 ⟨v1, rfl, s1, hb1⟩; have hB1 : Below w.heap.size w w1 := Below.trans (by repeat' (first | with_reducible exact Below.refl _ _ | with_reducible exact Nat.le_refl _ | with_reducible assumption | with_reducible refine Go.below_growBy' ?_ ?_ _ | with_reducible refine Below.alloc ?_ ?_ _ | with_reducible refine Below.setCell ?_ ?_ _ | with_reducible refine Below.drew ?_ | with_reducible refine Go.le_alloc ?_ | with_reducible refine Go.le_growBy ?_ | with_reducible refine Go.le_setCell ?_ | with_reducible refine Go.le_drew ?_ | omega | (dsimp only; omega))) (hb1.mono (by repeat' (first | with_reducible exact Below.refl _ _ | with_reducible exact Nat.le_refl _ | with_reducible assumption | with_reducible refine Go.below_growBy' ?_ ?_ _ | with_reducible refine Below.alloc ?_ ?_ _ | with_reducible refine Below.setCell ?_ ?_ _ | with_reducible refine Below.drew ?_ | with_reducible refine Go.le_alloc ?_ | with_reducible refine Go.le_growBy ?_ | with_reducible refine Go.le_setCell ?_ | with_reducible refine Go.le_drew ?_ | omega | (dsimp only; omega)))); replace k5 := (k5.grow p).below hb1 (by simp; omega); clear hb1)
    | (go_at_call 18; with_reducible refine (small_dts b cb lb _ ?_).mono ?_; exact (hB.below hB1).up hB1.size; rintro e w2 ⟨v2, rfl, s2, hb2⟩; have hB2 : Below w.heap.size w w2 := hB1.trans (hb2.mono hB1.size); replace k5 := k5.below hb2 k5.lt; replace s1 := s1.up hb2 hb2.size; clear hb2 hB1)
    | fail)
  obtain ⟨-, aa, ca1, rfl, ra⟩ := s1.open_
  obtain ⟨-, ab, cb1, rfl, rb⟩ := s2.open_
  have hA30 : (smallL la).length ≤ 30 := by rw [smallL_length]; omega
  have hB30 : (smallL lb).length ≤ 30 := by rw [smallL_length]; omega
  generalize smallL la = A at *
  generalize smallL lb = B at *
  have hs2 := hB2.size
  clear hA hB
  go_loopw [8, 9] (fun m i wr => ∃ k : Nat, k ≤ A.length ∧ m = .bool (commonF (A.take k) B) ∧ i = .int .i64 k ∧ Below w2.heap.size w2 wr)
    (fun _ i _ => A.length - (intOf i).toNat)
  case atStart => exact ⟨0, Nat.zero_le _, rfl, rfl, Below.refl _ _⟩
  case round =>
    obtain ⟨k, hk, rfl, rfl, hB⟩ := hrel
    have hsz := hB.size
    by_cases hlt : k < A.length
    · have hltI : (k : Int) < (A.length : Int) := by omega
      obtain ⟨bl, off, rfl, hbl, hrow, -⟩ := ra k hlt
      obtain ⟨m0, hm0⟩ : ∃ m, commonF (A.take k) B = m := ⟨_, rfl⟩
      have htk := commonF_take (b := B) hlt
      rw [hm0] at htk ⊢
      obtain ⟨d, hd⟩ : ∃ d, A[k] = d := ⟨_, rfl⟩
      rw [hd] at hrow htk
      replace htk := Lib.hid htk
      clear hm0 hd
      obtain ⟨dx, dy, dk, di⟩ := d
      go_wp2_with fail
      go_loopw [8, 10] (fun m i wr => ∃ j : Nat, j ≤ B.length ∧ m = .bool (inF ⟨dx, dy, dk, di⟩ m0 (B.take j)) ∧ i = .int .i64 j ∧ Below w2.heap.size w2 wr)
        (fun _ i _ => B.length - (intOf i).toNat)
      case atStart => exact ⟨0, Nat.zero_le _, by simp [inF], rfl, hB⟩
      case round =>
        obtain ⟨j, hj, rfl, rfl, hB3⟩ := hrel
        have hsz3 := hB3.size
        by_cases hlt2 : j < B.length
        · have hltI2 : (j : Int) < (B.length : Int) := by omega
          obtain ⟨bl2, off2, rfl, hbl2, hrow2, -⟩ := rb j hlt2
          obtain ⟨c0, c1, -, -⟩ := hrow.below hB3 hbl
          obtain ⟨e0, e1, -, -⟩ := hrow2.below hB3 hbl2
          obtain ⟨m1, hm1⟩ : ∃ m, inF ⟨dx, dy, dk, di⟩ m0 (B.take j) = m := ⟨_, rfl⟩
          have htk2 := inF_take (d := ⟨dx, dy, dk, di⟩) (m := m0) hlt2
          rw [hm1] at htk2 ⊢
          obtain ⟨e, he⟩ : ∃ e, B[j] = e := ⟨_, rfl⟩
          rw [he] at e0 e1 htk2
          clear hm1 he hrow2 hrow ra rb
          obtain ⟨ex, ey, ek, ei⟩ := e
          simp only at c0 c1 e0 e1 htk2
          cases m1 with
          | true =>
            simp only [Bool.true_or] at htk2
            replace htk2 := Lib.hid htk2
            go_wp2_with fail
            first | with_reducible refine wp_region_grow2 (by kernel_rfl) (by kernel_rfl) ?_ | with_reducible refine wp_region_grow (by kernel_rfl) (by kernel_rfl) ?_
            repeat (first | go_big_quiet_step (fail) | quiet_step (fail))
            refine wpQuiet_nil ?_
            intro _ hw_
            obtain ⟨p, hw_⟩ := hw_
            subst hw_
            go_wp2_with fail
            go_roundw
            case rel => exact ⟨j + 1, by omega, by rw [htk2.out], by go_num, below_growBy' hB3 hsz3 p⟩
            case measure => simp [intOf]; omega
          | false =>
            by_cases hx : dx = ex
            · by_cases hy : dy = ey
              · simp only [hx, hy, decide_true, Bool.and_self, Bool.false_or] at htk2
                replace htk2 := Lib.hid htk2
                subst hx hy
                go_wp2_with fail
                first | with_reducible refine wp_region_grow2 (by kernel_rfl) (by kernel_rfl) ?_ | with_reducible refine wp_region_grow (by kernel_rfl) (by kernel_rfl) ?_
                repeat (first | go_big_quiet_step (fail) | quiet_step (fail))
                refine wpQuiet_nil ?_
                intro _ hw_
                obtain ⟨p, hw_⟩ := hw_
                subst hw_
                go_wp2_with fail
                go_roundw
                case rel => exact ⟨j + 1, by omega, by rw [htk2.out], by go_num, below_growBy' hB3 hsz3 p⟩
                case measure => simp [intOf]; omega
              · have hyb : (dy == ey) = false := by simp [hy]
                simp only [hx, hy, decide_true, decide_false, Bool.and_false, Bool.false_or] at htk2
                replace htk2 := Lib.hid htk2
                subst hx
                go_wp2_with fail
                first | with_reducible refine wp_region_grow2 (by kernel_rfl) (by kernel_rfl) ?_ | with_reducible refine wp_region_grow (by kernel_rfl) (by kernel_rfl) ?_
                repeat (first | go_big_quiet_step (fail) | quiet_step (fail))
                refine wpQuiet_nil ?_
                intro _ hw_
                obtain ⟨p, hw_⟩ := hw_
                subst hw_
                go_wp2_with fail
                go_roundw
                case rel => exact ⟨j + 1, by omega, by rw [htk2.out], by go_num, below_growBy' hB3 hsz3 p⟩
                case measure => simp [intOf]; omega
            · have hxb : (dx == ex) = false := by simp [hx]
              simp only [hx, decide_false, Bool.false_and, Bool.false_or] at htk2
              replace htk2 := Lib.hid htk2
              go_wp2_with fail
              first | with_reducible refine wp_region_grow2 (by kernel_rfl) (by kernel_rfl) ?_ | with_reducible refine wp_region_grow (by kernel_rfl) (by kernel_rfl) ?_
              repeat (first | go_big_quiet_step (fail) | quiet_step (fail))
              refine wpQuiet_nil ?_
              intro _ hw_
              obtain ⟨p, hw_⟩ := hw_
              subst hw_
              go_wp2_with fail
              go_roundw
              case rel => exact ⟨j + 1, by omega, by rw [htk2.out], by go_num, below_growBy' hB3 hsz3 p⟩
              case measure => simp [intOf]; omega
        · obtain rfl : j = B.length := by omega
          rw [List.take_length]
          have hge2 : ¬ (B.length : Int) < (B.length : Int) := by omega
          go_wp2_with fail
          go_roundw
          case rel => exact ⟨k + 1, by omega, by rw [htk.out], by go_num, hB3⟩
          case measure => simp [intOf]; omega
    · obtain rfl : k = A.length := by omega
      rw [List.take_length]
      have hge : ¬ (A.length : Int) < (A.length : Int) := by omega
      obtain ⟨n0, hn0⟩ : ∃ n, leastF A B = n := ⟨_, rfl⟩
      obtain ⟨n1, hn1⟩ : ∃ n, leastF A (B ++ [smallD ⟨cx, cy, ck, ci⟩]) = n := ⟨_, rfl⟩
      have sA := s1.up hB hsz
      have sB := s2.up hB hsz
      have hBw := hB2.trans (hB.mono hs2)
      have kc := k5.below hB k5.lt
      obtain ⟨i0, hi0, hz0, hz1, hz2⟩ := info_parts dotInfo
      clear k5 hB2 hB s1 s2 ra rb hsz hs2
      go_upto_region 12 with (first | (go_at_call 14; with_reducible refine (least_eq hn0 _ sA sB).mono ?_; rintro e w4 ⟨rfl, hb4⟩) | fail)
      replace sA := sA.up hb4 hb4.size
      replace sB := sB.up hb4 hb4.size
      replace kc := kc.below hb4 kc.lt
      replace hBw := hBw.trans (hb4.mono hBw.size)
      clear hb4
      have hsw := hBw.size
      have lc := kc.lt
      have c0 : w4.cell? ⟨w.heap.size, 0, none⟩ = some (.int .i64 cx) := kc.cell 0
      have c1 : w4.cell? ⟨w.heap.size, 1, none⟩ = some (.int .i64 cy) := kc.cell 1
      have c2 : w4.cell? ⟨w.heap.size, 2, none⟩ = some (.int .i64 ck) := kc.cell 2
      have c3 : w4.cell? ⟨w.heap.size, 3, none⟩ = some (.int .i64 ci) := kc.cell 3
      go_cut [12] (fun m wx => m = .int .i64 n1 ∧ Below w4.heap.size w4 wx)
      case first =>
        go_region_law
          (first
            | (refine step_append_fresh (by rfl) _ _ (by rfl) w4.heap.size _ (by rfl) (ownsRow_empty ?_ ?_) _ B (by rfl) (sB.up (by repeat' (first | with_reducible exact Below.refl _ _ | with_reducible exact Nat.le_refl _ | with_reducible assumption | with_reducible refine Go.below_growBy' ?_ ?_ _ | with_reducible refine Below.alloc ?_ ?_ _ | with_reducible refine Below.setCell ?_ ?_ _ | with_reducible refine Below.drew ?_ | with_reducible refine Go.le_alloc ?_ | with_reducible refine Go.le_growBy ?_ | with_reducible refine Go.le_setCell ?_ | with_reducible refine Go.le_drew ?_ | omega | (dsimp only; omega))) (by repeat' (first | with_reducible exact Below.refl _ _ | with_reducible exact Nat.le_refl _ | with_reducible assumption | with_reducible refine Go.below_growBy' ?_ ?_ _ | with_reducible refine Below.alloc ?_ ?_ _ | with_reducible refine Below.setCell ?_ ?_ _ | with_reducible refine Below.drew ?_ | with_reducible refine Go.le_alloc ?_ | with_reducible refine Go.le_growBy ?_ | with_reducible refine Go.le_setCell ?_ | with_reducible refine Go.le_drew ?_ | omega | (dsimp only; omega)))) (by omega) (by repeat' (first | with_reducible exact Below.refl _ _ | with_reducible exact Nat.le_refl _ | with_reducible assumption | with_reducible refine Go.below_growBy' ?_ ?_ _ | with_reducible refine Below.alloc ?_ ?_ _ | with_reducible refine Below.setCell ?_ ?_ _ | with_reducible refine Below.drew ?_ | with_reducible refine Go.le_alloc ?_ | with_reducible refine Go.le_growBy ?_ | with_reducible refine Go.le_setCell ?_ | with_reducible refine Go.le_drew ?_ | omega | (dsimp only; omega))) ?_; (first | exact Blk.new _ _ _ | (have h := (Blk.new (w4.alloc (.cells #[.int .i64 cx, .int .i64 cy, .int .i64 ck, .int .i64 ci] 45)) #[] 45).drew; rw [World.size_alloc] at h; exact h) | exact ((Blk.new w4 #[] 45).alloc _).drew); (first | exact Nat.le_refl _ | (simp; done) | omega); intro v6 w6 hrow6 hb6; have hb46 : Below w4.heap.size w4 w6 := Below.trans (by repeat' (first | with_reducible exact Below.refl _ _ | with_reducible exact Nat.le_refl _ | with_reducible assumption | with_reducible refine Go.below_growBy' ?_ ?_ _ | with_reducible refine Below.alloc ?_ ?_ _ | with_reducible refine Below.setCell ?_ ?_ _ | with_reducible refine Below.drew ?_ | with_reducible refine Go.le_alloc ?_ | with_reducible refine Go.le_growBy ?_ | with_reducible refine Go.le_setCell ?_ | with_reducible refine Go.le_drew ?_ | omega | (dsimp only; omega))) (hb6.mono (by repeat' (first | with_reducible exact Below.refl _ _ | with_reducible exact Nat.le_refl _ | with_reducible assumption | with_reducible refine Go.below_growBy' ?_ ?_ _ | with_reducible refine Below.alloc ?_ ?_ _ | with_reducible refine Below.setCell ?_ ?_ _ | with_reducible refine Below.drew ?_ | with_reducible refine Go.le_alloc ?_ | with_reducible refine Go.le_growBy ?_ | with_reducible refine Go.le_setCell ?_ | with_reducible refine Go.le_drew ?_ | omega | (dsimp only; omega)))); obtain ⟨d0, d1, d2, d3⟩ := cells4 (kc.below hb46 lc))
            | (go_simp; go_at_call 18; with_reducible refine (small_one _ ⟨cx, cy, ck, ci⟩ _ ?_ ⟨f0, f1, f2, f3⟩).mono ?_; (first | exact Blk.new w6 _ _ | exact ((Blk.new w4 #[.int .i64 cx, .int .i64 cy, .int .i64 ck, .int .i64 ci] 45).alloc (.cells #[] 45)).drew.below hb6 (by first | (simp; done) | (simp; omega)) | (have h := (Blk.new (w4.alloc (.cells #[] 45)) #[.int .i64 cx, .int .i64 cy, .int .i64 ck, .int .i64 ci] 45).drew.below hb6 (by first | (simp; done) | (simp; omega)); simpa using h)); rintro e w7 ⟨b7, o7, c7, rfl, hn7, hb7⟩; have hb67 : Below w6.heap.size w6 w7 := Below.trans (by repeat' (first | with_reducible exact Below.refl _ _ | with_reducible exact Nat.le_refl _ | with_reducible assumption | with_reducible refine Go.below_growBy' ?_ ?_ _ | with_reducible refine Below.alloc ?_ ?_ _ | with_reducible refine Below.setCell ?_ ?_ _ | with_reducible refine Below.drew ?_ | with_reducible refine Go.le_alloc ?_ | with_reducible refine Go.le_growBy ?_ | with_reducible refine Go.le_setCell ?_ | with_reducible refine Go.le_drew ?_ | omega | (dsimp only; omega))) (hb7.mono (by repeat' (first | with_reducible exact Below.refl _ _ | with_reducible exact Nat.le_refl _ | with_reducible assumption | with_reducible refine Go.below_growBy' ?_ ?_ _ | with_reducible refine Below.alloc ?_ ?_ _ | with_reducible refine Below.setCell ?_ ?_ _ | with_reducible refine Below.drew ?_ | with_reducible refine Go.le_alloc ?_ | with_reducible refine Go.le_growBy ?_ | with_reducible refine Go.le_setCell ?_ | with_reducible refine Go.le_drew ?_ | omega | (dsimp only; omega)))); have hb47 := hb46.trans (hb67.mono hb46.size); have hrow7 := hrow6.kept (grownBy_of_below hb67) (by cases v6.ownBlock <;> simp))
            | (refine step_append_lies _ (by rfl) _ _ _ (by rfl) w4.heap.size 45 i0 _ 4 32 Tryd.underlying38 hi0 hz0 hz1 hz2 rfl (by omega) v6 B.length _ (by rfl) hrow7 ⟨b7, o7, none⟩ 1 c7 (encD (smallD ⟨cx, cy, ck, ci⟩)) (by rfl) (by rfl) hn7 (by simp [Value.oneCell']) (by omega) (by unfold maxLen; omega) (by omega) hb47.size _ rfl ?_; intro g8 cap8 w8 hown8 hgrow8 hat8 hlt8; have hb48 := hb47.grown hgrow8 hb47.size (fun r e => (hrow7.lt r e).1); have hD8 : Dts w8.heap.size w8 (.slice (some ⟨g8, 0, none⟩) (B.length + 1) cap8) (B ++ [smallD ⟨cx, cy, ck, ci⟩]) := dts_snoc hown8 (by omega) sB (smallL_fits [⟨cx, cy, ck, ci⟩] _ (by simp [smallL])))
            | (go_simp; go_at_call 14; with_reducible refine (least_eq hn1 _ (sA.up hb48 hb48.size) hD8).mono ?_; rintro e w9 ⟨rfl, hb9⟩)
            | fail)
        all_goals
          go_wp2_with fail
          go_meet
          exact ⟨rfl, hb48.trans (hb9.mono hb48.size)⟩
      case rest =>
        obtain ⟨rfl, hBc⟩ := hcut
        have sA9 := sA.up hBc hBc.size
        have sB9 := sB.up hBc hBc.size
        have hBw9 := hBw.trans (hBc.mono hsw)
        have hsz9 := hBw9.size
        have hn2 : leastF B A = n0 := (leastF_comm B A).trans hn0
        have hmore : n1 ≤ n0 := by rw [← hn0, ← hn1]; exact leastF_more A B _
        have hn80 : n0 ≤ 80 := by rw [← hn0]; exact (leastF_in B A).2
        have hz := leastF_zero A B
        rw [hn0] at hz
        have hnA : A.length = 0 → n0 = 80 := fun h => by rw [List.eq_nil_of_length_eq_zero h] at hn0; exact hn0.symm.trans (leastF_nil' B)
        have hnB : B.length = 0 → n0 = 80 := fun h => by rw [List.eq_nil_of_length_eq_zero h] at hn0; exact hn0.symm.trans (leastF_nil A)
        replace hn2 := Lib.hid hn2
        clear sA sB kc c0 c1 c2 c3 hn0 hn1 hBw hBc
        rcases (show (A.length = 0) ∨ (0 < A.length ∧ B.length = 0) ∨ (0 < A.length ∧ 0 < B.length) from by omega) with hA0 | ⟨hA1, hB0⟩ | ⟨hA1, hB1⟩
        · obtain rfl := hnA hA0
          have hc : commonF A B = false := by rw [← hz]; rfl
          have hAI : ¬ (0 : Int) < (A.length : Int) := by omega
          clear hnA hnB hz hn80 hA0
          rw [hc]
          go_wp2_with (first | (go_at_call 14; with_reducible refine (least_eq hn2.out _ sB9 sA9).mono ?_; rintro e w' ⟨rfl, hb_⟩; obtain ⟨p9, rfl⟩ := grow_of_below hb_; clear hb_) | fail)
          all_goals
            go_ret
            exact ⟨rfl, (by repeat' (first | with_reducible exact Below.refl _ _ | with_reducible exact Nat.le_refl _ | with_reducible assumption | with_reducible refine Go.below_growBy' ?_ ?_ _ | with_reducible refine Below.alloc ?_ ?_ _ | with_reducible refine Below.setCell ?_ ?_ _ | with_reducible refine Below.drew ?_ | with_reducible refine Go.le_alloc ?_ | with_reducible refine Go.le_growBy ?_ | with_reducible refine Go.le_setCell ?_ | with_reducible refine Go.le_drew ?_ | omega | (dsimp only; omega)))⟩
        · obtain rfl := hnB hB0
          have hc : commonF A B = false := by rw [← hz]; rfl
          have hAI : (0 : Int) < (A.length : Int) := by omega
          clear hnA hnB hz hn80
          rw [hc]
          obtain rfl := List.eq_nil_of_length_eq_zero hB0
          have sB9 : Dts wc.heap.size wc (.slice ab 0 cb1) [] := sB9
          go_wp2_with (first | (go_at_call 14; with_reducible refine (least_eq hn2.out _ sB9 sA9).mono ?_; rintro e w' ⟨rfl, hb_⟩; obtain ⟨p9, rfl⟩ := grow_of_below hb_; clear hb_) | fail)
          all_goals
            go_ret
            exact ⟨rfl, (by repeat' (first | with_reducible exact Below.refl _ _ | with_reducible exact Nat.le_refl _ | with_reducible assumption | with_reducible refine Go.below_growBy' ?_ ?_ _ | with_reducible refine Below.alloc ?_ ?_ _ | with_reducible refine Below.setCell ?_ ?_ _ | with_reducible refine Below.drew ?_ | with_reducible refine Go.le_alloc ?_ | with_reducible refine Go.le_growBy ?_ | with_reducible refine Go.le_setCell ?_ | with_reducible refine Go.le_drew ?_ | omega | (dsimp only; omega)))⟩
        · have hAI : (0 : Int) < (A.length : Int) := by omega
          have hBI : (0 : Int) < (B.length : Int) := by omega
          clear hnA hnB
          by_cases h0 : n0 = 0
          · subst h0
            have hc : commonF A B = true := by rw [← hz]; rfl
            clear hz
            rw [hc]
            go_wp2_with (first | (go_at_call 14; with_reducible refine (least_eq hn2.out _ sB9 sA9).mono ?_; rintro e w' ⟨rfl, hb_⟩; obtain ⟨p9, rfl⟩ := grow_of_below hb_; clear hb_) | fail)
            all_goals
              go_ret
              exact ⟨rfl, (by repeat' (first | with_reducible exact Below.refl _ _ | with_reducible exact Nat.le_refl _ | with_reducible assumption | with_reducible refine Go.below_growBy' ?_ ?_ _ | with_reducible refine Below.alloc ?_ ?_ _ | with_reducible refine Below.setCell ?_ ?_ _ | with_reducible refine Below.drew ?_ | with_reducible refine Go.le_alloc ?_ | with_reducible refine Go.le_growBy ?_ | with_reducible refine Go.le_setCell ?_ | with_reducible refine Go.le_drew ?_ | omega | (dsimp only; omega)))⟩
          · have hc : commonF A B = false := by rw [← hz]; simp [h0]
            have h0b : (n0 == 0) = false := by simp [h0]
            clear hz
            rw [hc]
            go_wp2_with (first | (go_at_call 14; with_reducible refine (least_eq hn2.out _ sB9 sA9).mono ?_; rintro e w' ⟨rfl, hb_⟩; obtain ⟨p9, rfl⟩ := grow_of_below hb_; clear hb_) | fail)
            all_goals
              go_ret
              exact ⟨rfl, (by repeat' (first | with_reducible exact Below.refl _ _ | with_reducible exact Nat.le_refl _ | with_reducible assumption | with_reducible refine Go.below_growBy' ?_ ?_ _ | with_reducible refine Below.alloc ?_ ?_ _ | with_reducible refine Below.setCell ?_ ?_ _ | with_reducible refine Below.drew ?_ | with_reducible refine Go.le_alloc ?_ | with_reducible refine Go.le_growBy ?_ | with_reducible refine Go.le_setCell ?_ | with_reducible refine Go.le_drew ?_ | omega | (dsimp only; omega)))⟩
end Go.Proofs.YtjfdbigkbgolmaaDoor
