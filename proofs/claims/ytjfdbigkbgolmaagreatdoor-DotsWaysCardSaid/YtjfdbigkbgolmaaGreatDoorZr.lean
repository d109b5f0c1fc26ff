/-
  hachureref05: Fine, Closed, end, Cross: what they return.
-/
import Derived.Test.YtjfdbigkbgolmaaGreatDoorZq
import Derived.Test.YtjfdbigkbgolmaaGreatDoorZm

namespace Go.Proofs.YtjfdbigkbgolmaaGreatDoor
set_option linter.unusedVariables false
set_option linter.unusedSimpArgs false
open Go.RowKit Go.Shelf Go.Maps
attribute [local go_sem] Oper.semAt_some
attribute [local go_sem ↓] Go.wp_at_zero Go.wp_at_succ

theorem rightL_take (ps : List Spot) (k : Nat) (h : k < ps.length) : rightL (ps.take (k + 1)) = (rightL (ps.take k) && rightP ps[k].1 ps[k].2) := by
  unfold rightL
  rw [List.take_add_one, List.getElem?_eq_getElem h, List.all_append]
  simp
theorem rightL_get {ps : List Spot} (h : rightL ps = true) (k : Nat) (hk : k < ps.length) : rightP ps[k].1 ps[k].2 = true := List.all_eq_true.1 h _ (List.getElem_mem hk)
/-- some truth value is returned -/
def SomeB (e : Ending) : Prop := ∃ b, e = .returned (.bool b)
theorem SomeB.mk (b : Bool) : SomeB (.returned (.bool b)) := ⟨b, rfl⟩

theorem rfine_any (lv : Value) (ps : List Spot) (n₀ : Nat) (W : World) (h : Pts n₀ W lv ps) (hn : n₀ ≤ W.heap.size) (hl : ps.length ≤ 1000) :
    Calls Tryz.prog 113 #[lv] W fun e W' => e = .returned (.bool (rightL ps)) ∧ Below W.heap.size W W' := by
  obtain ⟨a, cap, rfl, hp⟩ := h
  go_enter Tryz.func113, Tryz.ntmps113
  go_wp2_with fail
  go_loopw [3] (fun i wr => ∃ k : Nat, k ≤ ps.length ∧ i = .int .i64 (k : Nat) ∧ rightL (ps.take k) = true ∧ Below W.heap.size W wr) (fun i _ => ps.length - (intOf i).toNat)
  case atStart => exact ⟨0, Nat.zero_le _, rfl, rfl, Below.refl _ _⟩
  case round =>
    obtain ⟨k, hk, rfl, hA, hB⟩ := hrel
    by_cases hlt : k < ps.length
    · have hltI : (k : Int) < (ps.length : Int) := by omega
      obtain ⟨b, off, rfl, hb, z0, z1⟩ := hp k hlt
      replace z0 := (hB.cell (p := ⟨b, off + k * 2, none⟩) (by show b < _; omega)).trans z0
      replace z1 := (hB.cell (p := ⟨b, off + k * 2 + 1, none⟩) (by show b < _; omega)).trans z1
      have htk := rightL_take ps k hlt
      have hall : rightL ps = true → rightP ps[k].1 ps[k].2 = true := fun h => rightL_get h k hlt
      obtain ⟨⟨x, y⟩, hxy⟩ : ∃ p, ps[k] = p := ⟨_, rfl⟩
      rw [hxy] at z0 z1 htk hall
      simp only at z0 z1 htk hall
      clear hxy
      obtain ⟨r, hr⟩ : ∃ r, rightP x y = r := ⟨_, rfl⟩
      rw [hr, hA, Bool.true_and] at htk
      rw [hr] at hall
      replace hr := Lib.hid hr
      replace htk := Lib.hid htk
      replace hA := Lib.hid hA
      have hsz := hB.size
      cases r with
      | false =>
        have hf : rightL ps = false := by
          cases h : rightL ps with
          | false => rfl
          | true => exact absurd (hall h) (by decide)
        replace hf := Lib.hid hf
        go_wp2_with (go_at_call 50; refine (rright_eq hr.out _).mono ?_; rintro e w' ⟨rfl, hb_⟩; obtain ⟨p, rfl⟩ := grow_of_below hb_; clear hb_)
        go_ret
        exact ⟨by rw [hf.out]; rfl, below_growBy' hB hsz _⟩
      | true =>
        go_wp2_with (go_at_call 50; refine (rright_eq hr.out _).mono ?_; rintro e w' ⟨rfl, hb_⟩; obtain ⟨p, rfl⟩ := grow_of_below hb_; clear hb_)
        go_roundw
        case rel => exact ⟨k + 1, by omega, by go_num, htk.out, below_growBy' hB hsz _⟩
        case measure => simp [intOf]; try omega
    · obtain rfl : k = ps.length := by omega
      rw [List.take_length] at hA
      replace hA := Lib.hid hA
      go_wp2_with fail
      go_ret
      exact ⟨by rw [hA.out]; rfl, hB⟩

def closedF (ps : List Spot) : Bool := decide (4 ≤ ps.length) && (decide ((ps.getD 0 (0, 0)).1 = (ps.getD (ps.length - 1) (0, 0)).1) && decide ((ps.getD 0 (0, 0)).2 = (ps.getD (ps.length - 1) (0, 0)).2))
set_option maxHeartbeats 1000000 in
theorem rclosed_any (lv : Value) (ps : List Spot) (n₀ : Nat) (W : World) (h : Pts n₀ W lv ps) (hl : ps.length ≤ 1000) :
    Calls Tryz.prog 114 #[lv] W fun e W' => e = .returned (.bool (closedF ps)) ∧ Below W.heap.size W W' := by
  obtain ⟨a, cap, rfl, hp⟩ := h
  have hlI : (ps.length : Int) ≤ 1000 := by omega
  have hE := eqlPt
  have hG := guardPt
  by_cases h4 : 4 ≤ ps.length
  · have h4I : (4 : Int) ≤ (ps.length : Int) := by omega
    obtain ⟨b, off, rfl, hb, z0, z1⟩ := hp 0 (by omega)
    obtain ⟨n, hn⟩ : ∃ n, ps.length - 1 = n := ⟨_, rfl⟩
    have hnl : n < ps.length := by omega
    have hnI : (n : Int) < (ps.length : Int) := by omega
    have hn0 : 0 ≤ (n : Int) := by omega
    have hnE : (ps.length : Int) - 1 = (n : Nat) := by omega
    obtain ⟨b', off', e, hb', y0, y1⟩ := hp n hnl
    simp only [Option.some.injEq, Addr.mk.injEq, and_true] at e
    obtain ⟨rfl, rfl⟩ := e
    obtain ⟨⟨x, y⟩, hxy⟩ : ∃ p, ps[0] = p := ⟨_, rfl⟩
    obtain ⟨⟨u, v⟩, huv⟩ : ∃ p, ps[n] = p := ⟨_, rfl⟩
    have hcl := Lib.hid (show closedF ps = (decide (x = u) && decide (y = v)) by
      unfold closedF
      rw [hn, List.getD_eq_getElem?_getD, List.getElem?_eq_getElem (by omega), hxy, List.getD_eq_getElem?_getD, List.getElem?_eq_getElem hnl, huv, decide_eq_true h4]
      rfl)
    rw [hxy] at z0 z1
    rw [huv] at y0 y1
    simp only [Nat.zero_mul, Nat.add_zero] at z0 z1 y0 y1
    clear hp hxy huv hn
    go_enter Tryz.func114, Tryz.ntmps114
    go_wp2_with fail
    first | with_reducible refine wp_region_grow_tail2 15 (by kernel_rfl) (by kernel_rfl) ?_ | with_reducible refine wp_region_grow_tail 15 (by kernel_rfl) (by kernel_rfl) ?_
    simp only [List.take_succ_cons, List.take_zero, List.drop_succ_cons, List.drop_zero]
    repeat (first | go_big_quiet_step (fail) | quiet_step (fail))
    refine wpQuiet_nil ?_
    intro _ hw_
    obtain ⟨p, hw_⟩ := hw_
    subst hw_
    go_wp2_with fail
    go_ret
    exact ⟨by rw [hcl.out]; rfl, (by repeat' (first | with_reducible exact Below.refl _ _ | with_reducible exact Nat.le_refl _ | with_reducible assumption | with_reducible refine Go.below_growBy' ?_ ?_ _ | with_reducible refine Below.alloc ?_ ?_ _ | with_reducible refine Below.setCell ?_ ?_ _ | with_reducible refine Below.drew ?_ | with_reducible refine Go.le_alloc ?_ | with_reducible refine Go.le_growBy ?_ | with_reducible refine Go.le_setCell ?_ | with_reducible refine Go.le_drew ?_ | omega | (dsimp only; omega)))⟩
  · have hcl := Lib.hid (show closedF ps = false by unfold closedF; rw [decide_eq_false h4]; rfl)
    have h4I : (ps.length : Int) < 4 := by omega
    have h4J : decide ((4 : Int) ≤ (ps.length : Int)) = false := by simp; omega
    have h4K : ¬ (4 : Int) ≤ (ps.length : Int) := by omega
    go_enter Tryz.func114, Tryz.ntmps114
    go_wp2_with fail
    first | with_reducible refine wp_region_grow_tail2 15 (by kernel_rfl) (by kernel_rfl) ?_ | with_reducible refine wp_region_grow_tail 15 (by kernel_rfl) (by kernel_rfl) ?_
    simp only [List.take_succ_cons, List.take_zero, List.drop_succ_cons, List.drop_zero]
    repeat (first | go_big_quiet_step (fail) | quiet_step (fail))
    refine wpQuiet_nil ?_
    intro _ hw_
    obtain ⟨p, hw_⟩ := hw_
    subst hw_
    go_wp2_with fail
    go_ret
    exact ⟨by rw [hcl.out]; rfl, (by repeat' (first | with_reducible exact Below.refl _ _ | with_reducible exact Nat.le_refl _ | with_reducible assumption | with_reducible refine Go.below_growBy' ?_ ?_ _ | with_reducible refine Below.alloc ?_ ?_ _ | with_reducible refine Below.setCell ?_ ?_ _ | with_reducible refine Below.drew ?_ | with_reducible refine Go.le_alloc ?_ | with_reducible refine Go.le_growBy ?_ | with_reducible refine Go.le_setCell ?_ | with_reducible refine Go.le_drew ?_ | omega | (dsimp only; omega)))⟩

set_option maxRecDepth 100000 in
set_option maxHeartbeats 4000000 in
theorem rend_any (lv mv : Value) (ps qs : List Spot) (i k : Nat) (n₀ : Nat) (w : World) (hn : n₀ ≤ w.heap.size) (h : Pts n₀ w lv ps) (h2 : Pts n₀ w mv qs) (hl : ps.length ≤ 1000) (hl2 : qs.length ≤ 1000) (hi : i + 1 < ps.length) (hk : k + 1 < qs.length) :
    Calls Tryz.prog 116 #[lv, mv, .int .i64 (i : Nat), .int .i64 (k : Nat)] w fun e w' => SomeB e ∧ Below w.heap.size w w' := by
  obtain ⟨a, cap, rfl, hp⟩ := h
  obtain ⟨a2, cap2, rfl, hq⟩ := h2
  have hlI : (ps.length : Int) ≤ 1000 := by omega
  have hl2I : (qs.length : Int) ≤ 1000 := by omega
  have hE := eqlPt
  have hG := guardPt
  obtain ⟨b, off, rfl, hb, z0, z1⟩ := hp 0 (by omega)
  obtain ⟨n, hn1⟩ : ∃ n, ps.length - 1 = n := ⟨_, rfl⟩
  have hnl : n < ps.length := by omega
  have hnI : (n : Int) < (ps.length : Int) := by omega
  have hn0 : 0 ≤ (n : Int) := by omega
  have hnE : (ps.length : Int) - 1 = (n : Nat) := by omega
  have h0len : 0 < ps.length := by omega
  have hwn : IntKind.i64.wrap (n : Int) = n := wrap_in7 (by omega) (by omega)
  obtain ⟨b', off', e, -, y0, y1⟩ := hp n hnl
  simp only [Option.some.injEq, Addr.mk.injEq, and_true] at e
  obtain ⟨rfl, rfl⟩ := e
  obtain ⟨⟨x0, x1⟩, hx⟩ : ∃ p, ps[0] = p := ⟨_, rfl⟩
  obtain ⟨⟨u0, u1⟩, hu⟩ : ∃ p, ps[n] = p := ⟨_, rfl⟩
  rw [hx] at z0 z1
  rw [hu] at y0 y1
  simp only [Nat.zero_mul, Nat.add_zero] at z0 z1 y0 y1
  clear hx hu hn1
  go_enter Tryz.func116, Tryz.ntmps116
  go_upto_region 1 with fail
  go_cut [9] (fun v wx => ∃ B, v = .pointer (some ⟨B, 0, none⟩) ∧ Blk wx B #[.int .i64 x0, .int .i64 x1, .int .i64 u0, .int .i64 u1] 199 ∧ w.heap.size ≤ B ∧ Below w.heap.size w wx)
  case first =>
    go_region_law (fail)
    all_goals
      go_wp2_with fail
      go_meet
      exact ⟨_, rfl, Blk.new _ _ _, (by first | exact Nat.le_refl _ | (simp; done) | omega), (by repeat' (first | with_reducible exact Below.refl _ _ | with_reducible exact Nat.le_refl _ | with_reducible assumption | with_reducible refine Go.below_growBy' ?_ ?_ _ | with_reducible refine Below.alloc ?_ ?_ _ | with_reducible refine Below.setCell ?_ ?_ _ | with_reducible refine Below.drew ?_ | with_reducible refine Go.le_alloc ?_ | with_reducible refine Go.le_growBy ?_ | with_reducible refine Go.le_setCell ?_ | with_reducible refine Go.le_drew ?_ | omega | (dsimp only; omega)))⟩
  case rest =>
  obtain ⟨B, rfl, kB, hBw, hBc⟩ := hcut
  clear z0 z1 y0 y1 hnl hnI hn0 hnE
  obtain ⟨W1, rfl⟩ : ∃ W, W = wc := ⟨_, rfl⟩
  have hpi : ∀ X, Below w.heap.size w X → ∀ j, (h : j < ps.length) → X.cell? ⟨b, off + j * 2, none⟩ = some (.int .i64 ps[j].1) ∧ X.cell? ⟨b, off + j * 2 + 1, none⟩ = some (.int .i64 ps[j].2) := fun X hX j hj => by
    obtain ⟨b', off', e, hb', y0, y1⟩ := hp j hj
    simp only [Option.some.injEq, Addr.mk.injEq, and_true] at e
    obtain ⟨rfl, rfl⟩ := e
    exact ⟨(hX.cell (p := ⟨b, off + j * 2, none⟩) (by show b < _; omega)).trans y0, (hX.cell (p := ⟨b, off + j * 2 + 1, none⟩) (by show b < _; omega)).trans y1⟩
  obtain ⟨c, of2, rfl, hc, -⟩ := hq 0 (by omega)
  have hqi : ∀ X, Below w.heap.size w X → ∀ j, (h : j < qs.length) → X.cell? ⟨c, of2 + j * 2, none⟩ = some (.int .i64 qs[j].1) ∧ X.cell? ⟨c, of2 + j * 2 + 1, none⟩ = some (.int .i64 qs[j].2) := fun X hX j hj => by
    obtain ⟨b', off', e, hb', y0, y1⟩ := hq j hj
    simp only [Option.some.injEq, Addr.mk.injEq, and_true] at e
    obtain ⟨rfl, rfl⟩ := e
    exact ⟨(hX.cell (p := ⟨c, of2 + j * 2, none⟩) (by show c < _; omega)).trans y0, (hX.cell (p := ⟨c, of2 + j * 2 + 1, none⟩) (by show c < _; omega)).trans y1⟩
  clear hp hq
  go_wp2_with fail
  go_loopw [10] (fun t wr => ∃ m : Nat, m ≤ 2 ∧ t = .int .i64 (m : Nat) ∧ Blk wr B #[.int .i64 x0, .int .i64 x1, .int .i64 u0, .int .i64 u1] 199 ∧ Below w.heap.size w wr) (fun t _ => 2 - (intOf t).toNat)
  case atStart => exact ⟨0, by omega, rfl, kB, hBc⟩
  case round =>
    clear kB hBc
    obtain ⟨m, hm, rfl, kB, hBc⟩ := hrel
    have k0 : wr.cell? ⟨B, 0, none⟩ = some (.int .i64 x0) := kB.cell 0
    have k1 : wr.cell? ⟨B, 1, none⟩ = some (.int .i64 x1) := kB.cell 1
    have k2 : wr.cell? ⟨B, 2, none⟩ = some (.int .i64 u0) := kB.cell 2
    have k3 : wr.cell? ⟨B, 3, none⟩ = some (.int .i64 u1) := kB.cell 3
    have hsz := hBc.size
    have lB := kB.lt
    obtain ⟨i1, hi1⟩ : ∃ i1, i + 1 = i1 := ⟨_, rfl⟩
    obtain ⟨j1, hj1⟩ : ∃ j1, k + 1 = j1 := ⟨_, rfl⟩
    obtain ⟨n2, hn2⟩ : ∃ n2, qs.length - 1 = n2 := ⟨_, rfl⟩
    have hwi : IntKind.i64.wrap ((i : Int) + 1) = (i1 : Nat) := (wrap_in7 (by omega) (by omega)).trans (by omega)
    have hwk : IntKind.i64.wrap ((k : Int) + 1) = (j1 : Nat) := (wrap_in7 (by omega) (by omega)).trans (by omega)
    have hii : (i : Int) + 1 = (i1 : Nat) := by omega
    have hkk : (k : Int) + 1 = (j1 : Nat) := by omega
    have hn2E : (qs.length : Int) - 1 = (n2 : Nat) := by omega
    have hwn2 : IntKind.i64.wrap (n2 : Int) = n2 := wrap_in7 (by omega) (by omega)
    have hiI : (i : Int) < (ps.length : Int) := by omega
    have hi1I : (i1 : Int) < (ps.length : Int) := by omega
    have hkI : (k : Int) < (qs.length : Int) := by omega
    have hk1I : (j1 : Int) < (qs.length : Int) := by omega
    have hn2I : (n2 : Int) < (qs.length : Int) := by omega
    have hn20 : 0 ≤ (n2 : Int) := by omega
    have h0q : 0 < qs.length := by omega
    obtain ⟨p0, p1⟩ := hpi wr hBc i (by omega)
    obtain ⟨p2, p3⟩ := hpi wr hBc i1 (by omega)
    obtain ⟨q0, q1⟩ := hqi wr hBc k (by omega)
    obtain ⟨q2, q3⟩ := hqi wr hBc j1 (by omega)
    obtain ⟨q4, q5⟩ := hqi wr hBc 0 (by omega)
    obtain ⟨q6, q7⟩ := hqi wr hBc n2 (by omega)
    simp only [Nat.zero_mul, Nat.add_zero] at q4 q5
    generalize ps[i] = P0 at *
    generalize ps[i1] = P1 at *
    generalize qs[k] = Q0 at *
    generalize qs[j1] = Q1 at *
    generalize qs[0] = Q2 at *
    generalize qs[n2] = Q3 at *
    obtain ⟨P0x, P0y⟩ := P0
    obtain ⟨P1x, P1y⟩ := P1
    obtain ⟨Q0x, Q0y⟩ := Q0
    obtain ⟨Q1x, Q1y⟩ := Q1
    obtain ⟨Q2x, Q2y⟩ := Q2
    obtain ⟨Q3x, Q3y⟩ := Q3
    simp only at p0 p1 p2 p3 q0 q1 q2 q3 q4 q5 q6 q7
    clear hpi hqi hn2 hi1 hj1
    have hmm : m = 0 ∨ m = 1 ∨ m = 2 := by omega
    rcases hmm with rfl | rfl | rfl
    · go_upto_region 6 with fail
      obtain ⟨o1, ho1⟩ : ∃ o, onF (P0x, P0y) (P1x, P1y) (x0, x1) = o := ⟨_, rfl⟩
      obtain ⟨o2, ho2⟩ : ∃ o, onF (Q0x, Q0y) (Q1x, Q1y) (x0, x1) = o := ⟨_, rfl⟩
      obtain ⟨t1, ht1⟩ : ∃ t, (decide (x0 = Q2x) && decide (x1 = Q2y)) = t := ⟨_, rfl⟩
      obtain ⟨t2, ht2⟩ : ∃ t, (decide (x0 = Q3x) && decide (x1 = Q3y)) = t := ⟨_, rfl⟩
      have hE1 := fun W => (eqlPt x0 x1 Q2x Q2y W).trans (by rw [ht1])
      have hE2 := fun W => (eqlPt x0 x1 Q3x Q3y W).trans (by rw [ht2])
      clear hE
      replace ho1 := Lib.hid ho1
      replace ho2 := Lib.hid ho2
      replace ht1 := Lib.hid ht1
      replace ht2 := Lib.hid ht2
      first | with_reducible refine wp_region_grow_tail2 11 (by kernel_rfl) (by kernel_rfl) ?_ | with_reducible refine wp_region_grow_tail 11 (by kernel_rfl) (by kernel_rfl) ?_
      simp only [List.take_succ_cons, List.take_zero, List.drop_succ_cons, List.drop_zero]
      repeat (first | go_big_quiet_step ((go_at_call 135; exact Calls.grow_of (ron4_any _ _ _ _ _ _ _ (by first | with_reducible exact ho1.out | with_reducible exact ho2.out) _))) | quiet_step ((go_at_call 135; exact Calls.grow_of (ron4_any _ _ _ _ _ _ _ (by first | with_reducible exact ho1.out | with_reducible exact ho2.out) _))))
      refine wpQuiet_nil ?_
      intro _ hw_
      obtain ⟨p, hw_⟩ := hw_
      subst hw_
      go_upto_region 7 with fail
      first | with_reducible refine wp_region_grow_tail2 11 (by kernel_rfl) (by kernel_rfl) ?_ | with_reducible refine wp_region_grow_tail 11 (by kernel_rfl) (by kernel_rfl) ?_
      simp only [List.take_succ_cons, List.take_zero, List.drop_succ_cons, List.drop_zero]
      repeat (first | go_big_quiet_step ((go_at_call 135; exact Calls.grow_of (ron4_any _ _ _ _ _ _ _ (by first | with_reducible exact ho2.out | with_reducible exact ho1.out) _))) | quiet_step ((go_at_call 135; exact Calls.grow_of (ron4_any _ _ _ _ _ _ _ (by first | with_reducible exact ho2.out | with_reducible exact ho1.out) _))))
      refine wpQuiet_nil ?_
      intro _ hw_
      obtain ⟨p, hw_⟩ := hw_
      subst hw_
      go_upto_region 8 with fail
      have hB9 : Below w.heap.size w wr := hBc
      cases o1 with
      | false =>
        first | with_reducible refine wp_region_grow2 (by kernel_rfl) (by kernel_rfl) ?_ | with_reducible refine wp_region_grow (by kernel_rfl) (by kernel_rfl) ?_
        repeat (first | go_big_quiet_step (fail) | quiet_step (fail))
        refine wpQuiet_nil ?_
        intro _ hw_
        obtain ⟨p, hw_⟩ := hw_
        subst hw_
        go_wp2_with fail
        go_roundw
        case rel => exact ⟨1, by omega, by first | rfl | (go_num; done), (kB.alloc _).kept (grownBy_growBy _ _) (by simp), (by repeat' (first | with_reducible exact Below.refl _ _ | with_reducible exact Nat.le_refl _ | with_reducible assumption | with_reducible refine Go.below_growBy' ?_ ?_ _ | with_reducible refine Below.alloc ?_ ?_ _ | with_reducible refine Below.setCell ?_ ?_ _ | with_reducible refine Below.drew ?_ | with_reducible refine Go.le_alloc ?_ | with_reducible refine Go.le_growBy ?_ | with_reducible refine Go.le_setCell ?_ | with_reducible refine Go.le_drew ?_ | omega | (dsimp only; omega)))⟩
        case measure => simp [intOf]; try omega
      | true =>
        cases o2 with
        | false =>
          first | with_reducible refine wp_region_grow2 (by kernel_rfl) (by kernel_rfl) ?_ | with_reducible refine wp_region_grow (by kernel_rfl) (by kernel_rfl) ?_
          repeat (first | go_big_quiet_step (fail) | quiet_step (fail))
          refine wpQuiet_nil ?_
          intro _ hw_
          obtain ⟨p, hw_⟩ := hw_
          subst hw_
          go_wp2_with fail
          go_roundw
          case rel => exact ⟨1, by omega, by first | rfl | (go_num; done), (kB.alloc _).kept (grownBy_growBy _ _) (by simp), (by repeat' (first | with_reducible exact Below.refl _ _ | with_reducible exact Nat.le_refl _ | with_reducible assumption | with_reducible refine Go.below_growBy' ?_ ?_ _ | with_reducible refine Below.alloc ?_ ?_ _ | with_reducible refine Below.setCell ?_ ?_ _ | with_reducible refine Below.drew ?_ | with_reducible refine Go.le_alloc ?_ | with_reducible refine Go.le_growBy ?_ | with_reducible refine Go.le_setCell ?_ | with_reducible refine Go.le_drew ?_ | omega | (dsimp only; omega)))⟩
          case measure => simp [intOf]; try omega
        | true =>
          cases t1 with
          | true =>
            first | with_reducible refine wp_region_grow2 (by kernel_rfl) (by kernel_rfl) ?_ | with_reducible refine wp_region_grow (by kernel_rfl) (by kernel_rfl) ?_
            repeat (first | go_big_quiet_step (fail) | quiet_step (fail))
            refine wpQuiet_nil ?_
            intro _ hw_
            obtain ⟨p, hw_⟩ := hw_
            subst hw_
            go_wp2_with fail
            go_ret
            exact ⟨SomeB.mk _, (by repeat' (first | with_reducible exact Below.refl _ _ | with_reducible exact Nat.le_refl _ | with_reducible assumption | with_reducible refine Go.below_growBy' ?_ ?_ _ | with_reducible refine Below.alloc ?_ ?_ _ | with_reducible refine Below.setCell ?_ ?_ _ | with_reducible refine Below.drew ?_ | with_reducible refine Go.le_alloc ?_ | with_reducible refine Go.le_growBy ?_ | with_reducible refine Go.le_setCell ?_ | with_reducible refine Go.le_drew ?_ | omega | (dsimp only; omega)))⟩
          | false =>
            cases t2 with
            | true =>
              first | with_reducible refine wp_region_grow2 (by kernel_rfl) (by kernel_rfl) ?_ | with_reducible refine wp_region_grow (by kernel_rfl) (by kernel_rfl) ?_
              repeat (first | go_big_quiet_step (fail) | quiet_step (fail))
              refine wpQuiet_nil ?_
              intro _ hw_
              obtain ⟨p, hw_⟩ := hw_
              subst hw_
              go_wp2_with fail
              go_ret
              exact ⟨SomeB.mk _, (by repeat' (first | with_reducible exact Below.refl _ _ | with_reducible exact Nat.le_refl _ | with_reducible assumption | with_reducible refine Go.below_growBy' ?_ ?_ _ | with_reducible refine Below.alloc ?_ ?_ _ | with_reducible refine Below.setCell ?_ ?_ _ | with_reducible refine Below.drew ?_ | with_reducible refine Go.le_alloc ?_ | with_reducible refine Go.le_growBy ?_ | with_reducible refine Go.le_setCell ?_ | with_reducible refine Go.le_drew ?_ | omega | (dsimp only; omega)))⟩
            | false =>
              first | with_reducible refine wp_region_grow2 (by kernel_rfl) (by kernel_rfl) ?_ | with_reducible refine wp_region_grow (by kernel_rfl) (by kernel_rfl) ?_
              repeat (first | go_big_quiet_step (fail) | quiet_step (fail))
              refine wpQuiet_nil ?_
              intro _ hw_
              obtain ⟨p, hw_⟩ := hw_
              subst hw_
              go_wp2_with fail
              go_roundw
              case rel => exact ⟨1, by omega, by first | rfl | (go_num; done), (kB.alloc _).kept (grownBy_growBy _ _) (by simp), (by repeat' (first | with_reducible exact Below.refl _ _ | with_reducible exact Nat.le_refl _ | with_reducible assumption | with_reducible refine Go.below_growBy' ?_ ?_ _ | with_reducible refine Below.alloc ?_ ?_ _ | with_reducible refine Below.setCell ?_ ?_ _ | with_reducible refine Below.drew ?_ | with_reducible refine Go.le_alloc ?_ | with_reducible refine Go.le_growBy ?_ | with_reducible refine Go.le_setCell ?_ | with_reducible refine Go.le_drew ?_ | omega | (dsimp only; omega)))⟩
              case measure => simp [intOf]; try omega
    · go_upto_region 6 with fail
      obtain ⟨o1, ho1⟩ : ∃ o, onF (P0x, P0y) (P1x, P1y) (u0, u1) = o := ⟨_, rfl⟩
      obtain ⟨o2, ho2⟩ : ∃ o, onF (Q0x, Q0y) (Q1x, Q1y) (u0, u1) = o := ⟨_, rfl⟩
      obtain ⟨t1, ht1⟩ : ∃ t, (decide (u0 = Q2x) && decide (u1 = Q2y)) = t := ⟨_, rfl⟩
      obtain ⟨t2, ht2⟩ : ∃ t, (decide (u0 = Q3x) && decide (u1 = Q3y)) = t := ⟨_, rfl⟩
      have hE1 := fun W => (eqlPt u0 u1 Q2x Q2y W).trans (by rw [ht1])
      have hE2 := fun W => (eqlPt u0 u1 Q3x Q3y W).trans (by rw [ht2])
      clear hE
      replace ho1 := Lib.hid ho1
      replace ho2 := Lib.hid ho2
      replace ht1 := Lib.hid ht1
      replace ht2 := Lib.hid ht2
      first | with_reducible refine wp_region_grow_tail2 11 (by kernel_rfl) (by kernel_rfl) ?_ | with_reducible refine wp_region_grow_tail 11 (by kernel_rfl) (by kernel_rfl) ?_
      simp only [List.take_succ_cons, List.take_zero, List.drop_succ_cons, List.drop_zero]
      repeat (first | go_big_quiet_step ((go_at_call 135; exact Calls.grow_of (ron4_any _ _ _ _ _ _ _ (by first | with_reducible exact ho1.out | with_reducible exact ho2.out) _))) | quiet_step ((go_at_call 135; exact Calls.grow_of (ron4_any _ _ _ _ _ _ _ (by first | with_reducible exact ho1.out | with_reducible exact ho2.out) _))))
      refine wpQuiet_nil ?_
      intro _ hw_
      obtain ⟨p, hw_⟩ := hw_
      subst hw_
      go_upto_region 7 with fail
      first | with_reducible refine wp_region_grow_tail2 11 (by kernel_rfl) (by kernel_rfl) ?_ | with_reducible refine wp_region_grow_tail 11 (by kernel_rfl) (by kernel_rfl) ?_
      simp only [List.take_succ_cons, List.take_zero, List.drop_succ_cons, List.drop_zero]
      repeat (first | go_big_quiet_step ((go_at_call 135; exact Calls.grow_of (ron4_any _ _ _ _ _ _ _ (by first | with_reducible exact ho2.out | with_reducible exact ho1.out) _))) | quiet_step ((go_at_call 135; exact Calls.grow_of (ron4_any _ _ _ _ _ _ _ (by first | with_reducible exact ho2.out | with_reducible exact ho1.out) _))))
      refine wpQuiet_nil ?_
      intro _ hw_
      obtain ⟨p, hw_⟩ := hw_
      subst hw_
      go_upto_region 8 with fail
      have hB9 : Below w.heap.size w wr := hBc
      cases o1 with
      | false =>
        first | with_reducible refine wp_region_grow2 (by kernel_rfl) (by kernel_rfl) ?_ | with_reducible refine wp_region_grow (by kernel_rfl) (by kernel_rfl) ?_
        repeat (first | go_big_quiet_step (fail) | quiet_step (fail))
        refine wpQuiet_nil ?_
        intro _ hw_
        obtain ⟨p, hw_⟩ := hw_
        subst hw_
        go_wp2_with fail
        go_roundw
        case rel => exact ⟨2, by omega, by first | rfl | (go_num; done), (kB.alloc _).kept (grownBy_growBy _ _) (by simp), (by repeat' (first | with_reducible exact Below.refl _ _ | with_reducible exact Nat.le_refl _ | with_reducible assumption | with_reducible refine Go.below_growBy' ?_ ?_ _ | with_reducible refine Below.alloc ?_ ?_ _ | with_reducible refine Below.setCell ?_ ?_ _ | with_reducible refine Below.drew ?_ | with_reducible refine Go.le_alloc ?_ | with_reducible refine Go.le_growBy ?_ | with_reducible refine Go.le_setCell ?_ | with_reducible refine Go.le_drew ?_ | omega | (dsimp only; omega)))⟩
        case measure => simp [intOf]; try omega
      | true =>
        cases o2 with
        | false =>
          first | with_reducible refine wp_region_grow2 (by kernel_rfl) (by kernel_rfl) ?_ | with_reducible refine wp_region_grow (by kernel_rfl) (by kernel_rfl) ?_
          repeat (first | go_big_quiet_step (fail) | quiet_step (fail))
          refine wpQuiet_nil ?_
          intro _ hw_
          obtain ⟨p, hw_⟩ := hw_
          subst hw_
          go_wp2_with fail
          go_roundw
          case rel => exact ⟨2, by omega, by first | rfl | (go_num; done), (kB.alloc _).kept (grownBy_growBy _ _) (by simp), (by repeat' (first | with_reducible exact Below.refl _ _ | with_reducible exact Nat.le_refl _ | with_reducible assumption | with_reducible refine Go.below_growBy' ?_ ?_ _ | with_reducible refine Below.alloc ?_ ?_ _ | with_reducible refine Below.setCell ?_ ?_ _ | with_reducible refine Below.drew ?_ | with_reducible refine Go.le_alloc ?_ | with_reducible refine Go.le_growBy ?_ | with_reducible refine Go.le_setCell ?_ | with_reducible refine Go.le_drew ?_ | omega | (dsimp only; omega)))⟩
          case measure => simp [intOf]; try omega
        | true =>
          cases t1 with
          | true =>
            first | with_reducible refine wp_region_grow2 (by kernel_rfl) (by kernel_rfl) ?_ | with_reducible refine wp_region_grow (by kernel_rfl) (by kernel_rfl) ?_
            repeat (first | go_big_quiet_step (fail) | quiet_step (fail))
            refine wpQuiet_nil ?_
            intro _ hw_
            obtain ⟨p, hw_⟩ := hw_
            subst hw_
            go_wp2_with fail
            go_ret
            exact ⟨SomeB.mk _, (by repeat' (first | with_reducible exact Below.refl _ _ | with_reducible exact Nat.le_refl _ | with_reducible assumption | with_reducible refine Go.below_growBy' ?_ ?_ _ | with_reducible refine Below.alloc ?_ ?_ _ | with_reducible refine Below.setCell ?_ ?_ _ | with_reducible refine Below.drew ?_ | with_reducible refine Go.le_alloc ?_ | with_reducible refine Go.le_growBy ?_ | with_reducible refine Go.le_setCell ?_ | with_reducible refine Go.le_drew ?_ | omega | (dsimp only; omega)))⟩
          | false =>
            cases t2 with
            | true =>
              first | with_reducible refine wp_region_grow2 (by kernel_rfl) (by kernel_rfl) ?_ | with_reducible refine wp_region_grow (by kernel_rfl) (by kernel_rfl) ?_
              repeat (first | go_big_quiet_step (fail) | quiet_step (fail))
              refine wpQuiet_nil ?_
              intro _ hw_
              obtain ⟨p, hw_⟩ := hw_
              subst hw_
              go_wp2_with fail
              go_ret
              exact ⟨SomeB.mk _, (by repeat' (first | with_reducible exact Below.refl _ _ | with_reducible exact Nat.le_refl _ | with_reducible assumption | with_reducible refine Go.below_growBy' ?_ ?_ _ | with_reducible refine Below.alloc ?_ ?_ _ | with_reducible refine Below.setCell ?_ ?_ _ | with_reducible refine Below.drew ?_ | with_reducible refine Go.le_alloc ?_ | with_reducible refine Go.le_growBy ?_ | with_reducible refine Go.le_setCell ?_ | with_reducible refine Go.le_drew ?_ | omega | (dsimp only; omega)))⟩
            | false =>
              first | with_reducible refine wp_region_grow2 (by kernel_rfl) (by kernel_rfl) ?_ | with_reducible refine wp_region_grow (by kernel_rfl) (by kernel_rfl) ?_
              repeat (first | go_big_quiet_step (fail) | quiet_step (fail))
              refine wpQuiet_nil ?_
              intro _ hw_
              obtain ⟨p, hw_⟩ := hw_
              subst hw_
              go_wp2_with fail
              go_roundw
              case rel => exact ⟨2, by omega, by first | rfl | (go_num; done), (kB.alloc _).kept (grownBy_growBy _ _) (by simp), (by repeat' (first | with_reducible exact Below.refl _ _ | with_reducible exact Nat.le_refl _ | with_reducible assumption | with_reducible refine Go.below_growBy' ?_ ?_ _ | with_reducible refine Below.alloc ?_ ?_ _ | with_reducible refine Below.setCell ?_ ?_ _ | with_reducible refine Below.drew ?_ | with_reducible refine Go.le_alloc ?_ | with_reducible refine Go.le_growBy ?_ | with_reducible refine Go.le_setCell ?_ | with_reducible refine Go.le_drew ?_ | omega | (dsimp only; omega)))⟩
              case measure => simp [intOf]; try omega
    · go_wp2_with fail
      go_ret
      exact ⟨SomeB.mk _, hBc⟩
end Go.Proofs.YtjfdbigkbgolmaaGreatDoor
