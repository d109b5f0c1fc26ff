/-
  Chapter 24: the closure 'same' of relabel.reached, walked.
-/
import Derived.Test.YtikojanpbbiaiaaZg

namespace Go.Proofs.Ytikojanpbbiaiaa
set_option linter.unusedVariables false
set_option linter.unusedSimpArgs false
open Go.RowKit Go.Shelf Go.Maps
attribute [local go_sem] Oper.semAt_some
attribute [local go_sem ↓] Go.wp_at_zero Go.wp_at_succ

theorem surrI_eq {v : Value} {l : List Lb} {k : Nat} {z : Lb} {n0 : Nat} (w : World) (h : Lst lbE n0 w v l) (hn : n0 ≤ w.heap.size) (hz : l[k]? = some z) (hl : l.length ≤ 100000) (hok : ∀ x ∈ l, LbKey x) :
    Calls Try.prog 64 #[v, .int .i64 (k : Nat)] w fun e w' => SurrR w k (surr l k z) e w' := surrI_any v l k z w (h.mono hn) hz hl hok
/-- both sets came back -/
def SurrS (w : World) (s1 s2 : List Lb) (v1 v2 : Value) (w' : World) : Prop := ∃ m1 n1 e1 m2 n2 e2, v1 = .map (some m1) ∧ v2 = .map (some m2) ∧ w.heap.size ≤ m1 ∧ w.heap.size ≤ m2 ∧ n1 ≤ 100000 ∧ n2 ≤ 100000 ∧ MapK Try.prog lbK boolV w' m1 n1 e1 ∧ SetIs e1 s1 ∧ MapK Try.prog lbK boolV w' m2 n2 e2 ∧ SetIs e2 s2 ∧ Below w.heap.size w w'
/-- what the closure 'same' holds -/
structure SameB (W : World) (A N O T R : Nat) (vo vn : Value) (ma : Nat) (o t : Bool) : Prop where
  at_ : W.cell? ⟨A, 0, none⟩ = some (.map (some ma))
  next : W.cell? ⟨N, 0, none⟩ = some vn
  one : W.cell? ⟨O, 0, none⟩ = some (.bool o)
  two : W.cell? ⟨T, 0, none⟩ = some (.bool t)
  old : W.cell? ⟨R, 0, none⟩ = some vo
set_option maxRecDepth 100000 in
set_option maxHeartbeats 4000000 in
theorem same1_any (A N O T R ma n : Nat) (en : List (Lb × Int)) (vo vn : Value) (old next : List Lb) (k : Nat) (z : Lb) (o t : Bool) (w : World) (hb : SameB w A N O T R vo vn ma o t) (hM : MapK Try.prog lbK intV w ma n en) (hA : AtIs en old)
    (ho : Lst lbE w.heap.size w vo old) (hn : Lst lbE w.heap.size w vn next) (hz : next[k]? = some z) (hol : old.length ≤ 1000) (hnl : next.length ≤ 1000) (hok : ∀ x ∈ old, LbKey x) (hnk : ∀ x ∈ next, LbKey x) (h1 : o = !twiceL old) (h2 : t = !twiceL next) :
    Calls Try.prog 63 #[.int .i64 (k : Nat), .pointer (some ⟨A, 0, none⟩), .pointer (some ⟨N, 0, none⟩), .pointer (some ⟨O, 0, none⟩), .pointer (some ⟨T, 0, none⟩), .pointer (some ⟨R, 0, none⟩)] w fun e w' => e = .returned (.bool (sameL old next k z)) ∧ Below w.heap.size w w' := by
  obtain ⟨q0, q1, q2, q3, q4⟩ := hb
  have lA := World.block_lt_of_cell? _ _ q0
  have lN := World.block_lt_of_cell? _ _ q1
  have lO := World.block_lt_of_cell? _ _ q2
  have lT := World.block_lt_of_cell? _ _ q3
  have lR := World.block_lt_of_cell? _ _ q4
  have hkl : k < next.length := (List.getElem?_eq_some_iff.1 hz).1
  have hkI : (k : Int) < (next.length : Int) := by omega
  obtain ⟨bn, offn, capn, i, x, y, r, tt, u, rfl, hz2, hbn, hzc⟩ := hn.get hkl
  obtain rfl : z = ⟨i, x, y, r, tt, u⟩ := Option.some.inj (hz.symm.trans hz2)
  obtain ⟨ao, co, rfl, -⟩ := ho.form
  have hkey : LbKey ⟨i, x, y, r, tt, u⟩ := hnk _ (List.mem_of_getElem? hz)
  have hlk : ∀ p, (Instr.lookup 116 (.map (some ma)) (lbV ⟨i, x, y, r, tt, u⟩) true).run Try.prog (w.growBy p) = .ok (.tuple #[.int .i64 ((idOf en ⟨i, x, y, r, tt, u⟩).getD 0), .bool (hasK en ⟨i, x, y, r, tt, u⟩)]) (w.growBy p) := fun p => look_int (hM.kept (grownBy_growBy w p) (by simp)) hkey
  obtain ⟨c0, c1, c2, c3, c4, c5⟩ := hzc
  obtain ⟨res, hres⟩ : ∃ b, sameL old next k ⟨i, x, y, r, tt, u⟩ = b := ⟨_, rfl⟩
  rw [hres]
  obtain ⟨hk, hhk⟩ : ∃ b, hasK en ⟨i, x, y, r, tt, u⟩ = b := ⟨_, rfl⟩
  obtain ⟨gi, hgi⟩ : ∃ b, (idOf en ⟨i, x, y, r, tt, u⟩).getD 0 = b := ⟨_, rfl⟩
  rw [hhk, hgi] at hlk
  have hidx := hA ⟨i, x, y, r, tt, u⟩
  replace hgi := Lib.hid hgi
  replace hhk := Lib.hid hhk
  replace hres := Lib.hid hres
  replace h1 := Lib.hid h1
  replace h2 := Lib.hid h2
  clear hz2 hM
  have hall : Hid (res = true → o = true ∧ t = true ∧ hk = true) := Lib.hid (fun e => by
    have h := hres.out.trans e
    unfold sameL at h
    simp only [Bool.and_eq_true, Bool.not_eq_true', Bool.or_eq_false_iff] at h
    refine ⟨by rw [h1.out, h.1.1]; rfl, by rw [h2.out, h.1.2]; rfl, ?_⟩
    rcases hidx with ⟨hi, hno⟩ | ⟨j, hj, -⟩
    · have := h.2
      unfold keptL at this
      rw [idxL_none old _ hno] at this
      cases this
    · rw [← hhk.out]
      unfold idOf at hj
      rw [Option.map_eq_some_iff] at hj
      obtain ⟨e, he, -⟩ := hj
      unfold hasK
      rw [List.any_eq_true]
      exact ⟨e, List.mem_of_find?_eq_some he, by simpa using List.find?_some he⟩)
  by_cases hgo : (o && t && hk) = true
  · simp only [Bool.and_eq_true] at hgo
    obtain ⟨⟨rfl, rfl⟩, rfl⟩ := hgo
    obtain ⟨j, hj, hjz⟩ : ∃ j : Nat, idOf en ⟨i, x, y, r, tt, u⟩ = some (j : Int) ∧ old[j]? = some ⟨i, x, y, r, tt, u⟩ := by
      rcases hidx with ⟨hi, -⟩ | h
      · exfalso
        have := hhk.out
        rw [show hasK en ⟨i, x, y, r, tt, u⟩ = (idOf en ⟨i, x, y, r, tt, u⟩).isSome from by unfold hasK idOf; rw [Option.isSome_map, Bool.eq_iff_iff, List.find?_isSome, List.any_eq_true], hi] at this
        cases this
      · exact h
    obtain rfl : (j : Int) = gi := by rw [← hgi.out, hj]; rfl
    have hto : twiceL old = false := by have := h1.out; simpa using this.symm
    have htn : twiceL next = false := by have := h2.out; simpa using this.symm
    have hod : old.Nodup := by
      have h : (old.map Lb.id).Nodup := by unfold twiceL at hto; simpa using hto
      exact List.Pairwise.of_map Lb.id (fun a b hne e => hne (by rw [e])) h
    have hix : idxL old ⟨i, x, y, r, tt, u⟩ = some j := by
      refine idxL_some old _ j hjz ?_
      intro hm
      obtain ⟨m, hm1, hm2⟩ := List.mem_iff_getElem.1 hm
      rw [List.length_take] at hm1
      rw [List.getElem_take] at hm2
      have hjl := (List.getElem?_eq_some_iff.1 hjz)
      obtain ⟨hj1, hj2⟩ := hjl
      exact List.pairwise_iff_getElem.1 hod m j (by omega) hj1 (by omega) (hm2.trans hj2.symm)
    have hres2 : res = (withinL (surr old j ⟨i, x, y, r, tt, u⟩) (surr next k ⟨i, x, y, r, tt, u⟩) && withinL (surr next k ⟨i, x, y, r, tt, u⟩) (surr old j ⟨i, x, y, r, tt, u⟩)) := by
      rw [← hres.out]
      unfold sameL keptL
      rw [hto, htn, hix]
      rfl
    replace hres := Lib.hid hres2
    clear hres2 hall h1 h2 hgi hhk hidx hj hto htn hod hix
    obtain ⟨s1, hs1⟩ : ∃ s, surr old j ⟨i, x, y, r, tt, u⟩ = s := ⟨_, rfl⟩
    obtain ⟨s2, hs2⟩ : ∃ s, surr next k ⟨i, x, y, r, tt, u⟩ = s := ⟨_, rfl⟩
    have cs1 := fun W (hW : w.heap.size ≤ W.heap.size) (hB : Below w.heap.size w W) => surrI_eq W (ho.below hB) hW hjz (by omega) hok
    have cs2 := fun W (hW : w.heap.size ≤ W.heap.size) (hB : Below w.heap.size w W) => surrI_eq W (hn.below hB) hW hz (by omega) hnk
    have hjlt : j < old.length := (List.getElem?_eq_some_iff.1 hjz).1
    rw [hs1, hs2] at hres
    rw [hs1] at cs1
    rw [hs2] at cs2
    clear hs1 hs2 hz hjz
    go_enter Try.func63, Try.ntmps63
    go_wp2_with fail
    first | with_reducible refine wp_region_grow2 (by kernel_rfl) (by kernel_rfl) ?_ | with_reducible refine wp_region_grow (by kernel_rfl) (by kernel_rfl) ?_
    repeat (first | go_big_quiet_step (fail) | quiet_step (fail))
    refine wpQuiet_nil ?_
    intro _ hw_
    obtain ⟨p, hw_⟩ := hw_
    subst hw_
    go_upto_region 4 with fail
    refine wp_world (fun w2 hw2 => ?_)
    have hB : Below w.heap.size w w2 := by
      rw [hw2]
      exact (by repeat' (first | with_reducible exact Below.refl _ _ | with_reducible exact Nat.le_refl _ | with_reducible assumption | with_reducible refine Go.below_growBy' ?_ ?_ _ | with_reducible refine Below.alloc ?_ ?_ _ | with_reducible refine Below.setCell ?_ ?_ _ | with_reducible refine Below.drew ?_ | with_reducible refine Go.le_alloc ?_ | with_reducible refine Go.le_growBy ?_ | with_reducible refine Go.le_setCell ?_ | with_reducible refine Go.le_drew ?_ | omega | (dsimp only; omega)))
    have hs0 := hB.size
    clear hw2 hlk c0 c1 c2 c3 c4 c5
    have q1' := cell_below hB q1
    have q4' := cell_below hB q4
    clear q0 q1 q2 q3 q4
    go_cut [10, 11] (fun v1 v2 wx => SurrS w2 s1 s2 v1 v2 wx)
    case first =>
      go_region_law
        (first
          | (go_simp; go_at_call 64; (with_reducible refine (cs1 _ (by simp; omega) (by repeat' (first | with_reducible exact Below.refl _ _ | with_reducible exact Nat.le_refl _ | with_reducible assumption | with_reducible refine Go.below_growBy' ?_ ?_ _ | with_reducible refine Below.alloc ?_ ?_ _ | with_reducible refine Below.setCell ?_ ?_ _ | with_reducible refine Below.drew ?_ | with_reducible refine Go.le_alloc ?_ | with_reducible refine Go.le_growBy ?_ | with_reducible refine Go.le_setCell ?_ | with_reducible refine Go.le_drew ?_ | omega | (dsimp only; omega)))).mono ?_); rintro e w5 ⟨m1, n1, e1, rfl, hm1, hn1, hM1, hS1, hb1⟩; have hb5 : Below w2.heap.size w2 w5 := Below.trans (by repeat' (first | with_reducible exact Below.refl _ _ | with_reducible exact Nat.le_refl _ | with_reducible assumption | with_reducible refine Go.below_growBy' ?_ ?_ _ | with_reducible refine Below.alloc ?_ ?_ _ | with_reducible refine Below.setCell ?_ ?_ _ | with_reducible refine Below.drew ?_ | with_reducible refine Go.le_alloc ?_ | with_reducible refine Go.le_growBy ?_ | with_reducible refine Go.le_setCell ?_ | with_reducible refine Go.le_drew ?_ | omega | (dsimp only; omega))) (hb1.mono (by repeat' (first | with_reducible exact Below.refl _ _ | with_reducible exact Nat.le_refl _ | with_reducible assumption | with_reducible refine Go.below_growBy' ?_ ?_ _ | with_reducible refine Below.alloc ?_ ?_ _ | with_reducible refine Below.setCell ?_ ?_ _ | with_reducible refine Below.drew ?_ | with_reducible refine Go.le_alloc ?_ | with_reducible refine Go.le_growBy ?_ | with_reducible refine Go.le_setCell ?_ | with_reducible refine Go.le_drew ?_ | omega | (dsimp only; omega)))); have q15 := cell_below hb5 q1'; have hB5 := hB.trans (hb5.mono hs0); have hs5 := hB5.size; have hs25 := hb5.size)
          | (go_simp; go_at_call 64; (with_reducible refine (cs2 w5 hs5 hB5).mono ?_); rintro e w6 ⟨m2, n2, e2, rfl, hm2, hn2, hM2, hS2, hb2⟩; have hb6 : Below w2.heap.size w2 w6 := hb5.trans (hb2.mono hs25); have hM16 := hM1.below hb2 hM1.lt)
          | fail)
      all_goals
        try go_simp
        go_wp2_with fail
        go_meet
        exact ⟨m1, n1, e1, m2, n2, e2, rfl, rfl, Nat.le_trans (by simp) hm1, Nat.le_trans hs25 hm2, by omega, by omega, hM16, hS1, hM2, hS2, hb6⟩
    case rest =>
    obtain ⟨m1, n1, e1, m2, n2, e2, rfl, rfl, hm1, hm2, hn1, hn2, hM1, hS1, hM2, hS2, hb6⟩ := hcut
    have hB6 := hB.trans (hb6.mono hs0)
    clear hB hb6 cs1 cs2 q1' q4' hn ho
    have nd2 : (e2.map (·.1)).Nodup := by
      obtain ⟨_, _, h, _⟩ := hM2
      exact h
    obtain ⟨D, hown, nd1, hfit, hsz, hkeys⟩ := hM1
    have hlk0 := Lib.hid hkeys
    clear hkeys
    have hl1 := hown.lt
    have hl2 := hM2.lt
    have hmle1 : w.heap.size ≤ m1 := by omega
    have hmle2 : w.heap.size ≤ m2 := by omega
    go_wp2_with (first | (at_range; refine wpList_range_own _ rfl _ 120 rfl 39 4 lbLaw Try.underlying120 _ m1 n1 _ rfl hown ?_; intro w7 hrg7 hg7 hs7) | fail)
    try go_frame
    have hM7 := hM2.kept hg7 (by simp)
    have hB7 : Below w.heap.size w w7 := hB6.grown hg7 hB6.size (fun k e => by cases e)
    have hcs := hB6.size
    obtain ⟨IT, hIT⟩ : ∃ n, wc.heap.size = n := ⟨_, rfl⟩
    rw [hIT] at hrg7
    rw [hIT]
    have hne2 : m2 ≠ IT := by omega
    have hitle : w.heap.size ≤ IT := by omega
    clear hM2 hB6 hg7 hs7 hl1 hl2 hown
    go_loopw [] (fun wr => ∃ (left : Lit → Bool) (cnt : Nat), wr.ranges Try.prog 39 (plainElem Try.prog 4) m1 IT n1 D left cnt ∧ MapK Try.prog lbK boolV wr m2 n2 e2 ∧ Hid (∀ p, LbKey p → has D (klL p) = true → left (klL p) = false → p ∈ s2) ∧ Below w.heap.size w wr) (fun wr => wr.rangeLeft m1 IT)
    case atStart => exact ⟨_, _, hrg7, hM7, Lib.hid (fun p hp h1 h2 => by rw [h1] at h2; cases h2), hB7⟩
    case round =>
      clear hrg7 hM7 hB7
      obtain ⟨left, cnt, hrg, hM, hin, hB⟩ := hrel
      have hsz3 := hB.size
      have hMw : MapK Try.prog lbK boolV wr m1 n1 e1 := ⟨D, hrg.owns, nd1, hfit, hsz, hlk0.out⟩
      go_wp2_with (first
        | (at_next; refine wpList_next_ranges _ rfl _ rfl 39 lbLaw (plainElem Try.prog 4) lbV id (fun key kl hk => by obtain ⟨x, _, hx, _⟩ := keyOf_lb_inv hk; exact ⟨x, hx⟩) (fun v _ _ => ⟨v, rfl⟩) m1 IT n1 _ _ _ rfl hrg ?_ ?_)
        | fail)
      · intro hc0 hl0
        have hsub : ∀ x ∈ s1, x ∈ s2 := fun x hx => by
          obtain ⟨e, he, rfl⟩ := List.mem_map.1 ((hS1.1 x).2 hx)
          have hke := hfit e he
          exact hin.out _ hke (by rw [(hlk0.out _ hke).1]; exact hasK_iff.2 (List.mem_map.2 ⟨e, he, rfl⟩)) (hl0 _)
        have hw := within_sets hS1 hS2 nd1 nd2 hsub
        rw [← hres.out] at hw
        clear hl0 hsub hin hlk0
        go_wp2_with (first
          | (at_len; refine hMw.wp_len (by rfl) _ 120 (by rfl) Try.underlying120 (by rfl) ?_)
          | (at_len; refine hM.wp_len (by rfl) _ 120 (by rfl) Try.underlying120 (by rfl) ?_)
          | fail)
        go_ret
        exact ⟨by rw [← hw]; rfl, hB⟩
      · intro x7 c kl yd yp w3 cnt2 hkey7 hlk hv hat hrg2 hlt hg2 hs2 hen
        obtain ⟨x', fx, ex, rfl⟩ := keyOf_lb_inv hkey7
        obtain rfl : x7 = x' := lbKL.vinj ex
        have hhas : hasK e1 x7 = true := by rw [← (hlk0.out x7 fx).1]; exact has_true_of_atKey hat
        have hx1 : x7 ∈ s1 := (hS1.1 x7).1 (hasK_iff.1 hhas)
        obtain ⟨q, hq⟩ : ∃ q, decide (x7 ∈ s2) = q := ⟨_, rfl⟩
        have hM3 := hM.kept hg2 (by simpa using fun e => hne2 e.symm)
        have hB3 : Below w.heap.size w w3 := hB.grown hg2 hB.size (fun k e => by cases e; exact hitle)
        have hsz4 := hB3.size
        have hin2 : q = true → ∀ p, LbKey p → has D (klL p) = true → (left (klL p) && !(klL p).sameKey (klL x7)) = false → p ∈ s2 := fun hqt p hp h1 h2 => by
          rw [show (klL p).sameKey (klL x7) = decide (p = x7) from lbKL.same hp fx] at h2
          cases hl : left (klL p)
          · exact hin.out p hp h1 hl
          · rw [hl] at h2
            have : p = x7 := by simpa using h2
            rw [this]
            exact of_decide_eq_true (hq.trans hqt)
        have hno : q = false → res = false := fun hqf => by
          rw [hres.out]
          have : withinL s1 s2 = false := by
            unfold withinL
            rw [List.all_eq_false]
            exact ⟨x7, hx1, by rw [hq, hqf]; simp⟩
          rw [this]
          rfl
        have hlb := fun o => look_bool (hM3.alloc o) fx
        rw [hS2.look x7, hq] at hlb
        replace hin2 := Lib.hid hin2
        replace hno := Lib.hid hno
        clear hs2 hkey7 hhas hx1 hq hat hin hres ex hv hlk fx hM
        obtain ⟨i7, x7, y7, r7, t7, u7_⟩ := x7
        cases q
        · obtain rfl := hno.out rfl
          clear hno hin2
          go_wp2_with fail
          go_ret
          exact ⟨rfl, hB3.alloc hsz4 _⟩
        · go_wp2_with fail
          go_roundw
          case rel => exact ⟨_, cnt2, hrg2.alloc _, hM3.alloc _, Lib.hid (hin2.out rfl), hB3.alloc hsz4 _⟩
          case measure =>
            rw [(hrg2.alloc _).left_eq, hrg.left_eq]
            exact hlt
  · obtain rfl : res = false := by
      cases res
      · rfl
      · obtain ⟨rfl, rfl, rfl⟩ := hall.out rfl
        exact absurd rfl hgo
    clear hall hres
    cases o
    · go_enter Try.func63, Try.ntmps63
      go_wp2_with fail
      first | with_reducible refine wp_region_grow2 (by kernel_rfl) (by kernel_rfl) ?_ | with_reducible refine wp_region_grow (by kernel_rfl) (by kernel_rfl) ?_
      repeat (first | go_big_quiet_step (fail) | quiet_step (fail))
      refine wpQuiet_nil ?_
      intro _ hw_
      obtain ⟨p, hw_⟩ := hw_
      subst hw_
      go_wp2_with fail
      go_ret
      exact ⟨rfl, (by repeat' (first | with_reducible exact Below.refl _ _ | with_reducible exact Nat.le_refl _ | with_reducible assumption | with_reducible refine Go.below_growBy' ?_ ?_ _ | with_reducible refine Below.alloc ?_ ?_ _ | with_reducible refine Below.setCell ?_ ?_ _ | with_reducible refine Below.drew ?_ | with_reducible refine Go.le_alloc ?_ | with_reducible refine Go.le_growBy ?_ | with_reducible refine Go.le_setCell ?_ | with_reducible refine Go.le_drew ?_ | omega | (dsimp only; omega)))⟩
    · cases t
      · go_enter Try.func63, Try.ntmps63
        go_wp2_with fail
        first | with_reducible refine wp_region_grow2 (by kernel_rfl) (by kernel_rfl) ?_ | with_reducible refine wp_region_grow (by kernel_rfl) (by kernel_rfl) ?_
        repeat (first | go_big_quiet_step (fail) | quiet_step (fail))
        refine wpQuiet_nil ?_
        intro _ hw_
        obtain ⟨p, hw_⟩ := hw_
        subst hw_
        go_wp2_with fail
        go_ret
        exact ⟨rfl, (by repeat' (first | with_reducible exact Below.refl _ _ | with_reducible exact Nat.le_refl _ | with_reducible assumption | with_reducible refine Go.below_growBy' ?_ ?_ _ | with_reducible refine Below.alloc ?_ ?_ _ | with_reducible refine Below.setCell ?_ ?_ _ | with_reducible refine Below.drew ?_ | with_reducible refine Go.le_alloc ?_ | with_reducible refine Go.le_growBy ?_ | with_reducible refine Go.le_setCell ?_ | with_reducible refine Go.le_drew ?_ | omega | (dsimp only; omega)))⟩
      · cases hk
        · go_enter Try.func63, Try.ntmps63
          go_wp2_with fail
          first | with_reducible refine wp_region_grow2 (by kernel_rfl) (by kernel_rfl) ?_ | with_reducible refine wp_region_grow (by kernel_rfl) (by kernel_rfl) ?_
          repeat (first | go_big_quiet_step (fail) | quiet_step (fail))
          refine wpQuiet_nil ?_
          intro _ hw_
          obtain ⟨p, hw_⟩ := hw_
          subst hw_
          go_wp2_with fail
          go_ret
          exact ⟨rfl, (by repeat' (first | with_reducible exact Below.refl _ _ | with_reducible exact Nat.le_refl _ | with_reducible assumption | with_reducible refine Go.below_growBy' ?_ ?_ _ | with_reducible refine Below.alloc ?_ ?_ _ | with_reducible refine Below.setCell ?_ ?_ _ | with_reducible refine Below.drew ?_ | with_reducible refine Go.le_alloc ?_ | with_reducible refine Go.le_growBy ?_ | with_reducible refine Go.le_setCell ?_ | with_reducible refine Go.le_drew ?_ | omega | (dsimp only; omega)))⟩
        · exact absurd rfl hgo
end Go.Proofs.Ytikojanpbbiaiaa
