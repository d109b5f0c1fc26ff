/-
  Chapter 24: the reference's within, surroundings, twice.
  Chapter 24: relabel.surroundings and relabel.places.
  Chapter 24: relabel.places.
  Chapter 24: the reference's twice, kept.
  Chapter 24: the closure 'same' of relabel.reached.
  Chapter 24: hachureref09.Same on slices of ints.
-/
import Derived.Test.YtikojanpbbiaiaaZe
import Derived.Test.YtikojanpbbiaiaaZd
import Derived.Deep.RegionLaw
namespace Go.Proofs.Ytikojanpbbiaiaa
set_option linter.unusedVariables false
set_option linter.unusedSimpArgs false
open Go.RowKit Go.Shelf
attribute [local go_sem] Oper.semAt_some
attribute [local go_sem ↓] Go.wp_at_zero Go.wp_at_succ

theorem near_eq {a b : Lb} {r : Bool} (h : nearL a b = r) (w : World) : Calls Try.prog 42 #[lbV a, lbV b] w fun e w' => e = .returned (.bool r) ∧ Below w.heap.size w w' := by
  have := near24_any a b w
  rw [h] at this
  exact this
theorem has_eq {l : List Lb} {z : Lb} {r : Bool} (hr : decide (z ∈ l) = r) {v : Value} {w : World} (h : Lst lbE w.heap.size w v l) : Calls Try.prog 90 #[v, lbV z] w fun e w' => e = .returned (.bool r) ∧ Below w.heap.size w w' := by
  have := has_any v l z w h
  rw [hr] at this
  exact this
theorem within_take {a b : List Lb} {k : Nat} {d : Lb} (h : a[k]? = some d) : withinL (a.take (k + 1)) b = (withinL (a.take k) b && decide (d ∈ b)) := by
  unfold withinL
  rw [List.take_add_one, h]
  simp
set_option maxHeartbeats 1000000 in
theorem within_any (va vb : Value) (a b : List Lb) (w : World) (ha : Lst lbE w.heap.size w va a) (hb : Lst lbE w.heap.size w vb b) : Calls Try.prog 77 #[va, vb] w fun e w' => e = .returned (.bool (withinL a b)) ∧ Below w.heap.size w w' := by
  have hlen := ha.len
  obtain ⟨aa, ca, rfl, -⟩ := ha.form
  obtain ⟨ab, cb, rfl, -⟩ := hb.form
  obtain ⟨res, hres⟩ : ∃ b', withinL a b = b' := ⟨_, rfl⟩
  rw [hres]
  replace hres := Lib.hid hres
  obtain ⟨vb, hvb⟩ : ∃ v, Value.slice ab b.length cb = v := ⟨_, rfl⟩
  rw [hvb] at hb
  rw [hvb]
  clear hvb
  go_enter Try.func77, Try.ntmps77
  go_wp2_with fail
  go_loopw [5] (fun kk wr => ∃ k : Nat, k ≤ a.length ∧ kk = .int .i64 (k : Nat) ∧ withinL (a.take k) b = true ∧ Below w.heap.size w wr) (fun kk _ => a.length - (intOf kk).toNat)
  case atStart => exact ⟨0, Nat.zero_le _, rfl, rfl, Below.refl _ _⟩
  case round =>
    obtain ⟨k, hk, rfl, hw, hB⟩ := hrel
    replace hw := Lib.hid hw
    by_cases hlt : k < a.length
    · have hltI : (k : Int) < (a.length : Int) := by omega
      obtain ⟨bb, off, cap', i, x, y, r, t, u, hv, hget, hbl, hc⟩ := ha.get hlt
      simp only [Value.slice.injEq, true_and] at hv
      obtain ⟨rfl, rfl⟩ := hv
      obtain ⟨c0, c1, c2, c3, c4, c5⟩ := hc.below hB hbl
      have ht := within_take (b := b) hget
      rw [hw.out, Bool.true_and] at ht
      have hbr := (hb.below hB).mono hB.size
      obtain ⟨q, hq⟩ : ∃ q, decide ((⟨i, x, y, r, t, u⟩ : Lb) ∈ b) = q := ⟨_, rfl⟩
      rw [hq] at ht
      have hcall := has_eq hq hbr
      replace ht := Lib.hid ht
      have hfin : q = false → withinL a b = false := fun h => by
        subst h
        have h1 : withinL (a.take (k + 1)) b = false := ht.out
        unfold withinL at h1 ⊢
        rw [List.all_eq_false] at h1 ⊢
        obtain ⟨z, hz, h2⟩ := h1
        exact ⟨z, List.mem_of_mem_take hz, h2⟩
      replace hfin := Lib.hid hfin
      clear hq hc hget hbr
      go_upto_if 18 with (first
        | (go_at_call 90; (with_reducible refine hcall.mono ?_); rintro e w' ⟨rfl, hb_⟩; obtain ⟨p1, rfl⟩ := grow_of_below hb_; clear hb_)
        | fail)
      cases q
      · obtain rfl : res = false := hres.out.symm.trans (hfin.out rfl)
        go_wp2_with fail
        go_ret
        exact ⟨rfl, below_growBy' hB hB.size _⟩
      · simp only [Bool.not_true]
        go_wp2_with fail
        go_roundw
        case rel => exact ⟨k + 1, by omega, by go_num, ht.out, below_growBy' hB hB.size _⟩
        case measure => simp [intOf]; omega
    · obtain rfl : k = a.length := by omega
      have hin : withinL a b = true := by have := hw.out; rw [List.take_length] at this; exact this
      obtain rfl : res = true := hres.out.symm.trans hin
      have hge : ¬ (a.length : Int) < (a.length : Int) := by omega
      clear hin
      go_wp2_with fail
      go_ret
      exact ⟨rfl, hB⟩
theorem surr_take {l : List Lb} {k : Nat} {x d : Lb} (h : l[k]? = some d) : ((l.take (k + 1)).filter fun y => nearL y x) = ((l.take k).filter fun y => nearL y x) ++ (if nearL d x then [d] else []) := by
  rw [List.take_add_one, h, List.filter_append]
  simp [List.filter_cons]
theorem surr_len (l : List Lb) (k : Nat) (x : Lb) : ((l.take k).filter fun y => nearL y x).length ≤ k := Nat.le_trans (List.length_filter_le _ _) (by rw [List.length_take]; omega)
set_option maxRecDepth 100000 in
set_option maxHeartbeats 2000000 in
theorem surr24_any (v : Value) (l : List Lb) (k : Nat) (z : Lb) (w : World) (h : Lst lbE w.heap.size w v l) (hz : l[k]? = some z) (hl : l.length ≤ 100000) :
    Calls Try.prog 76 #[v, .int .i64 (k : Nat)] w fun e w' => ∃ u, e = .returned u ∧ w'.ownsRow w.heap.size 39 6 u (surr l k z).length ((surr l k z).flatMap lbE.enc) ∧ Below w.heap.size w w' := by
  have hlen := h.len
  have hkl : k < l.length := (List.getElem?_eq_some_iff.1 hz).1
  obtain ⟨b, off, cap, i2, x2, y2, r2, t2, u2, rfl, hz2, hbl, hzc⟩ := h.get hkl
  obtain rfl : z = ⟨i2, x2, y2, r2, t2, u2⟩ := Option.some.inj (hz.symm.trans hz2)
  have hkI : (k : Int) < (l.length : Int) := by omega
  clear hz hz2
  go_enter Try.func76, Try.ntmps76
  go_wp2_with fail
  go_loopw [5, 6] (fun ov jj wr => ∃ j : Nat, j ≤ k ∧ jj = .int .i64 (j : Nat) ∧ wr.ownsRow w.heap.size 39 6 ov ((l.take j).filter fun y => nearL y ⟨i2, x2, y2, r2, t2, u2⟩).length (((l.take j).filter fun y => nearL y ⟨i2, x2, y2, r2, t2, u2⟩).flatMap lbE.enc) ∧ Below w.heap.size w wr) (fun _ jj _ => k - (intOf jj).toNat)
  case atStart => exact ⟨0, Nat.zero_le _, rfl, ⟨by simp, .inl ⟨rfl, by simp⟩⟩, Below.refl _ _⟩
  case round =>
    obtain ⟨j, hj, rfl, hrow, hB⟩ := hrel
    have hsz := hB.size
    by_cases hlt : j < k
    · have hltI : (j : Int) < (k : Int) := by omega
      have hltJ : (j : Int) < (l.length : Int) := by omega
      obtain ⟨i, x, y, r, t, u, hget, hc⟩ := h.get2 (k := j) (by omega)
      obtain ⟨c0, c1, c2, c3, c4, c5⟩ := hc.below hB hbl
      obtain ⟨z0, z1, z2, z3, z4, z5⟩ := hzc.below hB hbl
      have hs := surr_take (x := ⟨i2, x2, y2, r2, t2, u2⟩) hget
      have hsl := surr_len l j ⟨i2, x2, y2, r2, t2, u2⟩
      obtain ⟨q, hq⟩ : ∃ q, nearL ⟨i, x, y, r, t, u⟩ ⟨i2, x2, y2, r2, t2, u2⟩ = q := ⟨_, rfl⟩
      rw [hq] at hs
      obtain ⟨S, hS⟩ : ∃ S, ((l.take j).filter fun y => nearL y ⟨i2, x2, y2, r2, t2, u2⟩) = S := ⟨_, rfl⟩
      rw [hS] at hs hsl hrow
      replace hs := Lib.hid hs
      replace hq := Lib.hid hq
      clear hS hget
      go_wp2_with fail
      first | with_reducible refine wp_region_grow2 (by kernel_rfl) (by kernel_rfl) ?_ | with_reducible refine wp_region_grow (by kernel_rfl) (by kernel_rfl) ?_
      repeat (first | go_big_quiet_step ((go_at_call 42; exact Calls.grow_of (near_eq hq.out _))) | quiet_step ((go_at_call 42; exact Calls.grow_of (near_eq hq.out _))))
      refine wpQuiet_nil ?_
      intro _ hw_
      obtain ⟨p, hw_⟩ := hw_
      subst hw_
      have hrow1 := ownsRow_turn hrow (grownBy_growBy wr p) (fun r e => by cases e)
      have hB1 : Below w.heap.size w (wr.growBy p) := below_growBy' hB hsz p
      obtain ⟨W1, hW1⟩ : ∃ W, wr.growBy p = W := ⟨_, rfl⟩
      rw [hW1] at hrow1 hB1
      rw [hW1]
      clear hW1 c0 c1 c2 c3 c4 c5 z0 z1 z2 z3 z4 z5 hrow
      obtain ⟨c0, c1, c2, c3, c4, c5⟩ := hc.below hB1 hbl
      have hsz1 := hB1.size
      cases q
      · go_wp2_with fail
        go_roundw
        case rel => exact ⟨j + 1, by omega, by go_num, by rw [hs.out]; simpa using hrow1, hB1⟩
        case measure => simp [intOf]; omega
      · have hrow2 := hrow1
        go_wp2_with (first
          | (at_builtin; refine El.push lbOk lbIn (by rfl) _ _ (by rfl) (by rfl) hrow2 ⟨i, x, y, r, t, u⟩ (by rfl) rfl hsz1 (by omega) ?_; intro v9 w9 hrow9 hf9 hg9 hb9)
          | fail)
        go_roundw
        case rel => exact ⟨j + 1, by omega, by go_num, by rw [hs.out]; simpa using hrow9, hB1.trans hb9⟩
        case measure => simp [intOf]; omega
    · obtain rfl : j = k := by omega
      have hge : ¬ (j : Int) < (j : Int) := by omega
      go_wp2_with fail
      go_ret
      exact ⟨_, rfl, hrow, hB⟩
end Go.Proofs.Ytikojanpbbiaiaa
namespace Go.Proofs.Ytikojanpbbiaiaa
set_option linter.unusedVariables false
set_option linter.unusedSimpArgs false
open Go.RowKit Go.Shelf Go.Maps
attribute [local go_sem] Oper.semAt_some
attribute [local go_sem ↓] Go.wp_at_zero Go.wp_at_succ

theorem nearI_eq {a b : Lb} {q : Bool} (h : nearL a b = q) (w : World) : Calls Try.prog 65 #[lbV a, lbV b] w fun e w' => e = .returned (.bool q) ∧ Below w.heap.size w w' := by
  have := near_any a b w
  rw [h] at this
  exact this
/-- a set of labels, each once, all true -/
def SetIs (en : List (Lb × Bool)) (s : List Lb) : Prop := (∀ p, p ∈ en.map (·.1) ↔ p ∈ s) ∧ ∀ e ∈ en, e.2 = true
theorem SetIs.nil : SetIs [] [] := ⟨by simp, by simp⟩
theorem SetIs.put {en : List (Lb × Bool)} {s : List Lb} (h : SetIs en s) (p : Lb) : SetIs (putE en p true) (s ++ [p]) := by
  refine ⟨fun q => ?_, fun e he => ?_⟩
  · rw [← hasK_iff, hasK_put, Bool.or_eq_true, decide_eq_true_iff, hasK_iff, h.1 q]
    simp [or_comm]
  · unfold putE at he
    split at he
    · obtain ⟨e', he', rfl⟩ := List.mem_map.1 he
      split
      · rfl
      · exact h.2 e' he'
    · rcases List.mem_append.1 he with h' | h'
      · exact h.2 e h'
      · rw [List.mem_singleton.1 h']
/-- a set of labels came back, in a block of its own -/
def SurrR (w : World) (k : Nat) (s : List Lb) (e : Ending) (w' : World) : Prop := ∃ mb n en, e = .returned (.map (some mb)) ∧ w.heap.size ≤ mb ∧ n ≤ k ∧ MapK Try.prog lbK boolV w' mb n en ∧ SetIs en s ∧ Below w.heap.size w w'
set_option maxRecDepth 100000 in
set_option maxHeartbeats 4000000 in
theorem surrI_any (v : Value) (l : List Lb) (k : Nat) (z : Lb) (w : World) (h : Lst lbE w.heap.size w v l) (hz : l[k]? = some z) (hl : l.length ≤ 100000) (hok : ∀ x ∈ l, LbKey x) :
    Calls Try.prog 64 #[v, .int .i64 (k : Nat)] w fun e w' => SurrR w k (surr l k z) e w' := by
  have hlen := h.len
  have hkl : k < l.length := (List.getElem?_eq_some_iff.1 hz).1
  obtain ⟨b, off, cap, i2, x2, y2, r2, t2, u2, rfl, hz2, hbl, hzc⟩ := h.get hkl
  obtain rfl : z = ⟨i2, x2, y2, r2, t2, u2⟩ := Option.some.inj (hz.symm.trans hz2)
  have hcap : l.length ≤ cap := by
    obtain ⟨_, _, e, hc, -⟩ := h
    cases e
    exact hc
  have hkI : (k : Int) < (l.length : Int) := by omega
  have hkc : (k : Int) ≤ (cap : Int) := by omega
  have hmm := @run_makeMap Try.prog
  clear hz hz2
  go_enter Try.func64, Try.ntmps64
  go_wp2_with fail
  have hM0 := MapK.made Try.prog lbK boolV w
  have hB0 : Below w.heap.size w (w.alloc (.map #[] 0)) := (by repeat' (first | with_reducible exact Below.refl _ _ | with_reducible exact Nat.le_refl _ | with_reducible assumption | with_reducible refine Go.below_growBy' ?_ ?_ _ | with_reducible refine Below.alloc ?_ ?_ _ | with_reducible refine Below.setCell ?_ ?_ _ | with_reducible refine Below.drew ?_ | with_reducible refine Go.le_alloc ?_ | with_reducible refine Go.le_growBy ?_ | with_reducible refine Go.le_setCell ?_ | with_reducible refine Go.le_drew ?_ | omega | (dsimp only; omega)))
  obtain ⟨W0, hW0⟩ : ∃ W, w.alloc (.map #[] 0) = W := ⟨_, rfl⟩
  rw [hW0] at hM0 hB0
  rw [hW0]
  clear hW0 hmm
  obtain ⟨mb, hmb⟩ : ∃ m, w.heap.size = m := ⟨_, rfl⟩
  have hmle : w.heap.size ≤ mb := by omega
  rw [hmb] at hM0
  rw [hmb]
  clear hmb
  go_loopw [13] (fun jj wr => ∃ (j n : Nat) (en : List (Lb × Bool)), j ≤ k ∧ jj = .int .i64 (j : Nat) ∧ n ≤ j ∧ MapK Try.prog lbK boolV wr mb n en ∧ SetIs en ((l.take j).filter fun y => nearL y ⟨i2, x2, y2, r2, t2, u2⟩) ∧ Below w.heap.size w wr) (fun jj _ => k - (intOf jj).toNat)
  case atStart => exact ⟨0, 0, [], Nat.zero_le _, rfl, Nat.le_refl _, hM0, by simpa using SetIs.nil, hB0⟩
  case round =>
    clear hM0 hB0
    obtain ⟨j, n, en, hj, rfl, hn, hM, hS, hB⟩ := hrel
    have hsz := hB.size
    by_cases hlt : j < k
    · have hltI : (j : Int) < (k : Int) := by omega
      have hltJ : (j : Int) < (l.length : Int) := by omega
      obtain ⟨i, x, y, r, t, u, hget, hc⟩ := h.get2 (k := j) (by omega)
      obtain ⟨c0, c1, c2, c3, c4, c5⟩ := hc.below hB hbl
      have hs := surr_take (x := ⟨i2, x2, y2, r2, t2, u2⟩) hget
      have hkey : LbKey ⟨i, x, y, r, t, u⟩ := hok _ (List.mem_of_getElem? hget)
      obtain ⟨q, hq⟩ : ∃ q, nearL ⟨i, x, y, r, t, u⟩ ⟨i2, x2, y2, r2, t2, u2⟩ = q := ⟨_, rfl⟩
      rw [hq] at hs
      obtain ⟨S, hS_⟩ : ∃ S, ((l.take j).filter fun y => nearL y ⟨i2, x2, y2, r2, t2, u2⟩) = S := ⟨_, rfl⟩
      rw [hS_] at hs hS
      replace hs := Lib.hid hs
      replace hq := Lib.hid hq
      clear hS_ hget
      go_wp2_with fail
      have kX := Blk.new wr #[.int .i64 i, .int .i64 x, .int .i64 y, .int .i64 r, .string t, .int .i64 u] 39
      have hM1 := hM.alloc (.cells #[.int .i64 i, .int .i64 x, .int .i64 y, .int .i64 r, .string t, .int .i64 u] 39)
      have hB1 : Below w.heap.size w (wr.alloc (.cells #[.int .i64 i, .int .i64 x, .int .i64 y, .int .i64 r, .string t, .int .i64 u] 39)) := hB.alloc hsz _
      obtain ⟨W1, hW1⟩ : ∃ W, wr.alloc (.cells #[.int .i64 i, .int .i64 x, .int .i64 y, .int .i64 r, .string t, .int .i64 u] 39) = W := ⟨_, rfl⟩
      obtain ⟨BX, hBX⟩ : ∃ b, wr.heap.size = b := ⟨_, rfl⟩
      rw [hW1] at kX hM1 hB1
      rw [hW1]
      rw [hBX] at kX
      rw [hBX]
      clear hW1 hM c0 c1 c2 c3 c4 c5
      have hsz1 := hB1.size
      obtain ⟨z0, z1, z2, z3, z4, z5⟩ := hzc.below hB1 hbl
      have x0 : W1.cell? ⟨BX, 0, none⟩ = some (.int .i64 i) := kX.cell 0
      have x1 : W1.cell? ⟨BX, 1, none⟩ = some (.int .i64 x) := kX.cell 1
      have x2_ : W1.cell? ⟨BX, 2, none⟩ = some (.int .i64 y) := kX.cell 2
      have x3 : W1.cell? ⟨BX, 3, none⟩ = some (.int .i64 r) := kX.cell 3
      have x4 : W1.cell? ⟨BX, 4, none⟩ = some (.string t) := kX.cell 4
      have x5 : W1.cell? ⟨BX, 5, none⟩ = some (.int .i64 u) := kX.cell 5
      first | with_reducible refine wp_region_grow2 (by kernel_rfl) (by kernel_rfl) ?_ | with_reducible refine wp_region_grow (by kernel_rfl) (by kernel_rfl) ?_
      repeat (first | go_big_quiet_step ((go_at_call 65; exact Calls.grow_of (nearI_eq hq.out _))) | quiet_step ((go_at_call 65; exact Calls.grow_of (nearI_eq hq.out _))))
      refine wpQuiet_nil ?_
      intro _ hw_
      obtain ⟨p, hw_⟩ := hw_
      subst hw_
      have hM2 := hM1.kept (grownBy_growBy W1 p) (by simp)
      have kX2 : Blk (W1.growBy p) BX _ _ := kX.kept (grownBy_growBy W1 p) (by simp)
      have hB2 : Below w.heap.size w (W1.growBy p) := below_growBy' hB1 hsz1 p
      obtain ⟨W2, hW2⟩ : ∃ W, W1.growBy p = W := ⟨_, rfl⟩
      rw [hW2] at hM2 hB2 kX2
      rw [hW2]
      clear hW2 z0 z1 z2 z3 z4 z5 x0 x1 x2_ x3 x4 x5 hB1 hM1 kX
      have hsz2 := hB2.size
      have x0 : W2.cell? ⟨BX, 0, none⟩ = some (.int .i64 i) := kX2.cell 0
      have x1 : W2.cell? ⟨BX, 1, none⟩ = some (.int .i64 x) := kX2.cell 1
      have x2_ : W2.cell? ⟨BX, 2, none⟩ = some (.int .i64 y) := kX2.cell 2
      have x3 : W2.cell? ⟨BX, 3, none⟩ = some (.int .i64 r) := kX2.cell 3
      have x4 : W2.cell? ⟨BX, 4, none⟩ = some (.string t) := kX2.cell 4
      have x5 : W2.cell? ⟨BX, 5, none⟩ = some (.int .i64 u) := kX2.cell 5
      cases q
      · go_wp2_with fail
        go_roundw
        case rel => exact ⟨j + 1, n, en, by omega, by go_num, by omega, hM2, by rw [hs.out]; simpa using hS, hB2⟩
        case measure => simp [intOf]; omega
      · go_wp2_with (first
          | (at_mapUpdate; refine hM2.wp_store lbKL (by rfl) _ _ _ 120 (by rfl) Try.underlying120 (by rfl) (by unfold maxLen; omega) hkey (by rfl) (by rfl) (y := true) (plainElem_bool Try.underlying4 true) ?_; intro w9 hM9 hg9)
          | fail)
        have hB9 : Below w.heap.size w w9 := hB2.grown hg9 hB2.size (fun k e => by cases e; exact hmle)
        go_roundw
        case rel => exact ⟨j + 1, n + 1, _, by omega, by go_num, by omega, hM9, by rw [hs.out]; simpa using hS.put _, hB9⟩
        case measure => simp [intOf]; omega
    · obtain rfl : j = k := by omega
      have hge : ¬ (j : Int) < (j : Int) := by omega
      go_wp2_with fail
      refine bodyPost_ret (results_tmp (by rfl) _ _ _) rfl ?_
      exact ⟨mb, n, en, rfl, hmle, hn, hM, hS, hB⟩
end Go.Proofs.Ytikojanpbbiaiaa
namespace Go.Proofs.Ytikojanpbbiaiaa
set_option linter.unusedVariables false
set_option linter.unusedSimpArgs false
open Go.RowKit Go.Shelf Go.Maps
attribute [local go_sem] Oper.semAt_some
attribute [local go_sem ↓] Go.wp_at_zero Go.wp_at_succ

/-- where each label stands, the last time -/
def AtIs (en : List (Lb × Int)) (l : List Lb) : Prop := ∀ p, idOf en p = none ∧ p ∉ l ∨ ∃ j : Nat, idOf en p = some (j : Int) ∧ l[j]? = some p
theorem AtIs.nil : AtIs [] [] := fun p => .inl ⟨rfl, by simp⟩
theorem AtIs.put {en : List (Lb × Int)} {l : List Lb} {j : Nat} {x : Lb} (h : AtIs en (l.take j)) (hx : l[j]? = some x) : AtIs (putE en x (j : Int)) (l.take (j + 1)) := fun p => by
  have hj : j < l.length := (List.getElem?_eq_some_iff.1 hx).1
  rw [idOf_put]
  by_cases hp : p = x
  · subst hp
    exact .inr ⟨j, by rw [if_pos rfl], by rw [List.getElem?_take_of_lt (by omega)]; exact hx⟩
  · rw [if_neg hp]
    rcases h p with ⟨h1, h2⟩ | ⟨i, h1, h2⟩
    · exact .inl ⟨h1, fun hm => (((mem_take_succ hx).1 hm).elim h2 hp)⟩
    · have hi : i < j := by
        have := (List.getElem?_eq_some_iff.1 h2).1
        rw [List.length_take] at this
        omega
      refine .inr ⟨i, h1, ?_⟩
      rw [List.getElem?_take_of_lt hi] at h2
      rw [List.getElem?_take_of_lt (by omega)]
      exact h2
/-- the ids met so far, each once -/
def IdsIs (en : List (Int × Bool)) (l : List Int) (j : Nat) : Prop := (∀ p, hasK en p = decide (p ∈ l.take j)) ∧ en.length ≤ j ∧ (en.length = j ↔ (l.take j).Nodup)
theorem IdsIs.nil (l : List Int) : IdsIs [] l 0 := ⟨fun p => by simp [hasK], by simp, by simp⟩
theorem IdsIs.put {en : List (Int × Bool)} {l : List Int} {j : Nat} {x : Int} (h : IdsIs en l j) (hx : l[j]? = some x) : IdsIs (putE en x true) l (j + 1) := by
  obtain ⟨h1, h2, h3⟩ := h
  have ht : l.take (j + 1) = l.take j ++ [x] := by rw [List.take_add_one, hx]; rfl
  refine ⟨fun p => ?_, ?_, ?_⟩
  · rw [hasK_put, h1 p, ht]
    rw [Bool.eq_iff_iff]
    simp [or_comm]
  · rw [putE_length]
    split <;> omega
  · rw [putE_length, h1 x, ht, List.nodup_append]
    by_cases hm : x ∈ l.take j
    · simp only [hm, decide_true, if_true]
      constructor
      · intro e; omega
      · rintro ⟨-, -, h4⟩
        exact absurd rfl (h4 x hm x (by simp))
    · simp only [hm, decide_false, Bool.false_eq_true, if_false]
      constructor
      · intro e
        exact ⟨h3.1 (by omega), by simp, fun a ha c hc => by simp at hc; subst hc; exact fun e => hm (e ▸ ha)⟩
      · rintro ⟨h4, -, -⟩
        have := h3.2 h4
        omega
/-- the maps came back -/
def PlR (w : World) (l : List Lb) (e : Ending) (w' : World) : Prop := ∃ mb n en, e = .returned (.tuple #[.map (some mb), .bool (decide (l.map Lb.id).Nodup)]) ∧ w.heap.size ≤ mb ∧ MapK Try.prog lbK intV w' mb n en ∧ AtIs en l ∧ Below w.heap.size w w'
set_option maxRecDepth 100000 in
set_option maxHeartbeats 4000000 in
theorem places_any (v : Value) (l : List Lb) (w : World) (h : Lst lbE w.heap.size w v l) (hl : l.length ≤ 100000) (hok : ∀ x ∈ l, LbKey x) :
    Calls Try.prog 62 #[v] w fun e w' => PlR w l e w' := by
  have hlen := h.len
  obtain ⟨a, cap, rfl, -⟩ := h.form
  have hmm := @run_makeMap Try.prog
  go_enter Try.func62, Try.ntmps62
  go_wp2_with fail
  have hM0 := (MapK.made Try.prog inK boolV w).alloc (.map #[] 0)
  have hA0 := MapK.made Try.prog lbK intV (w.alloc (.map #[] 0))
  have hB0 : Below w.heap.size w ((w.alloc (.map #[] 0)).alloc (.map #[] 0)) := (by repeat' (first | with_reducible exact Below.refl _ _ | with_reducible exact Nat.le_refl _ | with_reducible assumption | with_reducible refine Go.below_growBy' ?_ ?_ _ | with_reducible refine Below.alloc ?_ ?_ _ | with_reducible refine Below.setCell ?_ ?_ _ | with_reducible refine Below.drew ?_ | with_reducible refine Go.le_alloc ?_ | with_reducible refine Go.le_growBy ?_ | with_reducible refine Go.le_setCell ?_ | with_reducible refine Go.le_drew ?_ | omega | (dsimp only; omega)))
  simp only [World.size_alloc] at hA0
  obtain ⟨W0, hW0⟩ : ∃ W, (w.alloc (.map #[] 0)).alloc (.map #[] 0) = W := ⟨_, rfl⟩
  rw [hW0] at hM0 hB0 hA0
  rw [hW0]
  clear hW0 hmm
  obtain ⟨mb, hmb⟩ : ∃ m, w.heap.size = m := ⟨_, rfl⟩
  have hmle : w.heap.size ≤ mb := by omega
  rw [hmb] at hM0 hA0
  rw [hmb]
  obtain ⟨ma, hma⟩ : ∃ m, mb + 1 = m := ⟨_, rfl⟩
  rw [hma] at hA0
  rw [hma]
  have hale : w.heap.size ≤ ma := by omega
  have hne : mb ≠ ma := by omega
  clear hmb hma
  go_loopw [12] (fun jj wr => ∃ (j n n2 : Nat) (en : List (Int × Bool)) (en2 : List (Lb × Int)), j ≤ l.length ∧ jj = .int .i64 (j : Nat) ∧ n ≤ j ∧ n2 ≤ j ∧ MapK Try.prog inK boolV wr mb n en ∧ MapK Try.prog lbK intV wr ma n2 en2 ∧ IdsIs en (l.map Lb.id) j ∧ AtIs en2 (l.take j) ∧ Below w.heap.size w wr) (fun jj _ => l.length - (intOf jj).toNat)
  case atStart => exact ⟨0, 0, 0, [], [], Nat.zero_le _, rfl, Nat.le_refl _, Nat.le_refl _, hM0, hA0, IdsIs.nil _, by simpa using AtIs.nil, hB0⟩
  case round =>
    clear hM0 hB0 hA0
    obtain ⟨j, n, n2, en, en2, hj, rfl, hn, hn2, hM, hA, hI, hS, hB⟩ := hrel
    have hsz := hB.size
    by_cases hlt : j < l.length
    · have hltI : (j : Int) < (l.length : Int) := by omega
      obtain ⟨b, off, cap', i, x, y, r, t, u, hv, hget, hbl, hc⟩ := h.get hlt
      simp only [Value.slice.injEq, true_and] at hv
      obtain ⟨rfl, rfl⟩ := hv
      obtain ⟨c0, c1, c2, c3, c4, c5⟩ := hc.below hB hbl
      have hkey : LbKey ⟨i, x, y, r, t, u⟩ := hok _ (List.mem_of_getElem? hget)
      have hget2 : (l.map Lb.id)[j]? = some i := by rw [List.getElem?_map, hget]; rfl
      have hI2 := hI.put hget2
      have hS2 := hS.put hget
      clear hget hget2 hI hS
      go_upto_region 6 with fail
      have kX := Blk.new wr #[.int .i64 i, .int .i64 x, .int .i64 y, .int .i64 r, .string t, .int .i64 u] 39
      have hM1 := hM.alloc (.cells #[.int .i64 i, .int .i64 x, .int .i64 y, .int .i64 r, .string t, .int .i64 u] 39)
      have hA1 := hA.alloc (.cells #[.int .i64 i, .int .i64 x, .int .i64 y, .int .i64 r, .string t, .int .i64 u] 39)
      have hB1 : Below w.heap.size w (wr.alloc (.cells #[.int .i64 i, .int .i64 x, .int .i64 y, .int .i64 r, .string t, .int .i64 u] 39)) := hB.alloc hsz _
      obtain ⟨W1, hW1⟩ : ∃ W, wr.alloc (.cells #[.int .i64 i, .int .i64 x, .int .i64 y, .int .i64 r, .string t, .int .i64 u] 39) = W := ⟨_, rfl⟩
      obtain ⟨BX, hBX⟩ : ∃ b, wr.heap.size = b := ⟨_, rfl⟩
      have hlb := hM.lt
      have hla := hA.lt
      have hbx : mb ≠ BX := by omega
      have hax : ma ≠ BX := by omega
      rw [hW1] at kX hM1 hB1 hA1
      rw [hW1]
      rw [hBX] at kX
      rw [hBX]
      clear hW1 hM hA c0 c1 c2 c3 c4 c5 hlb hla
      have x0 : W1.cell? ⟨BX, 0, none⟩ = some (.int .i64 i) := kX.cell 0
      go_upto_region 7 with (first
          | (at_mapUpdate; refine hM1.wp_store inKL (by rfl) _ _ _ 143 (by rfl) Try.underlying143 (by rfl) (by unfold maxLen; omega) hkey.id (by rfl) (by rfl) (y := true) (plainElem_bool Try.underlying4 true) ?_; intro w8 hM8 hg8)
          | fail)
      have hA8 := hA1.kept hg8 (by simpa using hne)
      have kX8 := kX.kept hg8 (by simpa using hbx)
      have hB8 : Below w.heap.size w w8 := hB1.grown hg8 hB1.size (fun k e => by cases e; exact hmle)
      have x0' : w8.cell? ⟨BX, 0, none⟩ = some (.int .i64 i) := kX8.cell 0
      have x1 : w8.cell? ⟨BX, 1, none⟩ = some (.int .i64 x) := kX8.cell 1
      have x2_ : w8.cell? ⟨BX, 2, none⟩ = some (.int .i64 y) := kX8.cell 2
      have x3 : w8.cell? ⟨BX, 3, none⟩ = some (.int .i64 r) := kX8.cell 3
      have x4 : w8.cell? ⟨BX, 4, none⟩ = some (.string t) := kX8.cell 4
      have x5 : w8.cell? ⟨BX, 5, none⟩ = some (.int .i64 u) := kX8.cell 5
      go_wp2_with (first
          | (at_mapUpdate; refine hA8.wp_store lbKL (by rfl) _ _ _ 116 (by rfl) Try.underlying116 (by rfl) (by unfold maxLen; omega) hkey (by rfl) (by rfl) (y := (j : Int)) (plainElem_int Try.underlying3 (lit_wf ⟨by omega, by omega⟩)) ?_; intro w9 hA9 hg9)
          | fail)
      have hM9 := hM8.kept hg9 (by simpa using fun e => hne e.symm)
      have hB9 : Below w.heap.size w w9 := hB8.grown hg9 hB8.size (fun k e => by cases e; exact hale)
      go_roundw
      case rel => exact ⟨j + 1, n + 1, n2 + 1, _, _, by omega, by go_num, by omega, by omega, hM9, hA9, hI2, hS2, hB9⟩
      case measure => simp [intOf]; omega
    · obtain rfl : j = l.length := by omega
      have hge : ¬ (l.length : Int) < (l.length : Int) := by omega
      have hd : decide (((en.length : Nat) : Int) = ((l.length : Nat) : Int)) = decide (l.map Lb.id).Nodup := by
        have h3 := hI.2.2
        rw [List.take_of_length_le (by simp)] at h3
        exact decide_eq_decide.2 (by rw [← h3]; omega)
      go_wp2_with (first
          | (at_len; refine hM.wp_len (by rfl) _ 143 (by rfl) Try.underlying143 (by rfl) ?_)
          | fail)
      go_ret2
      refine ⟨ma, n2, en2, ?_, hale, hA, by rw [List.take_length] at hS; exact hS, hB⟩
      simp only [← hd]
      rfl
end Go.Proofs.Ytikojanpbbiaiaa
namespace Go.Proofs.Ytikojanpbbiaiaa
set_option linter.unusedVariables false
set_option linter.unusedSimpArgs false
open Go.RowKit Go.Shelf
attribute [local go_sem] Oper.semAt_some
attribute [local go_sem ↓] Go.wp_at_zero Go.wp_at_succ

theorem ids_take {l : List Lb} {k : Nat} {d : Lb} (h : l[k]? = some d) : (l.take (k + 1)).map Lb.id = (l.take k).map Lb.id ++ [d.id] := by
  rw [List.take_add_one, h]
  simp
theorem nodup_snoc {l : List Int} {x : Int} : (l ++ [x]).Nodup ↔ l.Nodup ∧ x ∉ l := by
  rw [List.nodup_append]
  refine ⟨fun ⟨h1, _, h3⟩ => ⟨h1, fun h => h3 x h x (by simp) rfl⟩, fun ⟨h1, h2⟩ => ⟨h1, by simp, fun a ha b hb e => ?_⟩⟩
  simp at hb
  subst hb
  subst e
  exact h2 ha
set_option maxHeartbeats 1000000 in
theorem twice_any (v : Value) (l : List Lb) (w : World) (h : Lst lbE w.heap.size w v l) : Calls Try.prog 40 #[v] w fun e w' => e = .returned (.bool (twiceL l)) ∧ Below w.heap.size w w' := by
  have hlen := h.len
  obtain ⟨a, cap, rfl, -⟩ := h.form
  obtain ⟨res, hres⟩ : ∃ b', twiceL l = b' := ⟨_, rfl⟩
  rw [hres]
  replace hres := Lib.hid hres
  go_enter Try.func40, Try.ntmps40
  go_wp2_with fail
  go_loopw [3] (fun kk wr => ∃ k : Nat, k ≤ l.length ∧ kk = .int .i64 (k : Nat) ∧ ((l.take k).map Lb.id).Nodup ∧ Below w.heap.size w wr) (fun kk _ => l.length - (intOf kk).toNat)
  case atStart => exact ⟨0, Nat.zero_le _, rfl, by simp, Below.refl _ _⟩
  case round =>
    obtain ⟨k, hk, rfl, hn, hB⟩ := hrel
    replace hn := Lib.hid hn
    by_cases hlt : k < l.length
    · have hltI : (k : Int) < (l.length : Int) := by omega
      obtain ⟨bb, off, cap', i2, x2, y2, r2, t2, u2, hv, hget, hbl, hc⟩ := h.get hlt
      simp only [Value.slice.injEq, true_and] at hv
      obtain ⟨rfl, rfl⟩ := hv
      have hids := ids_take hget
      simp only at hids
      replace hids := Lib.hid hids
      go_wp2_with fail
      go_loopw [4] (fun jj wr => ∃ j : Nat, j ≤ k ∧ jj = .int .i64 (j : Nat) ∧ i2 ∉ (l.take j).map Lb.id ∧ Below w.heap.size w wr) (fun jj _ => k - (intOf jj).toNat)
      case atStart => exact ⟨0, Nat.zero_le _, rfl, by simp, hB⟩
      case round =>
        clear hB
        obtain ⟨j, hj, rfl, hno, hB⟩ := hrel
        replace hno := Lib.hid hno
        by_cases hltj : j < k
        · have hltI : (j : Int) < (k : Int) := by omega
          have hltJ : (j : Int) < (l.length : Int) := by omega
          obtain ⟨i, x, y, r, t, u, hget2, hc2⟩ := h.get2 (k := j) (by omega)
          obtain ⟨c0, -, -, -, -, -⟩ := hc2.below hB hbl
          obtain ⟨z0, -, -, -, -, -⟩ := hc.below hB hbl
          have hids2 := ids_take hget2
          simp only at hids2
          replace hids2 := Lib.hid hids2
          by_cases hii : i = i2
          · subst hii
            have hin : twiceL l = true := by
              unfold twiceL
              refine decide_eq_true (fun hnd => ?_)
              have h1 : ((l.take (k + 1)).map Lb.id).Nodup := hnd.sublist ((List.take_sublist _ _).map _)
              rw [hids.out, nodup_snoc] at h1
              refine h1.2 ?_
              have h2 : i ∈ (l.take (j + 1)).map Lb.id := by rw [hids2.out]; simp
              have h3 : l.take (j + 1) = (l.take k).take (j + 1) := by rw [List.take_take, Nat.min_eq_left (by omega)]
              rw [h3] at h2
              exact ((List.take_sublist _ _).map _).subset h2
            obtain rfl : res = true := hres.out.symm.trans hin
            clear hin hc hc2 hget hget2
            go_wp2_with fail
            first | with_reducible refine wp_region_grow2 (by kernel_rfl) (by kernel_rfl) ?_ | with_reducible refine wp_region_grow (by kernel_rfl) (by kernel_rfl) ?_
            repeat (first | go_big_quiet_step (fail) | quiet_step (fail))
            refine wpQuiet_nil ?_
            intro _ hw_
            obtain ⟨p, hw_⟩ := hw_
            subst hw_
            go_wp2_with fail
            go_ret
            exact ⟨rfl, below_growBy' hB hB.size _⟩
          · have hib : (i == i2) = false := by simpa using hii
            clear hc2 hget2
            go_wp2_with fail
            first | with_reducible refine wp_region_grow2 (by kernel_rfl) (by kernel_rfl) ?_ | with_reducible refine wp_region_grow (by kernel_rfl) (by kernel_rfl) ?_
            repeat (first | go_big_quiet_step (fail) | quiet_step (fail))
            refine wpQuiet_nil ?_
            intro _ hw_
            obtain ⟨p, hw_⟩ := hw_
            subst hw_
            go_wp2_with fail
            go_roundw
            case rel => exact ⟨j + 1, by omega, by go_num, by
              rw [hids2.out, List.mem_append]
              rintro (h1 | h1)
              · exact hno.out h1
              · simp at h1
                exact hii h1.symm, below_growBy' hB hB.size _⟩
            case measure => simp [intOf]; omega
        · obtain rfl : j = k := by omega
          have hge : ¬ (j : Int) < (j : Int) := by omega
          go_wp2_with fail
          go_roundw
          case rel => exact ⟨j + 1, by omega, by go_num, by rw [hids.out, nodup_snoc]; exact ⟨hn.out, hno.out⟩, hB⟩
          case measure => simp [intOf]; omega
    · obtain rfl : k = l.length := by omega
      have hin : twiceL l = false := by
        unfold twiceL
        have := hn.out
        rw [List.take_length] at this
        simpa using this
      obtain rfl : res = false := hres.out.symm.trans hin
      have hge : ¬ (l.length : Int) < (l.length : Int) := by omega
      clear hin
      go_wp2_with fail
      go_ret
      exact ⟨rfl, hB⟩
theorem twice_eq {l : List Lb} {r : Bool} (hr : twiceL l = r) {v : Value} {w : World} (h : Lst lbE w.heap.size w v l) : Calls Try.prog 40 #[v] w fun e w' => e = .returned (.bool r) ∧ Below w.heap.size w w' := by
  have := twice_any v l w h
  rw [hr] at this
  exact this
theorem within_eq {a b : List Lb} {r : Bool} (hr : withinL a b = r) {va vb : Value} {w : World} (ha : Lst lbE w.heap.size w va a) (hb : Lst lbE w.heap.size w vb b) : Calls Try.prog 77 #[va, vb] w fun e w' => e = .returned (.bool r) ∧ Below w.heap.size w w' := by
  have := within_any va vb a b w ha hb
  rw [hr] at this
  exact this
set_option maxRecDepth 100000 in
set_option maxHeartbeats 2000000 in
theorem kept24_any (vo vn : Value) (old next : List Lb) (k : Nat) (z : Lb) (w : World) (ho : Lst lbE w.heap.size w vo old) (hn : Lst lbE w.heap.size w vn next) (hz : next[k]? = some z) (hol : old.length ≤ 1000) (hnl : next.length ≤ 1000) :
    Calls Try.prog 41 #[vo, vn, .int .i64 (k : Nat)] w fun e w' => e = .returned (.bool (keptL old next k z)) ∧ Below w.heap.size w w' := by
  have hkl : k < next.length := (List.getElem?_eq_some_iff.1 hz).1
  obtain ⟨b, off, cap, i2, x2, y2, r2, t2, u2, rfl, hz2, hbl, hzc⟩ := hn.get hkl
  obtain rfl : z = ⟨i2, x2, y2, r2, t2, u2⟩ := Option.some.inj (hz.symm.trans hz2)
  obtain ⟨ao, co, rfl, -⟩ := ho.form
  have hkI : (k : Int) < (next.length : Int) := by omega
  obtain ⟨res, hres⟩ : ∃ b', keptL old next k ⟨i2, x2, y2, r2, t2, u2⟩ = b' := ⟨_, rfl⟩
  rw [hres]
  replace hres := Lib.hid hres
  replace hz2 := Lib.hid hz2
  clear hz
  go_enter Try.func41, Try.ntmps41
  go_wp2_with fail
  go_loopw [7] (fun kk wr => ∃ j : Nat, j ≤ old.length ∧ kk = .int .i64 (j : Nat) ∧ (⟨i2, x2, y2, r2, t2, u2⟩ : Lb) ∉ old.take j ∧ Below w.heap.size w wr) (fun kk _ => old.length - (intOf kk).toNat)
  case atStart => exact ⟨0, Nat.zero_le _, rfl, by simp, Below.refl _ _⟩
  case round =>
    obtain ⟨j, hj, rfl, hno, hB⟩ := hrel
    replace hno := Lib.hid hno
    by_cases hlt : j < old.length
    · have hltI : (j : Int) < (old.length : Int) := by omega
      obtain ⟨bo, offo, cap', i, x, y, r, t, u, hv, hget, hblo, hc⟩ := ho.get hlt
      simp only [Value.slice.injEq, true_and] at hv
      obtain ⟨rfl, rfl⟩ := hv
      obtain ⟨c0, c1, c2, c3, c4, c5⟩ := hc.below hB hblo
      obtain ⟨z0, z1, z2, z3, z4, z5⟩ := hzc.below hB hbl
      have hm := mem_take_succ (x := (⟨i2, x2, y2, r2, t2, u2⟩ : Lb)) hget
      replace hm := Lib.hid hm
      have hg := guardLb
      have hE := eqlLb i x y r u i2 x2 y2 r2 u2 t t2
      by_cases hde : (⟨i, x, y, r, t, u⟩ : Lb) = ⟨i2, x2, y2, r2, t2, u2⟩
      · rw [decide_eq_true hde] at hE
        have hidx := idxL_some old ⟨i2, x2, y2, r2, t2, u2⟩ j (by rw [hget, hde]) hno.out
        have hkept : keptL old next k ⟨i2, x2, y2, r2, t2, u2⟩ = (withinL (surr old j ⟨i2, x2, y2, r2, t2, u2⟩) (surr next k ⟨i2, x2, y2, r2, t2, u2⟩) && withinL (surr next k ⟨i2, x2, y2, r2, t2, u2⟩) (surr old j ⟨i2, x2, y2, r2, t2, u2⟩)) := by
          unfold keptL
          rw [hidx]
        rw [hde] at hget
        replace hget := Lib.hid hget
        replace hkept := Lib.hid hkept
        clear hde hidx hc
        go_wp2_with fail
        first | with_reducible refine wp_region_grow2 (by kernel_rfl) (by kernel_rfl) ?_ | with_reducible refine wp_region_grow (by kernel_rfl) (by kernel_rfl) ?_
        repeat (first | go_big_quiet_step (fail) | quiet_step (fail))
        refine wpQuiet_nil ?_
        intro _ hw_
        obtain ⟨p, hw_⟩ := hw_
        subst hw_
        have hB1 : Below w.heap.size w (wr.growBy p) := below_growBy' hB hB.size p
        obtain ⟨W1, hW1⟩ : ∃ W, wr.growBy p = W := ⟨_, rfl⟩
        rw [hW1] at hB1
        rw [hW1]
        clear hW1 c0 c1 c2 c3 c4 c5 z0 z1 z2 z3 z4 z5 hg hE hB
        have s1 := surr24_any _ old j ⟨i2, x2, y2, r2, t2, u2⟩ W1 ((ho.below hB1).mono hB1.size) hget.out (by omega)
        go_upto_region 6 with (first
          | (go_at_call 76; (with_reducible refine s1.mono ?_); rintro e W2 ⟨ua, rfl, hra, hba⟩)
          | fail)
        have hB2 := hB1.trans (hba.mono hB1.size)
        have s2 := surr24_any _ next k ⟨i2, x2, y2, r2, t2, u2⟩ W2 ((hn.below hB2).mono hB2.size) hz2.out (by omega)
        go_upto_region 7 with (first
          | (go_at_call 76; (with_reducible refine s2.mono ?_); rintro e W3 ⟨ub, rfl, hrb, hbb⟩)
          | fail)
        have hB3 := hB2.trans (hbb.mono hB2.size)
        have la : (surr old j ⟨i2, x2, y2, r2, t2, u2⟩).length ≤ 1000000 := Nat.le_trans (surr_len _ _ _) (by omega)
        have lb : (surr next k ⟨i2, x2, y2, r2, t2, u2⟩).length ≤ 1000000 := Nat.le_trans (surr_len _ _ _) (by omega)
        have hLa := (lst_of_row lbOk hra la).up hbb
        have hLb := lst_of_row lbOk hrb lb
        obtain ⟨q1, hq1⟩ : ∃ q, withinL (surr old j ⟨i2, x2, y2, r2, t2, u2⟩) (surr next k ⟨i2, x2, y2, r2, t2, u2⟩) = q := ⟨_, rfl⟩
        obtain ⟨q2, hq2⟩ : ∃ q, withinL (surr next k ⟨i2, x2, y2, r2, t2, u2⟩) (surr old j ⟨i2, x2, y2, r2, t2, u2⟩) = q := ⟨_, rfl⟩
        have hkr : res = (q1 && q2) := by rw [← hres.out, hkept.out, hq1, hq2]
        have w1 := within_eq hq1 hLa hLb
        have w2 := fun W (hW : Below W3.heap.size W3 W) => within_eq hq2 (hLb.up hW) (hLa.up hW)
        clear hq1 hq2 hra hrb hba hbb s1 s2 hres hkept
        subst hkr
        cases q1
        · go_wp2_with (first
            | (go_at_call 77; (with_reducible refine w1.mono ?_); rintro e W4 ⟨rfl, hb4⟩)
            | fail)
          go_ret
          exact ⟨rfl, hB3.trans (hb4.mono hB3.size)⟩
        · go_wp2_with (first
            | (go_at_call 77; (with_reducible refine w1.mono ?_); rintro e W4 ⟨rfl, hb4⟩)
            | (go_at_call 77; (with_reducible refine (w2 W4 hb4).mono ?_); rintro e W5 ⟨rfl, hb5⟩)
            | fail)
          go_ret
          exact ⟨by simp, hB3.trans ((hb4.trans (hb5.mono hb4.size)).mono hB3.size)⟩
      · rw [decide_eq_false hde] at hE
        replace hde := Lib.hid hde
        replace hget := Lib.hid hget
        clear hc
        go_wp2_with fail
        first | with_reducible refine wp_region_grow2 (by kernel_rfl) (by kernel_rfl) ?_ | with_reducible refine wp_region_grow (by kernel_rfl) (by kernel_rfl) ?_
        repeat (first | go_big_quiet_step (fail) | quiet_step (fail))
        refine wpQuiet_nil ?_
        intro _ hw_
        obtain ⟨p, hw_⟩ := hw_
        subst hw_
        go_wp2_with fail
        go_roundw
        case rel => exact ⟨j + 1, by omega, by go_num, fun hx => by
          rcases hm.out.1 hx with h1 | h1
          · exact hno.out h1
          · exact hde.out h1.symm, below_growBy' hB hB.size _⟩
        case measure => simp [intOf]; omega
    · obtain rfl : j = old.length := by omega
      have hin : keptL old next k ⟨i2, x2, y2, r2, t2, u2⟩ = false := by
        have := hno.out
        rw [List.take_length] at this
        unfold keptL
        rw [idxL_none _ _ this]
      obtain rfl : res = false := hres.out.symm.trans hin
      have hge : ¬ (old.length : Int) < (old.length : Int) := by omega
      clear hin
      go_wp2_with fail
      go_ret
      exact ⟨rfl, hB⟩
end Go.Proofs.Ytikojanpbbiaiaa
namespace Go.Proofs.Ytikojanpbbiaiaa
set_option linter.unusedVariables false
set_option linter.unusedSimpArgs false
open Go.RowKit Go.Shelf Go.Maps
attribute [local go_sem] Oper.semAt_some
attribute [local go_sem ↓] Go.wp_at_zero Go.wp_at_succ

theorem zeroInt (w : World) : (zeroValue 3).run Try.prog w = .ok (.int .i64 0) w := by kernel_rfl
theorem zeroBool (w : World) : (zeroValue 4).run Try.prog w = .ok (.bool false) w := by kernel_rfl
/-- a look with 'ok' at ints -/
theorem look_int {en : List (Lb × Int)} {W : World} {b n : Nat} (h : MapK Try.prog lbK intV W b n en) {p : Lb} (hp : LbKey p) : (Instr.lookup 116 (.map (some b)) (lbV p) true).run Try.prog W = .ok (.tuple #[.int .i64 ((idOf en p).getD 0), .bool (hasK en p)]) W := by
  obtain ⟨D, ho, -, -, -, hD⟩ := h
  obtain ⟨v, ps, hrun, hv⟩ := ho.look_ok lbLaw Try.underlying116 (zeroInt W) (plainElem_int Try.underlying3 (by decide)) (keyOf_lb hp)
  obtain ⟨c, rfl, hc, -⟩ := plainElem_int_inv Try.underlying3 hv
  have h2 := (hD p hp).2
  have h3 := congrArg Prod.fst hc
  simp only at h3
  rw [h2] at h3
  have h4 : (idOf en p).getD 0 = c := by simpa using h3
  rw [hrun, (hD p hp).1, h4]
set_option maxRecDepth 100000 in
/-- a look at bools -/
theorem look_bool {en : List (Lb × Bool)} {W : World} {b n : Nat} (h : MapK Try.prog lbK boolV W b n en) {p : Lb} (hp : LbKey p) : (Instr.lookup 120 (.map (some b)) (lbV p) false).run Try.prog W = .ok (.bool ((idOf en p).getD false)) W := by
  obtain ⟨D, ho, -, -, -, hD⟩ := h
  obtain ⟨v, ps, hrun, hv⟩ := ho.lookup lbLaw Try.underlying120 (zeroBool W) (plainElem_bool Try.underlying4 false) (keyOf_lb hp)
  have hvb : ∃ c, v = .bool c ∧ D.atKey (klL p) (.lit (.bool false)) = .lit (.bool c) := by
    unfold plainElem at hv
    rw [Try.underlying4] at hv
    cases v <;> simp at hv
    exact ⟨_, rfl, hv.1.symm⟩
  obtain ⟨c, rfl, hc⟩ := hvb
  have h2 := (hD p hp).2
  simp only at h2
  rw [hc] at h2
  have h4 : c = (idOf en p).getD false := by simpa using h2
  rw [hrun, h4]
/-- a set's look -/
theorem SetIs.look {en : List (Lb × Bool)} {s : List Lb} (h : SetIs en s) (p : Lb) : (idOf en p).getD false = decide (p ∈ s) := by
  by_cases hp : p ∈ s
  · have hk := hasK_iff.2 ((h.1 p).2 hp)
    unfold hasK at hk
    obtain ⟨e, he⟩ : ∃ e, en.find? (fun e => decide (e.1 = p)) = some e := by
      rw [← Option.isSome_iff_exists, List.find?_isSome]
      obtain ⟨e, h1, h2⟩ := List.any_eq_true.1 hk
      exact ⟨e, h1, h2⟩
    have := h.2 e (List.mem_of_find?_eq_some he)
    simp [idOf, he, this, hp]
  · have : en.find? (fun e => decide (e.1 = p)) = none := by
      rw [List.find?_eq_none]
      intro e he hh
      exact hp ((h.1 p).1 (List.mem_map.2 ⟨e, he, by simpa using hh⟩))
    simp [idOf, this, hp]
/-- whether nothing is decided anew at a label: in plain words, with the maps' lengths -/
def sameL (old next : List Lb) (k : Nat) (x : Lb) : Bool := !(twiceL old || twiceL next) && keptL old next k x
theorem sub_len {α : Type} [DecidableEq α] : ∀ (A B : List α), A.Nodup → (∀ x ∈ A, x ∈ B) → A.length ≤ B.length
  | [], _, _, _ => by simp
  | a :: A, B, hn, hs => by
    obtain ⟨h1, h2⟩ := List.nodup_cons.1 hn
    have ih := sub_len A (B.erase a) h2 (fun x hx => by
      have hne : x ≠ a := fun e => h1 (e ▸ hx)
      exact (List.mem_erase_of_ne hne).2 (hs x (by simp [hx])))
    have := List.length_erase_of_mem (hs a (by simp))
    have hp : 0 < B.length := List.length_pos_of_mem (hs a (by simp))
    rw [List.length_cons]
    omega
theorem sub_all {α : Type} [DecidableEq α] {A B : List α} (hA : A.Nodup) (hs : ∀ x ∈ A, x ∈ B) (hl : A.length = B.length) : ∀ x ∈ B, x ∈ A := fun x hx => by
  by_cases h : x ∈ A
  · exact h
  · have := sub_len (x :: A) B (List.nodup_cons.2 ⟨h, hA⟩) (fun y hy => by rcases List.mem_cons.1 hy with rfl | hy; exact hx; exact hs y hy)
    rw [List.length_cons] at this
    omega
theorem within_sets {en1 en2 : List (Lb × Bool)} {s1 s2 : List Lb} (h1 : SetIs en1 s1) (h2 : SetIs en2 s2) (n1 : (en1.map (·.1)).Nodup) (n2 : (en2.map (·.1)).Nodup) (hs : ∀ x ∈ s1, x ∈ s2) : decide (((en1.length : Nat) : Int) = ((en2.length : Nat) : Int)) = (withinL s1 s2 && withinL s2 s1) := by
  have hw : withinL s1 s2 = true := by unfold withinL; rw [List.all_eq_true]; exact fun x hx => decide_eq_true (hs x hx)
  rw [hw, Bool.true_and, Bool.eq_iff_iff, decide_eq_true_iff]
  unfold withinL
  rw [List.all_eq_true]
  have hs' : ∀ x ∈ en1.map (·.1), x ∈ en2.map (·.1) := fun x hx => (h2.1 x).2 (hs x ((h1.1 x).1 hx))
  constructor
  · intro e x hx
    exact decide_eq_true ((h1.1 x).1 (sub_all n1 hs' (by simp; omega) x ((h2.1 x).2 hx)))
  · intro h
    have hs'' : ∀ x ∈ en2.map (·.1), x ∈ en1.map (·.1) := fun x hx => (h1.1 x).2 (of_decide_eq_true (h x ((h2.1 x).1 hx)))
    have e1 := sub_len _ _ n1 hs'
    have e2 := sub_len _ _ n2 hs''
    simp only [List.length_map] at e1 e2
    omega
end Go.Proofs.Ytikojanpbbiaiaa
namespace Go.Proofs.Ytikojanpbbiaiaa
set_option linter.unusedVariables false
set_option linter.unusedSimpArgs false
open Go.RowKit Go.Shelf
attribute [local go_sem] Oper.semAt_some
attribute [local go_sem ↓] Go.wp_at_zero Go.wp_at_succ

theorem Lst.one {n0 : Nat} {W : World} {v : Value} {l : List Int} (h : Lst inE n0 W v l) {k : Nat} (hk : k < l.length) : ∃ b off c x, v = .slice (some ⟨b, off, none⟩) l.length c ∧ l[k]? = some x ∧ W.cell? ⟨b, off + k, none⟩ = some (.int .i64 x) := by
  obtain ⟨b, off, c, e, h1, h2, h3⟩ := h.some_ (by omega)
  refine ⟨b, off, c, l[k], e, List.getElem?_eq_getElem hk, ?_⟩
  have := h3 k hk 0 (by decide)
  simpa using this
theorem cell_below {w w' : World} (hB : Below w.heap.size w w') {b o : Nat} {v : Value} (h : w.cell? ⟨b, o, none⟩ = some v) : w'.cell? ⟨b, o, none⟩ = some v := by
  have hlt := World.block_lt_of_cell? _ _ h
  exact (Below.cell hB (p := ⟨b, o, none⟩) hlt).trans h
theorem same_take {a b : List Int} {k : Nat} {x : Int} (h : a.take k = b.take k) (ha : a[k]? = some x) (hb : b[k]? = some x) : a.take (k + 1) = b.take (k + 1) := by
  rw [List.take_add_one, List.take_add_one, h, ha, hb]
theorem same9_any (va vb : Value) (a b : List Int) (w : World) (n0 n1 : Nat) (ha : Lst inE n0 w va a) (hb : Lst inE n1 w vb b) :
    Calls Try.prog 16 #[va, vb] w fun e w' => e = .returned (.bool (decide (a = b))) ∧ Below w.heap.size w w' := by
  have hal := ha.len
  have hbl := hb.len
  by_cases hlen : a.length = b.length
  · by_cases h0 : 0 < a.length
    · obtain ⟨A, ao, ac, rfl, -, -, ca⟩ := ha.some_ h0
      obtain ⟨B, bo, bc, hvb, -, -, cb⟩ := hb.some_ (by omega)
      subst hvb
      clear ha hb
      have gca : ∀ j, (h : j < a.length) → w.cell? ⟨A, ao + j, none⟩ = some (.int .i64 a[j]) := fun j h => by simpa using ca j h 0 (by decide)
      have gcb : ∀ j, (h : j < b.length) → w.cell? ⟨B, bo + j, none⟩ = some (.int .i64 b[j]) := fun j h => by simpa using cb j h 0 (by decide)
      clear ca cb
      obtain ⟨n, hn⟩ : ∃ n, a.length = n := ⟨_, rfl⟩
      have hnb : b.length = n := by omega
      rw [hn, hnb]
      rw [hn] at hal h0
      have hz : decide (a = b) = decide (a.take n = b.take n) := by rw [← hn, List.take_length, hn, ← hnb, List.take_length]
      obtain ⟨dz, hdz⟩ : ∃ d, decide (a = b) = d := ⟨_, rfl⟩
      rw [hdz]
      rw [hdz] at hz
      replace hdz := Lib.hid hz
      clear hz hlen
      go_enter Try.func16, Try.ntmps16
      go_wp2_with fail
      go_loopw [5] (fun kk wr => ∃ k : Nat, k ≤ n ∧ kk = .int .i64 (k : Nat) ∧ Hid (a.take k = b.take k) ∧ Below w.heap.size w wr) (fun kk _ => n - (intOf kk).toNat)
      case atStart => exact ⟨0, Nat.zero_le _, rfl, Lib.hid (by simp), Below.refl _ _⟩
      case round =>
        obtain ⟨k, hk, rfl, htk, hB⟩ := hrel
        have hsz := hB.size
        by_cases hlt : k < n
        · have hltI : (k : Int) < (n : Int) := by omega
          obtain ⟨x, hx⟩ : ∃ x, a[k]'(by omega) = x := ⟨_, rfl⟩
          obtain ⟨y, hy⟩ : ∃ y, b[k]'(by omega) = y := ⟨_, rfl⟩
          have c1 := cell_below hB (gca k (by omega))
          have c2 := cell_below hB (gcb k (by omega))
          rw [hx] at c1
          rw [hy] at c2
          replace hn := Lib.hid hn
          replace hnb := Lib.hid hnb
          have gx : a[k]? = some x := by rw [← hx]; exact List.getElem?_eq_getElem _
          have gy : b[k]? = some y := by rw [← hy]; exact List.getElem?_eq_getElem _
          replace gx := Lib.hid gx
          replace gy := Lib.hid gy
          clear hx hy gca gcb
          by_cases hxy : x = y
          · subst hxy
            go_wp2_with fail
            first | with_reducible refine wp_region_grow2 (by kernel_rfl) (by kernel_rfl) ?_ | with_reducible refine wp_region_grow (by kernel_rfl) (by kernel_rfl) ?_
            repeat (first | go_big_quiet_step (fail) | quiet_step (fail))
            refine wpQuiet_nil ?_
            intro _ hw_
            obtain ⟨p, hw_⟩ := hw_
            subst hw_
            go_wp2_with fail
            go_roundw
            case rel => exact ⟨k + 1, by omega, by go_num, Lib.hid (same_take htk.out gx.out gy.out), below_growBy' hB hsz _⟩
            case measure => simp [intOf]; omega
          · have hd : decide (a.take n = b.take n) = false := by
              refine decide_eq_false fun he => hxy ?_
              have hnn := hn.out
              have e1 : (a.take n)[k]? = a[k]? := by rw [← hnn, List.take_length]
              have e2 : (b.take n)[k]? = b[k]? := by rw [← hnb.out, List.take_length]
              rw [he, e2, gx.out, gy.out] at e1
              exact (Option.some.inj e1).symm
            obtain rfl : dz = false := hdz.out.trans hd
            clear hd hdz
            go_wp2_with fail
            first | with_reducible refine wp_region_grow2 (by kernel_rfl) (by kernel_rfl) ?_ | with_reducible refine wp_region_grow (by kernel_rfl) (by kernel_rfl) ?_
            repeat (first | go_big_quiet_step (fail) | quiet_step (fail))
            refine wpQuiet_nil ?_
            intro _ hw_
            obtain ⟨p, hw_⟩ := hw_
            subst hw_
            go_wp2_with fail
            go_ret
            exact ⟨rfl, below_growBy' hB hsz _⟩

        · obtain rfl : k = n := by omega
          have hge : ¬ (k : Int) < (k : Int) := by omega
          obtain rfl : dz = true := hdz.out.trans (decide_eq_true htk.out)
          go_wp2_with fail
          go_ret
          exact ⟨rfl, hB⟩
    · obtain rfl : a = [] := List.eq_nil_of_length_eq_zero (by omega)
      obtain rfl : b = [] := List.eq_nil_of_length_eq_zero (by simpa using hlen.symm)
      obtain ⟨aa, ac, rfl, -⟩ := ha.form
      obtain ⟨ba, bc, rfl, -⟩ := hb.form
      clear ha hb
      go_enter Try.func16, Try.ntmps16
      go_wp2_with fail
      go_loopw [5] (fun kk wr => kk = .int .i64 0 ∧ wr = w) (fun kk _ => 0)
      case atStart => exact ⟨rfl, rfl⟩
      case round =>
        obtain ⟨rfl, rfl⟩ := hrel
        go_wp2_with fail
        go_ret
        exact ⟨by simp, Below.refl _ _⟩
  · have hne : ¬ (a.length : Int) = (b.length : Int) := by omega
    have hd : decide (a = b) = false := decide_eq_false fun e => hlen (by rw [e])
    rw [hd]
    obtain ⟨aa, ac, rfl, -⟩ := ha.form
    obtain ⟨ba, bc, rfl, -⟩ := hb.form
    clear ha hb hd
    go_enter Try.func16, Try.ntmps16
    go_wp2_with fail
    go_ret
    exact ⟨rfl, Below.refl _ _⟩
end Go.Proofs.Ytikojanpbbiaiaa
