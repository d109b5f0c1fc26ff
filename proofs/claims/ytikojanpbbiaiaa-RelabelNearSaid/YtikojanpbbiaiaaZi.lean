/-
  A range over a function whose iterator writes cells of its own between the rounds: the body's blocks ('C': what the body may turn) are named, all the rest is the iterator's; and the iterator leaves the body's blocks alone.
  Chapter 24: the reference's Reach.
  Chapter 24: what the iterator of relabel.reached keeps between the rounds; which indices it visits.
-/
import Derived.Test.YtikojanpbbiaiaaZc
import Derived.Test.YtikojanpbbiaiaaZg
import Derived.Test.YtikojanpbbiaiaaZh
import Derived.RangeFuncOwn
import Derived.RangeFuncBox
import Derived.RangeFuncLeaves
import Derived.RangeFuncNested
import Derived.RangeFuncBound
import Derived.RangeFuncCalls
import Derived.RangeFuncSeq
import Derived.Laws.MakeOwn
namespace Go.Proofs.Ytikojanpbbiaiaa
set_option linter.unusedVariables false
set_option linter.unusedSimpArgs false
open Go Go.RowKit

/-- what a round leaves to the iterator -/
structure KeepC (C : World → Nat → Prop) (A B : World) : Prop where
  size : A.heap.size ≤ B.heap.size
  same : ∀ k, k < A.heap.size → ¬ C A k → B.heap[k]? = A.heap[k]?
  mine : ∀ k, C B k → C A k ∨ A.heap.size ≤ k
/-- a sequence that may lay and turn blocks of its own -/
def SeqC {α : Type} (F : Fence) (n : Nat) (P : Program) (g : Nat) (lb : Array Value) (encs : α → Array Value) (C : World → Nat → Prop) (S : List α → Prop) (N : Nat) (w : World) : Prop :=
  ∀ (l : Nat) (J : List α → World → Prop) (W : World), Below w.heap.size w W →
    (∀ s A A' row, J s A → A.grownBy A' row → (∀ r, row = some r → W.heap.size ≤ r ∧ ¬ C A r) → J s A') → (∀ s A A' row k, J s A → A.grownBy A' row → (∀ r, row = some r → ¬ C A r) → C A' k → C A k) → (∀ k, C W k → k < W.heap.size) →
    (∀ pre x W1, J pre W1 → pre.length < N → YieldAt F (n - 1) P l (encs x) W1 fun e W' => e = .returned (.bool true) ∧ J (pre ++ [x]) W' ∧ KeepC C W1 W') → J [] W →
    CallsIn F n P g (#[.func (.yield l) #[] #[]] ++ lb) W fun e W' => (∃ v, e = .returned v) ∧ ∃ xs, S xs ∧ J xs W'

theorem wpIn_rangeFunc_cells {F : Fence} {n : Nat} {P : Program} {α : Type} {g : Operand} {ps : Array Tmp} {assign body : Code} {Q : Exit → Act → World → Prop} {a : Act} {w : World}
    (hro : F.round = none) (h1 : 1 ≤ n) {gf : Nat} {lb : Array Value} (hg : a.eval g = .func (.func gf) #[] lb) (hFg : F.fn gf) (eg : ∀ args w, (callFunc gf args).run P w = .ok (.enter gf args) w)
    {encs : α → Array Value} {C : World → Nat → Prop} (hC : ∀ (W : World) (l k : Nat) (o o' : Obj), W.heap[l]? = some o → o.isCells = false → o'.isCells = false → (C (W.putObj l o') k ↔ C W k)) (hCl : ∀ (W : World) (l : Nat) (o : Obj), W.heap[l]? = some o → o.isCells = false → ¬ C W l)
    (hCa : ∀ (W : World) (k : Nat) (o : Obj), C (W.alloc o) k → o.isCells = false → C W k) (hC0 : ∀ k, C w k → k < w.heap.size)
    {S : List α → Prop} {N : Nat} {w0 : World} (hseq : SeqC F (n - 1) P gf lb encs C S N w0) (hb0 : Below w0.heap.size w0 w) (hps : ∀ x, (encs x).size = ps.size)
    (I : List α → World → Prop) (hI : ∀ pre A A' row, I pre A → A.grownBy A' row → (∀ r, row = some r → w.heap.size ≤ r ∧ ¬ C A r) → I pre A') (hIC : ∀ pre A A' row k, I pre A → A.grownBy A' row → (∀ r, row = some r → ¬ C A r) → C A' k → C A k) (h0 : I [] w) (a₁ : α → Act)
    (hassign : ∀ (l : Nat) (x : α) (W : World) (K : Act → World → Prop), K (a₁ x) W → assign.wpIn (F.inRound l) (n - 1 - 1) P (Exit.then K (fun _ _ _ => False)) { tmps := (ps.zip (encs x)).foldl (fun t (p, v) => t.setIfInBounds p v) a.tmps, defers := [] } W)
    (hbody : ∀ (l : Nat) (pre : List α) (x : α) (W : World), I pre W → pre.length < N → body.wpIn (F.inRound l) (n - 1 - 1) P (fun e _ W' => e = .normal ∧ KeepC C W W' ∧ I (pre ++ [x]) W') (a₁ x) W)
    (hdone : ∀ (D : Nat) (xs : List α) (W : World), w.heap.size ≤ D → S xs → I xs W → W.heap[D]? = some (.deferred (some [])) → Q .normal { a with defers := { target := .collected D, args := #[] } :: a.defers } W) :
    (Code.rangeFunc g ps assign body).wpIn F n P Q a w := by
  refine wpIn_rangeFunc fun fn hfn => ?_
  rw [hro]
  -- the two blocks of the statement: the rounds' deferred calls, and the loop's record, in its states
  obtain ⟨D, hD⟩ : ∃ D, w.heap.size = D := ⟨_, rfl⟩
  let R : LoopState → Option Code → Loop := fun st pe => { state := st, pending := pe, fn, tmps := a.tmps, params := ps, assign, body, defers := D }
  let W1 : World := (w.alloc (.deferred (some []))).alloc (.loop (R .ready none))
  have s1 : W1.heap.size = D + 2 := by simp [W1, hD]
  have g1 : w.grownBy W1 none := by
    have e1 := World.grownBy_alloc w (.deferred (some [])) none
    have e2 := World.grownBy_alloc (w.alloc (.deferred (some []))) (.loop (R .ready none)) none
    exact ⟨e2.os.trans e1.os, e2.tape.trans e1.tape, e2.output.trans e1.output, Nat.le_trans e1.size e2.size, fun k hk hn => (e2.block k (by simp; omega) hn).trans (e1.block k hk hn)⟩
  have l1 : W1.heap[D + 1]? = some (.loop (R .ready none)) := by
    have := World.alloc_heap_new (w.alloc (.deferred (some []))) (.loop (R .ready none))
    rwa [World.size_alloc, hD] at this
  have d1 : W1.heap[D]? = some (.deferred (some [])) := by
    have := (Below.heap_alloc (w.alloc (.deferred (some []))) (.loop (R .ready none)) w.heap.size (by simp)).trans (World.alloc_heap_new w _)
    rwa [hD] at this
  have hCW : ∀ k, C W1 k → k < W1.heap.size := fun k hk => by
    have := hC0 k (hCa _ k _ (hCa _ k _ hk rfl) rfl)
    omega
  refine ⟨D + 1, [{ target := .collected D, args := #[] }], W1, { target := .fn (.func gf) lb, args := #[.func (.yield (D + 1)) #[] #[]] }, W1, gf, #[.func (.yield (D + 1)) #[] #[]] ++ lb, W1, ?_, ?_, ?_, ?_, fun _ => h1, ?_⟩
  · subst hD
    exact run_enterLoop_outer _ _ _ _ _
  · simp only [resolve, hg]
    simp [go_sem]
  · intro f' hf'
    simp [Target.leads] at hf'
    subst hf'
    exact hFg
  · simp [invoke, go_sem, eg]
  · have hb1 : Below w0.heap.size w0 W1 := hb0.trans ((show Below w.heap.size w W1 from ⟨g1.os, g1.tape, g1.output, g1.size, fun k hk => g1.block k hk (by simp)⟩).mono hb0.size)
    refine (hseq (D + 1) (fun pre W => I pre W ∧ W.heap[D + 1]? = some (.loop (R .ready none)) ∧ W.heap[D]? = some (.deferred (some []))) W1 hb1 ?_ (fun s A A' row k hJ => hIC s A A' row k hJ.1) hCW ?_ ⟨hI [] w W1 none h0 g1 (by simp), l1, d1⟩).mono ?_
    · rintro s A A' row ⟨hi, hl, hd⟩ hgr hr
      have hne : ∀ k, k < D + 2 → some k ≠ row := fun k hk e => by have := (hr k e.symm).1; omega
      exact ⟨hI s A A' row hi hgr (fun r e => ⟨by have := (hr r e).1; omega, (hr r e).2⟩), (hgr.block _ (Array.getElem?_eq_some_iff.1 hl).1 (hne _ (by omega))).trans hl, (hgr.block _ (Array.getElem?_eq_some_iff.1 hd).1 (hne _ (by omega))).trans hd⟩
    · rintro pre x W ⟨hi, hl, hd⟩ hlen
      have hlt : D + 1 < W.heap.size := (Array.getElem?_eq_some_iff.1 hl).1
      have hy := run_yield (P := P) (args := encs x) hl (hps x)
      refine ⟨fn, _, assign, body, hy, roundIn_of_wpIn hfn (hassign _ x W _ ⟨_, run_beginRound hl rfl, ?_⟩)⟩
      obtain ⟨W2, hW2⟩ : ∃ W2, W.putObj (D + 1) (.loop { R .ready none with state := .busy }) = W2 := ⟨_, rfl⟩
      have hl2 : W2.heap[D + 1]? = some (.loop { R .ready none with state := .busy }) := by rw [← hW2]; exact World.putObj_heap_same hlt
      have hd2 : W2.heap[D]? = some (.deferred (some [])) := by rw [← hW2]; exact (World.putObj_heap_other (by omega)).trans hd
      have hi2 : I pre W2 := by
        rw [← hW2]
        exact hI pre W _ (some (D + 1)) hi (grownBy_putObj' W _ _) (fun r e => by cases e; exact ⟨by omega, hCl W _ _ hl rfl⟩)
      have hs2 : W2.heap.size = W.heap.size := by rw [← hW2]; simp
      have hc2 : ∀ k, C W2 k ↔ C W k := fun k => by rw [← hW2]; exact hC W _ k _ _ hl rfl rfl
      have hb2 : ∀ k, k ≠ D + 1 → W2.heap[k]? = W.heap[k]? := fun k hk => by rw [← hW2]; exact World.putObj_heap_other hk
      show body.wpIn (F.inRound (D + 1)) (n - 1 - 1) P _ _ (W.putObj (D + 1) (.loop { R .ready none with state := .busy }))
      rw [hW2]
      refine wpIn_mono (hbody _ pre x W2 hi2 hlen) ?_
      rintro e a3 W3 ⟨rfl, hk, hi3⟩
      have hl3 : W3.heap[D + 1]? = some (.loop { R .ready none with state := .busy }) := (hk.same _ (by omega) (hCl W2 _ _ hl2 rfl)).trans hl2
      have hd3 : W3.heap[D]? = some (.deferred (some [])) := (hk.same _ (by omega) (hCl W2 _ _ hd2 rfl)).trans hd2
      have hlt3 : D + 1 < W3.heap.size := (Array.getElem?_eq_some_iff.1 hl3).1
      have hr := run_endRound (P := P) none hl3
      refine ⟨_, _, hr, rfl, ⟨?_, World.putObj_heap_same hlt3, (World.putObj_heap_other (by omega)).trans hd3⟩, ⟨?_, fun k hlk hnc => ?_, fun k hc => ?_⟩⟩
      · exact hI _ W3 _ (some (D + 1)) hi3 (grownBy_putObj' W3 _ _) (fun r e => by cases e; exact ⟨by omega, hCl W3 _ _ hl3 rfl⟩)
      · have := hk.size
        rw [hs2] at this
        simpa using this
      · by_cases hkl : k = D + 1
        · subst hkl
          rw [hl]
          exact World.putObj_heap_same hlt3
        · exact (World.putObj_heap_other hkl).trans ((hk.same k (by omega) (fun h => hnc ((hc2 k).1 h))).trans (hb2 k hkl))
      · rcases hk.mine k ((hC W3 _ k _ _ hl3 rfl rfl).1 hc) with h | h
        · exact .inl ((hc2 k).1 h)
        · exact .inr (by omega)
    · rintro e W2 ⟨⟨v, rfl⟩, xs, hS, hi, hl, hd⟩
      have hr := run_endLoop (P := P) hl (by simp [R])
      refine ⟨none, _, hr, ?_⟩
      exact hdone D xs _ (by omega) hS (hI _ W2 _ (some (D + 1)) hi (grownBy_putObj' W2 _ _) (fun r e => by cases e; exact ⟨by omega, hCl W2 _ _ hl rfl⟩)) ((World.putObj_heap_other (by omega)).trans hd)
end Go.Proofs.Ytikojanpbbiaiaa
namespace Go.Proofs.Ytikojanpbbiaiaa
set_option linter.unusedVariables false
set_option linter.unusedSimpArgs false
open Go.RowKit Go.Shelf
attribute [local go_sem] Oper.semAt_some
attribute [local go_sem ↓] Go.wp_at_zero Go.wp_at_succ

/-- rows of elements of different types -/
theorem rows_apart {W : World} {b1 b2 : Nat} {e1 e2 : TypeId} {s1 s2 n1 n2 : Nat} {v1 v2 : Value} {x1 x2 : List Value} (h1 : W.ownsRow b1 e1 s1 v1 n1 x1) (h2 : W.ownsRow b2 e2 s2 v2 n2 x2) (hne : e1 ≠ e2) : v2 = .slice none 0 0 ∨ v1.ownBlock ≠ v2.ownBlock := by
  rcases h2.2 with ⟨rfl, _⟩ | ⟨g, cap, cur, rfl, _, hg, _⟩
  · exact .inl rfl
  · refine .inr fun e => ?_
    rcases h1.2 with ⟨rfl, _⟩ | ⟨g', cap', cur', rfl, _, hg', _⟩
    · simp [Value.ownBlock] at e
    · simp only [Value.ownBlock, Option.some.injEq] at e
      subst e
      rw [hg] at hg'
      cases hg'
      exact hne rfl
theorem rows_ne {v1 v2 : Value} (h : v2 = .slice none 0 0 ∨ v1.ownBlock ≠ v2.ownBlock) : v2.ownBlock = none ∨ v2.ownBlock ≠ v1.ownBlock := by
  rcases h with rfl | h
  · exact .inl rfl
  · exact .inr fun e => h e.symm
theorem reach_yes {old next : List Lb} {k : Nat} {x : Lb} (h : next[k]? = some x) : reachL old next (k + 1) = if (twiceL old || twiceL next) || !keptL old next k x || (reachL old next k).any (fun y => nearL y x) then reachL old next k ++ [x] else reachL old next k := by
  conv => lhs; unfold reachL
  rw [h]
theorem kept_eq {old next : List Lb} {k : Nat} {z : Lb} {r : Bool} (hr : keptL old next k z = r) {vo vn : Value} {w : World} (ho : Lst lbE w.heap.size w vo old) (hn : Lst lbE w.heap.size w vn next) (hz : next[k]? = some z) (hol : old.length ≤ 1000) (hnl : next.length ≤ 1000) :
    Calls Try.prog 41 #[vo, vn, .int .i64 (k : Nat)] w fun e w' => e = .returned (.bool r) ∧ Below w.heap.size w w' := by
  have := kept24_any vo vn old next k z w ho hn hz hol hnl
  rw [hr] at this
  exact this
theorem any_take {R : List Lb} {i : Nat} {y x : Lb} (h : R[i]? = some y) : (R.take (i + 1)).any (fun y => nearL y x) = ((R.take i).any (fun y => nearL y x) || nearL y x) := by
  rw [List.take_add_one, h]
  simp
theorem grownBy_of_below {w w' : World} (h : Below w.heap.size w w') : w.grownBy w' none := ⟨h.os, h.tape, h.output, h.size, fun k hk _ => h.block k hk⟩
theorem ownsRow_up {W W' : World} {base : Nat} {e : TypeId} {size : Nat} {v : Value} {k : Nat} {xs : List Value} (h : W.ownsRow base e size v k xs) (hb : Below W.heap.size W W') : W'.ownsRow base e size v k xs := ownsRow_turn h (grownBy_of_below hb) (fun r e => by cases e)
def RchR (old next : List Lb) (w : World) (rv ov kk : Value) (wr : World) : Prop :=
  ∃ k : Nat, k ≤ next.length ∧ kk = .int .i64 (k : Nat) ∧ wr.ownsRow w.heap.size 39 6 rv (reachL old next k).length ((reachL old next k).flatMap lbE.enc) ∧ wr.ownsRow w.heap.size 3 1 ov ((reachL old next k).map Lb.id).length (((reachL old next k).map Lb.id).flatMap inE.enc) ∧ Below w.heap.size w wr
set_option maxRecDepth 100000 in
set_option maxHeartbeats 4000000 in
theorem reach24_any (vo vn : Value) (old next : List Lb) (w : World) (ho : Lst lbE w.heap.size w vo old) (hn : Lst lbE w.heap.size w vn next) (hol : old.length ≤ 1000) (hnl : next.length ≤ 1000) :
    Calls Try.prog 18 #[vo, vn] w fun e w' => ∃ u, e = .returned u ∧ w'.ownsRow w.heap.size 3 1 u ((reachL old next next.length).map Lb.id).length (((reachL old next next.length).map Lb.id).flatMap inE.enc) ∧ Below w.heap.size w w' := by
  obtain ⟨ao, co, rfl, -⟩ := ho.form
  obtain ⟨an, cn, rfl, -⟩ := hn.form
  obtain ⟨q1, hq1⟩ : ∃ q, twiceL old = q := ⟨_, rfl⟩
  obtain ⟨q2, hq2⟩ : ∃ q, twiceL next = q := ⟨_, rfl⟩
  obtain ⟨vo, hvo⟩ : ∃ v, Value.slice ao old.length co = v := ⟨_, rfl⟩
  rw [hvo] at ho
  rw [hvo]
  clear hvo
  have t1 := twice_eq hq1 ho
  have t2 := fun W (hW : Below w.heap.size w W) => twice_eq hq2 ((hn.below hW).mono hW.size)
  go_enter Try.func18, Try.ntmps18
  go_upto_region 1 with fail
  go_cut [5] (fun v wx => v = .bool (q1 || q2) ∧ Below w.heap.size w wx)
  case first =>
    cases q1
    · go_wp2_with (first
        | (go_at_call 40; (with_reducible refine t1.mono ?_); rintro e w1 ⟨rfl, hb1⟩)
        | (go_at_call 40; (with_reducible refine (t2 w1 hb1).mono ?_); rintro e w2 ⟨rfl, hb2⟩)
        | fail)
      go_meet
      exact ⟨by simp, hb1.trans (hb2.mono hb1.size)⟩
    · go_wp2_with (first
        | (go_at_call 40; (with_reducible refine t1.mono ?_); rintro e w1 ⟨rfl, hb1⟩)
        | fail)
      go_meet
      exact ⟨by simp, hb1⟩
  case rest =>
  obtain ⟨rfl, hB0⟩ := hcut
  obtain ⟨q, hq⟩ : ∃ q, (q1 || q2) = q := ⟨_, rfl⟩
  have hqq : (twiceL old || twiceL next) = q := by rw [hq1, hq2, hq]
  rw [hq]
  clear hq hq1 hq2 t1 t2
  replace hqq := Lib.hid hqq
  go_wp2_with fail
  go_loopw [6, 7, 8] (fun rv ov kk wr => RchR old next w rv ov kk wr) (fun _ _ kk _ => next.length - (intOf kk).toNat)
  case atStart => exact ⟨0, Nat.zero_le _, rfl, ⟨by simp [reachL], .inl ⟨rfl, by simp [reachL]⟩⟩, ⟨by simp [reachL], .inl ⟨rfl, by simp [reachL]⟩⟩, hB0⟩
  case round =>
    clear hB0
    obtain ⟨k, hk, rfl, hr1, hr2, hB⟩ := hrel
    by_cases hlt : k < next.length
    · have hltI : (k : Int) < (next.length : Int) := by omega
      obtain ⟨b, off, cap', i2, x2, y2, r2, t2, u2, hv, hget, hbl, hzc⟩ := hn.get hlt
      simp only [Value.slice.injEq, true_and] at hv
      obtain ⟨rfl, rfl⟩ := hv
      obtain ⟨kq, hkq⟩ : ∃ b, keptL old next k ⟨i2, x2, y2, r2, t2, u2⟩ = b := ⟨_, rfl⟩
      have hstep := reach_yes (old := old) hget
      have hlen := reachL_len old next k
      rw [hqq.out, hkq] at hstep
      obtain ⟨R, hR⟩ : ∃ R, reachL old next k = R := ⟨_, rfl⟩
      rw [hR] at hstep hr1 hr2 hlen
      have hkc := kept_eq hkq ((ho.below hB).mono hB.size) ((hn.below hB).mono hB.size) hget hol hnl
      replace hstep := Lib.hid hstep
      clear hkq hR hget
      go_upto_region 7 with fail
      go_cut [9] (fun v wx => v = .bool (q || !kq) ∧ Below wr.heap.size wr wx)
      case first =>
        cases q
        · go_wp2_with (first
            | (go_at_call 41; (with_reducible refine hkc.mono ?_); rintro e w1 ⟨rfl, hb1⟩)
            | fail)
          go_meet
          exact ⟨by simp, hb1⟩
        · go_wp2_with fail
          go_meet
          exact ⟨by simp, Below.refl _ _⟩
      case rest =>
      obtain ⟨rfl, hb1⟩ := hcut
      obtain ⟨i0, hi0⟩ : ∃ b, (q || !kq) = b := ⟨_, rfl⟩
      rw [hi0] at hstep
      rw [hi0]
      clear hkc hi0
      have hr1' := ownsRow_up hr1 hb1
      have hr2' := ownsRow_up hr2 hb1
      have hB1 := hB.trans (hb1.mono hB.size)
      have hL := lst_of_row lbOk hr1' (by omega)
      clear hr1 hr2 hB hb1
      obtain ⟨ra, rc, rfl, -⟩ := hL.form
      go_wp2_with fail
      go_loopw [9, 10] (fun bv jj wr2 => ∃ j : Nat, j ≤ R.length ∧ jj = .int .i64 (j : Nat) ∧ bv = .bool (i0 || (R.take j).any fun y => nearL y ⟨i2, x2, y2, r2, t2, u2⟩) ∧ Below wc.heap.size wc wr2) (fun _ jj _ => R.length - (intOf jj).toNat)
      case atStart => exact ⟨0, Nat.zero_le _, rfl, by simp, Below.refl _ _⟩
      case round =>
        obtain ⟨j, hj, rfl, rfl, hb2⟩ := hrel
        have hB2 := hB1.trans (hb2.mono hB1.size)
        obtain ⟨z0, z1, z2, z3, z4, z5⟩ := hzc.below hB2 hbl
        by_cases hltj : j < R.length
        · have hltjI : (j : Int) < (R.length : Int) := by omega
          obtain ⟨rb, ro, rc', i, x, y, r, t, u, hv, hget, hrbl, hc⟩ := hL.get hltj
          simp only [Value.slice.injEq, true_and] at hv
          obtain ⟨rfl, rfl⟩ := hv
          obtain ⟨c0, c1, c2, c3, c4, c5⟩ := hc.below hb2 hrbl
          have hat := any_take (x := ⟨i2, x2, y2, r2, t2, u2⟩) hget
          obtain ⟨cur, hcur⟩ : ∃ b, (i0 || (R.take j).any fun y => nearL y ⟨i2, x2, y2, r2, t2, u2⟩) = b := ⟨_, rfl⟩
          obtain ⟨nq, hnq⟩ : ∃ b, nearL ⟨i, x, y, r, t, u⟩ ⟨i2, x2, y2, r2, t2, u2⟩ = b := ⟨_, rfl⟩
          have hnext : (i0 || (R.take (j + 1)).any fun y => nearL y ⟨i2, x2, y2, r2, t2, u2⟩) = (cur || nq) := by rw [hat, ← Bool.or_assoc, hcur, hnq]
          rw [hcur]
          replace hnext := Lib.hid hnext
          replace hnq := Lib.hid hnq
          clear hcur hat hget
          cases cur
          · go_wp2_with fail
            first | with_reducible refine wp_region_grow2 (by kernel_rfl) (by kernel_rfl) ?_ | with_reducible refine wp_region_grow (by kernel_rfl) (by kernel_rfl) ?_
            repeat (first | go_big_quiet_step ((go_at_call 42; exact Calls.grow_of (near_eq hnq.out _))) | quiet_step ((go_at_call 42; exact Calls.grow_of (near_eq hnq.out _))))
            refine wpQuiet_nil ?_
            intro _ hw_
            obtain ⟨p, hw_⟩ := hw_
            subst hw_
            go_wp2_with fail
            go_roundw
            case rel => exact ⟨j + 1, by omega, by go_num, by rw [hnext.out]; simp, below_growBy' hb2 hb2.size _⟩
            case measure => simp [intOf]; omega
          · go_wp2_with fail
            first | with_reducible refine wp_region_grow2 (by kernel_rfl) (by kernel_rfl) ?_ | with_reducible refine wp_region_grow (by kernel_rfl) (by kernel_rfl) ?_
            repeat (first | go_big_quiet_step (fail) | quiet_step (fail))
            refine wpQuiet_nil ?_
            intro _ hw_
            obtain ⟨p, hw_⟩ := hw_
            subst hw_
            go_wp2_with fail
            go_roundw
            case rel => exact ⟨j + 1, by omega, by go_num, by rw [hnext.out]; simp, below_growBy' hb2 hb2.size _⟩
            case measure => simp [intOf]; omega
        · obtain rfl : j = R.length := by omega
          have hge : ¬ (R.length : Int) < (R.length : Int) := by omega
          rw [List.take_length]
          obtain ⟨fin, hfin⟩ : ∃ b, (i0 || R.any fun y => nearL y ⟨i2, x2, y2, r2, t2, u2⟩) = b := ⟨_, rfl⟩
          have hst : reachL old next (k + 1) = if fin = true then R ++ [⟨i2, x2, y2, r2, t2, u2⟩] else R := by rw [hstep.out, hfin]
          rw [hfin]
          replace hst := Lib.hid hst
          clear hfin hstep
          have hr1'' := ownsRow_up hr1' hb2
          have hr2'' := ownsRow_up hr2' hb2
          cases fin
          · go_wp2_with fail
            go_roundw
            case rel => exact ⟨k + 1, by omega, by go_num, by rw [hst.out]; simpa using hr1'', by rw [hst.out]; simpa using hr2'', hB2⟩
            case measure => simp [intOf]; omega
          · have hsz1 : w.heap.size ≤ wr.heap.size := hB2.size
            have hrl : R.length ≤ 1000 := by omega
            have hrl2 : (R.map Lb.id).length ≤ 1000 := by simpa using hrl
            have hne1 := rows_ne (rows_apart hr1'' hr2'' (by decide))
            clear z0 z1 z2 z3 z4 z5
            obtain ⟨z0, z1, z2, z3, z4, z5⟩ := hzc.below hB2 hbl
            go_wp2_with (first
              | (at_builtin; refine El.push lbOk lbIn (by rfl) _ _ (by rfl) (by rfl) hr1'' ⟨i2, x2, y2, r2, t2, u2⟩ (by rfl) rfl hsz1 (by omega) ?_; intro v9 w9 hrow9 hf9 hg9 hb9; have hB9 := hB2.trans hb9; have hrs9 := hr2''.kept hg9 hne1; have hsz9 := hB9.size; obtain ⟨y0, y1, y2, y3, y4, y5⟩ := hzc.below hB9 hbl)
              | (at_builtin; refine El.push inOk inIn (by rfl) _ _ (by rfl) (by rfl) hrs9 i2 (by rfl) rfl hsz9 (by omega) ?_; intro v8 w8 hrow8 hf8 hg8 hb8; have hrr8 := hrow9.kept hg8 (rows_ne (rows_apart hrs9 hrow9 (by decide))))
              | fail)
            go_roundw
            case rel => exact ⟨k + 1, by omega, by go_num, by rw [hst.out]; simpa using hrr8, by rw [hst.out]; simpa using hrow8, hB9.trans hb8⟩
            case measure => simp [intOf]; omega
    · obtain rfl : k = next.length := by omega
      have hge : ¬ (next.length : Int) < (next.length : Int) := by omega
      go_wp2_with fail
      go_ret
      exact ⟨_, rfl, by simpa using hr2, hB⟩
end Go.Proofs.Ytikojanpbbiaiaa
namespace Go.Proofs.Ytikojanpbbiaiaa
set_option linter.unusedVariables false
set_option linter.unusedSimpArgs false
open Go.RowKit Go.Shelf Go.Maps

/-- the indices that are decided anew, of the first k -/
def reachI (old next : List Lb) : Nat → List Nat
  | 0 => []
  | k + 1 => match next[k]? with
    | none => reachI old next k
    | some x => if !sameL old next k x || (reachI old next k).any (fun i => (next[i]?).any fun y => nearL y x) then reachI old next k ++ [k] else reachI old next k
theorem reachI_lt (old next : List Lb) : ∀ k i, i ∈ reachI old next k → i < k
  | 0, i, h => by simp [reachI] at h
  | k + 1, i, h => by
    have ih := reachI_lt old next k i
    unfold reachI at h
    split at h
    · have := ih h
      omega
    · split at h
      · rcases List.mem_append.1 h with h | h
        · have := ih h
          omega
        · have : i = k := by simpa using h
          omega
      · have := ih h
        omega
theorem reachI_len (old next : List Lb) : ∀ k, (reachI old next k).length ≤ k
  | 0 => Nat.le_refl _
  | k + 1 => by
    have := reachI_len old next k
    unfold reachI
    split
    · omega
    · split
      · rw [List.length_append]; simp; omega
      · omega
/-- .. are those that the reference reaches -/
theorem reachI_reachL (old next : List Lb) : ∀ k, (reachI old next k).filterMap (fun i => next[i]?) = reachL old next k
  | 0 => rfl
  | k + 1 => by
    have ih := reachI_reachL old next k
    unfold reachI reachL
    cases hx : next[k]? with
    | none => exact ih
    | some x =>
      have hc : (!sameL old next k x || (reachI old next k).any (fun i => (next[i]?).any fun y => nearL y x)) = ((twiceL old || twiceL next) || !keptL old next k x || (reachL old next k).any (fun y => nearL y x)) := by
        rw [← ih]
        have h2 : ∀ l : List Nat, l.any (fun i => (next[i]?).any fun y => nearL y x) = (l.filterMap (fun i => next[i]?)).any (fun y => nearL y x) := fun l => by
          induction l with
          | nil => rfl
          | cons i l ih2 =>
            rw [List.any_cons, ih2, List.filterMap_cons]
            cases next[i]? with
            | none => simp
            | some y => simp
        rw [h2]
        unfold sameL
        cases twiceL old <;> cases twiceL next <;> cases keptL old next k x <;> rfl
      simp only
      rw [hc]
      split
      · rw [List.filterMap_append, ih]
        simp [hx]
      · exact ih
theorem MapK.same {α : Type} [DecidableEq α] {β : Type} {K : Ky α} {P : Program} {V : Ve β} {W W' : World} {b n : Nat} {l : List (α × β)} (h : MapK P K V W b n l) (hb : W'.heap[b]? = W.heap[b]?) : MapK P K V W' b n l := by
  obtain ⟨D, ⟨es, clock, he, r⟩, h1, h2, h3⟩ := h
  exact ⟨D, ⟨es, clock, hb.trans he, r⟩, h1, h2, h3⟩
theorem cell_same {W W' : World} {b o : Nat} (h : W'.heap[b]? = W.heap[b]?) : W'.cell? ⟨b, o, none⟩ = W.cell? ⟨b, o, none⟩ := by
  unfold World.cell?
  rw [h]
theorem Lst.same {α : Type} {E : El α} {n₀ : Nat} {W W' : World} {v : Value} {l : List α} (h : Lst E n₀ W v l) (hb : ∀ b, b < n₀ → W'.heap[b]? = W.heap[b]?) : Lst E n₀ W' v l := by
  obtain ⟨a, cap, e, h1, h2, h3⟩ := h
  exact ⟨a, cap, e, h1, h2, fun j hj => by
    obtain ⟨b, off, e2, hlt, hc⟩ := h3 j hj
    exact ⟨b, off, e2, hlt, fun i hi => (cell_same (hb b hlt)).trans (hc i hi)⟩⟩
/-- what the iterator has -/
structure RIt (C : World → Nat → Prop) (n0 B1 B2 A4 A5 A7 AN ma nn : Nat) (vo vn : Value) (o t : Bool) (old next : List Lb) (en : List (Lb × Int)) (an : Array Value) (W : World) : Prop where
  bo : Blk W B1 #[vo] 33
  bn : Blk W B2 #[vn] 33
  at_ : Blk W A4 #[.map (some ma)] 116
  one : Blk W A5 #[.bool o] 4
  two : Blk W A7 #[.bool t] 4
  an : Blk W AN an 4
  map : MapK Try.prog lbK intV W ma nn en
  lo : Lst lbE n0 W vo old
  ln : Lst lbE n0 W vn next
  nc : ∀ k, k < n0 ∨ k = B1 ∨ k = B2 ∨ k = A4 ∨ k = A5 ∨ k = A7 ∨ k = AN ∨ k = ma → ¬ C W k
  sz : n0 ≤ W.heap.size
section
variable {C : World → Nat → Prop} {n0 B1 B2 A4 A5 A7 AN ma nn : Nat} {vo vn : Value} {o t : Bool} {old next : List Lb} {en : List (Lb × Int)} {an : Array Value} {W W' : World}
theorem RIt.lt (h : RIt C n0 B1 B2 A4 A5 A7 AN ma nn vo vn o t old next en an W) : ∀ k, k < n0 ∨ k = B1 ∨ k = B2 ∨ k = A4 ∨ k = A5 ∨ k = A7 ∨ k = AN ∨ k = ma → k < W.heap.size := by
  rintro k (hk | rfl | rfl | rfl | rfl | rfl | rfl | rfl)
  · exact Nat.lt_of_lt_of_le hk h.sz
  · exact h.bo.lt
  · exact h.bn.lt
  · exact h.at_.lt
  · exact h.one.lt
  · exact h.two.lt
  · exact h.an.lt
  · exact h.map.lt
theorem RIt.of_same (h : RIt C n0 B1 B2 A4 A5 A7 AN ma nn vo vn o t old next en an W) (hs : ∀ k, k < n0 ∨ k = B1 ∨ k = B2 ∨ k = A4 ∨ k = A5 ∨ k = A7 ∨ k = AN ∨ k = ma → W'.heap[k]? = W.heap[k]?) (hc : ∀ k, k < W.heap.size → C W' k → C W k) (hz : W.heap.size ≤ W'.heap.size) : RIt C n0 B1 B2 A4 A5 A7 AN ma nn vo vn o t old next en an W' :=
  ⟨(hs _ (by simp)).trans h.bo, (hs _ (by simp)).trans h.bn, (hs _ (by simp)).trans h.at_, (hs _ (by simp)).trans h.one, (hs _ (by simp)).trans h.two, (hs _ (by simp)).trans h.an, h.map.same (hs _ (by simp)), h.lo.same (fun b hb => hs b (.inl hb)), h.ln.same (fun b hb => hs b (.inl hb)),
    fun k hk hC => h.nc k hk (hc k (h.lt k hk) hC), Nat.le_trans h.sz hz⟩
/-- behind a round -/
theorem RIt.keepC (h : RIt C n0 B1 B2 A4 A5 A7 AN ma nn vo vn o t old next en an W) (hk : KeepC C W W') : RIt C n0 B1 B2 A4 A5 A7 AN ma nn vo vn o t old next en an W' :=
  h.of_same (fun k hh => hk.same k (h.lt k hh) (h.nc k hh)) (fun k hlt hC => (hk.mine k hC).elim id (fun h2 => absurd hlt (by omega))) hk.size
/-- behind a call of the iterator's own -/
theorem RIt.below (h : RIt C n0 B1 B2 A4 A5 A7 AN ma nn vo vn o t old next en an W) (hb : Below W.heap.size W W') (hc : ∀ k, C W' k → C W k) : RIt C n0 B1 B2 A4 A5 A7 AN ma nn vo vn o t old next en an W' :=
  h.of_same (fun k hh => hb.block k (h.lt k hh)) (fun k _ hC => hc k hC) hb.size
/-- behind a store into the row of marks -/
theorem RIt.set (h : RIt C n0 B1 B2 A4 A5 A7 AN ma nn vo vn o t old next en an W) (hd : ∀ k, k < n0 ∨ k = B1 ∨ k = B2 ∨ k = A4 ∨ k = A5 ∨ k = A7 ∨ k = ma → k ≠ AN) (i : Nat) (v : Value) (hc : ∀ k, C (W.setCell ⟨AN, i, none⟩ v) k → C W k) : RIt C n0 B1 B2 A4 A5 A7 AN ma nn vo vn o t old next en (an.setIfInBounds i v) (W.setCell ⟨AN, i, none⟩ v) := by
  have hs : ∀ k, k < n0 ∨ k = B1 ∨ k = B2 ∨ k = A4 ∨ k = A5 ∨ k = A7 ∨ k = ma → (W.setCell ⟨AN, i, none⟩ v).heap[k]? = W.heap[k]? := fun k hk => Below.heap_setCell _ _ _ _ (by simpa using hd k hk)
  have hz : (W.setCell ⟨AN, i, none⟩ v).heap.size = W.heap.size := by unfold World.setCell; simp
  exact ⟨(hs _ (by simp)).trans h.bo, (hs _ (by simp)).trans h.bn, (hs _ (by simp)).trans h.at_, (hs _ (by simp)).trans h.one, (hs _ (by simp)).trans h.two, h.an.set i v, h.map.same (hs _ (by simp)), h.lo.same (fun b hb => hs b (.inl hb)), h.ln.same (fun b hb => hs b (.inl hb)),
    fun k hk hC => h.nc k hk (hc k hC), by rw [hz]; exact h.sz⟩
theorem grown_setCell (W : World) (b i : Nat) (v : Value) : W.grownBy (W.setCell ⟨b, i, none⟩ v) (some b) :=
  ⟨rfl, rfl, rfl, by unfold World.setCell; simp, fun k _ hk => Below.heap_setCell _ _ _ k (fun e => hk (by rw [e]))⟩
end
/-- whether an index under i was decided anew and is near to a label -/
def anyNear (old next : List Lb) (k i : Nat) (x : Lb) : Bool := (List.range i).any fun m => decide (m ∈ reachI old next k) && (next[m]?).any (fun y => nearL y x)
theorem anyNear_succ (old next : List Lb) (k i : Nat) (x y : Lb) (h : next[i]? = some y) : anyNear old next k (i + 1) x = (anyNear old next k i x || (decide (i ∈ reachI old next k) && nearL y x)) := by
  unfold anyNear
  rw [List.range_succ, List.any_append]
  simp [h]
theorem anyNear_all (old next : List Lb) (k : Nat) (x : Lb) : anyNear old next k k x = (reachI old next k).any (fun i => (next[i]?).any fun y => nearL y x) := by
  unfold anyNear
  rw [Bool.eq_iff_iff, List.any_eq_true, List.any_eq_true]
  constructor
  · rintro ⟨m, hm, h⟩
    rw [Bool.and_eq_true, decide_eq_true_iff] at h
    exact ⟨m, h.1, h.2⟩
  · rintro ⟨m, hm, h⟩
    exact ⟨m, List.mem_range.2 (reachI_lt old next k m hm), by rw [Bool.and_eq_true, decide_eq_true_iff]; exact ⟨hm, h⟩⟩
theorem reachI_succ (old next : List Lb) (k : Nat) (x : Lb) (h : next[k]? = some x) {b : Bool} (hb : (!sameL old next k x || anyNear old next k k x) = b) : reachI old next (k + 1) = if b then reachI old next k ++ [k] else reachI old next k := by
  rw [anyNear_all] at hb
  conv => lhs; unfold reachI
  rw [h]
  simp only
  rw [hb]
theorem reachI_mem_succ (old next : List Lb) (k i : Nat) (hi : i < k) : decide (i ∈ reachI old next (k + 1)) = decide (i ∈ reachI old next k) := by
  refine decide_eq_decide.2 ?_
  conv => lhs; unfold reachI
  split
  · exact Iff.rfl
  · split
    · rw [List.mem_append]
      constructor
      · rintro (h | h)
        · exact h
        · have : i = k := by simpa using h
          omega
      · exact .inl
    · exact Iff.rfl
theorem reachI_mem_self (old next : List Lb) (k : Nat) (x : Lb) (h : next[k]? = some x) {b : Bool} (hb : (!sameL old next k x || anyNear old next k k x) = b) : decide (k ∈ reachI old next (k + 1)) = b := by
  rw [reachI_succ old next k x h hb]
  have hn : k ∉ reachI old next k := fun hm => by have := reachI_lt old next k k hm; omega
  cases b
  · simpa using hn
  · simp
end Go.Proofs.Ytikojanpbbiaiaa
