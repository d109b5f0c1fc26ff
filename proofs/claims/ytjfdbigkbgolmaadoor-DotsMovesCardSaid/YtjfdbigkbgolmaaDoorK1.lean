/-
  Chapter 29: maps.Keys over dots: the iterator's contract.
-/
import Derived.Test.YtjfdbigkbgolmaaDoorK0
import Derived.RangeFuncBox
import Derived.RangeFuncLeaves
import Derived.RangeFuncNested
import Derived.RangeFuncBound
import Derived.RangeFuncCalls
import Derived.Shelf.AbstractIn
import Derived.RangeFuncSeq
import Derived.WalkKit
import Derived.OwnWalkIn
import Derived.TacticsInMore
import Derived.RegionIn
import Derived.LoopNIn
import Derived.LoopIn
namespace Go.Proofs.YtjfdbigkbgolmaaDoor
set_option linter.unusedVariables false
set_option linter.unusedSimpArgs false
open Go.RowKit Go.Maps Go.Shelf
attribute [local go_sem] Oper.semAt_some

/-- the keys met so far -/
def CollS (l : List (Spot × Int)) (left : Lit → Bool) (ss : List Spot) : Prop := ss.Nodup ∧ (∀ p ∈ ss, FitS p) ∧ ∀ p, FitS p → (p ∈ ss ↔ hasK l p = true ∧ left (klS p) = false)
theorem CollS.start {l : List (Spot × Int)} {D : DataW Unit} (h : ∀ p, FitS p → has D (klS p) = hasK l p) : CollS l (has D) [] :=
  ⟨List.nodup_nil, by simp, fun p hp => by rw [h p hp]; cases hasK l p <;> simp⟩
theorem CollS.step {l : List (Spot × Int)} {left : Lit → Bool} {ss : List Spot} (h : CollS l left ss) {x : Spot} (hx : FitS x) (hl : left (klS x) = true) (hh : hasK l x = true) : CollS l (fun z => left z && !z.sameKey (klS x)) (ss ++ [x]) := by
  have hnew : x ∉ ss := fun hm => by have := ((h.2.2 x hx).1 hm).2; rw [hl] at this; cases this
  refine ⟨List.nodup_append.2 ⟨h.1, by simp, fun a ha b hb => by simp at hb; subst hb; exact fun e => hnew (e ▸ ha)⟩, fun p hp => ?_, fun p hp => ?_⟩
  · rcases List.mem_append.1 hp with h1 | h1
    · exact h.2.1 p h1
    · rw [show p = x by simpa using h1]; exact hx
  · rw [List.mem_append, h.2.2 p hp]
    show _ ↔ _ ∧ (left (klS p) && !(klS p).sameKey (klS x)) = false
    rw [klS_same hp hx]
    by_cases hpx : p = x
    · subst hpx; simp [hh]
    · simp [hpx]
theorem CollS.all {l : List (Spot × Int)} {left : Lit → Bool} {ss : List Spot} (h : CollS l left ss) (h0 : ∀ kl, left kl = false) (hf : ∀ e ∈ l, FitS e.1) : ss.Nodup ∧ ∀ p, p ∈ ss ↔ p ∈ l.map (·.1) := by
  refine ⟨h.1, fun p => ?_⟩
  constructor
  · intro hp
    exact hasK_iff.1 ((h.2.2 p (h.2.1 p hp)).1 hp).1
  · intro hp
    obtain ⟨e, he, rfl⟩ := List.mem_map.1 hp
    exact (h.2.2 _ (hf e he)).2 ⟨hasK_iff.2 hp, h0 _⟩

set_option maxRecDepth 100000 in
set_option maxHeartbeats 2000000 in
theorem keys1_in (F : Fence) (n : Nat) (hf : F.fn 66) (hro : F.round = none) (hn : 1 ≤ n) (l Bm b nn : Nat) (en : List (Spot × Int)) (J Jx : List Spot → World → Prop)
    (hY : ∀ pre x W, J pre W → pre.length < nn → YieldAt F (n - 1) Tryd.prog l #[spotV x] W fun e W' =>
      (e = .returned (.bool true) ∧ J (pre ++ [x]) W' ∧ KeepsWalks W W') ∨ (e = .returned (.bool false) ∧ Jx (pre ++ [x]) W'))
    (W : World) (hJ : AbidesFrom W.heap.size J) (hm : W.cell? ⟨Bm, 0, none⟩ = some (.map (some b))) (hM : MapIs W b nn en) (h0 : J [] W) :
    CallsIn F n Tryd.prog 66 #[.func (.yield l) #[] #[], .pointer (some ⟨Bm, 0, none⟩)] W fun e W' => (∃ v, e = .returned v) ∧
      ((∃ ss, (ss.Nodup ∧ ∀ p, p ∈ ss ↔ p ∈ en.map (·.1)) ∧ J ss W') ∨ (∃ pre, (pre.Nodup ∧ ∀ p ∈ pre, p ∈ en.map (·.1)) ∧ Jx pre W')) := by
  obtain ⟨D, hown, hnd, hfit, hkeys⟩ := hM
  refine callsIn_of_wp Tryd.func66 rfl hf ?_ hro
  simp only [Tryd.ntmps66, List.size_toArray, List.length_cons, List.length_nil, Nat.reduceAdd, Nat.reduceSub, Array.replicate_succ, Array.replicate_zero, List.push_toArray, List.append_toArray, List.nil_append, List.cons_append]
  have hlk0 := Lib.hid hkeys
  clear hkeys
  gi_wp2_with (first | (gi_at_range; refine wpListIn_range_own _ rfl _ 73 rfl 68 3 spotLaw Tryd.underlying73 _ b nn _ rfl hown ?_; intro w0 hrg0 hg0 hs0) | gi_in)
  go_frame
  gi_loopw [3] (fun _ wr => ∃ (left : Lit → Bool) (cnt : Nat) (ss : List Spot), wr.ranges Tryd.prog 68 (plainElem Tryd.prog 3) b W.heap.size nn D left cnt ∧ ss.length + cnt ≤ Maps.size D ∧ CollS en left ss ∧ J ss wr)
    (fun _ wr => wr.rangeLeft b W.heap.size)
  case atStart =>
    exact ⟨_, _, [], hrg0, by simp, CollS.start (fun p hp => (hlk0.out p hp).1), hJ [] W w0 none h0 hg0 (fun r e => by cases e)⟩
  case round =>
    obtain ⟨left, cnt, ss, hrg, hcs, hC, hJs⟩ := hrel
    have hsz := hown.size_le
    gi_wp2_with (first | (gi_at_next; refine wpListIn_next_ranges _ rfl _ rfl 68 spotLaw (plainElem Tryd.prog 3) spotV id (fun key kl hk => by obtain ⟨x, _, hx, _⟩ := keyOf_spot_inv hk; exact ⟨x, hx⟩) (fun v _ _ => ⟨v, rfl⟩) b W.heap.size nn _ _ _ rfl hrg ?_ ?_) | gi_in)
    · intro hc0 hl0
      gi_wp2
      go_end0
      exact ⟨⟨_, rfl⟩, .inl ⟨ss, hC.all hl0 hfit, hJs⟩⟩
    · intro x0 x1 c kl yd yp w2 cnt2 hkey hlk hv hat hrg2 hlt hg2 hs2 hen
      obtain ⟨x', fx, ex, rfl⟩ := keyOf_spot_inv hkey
      obtain rfl : (x0, x1) = x' := by simp at ex; exact Prod.ext ex.1 ex.2
      have hJ2 : J ss w2 := hJ ss wr w2 (some W.heap.size) hJs hg2 (fun r e => by cases e; exact ⟨Nat.le_refl _, hrg.iter_walk⟩)
      have hhas : hasK en (x0, x1) = true := by rw [← (hlk0.out (x0, x1) fx).1]; exact has_true_of_atKey hat
      have hC2 := hC.step fx hlk hhas
      clear hs2 hkey hhas
      obtain ⟨fn, tmps, assign, body, hy, hR⟩ := hY ss (x0, x1) (w2.alloc (.cells #[.int .i64 x0, .int .i64 x1] 68)) (hJ ss w2 _ none hJ2 (World.grownBy_alloc w2 _ none) (fun r e => by cases e)) (by omega)
      gi_wp2
      refine hR.mono ?_
      rintro e W3 (⟨rfl, hJ3, hk3⟩ | ⟨rfl, hJx3⟩)
      · gi_wp2
        have hrg3 := (hrg2.alloc (.cells #[.int .i64 x0, .int .i64 x1] 68)).of_walks hk3
        go_roundw
        case rel => exact ⟨_, cnt2, ss ++ [(x0, x1)], hrg3, by simp; omega, hC2, hJ3⟩
        case measure => rw [hrg3.left_eq, hrg.left_eq]; exact hlt
      · gi_wp2
        refine bodyPost_ret (results_none rfl _ _ _) rfl ?_
        exact ⟨⟨_, rfl⟩, .inr ⟨ss ++ [(x0, x1)], ⟨hC2.1, fun y hy => by have fy := hC2.2.1 y hy; exact hasK_iff.1 ((hC2.2.2 y fy).1 hy).1⟩, hJx3⟩⟩

theorem keys_in (F : Fence) (n : Nat) (hf : F.fn 48) (hro : F.round = none) (mb : Option Nat) (w : World) :
    CallsIn F n Tryd.prog 48 #[.map mb] w fun e w' => e = .returned (.func (.func 66) #[] #[.pointer (some ⟨w.heap.size, 0, none⟩)]) ∧ w' = w.alloc (.cells #[.map mb] 73) := by
  refine callsIn_of_wp Tryd.func48 rfl hf ?_ hro
  simp only [Tryd.ntmps48, List.size_toArray, List.length_cons, List.length_nil, Nat.reduceAdd, Nat.reduceSub, Array.replicate_succ, Array.replicate_zero, List.push_toArray, List.append_toArray, List.nil_append, List.cons_append]
  gi_wp2
  go_ret
  exact ⟨rfl, rfl⟩

/-- the iterator's value, as a sequence that may be stopped -/
theorem keys_stops (F : Fence) (n : Nat) (hf : F.fn 66) (hro : F.round = none) (hn : 1 ≤ n) (Bm b nn : Nat) (en : List (Spot × Int)) (w : World) (hBm : Bm < w.heap.size)
    (hm : w.cell? ⟨Bm, 0, none⟩ = some (.map (some b))) (hM : MapIs w b nn en) :
    SeqStopsK F n Tryd.prog 66 #[.pointer (some ⟨Bm, 0, none⟩)] (fun x : Spot => #[spotV x]) KeepsWalks (fun ss => ss.Nodup ∧ ∀ p, p ∈ ss ↔ p ∈ en.map (·.1)) (fun pre => pre.Nodup ∧ ∀ p ∈ pre, p ∈ en.map (·.1)) nn w := fun l J Jx W hW hJ _ hY h0 =>
  keys1_in F n hf hro hn l Bm b nn en J Jx hY W hJ ((hW.cell (p := ⟨Bm, 0, none⟩) hBm).trans hm) (hM.below hW hM.lt) h0
end Go.Proofs.YtjfdbigkbgolmaaDoor
