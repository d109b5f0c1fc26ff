/-
  span.ends: the iterator's contract: it yields the events' turns, as long as their At are scales, to any loop body that keeps what lay below n₀.
-/
import Derived.Test.YtfcmmclialeepaaRows
import Derived.Test.YtfcmmclialeepaaPS
import Derived.Test.YtfcmmclialeepaaTools
import Derived.RangeFuncBox
import Derived.RangeFuncLeaves
import Derived.RangeFuncNested
import Derived.RangeFuncBound
import Derived.RangeFuncCalls
import Derived.Shelf.Abstract
import Derived.WalkKit
import Derived.OwnWalkIn
import Derived.TacticsInMore
import Derived.LoopNIn
import Derived.LoopIn
namespace Go.Proofs.Ytfcmmclialeepaa
open Go.RowKit Go.Shelf
attribute [local go_sem] Oper.semAt_some

/-- an event in five cells -/
structure EvRow (W : World) (b o : Nat) (e : Ev) : Prop where
  c0 : W.cell? ⟨b, o, none⟩ = some (.int .i64 e.kind)
  c1 : W.cell? ⟨b, o + 1, none⟩ = some (.int .i64 e.when_)
  c2 : W.cell? ⟨b, o + 2, none⟩ = some (.int .i64 e.id)
  c3 : W.cell? ⟨b, o + 3, none⟩ = some (.int .i64 e.other)
  c4 : W.cell? ⟨b, o + 4, none⟩ = some (.int .i64 e.n)

/-- the slice value sv holds the events l, in a block below n₀; or it is nil and there are none -/
def Evs (n₀ : Nat) (W : World) (sv : Value) (l : List Ev) : Prop :=
  (sv = .slice none 0 0 ∧ l = []) ∨ ∃ b off cap, sv = .slice (some ⟨b, off, none⟩) l.length cap ∧ b < n₀ ∧ l.length ≤ 4294967296 ∧ ∀ j, (h : j < l.length) → EvRow W b (off + j * 5) l[j]

theorem EvRow.below {n₀ : Nat} {A B : World} (h : Below n₀ A B) {b o : Nat} {e : Ev} (hb : b < n₀) (r : EvRow A b o e) : EvRow B b o e :=
  ⟨(h.cell (p := ⟨b, o, none⟩) hb).trans r.c0, (h.cell (p := ⟨b, o + 1, none⟩) hb).trans r.c1, (h.cell (p := ⟨b, o + 2, none⟩) hb).trans r.c2, (h.cell (p := ⟨b, o + 3, none⟩) hb).trans r.c3, (h.cell (p := ⟨b, o + 4, none⟩) hb).trans r.c4⟩
theorem Evs.below {n₀ : Nat} {A B : World} (h : Below n₀ A B) {sv : Value} {l : List Ev} : Evs n₀ A sv l → Evs n₀ B sv l
  | .inl e => .inl e
  | .inr ⟨b, off, cap, e, hb, hl, hc⟩ => .inr ⟨b, off, cap, e, hb, hl, fun j hj => (hc j hj).below h hb⟩
theorem Evs.mono {n₀ n₁ : Nat} (h : n₀ ≤ n₁) {W : World} {sv : Value} {l : List Ev} : Evs n₀ W sv l → Evs n₁ W sv l
  | .inl e => .inl e
  | .inr ⟨b, off, cap, e, hb, hl, hc⟩ => .inr ⟨b, off, cap, e, Nat.lt_of_lt_of_le hb h, hl, hc⟩

theorem atE_get {l : List Ev} {k : Nat} (h : k < l.length) : atE l k = l[k].when_ := by unfold atE; rw [List.getElem?_eq_getElem h]; rfl

set_option maxRecDepth 100000 in
set_option maxHeartbeats 2000000 in
theorem ends1_in (F : Fence) (n : Nat) (hf : F.fn 26) (hro : F.round = none) (hn : 1 ≤ n) (l Bh n₀ b off cap : Nat) (d : Int) (evs : List Ev) (hb : b < n₀) (hlen : evs.length ≤ 4294967296) (J Jx : List Turn → World → Prop)
    (hY : ∀ pre x W, J pre W → pre.length < lead evs → YieldAt F (n - 1) Try.prog l #[.int .i64 (x.1.1 : Int), .agg #[.int .i64 x.1.2.1, .int .i64 x.1.2.2]] W fun e W' =>
      (e = .returned (.bool true) ∧ J (pre ++ [x]) W' ∧ Below n₀ W W') ∨ (e = .returned (.bool false) ∧ Jx (pre ++ [x]) W'))
    (hJ : ∀ pre (A : World) (o : Obj), J pre A → J pre (A.alloc o))
    (W : World) (h0c : W.cell? ⟨Bh, 0, none⟩ = some (.int .i64 d)) (h1c : W.cell? ⟨Bh, 1, none⟩ = some (.slice (some ⟨b, off, none⟩) evs.length cap)) (hc : ∀ j, (h : j < evs.length) → EvRow W b (off + j * 5) evs[j]) (h0 : J [] W) (hn₀ : n₀ ≤ W.heap.size) :
    CallsIn F n Try.prog 26 #[.func (.yield l) #[] #[], .pointer (some ⟨Bh, 0, none⟩)] W fun e W' => (∃ v, e = .returned v) ∧
      ((∃ ys, ys = upto (turnS evs) (lead evs) ∧ J ys W') ∨ (∃ pre, (∃ k, k ≤ lead evs ∧ pre = upto (turnS evs) k) ∧ Jx pre W')) := by
  refine callsIn_of_wp Try.func26 rfl hf ?_ hro
  simp only [Try.ntmps26, List.size_toArray, List.length_cons, List.length_nil, Nat.reduceAdd, Nat.reduceSub, Array.replicate_succ, Array.replicate_zero, List.push_toArray, List.append_toArray, List.nil_append, List.cons_append]
  gi_wp2
  gi_loopw [3, 10] (fun u i wr => ∃ k : Nat, k ≤ lead evs ∧ u = .int .i64 (begE evs k) ∧ i = .int .i64 k ∧ J (upto (turnS evs) k) wr ∧ Below n₀ W wr)
    (fun _ i _ => evs.length - (intOf i).toNat)
  case atStart => exact ⟨0, Nat.zero_le _, rfl, rfl, h0, Below.refl _ _⟩
  case round =>
    obtain ⟨k, hk, rfl, rfl, hJs, hnx⟩ := hrel
    have hll := lead_le evs
    by_cases hlt : k < evs.length
    · have r := (hc k hlt).below hnx hb
      have ha := atE_get hlt
      have r0 := r.c0
      have r1 := r.c1
      rw [← ha] at r1
      have r2 := r.c2
      have r3 := r.c3
      have r4 := r.c4
      clear r ha
      by_cases hki : k < lead evs
      · have hin := lead_in evs k hki
        obtain ⟨a0, a1⟩ := hin
        obtain ⟨q0, q1⟩ := sq_in ⟨a0, a1⟩
        obtain ⟨fn, tmps, assign, body, hy, hR⟩ := hY _ (turnS evs k) (wr.alloc (.cells #[.int .i64 evs[k].kind, .int .i64 (atE evs k), .int .i64 evs[k].id, .int .i64 evs[k].other, .int .i64 evs[k].n] 35)) (hJ _ _ _ hJs) (by rw [upto_length]; exact hki)
        rw [turnS_val hki] at hy
        dsimp only [turn] at hy
        gi_wp2
        refine hR.mono ?_
        rintro e W3 (⟨rfl, hJ3, hk3⟩ | ⟨rfl, hJx3⟩)
        · gi_wp2
          go_roundw
          case rel => exact ⟨k + 1, by omega, rfl, by go_num, by rw [upto_succ]; exact hJ3, (hnx.alloc (Nat.le_trans hn₀ hnx.size) _).trans hk3⟩
          case measure => simp [intOf]; omega
        · gi_wp2
          refine bodyPost_ret (results_none rfl _ _ _) rfl ?_
          exact ⟨⟨_, rfl⟩, .inr ⟨_, ⟨k + 1, by omega, (upto_succ _ _).symm⟩, hJx3⟩⟩
      · obtain rfl : k = lead evs := by omega
        have hout := lead_out evs (by omega)
        by_cases hneg : atE evs (lead evs) < 0
        · gi_wp2
          refine bodyPost_ret (results_none rfl _ _ _) rfl ?_
          first | exact ⟨⟨_, rfl⟩, .inl ⟨_, rfl, hJ _ _ _ hJs⟩⟩ | exact ⟨⟨_, rfl⟩, .inl (hJ _ _ _ hJs)⟩
        · have hbig : 1024 < atE evs (lead evs) := by
            by_cases h : 1024 < atE evs (lead evs)
            · exact h
            · exact absurd ⟨by omega, by omega⟩ hout
          clear hout
          gi_wp2
          refine bodyPost_ret (results_none rfl _ _ _) rfl ?_
          first | exact ⟨⟨_, rfl⟩, .inl ⟨_, rfl, hJ _ _ _ hJs⟩⟩ | exact ⟨⟨_, rfl⟩, .inl (hJ _ _ _ hJs)⟩
    · obtain rfl : k = lead evs := by omega
      gi_wp2
      go_end0
      exact ⟨⟨_, rfl⟩, .inl ⟨_, rfl, hJs⟩⟩

set_option maxRecDepth 100000 in
set_option maxHeartbeats 1000000 in
/-- .. at the nil slice: nothing comes. -/
theorem ends1_nil_in (F : Fence) (n : Nat) (hf : F.fn 26) (hro : F.round = none) (l Bh : Nat) (d : Int) (J : List Turn → World → Prop)
    (W : World) (h0c : W.cell? ⟨Bh, 0, none⟩ = some (.int .i64 d)) (h1c : W.cell? ⟨Bh, 1, none⟩ = some (.slice none 0 0)) (h0 : J [] W) :
    CallsIn F n Try.prog 26 #[.func (.yield l) #[] #[], .pointer (some ⟨Bh, 0, none⟩)] W fun e W' => (∃ v, e = .returned v) ∧ J [] W' := by
  refine callsIn_of_wp Try.func26 rfl hf ?_ hro
  simp only [Try.ntmps26, List.size_toArray, List.length_cons, List.length_nil, Nat.reduceAdd, Nat.reduceSub, Array.replicate_succ, Array.replicate_zero, List.push_toArray, List.append_toArray, List.nil_append, List.cons_append]
  gi_wp2
  gi_loopw [10] (fun i wr => i = .int .i64 0 ∧ J [] wr) (fun _ _ => 0)
  case atStart => exact ⟨rfl, h0⟩
  case round =>
    obtain ⟨rfl, hJs⟩ := hrel
    gi_wp2
    go_end0
    exact ⟨⟨_, rfl⟩, hJs⟩

set_option maxHeartbeats 1000000 in
/-- span.ends: the history is boxed; the function value captures the box. -/
theorem ends_in (F : Fence) (n : Nat) (hf : F.fn 19) (hro : F.round = none) (d : Int) (a : Option Addr) (len cap : Nat) (w : World) :
    CallsIn F n Try.prog 19 #[.agg #[.int .i64 d, .slice a len cap]] w fun e w' => e = .returned (.func (.func 26) #[] #[.pointer (some ⟨w.heap.size, 0, none⟩)]) ∧ w' = w.alloc (.cells #[.int .i64 d, .slice a len cap] 32) := by
  refine callsIn_of_wp Try.func19 rfl hf ?_ hro
  simp only [Try.ntmps19, List.size_toArray, List.length_cons, List.length_nil, Nat.reduceAdd, Nat.reduceSub, Array.replicate_succ, Array.replicate_zero, List.push_toArray, List.append_toArray, List.nil_append, List.cons_append]
  gi_wp2
  go_ret
  exact ⟨rfl, rfl⟩

theorem abides_alloc {β : Type} {B : Nat} {J : β → World → Prop} (hJ : AbidesFrom B J) (s : β) (A : World) (o : Obj) (h : J s A) : J s (A.alloc o) :=
  hJ s A _ none h (World.grownBy_alloc A o none) (fun _ e => by cases e)

/-- the iterator's value, as a sequence that may be stopped -/
theorem ends_stops (F : Fence) (n : Nat) (hf : F.fn 26) (hro : F.round = none) (hn : 1 ≤ n) (Bh n₀ : Nat) (d : Int) (sv : Value) (evs : List Ev) (w : World) (hBh : Bh < w.heap.size) (hn₀ : n₀ ≤ w.heap.size)
    (h0c : w.cell? ⟨Bh, 0, none⟩ = some (.int .i64 d)) (h1c : w.cell? ⟨Bh, 1, none⟩ = some sv) (hE : Evs n₀ w sv evs) :
    SeqStopsK F n Try.prog 26 #[.pointer (some ⟨Bh, 0, none⟩)] (fun x : Turn => #[Value.int .i64 (x.1.1 : Int), Value.agg #[Value.int .i64 x.1.2.1, Value.int .i64 x.1.2.2]]) (Below n₀) (fun ys => ys = upto (turnS evs) (lead evs))
      (fun pre => ∃ k, k ≤ lead evs ∧ pre = upto (turnS evs) k) (lead evs) w := fun l J Jx W hW hJ _ hY h0 => by
  have h0c' := (hW.cell (p := ⟨Bh, 0, none⟩) hBh).trans h0c
  have h1c' := (hW.cell (p := ⟨Bh, 1, none⟩) hBh).trans h1c
  rcases hE.below (hW.mono hn₀) with ⟨rfl, rfl⟩ | ⟨b, off, cap, rfl, hb, hl, hcs⟩
  · exact (ends1_nil_in F n hf hro l Bh d J W h0c' h1c' h0).mono fun e W' ⟨he, hj⟩ => ⟨he, .inl ⟨_, rfl, hj⟩⟩
  · exact ends1_in F n hf hro hn l Bh n₀ b off cap d evs hb hl J Jx hY (fun pre A o h => abides_alloc hJ pre A o h) W h0c' h1c' hcs h0 (Nat.le_trans hn₀ hW.size)
end Go.Proofs.Ytfcmmclialeepaa
