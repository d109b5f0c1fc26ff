/-
  Chapter 29: slices.AppendSeq, slices.Collect at dots: what the iterator gave, in its order, in a row of the call's own.
-/
import Derived.Test.YtjfdbigkbgolmaaDoorB0
namespace Go.Proofs.YtjfdbigkbgolmaaDoor
set_option linter.unusedVariables false
set_option linter.unusedSimpArgs false
open Go.RowKit Go.Shelf
attribute [local go_sem] Oper.semAt_some

theorem spotInfo : (Tryd.prog.info? 68).map (fun i => (i.zero, i.size, i.bytes)) = some (some (.agg #[.int .i64 0, .int .i64 0]), 2, 16) := by kernel_rfl

structure ApI (w : World) (B : Nat) (pre : List Spot) (W : World) : Prop where
  box : ∃ v, Blk W B #[v] 94 ∧ W.ownsRow w.heap.size 68 2 v pre.length (pre.flatMap encS) ∧ (v = .slice none 0 0 ↔ pre = [])
  below : Below w.heap.size w W
theorem apI_own (w : World) (B B' : Nat) (hB : w.heap.size ≤ B') : OwnFrom B' (ApI w B) := fun s X Y row hs hg hr => by
  obtain ⟨v, hb, hrow, hn⟩ := hs.box
  exact ⟨⟨v, hb.kept hg (fun e' => by obtain ⟨-, o, ho, hc⟩ := hr B e'; rw [show X.heap[B]? = _ from hb] at ho; cases ho; cases hc),
    ownsRow_turn hrow hg (fun r e => by obtain ⟨-, o, ho, hc⟩ := hr r e; exact ⟨o, ho, fun cur e => by subst e; cases hc⟩), hn⟩, hs.below.grown hg hs.below.size (fun k e => Nat.le_trans hB (hr k e).1)⟩

set_option maxRecDepth 100000 in
set_option maxHeartbeats 4000000 in
theorem appendSeq_in (F : Fence) (n : Nat) (hf : F.fn 73) (hro : F.round = none) (hn : 2 ≤ n) (g : Nat) (lb : Array Value) (hFg : F.fn g) (eg : ∀ args w, (callFunc g args).run Tryd.prog w = .ok (.enter g args) w)
    (S Sp : List Spot → Prop) (N : Nat) (hN : N ≤ 4294967296) (w : World) (hseq : SeqStopsK F (n - 1) Tryd.prog g lb (fun x : Spot => #[spotV x]) KeepsWalks S Sp N w) :
    CallsIn F n Tryd.prog 73 #[.slice none 0 0, .func (.func g) #[] lb] w fun e w' => ∃ v ss, e = .returned v ∧ S ss ∧ w'.ownsRow w.heap.size 68 2 v ss.length (ss.flatMap encS) ∧ (v = .slice none 0 0 ↔ ss = []) ∧ Below w.heap.size w w' := by
  have h1 : 1 ≤ n := by omega
  obtain ⟨i0, hi0, hz0, hz1, hz2⟩ := info_parts spotInfo
  refine callsIn_of_wp_marks Tryd.func73 rfl hf ?_ hro
  simp only [Tryd.ntmps73, List.size_toArray, List.length_cons, List.length_nil, Nat.reduceAdd, Nat.reduceSub, Array.replicate_succ, Array.replicate_zero, List.push_toArray, List.append_toArray, List.nil_append, List.cons_append]
  gi_wp2
  have bS := Blk.new w #[.slice none 0 0] 94
  obtain ⟨W0, hW0⟩ : ∃ W0, w.alloc (.cells #[.slice none 0 0] 94) = W0 := ⟨_, rfl⟩
  have hB0 : Below w.heap.size w W0 := by rw [← hW0]; exact (by repeat' (first | with_reducible exact Below.refl _ _ | with_reducible exact Nat.le_refl _ | with_reducible assumption | with_reducible refine Go.below_growBy' ?_ ?_ _ | with_reducible refine Below.alloc ?_ ?_ _ | with_reducible refine Below.setCell ?_ ?_ _ | with_reducible refine Below.drew ?_ | with_reducible refine Go.le_alloc ?_ | with_reducible refine Go.le_growBy ?_ | with_reducible refine Go.le_setCell ?_ | with_reducible refine Go.le_drew ?_ | omega | (dsimp only; omega)))
  have hsz : W0.heap.size = w.heap.size + 1 := by rw [← hW0]; simp
  rw [hW0] at bS ⊢
  clear hW0
  refine wpIn_rangeFunc_ownH hro h1 (gf := g) (lb := lb) rfl hFg eg hseq walksK_t walksK_b hB0 (fun _ => rfl)
    (ApI w w.heap.size) (fun _ _ _ => False)
    (apI_own w _ _ (by omega)) (fun c => ownFrom_pure _ _)
    ⟨⟨_, bS, ⟨rfl, .inl ⟨rfl, rfl⟩⟩, by simp⟩, hB0⟩
    (fun x a' W => ∃ Bx, w.heap.size < Bx ∧ Blk W Bx #[.int .i64 x.1, .int .i64 x.2] 68 ∧ a' = { tmps := #[.slice none 0 0, .func (.func g) #[] lb, .pointer (some ⟨w.heap.size, 0, none⟩), undef, .slice none 0 0, .pointer (some ⟨Bx, 0, none⟩), .func (.func g) #[] lb, spotV x, undef, undef, undef, undef, undef], defers := [] })
    (fun x a' _ X Y row hs hg hr => by obtain ⟨Bx, h1, h2, h3⟩ := hs; exact ⟨Bx, h1, blk_own Bx 68 (fun (_ : Unit) => #[Value.int .i64 x.1, Value.int .i64 x.2]) () X Y row h2 hg (fun r e => (hr r e).2), h3⟩)
    ?assign ?body ?done ?stop
  case assign =>
    rintro l pre x W K ⟨⟨v, bS1, hrow, hnl⟩, hB1⟩ hK
    gi_wp2
    have hlt := bS1.lt
    exact hK _ _ ((KeepsOthers.alloc _ _).from _) (KeepsWalks.alloc _ _) ⟨⟨v, bS1.alloc _, hrow.alloc _, hnl⟩, hB1.alloc hB1.size _⟩ ⟨W.heap.size, by omega, Blk.new W _ _, rfl⟩
  case body =>
    rintro l pre x a' W hl ⟨r, hr⟩ ⟨⟨v, bS1, hrow, hnl⟩, hB1⟩ ⟨Bx, hBx, bX, rfl⟩ hlt
    have cS : W.cell? ⟨w.heap.size, 0, none⟩ = some v := bS1.cell 0
    have fS := bS1.frozen 0
    have cX0 : W.cell? ⟨Bx, 0, none⟩ = some (.int .i64 x.1) := bX.cell 0
    have cX1 : W.cell? ⟨Bx, 1, none⟩ = some (.int .i64 x.2) := bX.cell 1
    obtain ⟨x0, x1⟩ := x
    simp only at cX0 cX1
    have hne : 94 ≠ 68 := by decide
    have hne2 := ownsRow_other (hrow.alloc (.cells #[.int .i64 x0, .int .i64 x1] 68)) (bS1.alloc _) hne
    have hsW := hB1.size
    have hnews : ∀ j u, (encS (x0, x1))[j]? = some u → (W.alloc (.cells #[.int .i64 x0, .int .i64 x1] 68)).cell? ((⟨W.heap.size, 0, none⟩ : Addr).add j) = some u := fun j u hj => by
      have hb := (Blk.new W #[.int .i64 x0, .int .i64 x1] 68).cell j
      rw [Go.WideShapes.add_plain, Nat.zero_add, hb]
      match j, hj with
      | 0, hj => exact hj
      | 1, hj => exact hj
      | j + 2, hj => simp at hj
    have h1c : ∀ u ∈ encS (x0, x1), u.oneCell' = true := by simp [Value.oneCell']
    gi_wp2_with (first | (gi_at_builtin; refine wpListIn_append_own _ (by rfl) _ _ 94 (by rfl) w.heap.size 68 i0 _ 2 16 Tryd.underlying94 hi0 hz0 hz1 hz2 (by rfl) (by decide) v pre.length _ (by rfl) (hrow.alloc _) ⟨W.heap.size, 0, none⟩ 1 1 (encS (x0, x1)) (by rfl) (by rfl) hnews h1c (by unfold maxLen; omega) (by omega) (by simp; omega) ?_; intro v' w3 hown' hg3 hnil3; have bS3 := (bS1.alloc (.cells #[.int .i64 x0, .int .i64 x1] 68)).kept hg3 hne2; have cS3 : w3.cell? ⟨w.heap.size, 0, none⟩ = some v := bS3.cell 0; have fS3 := bS3.frozen 0; obtain ⟨g', cap', rfl⟩ : ∃ g' cap', v' = .slice (some ⟨g', 0, none⟩) (pre.length + 1) cap' := (by rcases hown'.2 with ⟨_, h0⟩ | ⟨g', cap', cur', e', _⟩; exact absurd h0 (by omega); exact ⟨g', cap', e'⟩); go_frame) | gi_in)
    have hko : KeepsOthers W (w3.setCell ⟨w.heap.size, 0, none⟩ (.slice (some ⟨g', 0, none⟩) (pre.length + 1) cap')) :=
      (KeepsOthers.alloc _ _).trans ((KeepsOthers.of_grownBy hg3 (ownsRow_cells (hrow.alloc _))).trans (KeepsOthers.setCell _ _ _))
    have hB3 : Below w.heap.size w w3 := (hB1.alloc hsW _).grown hg3 (by simp; omega) (fun k e => (hrow.lt k e).1)
    refine ⟨hko.from _, hko.walks, ⟨⟨_, by have := bS3.set 0 (.slice (some ⟨g', 0, none⟩) (pre.length + 1) cap'); simpa using this, ?_, by simp⟩, hB3.setCell (p := ⟨w.heap.size, 0, none⟩) (Nat.le_refl _) _⟩⟩
    have := hown'.kept (grownBy_setCell' w3 w.heap.size (.slice (some ⟨g', 0, none⟩) (pre.length + 1) cap')) (.inr (ownsRow_other hown' bS3 hne))
    simpa using this
  case done =>
    rintro D ys W hD hS ⟨⟨v, bS1, hrow, hnl⟩, hB1⟩ hK
    have cS : W.cell? ⟨w.heap.size, 0, none⟩ = some v := bS1.cell 0
    have fS := bS1.frozen 0
    gi_wp2
    refine ⟨by simp, .inl ⟨_, _, rfl, run_takeDeferred hK, ?_⟩⟩
    exact ⟨_, results_tmp rfl _ _ _, v, ys, rfl, hS, ownsRow_turn hrow (grownBy_putObj' _ _ _) (fun r e => by cases e; exact ⟨_, hK, fun cur e => by cases e⟩), hnl, hB1.grown (grownBy_putObj' _ _ _) hB1.size (fun k e => by cases e; omega)⟩
  case stop =>
    rintro D c pre W hD hS hF hK
    exact hF.elim

set_option maxHeartbeats 1000000 in
theorem collect_in (F : Fence) (n : Nat) (hf : F.fn 64) (hf2 : F.fn 73) (hro : F.round = none) (hn : 3 ≤ n) (g : Nat) (lb : Array Value) (hFg : F.fn g) (eg : ∀ args w, (callFunc g args).run Tryd.prog w = .ok (.enter g args) w)
    (S Sp : List Spot → Prop) (N : Nat) (hN : N ≤ 4294967296) (w : World) (hseq : SeqStopsK F (n - 1 - 1) Tryd.prog g lb (fun x : Spot => #[spotV x]) KeepsWalks S Sp N w) :
    CallsIn F n Tryd.prog 64 #[.func (.func g) #[] lb] w fun e w' => ∃ v ss, e = .returned v ∧ S ss ∧ w'.ownsRow w.heap.size 68 2 v ss.length (ss.flatMap encS) ∧ (v = .slice none 0 0 ↔ ss = []) ∧ Below w.heap.size w w' := by
  have h1 : 1 ≤ n := by omega
  refine callsIn_of_wp Tryd.func64 rfl hf ?_ hro
  simp only [Tryd.ntmps64, List.size_toArray, List.length_cons, List.length_nil, Nat.reduceAdd, Nat.reduceSub, Array.replicate_succ, Array.replicate_zero, List.push_toArray, List.append_toArray, List.nil_append, List.cons_append]
  gi_wp2_with (gi_at_call 73; refine (appendSeq_in F (n - 1) hf2 hro (by omega) g lb hFg eg S Sp N hN _ hseq).mono ?_; rintro e w' ⟨v, ss, rfl, hS, hrow, hnl, hb⟩)
  go_ret
  exact ⟨v, ss, rfl, hS, hrow, hnl, hb⟩
end Go.Proofs.YtjfdbigkbgolmaaDoor
