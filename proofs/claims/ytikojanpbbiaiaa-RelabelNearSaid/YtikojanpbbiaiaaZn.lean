/-
  A drawn region within a round of a range over a function: where no operation calls a Go function, the plain walk's word serves (the wide fence).
  Chapter 24: relabel.Reach walked.
-/
import Derived.Test.YtikojanpbbiaiaaZi
import Derived.Test.YtikojanpbbiaiaaZl
import Derived.Test.YtikojanpbbiaiaaZm
import Derived.OrdersIn
namespace Go.Proofs.Ytikojanpbbiaiaa
set_option linter.unusedVariables false
set_option linter.unusedSimpArgs false
open Go Go.RowKit

/-- an operation that leaves a value, or halts: it enters nothing -/
def Enters0 (P : Program) (F : Fence) (o : Oper) : Prop := (∀ (ρ : Operand → Value), o.semAt F.round ρ = execOp ρ o) ∧ ∀ (ρ : Operand → Value) (w : World), (∃ X : Result Value, (execOp ρ o).run P w = X.andThen fun v w' => .ok (.value v) w') ∨ ∃ X : Result Unit, (execOp ρ o).run P w = X.andThen fun _ w' => .ok .skip w'
theorem wpIn_of_wp0 {F : Fence} {n : Nat} {P : Program} {o : Oper} (h0 : Enters0 P F o) (hF : ∀ f, F.fn f) {a : Act} {w : World} {K : Act → World → Prop} {Q : Exit → Act → World → Prop} (h : o.wp P a w K Q) : o.wpIn F n P a w K Q := by
  refine ⟨fun f _ => hF f, ?_⟩
  rw [h0.1 a.eval]
  unfold Oper.wp at h
  rcases h0.2 a.eval w with ⟨X, hX⟩ | ⟨X, hX⟩
  all_goals
    rw [hX] at h ⊢
    cases X with
    | ok v w' => exact h
    | halt s w' => cases s <;> first | exact h | exact h.elim
theorem wpAnyIn_of_wpAny {F : Fence} {n : Nat} {P : Program} {md : Region.Mode} {ops : Array Oper} {Q : Exit → Act → World → Prop} (h0 : ∀ (i : Nat) (o : Oper), ops[i]? = some o → Enters0 P F o) (hF : ∀ f, F.fn f) (hQ : ¬ LetsOut Q) : ∀ (fuel : Nat) (listed : Array Bool) (a : Act) (w : World), wpAny P md ops Q fuel listed a w → wpAnyIn F n P md ops Q fuel listed a w := by
  intro fuel
  induction fuel with
  | zero => exact fun _ _ _ h => h
  | succ fuel ih =>
    rintro listed a w ⟨h1, h2⟩
    refine ⟨h1, fun i hi => ?_⟩
    have h := h2 i hi
    unfold wpOp at h
    unfold wpOpIn
    cases ho : ops[i]? with
    | none =>
      rw [ho] at h
      exact ih _ _ _ h
    | some o =>
      rw [ho] at h
      simp only at h ⊢
      split
      · rename_i hw
        rw [if_pos hw] at h
        rcases h with h | ⟨_, h⟩
        · have hm := wpIn_of_wp0 (n := n) (h0 i o ho) hF h
          refine ⟨hm.1, ?_⟩
          have := hm.2
          rw [(h0 i o ho).1 a.eval] at this ⊢
          rcases (h0 i o ho).2 a.eval w with ⟨X, hX⟩ | ⟨X, hX⟩
          all_goals
            rw [hX] at this ⊢
            cases X with
            | ok v w' => exact ih _ _ _ this
            | halt s w' => cases s <;> first | exact this | exact this.elim
        · exact absurd h hQ
      · rename_i hw
        rw [if_neg hw] at h
        exact ⟨fun f _ => hF f, ih _ _ _ h⟩
/-- wp_region_rel, within a round -/
theorem wpIn_region_rel {F : Fence} {m : Nat} {P : Program} (hF : ∀ f, F.fn f) {id : Nat} {Q : Exit → Act → World → Prop} (hQ : ¬ LetsOut Q) {a : Act} {w : World} {l : List Oper} (h0 : ∀ (i : Nat) (o : Oper), l.toArray[i]? = some o → Enters0 P F o) (n : Nat) (hm : P.follows .mixedOrders = true) (hB : Region.relB l.toArray n a.tmps.size = true)
    (I : Nat → World → Prop) (G : World → World → Prop) (Fv : Nat → Value → World → Prop) (hFv : ∀ i v w w', Fv i v w → G w w' → Fv i v w') (hI0 : I 0 w.drew)
    (hstep : ∀ i o, i < n → l.toArray[i]? = some o → ∀ c b w', c < n → I c w' → Agree l.toArray n a b → (∀ e ∈ o.after, Region.binds .any e = true → LeftAt l.toArray Fv e.on b w') →
      ∀ K : Act → World → Prop, (∀ v w'', Fv i v w'' → G w' w'' → I (c + 1) w'' → K (b.put o.dst v) w'') → Oper.wp P o b w' K Q)
    (htail : ∀ b w', I n w' → Agree l.toArray n a b → (∀ i, i < n → LeftAt l.toArray Fv i b w') → wpList P l.toArray Q (l.drop n) b w') :
    (Code.region id l.toArray true).wpIn F m P Q a w := by
  simp only [Region.relB, Bool.and_eq_true, decide_eq_true_eq] at hB
  obtain ⟨⟨⟨⟨hn, hs⟩, hc⟩, hh⟩, hseq⟩ := hB
  have hh' : ∀ i, i < n → ∃ o d, HeadOk l.toArray n a.tmps.size i o d := fun i hi => Region.headB_spec (List.all_eq_true.1 hh i (List.mem_range.2 hi))
  have inv0 : HeadInv .any l.toArray n (Array.replicate l.toArray.size false) :=
    ⟨by simp, fun j oj _ hl => (by rw [getD_replicate_false] at hl; cases hl), fun t _ ht => getD_in (by simpa using ht) (getD_replicate_false _ _)⟩
  refine wpIn_region_any hm ?_
  refine wpAnyIn_of_wpAny h0 hF hQ _ _ _ _ ?_
  have h := wp_rel_go (P := P) (Q := Q) (a := a) hn hs hc hh' hseq I G Fv hFv hstep htail n 0 _ a w.drew (by omega) (cntL_none n) inv0 hI0 (Agree.refl _ _ _) (fun j hj hl => by rw [getD_replicate_false] at hl; cases hl)
  rw [show n + (l.toArray.size - n) = l.toArray.size from by omega] at h
  exact h
end Go.Proofs.Ytikojanpbbiaiaa
namespace Go.Proofs.Ytikojanpbbiaiaa
set_option linter.unusedVariables false
set_option linter.unusedSimpArgs false
open Go Go.RowKit Go.Shelf Go.Maps
attribute [local go_sem] Oper.semAt_some
attribute [local go_sem ↓] Go.wp_at_zero Go.wp_at_succ

theorem evalAt {b : Act} {k : Nat} {v : Value} (h : b.eval (.tmp k) = v) : b.tmps[k]?.getD undef = v := by
  simpa [Act.eval] using h
/-- what the region of the body reads -/
structure ReI (wr : World) (B3 Bo b off q m lcap : Nat) (ov : Value) (id : Int) (W : World) : Prop where
  bel : Below wr.heap.size wr W
  o : W.cell? ⟨Bo, 0, none⟩ = some ov
  n : W.cell? ⟨B3, 0, none⟩ = some (.slice (some ⟨b, off, none⟩) m lcap)
  x : W.cell? ⟨b, off + q * 6, none⟩ = some (.int .i64 id)
theorem ReI.up {wr W W' : World} {B3 Bo b off q m lcap : Nat} {ov : Value} {id : Int} (h : ReI wr B3 Bo b off q m lcap ov id W) (hb : Below W.heap.size W W') : ReI wr B3 Bo b off q m lcap ov id W' :=
  ⟨h.bel.trans (hb.mono h.bel.size), cell_below hb h.o, cell_below hb h.n, cell_below hb h.x⟩

def FRe (wr w0 : World) (next : List Lb) (b off q cn : Nat) (ov : Value) (i2 : Int) (i : Nat) (v : Value) (w : World) : Prop :=
  match i with
  | 0 => v = ov
  | 1 => v = .slice (some ⟨b, off, none⟩) next.length cn
  | 2 => v = .int .i64 (q : Nat)
  | 3 => v = .pointer (some ⟨b, off + q * 6, none⟩)
  | 4 => v = .pointer (some ⟨b, off + q * 6, none⟩)
  | 5 => v = .int .i64 i2
  | 6 => ∃ L, v = .slice (some ⟨L, 0, none⟩) 1 1 ∧ wr.heap.size ≤ L ∧ Blk w L #[.int .i64 i2] 3
  | _ => False
theorem FRe.kept {wr w0 : World} {next : List Lb} {b off q cn : Nat} {ov : Value} {i2 : Int} {i : Nat} {v : Value} {w w' : World} (h : FRe wr w0 next b off q cn ov i2 i v w) (hg : Below w.heap.size w w') : FRe wr w0 next b off q cn ov i2 i v w' := by
  unfold FRe at *
  split at h
  all_goals first | exact h | (obtain ⟨L, h1, h2, h3⟩ := h; exact ⟨L, h1, h2, h3.below hg h3.lt⟩)
theorem reached_any (ao an : Option Addr) (lo ln co cn : Nat) (w : World) : Calls Try.prog 29 #[.slice ao lo co, .slice an ln cn] w fun e w' => e = .returned (.func (.func 61) #[] #[.pointer (some ⟨w.heap.size, 0, none⟩), .pointer (some ⟨w.heap.size + 1, 0, none⟩)]) ∧ w' = (w.alloc (.cells #[.slice ao lo co] 33)).alloc (.cells #[.slice an ln cn] 33) := by
  go_enter Try.func29, Try.ntmps29
  go_wp2_with fail
  go_ret
  exact ⟨rfl, rfl⟩
theorem ids_map (next : List Lb) : ∀ xs : List (Fin next.length), (xs.map Fin.val).filterMap (fun i => next[i]?) = xs.map fun k => next[k]
  | [] => rfl
  | x :: xs => by
    have hx : next[x.val]? = some next[x] := List.getElem?_eq_getElem x.isLt
    rw [List.map_cons, List.filterMap_cons, hx, ids_map next xs]
    rfl
theorem ids_eq (old next : List Lb) (xs : List (Fin next.length)) (h : xs.map Fin.val = reachI old next next.length) : idsOf next xs = (reachL old next next.length).map Lb.id := by
  rw [← reachI_reachL, ← h, ids_map, List.map_map]
  rfl
set_option maxRecDepth 100000 in
set_option maxHeartbeats 4000000 in
theorem reach_any (vo vn : Value) (old next : List Lb) (w0 : World) (ho : Lst lbE w0.heap.size w0 vo old) (hn : Lst lbE w0.heap.size w0 vn next) (hol : old.length ≤ 1000) (hnl : next.length ≤ 1000) (hok : ∀ x ∈ old, LbKey x) (hnk : ∀ x ∈ next, LbKey x) :
    Calls Try.prog 17 #[vo, vn] w0 fun e w' => ∃ u, e = .returned u ∧ w'.ownsRow w0.heap.size 3 1 u ((reachL old next next.length).map Lb.id).length (((reachL old next next.length).map Lb.id).flatMap inE.enc) ∧ Below w0.heap.size w0 w' := by
  obtain ⟨ao, co, rfl, -⟩ := ho.form
  obtain ⟨an, cn, rfl, -⟩ := hn.form
  refine (callsIn_wide (n := 3)).1 ?_
  refine callsIn_of_wp_marks Try.func17 rfl trivial ?_ rfl
  simp only [Try.ntmps17, List.size_toArray, List.length_cons, List.length_nil, Nat.reduceAdd, Nat.reduceSub, Array.replicate_succ, Array.replicate_zero, List.push_toArray, List.append_toArray, List.nil_append, List.cons_append]
  refine wpIn_wide.2 ?_
  go_wp2_with (first | (go_at_call 29; refine (reached_any _ _ _ _ _ _ _).mono ?_; rintro e w1 ⟨rfl, rfl⟩) | fail)
  have kB3 := (((Blk.new w0 #[.slice an next.length cn] 33).alloc (.cells #[.slice none 0 0] 55)).alloc (.cells #[.slice ao old.length co] 33)).alloc (.cells #[.slice an next.length cn] 33)
  have kBo := ((Blk.new (w0.alloc (.cells #[.slice an next.length cn] 33)) #[.slice none 0 0] 55).alloc (.cells #[.slice ao old.length co] 33)).alloc (.cells #[.slice an next.length cn] 33)
  have kB1 := (Blk.new ((w0.alloc (.cells #[.slice an next.length cn] 33)).alloc (.cells #[.slice none 0 0] 55)) #[.slice ao old.length co] 33).alloc (.cells #[.slice an next.length cn] 33)
  have kB2 := Blk.new (((w0.alloc (.cells #[.slice an next.length cn] 33)).alloc (.cells #[.slice none 0 0] 55)).alloc (.cells #[.slice ao old.length co] 33)) #[.slice an next.length cn] 33
  simp only [World.size_alloc] at kBo kB1 kB2
  have hBY : Below w0.heap.size w0 ((((w0.alloc (.cells #[.slice an next.length cn] 33)).alloc (.cells #[.slice none 0 0] 55)).alloc (.cells #[.slice ao old.length co] 33)).alloc (.cells #[.slice an next.length cn] 33)) := (by repeat' (first | with_reducible exact Below.refl _ _ | with_reducible exact Nat.le_refl _ | with_reducible assumption | with_reducible refine Go.below_growBy' ?_ ?_ _ | with_reducible refine Below.alloc ?_ ?_ _ | with_reducible refine Below.setCell ?_ ?_ _ | with_reducible refine Below.drew ?_ | with_reducible refine Go.le_alloc ?_ | with_reducible refine Go.le_growBy ?_ | with_reducible refine Go.le_setCell ?_ | with_reducible refine Go.le_drew ?_ | omega | (dsimp only; omega)))
  obtain ⟨Y, hY⟩ : ∃ Y, (((w0.alloc (.cells #[.slice an next.length cn] 33)).alloc (.cells #[.slice none 0 0] 55)).alloc (.cells #[.slice ao old.length co] 33)).alloc (.cells #[.slice an next.length cn] 33) = Y := ⟨_, rfl⟩
  have hYs : Y.heap.size = w0.heap.size + 4 := by rw [← hY]; simp
  rw [hY] at kB3 kBo kB1 kB2 hBY
  rw [hY]
  clear hY
  have hlo := ho.below hBY
  have hln := hn.below hBY
  have hI0 : RI w0 (w0.heap.size + 1) w0.heap.size (.slice an next.length cn) next [] Y := ⟨⟨_, kBo, ⟨by simp, .inl ⟨rfl, by simp⟩⟩⟩, kB3, hln, hBY⟩
  have hseq : SeqC Fence.wide (3 - 1) Try.prog 61 #[.pointer (some ⟨w0.heap.size + 1 + 1, 0, none⟩), .pointer (some ⟨w0.heap.size + 1 + 1 + 1, 0, none⟩)] (fun x : Fin next.length => #[.int .i64 (x.val : Nat)]) (outC (w0.heap.size + 1)) (fun xs => xs.map Fin.val = reachI old next next.length) next.length Y := by
    intro l J W hW hJ hCb hC0 hYd h0
    have hbo := kBo.below hW kBo.lt
    have hWs := hW.size
    refine (reached1_in 2 (by omega) l w0.heap.size _ _ _ _ old next (outC (w0.heap.size + 1)) (fun pre W => ∃ fs : List (Fin next.length), fs.map Fin.val = pre ∧ J fs W) W ?_ ?_ ?_ (kB1.below hW kB1.lt) (kB2.below hW kB2.lt) (hlo.below (hW.mono (by omega))) (hln.below (hW.mono (by omega))) ?_ (by omega) hC0 hol hnl hok hnk ⟨[], rfl, h0⟩).mono ?_
    · rintro s A A' row k ⟨fs, -, h⟩ hg hr hc
      exact hCb fs A A' row k h hg hr hc
    · rintro pre x W1 ⟨fs, hfs, h⟩ hl hx
      obtain ⟨fn, tmps, assign, body, hy, hR⟩ := hYd fs ⟨x, hx⟩ W1 h (by rw [← hfs] at hl; simpa using hl)
      refine ⟨fn, tmps, assign, body, hy, hR.mono ?_⟩
      rintro e W' ⟨rfl, h1, h2⟩
      exact ⟨rfl, ⟨_, by simp [hfs], h1⟩, h2⟩
    · rintro s A A' row ⟨fs, hfs, h⟩ hg hr
      exact ⟨fs, hfs, hJ fs A A' row h hg hr⟩
    · rintro k hk ⟨-, hc | ⟨off, len, cap, hc⟩⟩
      · omega
      · rw [hbo.cell 0] at hc
        simp at hc
    · rintro e W' ⟨⟨v, rfl⟩, xs, rfl, fs, hfs, h⟩
      exact ⟨⟨_, rfl⟩, fs, hfs, h⟩
  refine (wpIn_wide (n := 3)).1 (wpIn_rangeFunc_cells (α := Fin next.length) rfl (by omega) rfl trivial (enters_of Try.func61 (by kernel_rfl) rfl) (outC_put (w0.heap.size + 1)) (outC_cl (w0.heap.size + 1)) (outC_alloc (w0.heap.size + 1)) (fun k h => outC_lt h) hseq (Below.refl _ _) (fun _ => rfl)
    (fun pre W => RI w0 (w0.heap.size + 1) w0.heap.size (.slice an next.length cn) next pre W) (fun pre A A' row h hg hr => h.turn (Z := Y.heap.size) (by omega) (by omega) hg hr) (fun pre A A' row k h hg hr hc => h.mine hg hr hc) hI0
    (fun x => { tmps := #[.slice ao old.length co, .slice an next.length cn, undef, .pointer (some ⟨w0.heap.size, 0, none⟩), .slice none 0 0, .pointer (some ⟨w0.heap.size + 1, 0, none⟩), .int .i64 (x.val : Nat), .slice ao old.length co, .slice an next.length cn, .func (.func 61) #[] #[.pointer (some ⟨w0.heap.size + 1 + 1, 0, none⟩), .pointer (some ⟨w0.heap.size + 1 + 1 + 1, 0, none⟩)], .int .i64 (x.val : Nat), undef, undef, undef, undef, undef, undef, undef, undef, undef], defers := [] }) ?assign ?body ?done)
  case assign =>
    intro l x W K hK
    gi_wp2
    exact hK
  case body =>
    intro l pre x wr hR hl
    obtain ⟨q, hq⟩ := x
    obtain ⟨⟨ov, kb, hrow⟩, kn, hnx, hB⟩ := hR
    obtain ⟨b, off, cap', i2, x2, y2, r2, t2, u2, hv, hget, hbl, hzc⟩ := hnx.get hq
    simp only [Value.slice.injEq, true_and] at hv
    obtain ⟨rfl, rfl⟩ := hv
    obtain ⟨c0, -, -, -, -, -⟩ := hzc
    have hqI : (q : Int) < (next.length : Int) := by omega
    have hq0 : 0 ≤ (q : Int) := by omega
    refine wpIn_block ?_
    refine wpIn_region_rel (fun _ => trivial) (by rintro ⟨a, w0, h⟩; cases h.1) ?h0 7 (by kernel_rfl) (by kernel_rfl) (fun _ W' => ReI wr w0.heap.size (w0.heap.size + 1) b off q next.length cn ov i2 W') (fun w0 w' => Below w0.heap.size w0 w') (FRe wr w0 next b off q cn ov i2) (fun _ _ _ _ h g => h.kept g) ⟨(Below.refl _ _).drew, kb.cell 0, kn.cell 0, c0⟩ ?step ?tail
    case h0 =>
      intro i o ho
      match i, ho with
      | 0, ho => cases ho; exact ⟨fun ρ => rfl, fun ρ w => .inl ⟨_, by simp [execOp]; rfl⟩⟩
      | 1, ho => cases ho; exact ⟨fun ρ => rfl, fun ρ w => .inl (by first | exact ⟨_, by simp [execOp]; rfl⟩ | exact ⟨.ok _ w, by simp [execOp, Result.andThen]; rfl⟩ | exact ⟨.ok _ w, by simp [execOp, Result.andThen]⟩ | exact ⟨_, rfl⟩ | (simp [execOp, resolve, invoke, builtin, Result.andThen]; exact ⟨_, rfl⟩))⟩
      | 2, ho => cases ho; exact ⟨fun ρ => rfl, fun ρ w => .inl (by first | exact ⟨_, by simp [execOp]; rfl⟩ | exact ⟨.ok _ w, by simp [execOp, Result.andThen]; rfl⟩ | exact ⟨.ok _ w, by simp [execOp, Result.andThen]⟩ | exact ⟨_, rfl⟩ | (simp [execOp, resolve, invoke, builtin, Result.andThen]; exact ⟨_, rfl⟩))⟩
      | 3, ho => cases ho; exact ⟨fun ρ => rfl, fun ρ w => .inl (by first | exact ⟨_, by simp [execOp]; rfl⟩ | exact ⟨.ok _ w, by simp [execOp, Result.andThen]; rfl⟩ | exact ⟨.ok _ w, by simp [execOp, Result.andThen]⟩ | exact ⟨_, rfl⟩ | (simp [execOp, resolve, invoke, builtin, Result.andThen]; exact ⟨_, rfl⟩))⟩
      | 4, ho => cases ho; exact ⟨fun ρ => rfl, fun ρ w => .inl (by first | exact ⟨_, by simp [execOp]; rfl⟩ | exact ⟨.ok _ w, by simp [execOp, Result.andThen]; rfl⟩ | exact ⟨.ok _ w, by simp [execOp, Result.andThen]⟩ | exact ⟨_, rfl⟩ | (simp [execOp, resolve, invoke, builtin, Result.andThen]; exact ⟨_, rfl⟩))⟩
      | 5, ho => cases ho; exact ⟨fun ρ => rfl, fun ρ w => .inl (by first | exact ⟨_, by simp [execOp]; rfl⟩ | exact ⟨.ok _ w, by simp [execOp, Result.andThen]; rfl⟩ | exact ⟨.ok _ w, by simp [execOp, Result.andThen]⟩ | exact ⟨_, rfl⟩ | (simp [execOp, resolve, invoke, builtin, Result.andThen]; exact ⟨_, rfl⟩))⟩
      | 6, ho => cases ho; exact ⟨fun ρ => rfl, fun ρ w => .inl (by first | exact ⟨_, by simp [execOp]; rfl⟩ | exact ⟨.ok _ w, by simp [execOp, Result.andThen]; rfl⟩ | exact ⟨.ok _ w, by simp [execOp, Result.andThen]⟩ | exact ⟨_, rfl⟩ | (simp [execOp, resolve, invoke, builtin, Result.andThen]; exact ⟨_, rfl⟩))⟩
      | 7, ho => cases ho; exact ⟨fun ρ => rfl, fun ρ w => .inl (by first | exact ⟨_, by simp [execOp]; rfl⟩ | exact ⟨.ok _ w, by simp [execOp, Result.andThen]; rfl⟩ | exact ⟨.ok _ w, by simp [execOp, Result.andThen]⟩ | exact ⟨_, rfl⟩ | (simp [execOp, resolve, invoke, builtin, Result.andThen]; exact ⟨_, rfl⟩))⟩
      | 8, ho => cases ho; exact ⟨fun ρ => rfl, fun ρ w => .inr (by first | exact ⟨_, by simp [execOp]; rfl⟩ | exact ⟨.ok _ w, by simp [execOp, Result.andThen]; rfl⟩ | exact ⟨.ok _ w, by simp [execOp, Result.andThen]⟩ | exact ⟨_, rfl⟩ | (simp [execOp, resolve, invoke, builtin, Result.andThen]; exact ⟨_, rfl⟩))⟩
      | i + 9, ho => simp at ho
    case step =>
      clear hseq hI0 hlo hln hl hrow hnx hB kb kn hget hYs kB1 kB2 kB3 kBo hBY hbl c0
      intro i o hi ho c bb W hc hM hA hD K hK
      match i, hi, ho with
      | 0, _, ho =>
        cases ho
        have f5 : bb.tmps[5]?.getD undef = .pointer (some ⟨w0.heap.size + 1, 0, none⟩) := evalAt (v := .pointer (some ⟨w0.heap.size + 1, 0, none⟩)) (hA.at_ (k := 5) (by kernel_rfl))
        have z0 : W.cell? ⟨w0.heap.size + 1, 0, none⟩ = some (ov) := hM.o
        go_simp
        exact hK (ov) W rfl (Below.refl _ _) hM
      | 1, _, ho =>
        cases ho
        have f3 : bb.tmps[3]?.getD undef = .pointer (some ⟨w0.heap.size, 0, none⟩) := evalAt (v := .pointer (some ⟨w0.heap.size, 0, none⟩)) (hA.at_ (k := 3) (by kernel_rfl))
        have z0 : W.cell? ⟨w0.heap.size, 0, none⟩ = some (.slice (some ⟨b, off, none⟩) next.length cn) := hM.n
        go_simp
        exact hK (.slice (some ⟨b, off, none⟩) next.length cn) W rfl (Below.refl _ _) hM
      | 2, _, ho =>
        cases ho
        have f6 : bb.tmps[6]?.getD undef = .int .i64 (q : Nat) := evalAt (v := .int .i64 (q : Nat)) (hA.at_ (k := 6) (by kernel_rfl))
        go_simp
        exact hK (.int .i64 (q : Nat)) W rfl (Below.refl _ _) hM
      | 3, _, ho =>
        cases ho
        have f12 : bb.tmps[12]?.getD undef = .slice (some ⟨b, off, none⟩) next.length cn := evalAt (v := .slice (some ⟨b, off, none⟩) next.length cn) (dep_at hD 1 12 (by kernel_rfl) rfl rfl)
        have f13 : bb.tmps[13]?.getD undef = .int .i64 (q : Nat) := evalAt (v := .int .i64 (q : Nat)) (dep_at hD 2 13 (by kernel_rfl) rfl rfl)
        go_simp
        exact hK (.pointer (some ⟨b, off + q * 6, none⟩)) W rfl (Below.refl _ _) hM
      | 4, _, ho =>
        cases ho
        have f14 : bb.tmps[14]?.getD undef = .pointer (some ⟨b, off + q * 6, none⟩) := evalAt (v := .pointer (some ⟨b, off + q * 6, none⟩)) (dep_at hD 3 14 (by kernel_rfl) rfl rfl)
        go_simp
        exact hK (.pointer (some ⟨b, off + q * 6, none⟩)) W rfl (Below.refl _ _) hM
      | 5, _, ho =>
        cases ho
        have f15 : bb.tmps[15]?.getD undef = .pointer (some ⟨b, off + q * 6, none⟩) := evalAt (v := .pointer (some ⟨b, off + q * 6, none⟩)) (dep_at hD 4 15 (by kernel_rfl) rfl rfl)
        have z0 : W.cell? ⟨b, off + q * 6, none⟩ = some (.int .i64 i2) := hM.x
        go_simp
        exact hK (.int .i64 i2) W rfl (Below.refl _ _) hM
      | 6, _, ho =>
        cases ho
        have f16 : bb.tmps[16]?.getD undef = .int .i64 i2 := evalAt (v := .int .i64 i2) (dep_at hD 5 16 (by kernel_rfl) rfl rfl)
        go_simp
        exact hK (.slice (some ⟨W.heap.size, 0, none⟩) 1 1) _ ⟨_, rfl, hM.bel.size, Blk.new _ _ _⟩ ((Below.refl _ _).alloc (Nat.le_refl _) _) (hM.up ((Below.refl _ _).alloc (Nat.le_refl _) _))
      | i + 7, hi, _ => exact absurd hi (by omega)
    case tail =>
      intro bb W' hM hA hall
      obtain ⟨L, hP6, hLl, kL⟩ := (show ∃ L, bb.eval (.tmp 17) = .slice (some ⟨L, 0, none⟩) 1 1 ∧ wr.heap.size ≤ L ∧ Blk W' L #[.int .i64 i2] 3 from hall 6 (by omega) _ _ rfl rfl)
      have hP0 : bb.eval (.tmp 11) = ov := hall 0 (by omega) _ _ rfl rfl
      have hfr := hA.frame [true, true, true, true, true, true, true, true, true, true, true, false, false, false, false, false, false, false, true, true] _ rfl (by kernel_rfl)
      clear hall hA
      obtain ⟨f, hf⟩ : ∃ f : Nat → Value, (fun k => bb.tmps.getD k undef) = f := ⟨_, rfl⟩
      have g17 : f 17 = .slice (some ⟨L, 0, none⟩) 1 1 := by rw [← hf, ← hP6]; rfl
      have g11 : f 11 = ov := by rw [← hf, ← hP0]; rfl
      rw [hf] at hfr
      clear hf hP6 hP0
      subst hfr
      simp only [pickL, g17, g11, Nat.reduceAdd]
      clear g17 g11
      simp only [List.drop_succ_cons, List.drop_zero]
      have hrow' := ownsRow_up hrow hM.bel
      have kb' := kb.below hM.bel kb.lt
      have fb' := kb'.frozen 0
      have cb' : W'.cell? ⟨w0.heap.size + 1, 0, none⟩ = some ov := kb'.cell 0
      obtain ⟨i0, hi0, hz0, hz1, hz2⟩ := info_parts (P := Try.prog) (e := 3) (z := .int .i64 0) (size := 1) (bytes := 8) (by kernel_rfl)
      have hil : (idsOf next pre).length = pre.length := by simp
      go_wp2_with (first
        | (at_builtin; refine wpList_append_lies _ (by rfl) _ _ _ (by rfl) w0.heap.size 3 i0 _ 1 8 Try.underlying55 hi0 hz0 hz1 hz2 (by rfl) (by omega) ov (idsOf next pre).length _ (by rfl) hrow' ⟨L, 0, none⟩ 1 1 [.int .i64 i2] (by rfl) (by rfl) (World.news_of_block kL) (by simp [Value.oneCell']) (by omega) (by unfold maxLen; omega) (by omega) (by have := hB.size; have := hM.bel.size; omega) _ rfl ?_; intro g cap W2 hown hgrow hat hltg; have kb2 := kb'.kept hgrow (fun e => ownsRow_other hrow' kb' (by decide) e); have fb2 := kb2.frozen 0; have cb2 : W2.cell? ⟨w0.heap.size + 1, 0, none⟩ = some ov := kb2.cell 0)
        | fail)
      have hCo : outC (w0.heap.size + 1) wr (w0.heap.size + 1) := ⟨⟨.cells #[ov] 55 (0, 0), kb, rfl⟩, .inl rfl⟩
      have hg3 := grown_setCell W2 (w0.heap.size + 1) 0 (.slice (some ⟨g, 0, none⟩) (pre.length + 1) cap)
      have kb3 := kb2.set 0 (.slice (some ⟨g, 0, none⟩) (pre.length + 1) cap)
      have hov : ∀ k, ov.ownBlock = some k → outC (w0.heap.size + 1) wr k := fun k hk => by
        rcases hrow.2 with ⟨e1, _⟩ | ⟨g', cap', cur, e1, _, hgb, _⟩
        · rw [e1] at hk; cases hk
        · rw [e1] at hk
          cases hk
          exact ⟨⟨_, hgb, rfl⟩, .inr ⟨0, _, cap', by rw [kb.cell 0, e1]; rfl⟩⟩
      have hx : next[q].id = i2 := by
        have := (List.getElem?_eq_some_iff.1 hget).2
        rw [this]
      have hids : idsOf next (pre ++ [⟨q, hq⟩]) = idsOf next pre ++ [i2] := by rw [← hx]; simp
      have hsame : ∀ k, k < wr.heap.size → ¬ outC (w0.heap.size + 1) wr k → (W2.setCell ⟨w0.heap.size + 1, 0, none⟩ (.slice (some ⟨g, 0, none⟩) (pre.length + 1) cap)).heap[k]? = wr.heap[k]? := fun k hk hn =>
        (hg3.block k (by have := hM.bel.size; have := hgrow.size; omega) (fun e => hn (by cases e; exact hCo))).trans ((hgrow.block k (by have := hM.bel.size; omega) (fun e => hn (hov k e.symm))).trans (hM.bel.block k hk))
      have hsz : wr.heap.size ≤ (W2.setCell ⟨w0.heap.size + 1, 0, none⟩ (.slice (some ⟨g, 0, none⟩) (pre.length + 1) cap)).heap.size := Nat.le_trans hM.bel.size (Nat.le_trans hgrow.size hg3.size)
      have hBW : Below w0.heap.size w0 W2 := (hB.trans (hM.bel.mono hB.size)).grown hgrow (Nat.le_trans hB.size hM.bel.size) (fun k e => (hrow'.lt k e).1)
      refine ⟨⟨hsz, hsame, fun k hk => ?_⟩, ⟨⟨_, by simpa using kb3, ?_⟩, ?_, ?_, hBW.grown hg3 hBW.size (fun k e => by cases e; omega)⟩⟩
      · obtain ⟨-, rfl | ⟨o_, l_, c_, hc⟩⟩ := hk
        · exact .inl hCo
        · rw [kb3.cell 0] at hc
          simp at hc
          obtain ⟨⟨rfl, -⟩, -⟩ := hc
          rcases hat with h | h
          · exact .inl (hov _ h)
          · exact .inr (by have := hM.bel.size; omega)
      · rw [hids, List.length_append, List.flatMap_append]
        refine ownsRow_turn (by simpa using hown) hg3 (fun r e => by cases e; exact ⟨_, kb2, fun cur e => by cases e⟩)
      · have k1 := kn.below hM.bel kn.lt
        exact (k1.kept hgrow (fun e => ownsRow_other hrow' k1 (by decide) e)).kept hg3 (by simp)
      · exact hnx.below (((hM.bel.mono hB.size).grown hgrow (Nat.le_trans hB.size hM.bel.size) (fun k e => (hrow'.lt k e).1)).grown hg3 (Nat.le_trans hB.size (Nat.le_trans hM.bel.size hgrow.size)) (fun k e => by cases e; omega))
  case done =>
    intro D xs W hD hS hR hK
    have hids := ids_eq old next xs hS
    obtain ⟨⟨v, kb, hrow⟩, -, -, hB⟩ := hR
    rw [hids, List.length_map] at hrow
    have c5 : W.cell? ⟨w0.heap.size + 1, 0, none⟩ = some v := kb.cell 0
    clear hids hS hseq
    go_wp2_with fail
    refine ⟨by simp, .inl ⟨_, _, rfl, run_takeDeferred hK, ?_⟩⟩
    have hg1 := grownBy_putObj' W D (.deferred none)
    exact ⟨_, results_tmp rfl _ _ _, v, rfl, ownsRow_turn hrow hg1 (fun r e => by cases e; exact ⟨_, hK, fun cur e => by cases e⟩), hB.grown hg1 hB.size (fun k e => by cases e; omega)⟩
end Go.Proofs.Ytikojanpbbiaiaa
