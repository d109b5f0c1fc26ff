/-
  Worlds that have only grown: 'w.growBy p' is w with further blocks behind its own, and any count of draws. A contract that says 'Below w.heap.size w w'' gives such a world (grow_of_below), and a drawn region whose operations read, and whose callees only make memory, is walked once, in the order of the text, over this class of worlds (wp_region_grow).
  A drawn region whose first n operations read, or call what only makes memory, and whose last ones come in one forced order (a store, an alloc, an append, a call): the first ones are walked once, in the order of the text, over the worlds that have only grown; the last ones as a plain list behind them.
-/

import Derived.WalkKit
import Derived.WalkSpells
import Derived.WalkLawsBesides
import Derived.Deep.Quiet
import Derived.Deep.QuietTactic
import Derived.BigQuiet
import Derived.Lib.Hide
import Derived.StillTail
namespace Go
set_option linter.unusedVariables false
set_option linter.unusedSimpArgs false
open Go.RowKit

/-- what a world has grown by: further blocks, and its count of draws -/
structure Growth where
  objs : Array Obj
  drawn : Nat
instance : Nonempty Growth := ⟨⟨#[], 0⟩⟩

/-- w, with further blocks, and another count of draws. -/
def World.growBy (w : World) (p : Growth) : World := { w with heap := w.heap ++ p.objs, drawn := p.drawn }

section
variable (w : World) (p q : Growth)

theorem World.heap_growBy {n : Nat} (h : n < w.heap.size) : (w.growBy p).heap[n]? = w.heap[n]? := by
  show (w.heap ++ p.objs)[n]? = _
  rw [Array.getElem?_append_left h]

theorem World.lt_of_isSome {w : World} {a : Addr} (h : (w.cell? a).isSome = true) : a.block < w.heap.size := by
  obtain ⟨v, hv⟩ := Option.isSome_iff_exists.1 h
  exact World.block_lt_of_cell? _ _ hv

/-- copies that no rule lays open -/
def World.cellOf (w : World) (a : Addr) : Option Value := w.cell? a
def World.frozenOf (w : World) (a : Addr) : Bool := w.frozen? a
def World.setCellOf (w : World) (a : Addr) (v : Value) : World := w.setCell a v

theorem World.cell?_growBy' {a : Addr} (h : a.block < w.heap.size) : (w.growBy p).cell? a = w.cell? a := by
  have h1 := w.heap_growBy p h
  unfold World.cell?
  rw [h1]
theorem World.frozen?_growBy' {a : Addr} (h : a.block < w.heap.size) : (w.growBy p).frozen? a = w.frozen? a := by
  have h1 := w.heap_growBy p h
  unfold World.frozen?
  rw [h1]
theorem World.frozen?_high {w : World} {a : Addr} (h : w.heap.size ≤ a.block) : w.frozen? a = false := by
  unfold World.frozen?
  rw [Array.getElem?_eq_none h]

@[go_sem] theorem World.cell?_growBy (n i : Nat) : (w.growBy p).cell? ⟨n, i, none⟩ = (w.cell? ⟨n, i, none⟩).or ((w.growBy p).cellOf ⟨n, i, none⟩) := by
  cases h : w.cell? ⟨n, i, none⟩ with
  | none => rfl
  | some v => rw [World.cell?_growBy' w p (World.block_lt_of_cell? _ _ h), h]; rfl
@[go_sem 50] theorem World.cell?_alloc_or (o : Obj) (n i : Nat) : (w.alloc o).cell? ⟨n, i, none⟩ = (w.cell? ⟨n, i, none⟩).or ((w.alloc o).cellOf ⟨n, i, none⟩) := by
  cases h : w.cell? ⟨n, i, none⟩ with
  | none => rfl
  | some v => rw [World.cell?_alloc_lt w o _ (World.block_lt_of_cell? _ _ h), h]; rfl

@[go_sem] theorem World.frozen?_growBy (n i : Nat) : (w.growBy p).frozen? ⟨n, i, none⟩ = (w.frozen? ⟨n, i, none⟩ || ((w.cell? ⟨n, i, none⟩).isNone && (w.growBy p).frozenOf ⟨n, i, none⟩)) := by
  by_cases hb : n < w.heap.size
  · rw [World.frozen?_growBy' w p (a := ⟨n, i, none⟩) hb]
    unfold World.frozenOf
    rw [World.frozen?_growBy' w p (a := ⟨n, i, none⟩) hb]
    cases w.frozen? ⟨n, i, none⟩ <;> simp
  · rw [World.frozen?_high (w := w) (a := ⟨n, i, none⟩) (by simpa using hb)]
    cases h : w.cell? ⟨n, i, none⟩ with
    | none => simp [World.frozenOf]
    | some v => exact absurd (World.block_lt_of_cell? _ _ h) hb
@[go_sem 50] theorem World.frozen?_alloc_or (o : Obj) (n i : Nat) : (w.alloc o).frozen? ⟨n, i, none⟩ = (w.frozen? ⟨n, i, none⟩ || ((w.cell? ⟨n, i, none⟩).isNone && (w.alloc o).frozenOf ⟨n, i, none⟩)) := by
  by_cases hb : n < w.heap.size
  · rw [World.frozen?_alloc_old w o ⟨n, i, none⟩ (Nat.ne_of_lt hb)]
    unfold World.frozenOf
    rw [World.frozen?_alloc_old w o ⟨n, i, none⟩ (Nat.ne_of_lt hb)]
    cases w.frozen? ⟨n, i, none⟩ <;> simp
  · rw [World.frozen?_high (w := w) (a := ⟨n, i, none⟩) (by simpa using hb)]
    cases h : w.cell? ⟨n, i, none⟩ with
    | none => simp [World.frozenOf]
    | some v => exact absurd (World.block_lt_of_cell? _ _ h) hb

theorem World.setCell_growBy' (n i : Nat) (v : Value) (h1 : n < w.heap.size) : (w.growBy p).setCell ⟨n, i, none⟩ v = (w.setCell ⟨n, i, none⟩ v).growBy p := by
  unfold World.growBy World.setCell
  simp only [World.mk.injEq, and_true]
  apply Array.ext_getElem?
  intro k
  rw [Array.getElem?_modify, Array.getElem?_append, Array.getElem?_append, Array.size_modify, Array.getElem?_modify]
  by_cases hk : n = k
  · subst hk; simp only [if_true]; rw [if_pos h1, if_pos h1]
  · simp only [hk, if_false]
@[go_sem] theorem World.setCell_growBy (n i : Nat) (v : Value) : (w.growBy p).setCell ⟨n, i, none⟩ v = if (w.cell? ⟨n, i, none⟩).isSome then (w.setCell ⟨n, i, none⟩ v).growBy p else (w.growBy p).setCellOf ⟨n, i, none⟩ v := by
  split
  · rename_i h; exact World.setCell_growBy' w p n i v (World.lt_of_isSome h)
  · rfl
@[go_sem 50] theorem World.setCell_alloc_or (o : Obj) (n i : Nat) (v : Value) : (w.alloc o).setCell ⟨n, i, none⟩ v = if (w.cell? ⟨n, i, none⟩).isSome then (w.setCell ⟨n, i, none⟩ v).alloc o else (w.alloc o).setCellOf ⟨n, i, none⟩ v := by
  split
  · rename_i h; exact World.setCell_alloc_past (w := w) o n i v (World.lt_of_isSome h)
  · rfl

@[simp, go_sem] theorem World.size_growBy : (w.growBy p).heap.size = w.heap.size + p.objs.size := Array.size_append
@[simp, go_sem] theorem World.tape_growBy : (w.growBy p).tape = w.tape := rfl
@[simp, go_sem] theorem World.os_growBy : (w.growBy p).os = w.os := rfl
@[simp, go_sem] theorem World.drew_growBy : (w.growBy p).drew = w.growBy ⟨p.objs, p.drawn + 1⟩ := rfl
@[simp, go_sem] theorem World.drewN_growBy (n : Nat) : (w.growBy p).drewN n = w.growBy ⟨p.objs, p.drawn + n⟩ := rfl
@[simp, go_sem] theorem World.growBy_growBy : (w.growBy p).growBy q = w.growBy ⟨p.objs ++ q.objs, q.drawn⟩ := by
  unfold World.growBy
  simp [Array.append_assoc]
@[simp, go_sem] theorem World.growBy_drew : w.drew.growBy p = w.growBy p := rfl
@[simp, go_sem] theorem World.growBy_drewN (n : Nat) : (w.drewN n).growBy p = w.growBy p := rfl

theorem le_alloc {B : Nat} {w : World} {o : Obj} (h : B ≤ w.heap.size) : B ≤ (w.alloc o).heap.size := by rw [World.size_alloc]; omega
theorem le_growBy {B : Nat} {w : World} {p : Growth} (h : B ≤ w.heap.size) : B ≤ (w.growBy p).heap.size := by rw [World.size_growBy]; omega
theorem le_setCell {B : Nat} {w : World} {a : Addr} {v : Value} (h : B ≤ w.heap.size) : B ≤ (w.setCell a v).heap.size := by rw [World.size_setCell]; omega
theorem le_drew {B : Nat} {w : World} (h : B ≤ w.heap.size) : B ≤ w.drew.heap.size := h
theorem le_drewN {B : Nat} {w : World} {n : Nat} (h : B ≤ w.heap.size) : B ≤ (w.drewN n).heap.size := h

theorem below_growBy : Below w.heap.size w (w.growBy p) :=
  ⟨rfl, rfl, rfl, by simp, fun _ h => w.heap_growBy p h⟩

theorem below_growBy' {B : Nat} {a w : World} (h : Below B a w) (hB : B ≤ w.heap.size) (p : Growth) : Below B a (w.growBy p) :=
  h.trans ((below_growBy w p).mono hB)

theorem grownBy_growBy : w.grownBy (w.growBy p) none := ⟨rfl, rfl, rfl, by simp, fun k hk _ => w.heap_growBy p hk⟩

theorem grow_of_below {w w' : World} (h : Below w.heap.size w w') : ∃ p, w' = w.growBy p := by
  refine ⟨⟨w'.heap.extract w.heap.size w'.heap.size, w'.drawn⟩, ?_⟩
  obtain ⟨h1, h2, h3, h4, h5⟩ := h
  cases w' with
  | mk heap' tape' drawn' os' output' =>
    simp only at h1 h2 h3 h4 h5
    unfold World.growBy
    simp only [World.mk.injEq]
    refine ⟨?_, h2, trivial, h1, h3⟩
    apply Array.ext_getElem?
    intro k
    by_cases hk : k < w.heap.size
    · rw [Array.getElem?_append_left hk]; exact h5 k hk
    · rw [Array.getElem?_append_right (by omega), Array.getElem?_extract]
      by_cases hk2 : k < heap'.size
      · rw [if_pos (by omega), show w.heap.size + (k - w.heap.size) = k from by omega]
      · rw [if_neg (by omega)]
        exact Array.getElem?_eq_none (by omega)

end

section
variable {P : Program}

/-- A callee that only makes memory, met in a world that has only grown. -/
theorem Calls.grow_of {f : FuncId} {args : Array Value} {w : World} {p : Growth} {v : Value}
    (h : Calls P f args (w.growBy p) fun e w' => e = .returned v ∧ Below (w.growBy p).heap.size (w.growBy p) w') :
    Calls P f args (w.growBy p) fun e w' => e = .returned v ∧ ∃ q, w' = w.growBy q :=
  h.mono fun _ _ ⟨he, hb⟩ => ⟨he, by obtain ⟨q, rfl⟩ := grow_of_below hb; exact ⟨_, World.growBy_growBy w p q⟩⟩

/-- .. that leaves the world as it is -/
theorem Calls.grow_of_same {f : FuncId} {args : Array Value} {w : World} {p : Growth} {v : Value}
    (h : Calls P f args (w.growBy p) fun e w' => e = .returned v ∧ w.growBy p = w') :
    Calls P f args (w.growBy p) fun e w' => e = .returned v ∧ ∃ q, w' = w.growBy q :=
  h.mono fun _ _ ⟨he, hb⟩ => ⟨he, p, hb.symm⟩

/-- **A drawn region, walked once in the order of the text, over the worlds that have only grown.** -/
theorem wp_region_grow {id : Nat} {Q : Exit → Act → World → Prop} {a : Act} {w : World} {l : List Oper} (hm : P.follows .mixedOrders = true) (hB : Region.lexB .any l.toArray = true)
    (h : wpQuiet P l.toArray (fun w' => ∃ p, w' = w.growBy p) (fun a' => ∀ w', (∃ p, w' = w.growBy p) → Q .normal a' w') l a) : (Code.region id l.toArray true).wp P Q a w :=
  wp_region_quiet (C := fun w' => ∃ p, w' = w.growBy p) hm hB ⟨⟨#[], w.drawn + 1⟩, by unfold World.growBy; simp⟩ (by simpa using h)

/-- .. from a world that has grown already: over the same base -/
theorem wp_region_grow2 {id : Nat} {Q : Exit → Act → World → Prop} {a : Act} {w : World} {p : Growth} {l : List Oper} (hm : P.follows .mixedOrders = true) (hB : Region.lexB .any l.toArray = true)
    (h : wpQuiet P l.toArray (fun w' => ∃ p, w' = w.growBy p) (fun a' => ∀ w', (∃ p, w' = w.growBy p) → Q .normal a' w') l a) : (Code.region id l.toArray true).wp P Q a (w.growBy p) :=
  wp_region_quiet (C := fun w' => ∃ p, w' = w.growBy p) hm hB ⟨⟨p.objs, p.drawn + 1⟩, rfl⟩ (by simpa using h)

/-- the world at hand, under a name of its own -/
theorem wp_world_alloc {c : Code} {Q : Exit → Act → World → Prop} {a : Act} {w : World} {o : Obj} (h : ∀ W, Below w.heap.size w W → W.heap[w.heap.size]? = some o → c.wp P Q a W) : c.wp P Q a (w.alloc o) :=
  h _ ((Below.refl _ _).alloc (Nat.le_refl _) o) (by unfold World.alloc; simp)
theorem cell_of_block {W : World} {b : Nat} {c : Array Value} {t : TypeId} {f : Nat × Nat} (h : W.heap[b]? = some (.cells c t f)) (i : Nat) : W.cell? ⟨b, i, none⟩ = c[i]? := by
  unfold World.cell?
  rw [h]
  rfl

theorem wp_world {c : Code} {Q : Exit → Act → World → Prop} {a : Act} {w : World} (h : ∀ W, W = w → c.wp P Q a W) : c.wp P Q a w := h w rfl

end
end Go
namespace Go
set_option linter.unusedVariables false
set_option linter.unusedSimpArgs false
open Go.RowKit

section
variable {P : Program} {ops : Array Oper} {md : Region.Mode} {C : World → Prop}

/-- The head, whatever order is picked: at its end 'L'. -/
def wpHead (P : Program) (md : Region.Mode) (ops : Array Oper) (C : World → Prop) (n : Nat) (L : Array Bool → Act → Prop) : Nat → Array Bool → Act → Prop
  | 0, s, a => L s a
  | f + 1, s, a => Region.ready md ops s ≠ [] ∧ ∀ i ∈ Region.ready md ops s, i < n ∧ qOp P ops C i (wpHead P md ops C n L f (s.setIfInBounds i true)) a

theorem wpAny_of_wpHead {n g : Nat} {L : Array Bool → Act → Prop} {Q : Exit → Act → World → Prop} (hL : ∀ s a w, C w → L s a → wpAny P md ops Q g s a w) :
    ∀ (f : Nat) (s : Array Bool) (a : Act) (w : World), C w → wpHead P md ops C n L f s a → wpAny P md ops Q (f + g) s a w := by
  intro f
  induction f with
  | zero => intro s a w hw h; rw [Nat.zero_add]; exact hL _ _ _ hw h
  | succ f ih =>
    intro s a w hw h
    rw [Nat.succ_add]
    refine ⟨fun he => absurd he h.1, fun i hi => ?_⟩
    exact wpOp_of_qOp hw (fun a' w' hw' h' => ih _ a' w' hw' h') (h.2 i hi).2

/-- which operations come up while the head's i is not done: the head's alone -/
theorem head_only {n i : Nat} {s : Array Bool} (hs : Region.sinkB md ops n = true) (hc : Region.chainB md ops n = true) (hn : n < ops.size) (inv : HeadInv md ops n s) (hi : i < n) (hun : s.getD i true = false) :
    ∀ j ∈ Region.ready md ops s, j < n := by
  intro j hj
  by_cases h : j < n
  · exact h
  · exact absurd hj (tail_waits hs hc hn inv _ i rfl hi hun j (by omega))

theorem wpHead_take {n i : Nat} {oi : Oper} {v : Value} {L : Array Bool → Act → Prop} (hi : ops[i]? = some oi) (hsel : ∀ (j : Nat) (o : Oper) cs b, ops[j]? = some o → o.op ≠ .select cs b)
    (hs : Region.sinkB md ops n = true) (hc : Region.chainB md ops n = true) (hn : n < ops.size) (hin : i < n)
    (hdone : ∀ s a, L s a → ∀ j ∈ Region.ready md ops s, n ≤ j) (f : Nat) :
    ∀ (s : Array Bool) (a : Act), HeadInv md ops n s →
      (∀ j oj, ops[j]? = some oj → j ≠ i → s.getD j true = false → (∀ e ∈ oj.after, Region.binds md e = true → e.on ≠ i) → oi.apart ops oj = true) →
      i ∈ Region.ready md ops s → YieldsIn P ops C oi v a →
      wpHead P md ops C n L f (s.setIfInBounds i true) (a.put oi.dst v) → wpHead P md ops C n L (f + 1) s a := by
  induction f with
  | zero =>
    intro s a inv _ hr hy H
    have hlt := head_only hs hc hn inv hin (mem_ready.1 hr).1
    refine ⟨List.ne_nil_of_mem hr, fun j hj => ⟨hlt j hj, ?_⟩⟩
    rcases Nat.decEq j i with hji | hji
    · have h1 := hdone _ _ H j (ready_mono hj hji)
      have h2 := hlt j hj
      omega
    · subst hji; exact hy.qOp hi H
  | succ f ih =>
    intro s a inv hfree hr hy H
    have hlt := head_only hs hc hn inv hin (mem_ready.1 hr).1
    refine ⟨List.ne_nil_of_mem hr, fun j hj => ⟨hlt j hj, ?_⟩⟩
    rcases Nat.decEq j i with hji | hji
    · obtain ⟨hjun, oj, hoj, hall⟩ := mem_ready.1 hj
      have hno : ∀ e ∈ oj.after, Region.binds md e = true → e.on ≠ i := by
        intro e he hb heq
        have h1 := hall e he hb
        rw [heq, getD_both (mem_ready.1 hr).1] at h1
        cases h1
      have h1 := (H.2 j (ready_mono hj hji)).2
      have h2 := qOp_put hoj (hfree j oj hoj hji hjun hno) (fun cs b => hsel i oi cs b hi) (fun cs b => hsel j oj cs b hoj) hy h1
      refine qOp_mono (fun a' h3 => ih (s.setIfInBounds j true) a' (inv.set hj (hlt j hj)) ?_ (ready_mono hr (Ne.symm hji)) h3.1 ?_) h2
      · intro k ok hk hki hun hnk
        refine hfree k ok hk hki ?_ hnk
        rcases Nat.decEq j k with hjk | hjk
        · rw [getD_set_ne true hjk] at hun; exact hun
        · subst hjk; exact hjun
      · rw [Array.setIfInBounds_comm _ _ hji]; exact h3.2
    · subst hji; exact hy.qOp hi H

theorem wpHead_lex {n g : Nat} {Lq : Act → Prop} (hsel : Region.noSelect ops = true) (hs : Region.sinkB md ops n = true) (hc : Region.chainB md ops n = true) (hn : n < ops.size) (l : List Oper) :
    ∀ (k : Nat) (s : Array Bool) (a : Act), (∀ j, j < l.length → l[j]? = ops[k + j]?) → k + l.length = n → HeadInv md ops n s →
    Region.lexHead md ops g l.length k s = true → wpQuiet P ops C Lq l a →
    wpHead P md ops C n (fun s' a' => Region.seqB md ops g n s' = true ∧ Lq a') l.length s a := by
  induction l with
  | nil =>
    intro k s a _ hk _ hB h
    obtain rfl : k = n := by simpa using hk
    exact ⟨by simpa [Region.lexHead] using hB, h⟩
  | cons o l ih =>
    intro k s a hl hk inv hB h
    have h0 : ops[k]? = some o := by simpa using (hl 0 (by simp)).symm
    simp only [List.length_cons] at hk
    simp only [List.length_cons, Region.lexHead, Bool.and_eq_true] at hB
    obtain ⟨⟨hr, hf⟩, hB'⟩ := hB
    have hr' : k ∈ Region.ready md ops s := by simpa using hr
    have hq : qOp P ops C k (wpQuiet P ops C Lq l) a := by unfold qOp; simp only [h0]; exact h
    obtain ⟨v, hy, hK⟩ := yieldsIn_of_qOp h0 hq
    refine wpHead_take h0 (Region.noSelect_spec hsel) hs hc hn (by omega) (fun s' a' hL => seqB_ready hL.1) l.length s a inv (Region.free_spec h0 hf) hr' hy ?_
    refine ih (k + 1) _ _ (fun j hj => ?_) (by omega) (inv.set hr' (by omega)) hB' hK
    have h1 := hl (j + 1) (by simp only [List.length_cons]; omega)
    rw [show k + 1 + j = k + (j + 1) from by omega]
    simpa using h1

/-- **The head once, in the order of the text; the tail behind it.** -/
theorem wp_region_tail {id : Nat} {Q : Exit → Act → World → Prop} {a : Act} {w : World} {l : List Oper} (n : Nat) (hm : P.follows .mixedOrders = true) (hB : Region.lexTailB .any l.toArray n = true) (hC : C w.drew)
    (h : wpQuiet P l.toArray C (fun a' => ∀ w', C w' → wpList P l.toArray Q (l.drop n) a' w') (l.take n) a) : (Code.region id l.toArray true).wp P Q a w := by
  simp only [Region.lexTailB, Bool.and_eq_true, decide_eq_true_eq] at hB
  obtain ⟨⟨⟨⟨hsel, hn⟩, hs⟩, hc⟩, hlex⟩ := hB
  have hn' : n < l.length := by simpa using hn
  have htl : (l.take n).length = n := by rw [List.length_take]; omega
  have hdl : (l.drop n).length = l.toArray.size - n := by simp
  have inv0 : HeadInv .any l.toArray n (Array.replicate l.toArray.size false) :=
    ⟨by simp, fun j oj _ hl => (by rw [getD_replicate_false] at hl; cases hl), fun t _ ht => getD_in (by simpa using ht) (getD_replicate_false _ _)⟩
  have H := wpHead_lex (md := .any) (g := l.toArray.size - n) hsel hs hc hn (l.take n) 0 _ a (fun j hj => by
    have hj' : j < n := by omega
    simp [hj']) (by simpa using htl) inv0 (by rw [htl]; exact hlex) h
  refine wp_region_any hm ?_
  have key := wpAny_of_wpHead (Q := Q) (g := l.toArray.size - n) (fun s a' w' hw' hL => by
    have h1 := wpAny_of_seq (md := .any) (Q' := Q) (l.drop n) n s a' w' (fun j => by simp [List.getElem?_drop]) (by rw [hdl]; exact hL.1) (hL.2 w' hw')
    rwa [hdl] at h1) _ _ _ _ hC H
  rw [htl, show n + (l.toArray.size - n) = l.toArray.size from by omega] at key
  exact key

theorem wp_region_grow_tail {id : Nat} {Q : Exit → Act → World → Prop} {a : Act} {w : World} {l : List Oper} (n : Nat) (hm : P.follows .mixedOrders = true) (hB : Region.lexTailB .any l.toArray n = true)
    (h : wpQuiet P l.toArray (fun w' => ∃ p, w' = w.growBy p) (fun a' => ∀ w', (∃ p, w' = w.growBy p) → wpList P l.toArray Q (l.drop n) a' w') (l.take n) a) : (Code.region id l.toArray true).wp P Q a w :=
  wp_region_tail n hm hB ⟨⟨#[], w.drawn + 1⟩, by unfold World.growBy World.drew; simp⟩ h
theorem wp_region_grow_tail2 {id : Nat} {Q : Exit → Act → World → Prop} {a : Act} {w : World} {p : Growth} {l : List Oper} (n : Nat) (hm : P.follows .mixedOrders = true) (hB : Region.lexTailB .any l.toArray n = true)
    (h : wpQuiet P l.toArray (fun w' => ∃ p, w' = w.growBy p) (fun a' => ∀ w', (∃ p, w' = w.growBy p) → wpList P l.toArray Q (l.drop n) a' w') (l.take n) a) : (Code.region id l.toArray true).wp P Q a (w.growBy p) :=
  wp_region_tail n hm hB ⟨⟨p.objs, p.drawn + 1⟩, rfl⟩ h
end
end Go
