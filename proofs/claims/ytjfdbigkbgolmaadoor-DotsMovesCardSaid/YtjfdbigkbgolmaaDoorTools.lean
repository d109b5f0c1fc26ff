/-
  Worlds that have only grown: 'w.growBy p' is w with further blocks behind its own, and any count of draws. A contract that says 'Below w.heap.size w w'' gives such a world (grow_of_below), and a drawn region whose operations read, and whose callees only make memory, is walked once, in the order of the text, over this class of worlds (wp_region_grow).
-/
import Derived.WalkKit
import Derived.WalkSpells
import Derived.WalkLawsBesides
import Derived.Deep.Quiet
import Derived.Deep.QuietTactic
import Derived.BigQuiet
import Derived.Lib.Hide
namespace Go
set_option linter.unusedVariables false
set_option linter.unusedSimpArgs false
open Go.RowKit

/-- what a world has grown by: further blocks, and its count of draws -/
structure Growth where
  objs : Array Obj
  drawn : Nat
instance : Nonempty Growth := ⟨⟨#[], 0⟩⟩

/-- w, with further blocks, and another count of draws. -/
def World.growBy (w : World) (p : Growth) : World := { w with heap := w.heap ++ p.objs, drawn := p.drawn }

section
variable (w : World) (p q : Growth)

theorem World.heap_growBy {n : Nat} (h : n < w.heap.size) : (w.growBy p).heap[n]? = w.heap[n]? := by
  show (w.heap ++ p.objs)[n]? = _
  rw [Array.getElem?_append_left h]

theorem World.lt_of_isSome {w : World} {a : Addr} (h : (w.cell? a).isSome = true) : a.block < w.heap.size := by
  obtain ⟨v, hv⟩ := Option.isSome_iff_exists.1 h
  exact World.block_lt_of_cell? _ _ hv

/-- copies that no rule lays open -/
def World.cellOf (w : World) (a : Addr) : Option Value := w.cell? a
def World.frozenOf (w : World) (a : Addr) : Bool := w.frozen? a
def World.setCellOf (w : World) (a : Addr) (v : Value) : World := w.setCell a v

theorem World.cell?_growBy' {a : Addr} (h : a.block < w.heap.size) : (w.growBy p).cell? a = w.cell? a := by
  have h1 := w.heap_growBy p h
  unfold World.cell?
  rw [h1]
theorem World.frozen?_growBy' {a : Addr} (h : a.block < w.heap.size) : (w.growBy p).frozen? a = w.frozen? a := by
  have h1 := w.heap_growBy p h
  unfold World.frozen?
  rw [h1]
theorem World.frozen?_high {w : World} {a : Addr} (h : w.heap.size ≤ a.block) : w.frozen? a = false := by
  unfold World.frozen?
  rw [Array.getElem?_eq_none h]

@[go_sem] theorem World.cell?_growBy (n i : Nat) : (w.growBy p).cell? ⟨n, i, none⟩ = (w.cell? ⟨n, i, none⟩).or ((w.growBy p).cellOf ⟨n, i, none⟩) := by
  cases h : w.cell? ⟨n, i, none⟩ with
  | none => rfl
  | some v => rw [World.cell?_growBy' w p (World.block_lt_of_cell? _ _ h), h]; rfl
@[go_sem 50] theorem World.cell?_alloc_or (o : Obj) (n i : Nat) : (w.alloc o).cell? ⟨n, i, none⟩ = (w.cell? ⟨n, i, none⟩).or ((w.alloc o).cellOf ⟨n, i, none⟩) := by
  cases h : w.cell? ⟨n, i, none⟩ with
  | none => rfl
  | some v => rw [World.cell?_alloc_lt w o _ (World.block_lt_of_cell? _ _ h), h]; rfl

@[go_sem] theorem World.frozen?_growBy (n i : Nat) : (w.growBy p).frozen? ⟨n, i, none⟩ = (w.frozen? ⟨n, i, none⟩ || ((w.cell? ⟨n, i, none⟩).isNone && (w.growBy p).frozenOf ⟨n, i, none⟩)) := by
  by_cases hb : n < w.heap.size
  · rw [World.frozen?_growBy' w p (a := ⟨n, i, none⟩) hb]
    unfold World.frozenOf
    rw [World.frozen?_growBy' w p (a := ⟨n, i, none⟩) hb]
    cases w.frozen? ⟨n, i, none⟩ <;> simp
  · rw [World.frozen?_high (w := w) (a := ⟨n, i, none⟩) (by simpa using hb)]
    cases h : w.cell? ⟨n, i, none⟩ with
    | none => simp [World.frozenOf]
    | some v => exact absurd (World.block_lt_of_cell? _ _ h) hb
@[go_sem 50] theorem World.frozen?_alloc_or (o : Obj) (n i : Nat) : (w.alloc o).frozen? ⟨n, i, none⟩ = (w.frozen? ⟨n, i, none⟩ || ((w.cell? ⟨n, i, none⟩).isNone && (w.alloc o).frozenOf ⟨n, i, none⟩)) := by
  by_cases hb : n < w.heap.size
  · rw [World.frozen?_alloc_old w o ⟨n, i, none⟩ (Nat.ne_of_lt hb)]
    unfold World.frozenOf
    rw [World.frozen?_alloc_old w o ⟨n, i, none⟩ (Nat.ne_of_lt hb)]
    cases w.frozen? ⟨n, i, none⟩ <;> simp
  · rw [World.frozen?_high (w := w) (a := ⟨n, i, none⟩) (by simpa using hb)]
    cases h : w.cell? ⟨n, i, none⟩ with
    | none => simp [World.frozenOf]
    | some v => exact absurd (World.block_lt_of_cell? _ _ h) hb

theorem World.setCell_growBy' (n i : Nat) (v : Value) (h1 : n < w.heap.size) : (w.growBy p).setCell ⟨n, i, none⟩ v = (w.setCell ⟨n, i, none⟩ v).growBy p := by
  unfold World.growBy World.setCell
  simp only [World.mk.injEq, and_true]
  apply Array.ext_getElem?
  intro k
  rw [Array.getElem?_modify, Array.getElem?_append, Array.getElem?_append, Array.size_modify, Array.getElem?_modify]
  by_cases hk : n = k
  · subst hk; simp only [if_true]; rw [if_pos h1, if_pos h1]
  · simp only [hk, if_false]
@[go_sem] theorem World.setCell_growBy (n i : Nat) (v : Value) : (w.growBy p).setCell ⟨n, i, none⟩ v = if (w.cell? ⟨n, i, none⟩).isSome then (w.setCell ⟨n, i, none⟩ v).growBy p else (w.growBy p).setCellOf ⟨n, i, none⟩ v := by
  split
  · rename_i h; exact World.setCell_growBy' w p n i v (World.lt_of_isSome h)
  · rfl
@[go_sem 50] theorem World.setCell_alloc_or (o : Obj) (n i : Nat) (v : Value) : (w.alloc o).setCell ⟨n, i, none⟩ v = if (w.cell? ⟨n, i, none⟩).isSome then (w.setCell ⟨n, i, none⟩ v).alloc o else (w.alloc o).setCellOf ⟨n, i, none⟩ v := by
  split
  · rename_i h; exact World.setCell_alloc_past (w := w) o n i v (World.lt_of_isSome h)
  · rfl

@[simp, go_sem] theorem World.size_growBy : (w.growBy p).heap.size = w.heap.size + p.objs.size := Array.size_append
@[simp, go_sem] theorem World.tape_growBy : (w.growBy p).tape = w.tape := rfl
@[simp, go_sem] theorem World.os_growBy : (w.growBy p).os = w.os := rfl
@[simp, go_sem] theorem World.drew_growBy : (w.growBy p).drew = w.growBy ⟨p.objs, p.drawn + 1⟩ := rfl
@[simp, go_sem] theorem World.drewN_growBy (n : Nat) : (w.growBy p).drewN n = w.growBy ⟨p.objs, p.drawn + n⟩ := rfl
@[simp, go_sem] theorem World.growBy_growBy : (w.growBy p).growBy q = w.growBy ⟨p.objs ++ q.objs, q.drawn⟩ := by
  unfold World.growBy
  simp [Array.append_assoc]
@[simp, go_sem] theorem World.growBy_drew : w.drew.growBy p = w.growBy p := rfl
@[simp, go_sem] theorem World.growBy_drewN (n : Nat) : (w.drewN n).growBy p = w.growBy p := rfl

theorem le_alloc {B : Nat} {w : World} {o : Obj} (h : B ≤ w.heap.size) : B ≤ (w.alloc o).heap.size := by rw [World.size_alloc]; omega
theorem le_growBy {B : Nat} {w : World} {p : Growth} (h : B ≤ w.heap.size) : B ≤ (w.growBy p).heap.size := by rw [World.size_growBy]; omega
theorem le_setCell {B : Nat} {w : World} {a : Addr} {v : Value} (h : B ≤ w.heap.size) : B ≤ (w.setCell a v).heap.size := by rw [World.size_setCell]; omega
theorem le_drew {B : Nat} {w : World} (h : B ≤ w.heap.size) : B ≤ w.drew.heap.size := h
theorem le_drewN {B : Nat} {w : World} {n : Nat} (h : B ≤ w.heap.size) : B ≤ (w.drewN n).heap.size := h

theorem below_growBy : Below w.heap.size w (w.growBy p) :=
  ⟨rfl, rfl, rfl, by simp, fun _ h => w.heap_growBy p h⟩

theorem below_growBy' {B : Nat} {a w : World} (h : Below B a w) (hB : B ≤ w.heap.size) (p : Growth) : Below B a (w.growBy p) :=
  h.trans ((below_growBy w p).mono hB)

theorem grownBy_growBy : w.grownBy (w.growBy p) none := ⟨rfl, rfl, rfl, by simp, fun k hk _ => w.heap_growBy p hk⟩

theorem grow_of_below {w w' : World} (h : Below w.heap.size w w') : ∃ p, w' = w.growBy p := by
  refine ⟨⟨w'.heap.extract w.heap.size w'.heap.size, w'.drawn⟩, ?_⟩
  obtain ⟨h1, h2, h3, h4, h5⟩ := h
  cases w' with
  | mk heap' tape' drawn' os' output' =>
    simp only at h1 h2 h3 h4 h5
    unfold World.growBy
    simp only [World.mk.injEq]
    refine ⟨?_, h2, trivial, h1, h3⟩
    apply Array.ext_getElem?
    intro k
    by_cases hk : k < w.heap.size
    · rw [Array.getElem?_append_left hk]; exact h5 k hk
    · rw [Array.getElem?_append_right (by omega), Array.getElem?_extract]
      by_cases hk2 : k < heap'.size
      · rw [if_pos (by omega), show w.heap.size + (k - w.heap.size) = k from by omega]
      · rw [if_neg (by omega)]
        exact Array.getElem?_eq_none (by omega)

end

section
variable {P : Program}

/-- A callee that only makes memory, met in a world that has only grown. -/
theorem Calls.grow_of {f : FuncId} {args : Array Value} {w : World} {p : Growth} {v : Value}
    (h : Calls P f args (w.growBy p) fun e w' => e = .returned v ∧ Below (w.growBy p).heap.size (w.growBy p) w') :
    Calls P f args (w.growBy p) fun e w' => e = .returned v ∧ ∃ q, w' = w.growBy q :=
  h.mono fun _ _ ⟨he, hb⟩ => ⟨he, by obtain ⟨q, rfl⟩ := grow_of_below hb; exact ⟨_, World.growBy_growBy w p q⟩⟩

/-- .. that leaves the world as it is -/
theorem Calls.grow_of_same {f : FuncId} {args : Array Value} {w : World} {p : Growth} {v : Value}
    (h : Calls P f args (w.growBy p) fun e w' => e = .returned v ∧ w.growBy p = w') :
    Calls P f args (w.growBy p) fun e w' => e = .returned v ∧ ∃ q, w' = w.growBy q :=
  h.mono fun _ _ ⟨he, hb⟩ => ⟨he, p, hb.symm⟩

/-- **A drawn region, walked once in the order of the text, over the worlds that have only grown.** -/
theorem wp_region_grow {id : Nat} {Q : Exit → Act → World → Prop} {a : Act} {w : World} {l : List Oper} (hm : P.follows .mixedOrders = true) (hB : Region.lexB .any l.toArray = true)
    (h : wpQuiet P l.toArray (fun w' => ∃ p, w' = w.growBy p) (fun a' => ∀ w', (∃ p, w' = w.growBy p) → Q .normal a' w') l a) : (Code.region id l.toArray true).wp P Q a w :=
  wp_region_quiet (C := fun w' => ∃ p, w' = w.growBy p) hm hB ⟨⟨#[], w.drawn + 1⟩, by unfold World.growBy; simp⟩ (by simpa using h)

/-- .. from a world that has grown already: over the same base -/
theorem wp_region_grow2 {id : Nat} {Q : Exit → Act → World → Prop} {a : Act} {w : World} {p : Growth} {l : List Oper} (hm : P.follows .mixedOrders = true) (hB : Region.lexB .any l.toArray = true)
    (h : wpQuiet P l.toArray (fun w' => ∃ p, w' = w.growBy p) (fun a' => ∀ w', (∃ p, w' = w.growBy p) → Q .normal a' w') l a) : (Code.region id l.toArray true).wp P Q a (w.growBy p) :=
  wp_region_quiet (C := fun w' => ∃ p, w' = w.growBy p) hm hB ⟨⟨p.objs, p.drawn + 1⟩, rfl⟩ (by simpa using h)

/-- the world at hand, under a name of its own -/
theorem wp_world_alloc {c : Code} {Q : Exit → Act → World → Prop} {a : Act} {w : World} {o : Obj} (h : ∀ W, Below w.heap.size w W → W.heap[w.heap.size]? = some o → c.wp P Q a W) : c.wp P Q a (w.alloc o) :=
  h _ ((Below.refl _ _).alloc (Nat.le_refl _) o) (by unfold World.alloc; simp)
theorem cell_of_block {W : World} {b : Nat} {c : Array Value} {t : TypeId} {f : Nat × Nat} (h : W.heap[b]? = some (.cells c t f)) (i : Nat) : W.cell? ⟨b, i, none⟩ = c[i]? := by
  unfold World.cell?
  rw [h]
  rfl

theorem wp_world {c : Code} {Q : Exit → Act → World → Prop} {a : Act} {w : World} (h : ∀ W, W = w → c.wp P Q a W) : c.wp P Q a w := h w rfl

end
end Go
