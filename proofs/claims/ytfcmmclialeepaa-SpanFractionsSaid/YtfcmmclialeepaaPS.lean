/-
  Plain facts on histories and scales (chapter 11): which events are done, which is in progress. No program in sight.
-/
import Derived.Test.YtfcmmclialeepaaP1
namespace Go.Proofs.Ytfcmmclialeepaa

/-- an event's five ints -/
structure Ev where
  kind : Int
  when_ : Int
  id : Int
  other : Int
  n : Int

/-- the At of event k -/
def atE (l : List Ev) (k : Nat) : Int := ((l[k]?).map (·.when_)).getD 0
/-- where event k begins, where it ends -/
def begE (l : List Ev) : Nat → Int
  | 0 => 0
  | k + 1 => atE l k * atE l k
def inS (a : Int) : Prop := 0 ≤ a ∧ a ≤ 1024
instance (a : Int) : Decidable (inS a) := inferInstanceAs (Decidable (0 ≤ a ∧ a ≤ 1024))

/-- how many events come: as long as their At are scales -/
def lead : List Ev → Nat
  | [] => 0
  | e :: l => if inS e.when_ then lead l + 1 else 0
/-- what comes at turn k -/
def turn (l : List Ev) (k : Nat) : Nat × Int × Int := (k, begE l k, atE l k * atE l k)
def upto {α : Type} (f : Nat → α) (k : Nat) : List α := (List.range k).map f
theorem upto_succ {α : Type} (f : Nat → α) (k : Nat) : upto f (k + 1) = upto f k ++ [f k] := by simp [upto, List.range_succ]
theorem upto_length {α : Type} (f : Nat → α) (k : Nat) : (upto f k).length = k := by simp [upto]

/-- a turn: an index, and two numbers that are squares of scales -/
abbrev Turn := { x : Nat × Int × Int // 0 ≤ x.2.1 ∧ x.2.1 ≤ 1048576 ∧ 0 ≤ x.2.2 ∧ x.2.2 ≤ 1048576 }
def turnS (l : List Ev) (k : Nat) : Turn :=
  if h : 0 ≤ (turn l k).2.1 ∧ (turn l k).2.1 ≤ 1048576 ∧ 0 ≤ (turn l k).2.2 ∧ (turn l k).2.2 ≤ 1048576 then ⟨turn l k, h⟩ else ⟨(0, 0, 0), by decide⟩

theorem lead_le (l : List Ev) : lead l ≤ l.length := by
  induction l with
  | nil => exact Nat.le_refl _
  | cons e l ih => unfold lead; split <;> simp <;> omega
theorem lead_in : ∀ (l : List Ev) (k : Nat), k < lead l → inS (atE l k)
  | [], k, h => by simp [lead] at h
  | e :: l, k, h => by
    unfold lead at h
    split at h
    · rename_i he
      cases k with
      | zero => simpa [atE] using he
      | succ k => simpa [atE] using lead_in l k (by omega)
    · omega
theorem sq_in {a : Int} (h : inS a) : 0 ≤ a * a ∧ a * a ≤ 1048576 := by
  have h1 := sq_le (a := 0) (b := a) (by omega) h.1
  have h2 := sq_le (a := a) (b := 1024) h.1 h.2
  omega
theorem begE_in (l : List Ev) (k : Nat) (h : k ≤ lead l) : 0 ≤ begE l k ∧ begE l k ≤ 1048576 := by
  cases k with
  | zero => exact ⟨Int.le_refl 0, by show (0 : Int) ≤ 1048576; decide⟩
  | succ k => exact sq_in (lead_in l k h)
theorem turnS_val {l : List Ev} {k : Nat} (h : k < lead l) : (turnS l k).1 = turn l k := by
  have h1 := begE_in l k (by omega)
  have h2 := sq_in (lead_in l k h)
  unfold turnS
  rw [dif_pos ⟨h1.1, h1.2, h2.1, h2.2⟩]

theorem lead_out : ∀ (l : List Ev), lead l < l.length → ¬ inS (atE l (lead l))
  | [], h => by simp [lead] at h
  | e :: l, h => by
    unfold lead at h ⊢
    split
    · rename_i he
      rw [if_pos he] at h
      simpa [atE] using lead_out l (by simpa using h)
    · rename_i he
      simpa [atE] using he

/-- how many events are done at a square -/
def doneN (sq : Int) : List Ev → Nat
  | [] => 0
  | e :: l => if inS e.when_ ∧ e.when_ * e.when_ ≤ sq then doneN sq l + 1 else 0
theorem doneN_le (sq : Int) (l : List Ev) : doneN sq l ≤ lead l := by
  induction l with
  | nil => exact Nat.le_refl _
  | cons e l ih =>
    unfold doneN lead
    split
    · rename_i h; rw [if_pos h.1]; omega
    · exact Nat.zero_le _
theorem doneN_in : ∀ (sq : Int) (l : List Ev) (k : Nat), k < doneN sq l → inS (atE l k) ∧ atE l k * atE l k ≤ sq
  | sq, [], k, h => by simp [doneN] at h
  | sq, e :: l, k, h => by
    unfold doneN at h
    split at h
    · rename_i he
      cases k with
      | zero => simpa [atE] using he
      | succ k => simpa [atE] using doneN_in sq l k (by omega)
    · omega
theorem doneN_out : ∀ (sq : Int) (l : List Ev), doneN sq l < l.length → ¬ (inS (atE l (doneN sq l)) ∧ atE l (doneN sq l) * atE l (doneN sq l) ≤ sq)
  | sq, [], h => by simp [doneN] at h
  | sq, e :: l, h => by
    unfold doneN at h ⊢
    split
    · rename_i he
      rw [if_pos he] at h
      simpa [atE] using doneN_out sq l (by simpa using h)
    · rename_i he
      simpa [atE] using he
/-- what it is, by what it does -/
theorem doneN_of {sq : Int} {l : List Ev} {k : Nat} (hk : k ≤ l.length) (h1 : ∀ j, j < k → inS (atE l j) ∧ atE l j * atE l j ≤ sq) (h2 : k < l.length → ¬ (inS (atE l k) ∧ atE l k * atE l k ≤ sq)) : doneN sq l = k := by
  have hle := Nat.le_trans (doneN_le sq l) (lead_le l)
  rcases Nat.lt_trichotomy (doneN sq l) k with h | h | h
  · exact absurd (h1 _ h) (doneN_out sq l (by omega))
  · exact h
  · exact absurd (doneN_in sq l k h) (h2 (by omega))

/-- the event in progress, as (index, square less begin, end less begin), if there is one -/
def doingAt (sq : Int) (l : List Ev) : Bool :=
  decide (doneN sq l < l.length) && decide (inS (atE l (doneN sq l))) && decide (begE l (doneN sq l) < sq)

end Go.Proofs.Ytfcmmclialeepaa
