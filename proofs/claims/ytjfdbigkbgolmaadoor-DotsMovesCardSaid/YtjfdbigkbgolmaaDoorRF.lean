/-
  A drawn region's frame behind its head: what the head does not write is as it was.
-/
import Derived.Test.YtjfdbigkbgolmaaDoorRR
namespace Go
set_option linter.unusedVariables false
set_option linter.unusedSimpArgs false
open Go.RowKit

def pickL : List Bool → List Value → (Nat → Value) → Nat → List Value
  | true :: bs, x :: xs, f, k => x :: pickL bs xs f (k + 1)
  | false :: bs, _ :: xs, f, k => f k :: pickL bs xs f (k + 1)
  | _, _, _, _ => []
theorem pickL_get : ∀ (bs : List Bool) (xs : List Value) (f : Nat → Value) (k j : Nat), bs.length = xs.length → (pickL bs xs f k)[j]? = (if j < xs.length then some (if bs.getD j false then xs.getD j undef else f (k + j)) else none)
  | [], [], _, _, _, _ => by simp [pickL]
  | true :: bs, x :: xs, f, k, 0, _ => by simp [pickL]
  | false :: bs, x :: xs, f, k, 0, _ => by simp [pickL]
  | true :: bs, x :: xs, f, k, j + 1, h => by
    have ih := pickL_get bs xs f (k + 1) j (by simpa using h)
    rw [show pickL (true :: bs) (x :: xs) f k = x :: pickL bs xs f (k + 1) from rfl, List.getElem?_cons_succ, ih]
    simp [Nat.add_assoc, Nat.add_comm 1 j]
  | false :: bs, x :: xs, f, k, j + 1, h => by
    have ih := pickL_get bs xs f (k + 1) j (by simpa using h)
    rw [show pickL (false :: bs) (x :: xs) f k = f k :: pickL bs xs f (k + 1) from rfl, List.getElem?_cons_succ, ih]
    simp [Nat.add_assoc, Nat.add_comm 1 j]
theorem Agree.frame {ops : Array Oper} {n : Nat} {a b : Act} (h : Agree ops n a b) (bs : List Bool) (xs : List Value) (ha : a.tmps = xs.toArray) (hb : (List.range xs.length).map (Region.notDst ops n) = bs) :
    b = ⟨(pickL bs xs (fun k => b.tmps.getD k undef) 0).toArray, a.defers⟩ := by
  have hl : bs.length = xs.length := by rw [← hb]; simp
  have hs := h.size
  have hd := h.defers
  obtain ⟨bt, bd⟩ := b
  simp only at hs hd
  subst hd
  congr 1
  apply Array.ext'
  apply List.ext_getElem?
  intro j
  rw [List.toList_toArray, pickL_get bs xs _ 0 j hl]
  have hsz : bt.toList.length = xs.length := by rw [ha] at hs; simpa using hs
  split
  · rename_i hj
    have hj2 : j < bt.toList.length := by omega
    rw [List.getElem?_eq_getElem hj2]
    congr 1
    split
    · rename_i hbj
      have hn : Region.notDst ops n j = true := by
        rw [← hb, List.getD_eq_getElem?_getD, List.getElem?_map, List.getElem?_range (by omega)] at hbj
        simpa using hbj
      have := h.at_ hn
      simp only [Act.eval, ha] at this
      have hj3 : j < bt.size := by simpa using hj2
      simpa [Array.getD, hj3, hj, List.getD_eq_getElem?_getD] using this
    · simp [Array.getD, show j < bt.size from by simpa using hj2]
  · rename_i hj
    rw [List.getElem?_eq_none (by omega)]
end Go
