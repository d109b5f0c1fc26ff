/-
  Chapter 29: braille.Right, words and the closure of Write, at the text "1".
-/
import Derived.Test.YtjfdbigkbgolmaaDoorQ4
import Derived.Test.YtjfdbigkbgolmaaDoorQ1
import Derived.Laws.RangeString
namespace Go.Proofs.YtjfdbigkbgolmaaDoor
set_option linter.unusedVariables false
set_option linter.unusedSimpArgs false
open Go.RowKit Go.Shelf
attribute [local go_sem] Oper.semAt_some

def one : ByteArray := ⟨#[49]⟩

set_option maxRecDepth 100000 in
set_option maxHeartbeats 2000000 in
theorem right_one (w : World) : Calls Tryd.prog 52 #[.string one] w fun e w' => e = .returned (.bool true) ∧ Below w.heap.size w w' := by
  have h0 : ∀ (v : World) ty, (Instr.next (.pointer (some ⟨v.heap.size, 0, none⟩)) true ty).run Tryd.prog (v.iter one 0) = .ok (.tuple #[.bool true, .int .i64 0, .int .i32 49]) (v.iter one 1) := fun v ty => run_next_ascii v one 0 ty (by decide) (by decide)
  have h1 : ∀ (v : World) ty, (Instr.next (.pointer (some ⟨v.heap.size, 0, none⟩)) true ty).run Tryd.prog (v.iter one 1) = .ok (.tuple #[.bool false]) (v.iter one 1) := fun v ty => run_next_end v one 1 ty (by decide)
  go_enter Tryd.func52, Tryd.ntmps52
  go_wp2_with fail
  refine wp_loop_rounds 3 ?_
  rw [rounds_succ]
  go_wp2_with fail
  rw [rounds_succ]
  go_wp2_with fail
  go_ret
  exact ⟨rfl, (Below.refl _ _).alloc (Nat.le_refl _) _⟩

def wordsC : Array Value := #[.string ⟨#[119, 105, 116, 104]⟩, .string ⟨#[116, 104, 101]⟩, .string ⟨#[97, 110, 100]⟩, .string ⟨#[102, 111, 114]⟩, .string ⟨#[105, 110, 103]⟩, .string ⟨#[111, 102]⟩, .string ⟨#[99, 104]⟩, .string ⟨#[115, 104]⟩, .string ⟨#[116, 104]⟩, .string ⟨#[115, 116]⟩, .string ⟨#[101, 114]⟩]
def wordsL : List ByteArray := [⟨#[119, 105, 116, 104]⟩, ⟨#[116, 104, 101]⟩, ⟨#[97, 110, 100]⟩, ⟨#[102, 111, 114]⟩, ⟨#[105, 110, 103]⟩, ⟨#[111, 102]⟩, ⟨#[99, 104]⟩, ⟨#[115, 104]⟩, ⟨#[116, 104]⟩, ⟨#[115, 116]⟩, ⟨#[101, 114]⟩]

set_option maxRecDepth 100000 in
set_option maxHeartbeats 2000000 in
theorem words_any (w : World) : Calls Tryd.prog 54 #[] w fun e w' => e = .returned (.slice (some ⟨w.heap.size, 0, none⟩) 11 11) ∧ w' = w.alloc (.cells wordsC 9) := by
  go_enter Tryd.func54, Tryd.ntmps54
  go_wp2_with fail
  go_ret
  exact ⟨rfl, rfl⟩

set_option maxRecDepth 100000 in
set_option maxHeartbeats 2000000 in
theorem write1_one (x : ByteArray) (sb kb : Nat) (w : World) (hs : w.cell? ⟨sb, 0, none⟩ = some (.string one)) (hk : w.cell? ⟨kb, 0, none⟩ = some (.int .i64 0)) :
    Calls Tryd.prog 55 #[.string x, .pointer (some ⟨sb, 0, none⟩), .pointer (some ⟨kb, 0, none⟩)] w fun e w' => e = .returned (.bool (Lib.hasPrefix [49] x.data.toList)) ∧ w' = w := by
  go_enter Tryd.func55, Tryd.ntmps55
  go_wp2_with (go_at_call 56; refine (Tryd.strings_HasPrefix _ _ _).mono ?_; rintro e w' ⟨rfl, rfl⟩)
  go_ret
  exact ⟨rfl, rfl⟩
end Go.Proofs.YtjfdbigkbgolmaaDoor
