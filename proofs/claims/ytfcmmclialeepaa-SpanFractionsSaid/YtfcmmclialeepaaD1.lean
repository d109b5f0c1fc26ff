/-
  (*Draw).Next of the reference's package 01: the next number of a list, by its rest; where none is left, 0. What it leaves: the index in the box.
-/
import Derived.Test.YtfcmmclialeepaaS2
import Derived.Test.YtfcmmclialeepaaM1
namespace Go
open Go.RowKit Go.Shelf
theorem World.setCell_over (w : World) (b o : Nat) (v v' : Value) : (w.setCell ⟨b, o, none⟩ v).setCell ⟨b, o, none⟩ v' = w.setCell ⟨b, o, none⟩ v' := by
  unfold World.setCell
  simp only [World.mk.injEq, and_true]
  apply Array.ext_getElem?
  intro i
  simp only [Array.getElem?_modify]
  by_cases h : b = i
  · simp only [h, if_true]
    cases w.heap[i]? with
    | none => rfl
    | some x => cases x <;> simp
  · simp [h]
theorem World.setCell_id (w : World) (b o : Nat) (v : Value) (h : w.cell? ⟨b, o, none⟩ = some v) : w.setCell ⟨b, o, none⟩ v = w := by
  obtain ⟨heap, tape, drawn, os, output⟩ := w
  unfold World.setCell
  simp only [World.mk.injEq, and_true]
  apply Array.ext_getElem?
  intro i
  simp only [Array.getElem?_modify]
  by_cases hb : b = i
  · subst hb
    unfold World.cell? at h
    simp only [if_true]
    cases hx : heap[b]? with
    | none => rfl
    | some x =>
      rw [show ({ heap := heap, tape := tape, drawn := drawn, os := os, output := output } : World).heap[b]? = some x from hx] at h
      cases x <;> try rfl
      rename_i c t f
      simp at h ⊢
      have h' : c[o]? = some v := h
      obtain ⟨hl, hv⟩ := Array.getElem?_eq_some_iff.1 h'
      apply Array.ext_getElem?
      intro j
      rw [Array.getElem?_setIfInBounds]
      split
      · rename_i e; subst e; exact h'.symm
      · rfl
  · simp [hb]
end Go
namespace Go.Proofs.Ytfcmmclialeepaa
open Go.RowKit Go.Shelf
attribute [local go_sem] Oper.semAt_some

/-- the slice value sv holds len ints, in a block below n₀; or none -/
def Ints (n₀ : Nat) (W : World) (sv : Value) (len : Nat) : Prop :=
  ∃ a cap, sv = .slice a len cap ∧ (len = 0 ∨ ∃ b off, a = some ⟨b, off, none⟩ ∧ b < n₀ ∧ ∀ j, j < len → ∃ x : Int, fits x ∧ W.cell? ⟨b, off + j, none⟩ = some (.int .i64 x))
theorem Ints.below {n₀ : Nat} {A B : World} (h : Below n₀ A B) {sv : Value} {len : Nat} : Ints n₀ A sv len → Ints n₀ B sv len
  | ⟨a, cap, e, .inl h0⟩ => ⟨a, cap, e, .inl h0⟩
  | ⟨a, cap, e, .inr ⟨b, off, e2, hb, hc⟩⟩ => ⟨a, cap, e, .inr ⟨b, off, e2, hb, fun j hj => by obtain ⟨x, h1, h2⟩ := hc j hj; exact ⟨x, h1, (h.cell (p := ⟨b, off + j, none⟩) hb).trans h2⟩⟩⟩

set_option maxHeartbeats 1000000 in

set_option maxRecDepth 100000 in
theorem next_any (n₀ D len k : Nat) (sv : Value) (m : Int) (w : World) (hm1 : 1 ≤ m) (hm2 : m ≤ 4611686018427387904) (hD : n₀ ≤ D) (hI : Ints n₀ w sv len) (hB : Blk w D #[sv, .int .i64 (k : Nat)] 51) (hk : k ≤ 1000) :
    Calls Try.prog 18 #[.pointer (some ⟨D, 0, none⟩), .int .i64 m] w fun e w' => ∃ v k' p, e = .returned (.int .i64 v) ∧ 0 ≤ v ∧ v < m ∧ k' ≤ k + 1 ∧ w' = (w.setCell ⟨D, 1, none⟩ (.int .i64 (k' : Nat))).growBy p := by
  have c0 : w.cell? ⟨D, 0, none⟩ = some sv := hB.cell 0
  have c1 : w.cell? ⟨D, 1, none⟩ = some (.int .i64 (k : Nat)) := hB.cell 1
  have f1 := hB.frozen 1
  have hid := World.setCell_id w D 1 _ c1
  by_cases hlt : k < len
  · rcases hI with ⟨a, cap, rfl, rfl | ⟨b, off, rfl, hb, hc⟩⟩
    · omega
    · obtain ⟨x, fx, cx⟩ := hc k hlt
      have hbD : ¬ b = D := by omega
      have hDb : ¬ D = b := by omega
      have hlt' : (k : Int) < (len : Int) := by omega
      clear hc hid
      go_enter Try.func18, Try.ntmps18
      go_wp2_with fail
      first | with_reducible refine wp_region_grow2 (by kernel_rfl) (by kernel_rfl) ?_ | with_reducible refine wp_region_grow (by kernel_rfl) (by kernel_rfl) ?_
      repeat (first | go_big_quiet_step (fail) | quiet_step (fail))
      refine wpQuiet_nil ?_
      intro _ hw_
      obtain ⟨p, hw_⟩ := hw_
      subst hw_
      go_wp2_with fail
      first | with_reducible refine wp_region_grow2 (by kernel_rfl) (by kernel_rfl) ?_ | with_reducible refine wp_region_grow (by kernel_rfl) (by kernel_rfl) ?_
      repeat (first | go_big_quiet_step ((go_at_call 25; exact Calls.grow_of_same (mod_any _ _ _ fx hm1 hm2))) | quiet_step ((go_at_call 25; exact Calls.grow_of_same (mod_any _ _ _ fx hm1 hm2))))
      refine wpQuiet_nil ?_
      intro _ hw_
      obtain ⟨p, hw_⟩ := hw_
      subst hw_
      go_wp2_with fail
      go_ret
      refine ⟨x % m, k + 1, _, rfl, Int.emod_nonneg _ (by omega), Int.emod_lt_of_pos _ (by omega), Nat.le_refl _, rfl⟩
  · have hge : (len : Int) ≤ (k : Int) := by omega
    have hge' : ¬ (k : Int) < (len : Int) := by omega
    obtain ⟨a, cap, rfl, -⟩ := hI
    · go_enter Try.func18, Try.ntmps18
      go_wp2_with fail
      first | with_reducible refine wp_region_grow2 (by kernel_rfl) (by kernel_rfl) ?_ | with_reducible refine wp_region_grow (by kernel_rfl) (by kernel_rfl) ?_
      repeat (first | go_big_quiet_step (fail) | quiet_step (fail))
      refine wpQuiet_nil ?_
      intro _ hw_
      obtain ⟨p, hw_⟩ := hw_
      subst hw_
      go_wp2_with fail
      go_ret
      refine ⟨0, k, _, rfl, by omega, by omega, by omega, by rw [hid]⟩
end Go.Proofs.Ytfcmmclialeepaa
