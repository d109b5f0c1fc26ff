/-
  Chapter 29: the order of dots: the closure that sorts them.
-/
import Derived.Test.YtjfdbigkbgolmaaDoorK2
import Derived.Test.YtjfdbigkbgolmaaDoorTail
import Derived.Shelf.SlSortCmp.QuietGrown
import Derived.Shelf.SlSortCmp.WholeK
namespace Go.Proofs.YtjfdbigkbgolmaaDoor
set_option linter.unusedVariables false
set_option linter.unusedSimpArgs false
open Go.RowKit Go.Shelf Go.Sort Go.Lib
attribute [local go_sem] Oper.semAt_some

set_option maxHeartbeats 1000000 in
/-- cmp.Or of two numbers -/
theorem or2_any (x y r : Int) (hr : (if x = 0 then y else x) = r) (b : Nat) (w : World) (h0 : w.cell? ⟨b, 0, none⟩ = some (.int .i64 x)) (h1 : w.cell? ⟨b, 1, none⟩ = some (.int .i64 y)) :
    Calls Tryd.prog 50 #[.slice (some ⟨b, 0, none⟩) 2 2] w fun e w' => e = .returned (.int .i64 r) ∧ w = w' := by
  by_cases hx : x = 0
  · subst hx
    rw [if_pos rfl] at hr
    subst hr
    by_cases hy : y = 0
    · subst hy
      go_enter Tryd.func50, Tryd.ntmps50
      go_wp2_with fail
      refine wp_loop_rounds 3 ?_
      rw [rounds_succ]
      go_wp2_with fail
      rw [rounds_succ]
      go_wp2_with fail
      rw [rounds_succ]
      go_wp2_with fail
      go_ret
      exact ⟨rfl, rfl⟩
    · go_enter Tryd.func50, Tryd.ntmps50
      go_wp2_with fail
      refine wp_loop_rounds 2 ?_
      rw [rounds_succ]
      go_wp2_with fail
      rw [rounds_succ]
      go_wp2_with fail
      go_ret
      exact ⟨rfl, rfl⟩
  · rw [if_neg hx] at hr
    subst hr
    go_enter Tryd.func50, Tryd.ntmps50
    go_wp2_with fail
    refine wp_loop_rounds 1 ?_
    rw [rounds_succ]
    go_wp2_with fail
    go_ret
    exact ⟨rfl, rfl⟩

/-- the order: by y, then by x -/
def cmpS (p q : Spot) : Int := if compareInt p.2 q.2 = 0 then compareInt p.1 q.1 else compareInt p.2 q.2
theorem cmpCI_lt {a b : Int} : compareInt a b < 0 ↔ a < b := by
  unfold compareInt
  split
  · simp; assumption
  · split <;> simp <;> omega
theorem cmpCI_eq {a b : Int} : compareInt a b = 0 ↔ a = b := by
  unfold compareInt
  split
  · simp; omega
  · split <;> simp <;> omega
def ltS (p q : Spot) : Bool := decide (p.2 < q.2) || (decide (p.2 = q.2) && decide (p.1 < q.1))
theorem ltOf_cmpS (p q : Spot) : ltOf cmpS p q = ltS p q := by
  unfold ltOf cmpS ltS
  by_cases h : p.2 = q.2
  · rw [if_pos (cmpCI_eq.2 h)]
    simp [h, cmpCI_lt]
  · rw [if_neg (fun e => h (cmpCI_eq.1 e))]
    simp [h, cmpCI_lt]
theorem swoS : SWO (ltOf cmpS) where
  irrefl x := by rw [ltOf_cmpS]; simp [ltS]
  trans x y z h1 h2 := by rw [ltOf_cmpS] at *; simp [ltS] at *; omega
  ntrans x y z h1 h2 := by rw [ltOf_cmpS] at *; simp [ltS] at *; omega
theorem totS (x y : Spot) (h1 : ltOf cmpS x y = false) (h2 : ltOf cmpS y x = false) : x = y := by
  rw [ltOf_cmpS] at *
  simp [ltS] at *
  exact Prod.ext (by omega) (by omega)

theorem wp_region_grown_tail {P : Program} {id : Nat} {Q : Exit → Act → World → Prop} {a : Act} {w : World} {l : List Oper} (n : Nat) (hm : P.follows .mixedOrders = true) (hB : Region.lexTailB .any l.toArray n = true)
    (h : wpQuiet P l.toArray (fun w' => ∃ p : GrownBy, w' = grow (w.drewN p.n) p.os) (fun a' => ∀ w', (∃ p : GrownBy, w' = grow (w.drewN p.n) p.os) → wpList P l.toArray Q (l.drop n) a' w') (l.take n) a) : (Code.region id l.toArray true).wp P Q a w :=
  wp_region_tail n hm hB ⟨⟨1, #[]⟩, by rw [grow_empty]; rfl⟩ h

theorem cmp_grown (x y : Int) (r : Int) (hr : compareInt x y = r) (w : World) (n : Nat) (os : Array Obj) :
    Calls Tryd.prog 51 #[.int .i64 x, .int .i64 y] (grow (w.drewN n) os) fun e w'' => e = .returned (.int .i64 r) ∧ ∃ p : GrownBy, w'' = grow (w.drewN p.n) p.os :=
  (Go.Proofs.Tryd.cmp_Compare_int x y _).mono fun _ _ ⟨he, hw⟩ => ⟨by rw [he, hr], ⟨n, os⟩, by first | exact hw | exact hw.symm⟩

set_option maxRecDepth 100000 in
set_option maxHeartbeats 2000000 in
theorem cmpS_any (p q : Spot) (w : World) :
    Calls Tryd.prog 49 #[spotV p, spotV q] w fun e w' => e = .returned (.int .i64 (cmpS p q)) ∧ ∃ m os', w' = grow (w.drewN m) os' := by
  obtain ⟨px, py⟩ := p
  obtain ⟨qx, qy⟩ := q
  obtain ⟨r, hr⟩ : ∃ r, cmpS (px, py) (qx, qy) = r := ⟨_, rfl⟩
  rw [hr]
  unfold cmpS at hr
  simp only at hr
  obtain ⟨c1, h1⟩ : ∃ c, compareInt py qy = c := ⟨_, rfl⟩
  obtain ⟨c2, h2⟩ : ∃ c, compareInt px qx = c := ⟨_, rfl⟩
  rw [h1, h2] at hr
  replace h1 := Lib.hid h1
  replace h2 := Lib.hid h2
  replace hr := Lib.hid hr
  go_enter Tryd.func49, Tryd.ntmps49
  go_wp2_with fail
  obtain ⟨W, hW⟩ : ∃ W, (w.alloc (.cells #[.int .i64 px, .int .i64 py] 68)).alloc (.cells #[.int .i64 qx, .int .i64 qy] 68) = W := ⟨_, rfl⟩
  have k1 := (Blk.new w #[.int .i64 px, .int .i64 py] 68).alloc (.cells #[.int .i64 qx, .int .i64 qy] 68)
  have k2 := Blk.new (w.alloc (.cells #[.int .i64 px, .int .i64 py] 68)) #[.int .i64 qx, .int .i64 qy] 68
  simp only [World.size_alloc] at k2
  rw [hW] at k1 k2 ⊢
  have f0 := fun n os => cell_grown (a := ⟨w.heap.size, 0, none⟩) k1.lt (k1.cell 0) n os
  have f1 := fun n os => cell_grown (a := ⟨w.heap.size, 1, none⟩) k1.lt (k1.cell 1) n os
  have f2 := fun n os => cell_grown (a := ⟨w.heap.size + 1, 0, none⟩) k2.lt (k2.cell 0) n os
  have f3 := fun n os => cell_grown (a := ⟨w.heap.size + 1, 1, none⟩) k2.lt (k2.cell 1) n os
  simp at f0 f1 f2 f3
  replace hW := Lib.hid hW
  refine wp_region_grown_tail 10 (by kernel_rfl) (by kernel_rfl) ?_
  simp only [List.take_succ_cons, List.take_zero, List.drop_succ_cons, List.drop_zero]
  repeat (first | go_big_quiet_step ((go_at_call 51; exact cmp_grown _ _ _ (by first | with_reducible exact h1.out | with_reducible exact h2.out) _ _ _)) | quiet_step ((go_at_call 51; exact cmp_grown _ _ _ (by first | with_reducible exact h1.out | with_reducible exact h2.out) _ _ _)))
  refine wpQuiet_nil ?_
  intro X hw_
  obtain ⟨⟨nq, osq⟩, hw_⟩ := hw_
  replace hw_ := Lib.hid hw_
  clear f0 f1 f2 f3 k1 k2
  go_wp2_with (go_at_call 50; refine (or2_any _ _ _ hr.out _ _ (by simp) (by simp)).mono ?_; rintro e w' ⟨rfl, rfl⟩)
  go_ret
  refine ⟨rfl, nq, #[Obj.cells #[.int .i64 px, .int .i64 py] 68] ++ #[Obj.cells #[.int .i64 qx, .int .i64 qy] 68] ++ osq ++ #[Obj.cells #[.int .i64 c1, .int .i64 c2] 3], ?_⟩
  rw [hw_.out, ← hW.out]
  simp only [alloc_eq_grow, grow_grow]
  show grow (grow (w.drewN nq) _) _ = _
  rw [grow_grow, Array.append_assoc, Array.append_assoc, Array.append_assoc]

theorem cmpLaysS (blk off size : Nat) (w : World) : CmpLays Tryd.prog 49 #[] encS 2 cmpS blk off size w := fun _ _ _ _ x y => cmpS_any x y _
end Go.Proofs.YtjfdbigkbgolmaaDoor
