/-
  Chapter 29: ordered, of a map that may hold nothing.
-/
import Derived.Test.YtjfdbigkbgolmaaDoorK5
import Derived.Shelf.SlSortCmp.NoneTotal
namespace Go.Proofs.YtjfdbigkbgolmaaDoor
set_option linter.unusedVariables false
set_option linter.unusedSimpArgs false
open Go.RowKit Go.Shelf Go.Sort Go.Lib Go.Maps
attribute [local go_sem] Oper.semAt_some
attribute [local go_sem ↓] Go.wp_at_zero Go.wp_at_succ

theorem sortFunc_none (fv : Value) (w : World) : Calls Tryd.prog 65 #[.slice none 0 0, fv] w fun e w' => e = .returned (.tuple #[]) ∧ w' = w := by
  have h := AnyF.slices_SortFunc_none Go.Proofs.Tryd.sortSpot none 0 fv w
  exact h

set_option maxHeartbeats 1000000 in
theorem sortedFunc_none (Bm b nn : Nat) (w : World) (hBm : Bm < w.heap.size) (hm : w.cell? ⟨Bm, 0, none⟩ = some (.map (some b))) (hM : MapIs w b nn []) (hnn : nn ≤ 4294967296) :
    Calls Tryd.prog 47 #[.func (.func 66) #[] #[.pointer (some ⟨Bm, 0, none⟩)], .func (.func 49) #[] #[]] w fun e w' => e = .returned (.slice none 0 0) ∧ Below w.heap.size w w' := by
  have eg : ∀ args w, (callFunc 66 args).run Tryd.prog w = .ok (.enter 66 args) w := enters_of Tryd.func66 (by kernel_rfl) rfl
  have hcol := (callsIn_wide (n := 3)).1 (collect_in _ 3 trivial trivial rfl (Nat.le_refl _) 66 #[.pointer (some ⟨Bm, 0, none⟩)] trivial eg _ _ nn hnn w (keys_stops _ 1 trivial rfl (Nat.le_refl _) Bm b nn [] w hBm hm hM))
  go_enter Tryd.func47, Tryd.ntmps47
  go_wp2_with (go_at_call 64; refine hcol.mono ?_; rintro e w1 ⟨v, ss, rfl, ⟨hs1, hs2⟩, hrow, hnl, hb1⟩; obtain rfl : v = .slice none 0 0 := hnl.2 (List.eq_nil_iff_forall_not_mem.2 (fun p hp => by simpa using (hs2 p).1 hp)))
  clear hcol
  go_wp2_with (go_at_call 65; refine (sortFunc_none _ _).mono ?_; rintro e w2 ⟨rfl, rfl⟩)
  go_ret
  exact ⟨rfl, hb1⟩

set_option maxHeartbeats 1000000 in
theorem ordered_none (kind : Int) (b nn : Nat) (w : World) (hM : MapIs w b nn []) (hnn : nn ≤ 4294967296) :
    Calls Tryd.prog 33 #[.map (some b), .int .i64 kind] w fun e w' => e = .returned (.slice none 0 0) ∧ Below w.heap.size w w' := by
  have hkeys := fun mb W => (callsIn_wide (n := 1)).1 (keys_in _ 1 trivial rfl mb W)
  have hsf := sortedFunc_none w.heap.size b nn (w.alloc (.cells #[.map (some b)] 73)) (by simp) (by simp) (hM.alloc _) hnn
  simp only [World.size_alloc] at hsf
  go_enter Tryd.func33, Tryd.ntmps33
  go_wp2_with (first | (go_at_call 48; refine (hkeys _ _).mono ?_; rintro e w1 ⟨rfl, rfl⟩) | (go_at_call 47; refine hsf.mono ?_; rintro e w2 ⟨rfl, hb2⟩))
  have hB2 : RowKit.Below w.heap.size w w2 := Below.trans (b := w.alloc (.cells #[.map (some b)] 73)) (by repeat' (first | with_reducible exact Below.refl _ _ | with_reducible exact Nat.le_refl _ | with_reducible assumption | with_reducible refine Go.below_growBy' ?_ ?_ _ | with_reducible refine Below.alloc ?_ ?_ _ | with_reducible refine Below.setCell ?_ ?_ _ | with_reducible refine Below.drew ?_ | with_reducible refine Go.le_alloc ?_ | with_reducible refine Go.le_growBy ?_ | with_reducible refine Go.le_setCell ?_ | with_reducible refine Go.le_drew ?_ | omega | (dsimp only; omega))) (hb2.mono (by repeat' (first | with_reducible exact Below.refl _ _ | with_reducible exact Nat.le_refl _ | with_reducible assumption | with_reducible refine Go.below_growBy' ?_ ?_ _ | with_reducible refine Below.alloc ?_ ?_ _ | with_reducible refine Below.setCell ?_ ?_ _ | with_reducible refine Below.drew ?_ | with_reducible refine Go.le_alloc ?_ | with_reducible refine Go.le_growBy ?_ | with_reducible refine Go.le_setCell ?_ | with_reducible refine Go.le_drew ?_ | omega | (dsimp only; omega))))
  refine wp_loop_rounds 1 ?_
  rw [rounds_succ]
  go_wp2_with fail
  go_ret
  exact ⟨rfl, hB2⟩

/-- ordered, whatever the map holds -/
theorem ordered_all (kind : Int) (b nn : Nat) (en : List (Spot × Int)) (w : World) (hM : MapIs w b nn en) (hnn : nn ≤ 4294967296) (hlen : en.length ≤ 8388608) :
    Calls Tryd.prog 33 #[.map (some b), .int .i64 kind] w fun e w' => ∃ v base, e = .returned v ∧ w.heap.size ≤ base ∧ w'.ownsRow base 45 4 v (dotsS kind en).length ((dotsS kind en).flatMap encD) ∧ RowKit.Below w.heap.size w w' := by
  by_cases hne : en = []
  · subst hne
    refine (ordered_none kind b nn w hM hnn).mono ?_
    rintro e w' ⟨rfl, hb⟩
    have hl : (dotsS kind []).length = 0 := dotsS_length _ _
    have h0 : dotsS kind [] = [] := List.eq_nil_of_length_eq_zero hl
    rw [h0]
    exact ⟨_, w'.heap.size, rfl, hb.size, ⟨by simp, .inl ⟨rfl, rfl⟩⟩, hb⟩
  · exact ordered_any kind b nn en w hM hnn hne hlen
end Go.Proofs.YtjfdbigkbgolmaaDoor
