/-
  The law's helper doing, and its examples (sanity).
-/
import Derived.Test.YtfcmmclialeepaaS4
namespace Go.Proofs.Ytfcmmclialeepaa
open Go.RowKit Go.Shelf
attribute [local go_sem] Oper.semAt_some

theorem doing_eq {d sq : Int} (fsq : fits sq) {a : Option Addr} {len cap : Nat} {evs : List Ev} {w : World} (hE : Evs w.heap.size w (.slice a len cap) evs) {n up down : Int} {ok : Bool} (hf : doingF sq evs = { n := n, up := up, down := down, ok := ok }) :
    Calls Try.prog 11 #[.agg #[.int .i64 d, .slice a len cap], .int .i64 sq] w fun e W' =>
      e = .returned (.tuple #[.int .i64 n, .agg #[.int .i64 up, .int .i64 down], .bool ok]) ∧ Below w.heap.size w W' := by
  have h := doing_any d sq fsq a len cap evs w hE
  rw [hf] at h
  exact h

set_option maxHeartbeats 1000000 in
theorem dlaw_any (d sq n up down : Int) (ok : Bool) (a : Option Addr) (len cap : Nat) (evs : List Ev) (w : World) (fsq : fits sq) (hE : Evs w.heap.size w (.slice a len cap) evs) (hf : doingF sq evs = { n := n, up := up, down := down, ok := ok })
    (hok : down = 0 ∧ ok = false ∨ ¬ down = 0 ∧ ok = true) :
    Calls Try.prog 16 #[.agg #[.int .i64 d, .slice a len cap], .int .i64 sq, .int .i64 n, .int .i64 up, .int .i64 down] w fun e W' => e = .returned (.bool true) ∧ Below w.heap.size w W' := by
  have hf' := Lib.hid hf
  clear hf
  rcases hok with ⟨rfl, rfl⟩ | ⟨h0, rfl⟩
  · go_enter Try.func16, Try.ntmps16
    go_wp2_with (go_at_call 11; refine (doing_eq fsq (hE.up (by repeat' (first | with_reducible exact Below.refl _ _ | with_reducible exact Nat.le_refl _ | with_reducible assumption | with_reducible refine Go.below_growBy' ?_ ?_ _ | with_reducible refine Below.alloc ?_ ?_ _ | with_reducible refine Below.setCell ?_ ?_ _ | with_reducible refine Below.drew ?_ | with_reducible refine Go.le_alloc ?_ | with_reducible refine Go.le_growBy ?_ | with_reducible refine Go.le_setCell ?_ | with_reducible refine Go.le_drew ?_ | omega | (dsimp only; omega))) (by repeat' (first | with_reducible exact Below.refl _ _ | with_reducible exact Nat.le_refl _ | with_reducible assumption | with_reducible refine Go.below_growBy' ?_ ?_ _ | with_reducible refine Below.alloc ?_ ?_ _ | with_reducible refine Below.setCell ?_ ?_ _ | with_reducible refine Below.drew ?_ | with_reducible refine Go.le_alloc ?_ | with_reducible refine Go.le_growBy ?_ | with_reducible refine Go.le_setCell ?_ | with_reducible refine Go.le_drew ?_ | omega | (dsimp only; omega)))) hf'.out).mono ?_; rintro e w' ⟨rfl, hb_⟩; obtain ⟨p, rfl⟩ := grow_of_below hb_; clear hb_)
    go_ret
    exact ⟨by first | rfl | simp, (by repeat' (first | with_reducible exact Below.refl _ _ | with_reducible exact Nat.le_refl _ | with_reducible assumption | with_reducible refine Go.below_growBy' ?_ ?_ _ | with_reducible refine Below.alloc ?_ ?_ _ | with_reducible refine Below.setCell ?_ ?_ _ | with_reducible refine Below.drew ?_ | with_reducible refine Go.le_alloc ?_ | with_reducible refine Go.le_growBy ?_ | with_reducible refine Go.le_setCell ?_ | with_reducible refine Go.le_drew ?_ | omega | (dsimp only; omega)))⟩
  · go_enter Try.func16, Try.ntmps16
    go_wp2_with (go_at_call 11; refine (doing_eq fsq (hE.up (by repeat' (first | with_reducible exact Below.refl _ _ | with_reducible exact Nat.le_refl _ | with_reducible assumption | with_reducible refine Go.below_growBy' ?_ ?_ _ | with_reducible refine Below.alloc ?_ ?_ _ | with_reducible refine Below.setCell ?_ ?_ _ | with_reducible refine Below.drew ?_ | with_reducible refine Go.le_alloc ?_ | with_reducible refine Go.le_growBy ?_ | with_reducible refine Go.le_setCell ?_ | with_reducible refine Go.le_drew ?_ | omega | (dsimp only; omega))) (by repeat' (first | with_reducible exact Below.refl _ _ | with_reducible exact Nat.le_refl _ | with_reducible assumption | with_reducible refine Go.below_growBy' ?_ ?_ _ | with_reducible refine Below.alloc ?_ ?_ _ | with_reducible refine Below.setCell ?_ ?_ _ | with_reducible refine Below.drew ?_ | with_reducible refine Go.le_alloc ?_ | with_reducible refine Go.le_growBy ?_ | with_reducible refine Go.le_setCell ?_ | with_reducible refine Go.le_drew ?_ | omega | (dsimp only; omega)))) hf'.out).mono ?_; rintro e w' ⟨rfl, hb_⟩; obtain ⟨p, rfl⟩ := grow_of_below hb_; clear hb_)
    go_ret
    exact ⟨by first | rfl | simp [h0], (by repeat' (first | with_reducible exact Below.refl _ _ | with_reducible exact Nat.le_refl _ | with_reducible assumption | with_reducible refine Go.below_growBy' ?_ ?_ _ | with_reducible refine Below.alloc ?_ ?_ _ | with_reducible refine Below.setCell ?_ ?_ _ | with_reducible refine Below.drew ?_ | with_reducible refine Go.le_alloc ?_ | with_reducible refine Go.le_growBy ?_ | with_reducible refine Go.le_setCell ?_ | with_reducible refine Go.le_drew ?_ | omega | (dsimp only; omega)))⟩

def evA (t : Int) : Ev := { kind := 0, when_ := t, id := 0, other := 0, n := 0 }
theorem check_eq {d : Int} {a : Option Addr} {len cap : Nat} {w : World} {r : Int} (h : ∃ evs, Evs w.heap.size w (.slice a len cap) evs ∧ checkH evs = r) :
    Calls Try.prog 12 #[.agg #[.int .i64 d, .slice a len cap]] w fun e W' => e = .returned (.int .i64 r) ∧ Below w.heap.size w W' := by
  obtain ⟨evs, hE, hr⟩ := h
  exact check_any d a len cap evs w hE r hr
theorem evs_lit3 {W : World} {b : Nat} {x0 x1 x2 : Int} (hb : b < W.heap.size) (h0 : W.cell? ⟨b, 0, none⟩ = some (.int .i64 0)) (h1 : W.cell? ⟨b, 1, none⟩ = some (.int .i64 x0)) (h2 : W.cell? ⟨b, 2, none⟩ = some (.int .i64 0)) (h3 : W.cell? ⟨b, 3, none⟩ = some (.int .i64 0)) (h4 : W.cell? ⟨b, 4, none⟩ = some (.int .i64 0)) (h5 : W.cell? ⟨b, 5, none⟩ = some (.int .i64 0)) (h6 : W.cell? ⟨b, 6, none⟩ = some (.int .i64 x1)) (h7 : W.cell? ⟨b, 7, none⟩ = some (.int .i64 0)) (h8 : W.cell? ⟨b, 8, none⟩ = some (.int .i64 0)) (h9 : W.cell? ⟨b, 9, none⟩ = some (.int .i64 0)) (h10 : W.cell? ⟨b, 10, none⟩ = some (.int .i64 0)) (h11 : W.cell? ⟨b, 11, none⟩ = some (.int .i64 x2)) (h12 : W.cell? ⟨b, 12, none⟩ = some (.int .i64 0)) (h13 : W.cell? ⟨b, 13, none⟩ = some (.int .i64 0)) (h14 : W.cell? ⟨b, 14, none⟩ = some (.int .i64 0)) :
    Evs W.heap.size W (.slice (some ⟨b, 0, none⟩) 3 3) [evA x0, evA x1, evA x2] :=
  .inr ⟨b, 0, 3, rfl, hb, by simp, fun j hj => by
    match j, hj with
    | 0, _ => exact ⟨h0, h1, h2, h3, h4⟩
    | 1, _ => exact ⟨h5, h6, h7, h8, h9⟩
    | 2, _ => exact ⟨h10, h11, h12, h13, h14⟩⟩
theorem evs_lit2 {W : World} {b : Nat} {x0 x1 : Int} (hb : b < W.heap.size) (h0 : W.cell? ⟨b, 0, none⟩ = some (.int .i64 0)) (h1 : W.cell? ⟨b, 1, none⟩ = some (.int .i64 x0)) (h2 : W.cell? ⟨b, 2, none⟩ = some (.int .i64 0)) (h3 : W.cell? ⟨b, 3, none⟩ = some (.int .i64 0)) (h4 : W.cell? ⟨b, 4, none⟩ = some (.int .i64 0)) (h5 : W.cell? ⟨b, 5, none⟩ = some (.int .i64 0)) (h6 : W.cell? ⟨b, 6, none⟩ = some (.int .i64 x1)) (h7 : W.cell? ⟨b, 7, none⟩ = some (.int .i64 0)) (h8 : W.cell? ⟨b, 8, none⟩ = some (.int .i64 0)) (h9 : W.cell? ⟨b, 9, none⟩ = some (.int .i64 0)) :
    Evs W.heap.size W (.slice (some ⟨b, 0, none⟩) 2 2) [evA x0, evA x1] :=
  .inr ⟨b, 0, 2, rfl, hb, by simp, fun j hj => by
    match j, hj with
    | 0, _ => exact ⟨h0, h1, h2, h3, h4⟩
    | 1, _ => exact ⟨h5, h6, h7, h8, h9⟩⟩
theorem evs_lit1 {W : World} {b : Nat} {x0 : Int} (hb : b < W.heap.size) (h0 : W.cell? ⟨b, 0, none⟩ = some (.int .i64 0)) (h1 : W.cell? ⟨b, 1, none⟩ = some (.int .i64 x0)) (h2 : W.cell? ⟨b, 2, none⟩ = some (.int .i64 0)) (h3 : W.cell? ⟨b, 3, none⟩ = some (.int .i64 0)) (h4 : W.cell? ⟨b, 4, none⟩ = some (.int .i64 0)) :
    Evs W.heap.size W (.slice (some ⟨b, 0, none⟩) 1 1) [evA x0] :=
  .inr ⟨b, 0, 1, rfl, hb, by simp, fun j hj => by
    match j, hj with
    | 0, _ => exact ⟨h0, h1, h2, h3, h4⟩⟩

set_option maxRecDepth 100000 in
set_option maxHeartbeats 1000000 in
theorem sanity_any (w : World) : Calls Try.prog 6 #[] w fun r w' => r = .returned (.bool true) ∧ Below w.heap.size w w' := by
  have n1 : (doneN 8 [evA 3, evA 5, evA 100] : Int) = 0 := by decide +kernel
  have n2 : (doneN 9 [evA 3, evA 5, evA 100] : Int) = 1 := by decide +kernel
  have n3 : (doneN 25 [evA 3, evA 5, evA 100] : Int) = 2 := by decide +kernel
  have n4 : (doneN 10000 [evA 3, evA 5, evA 100] : Int) = 3 := by decide +kernel
  have s1 : scaleN 24 = 4 := by decide +kernel
  have s2 : scaleN 25 = 5 := by decide +kernel
  have s3 : scaleN 2000000 = 1024 := by decide +kernel
  have b1 : bandN 1024 = 0 := by decide +kernel
  have b2 : bandN 1025 = 1 := by decide +kernel
  have b3 : bandN 262145 = 3 := by decide +kernel
  have c3 : checkH [evA 3, evA 5, evA 100] = 0 := by decide +kernel
  have c2 : checkH [evA 3, evA 3] = 21 := by decide +kernel
  have c1 : checkH [evA 0] = 3 := by decide +kernel
  have d0 : doingF 9 [evA 3, evA 5, evA 100] = { n := 0, up := 0, down := 0, ok := false } := by kernel_rfl
  have d1 : doingF 10 [evA 3, evA 5, evA 100] = { n := 1, up := 1, down := 16, ok := true } := by kernel_rfl
  have d2 : doingF 25 [evA 3, evA 5, evA 100] = { n := 0, up := 0, down := 0, ok := false } := by kernel_rfl
  have d3 : doingF 24 [evA 3, evA 5, evA 100] = { n := 1, up := 15, down := 16, ok := true } := by kernel_rfl
  have d4 : doingF 4 [evA 3, evA 5, evA 100] = { n := 0, up := 4, down := 9, ok := true } := by kernel_rfl
  have d5 : doingF 0 [evA 3, evA 5, evA 100] = { n := 0, up := 0, down := 0, ok := false } := by kernel_rfl
  have d6 : doingF 10000 [evA 3, evA 5, evA 100] = { n := 0, up := 0, down := 0, ok := false } := by kernel_rfl
  have hE3 := evs_lit3 (W := w.alloc (.cells #[.int .i64 0, .int .i64 3, .int .i64 0, .int .i64 0, .int .i64 0, .int .i64 0, .int .i64 5, .int .i64 0, .int .i64 0, .int .i64 0, .int .i64 0, .int .i64 100, .int .i64 0, .int .i64 0, .int .i64 0] 35)) (b := w.heap.size) (x0 := 3) (x1 := 5) (x2 := 100) (by simp) (by simp [go_sem]) (by simp [go_sem]) (by simp [go_sem]) (by simp [go_sem]) (by simp [go_sem]) (by simp [go_sem]) (by simp [go_sem]) (by simp [go_sem]) (by simp [go_sem]) (by simp [go_sem]) (by simp [go_sem]) (by simp [go_sem]) (by simp [go_sem]) (by simp [go_sem]) (by simp [go_sem])
  go_enter Try.func6, Try.ntmps6
  go_wp2_with (first | (go_at_call 13; refine (done_any _ _ _ _ _ [evA 3, evA 5, evA 100] _ (hE3.up (by repeat' (first | with_reducible exact Below.refl _ _ | with_reducible exact Nat.le_refl _ | with_reducible assumption | with_reducible refine Go.below_growBy' ?_ ?_ _ | with_reducible refine Below.alloc ?_ ?_ _ | with_reducible refine Below.setCell ?_ ?_ _ | with_reducible refine Below.drew ?_ | with_reducible refine Go.le_alloc ?_ | with_reducible refine Go.le_growBy ?_ | with_reducible refine Go.le_setCell ?_ | with_reducible refine Go.le_drew ?_ | omega | (dsimp only; omega))) (by repeat' (first | with_reducible exact Below.refl _ _ | with_reducible exact Nat.le_refl _ | with_reducible assumption | with_reducible refine Go.below_growBy' ?_ ?_ _ | with_reducible refine Below.alloc ?_ ?_ _ | with_reducible refine Below.setCell ?_ ?_ _ | with_reducible refine Below.drew ?_ | with_reducible refine Go.le_alloc ?_ | with_reducible refine Go.le_growBy ?_ | with_reducible refine Go.le_setCell ?_ | with_reducible refine Go.le_drew ?_ | omega | (dsimp only; omega))))).mono ?_; rintro e w' ⟨rfl, hb_⟩; obtain ⟨p, rfl⟩ := grow_of_below hb_; clear hb_) | (go_at_call 16; refine (dlaw_any _ _ _ _ _ _ _ _ _ [evA 3, evA 5, evA 100] _ (fits_of (by decide) (by decide)) (hE3.up (by repeat' (first | with_reducible exact Below.refl _ _ | with_reducible exact Nat.le_refl _ | with_reducible assumption | with_reducible refine Go.below_growBy' ?_ ?_ _ | with_reducible refine Below.alloc ?_ ?_ _ | with_reducible refine Below.setCell ?_ ?_ _ | with_reducible refine Below.drew ?_ | with_reducible refine Go.le_alloc ?_ | with_reducible refine Go.le_growBy ?_ | with_reducible refine Go.le_setCell ?_ | with_reducible refine Go.le_drew ?_ | omega | (dsimp only; omega))) (by repeat' (first | with_reducible exact Below.refl _ _ | with_reducible exact Nat.le_refl _ | with_reducible assumption | with_reducible refine Go.below_growBy' ?_ ?_ _ | with_reducible refine Below.alloc ?_ ?_ _ | with_reducible refine Below.setCell ?_ ?_ _ | with_reducible refine Below.drew ?_ | with_reducible refine Go.le_alloc ?_ | with_reducible refine Go.le_growBy ?_ | with_reducible refine Go.le_setCell ?_ | with_reducible refine Go.le_drew ?_ | omega | (dsimp only; omega)))) (by first | with_reducible exact d0 | with_reducible exact d1 | with_reducible exact d2 | with_reducible exact d3 | with_reducible exact d4 | with_reducible exact d5 | with_reducible exact d6) (by first | exact .inl ⟨rfl, rfl⟩ | exact .inr ⟨by decide, rfl⟩)).mono ?_; rintro e w' ⟨rfl, hb_⟩; obtain ⟨p, rfl⟩ := grow_of_below hb_; clear hb_) | (go_at_call 7; refine (scale_any _ _ (fits_of (by decide) (by decide))).mono ?_; rintro e w' ⟨rfl, hb_⟩; obtain ⟨p, rfl⟩ := grow_of_below hb_; clear hb_) | (go_at_call 8; refine (band_any _ _).mono ?_; rintro e w' ⟨rfl, hb_⟩; obtain ⟨p, rfl⟩ := grow_of_below hb_; clear hb_) | (go_at_call 9; refine (square_any 3 (-4) _ (by decide) (by decide) 25 (by decide)).mono ?_; rintro e w' ⟨rfl, hb_⟩; obtain ⟨p, rfl⟩ := grow_of_below hb_; clear hb_) | (go_at_call 12; refine (check_eq (by first | (with_reducible exact ⟨_, hE3.up (by repeat' (first | with_reducible exact Below.refl _ _ | with_reducible exact Nat.le_refl _ | with_reducible assumption | with_reducible refine Go.below_growBy' ?_ ?_ _ | with_reducible refine Below.alloc ?_ ?_ _ | with_reducible refine Below.setCell ?_ ?_ _ | with_reducible refine Below.drew ?_ | with_reducible refine Go.le_alloc ?_ | with_reducible refine Go.le_growBy ?_ | with_reducible refine Go.le_setCell ?_ | with_reducible refine Go.le_drew ?_ | omega | (dsimp only; omega))) (by repeat' (first | with_reducible exact Below.refl _ _ | with_reducible exact Nat.le_refl _ | with_reducible assumption | with_reducible refine Go.below_growBy' ?_ ?_ _ | with_reducible refine Below.alloc ?_ ?_ _ | with_reducible refine Below.setCell ?_ ?_ _ | with_reducible refine Below.drew ?_ | with_reducible refine Go.le_alloc ?_ | with_reducible refine Go.le_growBy ?_ | with_reducible refine Go.le_setCell ?_ | with_reducible refine Go.le_drew ?_ | omega | (dsimp only; omega))), c3⟩) | exact ⟨_, (evs_lit2 (by simp [go_sem]; try omega) (by simp [go_sem]) (by simp [go_sem]) (by simp [go_sem]) (by simp [go_sem]) (by simp [go_sem]) (by simp [go_sem]) (by simp [go_sem]) (by simp [go_sem]) (by simp [go_sem]) (by simp [go_sem])), c2⟩ | exact ⟨_, (evs_lit1 (by simp [go_sem]; try omega) (by simp [go_sem]) (by simp [go_sem]) (by simp [go_sem]) (by simp [go_sem]) (by simp [go_sem])), c1⟩)).mono ?_; rintro e w' ⟨rfl, hb_⟩; obtain ⟨p, rfl⟩ := grow_of_below hb_; clear hb_))
  go_ret
  exact ⟨rfl, (by repeat' (first | with_reducible exact Below.refl _ _ | with_reducible exact Nat.le_refl _ | with_reducible assumption | with_reducible refine Go.below_growBy' ?_ ?_ _ | with_reducible refine Below.alloc ?_ ?_ _ | with_reducible refine Below.setCell ?_ ?_ _ | with_reducible refine Below.drew ?_ | with_reducible refine Go.le_alloc ?_ | with_reducible refine Go.le_growBy ?_ | with_reducible refine Go.le_setCell ?_ | with_reducible refine Go.le_drew ?_ | omega | (dsimp only; omega)))⟩
end Go.Proofs.Ytfcmmclialeepaa
