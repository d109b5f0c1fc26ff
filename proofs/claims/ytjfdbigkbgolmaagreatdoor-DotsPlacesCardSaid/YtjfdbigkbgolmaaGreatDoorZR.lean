/-
  Chapter 29: the reference's put, walked.
-/
import Derived.Test.YtjfdbigkbgolmaaGreatDoorZj
import Derived.Test.YtjfdbigkbgolmaaGreatDoorZi
import Derived.Test.YtjfdbigkbgolmaaGreatDoorZh
import Derived.Deep.AppendLies
import Derived.Deep.RegionLaw
import Derived.Deep.DrawnRows
import Derived.Deep.Onto
namespace Go.Proofs.YtjfdbigkbgolmaaGreatDoor
set_option linter.unusedVariables false
set_option linter.unusedSimpArgs false
open Go.RowKit Go.Shelf Go.Deep
attribute [local go_sem] Oper.semAt_some
attribute [local go_sem ↓] Go.wp_at_zero Go.wp_at_succ

theorem cells4 {W : World} {B : Nat} {a b c d : Int} {t : TypeId} (h : Blk W B #[.int .i64 a, .int .i64 b, .int .i64 c, .int .i64 d] t) : W.cell? ⟨B, 0, none⟩ = some (.int .i64 a) ∧ W.cell? ⟨B, 1, none⟩ = some (.int .i64 b) ∧ W.cell? ⟨B, 2, none⟩ = some (.int .i64 c) ∧ W.cell? ⟨B, 3, none⟩ = some (.int .i64 d) :=
  ⟨h.cell 0, h.cell 1, h.cell 2, h.cell 3⟩
theorem ownsRow_empty {X : World} {Z base : Nat} (h : Blk X Z #[] 59) (hb : base ≤ Z) : X.ownsRow base 59 4 (.slice (some ⟨Z, 0, none⟩) 0 0) 0 [] :=
  ⟨rfl, .inr ⟨Z, 0, #[], rfl, hb, h, Nat.le_refl _, Nat.zero_le _, rfl, rfl⟩⟩
theorem Dts.fits {n : Nat} {W : World} {sv : Value} {l : List Dt} (h : Dts n W sv l) : ∀ d ∈ l, Go.Proofs.YtjfdbigkbgolmaaGreatDoor.fits d.x ∧ Go.Proofs.YtjfdbigkbgolmaaGreatDoor.fits d.y := by
  rcases h with ⟨-, rfl⟩ | ⟨b, off, cap, -, -, -, hf, -⟩
  · simp
  · exact hf
/-- the first k dots come before x -/
structure Lead (l : List Dt) (x : Dt) (k : Nat) : Prop where
  le : k ≤ l.length
  lt : ∀ j, (h : j < k) → ltS ((l[j]'(Nat.lt_of_lt_of_le h le)).x, (l[j]'(Nat.lt_of_lt_of_le h le)).y) (x.x, x.y) = true
theorem Lead.zero (l : List Dt) (x : Dt) : Lead l x 0 := ⟨Nat.zero_le _, fun j h => absurd h (by omega)⟩
theorem Lead.succ {l : List Dt} {x : Dt} {k : Nat} (h : Lead l x k) (hk : k < l.length) (hlt : ltS (l[k].x, l[k].y) (x.x, x.y) = true) : Lead l x (k + 1) :=
  ⟨hk, fun j hj => by
    by_cases he : j = k
    · subst he; exact hlt
    · exact h.lt j (by omega)⟩
theorem pnewsD {X : World} {P : Nat} {x y k i : Int} (h : Blk X P #[.int .i64 x, .int .i64 y, .int .i64 k, .int .i64 i] 59) : ∀ j u, (encD ⟨x, y, k, i⟩)[j]? = some u → X.cell? ((⟨P, 0, none⟩ : Addr).add j) = some u := fun j u hj => by
  rw [Go.WideShapes.add_plain, Nat.zero_add]
  match j, hj with
  | 0, hj => exact (h.cell 0).trans hj
  | 1, hj => exact (h.cell 1).trans hj
  | 2, hj => exact (h.cell 2).trans hj
  | 3, hj => exact (h.cell 3).trans hj
  | j + 4, hj => simp at hj

/-- append of nothing -/
theorem step_append_nil {ops : Array Oper} {o : Oper} {a : Act} {w : World} {K : Act → World → Prop} {Q : Exit → Act → World → Prop} {E : Prop} (hgd : o.guard = none) (s x : Operand)
    (ho : o.op = .call { callee := .builtin .append, args := #[s, x], argTypes := #[42, 42] })
    (b n cap : Nat) (hs : a.eval s = .slice (some ⟨b, 0, none⟩) n cap) (hx : a.eval x = .slice none 0 0) (hn : n ≤ cap)
    (h : K (a.put o.dst (.slice (some ⟨b, 0, none⟩) n cap)) w) :
    if Region.wanted o (yielded ops a.tmps) = true then Oper.wp Tryz.prog o a w K Q else E := by
  have hw : Region.wanted o (yielded ops a.tmps) = true := by simp [Region.wanted, hgd]
  rw [if_pos hw]
  obtain ⟨i0, hi0, hz0, hz1, hz2⟩ := info_parts dotInfo
  have hr := run_append_room_src (P := Tryz.prog) w 42 42 o.type 59 i0 Tryz.underlying42 hi0 b 0 n cap (.slice none 0 0) 0 [] (Src.ofNil w Tryz.underlying42 0) (by omega) (by simp) (by simp)
  unfold Oper.wp execOp
  simp only [ho, resolve, invoke, builtin, Sem.run_bind, Sem.run_pure, Result.andThen_ok, List.map_toArray, List.map_cons, List.map_nil, hs, hx, hr]
  exact h

theorem row_cap {W : World} {base g n cap : Nat} {xs : List Value} (h : W.ownsRow base 59 4 (.slice (some ⟨g, 0, none⟩) n cap) n xs) : n ≤ cap := by
  rcases h.2 with ⟨h, -⟩ | ⟨g', c, cur, h, -, -, hc, -⟩
  · cases h
  · simp only [Value.slice.injEq] at h
    obtain ⟨-, -, rfl⟩ := h
    exact hc
/-- what put leaves, when a list is made anew -/
theorem put_end {W wr w8 : World} {base : Nat} {v v8 : Value} {l l8 : List Dt} (hb : base ≤ W.heap.size) (hB : Below W.heap.size W wr) (h8 : w8.ownsRow wr.heap.size 59 4 v8 l8.length (l8.flatMap encD)) (hB8 : Below wr.heap.size wr w8) (he : l = l8) :
    ∃ v', (Ending.returned v8 : Ending) = .returned v' ∧ w8.ownsRow base 59 4 v' l.length (l.flatMap encD) ∧ W.grownBy w8 v.ownBlock := by
  subst he
  refine ⟨v8, rfl, h8.mono (Nat.le_trans hb hB.size), grownBy_any (grownBy_of_below (hB.trans (hB8.mono hB.size))) _⟩
theorem row_set {W : World} {base g cap : Nat} {l : List Dt} (h : W.ownsRow base 59 4 (.slice (some ⟨g, 0, none⟩) l.length cap) l.length (l.flatMap encD)) (k : Nat) (hk : k < l.length) (id : Int) :
    (W.setCell ⟨g, k * 4 + 3, none⟩ (.int .i64 id)).ownsRow base 59 4 (.slice (some ⟨g, 0, none⟩) l.length cap) (l.set k ⟨l[k].x, l[k].y, l[k].k, id⟩).length ((l.set k ⟨l[k].x, l[k].y, l[k].k, id⟩).flatMap encD) := by
  obtain ⟨h1, h2⟩ := h
  rcases h2 with ⟨h2, -⟩ | ⟨g', cap', cur, he, hg, hb, hc, hm, hs, ht⟩
  · cases h2
  · simp only [Value.slice.injEq, Option.some.injEq, Addr.mk.injEq, true_and, and_true] at he
    obtain ⟨rfl, rfl⟩ := he
    have hb2 := Blk.set (B := g) (c := cur) (t := 59) hb (k * 4 + 3) (.int .i64 id)
    rw [List.length_set]
    refine ⟨by rw [flatD_length, List.length_set], .inr ⟨g, cap, _, rfl, hg, hb2, hc, hm, by simpa using hs, ?_⟩⟩
    rw [← flat_set l k id hk, ← ht, Array.toList_setIfInBounds, List.take_set]
/-- what put leaves when the dot is there with a greater Id -/
theorem put_same {W wr : World} {base g cap : Nat} {l : List Dt} (hB : Below W.heap.size W wr) (hrow : W.ownsRow base 59 4 (.slice (some ⟨g, 0, none⟩) l.length cap) l.length (l.flatMap encD)) (k : Nat) (hk : k < l.length) (id : Int) (p : Growth) {l8 : List Dt} (he : l8 = l.set k ⟨l[k].x, l[k].y, l[k].k, id⟩) :
    ∃ v', (Ending.returned (.slice (some ⟨g, 0, none⟩) l.length cap) : Ending) = .returned v' ∧ ((wr.setCell ⟨g, k * 4 + 3, none⟩ (.int .i64 id)).growBy p).ownsRow base 59 4 v' l8.length (l8.flatMap encD) ∧ W.grownBy ((wr.setCell ⟨g, k * 4 + 3, none⟩ (.int .i64 id)).growBy p) (Value.slice (some ⟨g, 0, none⟩) l.length cap).ownBlock := by
  subst he
  have h1 := hrow.kept (grownBy_of_below hB) (.inr (by simp [Value.ownBlock]))
  have h2 := row_set h1 k hk id
  refine ⟨_, rfl, h2.kept (grownBy_growBy _ p) (.inr (by simp [Value.ownBlock])), ?_⟩
  refine ⟨hB.os, hB.tape, hB.output, by have := hB.size; simp; omega, fun j hj hne => ?_⟩
  rw [World.heap_growBy _ _ (by have := hB.size; simp; omega), Below.heap_setCell _ _ _ _ (fun e => hne (by simp [Value.ownBlock, e]))]
  exact hB.block j hj
theorem put_keep {W wr : World} {base : Nat} {v : Value} {l l8 : List Dt} (hB : Below W.heap.size W wr) (hrow : W.ownsRow base 59 4 v l.length (l.flatMap encD)) (he : l8 = l) :
    ∃ v', (Ending.returned v : Ending) = .returned v' ∧ wr.ownsRow base 59 4 v' l8.length (l8.flatMap encD) ∧ W.grownBy wr v.ownBlock := by
  subst he
  exact ⟨v, rfl, hrow.kept (grownBy_of_below hB) (by cases v.ownBlock <;> simp), grownBy_any (grownBy_of_below hB) _⟩



set_option maxRecDepth 100000 in
set_option maxHeartbeats 8000000 in
theorem put_any (v : Value) (l : List Dt) (x y kd id : Int) (base : Nat) (w : World) (hrow : w.ownsRow base 59 4 v l.length (l.flatMap encD)) (hb : base ≤ w.heap.size) (hl : l.length ≤ 100000) (hf : ∀ d ∈ l, fits d.x ∧ fits d.y) :
    Calls Tryz.prog 41 #[v, .agg #[.int .i64 x, .int .i64 y, .int .i64 kd, .int .i64 id]] w fun e w' => ∃ v', e = .returned v' ∧ w'.ownsRow base 59 4 v' (rput l ⟨x, y, kd, id⟩).length ((rput l ⟨x, y, kd, id⟩).flatMap encD) ∧ w.grownBy w' v.ownBlock := by
  have hDt := dts_of_row hrow (by omega) hf
  obtain ⟨i0, hi0, hz0, hz1, hz2⟩ := info_parts dotInfo
  have kX0 := Blk.new w #[.int .i64 x, .int .i64 y, .int .i64 kd, .int .i64 id] 59
  have hB0 : Below w.heap.size w (w.alloc (.cells #[.int .i64 x, .int .i64 y, .int .i64 kd, .int .i64 id] 59)) := (by repeat' (first | with_reducible exact Below.refl _ _ | with_reducible exact Nat.le_refl _ | with_reducible assumption | with_reducible refine Go.below_growBy' ?_ ?_ _ | with_reducible refine Below.alloc ?_ ?_ _ | with_reducible refine Below.setCell ?_ ?_ _ | with_reducible refine Below.drew ?_ | with_reducible refine Go.le_alloc ?_ | with_reducible refine Go.le_growBy ?_ | with_reducible refine Go.le_setCell ?_ | with_reducible refine Go.le_drew ?_ | omega | (dsimp only; omega)))
  rcases hrow.2 with ⟨rfl, h0⟩ | ⟨g, cap, cur, rfl, hg, hblk, hcap, hcm, hcs, hct⟩
  · obtain rfl : l = [] := List.eq_nil_of_length_eq_zero h0
    have hput := Lib.hid (show rput [] ⟨x, y, kd, id⟩ = [(⟨x, y, kd, id⟩ : Dt)] from rfl)
    go_enter Tryz.func41, Tryz.ntmps41
    go_wp2_with fail
    refine wp_loop_rounds 1 ?_
    rw [rounds_succ]
    go_wp2_with fail
    first | with_reducible refine wp_region_grow2 (by kernel_rfl) (by kernel_rfl) ?_ | with_reducible refine wp_region_grow (by kernel_rfl) (by kernel_rfl) ?_
    repeat (first | go_big_quiet_step (fail) | quiet_step (fail))
    refine wpQuiet_nil ?_
    intro _ hw_
    obtain ⟨p, hw_⟩ := hw_
    subst hw_
    go_wp2_with fail
    first | with_reducible refine wp_region_grow2 (by kernel_rfl) (by kernel_rfl) ?_ | with_reducible refine wp_region_grow (by kernel_rfl) (by kernel_rfl) ?_
    repeat (first | go_big_quiet_step (fail) | quiet_step (fail))
    refine wpQuiet_nil ?_
    intro _ hw_
    obtain ⟨p, hw_⟩ := hw_
    subst hw_
    go_wp2_with fail
    refine wp_world (fun wy hwy => ?_)
    have hB : Below w.heap.size w wy := by
      rw [hwy]
      exact (by repeat' (first | with_reducible exact Below.refl _ _ | with_reducible exact Nat.le_refl _ | with_reducible assumption | with_reducible refine Go.below_growBy' ?_ ?_ _ | with_reducible refine Below.alloc ?_ ?_ _ | with_reducible refine Below.setCell ?_ ?_ _ | with_reducible refine Below.drew ?_ | with_reducible refine Go.le_alloc ?_ | with_reducible refine Go.le_growBy ?_ | with_reducible refine Go.le_setCell ?_ | with_reducible refine Go.le_drew ?_ | omega | (dsimp only; omega)))
    have kX : Blk wy w.heap.size #[.int .i64 x, .int .i64 y, .int .i64 kd, .int .i64 id] 59 := by
      rw [hwy]
      exact kX0.grow _
    clear hwy kX0 hB0
    have lX := kX.lt
    obtain ⟨X, hX⟩ : ∃ b, w.heap.size = b := ⟨_, rfl⟩
    rw [hX] at kX lX ⊢
    replace hX := Lib.hid hX
    obtain ⟨x0, x1, x2, x3⟩ := cells4 kX
    go_region_law
      (first
        | (refine step_append_fresh (by rfl) _ _ (by rfl) wy.heap.size _ (by rfl) (ownsRow_empty ?_ ?_) (.slice none 0 0) [] (by rfl) (.inl ⟨rfl, rfl⟩) (by simp) (by repeat' (first | with_reducible exact Below.refl _ _ | with_reducible exact Nat.le_refl _ | with_reducible assumption | with_reducible refine Go.below_growBy' ?_ ?_ _ | with_reducible refine Below.alloc ?_ ?_ _ | with_reducible refine Below.setCell ?_ ?_ _ | with_reducible refine Below.drew ?_ | with_reducible refine Go.le_alloc ?_ | with_reducible refine Go.le_growBy ?_ | with_reducible refine Go.le_setCell ?_ | with_reducible refine Go.le_drew ?_ | omega | (dsimp only; omega))) ?_; (first | exact Blk.new _ _ _ | (have h := (Blk.new (wy.alloc (.cells #[.int .i64 x, .int .i64 y, .int .i64 kd, .int .i64 id] 59)) #[] 59).drew; rw [World.size_alloc] at h; exact h) | exact ((Blk.new wy #[] 59).alloc _).drew); (first | exact Nat.le_refl _ | (simp; done) | omega); intro v6 w6 hrow6 hb6; have hb46 : Below wy.heap.size wy w6 := Below.trans (by repeat' (first | with_reducible exact Below.refl _ _ | with_reducible exact Nat.le_refl _ | with_reducible assumption | with_reducible refine Go.below_growBy' ?_ ?_ _ | with_reducible refine Below.alloc ?_ ?_ _ | with_reducible refine Below.setCell ?_ ?_ _ | with_reducible refine Below.drew ?_ | with_reducible refine Go.le_alloc ?_ | with_reducible refine Go.le_growBy ?_ | with_reducible refine Go.le_setCell ?_ | with_reducible refine Go.le_drew ?_ | omega | (dsimp only; omega))) (hb6.mono (by repeat' (first | with_reducible exact Below.refl _ _ | with_reducible exact Nat.le_refl _ | with_reducible assumption | with_reducible refine Go.below_growBy' ?_ ?_ _ | with_reducible refine Below.alloc ?_ ?_ _ | with_reducible refine Below.setCell ?_ ?_ _ | with_reducible refine Below.drew ?_ | with_reducible refine Go.le_alloc ?_ | with_reducible refine Go.le_growBy ?_ | with_reducible refine Go.le_setCell ?_ | with_reducible refine Go.le_drew ?_ | omega | (dsimp only; omega)))); have hs46 := hb46.size; obtain ⟨d0, d1, d2, d3⟩ := cells4 (kX.below hb46 lX); replace hrow6 : w6.ownsRow wy.heap.size 59 4 v6 0 [] := hrow6)
        | ((first | (refine step_append_lies _ (by rfl) _ _ _ (by rfl) wy.heap.size 59 i0 _ 4 32 Tryz.underlying42 hi0 hz0 hz1 hz2 rfl (by omega) v6 0 [] (by rfl) (hrow6.alloc _) ⟨w6.heap.size, 0, none⟩ 1 1 (encD ⟨x, y, kd, id⟩) (by rfl) (by rfl) (pnewsD (Blk.new _ _ _)) (by simp [Value.oneCell']) (by omega) (by unfold maxLen; omega) (by omega) (by repeat' (first | with_reducible exact Below.refl _ _ | with_reducible exact Nat.le_refl _ | with_reducible assumption | with_reducible refine Go.below_growBy' ?_ ?_ _ | with_reducible refine Below.alloc ?_ ?_ _ | with_reducible refine Below.setCell ?_ ?_ _ | with_reducible refine Below.drew ?_ | with_reducible refine Go.le_alloc ?_ | with_reducible refine Go.le_growBy ?_ | with_reducible refine Go.le_setCell ?_ | with_reducible refine Go.le_drew ?_ | omega | (dsimp only; omega))) _ rfl ?_) | (refine step_append_lies _ (by rfl) _ _ _ (by rfl) wy.heap.size 59 i0 _ 4 32 Tryz.underlying42 hi0 hz0 hz1 hz2 rfl (by omega) v6 0 [] (by rfl) hrow6 ⟨wy.heap.size, 0, none⟩ 1 1 (encD ⟨x, y, kd, id⟩) (by rfl) (by rfl) (pnewsD (((Blk.new wy #[.int .i64 x, .int .i64 y, .int .i64 kd, .int .i64 id] 59).alloc (.cells #[] 59)).drew.below hb6 (by simp; try omega))) (by simp [Value.oneCell']) (by omega) (by unfold maxLen; omega) (by omega) (by repeat' (first | with_reducible exact Below.refl _ _ | with_reducible exact Nat.le_refl _ | with_reducible assumption | with_reducible refine Go.below_growBy' ?_ ?_ _ | with_reducible refine Below.alloc ?_ ?_ _ | with_reducible refine Below.setCell ?_ ?_ _ | with_reducible refine Below.drew ?_ | with_reducible refine Go.le_alloc ?_ | with_reducible refine Go.le_growBy ?_ | with_reducible refine Go.le_setCell ?_ | with_reducible refine Go.le_drew ?_ | omega | (dsimp only; omega))) _ rfl ?_) | (refine step_append_lies _ (by rfl) _ _ _ (by rfl) wy.heap.size 59 i0 _ 4 32 Tryz.underlying42 hi0 hz0 hz1 hz2 rfl (by omega) v6 0 [] (by rfl) hrow6 ⟨wy.heap.size + 1, 0, none⟩ 1 1 (encD ⟨x, y, kd, id⟩) (by rfl) (by rfl) (pnewsD (by have h := (Blk.new (wy.alloc (.cells #[] 59)) #[.int .i64 x, .int .i64 y, .int .i64 kd, .int .i64 id] 59).drew.below hb6 (by simp; try omega); simpa using h)) (by simp [Value.oneCell']) (by omega) (by unfold maxLen; omega) (by omega) (by repeat' (first | with_reducible exact Below.refl _ _ | with_reducible exact Nat.le_refl _ | with_reducible assumption | with_reducible refine Go.below_growBy' ?_ ?_ _ | with_reducible refine Below.alloc ?_ ?_ _ | with_reducible refine Below.setCell ?_ ?_ _ | with_reducible refine Below.drew ?_ | with_reducible refine Go.le_alloc ?_ | with_reducible refine Go.le_growBy ?_ | with_reducible refine Go.le_setCell ?_ | with_reducible refine Go.le_drew ?_ | omega | (dsimp only; omega))) _ rfl ?_)); intro g7 cap7 w7 hown7 hgrow7 hat7 hlt7; have hb47 : Below wy.heap.size wy w7 := (by first | exact hb46.grown hgrow7 hb46.size (fun r e => (hrow6.lt r e).1) | exact (hb46.alloc hb46.size _).grown hgrow7 (Nat.le_trans hb46.size (by simp)) (fun r e => (hrow6.lt r e).1)); have hc7 : 1 ≤ cap7 := row_cap hown7)
        | (refine step_append_nil (by rfl) _ _ (by rfl) g7 1 cap7 (by rfl) (by rfl) hc7 ?_)
        | fail)
    all_goals
      try go_simp
      go_wp2_with fail
      go_ret
      exact put_end (l8 := [⟨x, y, kd, id⟩]) hb hB (by simpa using hown7) hb47 hput.out
  · have hgl : g < w.heap.size := (Array.getElem?_eq_some_iff.1 hblk).1
    go_enter Tryz.func41, Tryz.ntmps41
    go_wp2_with fail
    obtain ⟨W1, hW1⟩ : ∃ W, w.alloc (.cells #[.int .i64 x, .int .i64 y, .int .i64 kd, .int .i64 id] 59) = W := ⟨_, rfl⟩
    rw [hW1] at kX0 hB0 ⊢
    clear hW1
    have lX0 := kX0.lt
    obtain ⟨X, hX⟩ : ∃ b, w.heap.size = b := ⟨_, rfl⟩
    rw [hX] at kX0 lX0 ⊢
    replace hX := Lib.hid hX
    go_loopw [5] (fun i wr => ∃ k : Nat, i = .int .i64 (k : Nat) ∧ Lead l ⟨x, y, kd, id⟩ k ∧ Below W1.heap.size W1 wr) (fun i _ => l.length - (intOf i).toNat)
    case atStart => exact ⟨0, rfl, Lead.zero _ _, Below.refl _ _⟩
    case round =>
      obtain ⟨k, rfl, hLd, hB1⟩ := hrel
      have hk := hLd.le
      have hB : Below w.heap.size w wr := hB0.trans (hB1.mono hB0.size)
      have hsz := hB1.size
      have kX := kX0.below hB1 lX0
      have lX : X < wr.heap.size := by omega
      obtain ⟨x0, x1, x2, x3⟩ := cells4 kX
      have hDe := hDt.up hB hB.size
      by_cases hlt : k < l.length
      · have hltI : (k : Int) < (l.length : Int) := by omega
        obtain ⟨-, a', cap', he', hrows⟩ := hDe.open_
        obtain ⟨b', off', hab, -, hr, -⟩ := hrows k hlt
        simp only [Value.slice.injEq, true_and] at he'
        obtain ⟨rfl, rfl⟩ := he'
        simp only [Option.some.injEq, Addr.mk.injEq, and_true] at hab
        obtain ⟨rfl, rfl⟩ := hab
        obtain ⟨c0, c1, c2, c3⟩ := hr
        rw [Nat.zero_add] at c0 c1 c2 c3
        have hsu := hLd.succ hlt
        have hin := fun h1 h2 => rput_in hlt hLd.lt h1 h2
        have hsame := fun h1 h2 => rput_same hlt hLd.lt h1 h2
        simp only at hsu hin hsame
        clear hrows
        rw [ltS_def] at hsu hin
        obtain ⟨d, hd⟩ : ∃ d, l[k] = d := ⟨_, rfl⟩
        rw [hd] at c0 c1 c2 c3 hsu hin hsame
        obtain ⟨dx, dy, dk, di⟩ := d
        replace hd := Lib.hid hd
        simp only at c0 c1 c2 c3 hsu hin hsame
        have hkc : ¬ cap = k := by omega
        have hkcI : (k : Int) ≤ (cap : Int) := by omega
        have hkl : (k : Int) ≤ (l.length : Int) := by omega
        have hk0 : 0 ≤ (k : Int) := by omega
        have hrelB : ∀ p, Below W1.heap.size W1 (wr.growBy p) := fun p => below_growBy' hB1 hsz p
        by_cases h1 : dy < y
        · replace hsu := Lib.hid (hsu (by simp [h1]))
          clear hin hsame
          go_wp2_with fail
          first | with_reducible refine wp_region_grow2 (by kernel_rfl) (by kernel_rfl) ?_ | with_reducible refine wp_region_grow (by kernel_rfl) (by kernel_rfl) ?_
          repeat (first | go_big_quiet_step (fail) | quiet_step (fail))
          refine wpQuiet_nil ?_
          intro _ hw_
          obtain ⟨p, hw_⟩ := hw_
          subst hw_
          go_wp2_with fail
          go_roundw
          case rel => exact ⟨k + 1, by go_num, hsu.out, hrelB _⟩
          case measure => simp [intOf]; omega
        · by_cases h2 : y = dy
          · subst h2
            by_cases h3 : dx < x
            · replace hsu := Lib.hid (hsu (by simp [h3]))
              clear hin hsame
              go_wp2_with fail
              first | with_reducible refine wp_region_grow2 (by kernel_rfl) (by kernel_rfl) ?_ | with_reducible refine wp_region_grow (by kernel_rfl) (by kernel_rfl) ?_
              repeat (first | go_big_quiet_step (fail) | quiet_step (fail))
              refine wpQuiet_nil ?_
              intro _ hw_
              obtain ⟨p, hw_⟩ := hw_
              subst hw_
              go_wp2_with fail
              go_roundw
              case rel => exact ⟨k + 1, by go_num, hsu.out, hrelB _⟩
              case measure => simp [intOf]; omega
            · by_cases h4 : x = dx
              · subst h4
                replace hsame := Lib.hid (hsame rfl rfl)
                clear hsu hin
                have hfz : wr.frozen? ⟨g, k * 4 + 3, none⟩ = false := Blk.frozen (B := g) (c := cur) (t := 59) ((hB.block g hgl).trans hblk) _
                by_cases h5 : id < di
                · go_wp2_with fail
                  first | with_reducible refine wp_region_grow2 (by kernel_rfl) (by kernel_rfl) ?_ | with_reducible refine wp_region_grow (by kernel_rfl) (by kernel_rfl) ?_
                  repeat (first | go_big_quiet_step (fail) | quiet_step (fail))
                  refine wpQuiet_nil ?_
                  intro _ hw_
                  obtain ⟨p, hw_⟩ := hw_
                  subst hw_
                  go_wp2_with fail
                  first | with_reducible refine wp_region_grow2 (by kernel_rfl) (by kernel_rfl) ?_ | with_reducible refine wp_region_grow (by kernel_rfl) (by kernel_rfl) ?_
                  repeat (first | go_big_quiet_step (fail) | quiet_step (fail))
                  refine wpQuiet_nil ?_
                  intro _ hw_
                  obtain ⟨p, hw_⟩ := hw_
                  subst hw_
                  go_wp2_with fail
                  first | with_reducible refine wp_region_grow2 (by kernel_rfl) (by kernel_rfl) ?_ | with_reducible refine wp_region_grow (by kernel_rfl) (by kernel_rfl) ?_
                  repeat (first | go_big_quiet_step (fail) | quiet_step (fail))
                  refine wpQuiet_nil ?_
                  intro _ hw_
                  obtain ⟨p, hw_⟩ := hw_
                  subst hw_
                  go_wp2_with fail
                  go_ret
                  exact put_same hB hrow k hlt id _ (by rw [hsame.out, if_pos h5]; rw [hd.out])
                · go_wp2_with fail
                  first | with_reducible refine wp_region_grow2 (by kernel_rfl) (by kernel_rfl) ?_ | with_reducible refine wp_region_grow (by kernel_rfl) (by kernel_rfl) ?_
                  repeat (first | go_big_quiet_step (fail) | quiet_step (fail))
                  refine wpQuiet_nil ?_
                  intro _ hw_
                  obtain ⟨p, hw_⟩ := hw_
                  subst hw_
                  go_wp2_with fail
                  first | with_reducible refine wp_region_grow2 (by kernel_rfl) (by kernel_rfl) ?_ | with_reducible refine wp_region_grow (by kernel_rfl) (by kernel_rfl) ?_
                  repeat (first | go_big_quiet_step (fail) | quiet_step (fail))
                  refine wpQuiet_nil ?_
                  intro _ hw_
                  obtain ⟨p, hw_⟩ := hw_
                  subst hw_
                  go_wp2_with fail
                  first | with_reducible refine wp_region_grow2 (by kernel_rfl) (by kernel_rfl) ?_ | with_reducible refine wp_region_grow (by kernel_rfl) (by kernel_rfl) ?_
                  repeat (first | go_big_quiet_step (fail) | quiet_step (fail))
                  refine wpQuiet_nil ?_
                  intro _ hw_
                  obtain ⟨p, hw_⟩ := hw_
                  subst hw_
                  go_wp2_with fail
                  go_ret
                  exact put_keep (below_growBy' hB hB.size _) hrow (by rw [hsame.out, if_neg (by omega)])
              · have h4b : (dx == x) = false := by simpa using fun e => h4 (Eq.symm e)
                have hput := Lib.hid (hin (by simp [h3]) (fun e => h4 e.1.symm))
                clear hsu hin hsame
                go_wp2_with fail
                first | with_reducible refine wp_region_grow2 (by kernel_rfl) (by kernel_rfl) ?_ | with_reducible refine wp_region_grow (by kernel_rfl) (by kernel_rfl) ?_
                repeat (first | go_big_quiet_step (fail) | quiet_step (fail))
                refine wpQuiet_nil ?_
                intro _ hw_
                obtain ⟨p, hw_⟩ := hw_
                subst hw_
                go_wp2_with fail
                first | with_reducible refine wp_region_grow2 (by kernel_rfl) (by kernel_rfl) ?_ | with_reducible refine wp_region_grow (by kernel_rfl) (by kernel_rfl) ?_
                repeat (first | go_big_quiet_step (fail) | quiet_step (fail))
                refine wpQuiet_nil ?_
                intro _ hw_
                obtain ⟨p, hw_⟩ := hw_
                subst hw_
                go_wp2_with fail
                refine wp_world (fun wy hwy => ?_)
                have hBy : Below wr.heap.size wr wy := by
                  rw [hwy]
                  exact (by repeat' (first | with_reducible exact Below.refl _ _ | with_reducible exact Nat.le_refl _ | with_reducible assumption | with_reducible refine Go.below_growBy' ?_ ?_ _ | with_reducible refine Below.alloc ?_ ?_ _ | with_reducible refine Below.setCell ?_ ?_ _ | with_reducible refine Below.drew ?_ | with_reducible refine Go.le_alloc ?_ | with_reducible refine Go.le_growBy ?_ | with_reducible refine Go.le_setCell ?_ | with_reducible refine Go.le_drew ?_ | omega | (dsimp only; omega)))
                clear hwy
                replace hB := hB.trans (hBy.mono hB.size)
                replace kX := kX.below hBy lX
                replace lX := kX.lt
                replace hDe := hDe.up hBy hBy.size
                have hTk := hDe.take k cap hk
                obtain ⟨lk, hlk⟩ : ∃ lk : List Dt, lk = l.take k ++ [⟨x, y, kd, id⟩] := ⟨_, rfl⟩
                have hlkl := Lib.hid (show lk.length = (l.take k).length + 1 by rw [hlk, List.length_append]; rfl)
                have hlkf := Lib.hid (show lk.flatMap encD = (l.take k).flatMap encD ++ encD ⟨x, y, kd, id⟩ by rw [hlk, List.flatMap_append]; simp)
                have hlkn : lk.length ≤ 100001 := by rw [hlkl.out, List.length_take]; omega
                replace hlk := Lib.hid hlk
                clear x0 x1 x2 x3 hB1
                obtain ⟨x0, x1, x2, x3⟩ := cells4 kX
                go_region_law
                  (first
                    | (refine step_append_fresh (by rfl) _ _ (by rfl) wy.heap.size _ (by rfl) (ownsRow_empty ?_ ?_) _ (l.take k) (by rfl) (hTk.up (by repeat' (first | with_reducible exact Below.refl _ _ | with_reducible exact Nat.le_refl _ | with_reducible assumption | with_reducible refine Go.below_growBy' ?_ ?_ _ | with_reducible refine Below.alloc ?_ ?_ _ | with_reducible refine Below.setCell ?_ ?_ _ | with_reducible refine Below.drew ?_ | with_reducible refine Go.le_alloc ?_ | with_reducible refine Go.le_growBy ?_ | with_reducible refine Go.le_setCell ?_ | with_reducible refine Go.le_drew ?_ | omega | (dsimp only; omega))) (by repeat' (first | with_reducible exact Below.refl _ _ | with_reducible exact Nat.le_refl _ | with_reducible assumption | with_reducible refine Go.below_growBy' ?_ ?_ _ | with_reducible refine Below.alloc ?_ ?_ _ | with_reducible refine Below.setCell ?_ ?_ _ | with_reducible refine Below.drew ?_ | with_reducible refine Go.le_alloc ?_ | with_reducible refine Go.le_growBy ?_ | with_reducible refine Go.le_setCell ?_ | with_reducible refine Go.le_drew ?_ | omega | (dsimp only; omega)))) (by rw [List.length_take]; omega) (by repeat' (first | with_reducible exact Below.refl _ _ | with_reducible exact Nat.le_refl _ | with_reducible assumption | with_reducible refine Go.below_growBy' ?_ ?_ _ | with_reducible refine Below.alloc ?_ ?_ _ | with_reducible refine Below.setCell ?_ ?_ _ | with_reducible refine Below.drew ?_ | with_reducible refine Go.le_alloc ?_ | with_reducible refine Go.le_growBy ?_ | with_reducible refine Go.le_setCell ?_ | with_reducible refine Go.le_drew ?_ | omega | (dsimp only; omega))) ?_; (first | exact Blk.new _ _ _ | (have h := (Blk.new (wy.alloc (.cells #[.int .i64 x, .int .i64 y, .int .i64 kd, .int .i64 id] 59)) #[] 59).drew; rw [World.size_alloc] at h; exact h) | exact ((Blk.new wy #[] 59).alloc _).drew); (first | exact Nat.le_refl _ | (simp; done) | omega); intro v6 w6 hrow6 hb6; have hb46 : Below wy.heap.size wy w6 := Below.trans (by repeat' (first | with_reducible exact Below.refl _ _ | with_reducible exact Nat.le_refl _ | with_reducible assumption | with_reducible refine Go.below_growBy' ?_ ?_ _ | with_reducible refine Below.alloc ?_ ?_ _ | with_reducible refine Below.setCell ?_ ?_ _ | with_reducible refine Below.drew ?_ | with_reducible refine Go.le_alloc ?_ | with_reducible refine Go.le_growBy ?_ | with_reducible refine Go.le_setCell ?_ | with_reducible refine Go.le_drew ?_ | omega | (dsimp only; omega))) (hb6.mono (by repeat' (first | with_reducible exact Below.refl _ _ | with_reducible exact Nat.le_refl _ | with_reducible assumption | with_reducible refine Go.below_growBy' ?_ ?_ _ | with_reducible refine Below.alloc ?_ ?_ _ | with_reducible refine Below.setCell ?_ ?_ _ | with_reducible refine Below.drew ?_ | with_reducible refine Go.le_alloc ?_ | with_reducible refine Go.le_growBy ?_ | with_reducible refine Go.le_setCell ?_ | with_reducible refine Go.le_drew ?_ | omega | (dsimp only; omega)))); have hs46 := hb46.size; obtain ⟨d0, d1, d2, d3⟩ := cells4 (kX.below hb46 lX))
                    | ((first | (refine step_append_lies _ (by rfl) _ _ _ (by rfl) wy.heap.size 59 i0 _ 4 32 Tryz.underlying42 hi0 hz0 hz1 hz2 rfl (by omega) v6 (l.take k).length _ (by rfl) (hrow6.alloc _) ⟨w6.heap.size, 0, none⟩ 1 1 (encD ⟨x, y, kd, id⟩) (by rfl) (by rfl) (pnewsD (Blk.new _ _ _)) (by simp [Value.oneCell']) (by omega) (by unfold maxLen; rw [List.length_take]; omega) (by rw [List.length_take]; omega) (by repeat' (first | with_reducible exact Below.refl _ _ | with_reducible exact Nat.le_refl _ | with_reducible assumption | with_reducible refine Go.below_growBy' ?_ ?_ _ | with_reducible refine Below.alloc ?_ ?_ _ | with_reducible refine Below.setCell ?_ ?_ _ | with_reducible refine Below.drew ?_ | with_reducible refine Go.le_alloc ?_ | with_reducible refine Go.le_growBy ?_ | with_reducible refine Go.le_setCell ?_ | with_reducible refine Go.le_drew ?_ | omega | (dsimp only; omega))) _ rfl ?_) | (refine step_append_lies _ (by rfl) _ _ _ (by rfl) wy.heap.size 59 i0 _ 4 32 Tryz.underlying42 hi0 hz0 hz1 hz2 rfl (by omega) v6 (l.take k).length _ (by rfl) hrow6 ⟨wy.heap.size, 0, none⟩ 1 1 (encD ⟨x, y, kd, id⟩) (by rfl) (by rfl) (pnewsD (((Blk.new wy #[.int .i64 x, .int .i64 y, .int .i64 kd, .int .i64 id] 59).alloc (.cells #[] 59)).drew.below hb6 (by simp; try omega))) (by simp [Value.oneCell']) (by omega) (by unfold maxLen; rw [List.length_take]; omega) (by rw [List.length_take]; omega) (by repeat' (first | with_reducible exact Below.refl _ _ | with_reducible exact Nat.le_refl _ | with_reducible assumption | with_reducible refine Go.below_growBy' ?_ ?_ _ | with_reducible refine Below.alloc ?_ ?_ _ | with_reducible refine Below.setCell ?_ ?_ _ | with_reducible refine Below.drew ?_ | with_reducible refine Go.le_alloc ?_ | with_reducible refine Go.le_growBy ?_ | with_reducible refine Go.le_setCell ?_ | with_reducible refine Go.le_drew ?_ | omega | (dsimp only; omega))) _ rfl ?_) | (refine step_append_lies _ (by rfl) _ _ _ (by rfl) wy.heap.size 59 i0 _ 4 32 Tryz.underlying42 hi0 hz0 hz1 hz2 rfl (by omega) v6 (l.take k).length _ (by rfl) hrow6 ⟨wy.heap.size + 1, 0, none⟩ 1 1 (encD ⟨x, y, kd, id⟩) (by rfl) (by rfl) (pnewsD (by have h := (Blk.new (wy.alloc (.cells #[] 59)) #[.int .i64 x, .int .i64 y, .int .i64 kd, .int .i64 id] 59).drew.below hb6 (by simp; try omega); simpa using h)) (by simp [Value.oneCell']) (by omega) (by unfold maxLen; rw [List.length_take]; omega) (by rw [List.length_take]; omega) (by repeat' (first | with_reducible exact Below.refl _ _ | with_reducible exact Nat.le_refl _ | with_reducible assumption | with_reducible refine Go.below_growBy' ?_ ?_ _ | with_reducible refine Below.alloc ?_ ?_ _ | with_reducible refine Below.setCell ?_ ?_ _ | with_reducible refine Below.drew ?_ | with_reducible refine Go.le_alloc ?_ | with_reducible refine Go.le_growBy ?_ | with_reducible refine Go.le_setCell ?_ | with_reducible refine Go.le_drew ?_ | omega | (dsimp only; omega))) _ rfl ?_)); intro g7 cap7 w7 hown7 hgrow7 hat7 hlt7; have hb47 : Below wy.heap.size wy w7 := (by first | exact hb46.grown hgrow7 hb46.size (fun r e => (hrow6.lt r e).1) | exact (hb46.alloc hb46.size _).grown hgrow7 (Nat.le_trans hb46.size (by simp)) (fun r e => (hrow6.lt r e).1)); have hown7' : w7.ownsRow wy.heap.size 59 4 (.slice (some ⟨g7, 0, none⟩) ((l.take k).length + 1) cap7) lk.length (lk.flatMap encD) := (by rw [hlkl.out, hlkf.out]; exact hown7); obtain ⟨v7, hv7⟩ : ∃ v, v = Value.slice (some ⟨g7, 0, none⟩) ((l.take k).length + 1) cap7 := ⟨_, rfl⟩; rw [← hv7] at hown7' ⊢; clear hv7)
                    | (refine step_append_part (by rfl) _ _ (by rfl) wy.heap.size v7 lk (l.drop k) (by rfl) hown7' g (k * 4) _ _ rfl ((hDe.drop k _ _ _ hk (.inl (by omega)) (by omega)).up hb47 hb47.size) (by rw [List.length_drop]; omega) hb47.size ?_; intro v8 w8 hown8 hgrow8)
                    | fail)
                all_goals
                  have hb48 := hb47.grown hgrow8 hb47.size (fun r e => (hown7'.lt r e).1)
                  try go_simp
                  go_wp2_with fail
                  go_ret
                  exact put_end hb hB hown8 hb48 (by rw [hput.out, hlk.out]; simp)
          · have h2b : (dy == y) = false := by simpa using fun e => h2 (Eq.symm e)
            have hput := Lib.hid (hin (by simp [h1, Ne.symm h2]) (fun e => h2 e.2.symm))
            clear hsu hin hsame
            by_cases h4 : x = dx
            · subst h4
              go_wp2_with fail
              first | with_reducible refine wp_region_grow2 (by kernel_rfl) (by kernel_rfl) ?_ | with_reducible refine wp_region_grow (by kernel_rfl) (by kernel_rfl) ?_
              repeat (first | go_big_quiet_step (fail) | quiet_step (fail))
              refine wpQuiet_nil ?_
              intro _ hw_
              obtain ⟨p, hw_⟩ := hw_
              subst hw_
              go_wp2_with fail
              first | with_reducible refine wp_region_grow2 (by kernel_rfl) (by kernel_rfl) ?_ | with_reducible refine wp_region_grow (by kernel_rfl) (by kernel_rfl) ?_
              repeat (first | go_big_quiet_step (fail) | quiet_step (fail))
              refine wpQuiet_nil ?_
              intro _ hw_
              obtain ⟨p, hw_⟩ := hw_
              subst hw_
              go_wp2_with fail
              refine wp_world (fun wy hwy => ?_)
              have hBy : Below wr.heap.size wr wy := by
                rw [hwy]
                exact (by repeat' (first | with_reducible exact Below.refl _ _ | with_reducible exact Nat.le_refl _ | with_reducible assumption | with_reducible refine Go.below_growBy' ?_ ?_ _ | with_reducible refine Below.alloc ?_ ?_ _ | with_reducible refine Below.setCell ?_ ?_ _ | with_reducible refine Below.drew ?_ | with_reducible refine Go.le_alloc ?_ | with_reducible refine Go.le_growBy ?_ | with_reducible refine Go.le_setCell ?_ | with_reducible refine Go.le_drew ?_ | omega | (dsimp only; omega)))
              clear hwy
              replace hB := hB.trans (hBy.mono hB.size)
              replace kX := kX.below hBy lX
              replace lX := kX.lt
              replace hDe := hDe.up hBy hBy.size
              have hTk := hDe.take k cap hk
              obtain ⟨lk, hlk⟩ : ∃ lk : List Dt, lk = l.take k ++ [⟨x, y, kd, id⟩] := ⟨_, rfl⟩
              have hlkl := Lib.hid (show lk.length = (l.take k).length + 1 by rw [hlk, List.length_append]; rfl)
              have hlkf := Lib.hid (show lk.flatMap encD = (l.take k).flatMap encD ++ encD ⟨x, y, kd, id⟩ by rw [hlk, List.flatMap_append]; simp)
              have hlkn : lk.length ≤ 100001 := by rw [hlkl.out, List.length_take]; omega
              replace hlk := Lib.hid hlk
              clear x0 x1 x2 x3 hB1
              obtain ⟨x0, x1, x2, x3⟩ := cells4 kX
              go_region_law
                (first
                  | (refine step_append_fresh (by rfl) _ _ (by rfl) wy.heap.size _ (by rfl) (ownsRow_empty ?_ ?_) _ (l.take k) (by rfl) (hTk.up (by repeat' (first | with_reducible exact Below.refl _ _ | with_reducible exact Nat.le_refl _ | with_reducible assumption | with_reducible refine Go.below_growBy' ?_ ?_ _ | with_reducible refine Below.alloc ?_ ?_ _ | with_reducible refine Below.setCell ?_ ?_ _ | with_reducible refine Below.drew ?_ | with_reducible refine Go.le_alloc ?_ | with_reducible refine Go.le_growBy ?_ | with_reducible refine Go.le_setCell ?_ | with_reducible refine Go.le_drew ?_ | omega | (dsimp only; omega))) (by repeat' (first | with_reducible exact Below.refl _ _ | with_reducible exact Nat.le_refl _ | with_reducible assumption | with_reducible refine Go.below_growBy' ?_ ?_ _ | with_reducible refine Below.alloc ?_ ?_ _ | with_reducible refine Below.setCell ?_ ?_ _ | with_reducible refine Below.drew ?_ | with_reducible refine Go.le_alloc ?_ | with_reducible refine Go.le_growBy ?_ | with_reducible refine Go.le_setCell ?_ | with_reducible refine Go.le_drew ?_ | omega | (dsimp only; omega)))) (by rw [List.length_take]; omega) (by repeat' (first | with_reducible exact Below.refl _ _ | with_reducible exact Nat.le_refl _ | with_reducible assumption | with_reducible refine Go.below_growBy' ?_ ?_ _ | with_reducible refine Below.alloc ?_ ?_ _ | with_reducible refine Below.setCell ?_ ?_ _ | with_reducible refine Below.drew ?_ | with_reducible refine Go.le_alloc ?_ | with_reducible refine Go.le_growBy ?_ | with_reducible refine Go.le_setCell ?_ | with_reducible refine Go.le_drew ?_ | omega | (dsimp only; omega))) ?_; (first | exact Blk.new _ _ _ | (have h := (Blk.new (wy.alloc (.cells #[.int .i64 x, .int .i64 y, .int .i64 kd, .int .i64 id] 59)) #[] 59).drew; rw [World.size_alloc] at h; exact h) | exact ((Blk.new wy #[] 59).alloc _).drew); (first | exact Nat.le_refl _ | (simp; done) | omega); intro v6 w6 hrow6 hb6; have hb46 : Below wy.heap.size wy w6 := Below.trans (by repeat' (first | with_reducible exact Below.refl _ _ | with_reducible exact Nat.le_refl _ | with_reducible assumption | with_reducible refine Go.below_growBy' ?_ ?_ _ | with_reducible refine Below.alloc ?_ ?_ _ | with_reducible refine Below.setCell ?_ ?_ _ | with_reducible refine Below.drew ?_ | with_reducible refine Go.le_alloc ?_ | with_reducible refine Go.le_growBy ?_ | with_reducible refine Go.le_setCell ?_ | with_reducible refine Go.le_drew ?_ | omega | (dsimp only; omega))) (hb6.mono (by repeat' (first | with_reducible exact Below.refl _ _ | with_reducible exact Nat.le_refl _ | with_reducible assumption | with_reducible refine Go.below_growBy' ?_ ?_ _ | with_reducible refine Below.alloc ?_ ?_ _ | with_reducible refine Below.setCell ?_ ?_ _ | with_reducible refine Below.drew ?_ | with_reducible refine Go.le_alloc ?_ | with_reducible refine Go.le_growBy ?_ | with_reducible refine Go.le_setCell ?_ | with_reducible refine Go.le_drew ?_ | omega | (dsimp only; omega)))); have hs46 := hb46.size; obtain ⟨d0, d1, d2, d3⟩ := cells4 (kX.below hb46 lX))
                  | ((first | (refine step_append_lies _ (by rfl) _ _ _ (by rfl) wy.heap.size 59 i0 _ 4 32 Tryz.underlying42 hi0 hz0 hz1 hz2 rfl (by omega) v6 (l.take k).length _ (by rfl) (hrow6.alloc _) ⟨w6.heap.size, 0, none⟩ 1 1 (encD ⟨x, y, kd, id⟩) (by rfl) (by rfl) (pnewsD (Blk.new _ _ _)) (by simp [Value.oneCell']) (by omega) (by unfold maxLen; rw [List.length_take]; omega) (by rw [List.length_take]; omega) (by repeat' (first | with_reducible exact Below.refl _ _ | with_reducible exact Nat.le_refl _ | with_reducible assumption | with_reducible refine Go.below_growBy' ?_ ?_ _ | with_reducible refine Below.alloc ?_ ?_ _ | with_reducible refine Below.setCell ?_ ?_ _ | with_reducible refine Below.drew ?_ | with_reducible refine Go.le_alloc ?_ | with_reducible refine Go.le_growBy ?_ | with_reducible refine Go.le_setCell ?_ | with_reducible refine Go.le_drew ?_ | omega | (dsimp only; omega))) _ rfl ?_) | (refine step_append_lies _ (by rfl) _ _ _ (by rfl) wy.heap.size 59 i0 _ 4 32 Tryz.underlying42 hi0 hz0 hz1 hz2 rfl (by omega) v6 (l.take k).length _ (by rfl) hrow6 ⟨wy.heap.size, 0, none⟩ 1 1 (encD ⟨x, y, kd, id⟩) (by rfl) (by rfl) (pnewsD (((Blk.new wy #[.int .i64 x, .int .i64 y, .int .i64 kd, .int .i64 id] 59).alloc (.cells #[] 59)).drew.below hb6 (by simp; try omega))) (by simp [Value.oneCell']) (by omega) (by unfold maxLen; rw [List.length_take]; omega) (by rw [List.length_take]; omega) (by repeat' (first | with_reducible exact Below.refl _ _ | with_reducible exact Nat.le_refl _ | with_reducible assumption | with_reducible refine Go.below_growBy' ?_ ?_ _ | with_reducible refine Below.alloc ?_ ?_ _ | with_reducible refine Below.setCell ?_ ?_ _ | with_reducible refine Below.drew ?_ | with_reducible refine Go.le_alloc ?_ | with_reducible refine Go.le_growBy ?_ | with_reducible refine Go.le_setCell ?_ | with_reducible refine Go.le_drew ?_ | omega | (dsimp only; omega))) _ rfl ?_) | (refine step_append_lies _ (by rfl) _ _ _ (by rfl) wy.heap.size 59 i0 _ 4 32 Tryz.underlying42 hi0 hz0 hz1 hz2 rfl (by omega) v6 (l.take k).length _ (by rfl) hrow6 ⟨wy.heap.size + 1, 0, none⟩ 1 1 (encD ⟨x, y, kd, id⟩) (by rfl) (by rfl) (pnewsD (by have h := (Blk.new (wy.alloc (.cells #[] 59)) #[.int .i64 x, .int .i64 y, .int .i64 kd, .int .i64 id] 59).drew.below hb6 (by simp; try omega); simpa using h)) (by simp [Value.oneCell']) (by omega) (by unfold maxLen; rw [List.length_take]; omega) (by rw [List.length_take]; omega) (by repeat' (first | with_reducible exact Below.refl _ _ | with_reducible exact Nat.le_refl _ | with_reducible assumption | with_reducible refine Go.below_growBy' ?_ ?_ _ | with_reducible refine Below.alloc ?_ ?_ _ | with_reducible refine Below.setCell ?_ ?_ _ | with_reducible refine Below.drew ?_ | with_reducible refine Go.le_alloc ?_ | with_reducible refine Go.le_growBy ?_ | with_reducible refine Go.le_setCell ?_ | with_reducible refine Go.le_drew ?_ | omega | (dsimp only; omega))) _ rfl ?_)); intro g7 cap7 w7 hown7 hgrow7 hat7 hlt7; have hb47 : Below wy.heap.size wy w7 := (by first | exact hb46.grown hgrow7 hb46.size (fun r e => (hrow6.lt r e).1) | exact (hb46.alloc hb46.size _).grown hgrow7 (Nat.le_trans hb46.size (by simp)) (fun r e => (hrow6.lt r e).1)); have hown7' : w7.ownsRow wy.heap.size 59 4 (.slice (some ⟨g7, 0, none⟩) ((l.take k).length + 1) cap7) lk.length (lk.flatMap encD) := (by rw [hlkl.out, hlkf.out]; exact hown7); obtain ⟨v7, hv7⟩ : ∃ v, v = Value.slice (some ⟨g7, 0, none⟩) ((l.take k).length + 1) cap7 := ⟨_, rfl⟩; rw [← hv7] at hown7' ⊢; clear hv7)
                  | (refine step_append_part (by rfl) _ _ (by rfl) wy.heap.size v7 lk (l.drop k) (by rfl) hown7' g (k * 4) _ _ rfl ((hDe.drop k _ _ _ hk (.inl (by omega)) (by omega)).up hb47 hb47.size) (by rw [List.length_drop]; omega) hb47.size ?_; intro v8 w8 hown8 hgrow8)
                  | fail)
              all_goals
                have hb48 := hb47.grown hgrow8 hb47.size (fun r e => (hown7'.lt r e).1)
                try go_simp
                go_wp2_with fail
                go_ret
                exact put_end hb hB hown8 hb48 (by rw [hput.out, hlk.out]; simp)
            · have h4b : (dx == x) = false := by simpa using fun e => h4 (Eq.symm e)
              go_wp2_with fail
              first | with_reducible refine wp_region_grow2 (by kernel_rfl) (by kernel_rfl) ?_ | with_reducible refine wp_region_grow (by kernel_rfl) (by kernel_rfl) ?_
              repeat (first | go_big_quiet_step (fail) | quiet_step (fail))
              refine wpQuiet_nil ?_
              intro _ hw_
              obtain ⟨p, hw_⟩ := hw_
              subst hw_
              go_wp2_with fail
              first | with_reducible refine wp_region_grow2 (by kernel_rfl) (by kernel_rfl) ?_ | with_reducible refine wp_region_grow (by kernel_rfl) (by kernel_rfl) ?_
              repeat (first | go_big_quiet_step (fail) | quiet_step (fail))
              refine wpQuiet_nil ?_
              intro _ hw_
              obtain ⟨p, hw_⟩ := hw_
              subst hw_
              go_wp2_with fail
              refine wp_world (fun wy hwy => ?_)
              have hBy : Below wr.heap.size wr wy := by
                rw [hwy]
                exact (by repeat' (first | with_reducible exact Below.refl _ _ | with_reducible exact Nat.le_refl _ | with_reducible assumption | with_reducible refine Go.below_growBy' ?_ ?_ _ | with_reducible refine Below.alloc ?_ ?_ _ | with_reducible refine Below.setCell ?_ ?_ _ | with_reducible refine Below.drew ?_ | with_reducible refine Go.le_alloc ?_ | with_reducible refine Go.le_growBy ?_ | with_reducible refine Go.le_setCell ?_ | with_reducible refine Go.le_drew ?_ | omega | (dsimp only; omega)))
              clear hwy
              replace hB := hB.trans (hBy.mono hB.size)
              replace kX := kX.below hBy lX
              replace lX := kX.lt
              replace hDe := hDe.up hBy hBy.size
              have hTk := hDe.take k cap hk
              obtain ⟨lk, hlk⟩ : ∃ lk : List Dt, lk = l.take k ++ [⟨x, y, kd, id⟩] := ⟨_, rfl⟩
              have hlkl := Lib.hid (show lk.length = (l.take k).length + 1 by rw [hlk, List.length_append]; rfl)
              have hlkf := Lib.hid (show lk.flatMap encD = (l.take k).flatMap encD ++ encD ⟨x, y, kd, id⟩ by rw [hlk, List.flatMap_append]; simp)
              have hlkn : lk.length ≤ 100001 := by rw [hlkl.out, List.length_take]; omega
              replace hlk := Lib.hid hlk
              clear x0 x1 x2 x3 hB1
              obtain ⟨x0, x1, x2, x3⟩ := cells4 kX
              go_region_law
                (first
                  | (refine step_append_fresh (by rfl) _ _ (by rfl) wy.heap.size _ (by rfl) (ownsRow_empty ?_ ?_) _ (l.take k) (by rfl) (hTk.up (by repeat' (first | with_reducible exact Below.refl _ _ | with_reducible exact Nat.le_refl _ | with_reducible assumption | with_reducible refine Go.below_growBy' ?_ ?_ _ | with_reducible refine Below.alloc ?_ ?_ _ | with_reducible refine Below.setCell ?_ ?_ _ | with_reducible refine Below.drew ?_ | with_reducible refine Go.le_alloc ?_ | with_reducible refine Go.le_growBy ?_ | with_reducible refine Go.le_setCell ?_ | with_reducible refine Go.le_drew ?_ | omega | (dsimp only; omega))) (by repeat' (first | with_reducible exact Below.refl _ _ | with_reducible exact Nat.le_refl _ | with_reducible assumption | with_reducible refine Go.below_growBy' ?_ ?_ _ | with_reducible refine Below.alloc ?_ ?_ _ | with_reducible refine Below.setCell ?_ ?_ _ | with_reducible refine Below.drew ?_ | with_reducible refine Go.le_alloc ?_ | with_reducible refine Go.le_growBy ?_ | with_reducible refine Go.le_setCell ?_ | with_reducible refine Go.le_drew ?_ | omega | (dsimp only; omega)))) (by rw [List.length_take]; omega) (by repeat' (first | with_reducible exact Below.refl _ _ | with_reducible exact Nat.le_refl _ | with_reducible assumption | with_reducible refine Go.below_growBy' ?_ ?_ _ | with_reducible refine Below.alloc ?_ ?_ _ | with_reducible refine Below.setCell ?_ ?_ _ | with_reducible refine Below.drew ?_ | with_reducible refine Go.le_alloc ?_ | with_reducible refine Go.le_growBy ?_ | with_reducible refine Go.le_setCell ?_ | with_reducible refine Go.le_drew ?_ | omega | (dsimp only; omega))) ?_; (first | exact Blk.new _ _ _ | (have h := (Blk.new (wy.alloc (.cells #[.int .i64 x, .int .i64 y, .int .i64 kd, .int .i64 id] 59)) #[] 59).drew; rw [World.size_alloc] at h; exact h) | exact ((Blk.new wy #[] 59).alloc _).drew); (first | exact Nat.le_refl _ | (simp; done) | omega); intro v6 w6 hrow6 hb6; have hb46 : Below wy.heap.size wy w6 := Below.trans (by repeat' (first | with_reducible exact Below.refl _ _ | with_reducible exact Nat.le_refl _ | with_reducible assumption | with_reducible refine Go.below_growBy' ?_ ?_ _ | with_reducible refine Below.alloc ?_ ?_ _ | with_reducible refine Below.setCell ?_ ?_ _ | with_reducible refine Below.drew ?_ | with_reducible refine Go.le_alloc ?_ | with_reducible refine Go.le_growBy ?_ | with_reducible refine Go.le_setCell ?_ | with_reducible refine Go.le_drew ?_ | omega | (dsimp only; omega))) (hb6.mono (by repeat' (first | with_reducible exact Below.refl _ _ | with_reducible exact Nat.le_refl _ | with_reducible assumption | with_reducible refine Go.below_growBy' ?_ ?_ _ | with_reducible refine Below.alloc ?_ ?_ _ | with_reducible refine Below.setCell ?_ ?_ _ | with_reducible refine Below.drew ?_ | with_reducible refine Go.le_alloc ?_ | with_reducible refine Go.le_growBy ?_ | with_reducible refine Go.le_setCell ?_ | with_reducible refine Go.le_drew ?_ | omega | (dsimp only; omega)))); have hs46 := hb46.size; obtain ⟨d0, d1, d2, d3⟩ := cells4 (kX.below hb46 lX))
                  | ((first | (refine step_append_lies _ (by rfl) _ _ _ (by rfl) wy.heap.size 59 i0 _ 4 32 Tryz.underlying42 hi0 hz0 hz1 hz2 rfl (by omega) v6 (l.take k).length _ (by rfl) (hrow6.alloc _) ⟨w6.heap.size, 0, none⟩ 1 1 (encD ⟨x, y, kd, id⟩) (by rfl) (by rfl) (pnewsD (Blk.new _ _ _)) (by simp [Value.oneCell']) (by omega) (by unfold maxLen; rw [List.length_take]; omega) (by rw [List.length_take]; omega) (by repeat' (first | with_reducible exact Below.refl _ _ | with_reducible exact Nat.le_refl _ | with_reducible assumption | with_reducible refine Go.below_growBy' ?_ ?_ _ | with_reducible refine Below.alloc ?_ ?_ _ | with_reducible refine Below.setCell ?_ ?_ _ | with_reducible refine Below.drew ?_ | with_reducible refine Go.le_alloc ?_ | with_reducible refine Go.le_growBy ?_ | with_reducible refine Go.le_setCell ?_ | with_reducible refine Go.le_drew ?_ | omega | (dsimp only; omega))) _ rfl ?_) | (refine step_append_lies _ (by rfl) _ _ _ (by rfl) wy.heap.size 59 i0 _ 4 32 Tryz.underlying42 hi0 hz0 hz1 hz2 rfl (by omega) v6 (l.take k).length _ (by rfl) hrow6 ⟨wy.heap.size, 0, none⟩ 1 1 (encD ⟨x, y, kd, id⟩) (by rfl) (by rfl) (pnewsD (((Blk.new wy #[.int .i64 x, .int .i64 y, .int .i64 kd, .int .i64 id] 59).alloc (.cells #[] 59)).drew.below hb6 (by simp; try omega))) (by simp [Value.oneCell']) (by omega) (by unfold maxLen; rw [List.length_take]; omega) (by rw [List.length_take]; omega) (by repeat' (first | with_reducible exact Below.refl _ _ | with_reducible exact Nat.le_refl _ | with_reducible assumption | with_reducible refine Go.below_growBy' ?_ ?_ _ | with_reducible refine Below.alloc ?_ ?_ _ | with_reducible refine Below.setCell ?_ ?_ _ | with_reducible refine Below.drew ?_ | with_reducible refine Go.le_alloc ?_ | with_reducible refine Go.le_growBy ?_ | with_reducible refine Go.le_setCell ?_ | with_reducible refine Go.le_drew ?_ | omega | (dsimp only; omega))) _ rfl ?_) | (refine step_append_lies _ (by rfl) _ _ _ (by rfl) wy.heap.size 59 i0 _ 4 32 Tryz.underlying42 hi0 hz0 hz1 hz2 rfl (by omega) v6 (l.take k).length _ (by rfl) hrow6 ⟨wy.heap.size + 1, 0, none⟩ 1 1 (encD ⟨x, y, kd, id⟩) (by rfl) (by rfl) (pnewsD (by have h := (Blk.new (wy.alloc (.cells #[] 59)) #[.int .i64 x, .int .i64 y, .int .i64 kd, .int .i64 id] 59).drew.below hb6 (by simp; try omega); simpa using h)) (by simp [Value.oneCell']) (by omega) (by unfold maxLen; rw [List.length_take]; omega) (by rw [List.length_take]; omega) (by repeat' (first | with_reducible exact Below.refl _ _ | with_reducible exact Nat.le_refl _ | with_reducible assumption | with_reducible refine Go.below_growBy' ?_ ?_ _ | with_reducible refine Below.alloc ?_ ?_ _ | with_reducible refine Below.setCell ?_ ?_ _ | with_reducible refine Below.drew ?_ | with_reducible refine Go.le_alloc ?_ | with_reducible refine Go.le_growBy ?_ | with_reducible refine Go.le_setCell ?_ | with_reducible refine Go.le_drew ?_ | omega | (dsimp only; omega))) _ rfl ?_)); intro g7 cap7 w7 hown7 hgrow7 hat7 hlt7; have hb47 : Below wy.heap.size wy w7 := (by first | exact hb46.grown hgrow7 hb46.size (fun r e => (hrow6.lt r e).1) | exact (hb46.alloc hb46.size _).grown hgrow7 (Nat.le_trans hb46.size (by simp)) (fun r e => (hrow6.lt r e).1)); have hown7' : w7.ownsRow wy.heap.size 59 4 (.slice (some ⟨g7, 0, none⟩) ((l.take k).length + 1) cap7) lk.length (lk.flatMap encD) := (by rw [hlkl.out, hlkf.out]; exact hown7); obtain ⟨v7, hv7⟩ : ∃ v, v = Value.slice (some ⟨g7, 0, none⟩) ((l.take k).length + 1) cap7 := ⟨_, rfl⟩; rw [← hv7] at hown7' ⊢; clear hv7)
                  | (refine step_append_part (by rfl) _ _ (by rfl) wy.heap.size v7 lk (l.drop k) (by rfl) hown7' g (k * 4) _ _ rfl ((hDe.drop k _ _ _ hk (.inl (by omega)) (by omega)).up hb47 hb47.size) (by rw [List.length_drop]; omega) hb47.size ?_; intro v8 w8 hown8 hgrow8)
                  | fail)
              all_goals
                have hb48 := hb47.grown hgrow8 hb47.size (fun r e => (hown7'.lt r e).1)
                try go_simp
                go_wp2_with fail
                go_ret
                exact put_end hb hB hown8 hb48 (by rw [hput.out, hlk.out]; simp)
      · have hge : ¬ (k : Int) < (l.length : Int) := by omega
        have hkE := Lib.hid (show k = l.length by omega)
        have hput := Lib.hid (show rput l ⟨x, y, kd, id⟩ = l.take k ++ ⟨x, y, kd, id⟩ :: l.drop k by
          rw [rput_end (fun j hj => hLd.lt j (by omega)), List.take_of_length_le (by omega), List.drop_of_length_le (by omega)])
        have hkl : (k : Int) ≤ (l.length : Int) := by omega
        have hk0 : 0 ≤ (k : Int) := by omega
        have hkcI : (k : Int) ≤ (cap : Int) := by omega
        by_cases hkc : k = cap
        · subst hkc
          go_wp2_with fail
          first | with_reducible refine wp_region_grow2 (by kernel_rfl) (by kernel_rfl) ?_ | with_reducible refine wp_region_grow (by kernel_rfl) (by kernel_rfl) ?_
          repeat (first | go_big_quiet_step (fail) | quiet_step (fail))
          refine wpQuiet_nil ?_
          intro _ hw_
          obtain ⟨p, hw_⟩ := hw_
          subst hw_
          go_wp2_with fail
          first | with_reducible refine wp_region_grow2 (by kernel_rfl) (by kernel_rfl) ?_ | with_reducible refine wp_region_grow (by kernel_rfl) (by kernel_rfl) ?_
          repeat (first | go_big_quiet_step (fail) | quiet_step (fail))
          refine wpQuiet_nil ?_
          intro _ hw_
          obtain ⟨p, hw_⟩ := hw_
          subst hw_
          go_wp2_with fail
          refine wp_world (fun wy hwy => ?_)
          have hBy : Below wr.heap.size wr wy := by
            rw [hwy]
            exact (by repeat' (first | with_reducible exact Below.refl _ _ | with_reducible exact Nat.le_refl _ | with_reducible assumption | with_reducible refine Go.below_growBy' ?_ ?_ _ | with_reducible refine Below.alloc ?_ ?_ _ | with_reducible refine Below.setCell ?_ ?_ _ | with_reducible refine Below.drew ?_ | with_reducible refine Go.le_alloc ?_ | with_reducible refine Go.le_growBy ?_ | with_reducible refine Go.le_setCell ?_ | with_reducible refine Go.le_drew ?_ | omega | (dsimp only; omega)))
          clear hwy
          replace hB := hB.trans (hBy.mono hB.size)
          replace kX := kX.below hBy lX
          replace lX := kX.lt
          replace hDe := hDe.up hBy hBy.size
          have hTk := hDe.take k k hk
          obtain ⟨lk, hlk⟩ : ∃ lk : List Dt, lk = l.take k ++ [⟨x, y, kd, id⟩] := ⟨_, rfl⟩
          have hlkl := Lib.hid (show lk.length = (l.take k).length + 1 by rw [hlk, List.length_append]; rfl)
          have hlkf := Lib.hid (show lk.flatMap encD = (l.take k).flatMap encD ++ encD ⟨x, y, kd, id⟩ by rw [hlk, List.flatMap_append]; simp)
          have hlkn : lk.length ≤ 100001 := by rw [hlkl.out, List.length_take]; omega
          replace hlk := Lib.hid hlk
          clear x0 x1 x2 x3 hB1
          obtain ⟨x0, x1, x2, x3⟩ := cells4 kX
          go_region_law
            (first
              | (refine step_append_fresh (by rfl) _ _ (by rfl) wy.heap.size _ (by rfl) (ownsRow_empty ?_ ?_) _ (l.take k) (by rfl) (hTk.up (by repeat' (first | with_reducible exact Below.refl _ _ | with_reducible exact Nat.le_refl _ | with_reducible assumption | with_reducible refine Go.below_growBy' ?_ ?_ _ | with_reducible refine Below.alloc ?_ ?_ _ | with_reducible refine Below.setCell ?_ ?_ _ | with_reducible refine Below.drew ?_ | with_reducible refine Go.le_alloc ?_ | with_reducible refine Go.le_growBy ?_ | with_reducible refine Go.le_setCell ?_ | with_reducible refine Go.le_drew ?_ | omega | (dsimp only; omega))) (by repeat' (first | with_reducible exact Below.refl _ _ | with_reducible exact Nat.le_refl _ | with_reducible assumption | with_reducible refine Go.below_growBy' ?_ ?_ _ | with_reducible refine Below.alloc ?_ ?_ _ | with_reducible refine Below.setCell ?_ ?_ _ | with_reducible refine Below.drew ?_ | with_reducible refine Go.le_alloc ?_ | with_reducible refine Go.le_growBy ?_ | with_reducible refine Go.le_setCell ?_ | with_reducible refine Go.le_drew ?_ | omega | (dsimp only; omega)))) (by rw [List.length_take]; omega) (by repeat' (first | with_reducible exact Below.refl _ _ | with_reducible exact Nat.le_refl _ | with_reducible assumption | with_reducible refine Go.below_growBy' ?_ ?_ _ | with_reducible refine Below.alloc ?_ ?_ _ | with_reducible refine Below.setCell ?_ ?_ _ | with_reducible refine Below.drew ?_ | with_reducible refine Go.le_alloc ?_ | with_reducible refine Go.le_growBy ?_ | with_reducible refine Go.le_setCell ?_ | with_reducible refine Go.le_drew ?_ | omega | (dsimp only; omega))) ?_; (first | exact Blk.new _ _ _ | (have h := (Blk.new (wy.alloc (.cells #[.int .i64 x, .int .i64 y, .int .i64 kd, .int .i64 id] 59)) #[] 59).drew; rw [World.size_alloc] at h; exact h) | exact ((Blk.new wy #[] 59).alloc _).drew); (first | exact Nat.le_refl _ | (simp; done) | omega); intro v6 w6 hrow6 hb6; have hb46 : Below wy.heap.size wy w6 := Below.trans (by repeat' (first | with_reducible exact Below.refl _ _ | with_reducible exact Nat.le_refl _ | with_reducible assumption | with_reducible refine Go.below_growBy' ?_ ?_ _ | with_reducible refine Below.alloc ?_ ?_ _ | with_reducible refine Below.setCell ?_ ?_ _ | with_reducible refine Below.drew ?_ | with_reducible refine Go.le_alloc ?_ | with_reducible refine Go.le_growBy ?_ | with_reducible refine Go.le_setCell ?_ | with_reducible refine Go.le_drew ?_ | omega | (dsimp only; omega))) (hb6.mono (by repeat' (first | with_reducible exact Below.refl _ _ | with_reducible exact Nat.le_refl _ | with_reducible assumption | with_reducible refine Go.below_growBy' ?_ ?_ _ | with_reducible refine Below.alloc ?_ ?_ _ | with_reducible refine Below.setCell ?_ ?_ _ | with_reducible refine Below.drew ?_ | with_reducible refine Go.le_alloc ?_ | with_reducible refine Go.le_growBy ?_ | with_reducible refine Go.le_setCell ?_ | with_reducible refine Go.le_drew ?_ | omega | (dsimp only; omega)))); have hs46 := hb46.size; obtain ⟨d0, d1, d2, d3⟩ := cells4 (kX.below hb46 lX))
              | ((first | (refine step_append_lies _ (by rfl) _ _ _ (by rfl) wy.heap.size 59 i0 _ 4 32 Tryz.underlying42 hi0 hz0 hz1 hz2 rfl (by omega) v6 (l.take k).length _ (by rfl) (hrow6.alloc _) ⟨w6.heap.size, 0, none⟩ 1 1 (encD ⟨x, y, kd, id⟩) (by rfl) (by rfl) (pnewsD (Blk.new _ _ _)) (by simp [Value.oneCell']) (by omega) (by unfold maxLen; rw [List.length_take]; omega) (by rw [List.length_take]; omega) (by repeat' (first | with_reducible exact Below.refl _ _ | with_reducible exact Nat.le_refl _ | with_reducible assumption | with_reducible refine Go.below_growBy' ?_ ?_ _ | with_reducible refine Below.alloc ?_ ?_ _ | with_reducible refine Below.setCell ?_ ?_ _ | with_reducible refine Below.drew ?_ | with_reducible refine Go.le_alloc ?_ | with_reducible refine Go.le_growBy ?_ | with_reducible refine Go.le_setCell ?_ | with_reducible refine Go.le_drew ?_ | omega | (dsimp only; omega))) _ rfl ?_) | (refine step_append_lies _ (by rfl) _ _ _ (by rfl) wy.heap.size 59 i0 _ 4 32 Tryz.underlying42 hi0 hz0 hz1 hz2 rfl (by omega) v6 (l.take k).length _ (by rfl) hrow6 ⟨wy.heap.size, 0, none⟩ 1 1 (encD ⟨x, y, kd, id⟩) (by rfl) (by rfl) (pnewsD (((Blk.new wy #[.int .i64 x, .int .i64 y, .int .i64 kd, .int .i64 id] 59).alloc (.cells #[] 59)).drew.below hb6 (by simp; try omega))) (by simp [Value.oneCell']) (by omega) (by unfold maxLen; rw [List.length_take]; omega) (by rw [List.length_take]; omega) (by repeat' (first | with_reducible exact Below.refl _ _ | with_reducible exact Nat.le_refl _ | with_reducible assumption | with_reducible refine Go.below_growBy' ?_ ?_ _ | with_reducible refine Below.alloc ?_ ?_ _ | with_reducible refine Below.setCell ?_ ?_ _ | with_reducible refine Below.drew ?_ | with_reducible refine Go.le_alloc ?_ | with_reducible refine Go.le_growBy ?_ | with_reducible refine Go.le_setCell ?_ | with_reducible refine Go.le_drew ?_ | omega | (dsimp only; omega))) _ rfl ?_) | (refine step_append_lies _ (by rfl) _ _ _ (by rfl) wy.heap.size 59 i0 _ 4 32 Tryz.underlying42 hi0 hz0 hz1 hz2 rfl (by omega) v6 (l.take k).length _ (by rfl) hrow6 ⟨wy.heap.size + 1, 0, none⟩ 1 1 (encD ⟨x, y, kd, id⟩) (by rfl) (by rfl) (pnewsD (by have h := (Blk.new (wy.alloc (.cells #[] 59)) #[.int .i64 x, .int .i64 y, .int .i64 kd, .int .i64 id] 59).drew.below hb6 (by simp; try omega); simpa using h)) (by simp [Value.oneCell']) (by omega) (by unfold maxLen; rw [List.length_take]; omega) (by rw [List.length_take]; omega) (by repeat' (first | with_reducible exact Below.refl _ _ | with_reducible exact Nat.le_refl _ | with_reducible assumption | with_reducible refine Go.below_growBy' ?_ ?_ _ | with_reducible refine Below.alloc ?_ ?_ _ | with_reducible refine Below.setCell ?_ ?_ _ | with_reducible refine Below.drew ?_ | with_reducible refine Go.le_alloc ?_ | with_reducible refine Go.le_growBy ?_ | with_reducible refine Go.le_setCell ?_ | with_reducible refine Go.le_drew ?_ | omega | (dsimp only; omega))) _ rfl ?_)); intro g7 cap7 w7 hown7 hgrow7 hat7 hlt7; have hb47 : Below wy.heap.size wy w7 := (by first | exact hb46.grown hgrow7 hb46.size (fun r e => (hrow6.lt r e).1) | exact (hb46.alloc hb46.size _).grown hgrow7 (Nat.le_trans hb46.size (by simp)) (fun r e => (hrow6.lt r e).1)); have hown7' : w7.ownsRow wy.heap.size 59 4 (.slice (some ⟨g7, 0, none⟩) ((l.take k).length + 1) cap7) lk.length (lk.flatMap encD) := (by rw [hlkl.out, hlkf.out]; exact hown7); obtain ⟨v7, hv7⟩ : ∃ v, v = Value.slice (some ⟨g7, 0, none⟩) ((l.take k).length + 1) cap7 := ⟨_, rfl⟩; rw [← hv7] at hown7' ⊢; clear hv7)
              | (refine step_append_part (by rfl) _ _ (by rfl) wy.heap.size v7 lk (l.drop k) (by rfl) hown7' g 0 0 0 rfl ((hDe.drop k _ _ _ hk (.inr hkE.out) (by have := hkE.out; omega)).up hb47 hb47.size) (by rw [List.length_drop]; omega) hb47.size ?_; intro v8 w8 hown8 hgrow8)
              | fail)
          all_goals
            have hb48 := hb47.grown hgrow8 hb47.size (fun r e => (hown7'.lt r e).1)
            try go_simp
            go_wp2_with fail
            go_ret
            exact put_end hb hB hown8 hb48 (by rw [hput.out, hlk.out]; simp)
        · replace hkc : ¬ cap = k := fun e => hkc e.symm
          go_wp2_with fail
          first | with_reducible refine wp_region_grow2 (by kernel_rfl) (by kernel_rfl) ?_ | with_reducible refine wp_region_grow (by kernel_rfl) (by kernel_rfl) ?_
          repeat (first | go_big_quiet_step (fail) | quiet_step (fail))
          refine wpQuiet_nil ?_
          intro _ hw_
          obtain ⟨p, hw_⟩ := hw_
          subst hw_
          go_wp2_with fail
          first | with_reducible refine wp_region_grow2 (by kernel_rfl) (by kernel_rfl) ?_ | with_reducible refine wp_region_grow (by kernel_rfl) (by kernel_rfl) ?_
          repeat (first | go_big_quiet_step (fail) | quiet_step (fail))
          refine wpQuiet_nil ?_
          intro _ hw_
          obtain ⟨p, hw_⟩ := hw_
          subst hw_
          go_wp2_with fail
          refine wp_world (fun wy hwy => ?_)
          have hBy : Below wr.heap.size wr wy := by
            rw [hwy]
            exact (by repeat' (first | with_reducible exact Below.refl _ _ | with_reducible exact Nat.le_refl _ | with_reducible assumption | with_reducible refine Go.below_growBy' ?_ ?_ _ | with_reducible refine Below.alloc ?_ ?_ _ | with_reducible refine Below.setCell ?_ ?_ _ | with_reducible refine Below.drew ?_ | with_reducible refine Go.le_alloc ?_ | with_reducible refine Go.le_growBy ?_ | with_reducible refine Go.le_setCell ?_ | with_reducible refine Go.le_drew ?_ | omega | (dsimp only; omega)))
          clear hwy
          replace hB := hB.trans (hBy.mono hB.size)
          replace kX := kX.below hBy lX
          replace lX := kX.lt
          replace hDe := hDe.up hBy hBy.size
          have hTk := hDe.take k cap hk
          obtain ⟨lk, hlk⟩ : ∃ lk : List Dt, lk = l.take k ++ [⟨x, y, kd, id⟩] := ⟨_, rfl⟩
          have hlkl := Lib.hid (show lk.length = (l.take k).length + 1 by rw [hlk, List.length_append]; rfl)
          have hlkf := Lib.hid (show lk.flatMap encD = (l.take k).flatMap encD ++ encD ⟨x, y, kd, id⟩ by rw [hlk, List.flatMap_append]; simp)
          have hlkn : lk.length ≤ 100001 := by rw [hlkl.out, List.length_take]; omega
          replace hlk := Lib.hid hlk
          clear x0 x1 x2 x3 hB1
          obtain ⟨x0, x1, x2, x3⟩ := cells4 kX
          go_region_law
            (first
              | (refine step_append_fresh (by rfl) _ _ (by rfl) wy.heap.size _ (by rfl) (ownsRow_empty ?_ ?_) _ (l.take k) (by rfl) (hTk.up (by repeat' (first | with_reducible exact Below.refl _ _ | with_reducible exact Nat.le_refl _ | with_reducible assumption | with_reducible refine Go.below_growBy' ?_ ?_ _ | with_reducible refine Below.alloc ?_ ?_ _ | with_reducible refine Below.setCell ?_ ?_ _ | with_reducible refine Below.drew ?_ | with_reducible refine Go.le_alloc ?_ | with_reducible refine Go.le_growBy ?_ | with_reducible refine Go.le_setCell ?_ | with_reducible refine Go.le_drew ?_ | omega | (dsimp only; omega))) (by repeat' (first | with_reducible exact Below.refl _ _ | with_reducible exact Nat.le_refl _ | with_reducible assumption | with_reducible refine Go.below_growBy' ?_ ?_ _ | with_reducible refine Below.alloc ?_ ?_ _ | with_reducible refine Below.setCell ?_ ?_ _ | with_reducible refine Below.drew ?_ | with_reducible refine Go.le_alloc ?_ | with_reducible refine Go.le_growBy ?_ | with_reducible refine Go.le_setCell ?_ | with_reducible refine Go.le_drew ?_ | omega | (dsimp only; omega)))) (by rw [List.length_take]; omega) (by repeat' (first | with_reducible exact Below.refl _ _ | with_reducible exact Nat.le_refl _ | with_reducible assumption | with_reducible refine Go.below_growBy' ?_ ?_ _ | with_reducible refine Below.alloc ?_ ?_ _ | with_reducible refine Below.setCell ?_ ?_ _ | with_reducible refine Below.drew ?_ | with_reducible refine Go.le_alloc ?_ | with_reducible refine Go.le_growBy ?_ | with_reducible refine Go.le_setCell ?_ | with_reducible refine Go.le_drew ?_ | omega | (dsimp only; omega))) ?_; (first | exact Blk.new _ _ _ | (have h := (Blk.new (wy.alloc (.cells #[.int .i64 x, .int .i64 y, .int .i64 kd, .int .i64 id] 59)) #[] 59).drew; rw [World.size_alloc] at h; exact h) | exact ((Blk.new wy #[] 59).alloc _).drew); (first | exact Nat.le_refl _ | (simp; done) | omega); intro v6 w6 hrow6 hb6; have hb46 : Below wy.heap.size wy w6 := Below.trans (by repeat' (first | with_reducible exact Below.refl _ _ | with_reducible exact Nat.le_refl _ | with_reducible assumption | with_reducible refine Go.below_growBy' ?_ ?_ _ | with_reducible refine Below.alloc ?_ ?_ _ | with_reducible refine Below.setCell ?_ ?_ _ | with_reducible refine Below.drew ?_ | with_reducible refine Go.le_alloc ?_ | with_reducible refine Go.le_growBy ?_ | with_reducible refine Go.le_setCell ?_ | with_reducible refine Go.le_drew ?_ | omega | (dsimp only; omega))) (hb6.mono (by repeat' (first | with_reducible exact Below.refl _ _ | with_reducible exact Nat.le_refl _ | with_reducible assumption | with_reducible refine Go.below_growBy' ?_ ?_ _ | with_reducible refine Below.alloc ?_ ?_ _ | with_reducible refine Below.setCell ?_ ?_ _ | with_reducible refine Below.drew ?_ | with_reducible refine Go.le_alloc ?_ | with_reducible refine Go.le_growBy ?_ | with_reducible refine Go.le_setCell ?_ | with_reducible refine Go.le_drew ?_ | omega | (dsimp only; omega)))); have hs46 := hb46.size; obtain ⟨d0, d1, d2, d3⟩ := cells4 (kX.below hb46 lX))
              | ((first | (refine step_append_lies _ (by rfl) _ _ _ (by rfl) wy.heap.size 59 i0 _ 4 32 Tryz.underlying42 hi0 hz0 hz1 hz2 rfl (by omega) v6 (l.take k).length _ (by rfl) (hrow6.alloc _) ⟨w6.heap.size, 0, none⟩ 1 1 (encD ⟨x, y, kd, id⟩) (by rfl) (by rfl) (pnewsD (Blk.new _ _ _)) (by simp [Value.oneCell']) (by omega) (by unfold maxLen; rw [List.length_take]; omega) (by rw [List.length_take]; omega) (by repeat' (first | with_reducible exact Below.refl _ _ | with_reducible exact Nat.le_refl _ | with_reducible assumption | with_reducible refine Go.below_growBy' ?_ ?_ _ | with_reducible refine Below.alloc ?_ ?_ _ | with_reducible refine Below.setCell ?_ ?_ _ | with_reducible refine Below.drew ?_ | with_reducible refine Go.le_alloc ?_ | with_reducible refine Go.le_growBy ?_ | with_reducible refine Go.le_setCell ?_ | with_reducible refine Go.le_drew ?_ | omega | (dsimp only; omega))) _ rfl ?_) | (refine step_append_lies _ (by rfl) _ _ _ (by rfl) wy.heap.size 59 i0 _ 4 32 Tryz.underlying42 hi0 hz0 hz1 hz2 rfl (by omega) v6 (l.take k).length _ (by rfl) hrow6 ⟨wy.heap.size, 0, none⟩ 1 1 (encD ⟨x, y, kd, id⟩) (by rfl) (by rfl) (pnewsD (((Blk.new wy #[.int .i64 x, .int .i64 y, .int .i64 kd, .int .i64 id] 59).alloc (.cells #[] 59)).drew.below hb6 (by simp; try omega))) (by simp [Value.oneCell']) (by omega) (by unfold maxLen; rw [List.length_take]; omega) (by rw [List.length_take]; omega) (by repeat' (first | with_reducible exact Below.refl _ _ | with_reducible exact Nat.le_refl _ | with_reducible assumption | with_reducible refine Go.below_growBy' ?_ ?_ _ | with_reducible refine Below.alloc ?_ ?_ _ | with_reducible refine Below.setCell ?_ ?_ _ | with_reducible refine Below.drew ?_ | with_reducible refine Go.le_alloc ?_ | with_reducible refine Go.le_growBy ?_ | with_reducible refine Go.le_setCell ?_ | with_reducible refine Go.le_drew ?_ | omega | (dsimp only; omega))) _ rfl ?_) | (refine step_append_lies _ (by rfl) _ _ _ (by rfl) wy.heap.size 59 i0 _ 4 32 Tryz.underlying42 hi0 hz0 hz1 hz2 rfl (by omega) v6 (l.take k).length _ (by rfl) hrow6 ⟨wy.heap.size + 1, 0, none⟩ 1 1 (encD ⟨x, y, kd, id⟩) (by rfl) (by rfl) (pnewsD (by have h := (Blk.new (wy.alloc (.cells #[] 59)) #[.int .i64 x, .int .i64 y, .int .i64 kd, .int .i64 id] 59).drew.below hb6 (by simp; try omega); simpa using h)) (by simp [Value.oneCell']) (by omega) (by unfold maxLen; rw [List.length_take]; omega) (by rw [List.length_take]; omega) (by repeat' (first | with_reducible exact Below.refl _ _ | with_reducible exact Nat.le_refl _ | with_reducible assumption | with_reducible refine Go.below_growBy' ?_ ?_ _ | with_reducible refine Below.alloc ?_ ?_ _ | with_reducible refine Below.setCell ?_ ?_ _ | with_reducible refine Below.drew ?_ | with_reducible refine Go.le_alloc ?_ | with_reducible refine Go.le_growBy ?_ | with_reducible refine Go.le_setCell ?_ | with_reducible refine Go.le_drew ?_ | omega | (dsimp only; omega))) _ rfl ?_)); intro g7 cap7 w7 hown7 hgrow7 hat7 hlt7; have hb47 : Below wy.heap.size wy w7 := (by first | exact hb46.grown hgrow7 hb46.size (fun r e => (hrow6.lt r e).1) | exact (hb46.alloc hb46.size _).grown hgrow7 (Nat.le_trans hb46.size (by simp)) (fun r e => (hrow6.lt r e).1)); have hown7' : w7.ownsRow wy.heap.size 59 4 (.slice (some ⟨g7, 0, none⟩) ((l.take k).length + 1) cap7) lk.length (lk.flatMap encD) := (by rw [hlkl.out, hlkf.out]; exact hown7); obtain ⟨v7, hv7⟩ : ∃ v, v = Value.slice (some ⟨g7, 0, none⟩) ((l.take k).length + 1) cap7 := ⟨_, rfl⟩; rw [← hv7] at hown7' ⊢; clear hv7)
              | (refine step_append_part (by rfl) _ _ (by rfl) wy.heap.size v7 lk (l.drop k) (by rfl) hown7' g (k * 4) _ _ rfl ((hDe.drop k _ _ _ hk (.inl (by omega)) (by omega)).up hb47 hb47.size) (by rw [List.length_drop]; omega) hb47.size ?_; intro v8 w8 hown8 hgrow8)
              | fail)
          all_goals
            have hb48 := hb47.grown hgrow8 hb47.size (fun r e => (hown7'.lt r e).1)
            try go_simp
            go_wp2_with fail
            go_ret
            exact put_end hb hB hown8 hb48 (by rw [hput.out, hlk.out]; simp)
end Go.Proofs.YtjfdbigkbgolmaaGreatDoor
