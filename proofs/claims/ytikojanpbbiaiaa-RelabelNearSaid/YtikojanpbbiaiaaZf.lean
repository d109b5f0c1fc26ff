/-
  Contracts of library functions at this program, as the kit's tool laid them in plain words: slices.Clone, Index, IndexFunc at structs.
  Chapter 24: places, in plain words; clones of slices.
  Chapter 24: the closures over places: which are left out, and their order.
-/
import Derived.Test.YtikojanpbbiaiaaProg
import Derived.Test.YtikojanpbbiaiaaZd
import Derived.Test.YtikojanpbbiaiaaZe
import Derived.Shelf.SlGeneric
import Derived.Shelf.SlicesE.Clone
import Derived.Shelf.SlicesQ.Index
import Derived.Shelf.SlicesQ.IndexFunc
import Derived.Ground.SlgnProg
import Derived.Ground.SlgqProg
import Derived.Ground.SlgfProg
import Derived.Shelf.GgSortFunc.RowK
import Derived.Shelf.SlSortCmp.InsertionK
namespace Go.Proofs
open Go.Shelf
def Try.cloneLb_ren : Go.Shelf.Ren := ⟨fun | 41 => 26 | n => n, fun | 22 => 33 | 23 => 39 | 4 => 4 | n => n, fun | n => n⟩
theorem Try.cloneLb : Go.Proofs.SlLaysE0.n41 Try.prog Try.cloneLb_ren := {
  mixed := by kernel_rfl
  f41 := ⟨Try.f26.name, by decide, Try.func26.trans (congrArg some (by kernel_rfl))⟩
  t4 := Try.underlying4
  a4 := Try.isAgg4
  z4 := Try.sizeOf4
  v4 := Try.zeroValue4
  t22 := Try.underlying33
  a22 := Try.isAgg33
  z22 := Try.sizeOf33
  v22 := Try.zeroValue33 }
def Try.clonePl_ren : Go.Shelf.Ren := ⟨fun | 41 => 55 | n => n, fun | 22 => 27 | 23 => 41 | 4 => 4 | n => n, fun | n => n⟩
theorem Try.clonePl : Go.Proofs.SlLaysE0.n41 Try.prog Try.clonePl_ren := {
  mixed := by kernel_rfl
  f41 := ⟨Try.f55.name, by decide, Try.func55.trans (congrArg some (by kernel_rfl))⟩
  t4 := Try.underlying4
  a4 := Try.isAgg4
  z4 := Try.sizeOf4
  v4 := Try.zeroValue4
  t22 := Try.underlying27
  a22 := Try.isAgg27
  z22 := Try.sizeOf27
  v22 := Try.zeroValue27 }
def Try.indexLb_ren : Go.Shelf.Ren := ⟨fun | 6 => 28 | n => n, fun | 22 => 33 | 24 => 39 | 3 => 3 | 0 => 0 | 4 => 4 | n => n, fun | n => n⟩
theorem Try.indexLb : Go.Proofs.SlLaysQ.n6 Try.prog Try.indexLb_ren := {
  mixed := by kernel_rfl
  f6 := ⟨Try.f28.name, by decide, Try.func28.trans (congrArg some (by kernel_rfl))⟩
  t0 := Try.underlying0
  a0 := Try.isAgg0
  z0 := Try.sizeOf0
  v0 := Try.zeroValue0
  t3 := Try.underlying3
  a3 := Try.isAgg3
  z3 := Try.sizeOf3
  v3 := Try.zeroValue3
  t4 := Try.underlying4
  a4 := Try.isAgg4
  z4 := Try.sizeOf4
  v4 := Try.zeroValue4
  t22 := Try.underlying33
  a22 := Try.isAgg33
  z22 := Try.sizeOf33
  v22 := Try.zeroValue33 }
def Try.indexFuncPl_ren : Go.Shelf.Ren := ⟨fun | 6 => 84 | n => n, fun | 22 => 27 | 23 => 41 | 25 => 111 | 3 => 3 | 0 => 0 | 4 => 4 | n => n, fun | n => n⟩
theorem Try.indexFuncPl : Go.Proofs.SlLaysH0.n6 Try.prog Try.indexFuncPl_ren := {
  mixed := by kernel_rfl
  f6 := ⟨Try.f84.name, by decide, Try.func84.trans (congrArg some (by kernel_rfl))⟩
  t0 := Try.underlying0
  a0 := Try.isAgg0
  z0 := Try.sizeOf0
  v0 := Try.zeroValue0
  t3 := Try.underlying3
  a3 := Try.isAgg3
  z3 := Try.sizeOf3
  v3 := Try.zeroValue3
  t4 := Try.underlying4
  a4 := Try.isAgg4
  z4 := Try.sizeOf4
  v4 := Try.zeroValue4
  t22 := Try.underlying27
  a22 := Try.isAgg27
  z22 := Try.sizeOf27
  v22 := Try.zeroValue27
  t25 := Try.underlying111
  a25 := Try.isAgg111
  z25 := Try.sizeOf111
  v25 := Try.zeroValue111 }
end Go.Proofs
namespace Go.Proofs.Ytikojanpbbiaiaa
set_option linter.unusedVariables false
set_option linter.unusedSimpArgs false
open Go.RowKit Go.Shelf Go.Lib
attribute [local go_sem] Oper.semAt_some
attribute [local go_sem ↓] Go.wp_at_zero Go.wp_at_succ

structure Pc where
  id : Int
  x : Int
  y : Int
  cls : ByteArray
  nm : ByteArray
  wt : Int
  ds : Int
instance : Inhabited Pc := ⟨⟨0, 0, 0, ⟨#[]⟩, ⟨#[]⟩, 0, 0⟩⟩
instance : Inhabited Lb := ⟨⟨0, 0, 0, 0, ⟨#[]⟩, 0⟩⟩
abbrev plV (p : Pc) : Value := .agg #[.int .i64 p.id, .int .i64 p.x, .int .i64 p.y, .string p.cls, .string p.nm, .int .i64 p.wt, .int .i64 p.ds]
abbrev plE : El Pc := ⟨41, 7, fun p => [.int .i64 p.id, .int .i64 p.x, .int .i64 p.y, .string p.cls, .string p.nm, .int .i64 p.wt, .int .i64 p.ds]⟩
theorem plOk : plE.Ok := ⟨fun _ => rfl, by decide, fun x u hu => by
  simp at hu
  rcases hu with rfl | rfl | rfl | rfl | rfl | rfl | rfl <;> rfl⟩
theorem plIn : plE.In Try.prog 27 := El.in_of (z := .agg #[.int .i64 0, .int .i64 0, .int .i64 0, .string ⟨#[]⟩, .string ⟨#[]⟩, .int .i64 0, .int .i64 0]) (s := 7) (bytes := 72) Try.underlying27 (by kernel_rfl) rfl (by omega) rfl
/-- what the program needs of a place -/
structure PcOk (p : Pc) : Prop where
  id : fits p.id
  x : fits p.x
  y : fits p.y
  wt : fits p.wt
  nm : p.nm.size ≤ 1000
/-- the form of a slice's value: none, or an address of a block's cells -/
def Frm (v : Value) (n : Nat) : Prop := v = .slice none 0 0 ∨ ∃ b off cap, v = .slice (some ⟨b, off, none⟩) n cap
theorem frm_row {W : World} {base : Nat} {e : TypeId} {s : Nat} {v : Value} {n : Nat} {xs : List Value} (h : W.ownsRow base e s v n xs) : Frm v n := by
  rcases h.2 with ⟨e1, -⟩ | ⟨g, cap, cur, e1, -⟩
  · exact .inl e1
  · exact .inr ⟨g, 0, cap, e1⟩
theorem Lst.flat {α : Type} {E : El α} {n₀ : Nat} {W : World} {l : List α} {b off cap : Nat} (hE : E.Ok) (h : Lst E n₀ W (.slice (some ⟨b, off, none⟩) l.length cap) l) : ∀ j u, (l.flatMap E.enc)[j]? = some u → W.cell? ⟨b, off + j, none⟩ = some u := by
  intro j u hj
  have hlt := (List.getElem?_eq_some_iff.1 hj).1
  rw [flat_length hE] at hlt
  have hs := hE.pos
  have hq : j / E.s < l.length := (Nat.div_lt_iff_lt_mul hs).2 hlt
  have hr : j % E.s < E.s := Nat.mod_lt _ hs
  obtain ⟨b', off', cap', e, -, -, hc⟩ := h.some_ (Nat.lt_of_le_of_lt (Nat.zero_le _) hq)
  simp only [Value.slice.injEq, Option.some.injEq, Addr.mk.injEq] at e
  obtain ⟨⟨rfl, rfl, -⟩, -, -⟩ := e
  have h1 := hc _ hq _ hr
  have h2 := flat_at hE l (j / E.s) (j % E.s) hq hr
  have e1 : j / E.s * E.s + j % E.s = j := by rw [Nat.mul_comm]; exact Nat.div_add_mod j E.s
  rw [Nat.add_assoc, e1, ← h2, e1, hj] at h1
  exact h1
theorem flat_one {α : Type} {E : El α} (hE : E.Ok) (l : List α) : ∀ u ∈ l.flatMap E.enc, u.oneCell' = true := by
  intro u hu
  obtain ⟨x, -, h⟩ := List.mem_flatMap.1 hu
  exact hE.one x u h
set_option maxRecDepth 100000 in
theorem clonePl_any (v : Value) (l : List Pc) (w : World) (h : Lst plE w.heap.size w v l) (hf : Frm v l.length) (hl : l.length ≤ 100000) :
    Calls Try.prog 55 #[v] w fun e w' => ∃ u, e = .returned u ∧ w'.ownsRow w.heap.size 41 7 u l.length (l.flatMap plE.enc) ∧ Below w.heap.size w w' := by
  rcases hf with rfl | ⟨b, off, cap, rfl⟩
  · obtain ⟨a, cap, e, -⟩ := h.form
    simp only [Value.slice.injEq] at e
    obtain ⟨-, e, -⟩ := e
    obtain rfl := List.eq_nil_of_length_eq_zero e.symm
    refine (AnyE.slices_Clone_nil Try.clonePl 0 0 w).mono ?_
    rintro e w' ⟨rfl, rfl⟩
    exact ⟨_, rfl, ⟨by simp, .inl ⟨rfl, rfl⟩⟩, Below.refl _ _⟩
  · obtain ⟨i0, hi0, hz0, hz1, hz2⟩ := info_parts (P := Try.prog) (e := 41) (z := .agg #[.int .i64 0, .int .i64 0, .int .i64 0, .string ⟨#[]⟩, .string ⟨#[]⟩, .int .i64 0, .int .i64 0]) (size := 7) (bytes := 72) (by kernel_rfl)
    refine (AnyE.slices_Clone Try.clonePl i0 _ 7 72 hi0 hz0 hz1 hz2 (by rfl) (by omega) Try.sizeOf41 b off l.length cap (l.flatMap plE.enc) w (flat_length plOk l) (by unfold maxLen; omega) (by omega) (h.flat plOk) (flat_one plOk l)).mono ?_
    rintro e w' ⟨u, rfl, hr, -, hb⟩
    exact ⟨u, rfl, hr, hb⟩
set_option maxRecDepth 100000 in
theorem cloneLb_any (v : Value) (l : List Lb) (w : World) (h : Lst lbE w.heap.size w v l) (hf : Frm v l.length) (hl : l.length ≤ 100000) :
    Calls Try.prog 26 #[v] w fun e w' => ∃ u, e = .returned u ∧ w'.ownsRow w.heap.size 39 6 u l.length (l.flatMap lbE.enc) ∧ Below w.heap.size w w' := by
  rcases hf with rfl | ⟨b, off, cap, rfl⟩
  · obtain ⟨a, cap, e, -⟩ := h.form
    simp only [Value.slice.injEq] at e
    obtain ⟨-, e, -⟩ := e
    obtain rfl := List.eq_nil_of_length_eq_zero e.symm
    refine (AnyE.slices_Clone_nil Try.cloneLb 0 0 w).mono ?_
    rintro e w' ⟨rfl, rfl⟩
    exact ⟨_, rfl, ⟨by simp, .inl ⟨rfl, rfl⟩⟩, Below.refl _ _⟩
  · obtain ⟨i0, hi0, hz0, hz1, hz2⟩ := info_parts (P := Try.prog) (e := 39) (z := .agg #[.int .i64 0, .int .i64 0, .int .i64 0, .int .i64 0, .string ⟨#[]⟩, .int .i64 0]) (size := 6) (bytes := 56) (by kernel_rfl)
    refine (AnyE.slices_Clone Try.cloneLb i0 _ 6 56 hi0 hz0 hz1 hz2 (by rfl) (by omega) Try.sizeOf39 b off l.length cap (l.flatMap lbE.enc) w (flat_length lbOk l) (by unfold maxLen; omega) (by omega) (h.flat lbOk) (flat_one lbOk l)).mono ?_
    rintro e w' ⟨u, rfl, hr, -, hb⟩
    exact ⟨u, rfl, hr, hb⟩
/-- where a label is found first, or -1 -/
def indL (l : List Lb) (x : Lb) : Int := idxBy (fun a b => decide (a = b)) l x
theorem eqlAtLb : EqlAt Try.prog 39 (fun x : Lb => .agg (lbE.enc x).toArray) (fun a b => decide (a = b)) := by
  refine ⟨fun a b w => ?_, fun op p q a b w => guardLb op p q _ _ w⟩
  obtain ⟨i, x, y, r, t, u⟩ := a
  obtain ⟨i2, x2, y2, r2, t2, u2⟩ := b
  refine (eqlLb i x y r u i2 x2 y2 r2 u2 t t2 w).trans ?_
  simp
set_option maxRecDepth 100000 in
theorem indexLb_any (v : Value) (l : List Lb) (x : Lb) (w : World) (h : Lst lbE w.heap.size w v l) (hf : Frm v l.length) :
    Calls Try.prog 28 #[v, lbV x] w fun e w' => e = .returned (.int .i64 (indL l x)) ∧ Below w.heap.size w w' := by
  rcases hf with rfl | ⟨b, off, cap, rfl⟩
  · obtain ⟨a, cap, e, -⟩ := h.form
    simp only [Value.slice.injEq] at e
    obtain ⟨-, e, -⟩ := e
    obtain rfl := List.eq_nil_of_length_eq_zero e.symm
    obtain ⟨i, x, y, r, t, u⟩ := x
    clear e h
    rw [show indL [] ⟨i, x, y, r, t, u⟩ = -1 from rfl]
    go_enter Try.func28, Try.ntmps28
    go_wp2_with fail
    refine wp_loop_rounds 1 ?_
    rw [rounds_succ]
    go_wp2_with fail
    go_ret
    exact ⟨rfl, (by repeat' (first | with_reducible exact Below.refl _ _ | with_reducible exact Nat.le_refl _ | with_reducible assumption | with_reducible refine Go.below_growBy' ?_ ?_ _ | with_reducible refine Below.alloc ?_ ?_ _ | with_reducible refine Below.setCell ?_ ?_ _ | with_reducible refine Below.drew ?_ | with_reducible refine Go.le_alloc ?_ | with_reducible refine Go.le_growBy ?_ | with_reducible refine Go.le_setCell ?_ | with_reducible refine Go.le_drew ?_ | omega | (dsimp only; omega)))⟩
  · have hlen := h.len
    refine (AnyQ.slices_Index Try.indexLb 6 Try.isAgg39 Try.sizeOf39 lbE.enc (fun _ => rfl) (fun a b => decide (a = b)) eqlAtLb b off l.length cap l x w (Nat.le_refl _) (by omega) ?_).mono ?_
    · intro j hj i v hv
      obtain ⟨b', off', cap', e, -, -, hc⟩ := h.some_ (by omega)
      simp only [Value.slice.injEq, Option.some.injEq, Addr.mk.injEq] at e
      obtain ⟨⟨rfl, rfl, -⟩, -, -⟩ := e
      have hi := (List.getElem?_eq_some_iff.1 hv).1
      rw [getElem!_pos l j hj] at hv
      rw [← hv]
      exact hc j hj i hi
    · rintro e w' ⟨rfl, q, rfl⟩
      rw [List.take_length]
      exact ⟨rfl, ((Below.refl _ _).alloc (Nat.le_refl _) _).trans ⟨rfl, rfl, rfl, Nat.le_refl _, fun _ _ => rfl⟩⟩
theorem radius_any (t : ByteArray) (n : Int) (hn : 3 + 2 * (t.size : Int) = n) (ht : t.size ≤ 1000) (w : World) : Calls Try.prog 35 #[.string t] w fun e w' => e = .returned (.int .i64 n) ∧ w = w' := by
  have h1 : IntKind.i64.wrap (2 * (t.size : Int)) = 2 * (t.size : Int) := wrap_in7 (by omega) (by omega)
  have h2 : IntKind.i64.wrap (3 + 2 * (t.size : Int)) = 3 + 2 * (t.size : Int) := wrap_in7 (by omega) (by omega)
  subst hn
  go_enter Try.func35, Try.ntmps35
  go_wp2_with fail
  go_ret
  exact ⟨by simp_all, rfl⟩
end Go.Proofs.Ytikojanpbbiaiaa
namespace Go.Proofs.Ytikojanpbbiaiaa
set_option linter.unusedVariables false
set_option linter.unusedSimpArgs false
open Go.RowKit Go.Shelf Go.Lib
attribute [local go_sem] Oper.semAt_some
attribute [local go_sem ↓] Go.wp_at_zero Go.wp_at_succ

set_option maxHeartbeats 1000000 in
/-- cmp.Or of two numbers -/
theorem or2_any (x y r : Int) (hr : (if x = 0 then y else x) = r) (b : Nat) (w : World) (h0 : w.cell? ⟨b, 0, none⟩ = some (.int .i64 x)) (h1 : w.cell? ⟨b, 1, none⟩ = some (.int .i64 y)) :
    Calls Try.prog 59 #[.slice (some ⟨b, 0, none⟩) 2 2] w fun e w' => e = .returned (.int .i64 r) ∧ w = w' := by
  by_cases hx : x = 0
  · subst hx
    rw [if_pos rfl] at hr
    subst hr
    by_cases hy : y = 0
    · subst hy
      go_enter Try.func59, Try.ntmps59
      go_wp2_with fail
      refine wp_loop_rounds 3 ?_
      rw [rounds_succ]
      go_wp2_with fail
      rw [rounds_succ]
      go_wp2_with fail
      rw [rounds_succ]
      go_wp2_with fail
      go_ret
      exact ⟨rfl, rfl⟩
    · go_enter Try.func59, Try.ntmps59
      go_wp2_with fail
      refine wp_loop_rounds 2 ?_
      rw [rounds_succ]
      go_wp2_with fail
      rw [rounds_succ]
      go_wp2_with fail
      go_ret
      exact ⟨rfl, rfl⟩
  · rw [if_neg hx] at hr
    subst hr
    go_enter Try.func59, Try.ntmps59
    go_wp2_with fail
    refine wp_loop_rounds 1 ?_
    rw [rounds_succ]
    go_wp2_with fail
    go_ret
    exact ⟨rfl, rfl⟩
/-- the order of places: by weight, the greatest first; then by id -/
def cmpP (a b : Pc) : Int := if compareInt b.wt a.wt = 0 then compareInt a.id b.id else compareInt b.wt a.wt
theorem compare_eq (x y r : Int) (hr : compareInt x y = r) (w : World) : Calls Try.prog 60 #[.int .i64 x, .int .i64 y] w fun e w' => e = .returned (.int .i64 r) ∧ w = w' :=
  (Go.Proofs.Try.cmp_Compare_int x y w).mono fun _ _ ⟨he, hw⟩ => ⟨by rw [he, hr], hw.symm⟩

set_option maxRecDepth 100000 in
set_option maxHeartbeats 2000000 in
theorem cmpS_any (a b : Pc) (w : World) : Calls Try.prog 58 #[plV a, plV b] w fun e w' => e = .returned (.int .i64 (cmpP a b)) ∧ Below w.heap.size w w' := by
  obtain ⟨i, x, y, c, n, wt, d⟩ := a
  obtain ⟨i2, x2, y2, c2, n2, wt2, d2⟩ := b
  obtain ⟨r, hr⟩ : ∃ r, cmpP ⟨i, x, y, c, n, wt, d⟩ ⟨i2, x2, y2, c2, n2, wt2, d2⟩ = r := ⟨_, rfl⟩
  rw [hr]
  unfold cmpP at hr
  simp only at hr
  obtain ⟨s1, h1⟩ : ∃ s, compareInt wt2 wt = s := ⟨_, rfl⟩
  obtain ⟨s2, h2⟩ : ∃ s, compareInt i i2 = s := ⟨_, rfl⟩
  rw [h1, h2] at hr
  replace h1 := Lib.hid h1
  replace h2 := Lib.hid h2
  replace hr := Lib.hid hr
  go_enter Try.func58, Try.ntmps58
  go_wp2_with fail
  first | with_reducible refine wp_region_grow_tail2 10 (by kernel_rfl) (by kernel_rfl) ?_ | with_reducible refine wp_region_grow_tail 10 (by kernel_rfl) (by kernel_rfl) ?_
  simp only [List.take_succ_cons, List.take_zero, List.drop_succ_cons, List.drop_zero]
  repeat (first | go_big_quiet_step ((go_at_call 60; exact Calls.grow_of_same (compare_eq _ _ _ (by first | with_reducible exact h1.out | with_reducible exact h2.out) _))) | quiet_step ((go_at_call 60; exact Calls.grow_of_same (compare_eq _ _ _ (by first | with_reducible exact h1.out | with_reducible exact h2.out) _))))
  refine wpQuiet_nil ?_
  intro _ hw_
  obtain ⟨p, hw_⟩ := hw_
  subst hw_
  go_wp2_with (go_at_call 59; refine (or2_any _ _ _ hr.out _ _ (by first | (simp; done) | (go_simp; done) | (simp [go_sem]; done)) (by first | (simp; done) | (go_simp; done) | (simp [go_sem]; done))).mono ?_; rintro e w' ⟨rfl, rfl⟩)
  go_ret
  exact ⟨rfl, (by repeat' (first | with_reducible exact Below.refl _ _ | with_reducible exact Nat.le_refl _ | with_reducible assumption | with_reducible refine Go.below_growBy' ?_ ?_ _ | with_reducible refine Below.alloc ?_ ?_ _ | with_reducible refine Below.setCell ?_ ?_ _ | with_reducible refine Below.drew ?_ | with_reducible refine Go.le_alloc ?_ | with_reducible refine Go.le_growBy ?_ | with_reducible refine Go.le_setCell ?_ | with_reducible refine Go.le_drew ?_ | omega | (dsimp only; omega)))⟩
set_option maxRecDepth 100000 in
set_option maxHeartbeats 2000000 in
theorem cmpQ_any (q : Value) (a b : Pc) (w : World) : Calls Try.prog 72 #[q, plV a, plV b] w fun e w' => e = .returned (.int .i64 (cmpP a b)) ∧ Below w.heap.size w w' := by
  obtain ⟨i, x, y, c, n, wt, d⟩ := a
  obtain ⟨i2, x2, y2, c2, n2, wt2, d2⟩ := b
  obtain ⟨r, hr⟩ : ∃ r, cmpP ⟨i, x, y, c, n, wt, d⟩ ⟨i2, x2, y2, c2, n2, wt2, d2⟩ = r := ⟨_, rfl⟩
  rw [hr]
  unfold cmpP at hr
  simp only at hr
  obtain ⟨s1, h1⟩ : ∃ s, compareInt wt2 wt = s := ⟨_, rfl⟩
  obtain ⟨s2, h2⟩ : ∃ s, compareInt i i2 = s := ⟨_, rfl⟩
  rw [h1, h2] at hr
  replace h1 := Lib.hid h1
  replace h2 := Lib.hid h2
  replace hr := Lib.hid hr
  go_enter Try.func72, Try.ntmps72
  go_wp2_with fail
  first | with_reducible refine wp_region_grow_tail2 10 (by kernel_rfl) (by kernel_rfl) ?_ | with_reducible refine wp_region_grow_tail 10 (by kernel_rfl) (by kernel_rfl) ?_
  simp only [List.take_succ_cons, List.take_zero, List.drop_succ_cons, List.drop_zero]
  repeat (first | go_big_quiet_step ((go_at_call 60; exact Calls.grow_of_same (compare_eq _ _ _ (by first | with_reducible exact h1.out | with_reducible exact h2.out) _))) | quiet_step ((go_at_call 60; exact Calls.grow_of_same (compare_eq _ _ _ (by first | with_reducible exact h1.out | with_reducible exact h2.out) _))))
  refine wpQuiet_nil ?_
  intro _ hw_
  obtain ⟨p, hw_⟩ := hw_
  subst hw_
  go_wp2_with (go_at_call 59; refine (or2_any _ _ _ hr.out _ _ (by first | (simp; done) | (go_simp; done) | (simp [go_sem]; done)) (by first | (simp; done) | (go_simp; done) | (simp [go_sem]; done))).mono ?_; rintro e w' ⟨rfl, rfl⟩)
  go_ret
  exact ⟨rfl, (by repeat' (first | with_reducible exact Below.refl _ _ | with_reducible exact Nat.le_refl _ | with_reducible assumption | with_reducible refine Go.below_growBy' ?_ ?_ _ | with_reducible refine Below.alloc ?_ ?_ _ | with_reducible refine Below.setCell ?_ ?_ _ | with_reducible refine Below.drew ?_ | with_reducible refine Go.le_alloc ?_ | with_reducible refine Go.le_growBy ?_ | with_reducible refine Go.le_setCell ?_ | with_reducible refine Go.le_drew ?_ | omega | (dsimp only; omega)))⟩
/-- whether a place has no name -/
def noName (p : Pc) : Bool := decide (p.nm = ⟨#[]⟩)
theorem eq_empty (n : ByteArray) : (decide (n.toList = (⟨#[]⟩ : ByteArray).toList)) = decide (n = ⟨#[]⟩) := decide_eq_decide.2 (by rw [str_list])
theorem noNameS_any (p : Pc) (w : World) : Calls Try.prog 56 #[plV p] w fun e w' => e = .returned (.bool (noName p)) ∧ Below w.heap.size w w' := by
  obtain ⟨i, x, y, c, n, wt, d⟩ := p
  obtain ⟨r, hr⟩ : ∃ r, noName ⟨i, x, y, c, n, wt, d⟩ = r := ⟨_, rfl⟩
  rw [hr]
  unfold noName at hr
  simp only at hr
  rw [← eq_empty] at hr
  replace hr := Lib.hid hr
  go_enter Try.func56, Try.ntmps56
  go_wp2_with fail
  go_ret
  exact ⟨by rw [← hr.out]; first | rfl | exact congrArg (fun b => Ending.returned (.bool b)) (by rw [Bool.eq_iff_iff]; simp) | simp, (by repeat' (first | with_reducible exact Below.refl _ _ | with_reducible exact Nat.le_refl _ | with_reducible assumption | with_reducible refine Go.below_growBy' ?_ ?_ _ | with_reducible refine Below.alloc ?_ ?_ _ | with_reducible refine Below.setCell ?_ ?_ _ | with_reducible refine Below.drew ?_ | with_reducible refine Go.le_alloc ?_ | with_reducible refine Go.le_growBy ?_ | with_reducible refine Go.le_setCell ?_ | with_reducible refine Go.le_drew ?_ | omega | (dsimp only; omega)))⟩
theorem noNameQ_any (p : Pc) (w : World) : Calls Try.prog 70 #[plV p] w fun e w' => e = .returned (.bool (noName p)) ∧ Below w.heap.size w w' := by
  obtain ⟨i, x, y, c, n, wt, d⟩ := p
  obtain ⟨r, hr⟩ : ∃ r, noName ⟨i, x, y, c, n, wt, d⟩ = r := ⟨_, rfl⟩
  rw [hr]
  unfold noName at hr
  simp only at hr
  rw [← eq_empty] at hr
  replace hr := Lib.hid hr
  go_enter Try.func70, Try.ntmps70
  go_wp2_with fail
  go_ret
  exact ⟨by rw [← hr.out]; first | rfl | exact congrArg (fun b => Ending.returned (.bool b)) (by rw [Bool.eq_iff_iff]; simp) | simp, (by repeat' (first | with_reducible exact Below.refl _ _ | with_reducible exact Nat.le_refl _ | with_reducible assumption | with_reducible refine Go.below_growBy' ?_ ?_ _ | with_reducible refine Below.alloc ?_ ?_ _ | with_reducible refine Below.setCell ?_ ?_ _ | with_reducible refine Below.drew ?_ | with_reducible refine Go.le_alloc ?_ | with_reducible refine Go.le_growBy ?_ | with_reducible refine Go.le_setCell ?_ | with_reducible refine Go.le_drew ?_ | omega | (dsimp only; omega)))⟩
end Go.Proofs.Ytikojanpbbiaiaa
