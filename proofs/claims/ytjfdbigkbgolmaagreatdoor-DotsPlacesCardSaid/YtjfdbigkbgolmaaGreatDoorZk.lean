/-
  Chapter 29: hachureref08.Made: some ways, small ones: what it calls.
  Chapter 29: hachureref08.Made: the worlds of its walk.
-/
import Derived.Test.YtjfdbigkbgolmaaGreatDoorZm
import Derived.Test.YtjfdbigkbgolmaaGreatDoorZl
import Derived.Test.YtjfdbigkbgolmaaGreatDoorZe
import Derived.Test.YtjfdbigkbgolmaaGreatDoorZd
import Derived.Deep.RegionLaw
import Derived.Deep.DrawnRows
import Derived.Deep.CutBlock
import Derived.Deep.DeepCutAuto
namespace Go.Proofs.YtjfdbigkbgolmaaGreatDoor
set_option linter.unusedVariables false
set_option linter.unusedSimpArgs false
open Go.RowKit Go.Shelf
attribute [local go_sem] Oper.semAt_some
attribute [local go_sem ↓] Go.wp_at_zero Go.wp_at_succ

/-- a point of the small grid -/
structure Small (p : Spot) : Prop where
  x0 : 0 ≤ p.1
  x1 : p.1 ≤ 20
  y0 : 0 ≤ p.2
  y1 : p.2 ≤ 20

theorem spot_any (n : Int) (w : World) (h0 : 0 ≤ n) (h1 : n < 9) :
    Calls Tryz.prog 42 #[.int .i64 n] w fun e w' => (∃ x y, e = .returned (.agg #[.int .i64 x, .int .i64 y]) ∧ Small (x, y)) ∧ Below w.heap.size w w' := by
  have a1 := Int.tmod_nonneg 3 h0
  have a2 := Int.tmod_lt_of_pos n (b := 3) (by omega)
  have b1 := Int.tdiv_nonneg (a := n) (b := 3) h0 (by omega)
  have b2 : n.tdiv 3 ≤ 2 := by rw [Int.tdiv_eq_ediv_of_nonneg h0]; omega
  go_enter Tryz.func42, Tryz.ntmps42
  go_wp2_with fail
  exact bodyPost_ret (results_cell_row (by rfl) _ _ w.heap.size 25 #[.int .i64 (10 * (n % 3)), .int .i64 (10 * n.tdiv 3)] (0, 0) _ (by rfl) (Blk.new w _ _) Tryz.underlying25 (by rfl) (by kernel_rfl)) rfl ⟨⟨_, _, rfl, ⟨by simp only; omega, by simp only; omega, by simp only; omega, by simp only; omega⟩⟩, (by repeat' (first | with_reducible exact Below.refl _ _ | with_reducible exact Nat.le_refl _ | with_reducible assumption | with_reducible refine Go.below_growBy' ?_ ?_ _ | with_reducible refine Below.alloc ?_ ?_ _ | with_reducible refine Below.setCell ?_ ?_ _ | with_reducible refine Below.drew ?_ | with_reducible refine Go.le_alloc ?_ | with_reducible refine Go.le_growBy ?_ | with_reducible refine Go.le_setCell ?_ | with_reducible refine Go.le_drew ?_ | omega | (dsimp only; omega)))⟩

/-- the worlds of Made's walk: the draw's box -/
structure DW (n₀ : Nat) (w : World) (sv : Value) (xs : List Int) (K : Nat) (W : World) : Prop where
  bD : ∃ j, j ≤ K ∧ Blk W n₀ #[sv, .int .i64 (min j xs.length : Nat)] 66
  below : Below n₀ w W
  ints : Ints n₀ W sv xs
theorem DW.kept {n₀ : Nat} {w W W' : World} {sv : Value} {xs : List Int} {K : Nat} {row : Option Nat} (h : DW n₀ w sv xs K W) (hg : W.grownBy W' row) (hr : ∀ r, row = some r → n₀ < r) : DW n₀ w sv xs K W' := by
  obtain ⟨⟨j, hj, hD⟩, hB, hI⟩ := h
  have hlt := hD.lt
  have hb : Below n₀ W W' := Below.of_grown hg (by omega) (fun r e => by have := hr r e; omega)
  exact ⟨⟨j, hj, hD.kept hg (fun e => by have := hr _ e; omega)⟩, hB.trans hb, hI.below hb⟩
theorem DW.lt {n₀ : Nat} {w W : World} {sv : Value} {xs : List Int} {K : Nat} (h : DW n₀ w sv xs K W) : n₀ < W.heap.size := by obtain ⟨⟨j, hj, hD⟩, -⟩ := h; exact hD.lt
theorem DW.alloc {n₀ : Nat} {w W : World} {sv : Value} {xs : List Int} {K : Nat} (h : DW n₀ w sv xs K W) (o : Obj) : DW n₀ w sv xs K (W.alloc o) := h.kept (World.grownBy_alloc W o none) (by simp)
theorem DW.drew {n₀ : Nat} {w W : World} {sv : Value} {xs : List Int} {K : Nat} (h : DW n₀ w sv xs K W) : DW n₀ w sv xs K W.drew := by
  obtain ⟨⟨j, hj, hD⟩, hB, hI⟩ := h
  exact ⟨⟨j, hj, hD.drew⟩, hB.drew, hI⟩
theorem DW.below' {n₀ : Nat} {w W W' : World} {sv : Value} {xs : List Int} {K : Nat} (h : DW n₀ w sv xs K W) (hb : Below W.heap.size W W') : DW n₀ w sv xs K W' := h.kept (grownBy_of_below hb) (by simp)
theorem DW.call {n₀ : Nat} {w W : World} {sv : Value} {xs : List Int} {K : Nat} (h : DW n₀ w sv xs K W) (hk : K ≤ 1000) (m : Int) (hm1 : 1 ≤ m) (hm2 : m ≤ 4611686018427387904) :
    Calls Tryz.prog 22 #[.pointer (some ⟨n₀, 0, none⟩), .int .i64 m] W fun e W' => ∃ v, e = .returned (.int .i64 v) ∧ 0 ≤ v ∧ v < m ∧ DW n₀ w sv xs (K + 1) W' ∧ W.grownBy W' (some n₀) := by
  obtain ⟨⟨j, hj, hD⟩, hB, hI⟩ := h
  refine (next_any n₀ n₀ j xs sv m _ W rfl hm1 hm2 (Nat.le_refl _) hI hD (by omega)).mono ?_
  rintro e W' ⟨p, rfl, rfl⟩
  have hlt := hD.lt
  have hn := nextF_in xs j hm1
  have hg := setCell_grown W n₀ 1 (.int .i64 (min (j + 1) xs.length : Nat)) p
  have hb : Below n₀ W ((W.setCell ⟨n₀, 1, none⟩ (.int .i64 (min (j + 1) xs.length : Nat))).growBy p) := Below.of_grown hg (by omega) (fun r e => by cases e; omega)
  refine ⟨_, rfl, hn.1, hn.2, ⟨⟨j + 1, by omega, ?_⟩, hB.trans hb, hI.below hb⟩, hg⟩
  have := (hD.set 1 (.int .i64 (min (j + 1) xs.length : Nat))).grow p
  simpa using this
end Go.Proofs.YtjfdbigkbgolmaaGreatDoor
namespace Go.Proofs.YtjfdbigkbgolmaaGreatDoor
set_option linter.unusedVariables false
set_option linter.unusedSimpArgs false
open Go.RowKit Go.Shelf

def Wy.cellL (y : Wy) : List Value := [.int .i64 y.id, y.lv, .int .i64 y.lvl, .string y.cls, .string y.nm, .bool y.st, .int .i64 y.wt, .int .i64 y.di]
/-- a way that Made makes -/
structure GoodW (y : Wy) : Prop where
  id : fits y.id
  len : y.line.length ≤ 3
  small : ∀ p ∈ y.line, Small p

theorem flat_at {α : Type} (f : α → List Value) (s : Nat) (hf : ∀ x, (f x).length = s) : ∀ (l : List α) (j i : Nat) (h : j < l.length), i < s → (l.flatMap f)[j * s + i]? = (f l[j])[i]?
  | [], j, i, h, _ => by simp at h
  | x :: l, 0, i, _, hi => by
    rw [List.flatMap_cons, Nat.zero_mul, Nat.zero_add, List.getElem?_append_left (by rw [hf]; exact hi)]
    rfl
  | x :: l, j + 1, i, h, hi => by
    have ih := flat_at f s hf l j i (by simpa using h) hi
    rw [List.flatMap_cons, List.getElem?_append_right (by rw [hf, Nat.succ_mul]; omega), hf, show (j + 1) * s + i - s = j * s + i from by rw [Nat.succ_mul]; omega, ih]
    rfl
theorem pts_of_row {base : Nat} {W : World} {v : Value} {ps : List Spot} (h : W.ownsRow base 25 2 v ps.length (ps.flatMap encS)) : Pts W.heap.size W v ps := by
  rcases h.2 with ⟨rfl, h0⟩ | ⟨g, cap, cur, rfl, hbase, hgb, _⟩
  · rw [List.eq_nil_of_length_eq_zero h0]
    exact ⟨none, 0, rfl, fun j hj => by simp at hj⟩
  · refine ⟨_, cap, rfl, fun j hj => ⟨g, 0, rfl, (Array.getElem?_eq_some_iff.1 hgb).1, ?_, ?_⟩⟩
    · have h1 := flat_at encS 2 (fun _ => rfl) ps j 0 hj (by omega)
      rw [Nat.zero_add]
      exact (h.cellAt (j * 2) (by omega)).trans h1
    · have h1 := flat_at encS 2 (fun _ => rfl) ps j 1 hj (by omega)
      rw [Nat.zero_add]
      exact (h.cellAt (j * 2 + 1) (by omega)).trans h1
theorem wys_of_row {base : Nat} {W : World} {v : Value} {ys : List Wy} (h : W.ownsRow base 62 8 v ys.length (ys.flatMap Wy.cellL)) (hl : ∀ y ∈ ys, W.ownsRow base 25 2 y.lv y.line.length (y.line.flatMap encS)) : Wys W.heap.size W v ys := by
  rcases h.2 with ⟨rfl, h0⟩ | ⟨g, cap, cur, rfl, hbase, hgb, _⟩
  · rw [List.eq_nil_of_length_eq_zero h0]
    exact ⟨none, 0, rfl, fun j hj => by simp at hj⟩
  · refine ⟨_, cap, rfl, fun j hj => ⟨g, 0, rfl, (Array.getElem?_eq_some_iff.1 hgb).1, ?_⟩⟩
    have hc : ∀ i, i < 8 → W.cell? ⟨g, j * 8 + i, none⟩ = ys[j].cellL[i]? := fun i hi => (h.cellAt (j * 8 + i) (by omega)).trans (flat_at Wy.cellL 8 (fun _ => rfl) ys j i hj hi)
    rw [Nat.zero_add]
    exact ⟨hc 0 (by omega), hc 1 (by omega), hc 2 (by omega), hc 3 (by omega), hc 4 (by omega), hc 5 (by omega), hc 6 (by omega), hc 7 (by omega), pts_of_row (hl _ (List.getElem_mem hj))⟩

/-- a row of the call's own, of another block, stays -/
theorem row_kept {W W' : World} {base n₀ : Nat} {e : TypeId} {size : Nat} {v : Value} {k : Nat} {xs : List Value} {row : Option Nat} (h : W.ownsRow base e size v k xs) (hg : W.grownBy W' row) (hb : n₀ < base) (hr : ∀ r, row = some r → r = n₀) : W'.ownsRow base e size v k xs := by
  refine h.kept hg ?_
  rcases h.2 with ⟨rfl, _⟩ | ⟨g, cap, cur, rfl, hbase, _⟩
  · exact .inl rfl
  · refine .inr fun e' => ?_
    have := hr g (by simpa [Value.ownBlock] using e'.symm)
    omega

/-- the worlds of Made's walk -/
structure MR (n₀ : Nat) (w : World) (sv : Value) (xs : List Int) (K : Nat) (v : Value) (ys : List Wy) (W : World) : Prop where
  dw : DW n₀ w sv xs K W
  row : W.ownsRow (n₀ + 1) 62 8 v ys.length (ys.flatMap Wy.cellL)
  lines : ∀ y ∈ ys, W.ownsRow (n₀ + 1) 25 2 y.lv y.line.length (y.line.flatMap encS)
variable {n₀ K : Nat} {w W W' : World} {sv v : Value} {xs : List Int} {ys : List Wy}
theorem MR.grown (h : MR n₀ w sv xs K v ys W) (hg : W.grownBy W' none) : MR n₀ w sv xs K v ys W' :=
  ⟨h.dw.kept hg (by simp), row_kept h.row hg (Nat.lt_succ_self _) (by simp), fun y hy => row_kept (h.lines y hy) hg (Nat.lt_succ_self _) (by simp)⟩
theorem MR.alloc (h : MR n₀ w sv xs K v ys W) (o : Obj) : MR n₀ w sv xs K v ys (W.alloc o) := h.grown (World.grownBy_alloc W o none)
theorem drew_grown (W : World) : W.grownBy W.drew none := ⟨rfl, rfl, rfl, Nat.le_refl _, fun _ _ _ => rfl⟩
theorem MR.drew (h : MR n₀ w sv xs K v ys W) : MR n₀ w sv xs K v ys W.drew := h.grown (drew_grown W)
theorem MR.more {K' : Nat} (h : MR n₀ w sv xs K v ys W) (hK : K ≤ K') : MR n₀ w sv xs K' v ys W := by
  obtain ⟨⟨⟨j, hj, hD⟩, h2, h3⟩, h4, h5⟩ := h
  exact ⟨⟨⟨j, by omega, hD⟩, h2, h3⟩, h4, h5⟩
theorem MR.call (h : MR n₀ w sv xs K v ys W) (hk : K ≤ 1000) (m : Int) (hm1 : 1 ≤ m) (hm2 : m ≤ 4611686018427387904) :
    Calls Tryz.prog 22 #[.pointer (some ⟨n₀, 0, none⟩), .int .i64 m] W fun e W' => ∃ x, e = .returned (.int .i64 x) ∧ 0 ≤ x ∧ x < m ∧ MR n₀ w sv xs (K + 1) v ys W' ∧ W.grownBy W' (some n₀) := by
  refine (h.dw.call hk m hm1 hm2).mono ?_
  rintro e W' ⟨x, rfl, h0, h1, h2, hg⟩
  exact ⟨x, rfl, h0, h1, ⟨h2, row_kept h.row hg (Nat.lt_succ_self _) (fun r e => by cases e; rfl), fun y hy => row_kept (h.lines y hy) hg (Nat.lt_succ_self _) (fun r e => by cases e; rfl)⟩, hg⟩
theorem MR.lt (h : MR n₀ w sv xs K v ys W) : n₀ < W.heap.size := h.dw.lt

abbrev pathS : Value := .string ⟨#[112, 97, 116, 104]⟩
abbrev wyC (id : Int) (lv : Value) (lvl wt : Int) (stb : Bool) : Array Value := #[.int .i64 id, lv, .int .i64 lvl, pathS, .string ⟨#[]⟩, .bool stb, .int .i64 wt, .int .i64 1]
theorem row_one {X : World} {L : Nat} {x y : Int} (h : Blk X L #[.int .i64 x, .int .i64 y] 25) (hb : n₀ < L) : X.ownsRow (n₀ + 1) 25 2 (.slice (some ⟨L, 0, none⟩) 1 1) [((x, y) : Spot)].length ([((x, y) : Spot)].flatMap encS) :=
  ⟨rfl, .inr ⟨L, 1, _, rfl, hb, h, Nat.le_refl _, by unfold maxLen; omega, rfl, rfl⟩⟩
theorem setCell_grown0 (W : World) (b i : Nat) (v : Value) : W.grownBy (W.setCell ⟨b, i, none⟩ v) (some b) :=
  ⟨rfl, rfl, rfl, by simp, fun k hk hne => Below.heap_setCell _ _ _ _ (fun e => hne (by rw [e]))⟩
/-- two rows of other types lie apart -/
theorem rows_apart {W : World} {b1 b2 : Nat} {e1 e2 : TypeId} {s1 s2 k1 k2 : Nat} {v1 v2 : Value} {x1 x2 : List Value} (h1 : W.ownsRow b1 e1 s1 v1 k1 x1) (h2 : W.ownsRow b2 e2 s2 v2 k2 x2) (hne : e1 ≠ e2) : ∀ r, v2.ownBlock = some r → v1.ownBlock ≠ some r := by
  intro r hr hr1
  rcases h1.2 with ⟨rfl, _⟩ | ⟨g, cap, cur, rfl, _, hgb, _⟩
  · cases hr1
  · rcases h2.2 with ⟨rfl, _⟩ | ⟨g', cap', cur', rfl, _, hgb', _⟩
    · cases hr
    · cases hr
      cases hr1
      rw [hgb] at hgb'
      cases hgb'
      exact hne rfl
theorem row_other {W W' : World} {b1 : Nat} {e1 : TypeId} {s1 k1 : Nat} {v1 : Value} {x1 : List Value} {row : Option Nat} (h1 : W.ownsRow b1 e1 s1 v1 k1 x1) (hg : W.grownBy W' row) (hr : ∀ r, row = some r → v1.ownBlock ≠ some r) : W'.ownsRow b1 e1 s1 v1 k1 x1 := by
  refine h1.kept hg ?_
  rcases h1.2 with ⟨rfl, _⟩ | ⟨g, cap, cur, rfl, _⟩
  · exact .inl rfl
  · exact .inr fun e' => hr g (by simpa [Value.ownBlock] using e'.symm) rfl
theorem blk_apart {W : World} {b1 B : Nat} {e1 t : TypeId} {s1 k1 : Nat} {v1 : Value} {x1 : List Value} {c : Array Value} (h1 : W.ownsRow b1 e1 s1 v1 k1 x1) (hB : Blk W B c t) (hne : e1 ≠ t) : v1.ownBlock ≠ some B :=
  ownsRow_other h1 hB (fun e => hne e.symm)

/-- .. with a way under way, in a box -/
structure MP (n₀ : Nat) (w : World) (sv : Value) (xs : List Int) (K : Nat) (v : Value) (ys : List Wy) (B : Nat) (id : Int) (lv : Value) (lvl wt : Int) (stb : Bool) (ps : List Spot) (W : World) : Prop where
  mr : MR n₀ w sv xs K v ys W
  box : Blk W B (wyC id lv lvl wt stb) 62
  far : n₀ < B
  own : v.ownBlock ≠ some B
  line : W.ownsRow (n₀ + 1) 25 2 lv ps.length (ps.flatMap encS)
  apart : ∀ y ∈ ys, ∀ r, lv.ownBlock = some r → y.lv.ownBlock ≠ some r
variable {B : Nat} {id lvl wt : Int} {lv : Value} {stb : Bool} {ps : List Spot}
theorem MP.grown (h : MP n₀ w sv xs K v ys B id lv lvl wt stb ps W) (hg : W.grownBy W' none) : MP n₀ w sv xs K v ys B id lv lvl wt stb ps W' :=
  ⟨h.mr.grown hg, h.box.kept hg (by simp), h.far, h.own, row_kept h.line hg (Nat.lt_succ_self _) (by simp), h.apart⟩
theorem MP.alloc (h : MP n₀ w sv xs K v ys B id lv lvl wt stb ps W) (o : Obj) : MP n₀ w sv xs K v ys B id lv lvl wt stb ps (W.alloc o) := h.grown (World.grownBy_alloc W o none)
theorem MP.drew (h : MP n₀ w sv xs K v ys B id lv lvl wt stb ps W) : MP n₀ w sv xs K v ys B id lv lvl wt stb ps W.drew := h.grown (drew_grown W)
theorem MP.more {K' : Nat} (h : MP n₀ w sv xs K v ys B id lv lvl wt stb ps W) (hK : K ≤ K') : MP n₀ w sv xs K' v ys B id lv lvl wt stb ps W := ⟨h.mr.more hK, h.box, h.far, h.own, h.line, h.apart⟩
theorem MP.call (h : MP n₀ w sv xs K v ys B id lv lvl wt stb ps W) (hk : K ≤ 1000) (m : Int) (hm1 : 1 ≤ m) (hm2 : m ≤ 4611686018427387904) :
    Calls Tryz.prog 22 #[.pointer (some ⟨n₀, 0, none⟩), .int .i64 m] W fun e W' => ∃ x, e = .returned (.int .i64 x) ∧ 0 ≤ x ∧ x < m ∧ MP n₀ w sv xs (K + 1) v ys B id lv lvl wt stb ps W' ∧ W.grownBy W' (some n₀) := by
  refine (h.mr.call hk m hm1 hm2).mono ?_
  rintro e W' ⟨x, rfl, h0, h1, h2, hg⟩
  have hf := h.far
  exact ⟨x, rfl, h0, h1, ⟨h2, h.box.kept hg (fun e => by cases e; omega), hf, h.own, row_kept h.line hg (Nat.lt_succ_self _) (fun r e => by cases e; rfl), h.apart⟩, hg⟩
/-- a store into the box -/
theorem MR.set {c : Array Value} (h : MR n₀ w sv xs K v ys W) (hB : Blk W B c 62) (hf : n₀ < B) (hne : v.ownBlock ≠ some B) (i : Nat) (x : Value) : MR n₀ w sv xs K v ys (W.setCell ⟨B, i, none⟩ x) := by
  have hg := setCell_grown0 W B i x
  exact ⟨h.dw.kept hg (fun r e => by cases e; exact hf), row_other h.row hg (fun r e => by cases e; exact hne), fun y hy => row_other (h.lines y hy) hg (fun r e => by cases e; exact blk_apart (h.lines y hy) hB (by decide))⟩
theorem MP.set (h : MP n₀ w sv xs K v ys B id lv lvl wt stb ps W) {id' lvl' wt' : Int} {lv' : Value} {stb' : Bool} (i : Nat) (x : Value) (hc : (wyC id lv lvl wt stb).setIfInBounds i x = wyC id' lv' lvl' wt' stb') (hl : lv' = lv) :
    MP n₀ w sv xs K v ys B id' lv' lvl' wt' stb' ps (W.setCell ⟨B, i, none⟩ x) := by
  subst hl
  have hg := setCell_grown0 W B i x
  exact ⟨h.mr.set h.box h.far h.own i x, by rw [← hc]; exact h.box.set i x, h.far, h.own, row_other h.line hg (fun r e => by cases e; exact blk_apart h.line h.box (by decide)), h.apart⟩
/-- the line's append, and its store -/
theorem MP.appended {g cap : Nat} {p : Spot} (h : MP n₀ w sv xs K v ys B id lv lvl wt stb ps W) (hg : W.grownBy W' lv.ownBlock) (hown : W'.ownsRow (n₀ + 1) 25 2 (.slice (some ⟨g, 0, none⟩) (ps.length + 1) cap) (ps.length + 1) (ps.flatMap encS ++ encS p))
    (hat : lv.ownBlock = some g ∨ g = W.heap.size) :
    MP n₀ w sv xs K v ys B id (.slice (some ⟨g, 0, none⟩) (ps.length + 1) cap) lvl wt stb (ps ++ [p]) (W'.setCell ⟨B, 1, none⟩ (.slice (some ⟨g, 0, none⟩) (ps.length + 1) cap)) := by
  have hB' := h.box.kept hg (blk_apart h.line h.box (by decide))
  have hlt : ∀ r, lv.ownBlock = some r → n₀ < r := fun r e => by have := (h.line.lt r e).1; omega
  have hM' : MR n₀ w sv xs K v ys W' := ⟨h.mr.dw.kept hg hlt, row_other h.mr.row hg (rows_apart h.mr.row h.line (by decide)), fun y hy => row_other (h.mr.lines y hy) hg (h.apart y hy)⟩
  have hs := setCell_grown0 W' B 1 (.slice (some ⟨g, 0, none⟩) (ps.length + 1) cap)
  refine ⟨hM'.set hB' h.far h.own _ _, by have := hB'.set 1 (.slice (some ⟨g, 0, none⟩) (ps.length + 1) cap); simpa using this, h.far, h.own, ?_, fun y hy r e => ?_⟩
  · rw [List.length_append, List.flatMap_append]
    have h1 := row_other hown hs (fun r e => by cases e; exact blk_apart hown hB' (by decide))
    simpa using h1
  · cases e
    rcases hat with hat | rfl
    · exact h.apart y hy _ hat
    · exact fun e => Nat.lt_irrefl _ ((h.mr.lines y hy).lt _ e).2
theorem blk_news {X : World} {P : Nat} {x y : Int} (h : Blk X P #[.int .i64 x, .int .i64 y] 25) : ∀ j u, (encS (x, y))[j]? = some u → X.cell? ((⟨P, 0, none⟩ : Addr).add j) = some u := fun j u hj => by
  rw [Go.WideShapes.add_plain, Nat.zero_add]
  match j, hj with
  | 0, hj => exact (h.cell 0).trans hj
  | 1, hj => exact (h.cell 1).trans hj
  | j + 2, hj => simp at hj
theorem encS_one (p : Spot) : ∀ u ∈ encS p, u.oneCell' = true := by simp [Value.oneCell']
/-- out = append(out, w) -/
theorem MP.outed {g cap : Nat} {c : Array Value} {W2 : World} {o : Obj} (h : MP n₀ w sv xs K v ys B id lv lvl wt stb ps W) (hg : (W.alloc o).grownBy W2 v.ownBlock)
    (hown : W2.ownsRow (n₀ + 1) 62 8 (.slice (some ⟨g, 0, none⟩) (ys.length + 1) cap) (ys.length + 1) (ys.flatMap Wy.cellL ++ (wyC id lv lvl wt stb).toList)) :
    MR n₀ w sv xs K (.slice (some ⟨g, 0, none⟩) (ys.length + 1) cap) (ys ++ [⟨id, ps, lv, lvl, ⟨#[112, 97, 116, 104]⟩, ⟨#[]⟩, stb, wt, 1⟩]) W2 := by
  have hA := h.alloc o
  have hlt : ∀ r, v.ownBlock = some r → n₀ < r := fun r e => by have := (h.mr.row.lt r e).1; omega
  refine ⟨hA.mr.dw.kept hg hlt, ?_, fun y hy => ?_⟩
  · rw [List.length_append, List.flatMap_append]
    simpa [Wy.cellL] using hown
  · rcases List.mem_append.1 hy with hy | hy
    · exact row_other (hA.mr.lines y hy) hg (rows_apart (hA.mr.lines y hy) hA.mr.row (by decide))
    · obtain rfl := List.mem_singleton.1 hy
      exact row_other hA.line hg (rows_apart hA.line hA.mr.row (by decide))
end Go.Proofs.YtjfdbigkbgolmaaGreatDoor
