/-
  Chapter 29: hachureref29.Place, walked.
-/
import Derived.Test.YtjfdbigkbgolmaaGreatDoorZW
import Derived.Test.YtjfdbigkbgolmaaGreatDoorZU
import Derived.Test.YtjfdbigkbgolmaaGreatDoorZV
import Derived.Test.YtjfdbigkbgolmaaGreatDoorZR
import Derived.Test.YtjfdbigkbgolmaaGreatDoorZB

namespace Go.Proofs.YtjfdbigkbgolmaaGreatDoor
set_option linter.unusedVariables false
set_option linter.unusedSimpArgs false
open Go.RowKit Go.Shelf
attribute [local go_sem] Oper.semAt_some
attribute [local go_sem ↓] Go.wp_at_zero Go.wp_at_succ

theorem rof_eq {s : Sh} {x y i j : Int} {b : Bool} (h : ofS s x y = (i, j, b)) (w : World) :
    Calls Tryz.prog 35 #[shV s, .agg #[.int .i64 x, .int .i64 y]] w fun e w' => e = .returned (.tuple #[.int .i64 i, .int .i64 j, .bool b]) ∧ Below w.heap.size w w' := by
  have h2 := rof_any s x y w
  rw [h] at h2
  exact h2
theorem symbol_eq {cls : ByteArray} {x y : Int} {m : Nat} {b : Bool} (hb : symF m x y = b) (hm : m < 7) (hsum : (sumB cls.data.toList).tmod 7 = m) (hcl : cls.size ≤ 1048576) (w : World) :
    Calls Tryz.prog 36 #[.string cls, .int .i64 x, .int .i64 y] w fun e w' => e = .returned (.bool b) ∧ w = w' := by
  rw [← hb]
  exact symbol_any cls x y m hm hsum hcl w
theorem shC9 {W : World} {B : Nat} {a b c d e f : Int} (h : Blk W B (shC ⟨a, b, c, d, e, f⟩) 29) : W.cell? ⟨B, 0, none⟩ = some (.int .i64 a) ∧ W.cell? ⟨B, 1, none⟩ = some (.int .i64 b) ∧ W.cell? ⟨B, 2, none⟩ = some (.int .i64 c) ∧ W.cell? ⟨B, 3, none⟩ = some (.int .i64 d) ∧ W.cell? ⟨B, 4, none⟩ = some (.int .i64 e) ∧ W.cell? ⟨B, 5, none⟩ = some (.int .i64 f) :=
  ⟨h.cell 0, h.cell 1, h.cell 2, h.cell 3, h.cell 4, h.cell 5⟩
theorem symSpot_eq (i j : Int) (t u : Nat) (hu : u < 3) : symSpot i j (3 * t + u) = (i + ((u : Int) - 1), j + ((t : Int) - 1)) := by
  unfold symSpot
  rw [Int.tmod_eq_emod_of_nonneg (by omega), Int.tdiv_eq_ediv_of_nonneg (by omega)]
  congr 1 <;> omega
theorem cellSpot_eq (i j : Int) (k n : Nat) (hn : n < 6) : cellSpot i j k n = (i + 3 + 3 * (k : Int) + (n : Int).tdiv 3, j + 1 - (n : Int).tmod 3) := rfl

/-- the cells' bytes -/
theorem outB_byte (s : ByteArray) (hd : Digs s) : ∀ n, n ≤ s.size → ∀ c ∈ outB s n, c.toNat = 60 ∨ c.toNat = 26 ∨ c.toNat = 1 ∨ c.toNat = 3 ∨ c.toNat = 9 ∨ c.toNat = 25 ∨ c.toNat = 17 ∨ c.toNat = 11 ∨ c.toNat = 27 ∨ c.toNat = 19 ∨ c.toNat = 10
  | 0, _, c, hc => by cases hc
  | n + 1, h, c, hc => by
    unfold outB at hc
    rcases List.mem_append.1 hc with hc | hc
    · split at hc
      · rw [List.mem_singleton.1 hc]
        exact .inl rfl
      · exact outB_byte s hd n (by omega) c hc
    · rw [List.mem_singleton.1 hc]
      obtain ⟨h0, h1⟩ := hd n (by omega)
      have hg : s[n]! = s[n]'(by omega) := getElem!_pos s n (by omega)
      rw [hg]
      obtain ⟨k, hk⟩ : ∃ k, (s[n]'(by omega)).toNat = k := ⟨_, rfl⟩
      rw [hk] at h0 h1 ⊢
      rcases (show k = 48 ∨ k = 49 ∨ k = 50 ∨ k = 51 ∨ k = 52 ∨ k = 53 ∨ k = 54 ∨ k = 55 ∨ k = 56 ∨ k = 57 from by omega) with rfl | rfl | rfl | rfl | rfl | rfl | rfl | rfl | rfl | rfl <;> decide
def cellsN (n : Nat) : ByteArray := ⟨(outB (txtN n) (txtN n).size).toArray⟩
theorem cellsN_size (n : Nat) : (cellsN n).size = (outB (txtN n) (txtN n).size).length := by
  show (outB (txtN n) (txtN n).size).toArray.size = _
  simp
theorem cellsN_byte (n k : Nat) (hk : k < (cellsN n).size) : ((cellsN n)[k]'hk).toNat = 60 ∨ ((cellsN n)[k]'hk).toNat = 26 ∨ ((cellsN n)[k]'hk).toNat = 1 ∨ ((cellsN n)[k]'hk).toNat = 3 ∨ ((cellsN n)[k]'hk).toNat = 9 ∨ ((cellsN n)[k]'hk).toNat = 25 ∨ ((cellsN n)[k]'hk).toNat = 17 ∨ ((cellsN n)[k]'hk).toNat = 11 ∨ ((cellsN n)[k]'hk).toNat = 27 ∨ ((cellsN n)[k]'hk).toNat = 19 ∨ ((cellsN n)[k]'hk).toNat = 10 := by
  have hl : k < (outB (txtN n) (txtN n).size).length := by rw [← cellsN_size]; exact hk
  exact outB_byte (txtN n) (txtN_digs n) _ (Nat.le_refl _) _ (List.getElem_mem hl)
theorem cellsN_le (n : Nat) (h : n ≤ 999) : (cellsN n).size ≤ 4 := by
  have h1 := outB_len (txtN n) (txtN n).size
  have h2 := decDigits_len 2 n (by omega)
  rw [cellsN_size]
  rw [txtN_size] at h1 ⊢
  omega
def cellD (n k q : Nat) : Bool := dotB ((cellsN n)[k]!).toNat q
theorem cellD_at (n k : Nat) (hk : k < (cellsN n).size) (q : Nat) : cellD n k q = dotB ((cellsN n)[k]'hk).toNat q := by
  unfold cellD
  rw [getElem!_pos (cellsN n) k hk]

/-- the worlds of Place's walk -/
structure PX (s : Sh) (pl : Array Value) (w : World) (B3 B4 base : Nat) (lv : Value) (l : List Spot) (W : World) : Prop where
  sheet : Blk W B3 (shC s) 29
  place : Blk W B4 pl 27
  l3 : B3 < base
  l4 : B4 < base
  lw : w.heap.size ≤ base
  row : W.ownsRow base 25 2 lv l.length (l.flatMap encS)
  below : Below w.heap.size w W
  lb : base ≤ W.heap.size
section
variable {s : Sh} {pl : Array Value} {w W W' : World} {B3 B4 base : Nat} {lv : Value} {l : List Spot}
theorem PX.grown (h : PX s pl w B3 B4 base lv l W) (hg : W.grownBy W' none) : PX s pl w B3 B4 base lv l W' :=
  ⟨h.sheet.kept hg (by simp), h.place.kept hg (by simp), h.l3, h.l4, h.lw, row_other h.row hg (by simp), h.below.grown hg h.below.size (fun k e => by cases e), Nat.le_trans h.lb hg.size⟩
theorem PX.alloc (h : PX s pl w B3 B4 base lv l W) (o : Obj) : PX s pl w B3 B4 base lv l (W.alloc o) := h.grown (World.grownBy_alloc W o none)
theorem PX.up (h : PX s pl w B3 B4 base lv l W) (hb : Below W.heap.size W W') : PX s pl w B3 B4 base lv l W' := h.grown (grownBy_of_below hb)
theorem PX.appended {g cap : Nat} {p : Spot} (h : PX s pl w B3 B4 base lv l W) (hg : W.grownBy W' lv.ownBlock) (hown : W'.ownsRow base 25 2 (.slice (some ⟨g, 0, none⟩) (l.length + 1) cap) (l.length + 1) (l.flatMap encS ++ encS p)) :
    PX s pl w B3 B4 base (.slice (some ⟨g, 0, none⟩) (l.length + 1) cap) (l ++ [p]) W' := by
  have hne : ∀ B, B < base → lv.ownBlock ≠ some B := fun B hB e => by have := (h.row.lt _ e).1; omega
  refine ⟨h.sheet.kept hg (hne _ h.l3), h.place.kept hg (hne _ h.l4), h.l3, h.l4, h.lw, ?_, h.below.grown hg h.below.size (fun r e => by have := (h.row.lt _ e).1; have := h.lw; omega), Nat.le_trans h.lb hg.size⟩
  rw [List.length_append, List.flatMap_append]
  simpa using hown
end
/-- .. with the dots of a cell in a box -/
structure PY (s : Sh) (pl : Array Value) (w : World) (B3 B4 base : Nat) (Bd : Nat) (d : Nat → Bool) (lv : Value) (l : List Spot) (W : World) : Prop where
  px : PX s pl w B3 B4 base lv l W
  box : Blk W Bd #[.bool (d 0), .bool (d 1), .bool (d 2), .bool (d 3), .bool (d 4), .bool (d 5)] 89
theorem PY.cell {s : Sh} {pl : Array Value} {w W : World} {B3 B4 base Bd : Nat} {d : Nat → Bool} {lv : Value} {l : List Spot} (h : PY s pl w B3 B4 base Bd d lv l W) (n : Nat) (hn : n < 6) : W.cell? ⟨Bd, n, none⟩ = some (.bool (d n)) := by
  rw [h.box.cell]
  match n, hn with
  | 0, _ => rfl
  | 1, _ => rfl
  | 2, _ => rfl
  | 3, _ => rfl
  | 4, _ => rfl
  | 5, _ => rfl
theorem PY.appended {s : Sh} {pl : Array Value} {w W W' : World} {B3 B4 base Bd : Nat} {d : Nat → Bool} {lv : Value} {l : List Spot} {g cap : Nat} {p : Spot} (h : PY s pl w B3 B4 base Bd d lv l W) (hg : (W.alloc (.cells (encS p).toArray 25)).grownBy W' lv.ownBlock) (hown : W'.ownsRow base 25 2 (.slice (some ⟨g, 0, none⟩) (l.length + 1) cap) (l.length + 1) (l.flatMap encS ++ encS p)) :
    PY s pl w B3 B4 base Bd d (.slice (some ⟨g, 0, none⟩) (l.length + 1) cap) (l ++ [p]) W' :=
  ⟨(h.px.alloc _).appended hg hown, (h.box.alloc _).kept hg (blk_apart (h.px.alloc (.cells (encS p).toArray 25)).row (h.box.alloc _) (by decide))⟩
/-- .. with the dots that were put -/
structure PZ (s : Sh) (pl : Array Value) (w : World) (B3 B4 base : Nat) (lv : Value) (l : List Spot) (v : Value) (ds : List Dt) (W : World) : Prop where
  px : PX s pl w B3 B4 base lv l W
  out : W.ownsRow base 59 4 v ds.length (ds.flatMap encD)
section
variable {s : Sh} {pl : Array Value} {w W W' : World} {B3 B4 base : Nat} {lv : Value} {l : List Spot} {v v' : Value} {ds ds' : List Dt}
theorem PZ.grown (h : PZ s pl w B3 B4 base lv l v ds W) (hg : W.grownBy W' none) : PZ s pl w B3 B4 base lv l v ds W' := ⟨h.px.grown hg, row_other h.out hg (by simp)⟩
theorem PZ.put (h : PZ s pl w B3 B4 base lv l v ds W) (hg : W.grownBy W' v.ownBlock) (hown : W'.ownsRow base 59 4 v' ds'.length (ds'.flatMap encD)) : PZ s pl w B3 B4 base lv l v' ds' W' := by
  have hne : ∀ B, B < base → v.ownBlock ≠ some B := fun B hB e => by have := (h.out.lt _ e).1; omega
  exact ⟨⟨h.px.sheet.kept hg (hne _ h.px.l3), h.px.place.kept hg (hne _ h.px.l4), h.px.l3, h.px.l4, h.px.lw, row_other h.px.row hg (rows_apart h.px.row h.out (by decide)), h.px.below.grown hg h.px.below.size (fun r e => by have := (h.out.lt _ e).1; have := h.px.lw; omega), Nat.le_trans h.px.lb hg.size⟩, hown⟩
end

set_option maxRecDepth 100000 in
set_option maxHeartbeats 4000000 in
theorem rplace_no (s : Sh) (id x y wt di num i j : Int) (b : Bool) (cls name : ByteArray) (w : World) (hof : ofS s x y = (i, j, b)) (hno : b = false ∨ num < 1 ∨ 999 < num) :
    Calls Tryz.prog 9 #[shV s, .agg (plC id x y wt di cls name), .int .i64 num] w fun e w' => e = .returned (.tuple #[.slice none 0 0, .bool false]) ∧ Below w.heap.size w w' := by
  obtain ⟨ax, ay, st, sw, sh, sg⟩ := s
  replace hof := Lib.hid hof
  cases b with
  | false =>
    clear hno
    go_enter Tryz.func9, Tryz.ntmps9
    go_wp2_with (first | (go_at_call 35; refine (rof_eq hof.out _).mono ?_; rintro e w' ⟨rfl, hb_⟩; obtain ⟨p, rfl⟩ := grow_of_below hb_; clear hb_) | fail)
    go_ret2
    exact ⟨rfl, (by repeat' (first | with_reducible exact Below.refl _ _ | with_reducible exact Nat.le_refl _ | with_reducible assumption | with_reducible refine Go.below_growBy' ?_ ?_ _ | with_reducible refine Below.alloc ?_ ?_ _ | with_reducible refine Below.setCell ?_ ?_ _ | with_reducible refine Below.drew ?_ | with_reducible refine Go.le_alloc ?_ | with_reducible refine Go.le_growBy ?_ | with_reducible refine Go.le_setCell ?_ | with_reducible refine Go.le_drew ?_ | omega | (dsimp only; omega)))⟩
  | true =>
    by_cases h1 : num < 1
    · clear hno
      go_enter Tryz.func9, Tryz.ntmps9
      go_wp2_with (first | (go_at_call 35; refine (rof_eq hof.out _).mono ?_; rintro e w' ⟨rfl, hb_⟩; obtain ⟨p, rfl⟩ := grow_of_below hb_; clear hb_) | fail)
      go_ret2
      exact ⟨rfl, (by repeat' (first | with_reducible exact Below.refl _ _ | with_reducible exact Nat.le_refl _ | with_reducible assumption | with_reducible refine Go.below_growBy' ?_ ?_ _ | with_reducible refine Below.alloc ?_ ?_ _ | with_reducible refine Below.setCell ?_ ?_ _ | with_reducible refine Below.drew ?_ | with_reducible refine Go.le_alloc ?_ | with_reducible refine Go.le_growBy ?_ | with_reducible refine Go.le_setCell ?_ | with_reducible refine Go.le_drew ?_ | omega | (dsimp only; omega)))⟩
    · have h2 : 999 < num := by rcases hno with h | h | h; cases h; exact absurd h h1; exact h
      clear hno
      go_enter Tryz.func9, Tryz.ntmps9
      go_wp2_with (first | (go_at_call 35; refine (rof_eq hof.out _).mono ?_; rintro e w' ⟨rfl, hb_⟩; obtain ⟨p, rfl⟩ := grow_of_below hb_; clear hb_) | fail)
      go_ret2
      exact ⟨rfl, (by repeat' (first | with_reducible exact Below.refl _ _ | with_reducible exact Nat.le_refl _ | with_reducible assumption | with_reducible refine Go.below_growBy' ?_ ?_ _ | with_reducible refine Below.alloc ?_ ?_ _ | with_reducible refine Below.setCell ?_ ?_ _ | with_reducible refine Below.drew ?_ | with_reducible refine Go.le_alloc ?_ | with_reducible refine Go.le_growBy ?_ | with_reducible refine Go.le_setCell ?_ | with_reducible refine Go.le_drew ?_ | omega | (dsimp only; omega)))⟩

set_option maxRecDepth 100000 in
set_option maxHeartbeats 16000000 in
theorem rplace_yes (s : Sh) (id x y wt di i j : Int) (n m : Nat) (cls name : ByteArray) (w : World) (hof : ofS s x y = (i, j, true)) (hid : fits id)
    (hn0 : 1 ≤ n) (hn1 : n ≤ 999) (hcl : cls.size ≤ 1048576) (hm : m < 7) (hsum : (sumB cls.data.toList).tmod 7 = m) :
    Calls Tryz.prog 9 #[shV s, .agg (plC id x y wt di cls name), .int .i64 n] w fun e w' => Below w.heap.size w w' ∧
      (((∀ p ∈ placePts i j (symB m) (cellD n) (cellsN n).size, onS s p.1 p.2 = true) ∧ ∃ v base, e = .returned (.tuple #[v, .bool true]) ∧ w.heap.size ≤ base ∧ w'.ownsRow base 59 4 v (outP id (placePts i j (symB m) (cellD n) (cellsN n).size)).length ((outP id (placePts i j (symB m) (cellD n) (cellsN n).size)).flatMap encD)) ∨
      ((∃ p ∈ placePts i j (symB m) (cellD n) (cellsN n).size, onS s p.1 p.2 = false) ∧ e = .returned (.tuple #[.slice none 0 0, .bool false]))) := by
  obtain ⟨hck, hon⟩ := ofS_true hof
  have hs := okS_of hck
  obtain ⟨ax, ay, st, sw, sh, sg⟩ := s
  have hs' := hs
  obtain ⟨s0, s1, u0, u1, v0, v1, a0, a1, b0, b1⟩ := hs'
  simp only at s0 s1 u0 u1 v0 v1 a0 a1 b0 b1
  have hij : (0 ≤ i ∧ i ≤ 80) ∧ (0 ≤ j ∧ j ≤ 80) := by
    simp only [onS, inR] at hon
    simp only [Bool.and_eq_true, decide_eq_true_eq] at hon
    omega
  obtain ⟨⟨i0, i1⟩, j0, j1⟩ := hij
  have hsH := Lib.hid hs
  clear hon hck hs s0 s1 a0 a1 b0 b1
  replace hof := Lib.hid hof
  have n0I : ¬ (n : Int) < 1 := by omega
  have n1I : ¬ 999 < (n : Int) := by omega
  have hcs := cellsN_le n hn1
  have hcb := cellsN_byte n
  obtain ⟨ip, hip, hz0, hz1, hz2⟩ := info_parts pointInfo'
  have hdec := fun W => decimal_any (n + 1) n (by omega) hn1 W
  have htx := txtN_digs n
  have htl := txtN_size n
  have htl2 := decDigits_len 2 n (by omega)
  have htl3 : 0 < (Lib.decDigits n).length := by rw [Lib.decDigits]; split <;> simp
  have hwr := fun W => write28_digs (txtN n) htx (by omega) (by omega) W
  have hcN : (⟨(outB (txtN n) (txtN n).size).toArray⟩ : ByteArray) = cellsN n := rfl
  rw [hcN] at hwr
  have hcD := cellD_at n
  obtain ⟨D, hD⟩ : ∃ D, cellD n = D := ⟨_, rfl⟩
  rw [hD] at hcD ⊢
  obtain ⟨cells, hcells⟩ : ∃ c, cellsN n = c := ⟨_, rfl⟩
  have hcb2 : ∀ k (hk : k < cells.size), ∀ W, Calls Tryz.prog 39 #[.int .u8 (cells[k]).toNat] W fun e w' => e = .returned (.agg #[.bool (D k 0), .bool (D k 1), .bool (D k 2), .bool (D k 3), .bool (D k 4), .bool (D k 5)]) ∧ Below W.heap.size W w' := by
    subst hcells
    intro k hk W
    rw [hcD k hk 0, hcD k hk 1, hcD k hk 2, hcD k hk 3, hcD k hk 4, hcD k hk 5]
    exact rd_any _ (hcb k hk) W
  rw [hcells] at hcs hwr ⊢
  obtain ⟨txt, htxt⟩ : ∃ t, txtN n = t := ⟨_, rfl⟩
  rw [htxt] at hdec hwr
  clear hcb hcD hcN htl htl2 htl3 htx hD hcells htxt
  go_enter Tryz.func9, Tryz.ntmps9
  go_wp2_with (first | (go_at_call 35; refine (rof_eq hof.out _).mono ?_; rintro e w' ⟨rfl, hb_⟩; obtain ⟨p, rfl⟩ := grow_of_below hb_; clear hb_) | fail)
  refine wp_world (fun W0 hW0 => ?_)
  have hP0 : PX ⟨ax, ay, st, sw, sh, sg⟩ (plC id x y wt di cls name) w w.heap.size (w.heap.size + 1) W0.heap.size (.slice none 0 0) [] W0 := by
    have hB : Below w.heap.size w W0 := by
      rw [hW0]
      exact (by repeat' (first | with_reducible exact Below.refl _ _ | with_reducible exact Nat.le_refl _ | with_reducible assumption | with_reducible refine Go.below_growBy' ?_ ?_ _ | with_reducible refine Below.alloc ?_ ?_ _ | with_reducible refine Below.setCell ?_ ?_ _ | with_reducible refine Below.drew ?_ | with_reducible refine Go.le_alloc ?_ | with_reducible refine Go.le_growBy ?_ | with_reducible refine Go.le_setCell ?_ | with_reducible refine Go.le_drew ?_ | omega | (dsimp only; omega)))
    have k3 : Blk W0 w.heap.size (shC ⟨ax, ay, st, sw, sh, sg⟩) 29 := by
      rw [hW0]
      exact ((Blk.new w _ _).alloc _).grow _
    have k4 : Blk W0 (w.heap.size + 1) (plC id x y wt di cls name) 27 := by
      rw [hW0]
      have h := Blk.new (w.alloc (.cells (shC ⟨ax, ay, st, sw, sh, sg⟩) 29)) (plC id x y wt di cls name) 27
      rw [World.size_alloc] at h
      exact h.grow _
    exact ⟨k3, k4, k3.lt, k4.lt, hB.size, World.ownsRow_nil _ _ _ _, hB, Nat.le_refl _⟩
  clear hW0
  obtain ⟨base, hbase⟩ : ∃ b, W0.heap.size = b := ⟨_, rfl⟩
  obtain ⟨B4, hB4⟩ : ∃ b, w.heap.size + 1 = b := ⟨_, rfl⟩
  obtain ⟨B3, hB3⟩ : ∃ b, w.heap.size = b := ⟨_, rfl⟩
  rw [hbase, hB4, hB3] at hP0
  rw [hB4, hB3]
  replace hB3 := Lib.hid hB3
  clear hbase hB4
  go_loopw [11, 12] (fun v yy wr => ∃ t : Nat, t ≤ 3 ∧ yy = .int .i64 ((t : Int) - 1) ∧ PX ⟨ax, ay, st, sw, sh, sg⟩ (plC id x y wt di cls name) w B3 B4 base v (symPts i j (symB m) (3 * t)) wr) (fun _ yy _ => 3 - (intOf yy + 1).toNat)
  case atStart => exact ⟨0, by omega, rfl, hP0⟩
  case round =>
    clear hP0
    obtain ⟨t, ht, rfl, hP⟩ := hrel
    by_cases hlt : t < 3
    · have hltI : (t : Int) - 1 ≤ 1 := by omega
      go_wp2_with fail
      go_loopw [11, 13] (fun v xx wr => ∃ u : Nat, u ≤ 3 ∧ xx = .int .i64 ((u : Int) - 1) ∧ PX ⟨ax, ay, st, sw, sh, sg⟩ (plC id x y wt di cls name) w B3 B4 base v (symPts i j (symB m) (3 * t + u)) wr) (fun _ xx _ => 3 - (intOf xx + 1).toNat)
      case atStart => exact ⟨0, by omega, rfl, hP⟩
      case round =>
        clear hP
        obtain ⟨u, hu, rfl, hP⟩ := hrel
        by_cases hlu : u < 3
        · have hluI : (u : Int) - 1 ≤ 1 := by omega
          have hsym := symF_symB m t u hm hlt hlu
          have hnx : symPts i j (symB m) (3 * t + (u + 1)) = symPts i j (symB m) (3 * t + u) ++ (if symB m (3 * t + u) then [(i + ((u : Int) - 1), j + ((t : Int) - 1))] else []) := by
            rw [← symSpot_eq i j t u hlu]
            rfl
          obtain ⟨b, hb⟩ : ∃ b, symB m (3 * t + u) = b := ⟨_, rfl⟩
          rw [hb] at hsym hnx
          replace hsym := Lib.hid hsym
          clear hb
          obtain ⟨l, hl⟩ : ∃ l, symPts i j (symB m) (3 * t + u) = l := ⟨_, rfl⟩
          have hll : l.length ≤ 100 := by have := symPts_len i j (symB m) (3 * t + u); rw [hl] at this; omega
          rw [hl] at hP hnx
          clear hl
          have z2 := hP.place.cell 3
          replace z2 : wr.cell? ⟨B4, 3, none⟩ = some (.string cls) := z2
          have hrow := hP.row
          have hle := hP.lb
          cases b with
          | false =>
            replace hnx := Lib.hid hnx
            go_wp2_with (first | (go_at_call 36; refine (symbol_eq hsym.out hm hsum hcl _).mono ?_; rintro e w' ⟨rfl, rfl⟩) | fail)
            go_roundw
            case rel => exact ⟨u + 1, by omega, by go_num, by rw [hnx.out]; simpa using hP⟩
            case measure => simp [intOf]; omega
          | true =>
            replace hnx := Lib.hid hnx
            have w1 : IntKind.i64.wrap (i + ((u : Int) - 1)) = i + ((u : Int) - 1) := wrap_in7 (by omega) (by omega)
            have w2 : IntKind.i64.wrap (j + ((t : Int) - 1)) = j + ((t : Int) - 1) := wrap_in7 (by omega) (by omega)
            go_wp2_with (first
              | (go_at_call 36; refine (symbol_eq hsym.out hm hsum hcl _).mono ?_; rintro e w' ⟨rfl, rfl⟩)
              | (at_builtin; refine wpList_append_lies _ (by rfl) _ _ _ (by rfl) base 25 ip _ 2 16 Tryz.underlying60 hip hz0 hz1 hz2 (by rfl) (by omega) u11 l.length _ (by rfl) ((hP.alloc _).row) ⟨wr.heap.size, 0, none⟩ 1 1 (encS (i + ((u : Int) - 1), j + ((t : Int) - 1))) (by rfl) (by rfl) (pnews (Blk.new _ _ _)) (by simp [Value.oneCell']) (by omega) (by unfold maxLen; omega) (by omega) (hP.alloc _).lb _ rfl ?_; intro g cap W2 hown hgrow hat hltg)
              | fail)
            go_roundw
            case rel => exact ⟨u + 1, by omega, by go_num, by rw [hnx.out]; exact (hP.alloc _).appended hgrow hown⟩
            case measure => simp [intOf]; omega
        · obtain rfl : u = 3 := by omega
          go_wp2_with fail
          go_roundw
          case rel => exact ⟨t + 1, by omega, by go_num, by rw [show 3 * (t + 1) = 3 * t + 3 from by omega]; exact hP⟩
          case measure => simp [intOf]; omega
    · obtain rfl : t = 3 := by omega
      rw [show 3 * 3 = 9 from rfl] at hP
      obtain ⟨l9, hl9⟩ : ∃ l, symPts i j (symB m) 9 = l := ⟨_, rfl⟩
      have hpe : placePts i j (symB m) D cells.size = cellPts i j D l9 cells.size := by unfold placePts; rw [hl9]
      have h9 : l9.length ≤ 9 := by rw [← hl9]; exact symPts_len i j (symB m) 9
      rw [hl9] at hP
      replace hpe := Lib.hid hpe
      clear hl9 hsum hm
      go_wp2_with (first
        | (go_at_call 38; refine (hdec _).mono ?_; rintro e w1 ⟨rfl, hb1⟩)
        | (go_at_call 37; refine (hwr _).mono ?_; rintro e w2 ⟨rfl, hb2⟩)
        | fail)
      replace hP := (hP.up hb1).up hb2
      clear hb1 hb2 hdec hwr
      go_loopw [11, 16] (fun v kk wr => ∃ k : Nat, k ≤ cells.size ∧ kk = .int .i64 (k : Nat) ∧ PX ⟨ax, ay, st, sw, sh, sg⟩ (plC id x y wt di cls name) w B3 B4 base v (cellPts i j D l9 k) wr) (fun _ kk _ => cells.size - (intOf kk).toNat)
      case atStart => exact ⟨0, Nat.zero_le _, rfl, hP⟩
      case round =>
        clear hP
        obtain ⟨k, hk, rfl, hP⟩ := hrel
        by_cases hlk : k < cells.size
        · have hlkI : (k : Int) < (cells.size : Int) := by omega
          have hdots := hcb2 k hlk
          obtain ⟨c, hc⟩ : ∃ c, (cells[k]'hlk).toNat = c := ⟨_, rfl⟩
          rw [hc] at hdots
          have hnx : cellPts i j D l9 (k + 1) = dotPts i j k (D k) (cellPts i j D l9 k) 6 := rfl
          obtain ⟨l, hl⟩ : ∃ l, cellPts i j D l9 k = l := ⟨_, rfl⟩
          have hll : l.length ≤ 100 := by have := cellPts_len i j D l9 k; rw [hl] at this; omega
          rw [hl] at hP hnx
          obtain ⟨d, hd⟩ : ∃ d, D k = d := ⟨_, rfl⟩
          rw [hd] at hnx hdots
          replace hnx := Lib.hid hnx
          clear hl hd
          go_wp2_with (first
            | (refine wpList_index_as (by rfl) 9 _ _ (by rfl) cells .i64 (k : Nat) (by rfl) (by rfl) Tryz.underlying9 c (by omega) (by omega) (by rw [← hc]; rfl) ?_)
            | (go_at_call 39; refine (hdots _).mono ?_; rintro e w3 ⟨rfl, hb3⟩)
            | fail)
          have hY : PY ⟨ax, ay, st, sw, sh, sg⟩ (plC id x y wt di cls name) w B3 B4 base w3.heap.size d u11 l (w3.alloc (.cells #[.bool (d 0), .bool (d 1), .bool (d 2), .bool (d 3), .bool (d 4), .bool (d 5)] 89)) := ⟨(hP.up hb3).alloc _, Blk.new _ _ _⟩
          clear hb3 hP hdots hc
          obtain ⟨Bd, hBd⟩ : ∃ b, w3.heap.size = b := ⟨_, rfl⟩
          obtain ⟨W4, hW4⟩ : ∃ W, w3.alloc (.cells #[.bool (d 0), .bool (d 1), .bool (d 2), .bool (d 3), .bool (d 4), .bool (d 5)] 89) = W := ⟨_, rfl⟩
          rw [hBd, hW4] at hY
          rw [hBd, hW4]
          clear hBd hW4
          go_loopw [11, 18] (fun v nn wr => ∃ q : Nat, q ≤ 6 ∧ nn = .int .i64 (q : Nat) ∧ PY ⟨ax, ay, st, sw, sh, sg⟩ (plC id x y wt di cls name) w B3 B4 base Bd d v (dotPts i j k d l q) wr) (fun _ nn _ => 6 - (intOf nn).toNat)
          case atStart => exact ⟨0, by omega, rfl, hY⟩
          case round =>
            clear hY
            obtain ⟨q, hq, rfl, hY⟩ := hrel
            by_cases hlq : q < 6
            · have hlqI : (q : Int) < 6 := by omega
              have hnq : dotPts i j k d l (q + 1) = dotPts i j k d l q ++ (if d q then [(i + 3 + 3 * (k : Int) + (q : Int).tdiv 3, j + 1 - (q : Int).tmod 3)] else []) := rfl
              have zq := hY.cell q hlq
              obtain ⟨l2, hl2⟩ : ∃ l2, dotPts i j k d l q = l2 := ⟨_, rfl⟩
              have hll2 : l2.length ≤ 200 := by have := dotPts_len i j k d l q; rw [hl2] at this; omega
              rw [hl2] at hY hnq
              clear hl2
              have td0 : 0 ≤ (q : Int).tdiv 3 ∧ (q : Int).tdiv 3 ≤ 2 := by rw [Int.tdiv_eq_ediv_of_nonneg (by omega)]; omega
              have tm0 : 0 ≤ (q : Int).tmod 3 ∧ (q : Int).tmod 3 ≤ 2 := by rw [Int.tmod_eq_emod_of_nonneg (by omega)]; omega
              have tme : (q : Int) % 3 = (q : Int).tmod 3 := by rw [Int.tmod_eq_emod_of_nonneg (by omega)]
              obtain ⟨b, hb⟩ : ∃ b, d q = b := ⟨_, rfl⟩
              rw [hb] at zq hnq
              clear hb
              cases b with
              | false =>
                replace hnq := Lib.hid hnq
                go_wp2_with fail
                go_roundw
                case rel => exact ⟨q + 1, by omega, by go_num, by rw [hnq.out]; simpa using hY⟩
                case measure => simp [intOf]; omega
              | true =>
                obtain ⟨a3, ha3⟩ : ∃ a, (q : Int).tdiv 3 = a := ⟨_, rfl⟩
                obtain ⟨r3, hr3⟩ : ∃ a, (q : Int).tmod 3 = a := ⟨_, rfl⟩
                rw [ha3] at td0 hnq
                rw [hr3] at tm0 tme hnq
                obtain ⟨td0, td1⟩ := td0
                obtain ⟨tm0, tm1⟩ := tm0
                replace hnq := Lib.hid hnq
                have v1 : IntKind.i64.wrap (3 * (k : Int)) = 3 * (k : Int) := wrap_in7 (by omega) (by omega)
                have v2 : IntKind.i64.wrap (i + 3) = i + 3 := wrap_in7 (by omega) (by omega)
                have v3 : IntKind.i64.wrap (i + 3 + 3 * (k : Int)) = i + 3 + 3 * (k : Int) := wrap_in7 (by omega) (by omega)
                have v4 : IntKind.i64.wrap (i + 3 + 3 * (k : Int) + a3) = i + 3 + 3 * (k : Int) + a3 := wrap_in7 (by omega) (by omega)
                have v5 : IntKind.i64.wrap (j + 1) = j + 1 := wrap_in7 (by omega) (by omega)
                have v6 : IntKind.i64.wrap (j + 1 - r3) = j + 1 - r3 := wrap_in7 (by omega) (by omega)
                have v7 : IntKind.i64.wrap a3 = a3 := wrap_in7 (by omega) (by omega)
                have v8 : IntKind.i64.wrap r3 = r3 := wrap_in7 (by omega) (by omega)
                go_wp2_with (first
                  | (at_builtin; refine wpList_append_lies _ (by rfl) _ _ _ (by rfl) base 25 ip _ 2 16 Tryz.underlying60 hip hz0 hz1 hz2 (by rfl) (by omega) u11 l2.length _ (by rfl) ((hY.px.alloc _).row) ⟨wr.heap.size, 0, none⟩ 1 1 (encS (i + 3 + 3 * (k : Int) + a3, j + 1 - r3)) (by rfl) (by rfl) (pnews (Blk.new _ _ _)) (by simp [Value.oneCell']) (by omega) (by unfold maxLen; omega) (by omega) (hY.px.alloc _).lb _ rfl ?_; intro g cap W2 hown hgrow hat hltg)
                  | fail)
                go_roundw
                case rel => exact ⟨q + 1, by omega, by go_num, by rw [hnq.out]; exact hY.appended hgrow hown⟩
                case measure => simp [intOf]; omega
            · obtain rfl : q = 6 := by omega
              go_wp2_with fail
              go_roundw
              case rel => exact ⟨k + 1, by omega, by go_num, by rw [hnx.out]; exact hY.px⟩
              case measure => simp [intOf]; omega
        · obtain rfl : k = cells.size := by omega
          have hge : ¬ (cells.size : Int) < (cells.size : Int) := by omega
          obtain ⟨l, hl⟩ : ∃ l, cellPts i j D l9 cells.size = l := ⟨_, rfl⟩
          have hll : l.length ≤ 100 := by have := cellPts_len i j D l9 cells.size; rw [hl] at this; omega
          rw [hl] at hP
          have hpl := Lib.hid (hpe.out.trans hl)
          clear hl hcb2 hpe
          obtain ⟨la, lcap, rfl⟩ : ∃ a cap, u11 = .slice a l.length cap := by
            rcases hP.row.2 with ⟨rfl, h0⟩ | ⟨g, cap, cur, rfl, _⟩
            · exact ⟨none, 0, by rw [h0]⟩
            · exact ⟨_, _, rfl⟩
          go_wp2_with fail
          go_loopw [19, 20] (fun v kk wr => ∃ k : Nat, k ≤ l.length ∧ kk = .int .i64 (k : Nat) ∧ (∀ p ∈ l.take k, onS ⟨ax, ay, st, sw, sh, sg⟩ p.1 p.2 = true) ∧ PZ ⟨ax, ay, st, sw, sh, sg⟩ (plC id x y wt di cls name) w B3 B4 base (.slice la l.length lcap) l v (outP id (l.take k)) wr) (fun _ kk _ => l.length - (intOf kk).toNat)
          case atStart => exact ⟨0, Nat.zero_le _, rfl, by simp, hP, World.ownsRow_nil _ _ _ _⟩
          case round =>
            clear hP
            obtain ⟨k, hk, rfl, hall, hZ⟩ := hrel
            by_cases hlk : k < l.length
            · have hlkI : (k : Int) < (l.length : Int) := by omega
              have hnx := outP_take id l k hlk
              have hdl := outP_length id (l.take k)
              rw [List.length_take] at hdl
              have hmem : l[k] ∈ l := List.getElem_mem hlk
              have hall2 : onS ⟨ax, ay, st, sw, sh, sg⟩ l[k].1 l[k].2 = true → ∀ p ∈ l.take (k + 1), onS ⟨ax, ay, st, sw, sh, sg⟩ p.1 p.2 = true := fun h p hp => by
                rw [List.take_add_one, List.getElem?_eq_getElem hlk, Option.toList_some] at hp
                rcases List.mem_append.1 hp with hp | hp
                · exact hall p hp
                · rw [List.mem_singleton.1 hp]
                  exact h
              have hff : ∀ d ∈ outP id (l.take k), fits d.x ∧ fits d.y := fun d hd => by
                have h8 := onS_iff.1 (outP_mem hall d hd)
                simp only at h8
                exact ⟨⟨by omega, by omega⟩, by omega, by omega⟩
              obtain ⟨a', cap', e', hpt'⟩ := pts_of_row hZ.px.row
              simp only [Value.slice.injEq, true_and] at e'
              obtain ⟨rfl, rfl⟩ := e'
              obtain ⟨pb7, po7, rfl, -, y0, y1⟩ := hpt' k hlk
              obtain ⟨⟨dx, dy⟩, hde⟩ : ∃ d, l[k] = d := ⟨_, rfl⟩
              rw [hde] at y0 y1 hnx hmem hall2
              simp only at y0 y1 hall2
              clear hde hpt'
              obtain ⟨d0, d1, d2, d3, d4, d5⟩ := shC9 hZ.px.sheet
              have z0 := hZ.px.place.cell 0
              replace z0 : wr.cell? ⟨B4, 0, none⟩ = some (.int .i64 id) := z0
              obtain ⟨ds, hds⟩ : ∃ ds, outP id (l.take k) = ds := ⟨_, rfl⟩
              rw [hds] at hZ hnx hdl hff
              clear hds
              obtain ⟨on, hon⟩ : ∃ o, onS ⟨ax, ay, st, sw, sh, sg⟩ dx dy = o := ⟨_, rfl⟩
              rw [hon] at hall2
              have honH := Lib.hid hon
              clear hon
              cases on with
              | false =>
                clear hall2 hall
                go_wp2_with fail
                first | with_reducible refine wp_region_grow2 (by kernel_rfl) (by kernel_rfl) ?_ | with_reducible refine wp_region_grow (by kernel_rfl) (by kernel_rfl) ?_
                repeat (first | go_big_quiet_step ((go_at_call 40; exact Calls.grow_of (ron_any ⟨ax, ay, st, sw, sh, sg⟩ _ _ _ _ honH.out))) | quiet_step ((go_at_call 40; exact Calls.grow_of (ron_any ⟨ax, ay, st, sw, sh, sg⟩ _ _ _ _ honH.out))))
                refine wpQuiet_nil ?_
                intro _ hw_
                obtain ⟨p, hw_⟩ := hw_
                subst hw_
                go_wp2_with fail
                go_ret2
                rw [hpl.out]
                exact ⟨below_growBy' (hB3.out ▸ hZ.px.below) (Nat.le_trans hZ.px.lw hZ.px.lb) _, .inr ⟨⟨_, hmem, honH.out⟩, rfl⟩⟩
              | true =>
                have hall3 := Lib.hid (hall2 rfl)
                clear hall2 hall
                replace hnx := Lib.hid hnx
                go_wp2_with fail
                first | with_reducible refine wp_region_grow2 (by kernel_rfl) (by kernel_rfl) ?_ | with_reducible refine wp_region_grow (by kernel_rfl) (by kernel_rfl) ?_
                repeat (first | go_big_quiet_step ((go_at_call 40; exact Calls.grow_of (ron_any ⟨ax, ay, st, sw, sh, sg⟩ _ _ _ _ honH.out))) | quiet_step ((go_at_call 40; exact Calls.grow_of (ron_any ⟨ax, ay, st, sw, sh, sg⟩ _ _ _ _ honH.out))))
                refine wpQuiet_nil ?_
                intro _ hw_
                obtain ⟨p, hw_⟩ := hw_
                subst hw_
                go_wp2_with fail
                first | with_reducible refine wp_region_grow_tail2 14 (by kernel_rfl) (by kernel_rfl) ?_ | with_reducible refine wp_region_grow_tail 14 (by kernel_rfl) (by kernel_rfl) ?_
                simp only [List.take_succ_cons, List.take_zero, List.drop_succ_cons, List.drop_zero]
                repeat (first | go_big_quiet_step (fail) | quiet_step (fail))
                refine wpQuiet_nil ?_
                intro _ hw_
                obtain ⟨p, hw_⟩ := hw_
                subst hw_
                refine (fun (h : ∀ W, W = _ → wpList _ _ _ _ _ W) => h _ rfl) (fun W9 hW9 => ?_)
                have hZ9 : PZ ⟨ax, ay, st, sw, sh, sg⟩ (plC id x y wt di cls name) w B3 B4 base (.slice (some ⟨pb7, po7, none⟩) l.length lcap) l u19 ds W9 := by
                  rw [hW9]
                  exact hZ.grown (grownBy_growBy _ _)
                clear hW9 hZ y0 y1 d0 d1 d2 d3 d4 d5 z0
                go_wp2_with (first | (go_at_call 41; refine (put_any _ ds dx dy 3 id base _ hZ9.out hZ9.px.lb (by omega) hff).mono ?_; rintro e w9 ⟨v9, rfl, hrow9, hg9⟩) | fail)
                rw [← hnx.out] at hrow9
                go_roundw
                case rel => exact ⟨k + 1, by omega, by go_num, hall3.out, hZ9.put hg9 hrow9⟩
                case measure => simp [intOf]; omega
            · obtain rfl : k = l.length := by omega
              rw [List.take_length] at hall hZ
              go_wp2_with fail
              go_ret2
              rw [hpl.out]
              exact ⟨hB3.out ▸ hZ.px.below, .inl ⟨hall, _, base, rfl, hB3.out ▸ hZ.px.lw, hZ.out⟩⟩
end Go.Proofs.YtjfdbigkbgolmaaGreatDoor
