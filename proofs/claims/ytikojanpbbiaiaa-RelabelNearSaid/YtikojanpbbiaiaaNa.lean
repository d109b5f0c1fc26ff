/-
  Shaken out of the text G2.
  Shaken out of the text U0.
  Shaken out of the text K0.
  Shaken out of the text K1.
  Shaken out of the text N1.
  Shaken out of the text H0.
  Shaken out of the text TW.
  Shaken out of the text DL.
  Shaken out of the text TX.
  Shaken out of the text P2.
-/
import Derived.Test.YtikojanpbbiaiaaZv
import Derived.Maps.OwnSet
import Derived.Maps.OwnIn
import Derived.DeepKeys4
import Derived.Sort.MapsRangeIn
import Derived.Sort.KeysCollected
import Derived.RangeFuncBox
import Derived.RangeFuncLeaves
import Derived.RangeFuncNested
import Derived.RangeFuncBound
import Derived.RangeFuncCalls
import Derived.Shelf.AbstractIn
import Derived.RangeFuncSeq
import Derived.WalkKit
import Derived.OwnWalkIn
import Derived.TacticsInMore
import Derived.RegionIn
import Derived.LoopNIn
import Derived.LoopIn
import Derived.Deep.AppendSrc
import Derived.Deep.RegionLaw
import Derived.Deep.AppendLies
import Derived.Deep.DrawnRows
import Derived.Deep.CutBlock
import Derived.Deep.DeepCutAuto
import Derived.Lib.Mul64
import Derived.Laws.Bits64b
import Derived.IntWalk
namespace Go.Proofs.Ytikojanpbbiaiaa
set_option linter.unusedVariables false
set_option linter.unusedSimpArgs false
open Go.RowKit Go.Shelf
attribute [local go_sem] Oper.semAt_some

/-- a sheet's numbers -/
structure Sh where
  ax : Int
  ay : Int
  st : Int
  w : Int
  h : Int
  g : Int
def inR (lo n hi : Int) : Bool := decide (lo ≤ n) && decide (n ≤ hi)
end Go.Proofs.Ytikojanpbbiaiaa
namespace Go.Proofs.Ytikojanpbbiaiaa
set_option linter.unusedVariables false
set_option linter.unusedSimpArgs false
open Go.RowKit Go.Shelf
attribute [local go_sem] Oper.semAt_some

theorem mod_mod (n m : Int) (hm : 1 ≤ m) : (n.tmod m + m) % m = n % m := by
  rw [Int.add_emod_right, Int.tmod_eq_emod]
  split
  · rw [Int.natCast_zero, Int.sub_zero, Int.emod_emod_of_dvd _ (Int.dvd_refl m)]
  · rw [Int.natAbs_of_nonneg (by omega), Int.sub_emod_right, Int.emod_emod_of_dvd _ (Int.dvd_refl m)]

set_option maxHeartbeats 400000 in
theorem mod_any (n m : Int) (w : World) (hn : fits n) (h1 : 1 ≤ m) (h2 : m ≤ 4611686018427387904) :
    Calls Try.prog 49 #[.int .i64 n, .int .i64 m] w fun r w' => r = .returned (.int .i64 (n % m)) ∧ w = w' := by
  obtain ⟨n0, n1⟩ := hn
  have b0 := Int.lt_tmod_of_pos n (b := m) (by omega)
  have b1 := Int.tmod_lt_of_pos n (b := m) (by omega)
  have b2 : 0 ≤ n.tmod m + m := by omega
  have b3 : n.tmod m + m ≤ 9223372036854775807 := by omega
  have h0 : (m == 0) = false := by simp; omega
  have HM := Lib.hid (mod_mod n m h1)
  go_enter Try.func49, Try.ntmps49
  go_wp2_with fail
  go_ret
  exact ⟨ret_int HM.out, rfl⟩

theorem rbetween_any (n lo hi : Int) (w : World) :
    Calls Try.prog 110 #[.int .i64 n, .int .i64 lo, .int .i64 hi] w fun e w' => e = .returned (.bool (inR lo n hi)) ∧ w = w' := by
  go_enter Try.func110, Try.ntmps110
  go_wp2_with fail
  all_goals
    go_ret
    exact ⟨by unfold inR; first | rfl | (congr 2; simp; omega), rfl⟩
/-- a sheet that Check accepts but for its points -/
structure InS (s : Sh) : Prop where
  a1 : 1 ≤ s.st
  a2 : s.st ≤ 1024
  b1 : 1 ≤ s.w
  b2 : s.w ≤ 80
  c1 : 1 ≤ s.h
  c2 : s.h ≤ 80
  d1 : 1 ≤ s.g
  d2 : s.g ≤ 4

end Go.Proofs.Ytikojanpbbiaiaa
namespace Go.Proofs.Ytikojanpbbiaiaa
set_option linter.unusedVariables false
set_option linter.unusedSimpArgs false
open Go.RowKit Go.Maps

abbrev Spot := Int × Int
abbrev encS (p : Spot) : List Value := [.int .i64 p.1, .int .i64 p.2]
def FitS (p : Spot) : Prop := fits p.1 ∧ fits p.2
/-- what a dot reads as, as a key -/
def klS (p : Spot) : Lit := .string (keyBytes [.int .i64 p.1, .int .i64 p.2])

/-! ### a map's content: a list of dots with their numbers, each dot once -/
end Go.Proofs.Ytikojanpbbiaiaa
namespace Go.Proofs.Ytikojanpbbiaiaa
set_option linter.unusedVariables false
set_option linter.unusedSimpArgs false
open Go.RowKit Go.Maps Go.Shelf
attribute [local go_sem] Oper.semAt_some

/-- the keys met so far -/
def CollS (l : List (Spot × Int)) (left : Lit → Bool) (ss : List Spot) : Prop := ss.Nodup ∧ (∀ p ∈ ss, FitS p) ∧ ∀ p, FitS p → (p ∈ ss ↔ hasK l p = true ∧ left (klS p) = false)
theorem CollS.all {l : List (Spot × Int)} {left : Lit → Bool} {ss : List Spot} (h : CollS l left ss) (h0 : ∀ kl, left kl = false) (hf : ∀ e ∈ l, FitS e.1) : ss.Nodup ∧ ∀ p, p ∈ ss ↔ p ∈ l.map (·.1) := by
  refine ⟨h.1, fun p => ?_⟩
  constructor
  · intro hp
    exact hasK_iff.1 ((h.2.2 p (h.2.1 p hp)).1 hp).1
  · intro hp
    obtain ⟨e, he, rfl⟩ := List.mem_map.1 hp
    exact (h.2.2 _ (hf e he)).2 ⟨hasK_iff.2 hp, h0 _⟩

end Go.Proofs.Ytikojanpbbiaiaa
namespace Go
set_option linter.unusedVariables false
set_option linter.unusedSimpArgs false
open Go.RowKit Go.Shelf
theorem World.setCell_id (w : World) (b o : Nat) (v : Value) (h : w.cell? ⟨b, o, none⟩ = some v) : w.setCell ⟨b, o, none⟩ v = w := by
  obtain ⟨heap, tape, drawn, os, output⟩ := w
  unfold World.setCell
  simp only [World.mk.injEq, and_true]
  apply Array.ext_getElem?
  intro i
  simp only [Array.getElem?_modify]
  by_cases hb : b = i
  · subst hb
    unfold World.cell? at h
    simp only [if_true]
    cases hx : heap[b]? with
    | none => rfl
    | some x =>
      rw [show ({ heap := heap, tape := tape, drawn := drawn, os := os, output := output } : World).heap[b]? = some x from hx] at h
      cases x <;> try rfl
      rename_i c t f
      simp at h ⊢
      have h' : c[o]? = some v := h
      obtain ⟨hl, hv⟩ := Array.getElem?_eq_some_iff.1 h'
      apply Array.ext_getElem?
      intro j
      rw [Array.getElem?_setIfInBounds]
      split
      · rename_i e; subst e; exact h'.symm
      · rfl
  · simp [hb]
end Go
namespace Go.Proofs.Ytikojanpbbiaiaa
open Go.RowKit Go.Shelf
attribute [local go_sem] Oper.semAt_some

/-- the slice value sv holds these ints, in a block below n₀; or none -/
def Ints (n₀ : Nat) (W : World) (sv : Value) (xs : List Int) : Prop :=
  ∃ a cap, sv = .slice a xs.length cap ∧ ∀ j, (h : j < xs.length) → ∃ b off, a = some ⟨b, off, none⟩ ∧ b < n₀ ∧ fits xs[j] ∧ W.cell? ⟨b, off + j, none⟩ = some (.int .i64 xs[j])
theorem Ints.below {n₀ : Nat} {A B : World} (h : Below n₀ A B) {sv : Value} {xs : List Int} : Ints n₀ A sv xs → Ints n₀ B sv xs
  | ⟨a, cap, e, f⟩ => ⟨a, cap, e, fun j hj => by
    obtain ⟨b, off, h1, h2, h3, h4⟩ := f j hj
    exact ⟨b, off, h1, h2, h3, (h.cell (p := ⟨b, off + j, none⟩) h2).trans h4⟩⟩
theorem Ints.up {n₀ : Nat} {A B : World} {sv : Value} {xs : List Int} (h : Ints n₀ A sv xs) (hb : Below n₀ A B) (hn : n₀ ≤ B.heap.size) : Ints B.heap.size B sv xs := by
  obtain ⟨a, cap, e, f⟩ := h.below hb
  exact ⟨a, cap, e, fun j hj => by
    obtain ⟨b, off, h1, h2, h3⟩ := f j hj
    exact ⟨b, off, h1, by omega, h3⟩⟩

/-- the j-th number of a list, by its rest -/
def nextF (xs : List Int) (j : Nat) (m : Int) : Int := xs.getD j 0 % m
theorem nextF_in (xs : List Int) (j : Nat) {m : Int} (h : 1 ≤ m) : 0 ≤ nextF xs j m ∧ nextF xs j m < m := ⟨Int.emod_nonneg _ (by omega), Int.emod_lt_of_pos _ (by omega)⟩

theorem Below.of_grown {n₀ : Nat} {W W' : World} {row : Option Nat} (hg : W.grownBy W' row) (hn : n₀ ≤ W.heap.size) (hr : ∀ r, row = some r → n₀ ≤ r) : Below n₀ W W' :=
  ⟨hg.os, hg.tape, hg.output, hg.size, fun i hi => hg.block i (by omega) (fun e => by have := hr i e.symm; omega)⟩

theorem setCell_grown (W : World) (b i : Nat) (v : Value) (p : Growth) : W.grownBy ((W.setCell ⟨b, i, none⟩ v).growBy p) (some b) := by
  refine ⟨rfl, rfl, rfl, by simp, fun k hk hne => ?_⟩
  rw [World.heap_growBy _ _ (by simpa using hk)]
  exact Below.heap_setCell _ _ _ _ (fun e => hne (by rw [e]))

end Go.Proofs.Ytikojanpbbiaiaa
namespace Go.Proofs.Ytikojanpbbiaiaa
set_option linter.unusedVariables false
set_option linter.unusedSimpArgs false
open Go.RowKit Go.Shelf
theorem drew_grown7 (W : World) : W.grownBy W.drew none := ⟨rfl, rfl, rfl, Nat.le_refl _, fun _ _ _ => rfl⟩
end Go.Proofs.Ytikojanpbbiaiaa
namespace Go.Proofs.Ytikojanpbbiaiaa
set_option linter.unusedVariables false
set_option linter.unusedSimpArgs false
open Go.RowKit Go.Shelf

/-- the kinds of cells: ints, short strings, bools, short slices of e, any strings -/
structure CT where
  k : Nat
  e : TypeId
abbrev CT.int : CT := ⟨0, 0⟩
abbrev CT.str : CT := ⟨1, 0⟩
abbrev CT.bool : CT := ⟨2, 0⟩
abbrev CT.sl (e : TypeId) : CT := ⟨3, e⟩
abbrev CT.any : CT := ⟨4, 0⟩

def cellsT (t : TypeId) : List CT :=
  if t = 3 then [.int]
  else if t = 37 then [.int, .int]
  else if t = 149 then [.int, .int, .int]
  else if t = 133 then [.int, .sl 37, .int, .int]
  else if t = 153 then [.int, .sl 149, .int, .int]
  else if t = 68 then [.int, .str, .str, .int, .int]
  else if t = 137 then [.int, .sl 37, .int, .str, .str, .bool, .int, .int]
  else if t = 41 then [.int, .int, .int, .str, .any, .int, .int]
  else []
abbrev sizeT (t : TypeId) : Nat := (cellsT t).length

/-- a set of blocks -/
abbrev BS := Nat → Prop

/-- v is a slice of n elements of type e, in a block of S -/
def SL (S : BS) (W : World) (e : TypeId) (v : Value) (n : Nat) : Prop :=
  ∃ a cap, v = .slice a n cap ∧ n ≤ cap ∧ ((a = none ∧ cap = 0) ∨ ∃ b o c, a = some ⟨b, o * sizeT e, none⟩ ∧ S b ∧ Blk W b c e ∧ (o + cap) * sizeT e ≤ c.size)

structure CT.ok (S : BS) (W : World) (ct : CT) (v : Value) : Prop where
  lt : ct.k < 5
  i : ct.k = 0 → ∃ x, v = .int .i64 x ∧ fits x
  s : ct.k = 1 → ∃ s : ByteArray, v = .string s ∧ s.size ≤ 30
  b : ct.k = 2 → ∃ b, v = .bool b
  l : ct.k = 3 → ∃ n, n ≤ 100 ∧ SL S W ct.e v n
  a : ct.k = 4 → ∃ s : ByteArray, v = .string s
theorem CT.ok_int {S : BS} {W : World} {x : Int} (h : fits x) : CT.int.ok S W (.int .i64 x) := ⟨by decide, fun _ => ⟨x, rfl, h⟩, fun e => absurd e (by decide), fun e => absurd e (by decide), fun e => absurd e (by decide), fun e => absurd e (by decide)⟩
theorem CT.ok_str {S : BS} {W : World} {s : ByteArray} (h : s.size ≤ 30) : CT.str.ok S W (.string s) := ⟨by decide, fun e => absurd e (by decide), fun _ => ⟨s, rfl, h⟩, fun e => absurd e (by decide), fun e => absurd e (by decide), fun e => absurd e (by decide)⟩
theorem CT.ok_bool {S : BS} {W : World} (b : Bool) : CT.bool.ok S W (.bool b) := ⟨by decide, fun e => absurd e (by decide), fun e => absurd e (by decide), fun _ => ⟨b, rfl⟩, fun e => absurd e (by decide), fun e => absurd e (by decide)⟩
theorem CT.ok_sl {S : BS} {W : World} {e : TypeId} {v : Value} {n : Nat} (h : SL S W e v n) (hn : n ≤ 100) : (CT.sl e).ok S W v := ⟨by show 3 < 5; decide, fun e => absurd e (by show ¬ 3 = 0; decide), fun e => absurd e (by show ¬ 3 = 1; decide), fun e => absurd e (by show ¬ 3 = 2; decide), fun _ => ⟨n, hn, h⟩, fun e => absurd e (by show ¬ 3 = 4; decide)⟩
def TB (S : BS) (W : World) (e : TypeId) (c : Array Value) : Prop := ∀ (i : Nat) (u : Value) (ct : CT), c[i]? = some u → (cellsT e)[i % sizeT e]? = some ct → ct.ok S W u
/-- the blocks of S are as their types say -/
def TW (S : BS) (W : World) : Prop := ∀ b, S b → ∃ c e, Blk W b c e ∧ TB S W e c

def Shp (S : BS) (W W' : World) : Prop := ∀ b c e, S b → Blk W b c e → ∃ c', Blk W' b c' e ∧ c'.size = c.size
theorem Shp.refl (S : BS) (W : World) : Shp S W W := fun _ c _ _ h => ⟨c, h, rfl⟩
theorem Shp.trans {S S1 : BS} {W W1 W2 : World} (h1 : Shp S W W1) (h2 : Shp S1 W1 W2) (hs : ∀ b, S b → S1 b) : Shp S W W2 := fun b c e hb hc => by
  obtain ⟨c1, k1, s1⟩ := h1 b c e hb hc
  obtain ⟨c2, k2, s2⟩ := h2 b c1 e (hs b hb) k1
  exact ⟨c2, k2, s2.trans s1⟩
theorem SL.mono {S S' : BS} {W W' : World} {e : TypeId} {v : Value} {n : Nat} (h : SL S W e v n) (hs : ∀ b, S b → S' b) (hsh : Shp S W W') : SL S' W' e v n := by
  obtain ⟨a, cap, rfl, hn, h | ⟨b, o, c, rfl, hb, hc, hl⟩⟩ := h
  · exact ⟨a, cap, rfl, hn, .inl h⟩
  · obtain ⟨c', hc', hz⟩ := hsh b c e hb hc
    exact ⟨_, cap, rfl, hn, .inr ⟨b, o, c', rfl, hs b hb, hc', by omega⟩⟩
theorem CT.ok.mono {S S' : BS} {W W' : World} {ct : CT} {v : Value} (h : ct.ok S W v) (hs : ∀ b, S b → S' b) (hsh : Shp S W W') : ct.ok S' W' v :=
  ⟨h.lt, h.i, h.s, h.b, fun e => by obtain ⟨n, hn, h⟩ := h.l e; exact ⟨n, hn, h.mono hs hsh⟩, h.a⟩
theorem TB.mono {S S' : BS} {W W' : World} {e : TypeId} {c : Array Value} (h : TB S W e c) (hs : ∀ b, S b → S' b) (hsh : Shp S W W') : TB S' W' e c := fun i u ct h1 h2 => (h i u ct h1 h2).mono hs hsh

/-- one such world turns into another one; the blocks of X may turn too -/
structure Ev (X : BS) (S : BS) (W : World) (S' : BS) (W' : World) : Prop where
  sub : ∀ b, S b → S' b
  new : ∀ b, S' b → S b ∨ W.heap.size ≤ b
  os : W'.os = W.os
  tape : W'.tape = W.tape
  output : W'.output = W.output
  size : W.heap.size ≤ W'.heap.size
  rest : ∀ b, b < W.heap.size → ¬ S b → ¬ X b → W'.heap[b]? = W.heap[b]?
  shape : Shp S W W'
  ok : TW S' W'

theorem TW.lt {S : BS} {W : World} (h : TW S W) {b : Nat} (hb : S b) : b < W.heap.size := by
  obtain ⟨c, e, hc, -⟩ := h b hb
  exact hc.lt
theorem Ev.refl {X S : BS} {W : World} (h : TW S W) : Ev X S W S W := ⟨fun _ h => h, fun _ h => .inl h, rfl, rfl, rfl, Nat.le_refl _, fun _ _ _ _ => rfl, Shp.refl _ _, h⟩
theorem Ev.trans {X S S1 S2 : BS} {W W1 W2 : World} (h1 : Ev X S W S1 W1) (h2 : Ev X S1 W1 S2 W2) : Ev X S W S2 W2 :=
  ⟨fun b h => h2.sub b (h1.sub b h), fun b h => by
    rcases h2.new b h with h | h
    · exact h1.new b h
    · exact .inr (Nat.le_trans h1.size h), h2.os.trans h1.os, h2.tape.trans h1.tape, h2.output.trans h1.output, Nat.le_trans h1.size h2.size, fun b hb hn hx => by
    have hn1 : ¬ S1 b := fun h => by
      rcases h1.new b h with h | h
      · exact hn h
      · omega
    exact (h2.rest b (Nat.lt_of_lt_of_le hb h1.size) hn1 hx).trans (h1.rest b hb hn hx), h1.shape.trans h2.shape h1.sub, h2.ok⟩
theorem Ev.below {X S S' : BS} {W W' : World} (h : Ev X S W S' W') {n : Nat} (hS : ∀ b, S b → n ≤ b) (hX : ∀ b, X b → n ≤ b) (hn : n ≤ W.heap.size) : Below n W W' :=
  ⟨h.os, h.tape, h.output, h.size, fun b hb => h.rest b (by omega) (fun hs => by have := hS b hs; omega) (fun hs => by have := hX b hs; omega)⟩
theorem Ev.sl {X S S' : BS} {W W' : World} (h : Ev X S W S' W') {e : TypeId} {v : Value} {n : Nat} (hs : SL S W e v n) : SL S' W' e v n := hs.mono h.sub h.shape
theorem Ev.ct {X S S' : BS} {W W' : World} (h : Ev X S W S' W') {ct : CT} {v : Value} (hs : ct.ok S W v) : ct.ok S' W' v := hs.mono h.sub h.shape
theorem Ev.blk {X S S' : BS} {W W' : World} (h : Ev X S W S' W') {b : Nat} {c : Array Value} {t : TypeId} (hb : Blk W b c t) (hn : ¬ S b) (hx : ¬ X b) : Blk W' b c t := (h.rest b hb.lt hn hx).trans hb
theorem Ev.not {X S S' : BS} {W W' : World} (h : Ev X S W S' W') {b : Nat} (hb : b < W.heap.size) (hn : ¬ S b) : ¬ S' b := fun hs => by
  rcases h.new b hs with h | h
  · exact hn h
  · omega
/-- no block of S turns -/
theorem Ev.of_grown {X S : BS} {W W' : World} {row : Option Nat} (hT : TW S W) (hg : W.grownBy W' row) (hr : ∀ r, row = some r → ¬ S r ∧ X r) : Ev X S W S W' := by
  have hsame : ∀ b, S b → W'.heap[b]? = W.heap[b]? := fun b hb => hg.block b (hT.lt hb) (fun e => (hr b e.symm).1 hb)
  have hsh : Shp S W W' := fun b c e hb hc => ⟨c, (hsame b hb).trans hc, rfl⟩
  refine ⟨fun _ h => h, fun _ h => .inl h, hg.os, hg.tape, hg.output, hg.size, fun b hb _ hx => hg.block b hb (fun e => hx (hr b e.symm).2), hsh, fun b hb => ?_⟩
  obtain ⟨c, e, hc, ht⟩ := hT b hb
  exact ⟨c, e, (hsame b hb).trans hc, ht.mono (fun _ h => h) hsh⟩
theorem Ev.of_below {X S : BS} {W W' : World} (hT : TW S W) (h : Below W.heap.size W W') : Ev X S W S W' := Ev.of_grown hT (grownBy_of_below h) (fun r e => by cases e)
theorem Ev.drew {X S : BS} {W : World} (hT : TW S W) : Ev X S W S W.drew := Ev.of_grown hT (drew_grown7 W) (fun r e => by cases e)
/-- TW looks at S's blocks alone -/
theorem TW.of_same {S : BS} {W W' : World} (hT : TW S W) (h : ∀ b, S b → W'.heap[b]? = W.heap[b]?) : TW S W' := by
  have hsh : Shp S W W' := fun b c e hb hc => ⟨c, (h b hb).trans hc, rfl⟩
  intro b hb
  obtain ⟨c, e, hc, ht⟩ := hT b hb
  exact ⟨c, e, (h b hb).trans hc, ht.mono (fun _ h => h) hsh⟩
theorem TW.none (W : World) : TW (fun _ => False) W := fun _ h => h.elim

/-- a block of S more -/
theorem Ev.alloc {X S : BS} {W : World} (hT : TW S W) {c : Array Value} {e : TypeId} (hc : TB S W e c) : Ev X S W (fun b => S b ∨ b = W.heap.size) (W.alloc (.cells c e)) := by
  have hsh : Shp S W (W.alloc (.cells c e)) := fun b c' e' hb hc' => ⟨c', hc'.alloc _, rfl⟩
  refine ⟨fun _ h => .inl h, fun b h => by rcases h with h | rfl; exact .inl h; exact .inr (Nat.le_refl _), rfl, rfl, rfl, by simp, fun b hb _ _ => (World.grownBy_alloc W _ none).block b hb (by simp), hsh, fun b hb => ?_⟩
  rcases hb with hb | rfl
  · obtain ⟨c', e', hc', ht⟩ := hT b hb
    exact ⟨c', e', hc'.alloc _, ht.mono (fun _ h => .inl h) hsh⟩
  · exact ⟨c, e, Blk.new W c e, hc.mono (fun _ h => .inl h) hsh⟩
/-- a cell of S's turns -/
theorem Ev.set {X S : BS} {W : World} (hT : TW S W) {b : Nat} {c : Array Value} {e : TypeId} (hb : S b) (hc : Blk W b c e) (i : Nat) (v : Value) (hv : ∀ ct, (cellsT e)[i % sizeT e]? = some ct → ct.ok S W v) : Ev X S W S (W.setCell ⟨b, i, none⟩ v) := by
  have hsh : Shp S W (W.setCell ⟨b, i, none⟩ v) := fun b' c' e' hb' hc' => by
    by_cases h : b' = b
    · subst h
      obtain ⟨rfl, rfl⟩ : c' = c ∧ e' = e := by
        unfold Blk at hc hc'
        rw [hc] at hc'
        cases hc'
        exact ⟨rfl, rfl⟩
      exact ⟨_, hc'.set i v, by simp⟩
    · exact ⟨c', hc'.other h i v, rfl⟩
  refine ⟨fun _ h => h, fun _ h => .inl h, rfl, rfl, rfl, by simp, fun b' _ hn _ => Below.heap_setCell _ _ _ _ (fun e => hn (by simp at e; exact e ▸ hb)), hsh, fun b' hb' => ?_⟩
  by_cases h : b' = b
  · subst h
    obtain ⟨c0, e0, hc0, ht⟩ := hT b' hb'
    obtain ⟨rfl, rfl⟩ : c0 = c ∧ e0 = e := by
      unfold Blk at hc hc0
      rw [hc] at hc0
      cases hc0
      exact ⟨rfl, rfl⟩
    refine ⟨_, e0, hc0.set i v, fun j u ct h1 h2 => ?_⟩
    rw [Array.getElem?_setIfInBounds] at h1
    split at h1
    · rename_i hij
      subst hij
      split at h1
      · cases h1
        exact (hv ct h2).mono (fun _ h => h) hsh
      · cases h1
    · exact (ht j u ct h1 h2).mono (fun _ h => h) hsh
  · obtain ⟨c0, e0, hc0, ht⟩ := hT b' hb'
    exact ⟨c0, e0, hc0.other h i v, ht.mono (fun _ h => h) hsh⟩
theorem Ev.setCells {X S : BS} {b : Nat} {e : TypeId} (hb : S b) : ∀ (vs : List Value) (o : Nat) (W : World) (c : Array Value), TW S W → Blk W b c e → (∀ j u ct, vs[j]? = some u → (cellsT e)[(o + j) % sizeT e]? = some ct → ct.ok S W u) → Ev X S W S (W.setCells b o vs)
  | [], o, W, c, hT, hc, hv => Ev.refl hT
  | v :: r, o, W, c, hT, hc, hv => by
    have h1 := Ev.set (X := X) hT hb hc o v (fun ct h => hv 0 v ct rfl (by simpa using h))
    exact h1.trans (Ev.setCells hb r (o + 1) _ _ h1.ok (hc.set o v) (fun j u ct h2 h3 => h1.ct (hv (j + 1) u ct (by simpa using h2) (by rw [show o + (j + 1) = o + 1 + j from by omega]; exact h3))))

/-- a type of elements -/
structure ET (e : TypeId) (s : Nat) : Prop where
  size : sizeT e = s
  pos : 0 < s
  info : ∃ i z, Try.prog.info? e = some i ∧ i.zero = some z ∧ i.size = s ∧ i.bytes ≤ 1000 ∧ z.cells.size = s ∧ ∀ S W (j : Nat) u ct, z.cells[j]? = some u → (cellsT e)[j]? = some ct → CT.ok S W ct u

theorem CT.ok.one {S : BS} {W : World} {ct : CT} {u : Value} (h : ct.ok S W u) : u.oneCell' = true := by
  have hk := h.lt
  rcases (show ct.k = 0 ∨ ct.k = 1 ∨ ct.k = 2 ∨ ct.k = 3 ∨ ct.k = 4 from by omega) with e | e | e | e | e
  · obtain ⟨x, rfl, -⟩ := h.i e; rfl
  · obtain ⟨x, rfl, -⟩ := h.s e; rfl
  · obtain ⟨x, rfl⟩ := h.b e; rfl
  · obtain ⟨n, -, a, cap, rfl, -⟩ := h.l e; rfl
  · obtain ⟨x, rfl⟩ := h.a e; rfl

/-- the cells of a slice -/
theorem SL.cells {S : BS} {W : World} {e : TypeId} {v : Value} {n s : Nat} (hT : TW S W) (he : ET e s) (h : SL S W e v n) : ∃ (a : Option Addr) (cap : Nat) (news : List Value), v = .slice a n cap ∧ n ≤ cap ∧ news.length = n * s ∧ (∀ j u, news[j]? = some u → ∃ ad, a = some ad ∧ W.cell? (ad.add j) = some u) ∧ (∀ j u ct, news[j]? = some u → (cellsT e)[j % s]? = some ct → ct.ok S W u) ∧ (∀ u ∈ news, u.oneCell' = true) ∧ (a = none → n = 0) := by
  have hs := he.size
  have hp := he.pos
  obtain ⟨a, cap, rfl, hn, ⟨rfl, rfl⟩ | ⟨b, o, c, rfl, hb, hc, hl⟩⟩ := h
  · obtain rfl : n = 0 := by omega
    exact ⟨none, 0, [], rfl, Nat.le_refl _, by simp, by simp, by simp, by simp, fun _ => rfl⟩
  · rw [hs] at hl ⊢
    obtain ⟨c0, e0, hc0, ht⟩ := hT b hb
    obtain ⟨rfl, rfl⟩ : c0 = c ∧ e0 = e := by
      unfold Blk at hc hc0
      rw [hc] at hc0
      cases hc0
      exact ⟨rfl, rfl⟩
    have hle : (o + n) * s ≤ c0.size := Nat.le_trans (Nat.mul_le_mul_right s (by omega)) hl
    rw [Nat.add_mul] at hle
    have hget : ∀ j u, ((c0.toList.drop (o * s)).take (n * s))[j]? = some u → c0[o * s + j]? = some u := fun j u h => by
      rw [List.getElem?_take] at h
      split at h
      · rw [List.getElem?_drop] at h
        simpa using h
      · cases h
    have hty : ∀ j u ct, ((c0.toList.drop (o * s)).take (n * s))[j]? = some u → (cellsT e0)[j % s]? = some ct → ct.ok S W u := fun j u ct h1 h2 =>
      ht (o * s + j) u ct (hget j u h1) (by rw [hs, Nat.mul_comm, Nat.mul_add_mod]; exact h2)
    refine ⟨_, cap, (c0.toList.drop (o * s)).take (n * s), rfl, hn, by simp; omega, fun j u hj => ⟨_, rfl, ?_⟩, hty, fun u hu => ?_, fun h => by cases h⟩
    · rw [Go.WideShapes.add_plain]
      exact (hc.cell _).trans (hget j u hj)
    · obtain ⟨j, hj, rfl⟩ := List.getElem_of_mem hu
      have hm : j % s < (cellsT e0).length := by rw [show (cellsT e0).length = s from hs]; exact Nat.mod_lt _ hp
      exact (hty j _ _ (List.getElem?_eq_getElem hj) (List.getElem?_eq_getElem hm)).one

/-- append -/
theorem append_tw {X S : BS} {W : World} (hT : TW S W) {t e ty : TypeId} {s : Nat} (ht : Try.prog.underlying t = some (.slice e)) (he : ET e s) {sv xv : Value} {n m : Nat} (hv : SL S W e sv n) (hx : SL S W e xv m) (hl : n + m ≤ 1000000) :
    ∃ v' S' W', (Builtin.append_ #[t, t] ty #[sv, xv]).run Try.prog W = .ok v' W' ∧ SL S' W' e v' (n + m) ∧ Ev X S W S' W' := by
  obtain ⟨i, z, hi, hz, hsz, hby, hzs, hzt⟩ := he.info
  have hp := he.pos
  have hss := he.size
  obtain ⟨xa, xc, news, rfl, hxn, hnl, hnc, hnt, hn1, hx0⟩ := hx.cells hT he
  have hsrc : Src Try.prog i.size t (.slice xa m xc) m news W := by
    cases xa with
    | none =>
      obtain rfl := hx0 rfl
      obtain rfl : news = [] := List.eq_nil_of_length_eq_zero (by simpa using hnl)
      exact Src.ofNil W ht xc
    | some ad => exact Src.ofSlice W ht ad m xc news (by rw [hsz]; exact hnl) (fun j u hj => by obtain ⟨ad', h, hc⟩ := hnc j u hj; cases h; exact hc) hn1
  have hv' := hv
  obtain ⟨a, cap, olds, rfl, hnc', hol, hoc, hot, ho1, ha0⟩ := hv.cells hT he
  by_cases hroom : n + m ≤ cap
  · obtain ⟨a2, cap2, h2, -, h3⟩ := hv'
    cases h2
    rcases h3 with ⟨rfl, rfl⟩ | ⟨b, o, c, rfl, hb, hc, hcl⟩
    · obtain rfl : n = 0 := by omega
      obtain rfl : m = 0 := by omega
      refine ⟨.slice none 0 0, S, W, ?_, ⟨none, 0, rfl, Nat.le_refl _, .inl ⟨rfl, rfl⟩⟩, Ev.refl hT⟩
      simp [Builtin.append_, run_underlying ht, sizeOf, typeInfo, hi, hsrc.len, hsrc.cells]
    · rw [hss] at hcl ⊢
      have hmul : (n + m) * s ≤ cap * s := Nat.mul_le_mul_right s hroom
      rw [Nat.add_mul] at hmul hcl
      have hcell : ∀ j, j < news.length → (W.cell? ⟨b, o * s + n * i.size + j, none⟩).isSome = true := fun j hj => by
        rw [hc.cell, hsz, Array.getElem?_eq_getElem (by omega)]
        rfl
      have hr := run_append_room_src (P := Try.prog) W t t ty e i ht hi b (o * s) n cap (.slice xa m xc) m news hsrc hroom hcell (fun j hj => hc.frozen _)
      refine ⟨_, S, _, hr, ?_, ?_⟩
      · have hE := Ev.setCells (X := X) hb news (o * s + n * i.size) W c hT hc (fun j u ct h1 h2 => hnt j u ct h1 (by
          rw [hss, hsz, ← Nat.add_mul, Nat.mul_comm, Nat.mul_add_mod] at h2
          exact h2))
        exact hE.sl ⟨_, cap, rfl, hroom, .inr ⟨b, o, c, by rw [hss], hb, hc, by rw [hss, Nat.add_mul]; omega⟩⟩
      · exact Ev.setCells hb news (o * s + n * i.size) W c hT hc (fun j u ct h1 h2 => hnt j u ct h1 (by
          rw [hss, hsz, ← Nat.add_mul, Nat.mul_comm, Nat.mul_add_mod] at h2
          exact h2))
  · have hold : (Builtin.firstCells i.size n (.slice a n cap)).run Try.prog W.drew = .ok olds.toArray W.drew := by
      cases a with
      | none =>
        obtain rfl := ha0 rfl
        obtain rfl : olds = [] := List.eq_nil_of_length_eq_zero (by simpa using hol)
        exact run_firstCells_none W.drew _ _ _ _
      | some ad => exact run_firstCells_some W.drew i.size n ad n cap olds (by rw [hsz]; exact hol) (fun j u hj => by obtain ⟨ad', h, hc⟩ := hoc j u hj; cases h; simpa using hc)
    have hge := grownCap_ge W (n + m) cap e
    have hcap : Builtin.nextslicecap (n + m) cap * i.bytes ≤ 281474976710656 := growslice_fits (by omega) (Nat.le_trans (Nat.mul_le_mul hl hby) (by decide))
    have hr := run_append_grow_src (P := Try.prog) W t t ty e i z ht hi hz a n cap olds hold (.slice xa m xc) m news hsrc (by omega) (by omega) hcap
    have hTd := (Ev.drew (X := X) hT).ok
    have hdr := Ev.drew (X := X) hT
    have hB : TB S W.drew e ((olds ++ news).toArray ++ Builtin.zeroCells z.cells (grownCap W (n + m) cap e - (n + m))) := by
      intro j u ct h1 h2
      rw [hss] at h2
      rw [Array.getElem?_append] at h1
      split at h1
      · rw [List.getElem?_toArray, List.getElem?_append] at h1
        split at h1
        · exact hdr.ct (hot j u ct h1 h2)
        · rename_i h3 h4
          refine hdr.ct (hnt _ u ct h1 ?_)
          rw [hol] at h4 ⊢
          have : (j - n * s) % s = j % s := by
            conv => rhs; rw [show j = (j - n * s) + s * n from by rw [Nat.mul_comm s n]; omega]
            rw [Nat.add_mul_mod_self_left]
          rw [this]
          exact h2
      · rename_i h3
        simp only [List.size_toArray, List.length_append, hol, hnl, ← Nat.add_mul] at h1 h3
        unfold Builtin.zeroCells at h1
        rw [Array.getElem?_map] at h1
        obtain ⟨k, hk, rfl⟩ := Option.map_eq_some_iff.1 h1
        obtain ⟨hk1, hk2⟩ := Array.getElem?_eq_some_iff.1 hk
        simp only [Array.getElem_range] at hk2
        have hm : (j - (n + m) * s) % s = j % s := by
          conv => rhs; rw [show j = (j - (n + m) * s) + s * (n + m) from by rw [Nat.mul_comm s]; omega]
          rw [Nat.add_mul_mod_self_left]
        rw [← hk2, hzs, hm]
        have hlt : j % s < z.cells.size := by rw [hzs]; exact Nat.mod_lt _ hp
        refine hzt S _ (j % s) _ ct ?_ h2
        rw [getElem!_pos z.cells (j % s) hlt, Array.getElem?_eq_getElem hlt]
    have hA := Ev.alloc (X := X) hTd hB
    refine ⟨_, _, _, hr, ?_, hdr.trans hA⟩
    refine ⟨_, _, rfl, hge, .inr ⟨W.heap.size, 0, _, by rw [Nat.zero_mul], .inr rfl, Blk.new W.drew _ _, ?_⟩⟩
    rw [hss, Nat.zero_add]
    simp only [Array.size_append, List.size_toArray, List.length_append, hol, hnl, size_zeroCells, hzs, ← Nat.add_mul]
    exact Nat.mul_le_mul_right s (by omega)

/-- an append, as an operation -/
theorem wp_append_tw {X S : BS} {w : World} (hT : TW S w) {o : Oper} {a : Act} {K : Act → World → Prop} {Q : Exit → Act → World → Prop} (sO xO : Operand) (t : TypeId) (ho : o.op = .call { callee := .builtin .append, args := #[sO, xO], argTypes := #[t, t] })
    {e : TypeId} {s : Nat} (ht : Try.prog.underlying t = some (.slice e)) (he : ET e s) {sv xv : Value} {n m : Nat} (hsv : a.eval sO = sv) (hv : SL S w e sv n) (hxv : a.eval xO = xv) (hx : SL S w e xv m) (hl : n + m ≤ 1000000)
    (h : ∀ v' S' w', SL S' w' e v' (n + m) → Ev X S w S' w' → K (a.put o.dst v') w') : Oper.wp Try.prog o a w K Q := by
  obtain ⟨v', S', w', hr, h2, h3⟩ := append_tw (X := X) hT (ty := o.type) ht he hv hx hl
  unfold Oper.wp execOp
  simp only [ho, resolve, invoke, builtin, Sem.run_bind, Sem.run_pure, Result.andThen_ok, List.map_toArray, List.map_cons, List.map_nil, hsv, hxv, hr]
  exact h v' S' w' h2 h3
theorem wpList_append_tw {X S : BS} {w : World} (hT : TW S w) {ops : Array Oper} {rest : List Oper} {o : Oper} {a : Act} {Q : Exit → Act → World → Prop} (hgd : o.guard = none) (sO xO : Operand) (t : TypeId) (ho : o.op = .call { callee := .builtin .append, args := #[sO, xO], argTypes := #[t, t] })
    {e : TypeId} {s : Nat} (ht : Try.prog.underlying t = some (.slice e)) (he : ET e s) {sv xv : Value} {n m : Nat} (hsv : a.eval sO = sv) (hv : SL S w e sv n) (hxv : a.eval xO = xv) (hx : SL S w e xv m) (hl : n + m ≤ 1000000)
    (h : ∀ v' S' w', SL S' w' e v' (n + m) → Ev X S w S' w' → wpList Try.prog ops Q rest (a.put o.dst v') w') : wpList Try.prog ops Q (o :: rest) a w :=
  wpList_plain hgd fun _ hK => wp_append_tw hT sO xO t ho ht he hsv hv hxv hx hl fun v' S' w' h2 h3 => hK _ _ (h v' S' w' h2 h3)
end Go.Proofs.Ytikojanpbbiaiaa
namespace Go.Proofs.Ytikojanpbbiaiaa
set_option linter.unusedVariables false
set_option linter.unusedSimpArgs false
open Go.RowKit Go.Shelf
attribute [local go_sem] Oper.semAt_some
attribute [local go_sem ↓] Go.wp_at_zero Go.wp_at_succ

/-- the worlds of Line's walk -/
structure LN (w : World) (B2 B3 base : Nat) (ax ay bx by_ : Int) (lv : Value) (l : List Spot) (W : World) : Prop where
  k2 : Blk W B2 #[.int .i64 ax, .int .i64 ay] 37
  k3 : Blk W B3 #[.int .i64 bx, .int .i64 by_] 37
  l2 : B2 < base
  l3 : B3 < base
  lw : w.heap.size ≤ base
  row : W.ownsRow base 37 2 lv l.length (l.flatMap encS)
  below : Below w.heap.size w W
  lb : base ≤ W.heap.size
section
variable {w W W' : World} {B2 B3 base : Nat} {ax ay bx by_ : Int} {lv : Value} {l : List Spot}
theorem LN.grown (h : LN w B2 B3 base ax ay bx by_ lv l W) (hg : W.grownBy W' none) : LN w B2 B3 base ax ay bx by_ lv l W' :=
  ⟨h.k2.kept hg (by simp), h.k3.kept hg (by simp), h.l2, h.l3, h.lw, by
    refine h.row.kept hg ?_
    rcases h.row.2 with ⟨rfl, _⟩ | ⟨g, cap, cur, rfl, _⟩
    · exact .inl rfl
    · exact .inr (fun e => by cases e), h.below.grown hg h.below.size (fun k e => by cases e), Nat.le_trans h.lb hg.size⟩
theorem LN.alloc (h : LN w B2 B3 base ax ay bx by_ lv l W) (o : Obj) : LN w B2 B3 base ax ay bx by_ lv l (W.alloc o) := h.grown (World.grownBy_alloc W o none)
theorem LN.b0 (h : LN w B2 B3 base ax ay bx by_ lv l W) : W.cell? ⟨B3, 0, none⟩ = some (.int .i64 bx) := h.k3.cell 0
theorem LN.b1 (h : LN w B2 B3 base ax ay bx by_ lv l W) : W.cell? ⟨B3, 1, none⟩ = some (.int .i64 by_) := h.k3.cell 1
end
end Go.Proofs.Ytikojanpbbiaiaa
namespace Go.Proofs.Ytikojanpbbiaiaa
set_option linter.unusedVariables false
set_option linter.unusedSimpArgs false
open Go.RowKit Go.Shelf
attribute [local go_sem] Oper.semAt_some

/-- a zero cell -/
def zOk (ct : CT) (u : Value) : Bool :=
  match u with
  | .int .i64 n => ct.k == 0 && n == 0
  | .string s => (ct.k == 1 || ct.k == 4) && s.size == 0
  | .bool _ => ct.k == 2
  | .slice none 0 0 => ct.k == 3
  | _ => false
theorem zOk_ok {ct : CT} {u : Value} (h : zOk ct u = true) (S : BS) (W : World) : ct.ok S W u := by
  obtain ⟨k, e⟩ := ct
  unfold zOk at h
  split at h
  · simp only [Bool.and_eq_true, beq_iff_eq] at h
    obtain ⟨rfl, rfl⟩ := h
    exact ⟨by simp, fun _ => ⟨0, rfl, ⟨by decide, by decide⟩⟩, fun e => by simp at e, fun e => by simp at e, fun e => by simp at e, fun e => by simp at e⟩
  · rename_i s
    simp only [Bool.and_eq_true, Bool.or_eq_true, beq_iff_eq] at h
    obtain ⟨rfl | rfl, h⟩ := h
    · exact ⟨by simp, fun e => by simp at e, fun _ => ⟨s, rfl, by omega⟩, fun e => by simp at e, fun e => by simp at e, fun e => by simp at e⟩
    · exact ⟨by simp, fun e => by simp at e, fun e => by simp at e, fun e => by simp at e, fun e => by simp at e, fun _ => ⟨s, rfl⟩⟩
  · rename_i b
    simp only [beq_iff_eq] at h
    subst h
    exact ⟨by simp, fun e => by simp at e, fun e => by simp at e, fun _ => ⟨b, rfl⟩, fun e => by simp at e, fun e => by simp at e⟩
  · simp only [beq_iff_eq] at h
    subst h
    exact ⟨by simp, fun e => by simp at e, fun e => by simp at e, fun e => by simp at e, fun _ => ⟨0, by omega, none, 0, rfl, Nat.le_refl _, .inl ⟨rfl, rfl⟩⟩, fun e => by simp at e⟩
  · cases h
def zAll (e : TypeId) (z : Value) : Bool := (List.range (sizeT e)).all fun j => match z.cells[j]?, (cellsT e)[j]? with | some u, some ct => zOk ct u | _, _ => false
theorem zAll_ok {e : TypeId} {z : Value} (h : zAll e z = true) (S : BS) (W : World) (j : Nat) (u : Value) (ct : CT) (h1 : z.cells[j]? = some u) (h2 : (cellsT e)[j]? = some ct) : ct.ok S W u := by
  have hj : j < sizeT e := (List.getElem?_eq_some_iff.1 h2).1
  have h3 := List.all_eq_true.1 h j (List.mem_range.2 hj)
  rw [h1, h2] at h3
  exact zOk_ok h3 S W
theorem et_of {e : TypeId} {s bytes : Nat} {z : Value} (h : (Try.prog.info? e).map (fun i => (i.zero, i.size, i.bytes)) = some (some z, s, bytes)) (h1 : sizeT e = s) (h2 : 0 < s) (h3 : bytes ≤ 1000) (h4 : z.cells.size = s) (h5 : zAll e z = true) : ET e s := by
  obtain ⟨i, hi, hz, hs, hb⟩ := info_parts h
  exact ⟨h1, h2, i, z, hi, hz, hs, by omega, h4, zAll_ok h5⟩
abbrev edZ : Array Value := #[.int .i64 0, .slice none 0 0, .int .i64 0, .int .i64 0]
abbrev faZ : Array Value := #[.int .i64 0, .string ⟨#[]⟩, .string ⟨#[]⟩, .int .i64 0, .int .i64 0]
abbrev wyZ7 : Array Value := #[.int .i64 0, .slice none 0 0, .int .i64 0, .string ⟨#[]⟩, .string ⟨#[]⟩, .bool false, .int .i64 0, .int .i64 0]
theorem et_int : ET 3 1 := et_of (z := .int .i64 0) (bytes := 8) (by kernel_rfl) rfl (by omega) (by omega) rfl (by kernel_rfl)
theorem et_point : ET 37 2 := et_of (z := .agg #[.int .i64 0, .int .i64 0]) (bytes := 16) (by kernel_rfl) rfl (by omega) (by omega) rfl (by kernel_rfl)
theorem et_spot : ET 149 3 := et_of (z := .agg #[.int .i64 0, .int .i64 0, .int .i64 0]) (bytes := 24) (by kernel_rfl) rfl (by omega) (by omega) rfl (by kernel_rfl)
theorem et_edge : ET 133 4 := et_of (z := .agg edZ) (bytes := 48) (by kernel_rfl) rfl (by omega) (by omega) rfl (by kernel_rfl)
theorem et_trace : ET 153 4 := et_of (z := .agg edZ) (bytes := 48) (by kernel_rfl) rfl (by omega) (by omega) rfl (by kernel_rfl)
theorem et_face : ET 68 5 := et_of (z := .agg faZ) (bytes := 56) (by kernel_rfl) rfl (by omega) (by omega) rfl (by kernel_rfl)
theorem et_way : ET 137 8 := et_of (z := .agg wyZ7) (bytes := 96) (by kernel_rfl) rfl (by omega) (by omega) rfl (by kernel_rfl)
theorem SL.nil (S : BS) (W : World) (e : TypeId) : SL S W e (.slice none 0 0) 0 := ⟨none, 0, rfl, Nat.le_refl _, .inl ⟨rfl, rfl⟩⟩
/-- a whole block of the call's own -/
theorem SL.blk {S : BS} {W : World} {e : TypeId} {b n : Nat} {c : Array Value} (hb : S b) (hc : Blk W b c e) (hn : n * sizeT e ≤ c.size) : SL S W e (.slice (some ⟨b, 0, none⟩) n n) n :=
  ⟨_, n, rfl, Nat.le_refl _, .inr ⟨b, 0, c, by rw [Nat.zero_mul], hb, hc, by rw [Nat.zero_add]; exact hn⟩⟩
theorem SL.some_ {S : BS} {W : World} {e : TypeId} {v : Value} {n : Nat} (h : SL S W e v n) (hn : 0 < n) : ∃ b off cap, v = .slice (some ⟨b, off, none⟩) n cap ∧ n ≤ cap ∧ S b := by
  obtain ⟨a, cap, rfl, h1, ⟨rfl, rfl⟩ | ⟨b, o, c, rfl, hb, -, -⟩⟩ := h
  · omega
  · exact ⟨b, _, cap, rfl, h1, hb⟩
theorem SL.form {S : BS} {W : World} {e : TypeId} {v : Value} {n : Nat} (h : SL S W e v n) : ∃ a cap, v = .slice a n cap ∧ n ≤ cap := by
  obtain ⟨a, cap, rfl, h1, -⟩ := h
  exact ⟨a, cap, rfl, h1⟩
/-- a cell of an element -/
theorem SL.cell {S : BS} {W : World} {e : TypeId} {b off n cap s : Nat} (hT : TW S W) (he : ET e s) (h : SL S W e (.slice (some ⟨b, off, none⟩) n cap) n) {k : Nat} (hk : k < n) (i : Nat) (ct : CT) (hct : (cellsT e)[i]? = some ct) :
    ∃ u, W.cell? ⟨b, off + k * s + i, none⟩ = some u ∧ ct.ok S W u := by
  obtain ⟨a, cap', h0, h1, ⟨rfl, rfl⟩ | ⟨b', o, c, rfl, hb, hc, hl⟩⟩ := h
  · simp at h0
  · simp only [Value.slice.injEq, Option.some.injEq, Addr.mk.injEq, and_true, true_and] at h0
    obtain ⟨⟨rfl, rfl⟩, rfl⟩ := h0
    have hs := he.size
    rw [hs] at hl ⊢
    obtain ⟨c0, e0, hc0, ht⟩ := hT b hb
    obtain ⟨rfl, rfl⟩ : c0 = c ∧ e0 = e := by
      unfold Blk at hc hc0
      rw [hc] at hc0
      cases hc0
      exact ⟨rfl, rfl⟩
    have hi : i < s := by rw [← hs]; exact (List.getElem?_eq_some_iff.1 hct).1
    have hle : (o + k + 1) * s ≤ (o + cap) * s := Nat.mul_le_mul_right s (by omega)
    rw [Nat.add_mul, Nat.add_mul, Nat.one_mul] at hle
    have hlt : o * s + k * s + i < c0.size := by omega
    refine ⟨c0[o * s + k * s + i], ?_, ?_⟩
    · rw [hc.cell, Array.getElem?_eq_getElem hlt]
    · refine ht (o * s + k * s + i) _ ct (Array.getElem?_eq_getElem hlt) ?_
      rw [hs, ← Nat.add_mul, Nat.mul_comm, Nat.mul_add_mod, Nat.mod_eq_of_lt hi]
      exact hct
/-- .. may be written -/
theorem SL.store {X S : BS} {W : World} {e : TypeId} {b off n cap s : Nat} (hT : TW S W) (he : ET e s) (h : SL S W e (.slice (some ⟨b, off, none⟩) n cap) n) (k : Nat) (i : Nat) (ct : CT) (hct : (cellsT e)[i]? = some ct) (v : Value) (hv : ct.ok S W v) :
    Ev X S W S (W.setCell ⟨b, off + k * s + i, none⟩ v) ∧ W.frozen? ⟨b, off + k * s + i, none⟩ = false := by
  obtain ⟨a, cap', h0, h1, ⟨rfl, rfl⟩ | ⟨b', o, c, rfl, hb, hc, hl⟩⟩ := h
  · simp at h0
  · simp only [Value.slice.injEq, Option.some.injEq, Addr.mk.injEq, and_true, true_and] at h0
    obtain ⟨⟨rfl, rfl⟩, rfl⟩ := h0
    have hs := he.size
    have hi : i < s := by rw [← hs]; exact (List.getElem?_eq_some_iff.1 hct).1
    refine ⟨Ev.set hT hb hc _ v (fun ct' h => ?_), hc.frozen _⟩
    rw [hs, ← Nat.add_mul, Nat.mul_comm, Nat.mul_add_mod, Nat.mod_eq_of_lt hi, hct] at h
    cases h
    exact hv
theorem SL.take {S : BS} {W : World} {e : TypeId} {a : Option Addr} {n cap k : Nat} (h : SL S W e (.slice a n cap) n) (hk : k ≤ n) : SL S W e (.slice a k cap) k := by
  obtain ⟨a', cap', h0, h1, h2⟩ := h
  cases h0
  exact ⟨a, cap, rfl, by omega, h2⟩
theorem SL.drop {S : BS} {W : World} {e : TypeId} {b off n cap k o2 s : Nat} (hs : sizeT e = s) (h : SL S W e (.slice (some ⟨b, off, none⟩) n cap) n) (hk : k ≤ n) (ho : o2 = off + k * s ∨ (k = cap ∧ o2 = off)) : SL S W e (.slice (some ⟨b, o2, none⟩) (n - k) (cap - k)) (n - k) := by
  obtain ⟨a', cap', h0, h1, ⟨rfl, rfl⟩ | ⟨b', o, c, rfl, hb, hc, hl⟩⟩ := h
  · simp at h0
  · simp only [Value.slice.injEq, Option.some.injEq, Addr.mk.injEq, and_true, true_and] at h0
    obtain ⟨⟨rfl, rfl⟩, rfl⟩ := h0
    rw [hs] at hl
    rcases ho with rfl | ⟨rfl, rfl⟩
    · exact ⟨_, _, rfl, by omega, .inr ⟨b, o + k, c, by rw [hs, Nat.add_mul], hb, hc, by rw [hs, show o + k + (cap - k) = o + cap from by omega]; exact hl⟩⟩
    · exact ⟨_, _, rfl, by omega, .inr ⟨b, o, c, by rw [hs], hb, hc, by rw [hs, Nat.sub_self, Nat.add_zero]; exact Nat.le_trans (Nat.mul_le_mul_right s (by omega)) hl⟩⟩

/-- a block by the kinds of its cells -/
theorem tb_of {S : BS} {W : World} {e : TypeId} {s : Nat} (he : sizeT e = s) {c : Array Value} (hc : c.size = s) (h : ∀ (i : Nat) (u : Value) (ct : CT), c[i]? = some u → (cellsT e)[i]? = some ct → ct.ok S W u) : TB S W e c := fun i u ct h1 h2 => by
  have hi : i < s := by rw [← hc]; exact (Array.getElem?_eq_some_iff.1 h1).1
  rw [he, Nat.mod_eq_of_lt hi] at h2
  exact h i u ct h1 h2
theorem tb_point {S : BS} {W : World} {x y : Int} (hx : fits x) (hy : fits y) : TB S W 37 #[.int .i64 x, .int .i64 y] := tb_of rfl rfl fun i u ct h1 h2 => by
  match i, h1, h2 with
  | 0, h1, h2 => cases h1; cases h2; exact CT.ok_int hx
  | 1, h1, h2 => cases h1; cases h2; exact CT.ok_int hy
  | i + 2, h1, _ => simp at h1
theorem tb_int {S : BS} {W : World} {x : Int} (hx : fits x) : TB S W 3 #[.int .i64 x] := tb_of rfl rfl fun i u ct h1 h2 => by
  match i, h1, h2 with
  | 0, h1, h2 => cases h1; cases h2; exact CT.ok_int hx
  | i + 1, h1, _ => simp at h1
theorem tb_nil {S : BS} {W : World} {e : TypeId} : TB S W e #[] := fun i u ct h1 _ => by simp at h1
theorem tb_edge {S : BS} {W : World} {id l r : Int} {v : Value} {n : Nat} (hi : fits id) (hl : fits l) (hr : fits r) (hv : SL S W 37 v n) (hn : n ≤ 100) : TB S W 133 #[.int .i64 id, v, .int .i64 l, .int .i64 r] := tb_of rfl rfl fun i u ct h1 h2 => by
  match i, h1, h2 with
  | 0, h1, h2 => cases h1; cases h2; exact CT.ok_int hi
  | 1, h1, h2 => cases h1; cases h2; exact CT.ok_sl hv hn
  | 2, h1, h2 => cases h1; cases h2; exact CT.ok_int hl
  | 3, h1, h2 => cases h1; cases h2; exact CT.ok_int hr
  | i + 4, h1, _ => simp at h1
theorem tb_trace {S : BS} {W : World} {id l r : Int} {v : Value} {n : Nat} (hi : fits id) (hl : fits l) (hr : fits r) (hv : SL S W 149 v n) (hn : n ≤ 100) : TB S W 153 #[.int .i64 id, v, .int .i64 l, .int .i64 r] := tb_of rfl rfl fun i u ct h1 h2 => by
  match i, h1, h2 with
  | 0, h1, h2 => cases h1; cases h2; exact CT.ok_int hi
  | 1, h1, h2 => cases h1; cases h2; exact CT.ok_sl hv hn
  | 2, h1, h2 => cases h1; cases h2; exact CT.ok_int hl
  | 3, h1, h2 => cases h1; cases h2; exact CT.ok_int hr
  | i + 4, h1, _ => simp at h1

/-- a length that the machine knows (the literal out of sight of the walks) -/
def LenOk (n : Nat) : Prop := n ≤ 9223372036854775807
/-- the box of the numbers: D, apart from the blocks of S -/
structure TD (S : BS) (n₀ D : Nat) (sv : Value) (xs : List Int) (W : World) : Prop where
  tw : TW S W
  box : ∃ j : Nat, j ≤ xs.length ∧ Blk W D #[sv, .int .i64 (j : Nat)] 65
  ints : Ints n₀ W sv xs
  le : n₀ ≤ D
  len : LenOk xs.length
  low : ∀ b, S b → n₀ ≤ b
  not : ¬ S D
abbrev oneB (D : Nat) : BS := fun b => b = D
theorem TD.lt {S : BS} {n₀ D : Nat} {sv : Value} {xs : List Int} {W : World} (h : TD S n₀ D sv xs W) : D < W.heap.size := by obtain ⟨j, -, hb⟩ := h.box; exact hb.lt
/-- a world that turns otherwise than at the box -/
theorem TD.ev {X S S' : BS} {n₀ D : Nat} {sv : Value} {xs : List Int} {W W' : World} (h : TD S n₀ D sv xs W) (he : Ev X S W S' W') (hX : ∀ b, X b → n₀ ≤ b ∧ b ≠ D) : TD S' n₀ D sv xs W' := by
  have hlt := h.lt
  obtain ⟨j, hj, hb⟩ := h.box
  have hlow : ∀ b, S' b → n₀ ≤ b := fun b hb => by
    rcases he.new b hb with h1 | h1
    · exact h.low b h1
    · have := h.le; omega
  have hbel : Below n₀ W W' := he.below h.low (fun b hb => (hX b hb).1) (by have := h.le; omega)
  exact ⟨he.ok, ⟨j, hj, he.blk hb h.not (fun hx => (hX D hx).2 rfl)⟩, h.ints.below hbel, h.le, h.len, hlow, he.not hlt h.not⟩
set_option maxHeartbeats 1000000 in
set_option maxRecDepth 100000 in
theorem next_free (n₀ D j : Nat) (xs : List Int) (sv : Value) (m v : Int) (w : World) (hv : nextF xs j m = v) (hm1 : 1 ≤ m) (hm2 : m ≤ 4611686018427387904) (hD : n₀ ≤ D) (hI : Ints n₀ w sv xs) (hj : j ≤ xs.length) (hlen : LenOk xs.length) (hB : Blk w D #[sv, .int .i64 (j : Nat)] 65) :
    Calls Try.prog 23 #[.pointer (some ⟨D, 0, none⟩), .int .i64 m] w fun e w' => ∃ p, e = .returned (.int .i64 v) ∧ w' = (w.setCell ⟨D, 1, none⟩ (.int .i64 (min (j + 1) xs.length : Nat))).growBy p := by
  subst hv
  by_cases hlt : j < xs.length
  · rw [show min (j + 1) xs.length = j + 1 from by omega]
    have c0 : w.cell? ⟨D, 0, none⟩ = some sv := hB.cell 0
    have c1 : w.cell? ⟨D, 1, none⟩ = some (.int .i64 (j : Nat)) := hB.cell 1
    have f1 := hB.frozen 1
    obtain ⟨a, cap, rfl, hc⟩ := hI
    obtain ⟨b, off, rfl, hb, fx, cx⟩ := hc j hlt
    have hx : nextF xs j m = xs[j] % m := by unfold nextF; rw [List.getD_eq_getElem?_getD, List.getElem?_eq_getElem hlt]; rfl
    rw [hx]
    obtain ⟨x, hxx⟩ : ∃ x, xs[j] = x := ⟨_, rfl⟩
    rw [hxx] at fx cx ⊢
    have hbD : ¬ b = D := by omega
    have hDb : ¬ D = b := by omega
    have hlt' : (j : Int) < (xs.length : Int) := by omega
    have hjw : IntKind.i64.wrap ((j : Int) + 1) = (j : Int) + 1 := by unfold LenOk at hlen; exact wrap_in7 (by omega) (by omega)
    have hjv : wrap64 ((j : Int) + 1) = (j : Int) + 1 := by unfold LenOk at hlen; exact Go.IntWalk.wrap64_in _ ⟨by omega, by omega⟩
    clear hc hxx hx hj
    go_enter Try.func23, Try.ntmps23
    go_wp2_with fail
    first | with_reducible refine wp_region_grow2 (by kernel_rfl) (by kernel_rfl) ?_ | with_reducible refine wp_region_grow (by kernel_rfl) (by kernel_rfl) ?_
    repeat (first | go_big_quiet_step (fail) | quiet_step (fail))
    refine wpQuiet_nil ?_
    intro _ hw_
    obtain ⟨p, hw_⟩ := hw_
    subst hw_
    go_wp2_with fail
    have hju : wrap64 (j : Int) = (j : Int) := by unfold LenOk at hlen; exact Go.IntWalk.wrap64_in _ ⟨by omega, by omega⟩
    clear hlen
    first | with_reducible refine wp_region_grow2 (by kernel_rfl) (by kernel_rfl) ?_ | with_reducible refine wp_region_grow (by kernel_rfl) (by kernel_rfl) ?_
    repeat (first | go_big_quiet_step ((go_at_call 49; exact Calls.grow_of_same (mod_any _ _ _ fx hm1 hm2))) | quiet_step ((go_at_call 49; exact Calls.grow_of_same (mod_any _ _ _ fx hm1 hm2))))
    refine wpQuiet_nil ?_
    intro _ hw_
    obtain ⟨p, hw_⟩ := hw_
    subst hw_
    go_wp2_with fail
    go_ret
    exact ⟨_, rfl, rfl⟩
  · obtain rfl : j = xs.length := by omega
    rw [show min (xs.length + 1) xs.length = xs.length from by omega]
    have c0 : w.cell? ⟨D, 0, none⟩ = some sv := hB.cell 0
    have c1 : w.cell? ⟨D, 1, none⟩ = some (.int .i64 (xs.length : Nat)) := hB.cell 1
    have f1 := hB.frozen 1
    have hid := World.setCell_id w D 1 _ c1
    have hz : nextF xs xs.length m = 0 := by unfold nextF; rw [List.getD_eq_getElem?_getD, List.getElem?_eq_none (by omega)]; simp
    rw [hz]
    have hge' : ¬ (xs.length : Int) < (xs.length : Int) := by omega
    obtain ⟨a, cap, rfl, -⟩ := hI
    clear hz hlen hj
    go_enter Try.func23, Try.ntmps23
    go_wp2_with fail
    first | with_reducible refine wp_region_grow2 (by kernel_rfl) (by kernel_rfl) ?_ | with_reducible refine wp_region_grow (by kernel_rfl) (by kernel_rfl) ?_
    repeat (first | go_big_quiet_step (fail) | quiet_step (fail))
    refine wpQuiet_nil ?_
    intro _ hw_
    obtain ⟨p, hw_⟩ := hw_
    subst hw_
    go_wp2_with fail
    go_ret
    exact ⟨_, rfl, by rw [hid]⟩
/-- a number is drawn -/
theorem TD.call {S : BS} {n₀ D : Nat} {sv : Value} {xs : List Int} {W : World} (h : TD S n₀ D sv xs W) (m : Int) (hm1 : 1 ≤ m) (hm2 : m ≤ 4611686018427387904) :
    Calls Try.prog 23 #[.pointer (some ⟨D, 0, none⟩), .int .i64 m] W fun e W' => ∃ v, e = .returned (.int .i64 v) ∧ 0 ≤ v ∧ v < m ∧ TD S n₀ D sv xs W' ∧ W.grownBy W' (some D) ∧ Ev (oneB D) S W S W' := by
  obtain ⟨j, hj, hb⟩ := h.box
  refine (next_free n₀ D j xs sv m _ W rfl hm1 hm2 h.le h.ints hj h.len hb).mono ?_
  rintro e W' ⟨p, rfl, rfl⟩
  have hg := setCell_grown W D 1 (.int .i64 (min (j + 1) xs.length : Nat)) p
  have hn := nextF_in xs j hm1
  have hE : Ev (oneB D) S W S _ := Ev.of_grown h.tw hg (fun r e => by cases e; exact ⟨h.not, rfl⟩)
  refine ⟨_, rfl, hn.1, hn.2, ⟨hE.ok, ⟨min (j + 1) xs.length, by omega, ?_⟩, h.ints.below (Below.of_grown hg (by have := h.le; have := hb.lt; omega) (fun r e => by cases e; exact h.le)), h.le, h.len, h.low, h.not⟩, hg, hE⟩
  have := (hb.set 1 (.int .i64 (min (j + 1) xs.length : Nat))).grow p
  simpa using this
end Go.Proofs.Ytikojanpbbiaiaa
namespace Go.Proofs.Ytikojanpbbiaiaa
set_option linter.unusedVariables false
set_option linter.unusedSimpArgs false
open Go

theorem u64_nat (x : Nat) (h : x < 18446744073709551616) : IntKind.u64.wrap (x : Int) = (x : Int) := IntWalk.u64_in _ (by omega)

theorem and_mask (a : Nat) (ha : a < 18446744073709551616) : bits .and .u64 (a : Int) 4294967295 = ((a % 4294967296 : Nat) : Int) := by
  have h := bits_and_u64_nat a 4294967295 ha (by decide)
  have e : a &&& 4294967295 = a % 4294967296 := Nat.and_two_pow_sub_one_eq_mod a 32
  rw [e] at h
  exact h

/-- the middle sum, as both texts write it -/
theorem mid_walk (a b : Nat) (ha : a < 18446744073709551616) (hb : b < 18446744073709551616) :
    IntKind.u64.wrap (IntKind.u64.wrap ((a : Int) / 4294967296 * bits .and .u64 (b : Int) 4294967295) + IntKind.u64.wrap (bits .and .u64 (a : Int) 4294967295 * bits .and .u64 (b : Int) 4294967295) / 4294967296) =
      (((a / 4294967296) * (b % 4294967296) + (a % 4294967296) * (b % 4294967296) / 4294967296 : Nat) : Int) := by
  obtain ⟨h1, h2, -, -⟩ := Lib.mul64_hi a b ha hb
  have h3 := Lib.half_mul_le (a := a / 4294967296) (b := b % 4294967296) (by omega) (by omega)
  rw [and_mask a ha, and_mask b hb, show ((a : Int) / 4294967296) = ((a / 4294967296 : Nat) : Int) from rfl, ← Int.natCast_mul, ← Int.natCast_mul, u64_nat _ (by omega), u64_nat _ h1]
  rw [show ((((a % 4294967296) * (b % 4294967296) : Nat) : Int) / 4294967296) = (((a % 4294967296) * (b % 4294967296) / 4294967296 : Nat) : Int) from rfl, ← Int.natCast_add, u64_nat _ h2]

theorem hi_walk (a b : Nat) (ha : a < 18446744073709551616) (hb : b < 18446744073709551616) (T : Int)
    (hT : T = (((a / 4294967296) * (b % 4294967296) + (a % 4294967296) * (b % 4294967296) / 4294967296 : Nat) : Int)) :
    IntKind.u64.wrap (IntKind.u64.wrap (IntKind.u64.wrap ((a : Int) / 4294967296 * ((b : Int) / 4294967296)) + T / 4294967296) +
      IntKind.u64.wrap (bits .and .u64 T 4294967295 + IntKind.u64.wrap (bits .and .u64 (a : Int) 4294967295 * ((b : Int) / 4294967296))) / 4294967296) = ((a * b / 18446744073709551616 : Nat) : Int) := by
  subst hT
  obtain ⟨h1, h2, h3, h4⟩ := Lib.mul64_hi a b ha hb
  have h5 := Lib.half_mul_le (a := a / 4294967296) (b := b / 4294967296) (by omega) (by omega)
  have h6 := Lib.half_mul_le (a := a % 4294967296) (b := b / 4294967296) (by omega) (by omega)
  have hq : a * b / 18446744073709551616 < 18446744073709551616 := by
    have : a * b < 18446744073709551616 * 18446744073709551616 := Nat.mul_lt_mul'' ha hb
    exact Nat.div_lt_of_lt_mul this
  rw [and_mask _ h2, and_mask a ha, show ((a : Int) / 4294967296) = ((a / 4294967296 : Nat) : Int) from rfl, show ((b : Int) / 4294967296) = ((b / 4294967296 : Nat) : Int) from rfl,
    ← Int.natCast_mul, ← Int.natCast_mul, u64_nat _ (by omega), u64_nat _ (by omega), ← Int.natCast_add, u64_nat _ (by omega)]
  generalize (a / 4294967296) * (b % 4294967296) + (a % 4294967296) * (b % 4294967296) / 4294967296 = t at *
  rw [show (((t : Nat) : Int) / 4294967296) = ((t / 4294967296 : Nat) : Int) from rfl, ← Int.natCast_add, u64_nat _ (by omega)]
  rw [show ((((t % 4294967296 + a % 4294967296 * (b / 4294967296) : Nat)) : Int) / 4294967296) = (((t % 4294967296 + a % 4294967296 * (b / 4294967296)) / 4294967296 : Nat) : Int) from rfl, ← Int.natCast_add, h4, u64_nat _ hq]

theorem lo_walk (a b : Nat) : IntKind.u64.wrap ((a : Int) * (b : Int)) = ((a * b % 18446744073709551616 : Nat) : Int) := by
  rw [IntKind.wrap_u64, ← Int.natCast_mul]; rfl

/-- the high and the low word of a product -/
def hiN (a b : Nat) : Int := ((a * b / 18446744073709551616 : Nat) : Int)
def loN (a b : Nat) : Int := ((a * b % 18446744073709551616 : Nat) : Int)

end Go.Proofs.Ytikojanpbbiaiaa
