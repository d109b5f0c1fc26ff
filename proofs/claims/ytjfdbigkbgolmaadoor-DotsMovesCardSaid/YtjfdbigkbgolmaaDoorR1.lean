/-
  Chapter 29: Place: what it computes, and what its loops carry.
-/
import Derived.Test.YtjfdbigkbgolmaaDoorW1
import Derived.Test.YtjfdbigkbgolmaaDoorQ2
import Derived.Test.YtjfdbigkbgolmaaDoorQ6
import Derived.Laws.IdiomStrings
namespace Go.Proofs.YtjfdbigkbgolmaaDoor
set_option linter.unusedVariables false
set_option linter.unusedSimpArgs false
open Go.RowKit Go.Shelf Go.Maps
attribute [local go_sem] Oper.semAt_some

/-- the sum of bytes -/
def sumB (l : List UInt8) : Int := (l.map fun c => (c.toNat : Int)).sum
theorem sumB_snoc (l : List UInt8) (c : UInt8) : sumB (l ++ [c]) = sumB l + c.toNat := by simp [sumB]
theorem sumB_le (l : List UInt8) : 0 ≤ sumB l ∧ sumB l ≤ 255 * l.length := by
  induction l with
  | nil => simp [sumB]
  | cons c l ih =>
    have h : sumB (c :: l) = c.toNat + sumB l := by simp [sumB]
    have := c.toNat_lt
    rw [h]
    simp only [List.length_cons]
    omega
theorem take_snocB (s : ByteArray) (k : Nat) (h : k < s.size) : s.data.toList.take (k + 1) = s.data.toList.take k ++ [s[k]] := by
  rw [List.take_succ_eq_append_getElem (by simpa using h)]; rfl

theorem bytesRow_get (s : ByteArray) (cap k : Nat) (h : k < s.size) : (bytesRow s cap)[k]? = some (.int .u8 (s[k]).toNat) := by
  unfold bytesRow
  have h2 : k < (s.data.map (fun b => Value.int .u8 b.toNat)).size := by simpa using h
  rw [Array.getElem?_append_left h2, Array.getElem?_eq_getElem h2]
  simp
  rfl

/-- the symbols' rows -/
def symB (m k : Nat) : Bool := match symC[m * 9 + k]? with | some (.bool b) => b | _ => false
def symR (m : Nat) : Array Value := #[.bool (symB m 0), .bool (symB m 1), .bool (symB m 2), .bool (symB m 3), .bool (symB m 4), .bool (symB m 5), .bool (symB m 6), .bool (symB m 7), .bool (symB m 8)]
theorem symR_run (m : Nat) (hm : m < 7) (w : World) : (Instr.index 84 (.agg symC) (.int .i64 m)).run Tryd.prog w = .ok (.agg (symR m)) w := by
  rcases (show m = 0 ∨ m = 1 ∨ m = 2 ∨ m = 3 ∨ m = 4 ∨ m = 5 ∨ m = 6 from by omega) with rfl | rfl | rfl | rfl | rfl | rfl | rfl <;> kernel_rfl
theorem row9_run (r : Nat → Bool) (k : Nat) (hk : k < 9) (w : World) : (Instr.index 83 (.agg #[.bool (r 0), .bool (r 1), .bool (r 2), .bool (r 3), .bool (r 4), .bool (r 5), .bool (r 6), .bool (r 7), .bool (r 8)]) (.int .i64 k)).run Tryd.prog w = .ok (.bool (r k)) w := by
  rcases (show k = 0 ∨ k = 1 ∨ k = 2 ∨ k = 3 ∨ k = 4 ∨ k = 5 ∨ k = 6 ∨ k = 7 ∨ k = 8 from by omega) with rfl | rfl | rfl | rfl | rfl | rfl | rfl | rfl | rfl <;> kernel_rfl
theorem row6_run (r : Nat → Bool) (k : Nat) (hk : k < 6) (w : World) : (Instr.index 89 (.agg #[.bool (r 0), .bool (r 1), .bool (r 2), .bool (r 3), .bool (r 4), .bool (r 5)]) (.int .i64 k)).run Tryd.prog w = .ok (.bool (r k)) w := by
  rcases (show k = 0 ∨ k = 1 ∨ k = 2 ∨ k = 3 ∨ k = 4 ∨ k = 5 from by omega) with rfl | rfl | rfl | rfl | rfl | rfl <;> kernel_rfl

/-- an index into an array's value, its run given -/
theorem wpList_index_run {P : Program} {ops : Array Oper} {rest : List Oper} {o : Oper} {a : Act} {w : World} {Q : Exit → Act → World → Prop} (hg : o.guard = none) (t : TypeId) (x y : Operand) (ho : o.op = .index t x y) (vx vy v : Value) (hx : a.eval x = vx) (hy : a.eval y = vy)
    (hv : (Instr.index t vx vy).run P w = .ok v w) (h : wpList P ops Q rest (a.put o.dst v) w) : wpList P ops Q (o :: rest) a w := by
  refine wpList_plain hg fun K hK => ?_
  unfold Oper.wp execOp
  simp only [ho, hx, hy, Sem.run_bind, hv]
  simp only [Result.andThen_ok, Sem.run_pure]
  exact hK _ _ h

/-- a raised dot, if it is up -/
def upE (up : Bool) (en : List (Spot × Int)) (p : Spot) (id : Int) : List (Spot × Int) := if up then putE en p id else en
def symSpot (i j : Int) (k : Nat) : Spot := (i + (k : Int).tmod 3 - 1, j + (k : Int).tdiv 3 - 1)
def symE (i j id : Int) (r : Nat → Bool) : Nat → List (Spot × Int)
  | 0 => []
  | k + 1 => upE (r k) (symE i j id r k) (symSpot i j k) id
def cellSpot (i j : Int) (k n : Nat) : Spot := (i + 3 + 3 * k + (n : Int).tdiv 3, j + 1 - (n : Int).tmod 3)
def dotE (i j id : Int) (k : Nat) (d : Nat → Bool) (en : List (Spot × Int)) : Nat → List (Spot × Int)
  | 0 => en
  | n + 1 => upE (d n) (dotE i j id k d en n) (cellSpot i j k n) id
def cellE (i j id : Int) (D : Nat → Nat → Bool) (en : List (Spot × Int)) : Nat → List (Spot × Int)
  | 0 => en
  | k + 1 => dotE i j id k (D k) (cellE i j id D en k) 6
def placeE (i j id : Int) (r : Nat → Bool) (D : Nat → Nat → Bool) (n : Nat) : List (Spot × Int) := cellE i j id D (symE i j id r 9) n

abbrev shC (s : Sh) : Array Value := #[.int .i64 s.ax, .int .i64 s.ay, .int .i64 s.st, .int .i64 s.w, .int .i64 s.h, .int .i64 s.g]

/-- what lies in memory while Place works -/
structure PI (s : Sh) (pl : Array Value) (w : World) (Bs Bp mb n : Nat) (en : List (Spot × Int)) (W : World) : Prop where
  map : ∃ k, k ≤ n ∧ MapIs W mb k en
  sheet : Blk W Bs (shC s) 26
  place : Blk W Bp pl 50
  below : Below w.heap.size w W
  le : w.heap.size ≤ mb
  nes : Bs ≠ mb
  nep : Bp ≠ mb

section
variable {s : Sh} {pl : Array Value} {w W : World} {Bs Bp mb n : Nat} {en : List (Spot × Int)}
theorem PI.grown {W' : World} (h : PI s pl w Bs Bp mb n en W) (hg : W.grownBy W' none) : PI s pl w Bs Bp mb n en W' := by
  obtain ⟨⟨k, hk, hM⟩, h1, h2, h3, h4, h5, h6⟩ := h
  exact ⟨⟨k, hk, hM.kept hg (by simp)⟩, h1.kept hg (by simp), h2.kept hg (by simp), h3.grown hg h3.size (fun k e => by cases e), h4, h5, h6⟩
theorem PI.grow (h : PI s pl w Bs Bp mb n en W) (p : Growth) : PI s pl w Bs Bp mb n en (W.growBy p) := h.grown (grownBy_growBy W p)
theorem PI.up {n' : Nat} (h : PI s pl w Bs Bp mb n en W) (hn : n ≤ n') : PI s pl w Bs Bp mb n' en W := by
  obtain ⟨⟨k, hk, hM⟩, h1, h2, h3, h4, h5, h6⟩ := h
  exact ⟨⟨k, by omega, hM⟩, h1, h2, h3, h4, h5, h6⟩
theorem PI.put {W' : World} {D : DataW Unit} {k : Nat} {p : Spot} {x : Int} (h : PI s pl w Bs Bp mb n en W) (hk : k ≤ n) (hD : IsMap D) (h1 : (en.map (·.1)).Nodup) (h2 : ∀ e ∈ en, FitS e.1)
    (h3 : ∀ p, FitS p → has D (klS p) = hasK en p ∧ D.atKey (klS p) (.lit (.int .i64 0)) = .lit (.int .i64 ((idOf en p).getD 0))) (hp : FitS p)
    (ho : W'.ownsMap Tryd.prog 68 (plainElem Tryd.prog 3) mb (k + 1) (D.put (klS p) (.lit (.int .i64 x)))) (hg : W.grownBy W' (some mb)) : PI s pl w Bs Bp mb (n + 1) (putE en p x) W' :=
  ⟨⟨k + 1, by omega, MapIs.store (W := W) hD h1 h2 h3 hp ho⟩, h.sheet.kept hg (fun e => h.nes (Option.some.inj e).symm), h.place.kept hg (fun e => h.nep (Option.some.inj e).symm), h.below.grown hg h.below.size (fun k e => by cases e; exact h.le), h.le, h.nes, h.nep⟩
theorem PI.turn {W' : World} {q : Nat} (h : PI s pl w Bs Bp mb n en W) (hg : W.grownBy W' (some q)) (h1 : q ≠ Bs) (h2 : q ≠ Bp) (h3 : q ≠ mb) (h4 : w.heap.size ≤ q) : PI s pl w Bs Bp mb n en W' := by
  obtain ⟨⟨k, hk, hM⟩, k1, k2, k3, k4, k5, k6⟩ := h
  exact ⟨⟨k, hk, hM.kept hg (fun e => h3 (Option.some.inj e))⟩, k1.kept hg (fun e => h1 (Option.some.inj e)), k2.kept hg (fun e => h2 (Option.some.inj e)), k3.grown hg k3.size (fun k e => by cases e; exact h4), k4, k5, k6⟩
end
theorem upE_length (u : Bool) (en : List (Spot × Int)) (p : Spot) (id : Int) : (upE u en p id).length ≤ en.length + 1 := by
  unfold upE
  split
  · exact putE_length _ _ _
  · omega
theorem symE_length (i j id : Int) (r : Nat → Bool) : ∀ k, (symE i j id r k).length ≤ k
  | 0 => Nat.le_refl _
  | k + 1 => Nat.le_trans (upE_length _ _ _ _) (by have := symE_length i j id r k; omega)
theorem dotE_length (i j id : Int) (k : Nat) (d : Nat → Bool) (en : List (Spot × Int)) : ∀ n, (dotE i j id k d en n).length ≤ en.length + n
  | 0 => Nat.le_refl _
  | n + 1 => Nat.le_trans (upE_length _ _ _ _) (by have := dotE_length i j id k d en n; omega)
theorem cellE_length (i j id : Int) (D : Nat → Nat → Bool) (en : List (Spot × Int)) : ∀ k, (cellE i j id D en k).length ≤ en.length + 6 * k
  | 0 => Nat.le_refl _
  | k + 1 => Nat.le_trans (dotE_length i j id k (D k) _ 6) (by have := cellE_length i j id D en k; omega)
end Go.Proofs.YtjfdbigkbgolmaaDoor
