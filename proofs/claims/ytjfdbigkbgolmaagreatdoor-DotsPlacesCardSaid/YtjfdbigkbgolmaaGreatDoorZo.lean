/-
  Chapter 29: Place: what it computes, and what its loops carry.
  Chapter 29: Place, walked.
-/
import Derived.Test.YtjfdbigkbgolmaaGreatDoorZx
import Derived.Test.YtjfdbigkbgolmaaGreatDoorZf
import Derived.Test.YtjfdbigkbgolmaaGreatDoorZg
import Derived.Laws.IdiomStrings
namespace Go.Proofs.YtjfdbigkbgolmaaGreatDoor
set_option linter.unusedVariables false
set_option linter.unusedSimpArgs false
open Go.RowKit Go.Shelf Go.Maps
attribute [local go_sem] Oper.semAt_some

/-- the sum of bytes -/
def sumB (l : List UInt8) : Int := (l.map fun c => (c.toNat : Int)).sum
theorem sumB_snoc (l : List UInt8) (c : UInt8) : sumB (l ++ [c]) = sumB l + c.toNat := by simp [sumB]
theorem sumB_le (l : List UInt8) : 0 ≤ sumB l ∧ sumB l ≤ 255 * l.length := by
  induction l with
  | nil => simp [sumB]
  | cons c l ih =>
    have h : sumB (c :: l) = c.toNat + sumB l := by simp [sumB]
    have := c.toNat_lt
    rw [h]
    simp only [List.length_cons]
    omega
theorem take_snocB (s : ByteArray) (k : Nat) (h : k < s.size) : s.data.toList.take (k + 1) = s.data.toList.take k ++ [s[k]] := by
  rw [List.take_succ_eq_append_getElem (by simpa using h)]; rfl

theorem bytesRow_get (s : ByteArray) (cap k : Nat) (h : k < s.size) : (bytesRow s cap)[k]? = some (.int .u8 (s[k]).toNat) := by
  unfold bytesRow
  have h2 : k < (s.data.map (fun b => Value.int .u8 b.toNat)).size := by simpa using h
  rw [Array.getElem?_append_left h2, Array.getElem?_eq_getElem h2]
  simp
  rfl

/-- the symbols' rows -/
def symB (m k : Nat) : Bool := match symC[m * 9 + k]? with | some (.bool b) => b | _ => false
def symR (m : Nat) : Array Value := #[.bool (symB m 0), .bool (symB m 1), .bool (symB m 2), .bool (symB m 3), .bool (symB m 4), .bool (symB m 5), .bool (symB m 6), .bool (symB m 7), .bool (symB m 8)]
theorem symR_run (m : Nat) (hm : m < 7) (w : World) : (Instr.index 82 (.agg symC) (.int .i64 m)).run Tryz.prog w = .ok (.agg (symR m)) w := by
  rcases (show m = 0 ∨ m = 1 ∨ m = 2 ∨ m = 3 ∨ m = 4 ∨ m = 5 ∨ m = 6 from by omega) with rfl | rfl | rfl | rfl | rfl | rfl | rfl <;> kernel_rfl
theorem row9_run (r : Nat → Bool) (k : Nat) (hk : k < 9) (w : World) : (Instr.index 81 (.agg #[.bool (r 0), .bool (r 1), .bool (r 2), .bool (r 3), .bool (r 4), .bool (r 5), .bool (r 6), .bool (r 7), .bool (r 8)]) (.int .i64 k)).run Tryz.prog w = .ok (.bool (r k)) w := by
  rcases (show k = 0 ∨ k = 1 ∨ k = 2 ∨ k = 3 ∨ k = 4 ∨ k = 5 ∨ k = 6 ∨ k = 7 ∨ k = 8 from by omega) with rfl | rfl | rfl | rfl | rfl | rfl | rfl | rfl | rfl <;> kernel_rfl
theorem row6_run (r : Nat → Bool) (k : Nat) (hk : k < 6) (w : World) : (Instr.index 89 (.agg #[.bool (r 0), .bool (r 1), .bool (r 2), .bool (r 3), .bool (r 4), .bool (r 5)]) (.int .i64 k)).run Tryz.prog w = .ok (.bool (r k)) w := by
  rcases (show k = 0 ∨ k = 1 ∨ k = 2 ∨ k = 3 ∨ k = 4 ∨ k = 5 from by omega) with rfl | rfl | rfl | rfl | rfl | rfl <;> kernel_rfl

/-- an index into an array's value, its run given -/
theorem wpList_index_run {P : Program} {ops : Array Oper} {rest : List Oper} {o : Oper} {a : Act} {w : World} {Q : Exit → Act → World → Prop} (hg : o.guard = none) (t : TypeId) (x y : Operand) (ho : o.op = .index t x y) (vx vy v : Value) (hx : a.eval x = vx) (hy : a.eval y = vy)
    (hv : (Instr.index t vx vy).run P w = .ok v w) (h : wpList P ops Q rest (a.put o.dst v) w) : wpList P ops Q (o :: rest) a w := by
  refine wpList_plain hg fun K hK => ?_
  unfold Oper.wp execOp
  simp only [ho, hx, hy, Sem.run_bind, hv]
  simp only [Result.andThen_ok, Sem.run_pure]
  exact hK _ _ h

/-- a raised dot, if it is up -/
def upE (up : Bool) (en : List (Spot × Int)) (p : Spot) (id : Int) : List (Spot × Int) := if up then putE en p id else en
def symSpot (i j : Int) (k : Nat) : Spot := (i + (k : Int).tmod 3 - 1, j + (k : Int).tdiv 3 - 1)
def symE (i j id : Int) (r : Nat → Bool) : Nat → List (Spot × Int)
  | 0 => []
  | k + 1 => upE (r k) (symE i j id r k) (symSpot i j k) id
def cellSpot (i j : Int) (k n : Nat) : Spot := (i + 3 + 3 * k + (n : Int).tdiv 3, j + 1 - (n : Int).tmod 3)
def dotE (i j id : Int) (k : Nat) (d : Nat → Bool) (en : List (Spot × Int)) : Nat → List (Spot × Int)
  | 0 => en
  | n + 1 => upE (d n) (dotE i j id k d en n) (cellSpot i j k n) id
def cellE (i j id : Int) (D : Nat → Nat → Bool) (en : List (Spot × Int)) : Nat → List (Spot × Int)
  | 0 => en
  | k + 1 => dotE i j id k (D k) (cellE i j id D en k) 6
def placeE (i j id : Int) (r : Nat → Bool) (D : Nat → Nat → Bool) (n : Nat) : List (Spot × Int) := cellE i j id D (symE i j id r 9) n

abbrev shC (s : Sh) : Array Value := #[.int .i64 s.ax, .int .i64 s.ay, .int .i64 s.st, .int .i64 s.w, .int .i64 s.h, .int .i64 s.g]

/-- what lies in memory while Place works -/
structure PI (s : Sh) (pl : Array Value) (w : World) (Bs Bp mb n : Nat) (en : List (Spot × Int)) (W : World) : Prop where
  map : ∃ k, k ≤ n ∧ MapIs W mb k en
  sheet : Blk W Bs (shC s) 29
  place : Blk W Bp pl 27
  below : Below w.heap.size w W
  le : w.heap.size ≤ mb
  nes : Bs ≠ mb
  nep : Bp ≠ mb

section
variable {s : Sh} {pl : Array Value} {w W : World} {Bs Bp mb n : Nat} {en : List (Spot × Int)}
theorem PI.grown {W' : World} (h : PI s pl w Bs Bp mb n en W) (hg : W.grownBy W' none) : PI s pl w Bs Bp mb n en W' := by
  obtain ⟨⟨k, hk, hM⟩, h1, h2, h3, h4, h5, h6⟩ := h
  exact ⟨⟨k, hk, hM.kept hg (by simp)⟩, h1.kept hg (by simp), h2.kept hg (by simp), h3.grown hg h3.size (fun k e => by cases e), h4, h5, h6⟩
theorem PI.grow (h : PI s pl w Bs Bp mb n en W) (p : Growth) : PI s pl w Bs Bp mb n en (W.growBy p) := h.grown (grownBy_growBy W p)
theorem PI.up {n' : Nat} (h : PI s pl w Bs Bp mb n en W) (hn : n ≤ n') : PI s pl w Bs Bp mb n' en W := by
  obtain ⟨⟨k, hk, hM⟩, h1, h2, h3, h4, h5, h6⟩ := h
  exact ⟨⟨k, by omega, hM⟩, h1, h2, h3, h4, h5, h6⟩
theorem PI.put {W' : World} {D : DataW Unit} {k : Nat} {p : Spot} {x : Int} (h : PI s pl w Bs Bp mb n en W) (hk : k ≤ n) (hD : IsMap D) (h1 : (en.map (·.1)).Nodup) (h2 : ∀ e ∈ en, FitS e.1)
    (h3 : ∀ p, FitS p → has D (klS p) = hasK en p ∧ D.atKey (klS p) (.lit (.int .i64 0)) = .lit (.int .i64 ((idOf en p).getD 0))) (hp : FitS p)
    (ho : W'.ownsMap Tryz.prog 85 (plainElem Tryz.prog 3) mb (k + 1) (D.put (klS p) (.lit (.int .i64 x)))) (hg : W.grownBy W' (some mb)) : PI s pl w Bs Bp mb (n + 1) (putE en p x) W' :=
  ⟨⟨k + 1, by omega, MapIs.store (W := W) hD h1 h2 h3 hp ho⟩, h.sheet.kept hg (fun e => h.nes (Option.some.inj e).symm), h.place.kept hg (fun e => h.nep (Option.some.inj e).symm), h.below.grown hg h.below.size (fun k e => by cases e; exact h.le), h.le, h.nes, h.nep⟩
theorem PI.turn {W' : World} {q : Nat} (h : PI s pl w Bs Bp mb n en W) (hg : W.grownBy W' (some q)) (h1 : q ≠ Bs) (h2 : q ≠ Bp) (h3 : q ≠ mb) (h4 : w.heap.size ≤ q) : PI s pl w Bs Bp mb n en W' := by
  obtain ⟨⟨k, hk, hM⟩, k1, k2, k3, k4, k5, k6⟩ := h
  exact ⟨⟨k, hk, hM.kept hg (fun e => h3 (Option.some.inj e))⟩, k1.kept hg (fun e => h1 (Option.some.inj e)), k2.kept hg (fun e => h2 (Option.some.inj e)), k3.grown hg k3.size (fun k e => by cases e; exact h4), k4, k5, k6⟩
end
theorem upE_length (u : Bool) (en : List (Spot × Int)) (p : Spot) (id : Int) : (upE u en p id).length ≤ en.length + 1 := by
  unfold upE
  split
  · exact putE_length _ _ _
  · omega
theorem symE_length (i j id : Int) (r : Nat → Bool) : ∀ k, (symE i j id r k).length ≤ k
  | 0 => Nat.le_refl _
  | k + 1 => Nat.le_trans (upE_length _ _ _ _) (by have := symE_length i j id r k; omega)
theorem dotE_length (i j id : Int) (k : Nat) (d : Nat → Bool) (en : List (Spot × Int)) : ∀ n, (dotE i j id k d en n).length ≤ en.length + n
  | 0 => Nat.le_refl _
  | n + 1 => Nat.le_trans (upE_length _ _ _ _) (by have := dotE_length i j id k d en n; omega)
theorem cellE_length (i j id : Int) (D : Nat → Nat → Bool) (en : List (Spot × Int)) : ∀ k, (cellE i j id D en k).length ≤ en.length + 6 * k
  | 0 => Nat.le_refl _
  | k + 1 => Nat.le_trans (dotE_length i j id k (D k) _ 6) (by have := cellE_length i j id D en k; omega)
end Go.Proofs.YtjfdbigkbgolmaaGreatDoor
namespace Go.Proofs.YtjfdbigkbgolmaaGreatDoor
set_option linter.unusedVariables false
set_option linter.unusedSimpArgs false
open Go.RowKit Go.Shelf Go.Maps
attribute [local go_sem] Oper.semAt_some

theorem of_eq {s : Sh} {x y i j : Int} {b : Bool} (h : ofS s x y = (i, j, b)) (w : World) (f0 : fits s.ax) (f1 : fits s.ay) :
    Calls Tryz.prog 27 #[shV s, .agg #[.int .i64 x, .int .i64 y]] w fun e w' => e = .returned (.tuple #[.int .i64 i, .int .i64 j, .bool b]) ∧ Below w.heap.size w w' := by
  have h1 := ofc_any s x y w f0 f1
  rw [h] at h1
  exact h1
theorem ofS_true {s : Sh} {x y i j : Int} (h : ofS s x y = (i, j, true)) : checkS s = 0 ∧ onS s i j = true := by
  unfold ofS at h
  split at h
  · rename_i h1
    simp only [Prod.mk.injEq, and_true] at h
    obtain ⟨h2, h3⟩ := h
    rw [← h2, ← h3]
    exact ⟨h1.1, h1.2.2⟩
  · simp at h

abbrev plC (id x y wt di : Int) (cls name : ByteArray) : Array Value := #[.int .i64 id, .int .i64 x, .int .i64 y, .string cls, .string name, .int .i64 wt, .int .i64 di]

set_option maxRecDepth 100000 in
set_option maxHeartbeats 4000000 in
theorem place_no (s : Sh) (id x y wt di num i j : Int) (cls name : ByteArray) (w : World) (f0 : fits s.ax) (f1 : fits s.ay) (hof : ofS s x y = (i, j, false)) :
    Calls Tryz.prog 8 #[shV s, .agg (plC id x y wt di cls name), .int .i64 num] w fun e w' => e = .returned (.tuple #[.slice none 0 0, .bool false]) ∧ Below w.heap.size w w' := by
  obtain ⟨ax, ay, st, sw, sh, sg⟩ := s
  replace hof := Lib.hid hof
  go_enter Tryz.func8, Tryz.ntmps8
  go_wp2_with (first
    | (go_at_call 27; refine (of_eq hof.out _ f0 f1).mono ?_; rintro e w' ⟨rfl, hb_⟩; obtain ⟨p, rfl⟩ := grow_of_below hb_; clear hb_)
    | fail)
  go_ret2
  exact ⟨rfl, (by repeat' (first | with_reducible exact Below.refl _ _ | with_reducible exact Nat.le_refl _ | with_reducible assumption | with_reducible refine Go.below_growBy' ?_ ?_ _ | with_reducible refine Below.alloc ?_ ?_ _ | with_reducible refine Below.setCell ?_ ?_ _ | with_reducible refine Below.drew ?_ | with_reducible refine Go.le_alloc ?_ | with_reducible refine Go.le_growBy ?_ | with_reducible refine Go.le_setCell ?_ | with_reducible refine Go.le_drew ?_ | omega | (dsimp only; omega)))⟩

set_option maxRecDepth 100000 in
set_option maxHeartbeats 4000000 in
theorem place_yes (s : Sh) (id x y wt di num i j : Int) (cls name txt cells : ByteArray) (D : Nat → Nat → Bool) (m : Nat) (w : World) (f0 : fits s.ax) (f1 : fits s.ay) (hof : ofS s x y = (i, j, true)) (hid : fits id)
    (hn0 : 1 ≤ num) (hn1 : num ≤ 999) (hcl : cls.size ≤ 1048576) (hm : m < 7) (hsum : (sumB cls.data.toList).tmod 7 = m) (hce : cells.size ≤ 16)
    (hitoa : ∀ W, Below w.heap.size w W → Calls Tryz.prog 31 #[.int .i64 num] W fun e W' => e = .returned (.string txt) ∧ Below W.heap.size W W')
    (hwr : ∀ W, Calls Tryz.prog 30 #[.string txt] W fun e W' => e = .returned (.tuple #[.string cells, .int .i64 0]) ∧ Below W.heap.size W W')
    (hdots : ∀ k (h : k < cells.size) W, Calls Tryz.prog 32 #[.int .u8 (cells[k]).toNat] W fun e W' => e = .returned (.agg #[.bool (D k 0), .bool (D k 1), .bool (D k 2), .bool (D k 3), .bool (D k 4), .bool (D k 5)]) ∧ Below W.heap.size W W') 
    (hne : placeE i j id (symB m) D cells.size ≠ []) :
    Calls Tryz.prog 8 #[shV s, .agg (plC id x y wt di cls name), .int .i64 num] w fun e w' => Below w.heap.size w w' ∧
      (((∀ p ∈ (placeE i j id (symB m) D cells.size).map (·.1), onS s p.1 p.2 = true) ∧ ∃ v base, e = .returned (.tuple #[v, .bool true]) ∧ w.heap.size ≤ base ∧ w'.ownsRow base 59 4 v (dotsS 3 (placeE i j id (symB m) D cells.size)).length ((dotsS 3 (placeE i j id (symB m) D cells.size)).flatMap encD)) ∨
      ((∃ p ∈ (placeE i j id (symB m) D cells.size).map (·.1), onS s p.1 p.2 = false) ∧ e = .returned (.tuple #[.slice none 0 0, .bool false]))) := by
  obtain ⟨hck, hon⟩ := ofS_true hof
  have hs := okS_of hck
  obtain ⟨ax, ay, st, sw, sh, sg⟩ := s
  have hs' := hs
  obtain ⟨s0, s1, u0, u1, v0, v1, a0, a1, b0, b1⟩ := hs'
  simp only at s0 s1 u0 u1 v0 v1 a0 a1 b0 b1
  have hij : (0 ≤ i ∧ i ≤ 80) ∧ (0 ≤ j ∧ j ≤ 80) := by
    simp only [onS, inR] at hon
    simp only [Bool.and_eq_true, decide_eq_true_eq] at hon
    omega
  obtain ⟨⟨i0, i1⟩, j0, j1⟩ := hij
  have hwin : inR 1 num 999 = true := by simp only [inR]; simp; omega
  replace hwin := Lib.hid hwin
  replace hof := Lib.hid hof
  replace hsum := Lib.hid hsum
  clear hon hck
  go_enter Tryz.func8, Tryz.ntmps8
  go_wp2_with (first
    | (go_at_call 27; refine (of_eq hof.out _ f0 f1).mono ?_; rintro e w' ⟨rfl, hb_⟩; obtain ⟨p, rfl⟩ := grow_of_below hb_; clear hb_)
    | (go_at_call 28; refine (within_eq hwin.out _).mono ?_; rintro e w' ⟨rfl, rfl⟩)
    | fail)
  rw [run_bytes_of_string _ 9 79 5 cls Tryz.underlying9 Tryz.underlying79 Tryz.underlying5]
  generalize grownCap _ _ _ _ = cap
  have kS := ((Blk.new w (shC ⟨ax, ay, st, sw, sh, sg⟩) 29).alloc (.cells (plC id x y wt di cls name) 27)).grow p
  have kP := (Blk.new (w.alloc (.cells (shC ⟨ax, ay, st, sw, sh, sg⟩) 29)) (plC id x y wt di cls name) 27).grow p
  rw [World.size_alloc] at kP
  have hB : Below w.heap.size w (((w.alloc (.cells (shC ⟨ax, ay, st, sw, sh, sg⟩) 29)).alloc (.cells (plC id x y wt di cls name) 27)).growBy p) := (by repeat' (first | with_reducible exact Below.refl _ _ | with_reducible exact Nat.le_refl _ | with_reducible assumption | with_reducible refine Go.below_growBy' ?_ ?_ _ | with_reducible refine Below.alloc ?_ ?_ _ | with_reducible refine Below.setCell ?_ ?_ _ | with_reducible refine Below.drew ?_ | with_reducible refine Go.le_alloc ?_ | with_reducible refine Go.le_growBy ?_ | with_reducible refine Go.le_setCell ?_ | with_reducible refine Go.le_drew ?_ | omega | (dsimp only; omega)))
  obtain ⟨V, hV⟩ : ∃ V, ((w.alloc (.cells (shC ⟨ax, ay, st, sw, sh, sg⟩) 29)).alloc (.cells (plC id x y wt di cls name) 27)).growBy p = V := ⟨_, rfl⟩
  rw [hV] at kS kP hB ⊢
  clear hV p
  have hBs : w.heap.size < V.heap.size := kS.lt
  have hBp : w.heap.size + 1 < V.heap.size := kP.lt
  obtain ⟨Bs, hBse⟩ : ∃ b, w.heap.size = b := ⟨_, rfl⟩
  obtain ⟨Bp, hBpe⟩ : ∃ b, w.heap.size + 1 = b := ⟨_, rfl⟩
  have kB : ∀ k, (V.drew.alloc (.cells (bytesRow cls cap) 5 ((bytesRow cls cap).size, (bytesRow cls cap).size + 1))).cell? ⟨V.heap.size, k, none⟩ = (bytesRow cls cap)[k]? := fun k => World.cell?_alloc_mark V.drew (bytesRow cls cap) 5 ((bytesRow cls cap).size, (bytesRow cls cap).size + 1) k
  have kS1 := kS.drew.alloc (.cells (bytesRow cls cap) 5 ((bytesRow cls cap).size, (bytesRow cls cap).size + 1))
  have kP1 := kP.drew.alloc (.cells (bytesRow cls cap) 5 ((bytesRow cls cap).size, (bytesRow cls cap).size + 1))
  have hB1 : Below w.heap.size w (V.drew.alloc (.cells (bytesRow cls cap) 5 ((bytesRow cls cap).size, (bytesRow cls cap).size + 1))) := (hB.drew).alloc (Nat.le_of_lt hBs) _
  obtain ⟨W1, hW1⟩ : ∃ W1, V.drew.alloc (.cells (bytesRow cls cap) 5 ((bytesRow cls cap).size, (bytesRow cls cap).size + 1)) = W1 := ⟨_, rfl⟩
  rw [hW1] at kB kS1 kP1 hB1
  simp only [Result.andThen]
  rw [Oper.upon_value, hW1, hBpe, hBse]
  rw [hBse] at kS1
  rw [hBpe] at kP1
  have hsB : Bs < W1.heap.size := kS1.lt
  have hpB : Bp < W1.heap.size := kP1.lt
  generalize V.heap.size = Bb at *
  have hBw := Lib.hid hBse
  have hBv := Lib.hid hBpe
  clear hBse hBpe hW1 kS kP hB
  go_wp2_with fail
  go_loop [11, 42] (fun acc k => ∃ n : Nat, n ≤ cls.size ∧ k = .int .i64 n ∧ acc = .int .i64 (sumB (cls.data.toList.take n))) (fun _ k => cls.size - (intOf k).toNat)
  case atStart => exact ⟨0, Nat.zero_le _, rfl, rfl⟩
  case round =>
    obtain ⟨n, hn, rfl, rfl⟩ := hrel
    have hle := sumB_le (cls.data.toList.take n)
    have hll : (cls.data.toList.take n).length ≤ n := List.length_take_le _ _
    by_cases hlt : n < cls.size
    · have hcell : W1.cell? ⟨Bb, n, none⟩ = some (.int .u8 (cls[n]).toNat) := by rw [kB n]; exact bytesRow_get cls cap n hlt
      have hsn := sumB_snoc (cls.data.toList.take n) cls[n]
      rw [← take_snocB cls n hlt] at hsn
      have hb8 := (cls[n]).toNat_lt
      obtain ⟨c, hcc⟩ : ∃ c, (cls[n]).toNat = c := ⟨_, rfl⟩
      rw [hcc] at hcell hb8 hsn
      obtain ⟨acc, hacc⟩ : ∃ a, sumB (cls.data.toList.take n) = a := ⟨_, rfl⟩
      rw [hacc] at hle hsn ⊢
      replace hsn := Lib.hid hsn
      clear kB hcc hacc
      go_wp2_with fail
      go_round
      case rel => exact ⟨n + 1, by omega, by go_num, by rw [hsn.out]⟩
      case measure => simp [intOf]; omega
    · have hT : sumB (cls.data.toList.take n) = sumB cls.data.toList := by rw [List.take_of_length_le (by simp; omega)]
      rw [hT] at hle ⊢
      have hT2 := hsum.out
      obtain ⟨T, hTe⟩ : ∃ T, sumB cls.data.toList = T := ⟨_, rfl⟩
      rw [hTe] at hle hT2 ⊢
      clear kB hT hTe hsum
      have hmm := @run_makeMap Tryz.prog
      go_wp2_with (first | (go_at_call 29; refine (symbols_any _).mono ?_; rintro e w' ⟨rfl, hb_⟩; obtain ⟨p, rfl⟩ := grow_of_below hb_; clear hb_) | (refine wpList_index_run (by rfl) 82 _ _ (by rfl) _ _ (.agg (symR m)) (by rfl) (by rfl) (symR_run m hm _) ?_) | fail)
      clear hmm
      have kI : PI ⟨ax, ay, st, sw, sh, sg⟩ (plC id x y wt di cls name) w Bs Bp W1.heap.size 0 [] ((W1.alloc (.map #[] 0)).growBy p) :=
        ⟨⟨0, Nat.le_refl _, (MapIs.made W1).grow p⟩, (kS1.alloc _).grow p, (kP1.alloc _).grow p, below_growBy' (hB1.alloc hB1.size _) (le_alloc hB1.size) p, hB1.size, Nat.ne_of_lt hsB, Nat.ne_of_lt hpB⟩
      obtain ⟨W2, hW2⟩ : ∃ W2, (W1.alloc (.map #[] 0)).growBy p = W2 := ⟨_, rfl⟩
      rw [hW2] at kI ⊢
      obtain ⟨mb, hmb⟩ : ∃ mb, W1.heap.size = mb := ⟨_, rfl⟩
      rw [hmb] at kI hsB hpB ⊢
      clear hW2 hmb hB1 kP1 kS1 p
      obtain ⟨r, hr⟩ : ∃ r, symB m = r := ⟨_, rfl⟩
      rw [hr] at hne
      unfold symR
      rw [hr]
      replace hr := Lib.hid hr
      go_loopw [56] (fun k W => ∃ n : Nat, n ≤ 9 ∧ k = .int .i64 n ∧ PI ⟨ax, ay, st, sw, sh, sg⟩ (plC id x y wt di cls name) w Bs Bp mb n (symE i j id r n) W) (fun k _ => 9 - (intOf k).toNat)
      case atStart => exact ⟨0, by omega, rfl, kI⟩
      case round =>
        obtain ⟨n, hn, rfl, hI⟩ := hrel
        by_cases hn9 : n < 9
        · have hbd : (0 ≤ (n : Int).tmod 3 ∧ (n : Int).tmod 3 ≤ 2) ∧ (0 ≤ (n : Int).tdiv 3 ∧ (n : Int).tdiv 3 ≤ 2) := by rw [Int.tmod_eq_emod_of_nonneg (by omega), Int.tdiv_eq_ediv_of_nonneg (by omega)]; omega
          have hsE : symE i j id r (n + 1) = upE (r n) (symE i j id r n) (symSpot i j n) id := rfl
          unfold symSpot at hsE
          have hrun := row9_run r n hn9
          obtain ⟨u, hu⟩ : ∃ u, r n = u := ⟨_, rfl⟩
          obtain ⟨ka, hka⟩ : ∃ a, (n : Int).tmod 3 = a := ⟨_, rfl⟩
          obtain ⟨kb, hkb⟩ : ∃ a, (n : Int).tdiv 3 = a := ⟨_, rfl⟩
          obtain ⟨en, hen⟩ : ∃ en, symE i j id r n = en := ⟨_, rfl⟩
          rw [hu, hka, hkb, hen] at hsE
          rw [hka, hkb] at hbd
          rw [hu] at hrun
          rw [hen] at hI
          obtain ⟨⟨A0, A1⟩, B0, B1⟩ := hbd
          have c0 : wr.cell? ⟨Bp, 0, none⟩ = some (.int .i64 id) := hI.place.cell 0
          obtain ⟨⟨k, hk, hM⟩, hI1, hI2, hI3, hI4, hI5, hI6⟩ := hI
          have hIH := Lib.hid (show PI ⟨ax, ay, st, sw, sh, sg⟩ (plC id x y wt di cls name) w Bs Bp mb n en wr from ⟨⟨k, hk, hM⟩, hI1, hI2, hI3, hI4, hI5, hI6⟩)
          clear hI1 hI2 hI3 hI4 hI5 hI6 hen hu
          obtain ⟨Dm, hown, hnd, hfit, hkeys⟩ := hM
          have hkH := Lib.hid hkeys
          have hfp : FitS (i + ka - 1, j + kb - 1) := ⟨by show _ ≤ _ ∧ _ ≤ _; simp only; omega, by show _ ≤ _ ∧ _ ≤ _; simp only; omega⟩
          replace hsE := Lib.hid hsE
          replace hrun := Lib.hid hrun
          clear hkeys
          cases u with
          | false =>
            go_wp2_with (first | (refine wpList_index_run (by rfl) 81 _ _ (by rfl) _ _ (.bool false) (by rfl) (by rfl) (hrun.out _) ?_) | fail)
            go_roundw
            case rel => exact ⟨n + 1, by omega, by go_num, by rw [hsE.out]; exact hIH.out.up (by omega)⟩
            case measure => simp [intOf]; omega
          | true =>
            go_wp2_with (first | (refine wpList_index_run (by rfl) 81 _ _ (by rfl) _ _ (.bool true) (by rfl) (by rfl) (hrun.out _) ?_) | (at_mapUpdate; refine wpList_mapUpdate_own _ (by rfl) _ _ _ 80 (by rfl) 85 3 spotLaw Tryz.underlying80 _ mb k Dm (by rfl) hown (by unfold maxLen; omega) _ _ (klS (i + ka - 1, j + kb - 1)) (by rfl) (by rfl) (keyOf_spot hfp) _ [] (plainElem_int Tryz.underlying3 (lit_wf hid)) ?_; intro w9 hown9 hgrow9) | fail)
            go_roundw
            case rel => exact ⟨n + 1, by omega, by go_num, by rw [hsE.out]; exact hIH.out.put hk hown.isMap hnd hfit hkH.out hfp hown9 hgrow9⟩
            case measure => simp [intOf]; omega
        · obtain rfl : n = 9 := by omega
          go_wp2_with (first
            | (go_at_call 31; refine (hitoa _ hI.below).mono ?_; rintro e w' ⟨rfl, hb_⟩; obtain ⟨p, rfl⟩ := grow_of_below hb_; clear hb_)
            | (go_at_call 30; refine (hwr _).mono ?_; rintro e w' ⟨rfl, hb_⟩; obtain ⟨p, rfl⟩ := grow_of_below hb_; clear hb_)
            | fail)
          refine wp_world (fun W3 hW3 => ?_)
          have hI3 : PI ⟨ax, ay, st, sw, sh, sg⟩ (plC id x y wt di cls name) w Bs Bp mb 9 (symE i j id r 9) W3 := by rw [hW3]; exact hI.grow _
          clear hW3 hI kI
          obtain ⟨e9, he9⟩ : ∃ e, symE i j id r 9 = e := ⟨_, rfl⟩
          have hpe : placeE i j id r D cells.size = cellE i j id D e9 cells.size := by unfold placeE; rw [he9]
          have h9 : e9.length ≤ 9 := by rw [← he9]; exact symE_length i j id r 9
          rw [hpe] at hne
          rw [he9] at hI3
          rw [← hr.out] at hpe
          replace hpe := Lib.hid hpe
          clear he9
          go_loopw [84] (fun k W => ∃ n : Nat, n ≤ cells.size ∧ k = .int .i64 n ∧ PI ⟨ax, ay, st, sw, sh, sg⟩ (plC id x y wt di cls name) w Bs Bp mb (9 + 6 * n) (cellE i j id D e9 n) W) (fun k _ => cells.size - (intOf k).toNat)
          case atStart => exact ⟨0, by omega, rfl, hI3⟩
          case round =>
            clear hI3 hn hn9
            rename_i n _
            obtain ⟨n, hn, rfl, hI⟩ := hrel
            by_cases hnc : n < cells.size
            · have hIH := Lib.hid hI
              clear hI
              go_wp2_with (first
                | (go_at_call 32; refine (hdots n hnc _).mono ?_; rintro e w' ⟨rfl, hb_⟩; obtain ⟨p, rfl⟩ := grow_of_below hb_; clear hb_)
                | fail)
              refine wp_world (fun W4 hW4 => ?_)
              have hI4 : PI ⟨ax, ay, st, sw, sh, sg⟩ (plC id x y wt di cls name) w Bs Bp mb (9 + 6 * n) (cellE i j id D e9 n) W4 := by rw [hW4]; exact hIH.out.grow _
              clear hW4 hIH
              obtain ⟨e0, he0⟩ : ∃ e, cellE i j id D e9 n = e := ⟨_, rfl⟩
              obtain ⟨d, hd⟩ : ∃ d, D n = d := ⟨_, rfl⟩
              have hpn : cellE i j id D e9 (n + 1) = dotE i j id n d e0 6 := by rw [← he0, ← hd]; rfl
              rw [hd]
              rw [he0] at hI4
              replace hpn := Lib.hid hpn
              clear he0 hd
              go_loopw [91] (fun q W => ∃ t : Nat, t ≤ 6 ∧ q = .int .i64 t ∧ PI ⟨ax, ay, st, sw, sh, sg⟩ (plC id x y wt di cls name) w Bs Bp mb (9 + 6 * n + t) (dotE i j id n d e0 t) W) (fun q _ => 6 - (intOf q).toNat)
              case atStart => exact ⟨0, by omega, rfl, hI4⟩
              case round =>
                clear hI4
                obtain ⟨t, ht, rfl, hI⟩ := hrel
                by_cases ht6 : t < 6
                · have hbd : (0 ≤ (t : Int).tmod 3 ∧ (t : Int).tmod 3 ≤ 2) ∧ (0 ≤ (t : Int).tdiv 3 ∧ (t : Int).tdiv 3 ≤ 2) := by rw [Int.tmod_eq_emod_of_nonneg (by omega), Int.tdiv_eq_ediv_of_nonneg (by omega)]; omega
                  have hsE : dotE i j id n d e0 (t + 1) = upE (d t) (dotE i j id n d e0 t) (cellSpot i j n t) id := rfl
                  unfold cellSpot at hsE
                  have hrun := row6_run d t ht6
                  obtain ⟨u, hu⟩ : ∃ u, d t = u := ⟨_, rfl⟩
                  obtain ⟨ka, hka⟩ : ∃ a, (t : Int).tmod 3 = a := ⟨_, rfl⟩
                  obtain ⟨kb, hkb⟩ : ∃ a, (t : Int).tdiv 3 = a := ⟨_, rfl⟩
                  obtain ⟨en, hen⟩ : ∃ en, dotE i j id n d e0 t = en := ⟨_, rfl⟩
                  rw [hu, hka, hkb, hen] at hsE
                  rw [hka, hkb] at hbd
                  rw [hu] at hrun
                  rw [hen] at hI
                  obtain ⟨⟨A0, A1⟩, B0, B1⟩ := hbd
                  have c0 : wr.cell? ⟨Bp, 0, none⟩ = some (.int .i64 id) := hI.place.cell 0
                  obtain ⟨⟨k, hk, hM⟩, hI1, hI2, hI3, hI4, hI5, hI6⟩ := hI
                  have hIH := Lib.hid (show PI ⟨ax, ay, st, sw, sh, sg⟩ (plC id x y wt di cls name) w Bs Bp mb (9 + 6 * n + t) en wr from ⟨⟨k, hk, hM⟩, hI1, hI2, hI3, hI4, hI5, hI6⟩)
                  clear hI1 hI2 hI3 hI4 hI5 hI6 hen hu
                  obtain ⟨Dm, hown, hnd, hfit, hkeys⟩ := hM
                  have hkH := Lib.hid hkeys
                  have hfp : FitS (i + 3 + 3 * n + kb, j + 1 - ka) := ⟨by show _ ≤ _ ∧ _ ≤ _; simp only; omega, by show _ ≤ _ ∧ _ ≤ _; simp only; omega⟩
                  replace hsE := Lib.hid hsE
                  replace hrun := Lib.hid hrun
                  clear hkeys hdots hitoa hwr
                  cases u with
                  | false =>
                    go_wp2_with (first | (refine wpList_index_run (by rfl) 89 _ _ (by rfl) _ _ (.bool false) (by rfl) (by rfl) (hrun.out _) ?_) | fail)
                    go_roundw
                    case rel => exact ⟨t + 1, by omega, by go_num, by rw [hsE.out]; exact hIH.out.up (by omega)⟩
                    case measure => simp [intOf]; omega
                  | true =>
                    go_wp2_with (first | (refine wpList_index_run (by rfl) 89 _ _ (by rfl) _ _ (.bool true) (by rfl) (by rfl) (hrun.out _) ?_) | (at_mapUpdate; refine wpList_mapUpdate_own _ (by rfl) _ _ _ 80 (by rfl) 85 3 spotLaw Tryz.underlying80 _ mb k Dm (by rfl) hown (by unfold maxLen; omega) _ _ (klS (i + 3 + 3 * n + kb, j + 1 - ka)) (by rfl) (by rfl) (keyOf_spot hfp) _ [] (plainElem_int Tryz.underlying3 (lit_wf hid)) ?_; intro w9 hown9 hgrow9) | fail)
                    go_roundw
                    case rel => exact ⟨t + 1, by omega, by go_num, by rw [hsE.out]; exact hIH.out.put hk hown.isMap hnd hfit hkH.out hfp hown9 hgrow9⟩
                    case measure => simp [intOf]; omega
                · obtain rfl : t = 6 := by omega
                  rw [← hpn.out] at hI
                  go_wp2_with fail
                  go_roundw
                  case rel => exact ⟨n + 1, by omega, by go_num, hI.up (by omega)⟩
                  case measure => simp [intOf]; omega
            · obtain rfl : n = cells.size := by omega
              have hle := cellE_length i j id D e9 cells.size
              obtain ⟨en, hen⟩ : ∃ en, cellE i j id D e9 cells.size = en := ⟨_, rfl⟩
              rw [hen] at hle hI hne
              have hpe2 := hpe.out
              rw [hen] at hpe2
              replace hpe2 := Lib.hid hpe2
              obtain ⟨W5, hW5⟩ : ∃ W, wr = W := ⟨_, rfl⟩
              rw [hW5] at hI ⊢
              have hIH := Lib.hid hI
              obtain ⟨⟨nn, hnn, Dm, hown, hnd, hfit, hkeys⟩, hI1, hI2, hI3, hI4, hI5, hI6⟩ := hI
              have hI1l := hI1.lt
              have hI2l := hI2.lt
              have hMl : mb < W5.heap.size := MapIs.lt ⟨Dm, hown, hnd, hfit, hkeys⟩
              have hwl := hI3.size
              have hkH := Lib.hid hkeys
              clear hkeys hI1 hI2 hI3 hdots hitoa hwr hpe hen
              go_wp2_with (first | (at_range; refine wpList_range_own _ rfl _ 80 rfl 85 3 spotLaw Tryz.underlying80 _ mb nn _ rfl hown ?_; intro w0 hrg0 hg0 hs0) | fail)
              go_frame
              have hI0 := hIH.out.grown hg0
              go_loopw [22] (fun _ wr => ∃ (left : Lit → Bool) (cnt : Nat) (ss : List Spot), wr.ranges Tryz.prog 85 (plainElem Tryz.prog 3) mb W5.heap.size nn Dm left cnt ∧ CollS en left ss ∧ (∀ p ∈ ss, onS ⟨ax, ay, st, sw, sh, sg⟩ p.1 p.2 = true) ∧ PI ⟨ax, ay, st, sw, sh, sg⟩ (plC id x y wt di cls name) w Bs Bp mb (9 + 6 * cells.size) en wr)
                (fun _ wr => wr.rangeLeft mb W5.heap.size)
              case atStart => exact ⟨_, _, [], hrg0, CollS.start (fun p hp => (hkH.out p hp).1), by simp, hI0⟩
              case round =>
                clear hI0 hrg0 hs0
                rename_i wr0 _
                obtain ⟨left, cnt, ss, hrg, hC, hss, hI⟩ := hrel
                have hlf : wr.rangeLeft mb W5.heap.size = cnt := hrg.left_eq
                go_wp2_with (first | (at_next; refine wpList_next_ranges _ rfl _ rfl 85 spotLaw (plainElem Tryz.prog 3) spotV (fun v : Value => v) (fun key kl hk => by obtain ⟨x, _, hx, _⟩ := keyOf_spot_inv hk; exact ⟨x, hx⟩) (fun v _ _ => ⟨v, rfl⟩) mb W5.heap.size nn _ _ _ rfl hrg ?_ ?_) | fail)
                · intro hc0 hl0
                  have hall := hC.all hl0 hfit
                  have hkeysOn : ∀ p ∈ en.map (·.1), onS ⟨ax, ay, st, sw, sh, sg⟩ p.1 p.2 = true := fun p hp => hss p ((hall.2 p).2 hp)
                  have hI3 := hI.below
                  obtain ⟨kk, hkk, hMM⟩ := hI.map
                  have hord := ordered_any 3 mb kk en wr hMM (by omega) hne (by omega)
                  have hs3 := hI3.size
                  clear hrg hC hl0 hall hMM
                  go_wp2_with (first | (go_at_call 34; refine hord.mono ?_; rintro e w9 ⟨v, base, rfl, hbase, hrow, hb9⟩) | fail)
                  go_ret2
                  rw [hpe2.out]
                  exact ⟨hI3.trans (hb9.mono hs3), .inl ⟨hkeysOn, v, base, rfl, Nat.le_trans hs3 hbase, hrow⟩⟩
                · intro x0 x1 c kl yd yp w2 cnt2 hkey hlk hv hat hrg2 hlt2 hg2 hs2 hen2
                  obtain ⟨x', fx, ex, rfl⟩ := keyOf_spot_inv hkey
                  obtain rfl : (x0, x1) = x' := by simp at ex; exact Prod.ext ex.1 ex.2
                  have hhas : hasK en (x0, x1) = true := by rw [← (hkH.out (x0, x1) fx).1]; exact has_true_of_atKey hat
                  have hI2 := hI.turn hg2 (by omega) (by omega) (by omega) (by omega)
                  have c0 : w2.cell? ⟨Bs, 0, none⟩ = some (.int .i64 ax) := hI2.sheet.cell 0
                  have c1 : w2.cell? ⟨Bs, 1, none⟩ = some (.int .i64 ay) := hI2.sheet.cell 1
                  have c2 : w2.cell? ⟨Bs, 2, none⟩ = some (.int .i64 st) := hI2.sheet.cell 2
                  have c3 : w2.cell? ⟨Bs, 3, none⟩ = some (.int .i64 sw) := hI2.sheet.cell 3
                  have c4 : w2.cell? ⟨Bs, 4, none⟩ = some (.int .i64 sh) := hI2.sheet.cell 4
                  have c5 : w2.cell? ⟨Bs, 5, none⟩ = some (.int .i64 sg) := hI2.sheet.cell 5
                  obtain ⟨b, hb⟩ : ∃ b, onS ⟨ax, ay, st, sw, sh, sg⟩ x0 x1 = b := ⟨_, rfl⟩
                  replace hb := Lib.hid hb
                  have hC2 := Lib.hid (hC.step fx hlk hhas)
                  have hI2' := Lib.hid hI2
                  have hrg2' := Lib.hid hrg2
                  clear hs2 hkey hC hI hI2 hrg hrg2 hfit hlk hv hat
                  cases b with
                  | false =>
                    go_wp2_with (first | (go_at_call 33; refine (on_any ⟨ax, ay, st, sw, sh, sg⟩ x0 x1 _ _ hb.out hs).mono ?_; rintro e w' ⟨rfl, hb_⟩; obtain ⟨p, rfl⟩ := grow_of_below hb_; clear hb_) | fail)
                    go_ret2
                    rw [hpe2.out]
                    exact ⟨below_growBy' (hI2'.out.below.alloc hI2'.out.below.size _) (le_alloc hI2'.out.below.size) _, .inr ⟨⟨(x0, x1), hasK_iff.1 hhas, hb.out⟩, rfl⟩⟩
                  | true =>
                    go_wp2_with (first | (go_at_call 33; refine (on_any ⟨ax, ay, st, sw, sh, sg⟩ x0 x1 _ _ hb.out hs).mono ?_; rintro e w' ⟨rfl, hb_⟩; obtain ⟨p, rfl⟩ := grow_of_below hb_; clear hb_) | fail)
                    have hrg3 := (hrg2'.out.alloc (.cells #[.int .i64 x0, .int .i64 x1] 85)).kept (grownBy_growBy _ p) (by simp) (by simp)
                    go_roundw
                    case rel => exact ⟨_, cnt2, ss ++ [(x0, x1)], hrg3, hC2.out, fun p hp => by rcases List.mem_append.1 hp with h | h; exact hss p h; (obtain rfl : p = (x0, x1) := by simpa using h); exact hb.out, (hI2'.out.grown (World.grownBy_alloc w2 _ none)).grow _⟩
                    case measure => rw [hlf, hrg3.left_eq]; exact hlt2
end Go.Proofs.YtjfdbigkbgolmaaGreatDoor
