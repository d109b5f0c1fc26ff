/-
  Chapter 24: blocks of cells, numbers that fit; lists of elements that lie in memory.
  Chapter 24, in plain words: labels, up to which scale two labels do not meet, and what a change reaches.
  Chapter 24: the references' Limit and near of two labels.
  Chapter 24: the reference's Limit, near, has, surroundings, within.
  Plain facts on integers for chapter 01 (exact): signs, roots, greatest common divisors, and the bound on the float root. No program in sight.
  The float root of an int that is greater than 0, made whole again, is an int from 0 on: enough for the loops behind it.
  Chapter 24: exact.Sqrt.
-/
import Derived.Test.YtikojanpbbiaiaaChecked
import Derived.Test.YtikojanpbbiaiaaZa
import Derived.Test.YtikojanpbbiaiaaZb
import Derived.Lib.Hide
import Derived.Deep.AppendLies
import Derived.Deep.AppendSrc
import Derived.Deep.RegionLaw
import Derived.Deep.CutBlock
import Derived.Deep.DeepCutAuto
import Derived.Deep.DrawnRows
import Ieee.Arith
import GoSem.Core.Float
import Derived.Laws.FloatArith
namespace Go.Proofs.Ytikojanpbbiaiaa
set_option linter.unusedVariables false
set_option linter.unusedSimpArgs false
open Go.RowKit Go.Shelf

def fits (n : Int) : Prop := -9223372036854775808 ≤ n ∧ n ≤ 9223372036854775807
instance (n : Int) : Decidable (fits n) := inferInstanceAs (Decidable (_ ∧ _))
theorem fits_w64 (x : Int) : fits (wrap64 x) := by
  unfold fits wrap64
  omega
theorem fits_wrap (x : Int) : fits (IntKind.i64.wrap x) := by
  unfold fits
  simp [IntKind.wrap, IntKind.bits, IntKind.signed]
  omega
theorem wrap_in7 {x : Int} (h0 : -9223372036854775808 ≤ x) (h1 : x ≤ 9223372036854775807) : IntKind.i64.wrap x = x := by
  simp [IntKind.wrap, IntKind.bits, IntKind.signed]
  omega
/-- block B holds these cells, none frozen -/
def Blk (W : World) (B : Nat) (c : Array Value) (t : TypeId) : Prop := W.heap[B]? = some (.cells c t (0, 0))
theorem Blk.kept {W W' : World} {B : Nat} {c : Array Value} {t : TypeId} {row : Option Nat} (h : Blk W B c t) (hg : W.grownBy W' row) (hr : row ≠ some B) : Blk W' B c t := by
  exact (hg.block B (Array.getElem?_eq_some_iff.1 h).1 (fun e => hr e.symm)).trans h
theorem Blk.new (W : World) (c : Array Value) (t : TypeId) : Blk (W.alloc (.cells c t)) W.heap.size c t := by unfold Blk World.alloc; simp
theorem Blk.alloc {W : World} {B : Nat} {c : Array Value} {t : TypeId} (h : Blk W B c t) (o : Obj) : Blk (W.alloc o) B c t := h.kept (World.grownBy_alloc W o none) (by simp)
theorem Blk.lt {W : World} {B : Nat} {c : Array Value} {t : TypeId} (h : Blk W B c t) : B < W.heap.size := (Array.getElem?_eq_some_iff.1 h).1
theorem Blk.cell {W : World} {B : Nat} {c : Array Value} {t : TypeId} (h : Blk W B c t) (i : Nat) : W.cell? ⟨B, i, none⟩ = c[i]? := cell_of_block h i
theorem Blk.frozen {W : World} {B : Nat} {c : Array Value} {t : TypeId} (h : Blk W B c t) (i : Nat) : W.frozen? ⟨B, i, none⟩ = false := by
  unfold World.frozen?; rw [show W.heap[B]? = _ from h]; simp
theorem Blk.below {W W' : World} {B n₀ : Nat} {c : Array Value} {t : TypeId} (h : Blk W B c t) (hb : Below n₀ W W') (hB : B < n₀) : Blk W' B c t := (hb.block B hB).trans h
theorem Blk.set {W : World} {B : Nat} {c : Array Value} {t : TypeId} (h : Blk W B c t) (i : Nat) (v : Value) : Blk (W.setCell ⟨B, i, none⟩ v) B (c.setIfInBounds i v) t := by
  unfold Blk at *
  unfold World.setCell
  simp [Array.getElem?_modify, h]
theorem Blk.other {W : World} {B B' : Nat} {c : Array Value} {t : TypeId} (h : Blk W B c t) (hne : B ≠ B') (i : Nat) (v : Value) : Blk (W.setCell ⟨B', i, none⟩ v) B c t := by
  unfold Blk at *
  rw [Below.heap_setCell _ _ _ _ (by simpa using hne)]
  exact h
theorem Blk.grow {W : World} {B : Nat} {c : Array Value} {t : TypeId} (h : Blk W B c t) (p : Growth) : Blk (W.growBy p) B c t := h.kept (grownBy_growBy W p) (by simp)
theorem Blk.drew {W : World} {B : Nat} {c : Array Value} {t : TypeId} (h : Blk W B c t) : Blk W.drew B c t := h
theorem ownsRow_turn {W W' : World} {row : Option Nat} {base : Nat} {e : TypeId} {size : Nat} {v : Value} {k : Nat} {xs : List Value} (h : W.ownsRow base e size v k xs) (hg : W.grownBy W' row)
    (hrow : ∀ r, row = some r → ∃ o : Obj, W.heap[r]? = some o ∧ ∀ cur, o ≠ .cells cur e (0, 0)) : W'.ownsRow base e size v k xs := by
  refine h.kept hg ?_
  rcases h.2 with ⟨rfl, _⟩ | ⟨g, cap, cur, rfl, _, hgb, _⟩
  · exact .inl rfl
  · refine .inr fun e' => ?_
    obtain ⟨o, ho, hw⟩ := hrow g (by simpa [Value.ownBlock] using e'.symm)
    rw [hgb] at ho; cases ho; exact hw cur rfl
/-- a block of another type is not the row -/
theorem ownsRow_other {W : World} {base : Nat} {e t : TypeId} {size : Nat} {v : Value} {k : Nat} {xs : List Value} (h : W.ownsRow base e size v k xs) {B : Nat} {c : Array Value} (hb : Blk W B c t) (hne : t ≠ e) : v.ownBlock ≠ some B := by
  intro hj
  rcases h.2 with ⟨rfl, _⟩ | ⟨g, cap, cur, rfl, _, hgb, _⟩
  · simp [Value.ownBlock] at hj
  · have : g = B := by simpa [Value.ownBlock] using hj
    subst this
    rw [show W.heap[g]? = _ from hb] at hgb
    cases hgb
    exact hne rfl

/-- a kind of elements: its type, how many cells one takes, and the cells -/
structure El (α : Type) where
  t : TypeId
  s : Nat
  enc : α → List Value
/-- what the program says of such -/
structure El.Ok {α : Type} (E : El α) : Prop where
  len : ∀ x, (E.enc x).length = E.s
  pos : 0 < E.s
  one : ∀ x, ∀ u ∈ E.enc x, u.oneCell' = true
/-- a slice of such elements, in a block below n₀; or none -/
def Lst {α : Type} (E : El α) (n₀ : Nat) (W : World) (v : Value) (l : List α) : Prop :=
  ∃ a cap, v = .slice a l.length cap ∧ l.length ≤ cap ∧ l.length ≤ 1000000 ∧ ∀ j, (h : j < l.length) → ∃ b off, a = some ⟨b, off, none⟩ ∧ b < n₀ ∧ ∀ i, i < E.s → W.cell? ⟨b, off + j * E.s + i, none⟩ = (E.enc l[j])[i]?
section
variable {α : Type} {E : El α} {n₀ n₁ : Nat} {W W' : World} {v : Value} {l : List α}
theorem Lst.nil (E : El α) (n₀ : Nat) (W : World) : Lst E n₀ W (.slice none 0 0) [] := ⟨none, 0, rfl, Nat.le_refl _, by simp, fun j hj => by simp at hj⟩
theorem Lst.below (h : Lst E n₀ W v l) (hb : Below n₀ W W') : Lst E n₀ W' v l := by
  obtain ⟨a, cap, e, h1, h2, h3⟩ := h
  exact ⟨a, cap, e, h1, h2, fun j hj => by
    obtain ⟨b, off, e2, hlt, hc⟩ := h3 j hj
    exact ⟨b, off, e2, hlt, fun i hi => (hb.cell (p := ⟨b, off + j * E.s + i, none⟩) hlt).trans (hc i hi)⟩⟩
theorem Lst.mono (h : Lst E n₀ W v l) (hn : n₀ ≤ n₁) : Lst E n₁ W v l := by
  obtain ⟨a, cap, e, h1, h2, h3⟩ := h
  exact ⟨a, cap, e, h1, h2, fun j hj => by
    obtain ⟨b, off, e2, hlt, hc⟩ := h3 j hj
    exact ⟨b, off, e2, Nat.lt_of_lt_of_le hlt hn, hc⟩⟩
theorem Lst.up (h : Lst E W.heap.size W v l) (hb : Below W.heap.size W W') : Lst E W'.heap.size W' v l := (h.below hb).mono hb.size
theorem Lst.form (h : Lst E n₀ W v l) : ∃ a cap, v = .slice a l.length cap ∧ l.length ≤ cap := by
  obtain ⟨a, cap, e, h1, -⟩ := h
  exact ⟨a, cap, e, h1⟩
theorem Lst.len (h : Lst E n₀ W v l) : l.length ≤ 1000000 := by
  obtain ⟨a, cap, e, h1, h2, -⟩ := h
  exact h2
/-- the first address of a slice that has something -/
theorem Lst.some_ (h : Lst E n₀ W v l) (hl : 0 < l.length) : ∃ b off cap, v = .slice (some ⟨b, off, none⟩) l.length cap ∧ l.length ≤ cap ∧ b < n₀ ∧ ∀ j, (h : j < l.length) → ∀ i, i < E.s → W.cell? ⟨b, off + j * E.s + i, none⟩ = (E.enc l[j])[i]? := by
  obtain ⟨a, cap, rfl, h1, h2, h3⟩ := h
  obtain ⟨b, off, rfl, hlt, -⟩ := h3 0 hl
  refine ⟨b, off, cap, rfl, h1, hlt, fun j hj i hi => ?_⟩
  obtain ⟨b', off', e, -, hc⟩ := h3 j hj
  cases e
  exact hc i hi
theorem Lst.take {a : Option Addr} {cap : Nat} (h : Lst E n₀ W (.slice a l.length cap) l) (k : Nat) (hk : k ≤ l.length) : Lst E n₀ W (.slice a k cap) (l.take k) := by
  obtain ⟨a', cap', e, h1, h2, h3⟩ := h
  cases e
  refine ⟨a, cap, by rw [List.length_take, Nat.min_eq_left hk], by rw [List.length_take]; omega, by rw [List.length_take]; omega, fun j hj => ?_⟩
  rw [List.length_take] at hj
  rw [List.getElem_take]
  exact h3 j (by omega)
theorem flat_at (hE : E.Ok) : ∀ (l : List α) (j i : Nat) (h : j < l.length), i < E.s → (l.flatMap E.enc)[j * E.s + i]? = (E.enc l[j])[i]?
  | [], j, i, h, _ => by simp at h
  | d :: l, 0, i, _, hi => by
    rw [List.flatMap_cons, Nat.zero_mul, Nat.zero_add, List.getElem?_append_left (by rw [hE.len]; exact hi)]
    rfl
  | d :: l, j + 1, i, h, hi => by
    have ih := flat_at hE l j i (by simpa using h) hi
    rw [List.flatMap_cons, List.getElem?_append_right (by rw [hE.len, Nat.add_mul]; omega), hE.len, show (j + 1) * E.s + i - E.s = j * E.s + i from by rw [Nat.add_mul]; omega]
    exact ih
theorem flat_length (hE : E.Ok) (l : List α) : (l.flatMap E.enc).length = l.length * E.s := by
  induction l with
  | nil => simp
  | cons d l ih => rw [List.flatMap_cons, List.length_append, ih, hE.len, List.length_cons, Nat.add_mul]; omega
/-- .. of a row of the call's own -/
theorem lst_of_row (hE : E.Ok) {base : Nat} (h : W.ownsRow base E.t E.s v l.length (l.flatMap E.enc)) (hl : l.length ≤ 1000000) : Lst E W.heap.size W v l := by
  rcases h.2 with ⟨rfl, h0⟩ | ⟨g, cap, cur, rfl, hbase, hgb, hcap, -⟩
  · obtain rfl := List.eq_nil_of_length_eq_zero h0
    exact Lst.nil _ _ _
  · refine ⟨_, cap, rfl, hcap, hl, fun j hj => ⟨g, 0, rfl, (Array.getElem?_eq_some_iff.1 hgb).1, fun i hi => ?_⟩⟩
    have hlt : j * E.s + i < l.length * E.s := by
      have : (j + 1) * E.s ≤ l.length * E.s := Nat.mul_le_mul_right _ hj
      rw [Nat.add_mul] at this
      omega
    rw [Nat.zero_add, ← flat_at hE l j i hj hi]
    exact h.cellAt _ hlt
end
/-- the program's own word on the elements and their slices -/
structure El.In {α : Type} (E : El α) (P : Program) (st : TypeId) : Prop where
  under : P.underlying st = some (.slice E.t)
  info : ∃ i z, P.info? E.t = some i ∧ i.zero = some z ∧ i.size = E.s ∧ i.bytes ≤ 1000 ∧ z.cells.size = E.s
theorem El.in_of {α : Type} {E : El α} {P : Program} {st : TypeId} {s bytes : Nat} {z : Value} (hu : P.underlying st = some (.slice E.t)) (h : (P.info? E.t).map (fun i => (i.zero, i.size, i.bytes)) = some (some z, s, bytes)) (hs : s = E.s) (hb : bytes ≤ 1000) (hz : z.cells.size = s) : E.In P st := by
  obtain ⟨i, hi, h1, h2, h3⟩ := info_parts h
  exact ⟨hu, i, z, hi, h1, h2.trans hs, by omega, by omega⟩
section
variable {α : Type} {E : El α} {P : Program} {st : TypeId} {w : World} {l : List α}
/-- one element more, laid into a block of its own just ahead -/
theorem El.push (hE : E.Ok) (hI : E.In P st) {ops : Array Oper} {rest : List Oper} {o : Oper} {a : Act} {Q : Exit → Act → World → Prop} (hgd : o.guard = none) (sO xO : Operand) (ho : o.op = .call { callee := .builtin .append, args := #[sO, xO], argTypes := #[st, st] })
    {base : Nat} {v : Value} (hs : a.eval sO = v) (hrow : w.ownsRow base E.t E.s v l.length (l.flatMap E.enc)) (x : α) {H : Nat} (hx : a.eval xO = .slice (some ⟨H, 0, none⟩) 1 1) (hH : w.heap.size = H) (hbase : base ≤ w.heap.size) (hl : l.length ≤ 100000)
    (h : ∀ v' w', w'.ownsRow base E.t E.s v' (l ++ [x]).length ((l ++ [x]).flatMap E.enc) → (∃ a c, v' = .slice a (l.length + 1) c) → w.grownBy w' v.ownBlock → Below base w w' → wpList P ops Q rest (a.put o.dst v') w') :
    wpList P ops Q (o :: rest) a (w.alloc (.cells (E.enc x).toArray E.t)) := by
  subst hH
  obtain ⟨i, z, hi, hz, hsz, hby, hzs⟩ := hI.info
  have hlen := hE.len x
  refine wpList_append_lies _ hgd sO xO st ho base E.t i z E.s i.bytes hI.under hi hz hsz rfl hzs hE.pos v l.length _ hs (hrow.alloc _) ⟨w.heap.size, 0, none⟩ 1 1 (E.enc x) hx (by rw [hlen, Nat.one_mul]) (World.news_of_block (heap_alloc_new _ _)) (hE.one x) (by omega) (by unfold maxLen; omega) (Nat.le_trans (Nat.mul_le_mul (Nat.add_le_add_right hl 1) hby) (by decide)) (by simp; omega) _ rfl ?_
  intro g cap w' hown hg hgo hlt
  have hg1 : w.grownBy w' v.ownBlock := by
    have h0 := World.grownBy_alloc w (.cells (E.enc x).toArray E.t) none
    refine ⟨hg.os.trans h0.os, hg.tape.trans h0.tape, hg.output.trans h0.output, Nat.le_trans h0.size hg.size, fun k hk hne => ?_⟩
    exact (hg.block k (by simp; omega) hne).trans (h0.block k hk (by simp))
  refine h _ w' ?_ ⟨_, _, rfl⟩ hg1 ⟨hg1.os, hg1.tape, hg1.output, hg1.size, fun k hk => hg1.block k (by omega) (fun e => ?_)⟩
  · simpa [List.flatMap_append] using hown
  · have := (hrow.lt k e.symm).1
    omega
end
end Go.Proofs.Ytikojanpbbiaiaa
namespace Go.Proofs.Ytikojanpbbiaiaa
set_option linter.unusedVariables false
set_option linter.unusedSimpArgs false
open Go.RowKit

structure Lb where
  id : Int
  x : Int
  y : Int
  r : Int
  txt : ByteArray
  unt : Int
instance : DecidableEq Lb := fun a b =>
  if h : a.id = b.id ∧ a.x = b.x ∧ a.y = b.y ∧ a.r = b.r ∧ a.txt = b.txt ∧ a.unt = b.unt then .isTrue (by cases a; cases b; simp_all) else .isFalse (fun e => h (by subst e; simp))
abbrev lbV (l : Lb) : Value := .agg #[.int .i64 l.id, .int .i64 l.x, .int .i64 l.y, .int .i64 l.r, .string l.txt, .int .i64 l.unt]
abbrev lbE : El Lb := ⟨39, 6, fun l => [.int .i64 l.id, .int .i64 l.x, .int .i64 l.y, .int .i64 l.r, .string l.txt, .int .i64 l.unt]⟩
theorem lbOk : lbE.Ok := ⟨fun _ => rfl, by decide, fun x u hu => by
  simp at hu
  rcases hu with rfl | rfl | rfl | rfl | rfl | rfl <;> rfl⟩
theorem lbIn : lbE.In Try.prog 33 := El.in_of (z := .agg #[.int .i64 0, .int .i64 0, .int .i64 0, .int .i64 0, .string ⟨#[]⟩, .int .i64 0]) (s := 6) (bytes := 56) Try.underlying33 (by kernel_rfl) rfl (by omega) rfl
abbrev inE : El Int := ⟨3, 1, fun n => [.int .i64 n]⟩
theorem inOk : inE.Ok := ⟨fun _ => rfl, by decide, fun x u hu => by
  simp at hu
  subst hu
  rfl⟩
theorem inIn : inE.In Try.prog 55 := El.in_of (z := .int .i64 0) (s := 1) (bytes := 8) Try.underlying55 (by kernel_rfl) rfl (by omega) rfl
/-- a label as it can stand in memory -/
structure LbOk (l : Lb) : Prop where
  id : fits l.id
  x : fits l.x
  y : fits l.y
  r : fits l.r
  u : fits l.unt

def rightL (x y : Int) : Bool := decide (-16384 ≤ x) && decide (x ≤ 16384) && (decide (-16384 ≤ y) && decide (y ≤ 16384))
def clampR (r : Int) : Int := min (max r 0) 1000
def radL (a b : Lb) : Int := clampR a.r + clampR b.r
def sqL (a b : Lb) : Int := (a.x - b.x) * (a.x - b.x) + (a.y - b.y) * (a.y - b.y)
/-- the greatest z up to m with z z q <= s -/
def upZ (s q : Int) : Nat → Nat
  | 0 => 0
  | m + 1 => if ((m + 1 : Nat) : Int) * (m + 1 : Nat) * q ≤ s then m + 1 else upZ s q m
theorem upZ_le (s q : Int) : ∀ m, upZ s q m ≤ m
  | 0 => Nat.le_refl _
  | m + 1 => by
    unfold upZ
    split
    · exact Nat.le_refl _
    · exact Nat.le_trans (upZ_le s q m) (Nat.le_succ _)
/-- the greatest scale at which two labels do not meet -/
def limL (a b : Lb) : Nat := if rightL a.x a.y && rightL b.x b.y then upZ (sqL a b) (radL a b * radL a b) 1024 else 0
def nearL (a b : Lb) : Bool := decide (limL a b < 1024)
theorem radL_in (a b : Lb) : 0 ≤ radL a b ∧ radL a b ≤ 2000 := by unfold radL clampR; omega
theorem sq_in {a b : Lb} (ha : rightL a.x a.y = true) (hb : rightL b.x b.y = true) : 0 ≤ sqL a b ∧ sqL a b ≤ 2147483648 := by
  unfold rightL at ha hb
  simp only [Bool.and_eq_true, decide_eq_true_eq] at ha hb
  have h : ∀ d : Int, -32768 ≤ d → d ≤ 32768 → 0 ≤ d * d ∧ d * d ≤ 1073741824 := fun d h0 h1 => by
    rcases Int.le_total 0 d with hd | hd
    · have := Int.mul_le_mul (show d ≤ 32768 from h1) h1 hd (by decide)
      exact ⟨Int.mul_nonneg hd hd, by omega⟩
    · have h2 := Int.mul_le_mul (show -d ≤ 32768 by omega) (show -d ≤ 32768 by omega) (by omega) (by decide)
      rw [Int.neg_mul_neg] at h2
      exact ⟨by rw [← Int.neg_mul_neg]; exact Int.mul_nonneg (by omega) (by omega), by omega⟩
  have h1 := h (a.x - b.x) (by omega) (by omega)
  have h2 := h (a.y - b.y) (by omega) (by omega)
  unfold sqL
  omega

/-- the elements before one that are near to it -/
def surr (l : List Lb) (k : Nat) (x : Lb) : List Lb := (l.take k).filter (fun y => nearL y x)
def withinL (a b : List Lb) : Bool := a.all (fun x => decide (x ∈ b))
/-- the first index of a label -/
def idxL : List Lb → Lb → Option Nat
  | [], _ => none
  | y :: l, x => if y = x then some 0 else (idxL l x).map (· + 1)
theorem idxL_some : ∀ (l : List Lb) (x : Lb) (i : Nat), l[i]? = some x → x ∉ l.take i → idxL l x = some i
  | [], x, i, h, _ => by simp at h
  | y :: l, x, 0, h, _ => by
    have : y = x := by simpa using h
    simp [idxL, this]
  | y :: l, x, i + 1, h, hn => by
    simp only [List.take_succ_cons, List.mem_cons, not_or] at hn
    have ih := idxL_some l x i (by simpa using h) hn.2
    simp [idxL, show ¬ y = x from fun e => hn.1 e.symm, ih]
theorem idxL_none : ∀ (l : List Lb) (x : Lb), x ∉ l → idxL l x = none
  | [], x, _ => rfl
  | y :: l, x, h => by
    simp only [List.mem_cons, not_or] at h
    simp [idxL, show ¬ y = x from fun e => h.1 e.symm, idxL_none l x h.2]
def twiceL (l : List Lb) : Bool := decide (¬ (l.map Lb.id).Nodup)
def keptL (old next : List Lb) (k : Nat) (x : Lb) : Bool :=
  match idxL old x with
  | none => false
  | some i => withinL (surr old i x) (surr next k x) && withinL (surr next k x) (surr old i x)
/-- the elements that a change reaches: of the first k, those that were reached -/
def reachL (old next : List Lb) : Nat → List Lb
  | 0 => []
  | k + 1 => match next[k]? with
    | none => reachL old next k
    | some x => if (twiceL old || twiceL next) || !keptL old next k x || (reachL old next k).any (fun y => nearL y x) then reachL old next k ++ [x] else reachL old next k
theorem reachL_len (old next : List Lb) : ∀ k, (reachL old next k).length ≤ k
  | 0 => Nat.le_refl _
  | k + 1 => by
    have := reachL_len old next k
    unfold reachL
    split
    · omega
    · split
      · rw [List.length_append]; simp; omega
      · omega
end Go.Proofs.Ytikojanpbbiaiaa
namespace Go.Proofs.Ytikojanpbbiaiaa
set_option linter.unusedVariables false
set_option linter.unusedSimpArgs false
open Go.RowKit Go.Shelf
attribute [local go_sem] Oper.semAt_some
attribute [local go_sem ↓] Go.wp_at_zero Go.wp_at_succ

theorem between_any (a lo hi : Int) (w : World) : Calls Try.prog 110 #[.int .i64 a, .int .i64 lo, .int .i64 hi] w fun e w' => e = .returned (.bool (decide (lo ≤ a) && decide (a ≤ hi))) ∧ w = w' := by
  go_enter Try.func110, Try.ntmps110
  go_wp2_with fail
  all_goals
    go_ret
    exact ⟨by first | rfl | (congr 2; simp; omega), rfl⟩
theorem right4_any (x y : Int) (w : World) : Calls Try.prog 102 #[.agg #[.int .i64 x, .int .i64 y]] w fun e w' => e = .returned (.bool (rightL x y)) ∧ Below w.heap.size w w' := by
  have hx : rightL x y = (decide (-16384 ≤ x) && decide (x ≤ 16384) && (decide (-16384 ≤ y) && decide (y ≤ 16384))) := rfl
  rw [hx]
  obtain ⟨b1, h1⟩ : ∃ b, (decide (-16384 ≤ x) && decide (x ≤ 16384)) = b := ⟨_, rfl⟩
  obtain ⟨b2, h2⟩ : ∃ b, (decide (-16384 ≤ y) && decide (y ≤ 16384)) = b := ⟨_, rfl⟩
  have c1 := between_any x (-16384) 16384
  have c2 := between_any y (-16384) 16384
  rw [h1] at c1
  rw [h2] at c2
  rw [h1, h2]
  clear hx h1 h2
  go_enter Try.func102, Try.ntmps102
  cases b1
  all_goals
    go_wp2_with (first
      | (go_at_call 110; (with_reducible refine (c1 _).mono ?_); rintro e w' ⟨rfl, rfl⟩)
      | (go_at_call 110; (with_reducible refine (c2 _).mono ?_); rintro e w' ⟨rfl, rfl⟩)
      | fail)
    go_ret
    exact ⟨by simp, (by repeat' (first | with_reducible exact Below.refl _ _ | with_reducible exact Nat.le_refl _ | with_reducible assumption | with_reducible refine Go.below_growBy' ?_ ?_ _ | with_reducible refine Below.alloc ?_ ?_ _ | with_reducible refine Below.setCell ?_ ?_ _ | with_reducible refine Below.drew ?_ | with_reducible refine Go.le_alloc ?_ | with_reducible refine Go.le_growBy ?_ | with_reducible refine Go.le_setCell ?_ | with_reducible refine Go.le_drew ?_ | omega | (dsimp only; omega)))⟩
set_option maxRecDepth 100000 in
theorem sub4_any (ax ay bx by_ : Int) (w : World) : Calls Try.prog 80 #[.agg #[.int .i64 ax, .int .i64 ay], .agg #[.int .i64 bx, .int .i64 by_]] w fun e w' => e = .returned (.agg #[.int .i64 (wrap64 (ax - bx)), .int .i64 (wrap64 (ay - by_))]) ∧ Below w.heap.size w w' := by
  go_enter Try.func80, Try.ntmps80
  go_wp2_with fail
  have hk := Blk.new ((w.alloc (.cells #[.int .i64 ax, .int .i64 ay] 37)).alloc (.cells #[.int .i64 bx, .int .i64 by_] 37)) #[.int .i64 (wrap64 (ax - bx)), .int .i64 (wrap64 (ay - by_))] 37
  simp only [World.size_alloc] at hk
  exact bodyPost_ret (results_cell_row (by rfl) _ _ _ 37 _ (0, 0) _ (by rfl) hk Try.underlying37 (by rfl) (by kernel_rfl)) rfl ⟨rfl, (by repeat' (first | with_reducible exact Below.refl _ _ | with_reducible exact Nat.le_refl _ | with_reducible assumption | with_reducible refine Go.below_growBy' ?_ ?_ _ | with_reducible refine Below.alloc ?_ ?_ _ | with_reducible refine Below.setCell ?_ ?_ _ | with_reducible refine Below.drew ?_ | with_reducible refine Go.le_alloc ?_ | with_reducible refine Go.le_growBy ?_ | with_reducible refine Go.le_setCell ?_ | with_reducible refine Go.le_drew ?_ | omega | (dsimp only; omega)))⟩
theorem dot4_any (ax ay bx by_ : Int) (w : World) : Calls Try.prog 103 #[.agg #[.int .i64 ax, .int .i64 ay], .agg #[.int .i64 bx, .int .i64 by_]] w fun e w' => e = .returned (.int .i64 (wrap64 (wrap64 (ax * bx) + wrap64 (ay * by_)))) ∧ Below w.heap.size w w' := by
  go_enter Try.func103, Try.ntmps103
  go_wp2_with fail
  go_ret
  exact ⟨rfl, (by repeat' (first | with_reducible exact Below.refl _ _ | with_reducible exact Nat.le_refl _ | with_reducible assumption | with_reducible refine Go.below_growBy' ?_ ?_ _ | with_reducible refine Below.alloc ?_ ?_ _ | with_reducible refine Below.setCell ?_ ?_ _ | with_reducible refine Below.drew ?_ | with_reducible refine Go.le_alloc ?_ | with_reducible refine Go.le_growBy ?_ | with_reducible refine Go.le_setCell ?_ | with_reducible refine Go.le_drew ?_ | omega | (dsimp only; omega)))⟩
theorem both_any (a b : Lb) (w : World) : Calls Try.prog 92 #[lbV a, lbV b] w fun e w' => e = .returned (.int .i64 (radL a b)) ∧ Below w.heap.size w w' := by
  obtain ⟨i, x, y, r, t, u⟩ := a
  obtain ⟨i2, x2, y2, r2, t2, u2⟩ := b
  have hs : max 0 (min r 1000) + max 0 (min r2 1000) = radL ⟨i, x, y, r, t, u⟩ ⟨i2, x2, y2, r2, t2, u2⟩ := by unfold radL clampR; simp only; omega
  go_enter Try.func92, Try.ntmps92
  go_wp2_with fail
  all_goals
    go_ret
    exact ⟨by first | rfl | rw [← hs], (by repeat' (first | with_reducible exact Below.refl _ _ | with_reducible exact Nat.le_refl _ | with_reducible assumption | with_reducible refine Go.below_growBy' ?_ ?_ _ | with_reducible refine Below.alloc ?_ ?_ _ | with_reducible refine Below.setCell ?_ ?_ _ | with_reducible refine Below.drew ?_ | with_reducible refine Go.le_alloc ?_ | with_reducible refine Go.le_growBy ?_ | with_reducible refine Go.le_setCell ?_ | with_reducible refine Go.le_drew ?_ | omega | (dsimp only; omega)))⟩
theorem upZ_eq (s q : Int) (hq : 0 ≤ q) : ∀ (m z : Nat), z ≤ m → (z = 0 ∨ (z : Int) * z * q ≤ s) → (z = m ∨ ¬ ((z + 1 : Nat) : Int) * (z + 1 : Nat) * q ≤ s) → upZ s q m = z
  | 0, z, hz, _, _ => by
    obtain rfl : z = 0 := by omega
    rfl
  | m + 1, z, hz, h1, h2 => by
    unfold upZ
    by_cases h : z = m + 1
    · subst h
      rcases h1 with h1 | h1
      · omega
      · rw [if_pos h1]
    · have h3 : ¬ ((z + 1 : Nat) : Int) * (z + 1 : Nat) * q ≤ s := by
        rcases h2 with h2 | h2
        · exact absurd h2 h
        · exact h2
      have h4 : ((z + 1 : Nat) : Int) * (z + 1 : Nat) * q ≤ ((m + 1 : Nat) : Int) * (m + 1 : Nat) * q := Int.mul_le_mul_of_nonneg_right (Int.mul_le_mul (by omega) (by omega) (by omega) (by omega)) hq
      rw [if_neg (by omega)]
      exact upZ_eq s q hq m z (by omega) h1 (.inr h3)
theorem apart23_no (a b : Lb) (h : (rightL a.x a.y && rightL b.x b.y) = false) (w : World) : Calls Try.prog 91 #[lbV a, lbV b] w fun e w' => e = .returned (.tuple #[.int .i64 0, .bool false]) ∧ Below w.heap.size w w' := by
  obtain ⟨i, x, y, r, t, u⟩ := a
  obtain ⟨i2, x2, y2, r2, t2, u2⟩ := b
  simp only at h
  have c1 := right4_any x y
  have c2 := right4_any x2 y2
  obtain ⟨b1, h1⟩ : ∃ b, rightL x y = b := ⟨_, rfl⟩
  obtain ⟨b2, h2⟩ : ∃ b, rightL x2 y2 = b := ⟨_, rfl⟩
  rw [h1] at c1 h
  rw [h2] at c2 h
  clear h1 h2
  go_enter Try.func91, Try.ntmps91
  cases b1
  · go_wp2_with (first
      | (go_at_call 102; (with_reducible refine (c1 _).mono ?_); rintro e w' ⟨rfl, hb_⟩; obtain ⟨p1, rfl⟩ := grow_of_below hb_; clear hb_)
      | (go_at_call 102; (with_reducible refine (c2 _).mono ?_); rintro e w' ⟨rfl, hb_⟩; obtain ⟨p2, rfl⟩ := grow_of_below hb_; clear hb_)
      | fail)
    all_goals
      go_ret2
      exact ⟨rfl, (by repeat' (first | with_reducible exact Below.refl _ _ | with_reducible exact Nat.le_refl _ | with_reducible assumption | with_reducible refine Go.below_growBy' ?_ ?_ _ | with_reducible refine Below.alloc ?_ ?_ _ | with_reducible refine Below.setCell ?_ ?_ _ | with_reducible refine Below.drew ?_ | with_reducible refine Go.le_alloc ?_ | with_reducible refine Go.le_growBy ?_ | with_reducible refine Go.le_setCell ?_ | with_reducible refine Go.le_drew ?_ | omega | (dsimp only; omega)))⟩
  · simp only [Bool.true_and] at h
    subst h
    go_wp2_with (first
      | (go_at_call 102; (with_reducible refine (c1 _).mono ?_); rintro e w' ⟨rfl, hb_⟩; obtain ⟨p1, rfl⟩ := grow_of_below hb_; clear hb_)
      | (go_at_call 102; (with_reducible refine (c2 _).mono ?_); rintro e w' ⟨rfl, hb_⟩; obtain ⟨p2, rfl⟩ := grow_of_below hb_; clear hb_)
      | fail)
    go_ret2
    exact ⟨rfl, (by repeat' (first | with_reducible exact Below.refl _ _ | with_reducible exact Nat.le_refl _ | with_reducible assumption | with_reducible refine Go.below_growBy' ?_ ?_ _ | with_reducible refine Below.alloc ?_ ?_ _ | with_reducible refine Below.setCell ?_ ?_ _ | with_reducible refine Below.drew ?_ | with_reducible refine Go.le_alloc ?_ | with_reducible refine Go.le_growBy ?_ | with_reducible refine Go.le_setCell ?_ | with_reducible refine Go.le_drew ?_ | omega | (dsimp only; omega)))⟩
theorem apart23_yes (a b : Lb) (ha : rightL a.x a.y = true) (hb : rightL b.x b.y = true) (w : World) : Calls Try.prog 91 #[lbV a, lbV b] w fun e w' => e = .returned (.tuple #[.int .i64 (sqL a b), .bool true]) ∧ Below w.heap.size w w' := by
  have hsq := sq_in ha hb
  have hdx : wrap64 (a.x - b.x) = a.x - b.x ∧ wrap64 (a.y - b.y) = a.y - b.y ∧ wrap64 ((a.x - b.x) * (a.x - b.x)) = (a.x - b.x) * (a.x - b.x) ∧ wrap64 ((a.y - b.y) * (a.y - b.y)) = (a.y - b.y) * (a.y - b.y) ∧ wrap64 (sqL a b) = sqL a b := by
    have h1 : 0 ≤ (a.x - b.x) * (a.x - b.x) := by
      rcases Int.le_total 0 (a.x - b.x) with h | h
      · exact Int.mul_nonneg h h
      · rw [← Int.neg_mul_neg]; exact Int.mul_nonneg (by omega) (by omega)
    have h2 : 0 ≤ (a.y - b.y) * (a.y - b.y) := by
      rcases Int.le_total 0 (a.y - b.y) with h | h
      · exact Int.mul_nonneg h h
      · rw [← Int.neg_mul_neg]; exact Int.mul_nonneg (by omega) (by omega)
    unfold rightL at ha hb
    simp only [Bool.and_eq_true, decide_eq_true_eq] at ha hb
    have h3 : sqL a b = (a.x - b.x) * (a.x - b.x) + (a.y - b.y) * (a.y - b.y) := rfl
    refine ⟨Go.IntWalk.wrap64_in _ ⟨by omega, by omega⟩, Go.IntWalk.wrap64_in _ ⟨by omega, by omega⟩, Go.IntWalk.wrap64_in _ ⟨by omega, by omega⟩, Go.IntWalk.wrap64_in _ ⟨by omega, by omega⟩, Go.IntWalk.wrap64_in _ ⟨by omega, by omega⟩⟩
  have hs : sqL a b = (a.x - b.x) * (a.x - b.x) + (a.y - b.y) * (a.y - b.y) := rfl
  obtain ⟨i, x, y, r, t, u⟩ := a
  obtain ⟨i2, x2, y2, r2, t2, u2⟩ := b
  simp only at ha hb hdx hs
  obtain ⟨d1, d2, d3, d4, d5⟩ := hdx
  have c1 := right4_any x y
  have c2 := right4_any x2 y2
  have c3 := sub4_any x y x2 y2
  have c4 := dot4_any (x - x2) (y - y2) (x - x2) (y - y2)
  rw [ha] at c1
  rw [hb] at c2
  rw [d1, d2] at c3
  rw [d3, d4, ← hs, d5] at c4
  generalize sqL _ _ = sq at *
  generalize x - x2 = dx at *
  generalize y - y2 = dy at *
  clear d1 d2 d3 d4 d5 hs hsq ha hb
  go_enter Try.func91, Try.ntmps91
  go_wp2_with (first
      | (go_at_call 102; (with_reducible refine (c1 _).mono ?_); rintro e w' ⟨rfl, hb_⟩; obtain ⟨p1, rfl⟩ := grow_of_below hb_; clear hb_)
      | (go_at_call 102; (with_reducible refine (c2 _).mono ?_); rintro e w' ⟨rfl, hb_⟩; obtain ⟨p2, rfl⟩ := grow_of_below hb_; clear hb_)
      | (go_at_call 80; (with_reducible refine (c3 _).mono ?_); rintro e w' ⟨rfl, hb_⟩; obtain ⟨p3, rfl⟩ := grow_of_below hb_; clear hb_)
      | (go_at_call 103; (with_reducible refine (c4 _).mono ?_); rintro e w' ⟨rfl, hb_⟩; obtain ⟨p4, rfl⟩ := grow_of_below hb_; clear hb_)
      | fail)
  go_ret2
  exact ⟨rfl, (by repeat' (first | with_reducible exact Below.refl _ _ | with_reducible exact Nat.le_refl _ | with_reducible assumption | with_reducible refine Go.below_growBy' ?_ ?_ _ | with_reducible refine Below.alloc ?_ ?_ _ | with_reducible refine Below.setCell ?_ ?_ _ | with_reducible refine Below.drew ?_ | with_reducible refine Go.le_alloc ?_ | with_reducible refine Go.le_growBy ?_ | with_reducible refine Go.le_setCell ?_ | with_reducible refine Go.le_drew ?_ | omega | (dsimp only; omega)))⟩
end Go.Proofs.Ytikojanpbbiaiaa
namespace Go.Proofs.Ytikojanpbbiaiaa
set_option linter.unusedVariables false
set_option linter.unusedSimpArgs false
open Go.RowKit Go.Shelf
attribute [local go_sem] Oper.semAt_some
attribute [local go_sem ↓] Go.wp_at_zero Go.wp_at_succ

set_option maxHeartbeats 1000000 in
theorem limit23_any (a b : Lb) (w : World) : Calls Try.prog 78 #[lbV a, lbV b] w fun e w' => e = .returned (.int .i64 (limL a b : Nat)) ∧ Below w.heap.size w w' := by
  by_cases h : (rightL a.x a.y && rightL b.x b.y) = true
  · have h2 := h
    simp only [Bool.and_eq_true] at h2
    obtain ⟨ha, hb⟩ := h2
    have hl : limL a b = upZ (sqL a b) (radL a b * radL a b) 1024 := by unfold limL; rw [if_pos h]
    have c1 := apart23_yes a b ha hb
    have c2 := both_any a b
    obtain ⟨s0, s1⟩ := sq_in ha hb
    obtain ⟨r0, r1⟩ := radL_in a b
    obtain ⟨i, x, y, r, t, u⟩ := a
    obtain ⟨i2, x2, y2, r2, t2, u2⟩ := b
    rw [hl]
    generalize sqL _ _ = sq at *
    generalize radL _ _ = rd at *
    clear ha hb h hl
    obtain ⟨Z, hZ⟩ : ∃ Z, upZ sq (rd * rd) 1024 = Z := ⟨_, rfl⟩
    rw [hZ]
    replace hZ := Lib.hid hZ
    have q0 : 0 ≤ rd * rd := Int.mul_nonneg r0 r0
    have q1 : rd * rd ≤ 4000000 := by have := Int.mul_le_mul r1 r1 r0 (by decide); omega
    replace q1 := Lib.hid q1
    replace q0 := Lib.hid q0
    go_enter Try.func78, Try.ntmps78
    go_upto_region 5 with (first
      | (go_at_call 91; (with_reducible refine (c1 _).mono ?_); rintro e w' ⟨rfl, hb_⟩; obtain ⟨p1, rfl⟩ := grow_of_below hb_; clear hb_)
      | (go_at_call 92; (with_reducible refine (c2 _).mono ?_); rintro e w' ⟨rfl, hb_⟩; obtain ⟨p2, rfl⟩ := grow_of_below hb_; clear hb_)
      | fail)
    refine wp_world (fun w2 hw2 => ?_)
    have hB : Below w.heap.size w w2 := by
      rw [hw2]
      exact (by repeat' (first | with_reducible exact Below.refl _ _ | with_reducible exact Nat.le_refl _ | with_reducible assumption | with_reducible refine Go.below_growBy' ?_ ?_ _ | with_reducible refine Below.alloc ?_ ?_ _ | with_reducible refine Below.setCell ?_ ?_ _ | with_reducible refine Below.drew ?_ | with_reducible refine Go.le_alloc ?_ | with_reducible refine Go.le_growBy ?_ | with_reducible refine Go.le_setCell ?_ | with_reducible refine Go.le_drew ?_ | omega | (dsimp only; omega)))
    clear hw2
    go_wp2_with fail
    go_loopw [8] (fun kk wr => ∃ z : Nat, z ≤ 1024 ∧ kk = .int .i64 (z : Nat) ∧ (z = 0 ∨ (z : Int) * z * (rd * rd) ≤ sq) ∧ wr = w2) (fun kk _ => 1024 - (intOf kk).toNat)
    case atStart => exact ⟨0, Nat.zero_le _, rfl, .inl rfl, rfl⟩
    case round =>
      obtain ⟨z, hz, rfl, hz2, rfl⟩ := hrel
      by_cases hlt : z < 1024
      · have hltI : (z : Int) < 1024 := by omega
        have e0 : IntKind.i64.wrap ((z : Int) + 1) = (z : Int) + 1 := wrap_in7 (by omega) (by omega)
        have m0 : 0 ≤ ((z : Int) + 1) * ((z : Int) + 1) := Int.mul_nonneg (by omega) (by omega)
        have m1 : ((z : Int) + 1) * ((z : Int) + 1) ≤ 1048576 := by have := Int.mul_le_mul (show (z : Int) + 1 ≤ 1024 by omega) (show (z : Int) + 1 ≤ 1024 by omega) (by omega) (by decide); omega
        obtain ⟨p, hp⟩ : ∃ p, ((z : Int) + 1) * ((z : Int) + 1) = p := ⟨_, rfl⟩
        rw [hp] at m0 m1
        have n0 : 0 ≤ p * rd := Int.mul_nonneg m0 r0
        have n1 : p * rd ≤ 2097152000 := by have := Int.mul_le_mul m1 r1 r0 (by decide); omega
        obtain ⟨p2, hp2⟩ : ∃ p2, p * rd = p2 := ⟨_, rfl⟩
        rw [hp2] at n0 n1
        have k1 : p2 * rd ≤ 4194304000000 := by have := Int.mul_le_mul n1 r1 r0 (by decide); omega
        have k0 : 0 ≤ p2 * rd := Int.mul_nonneg n0 r0
        obtain ⟨p3, hp3⟩ : ∃ p3, p2 * rd = p3 := ⟨_, rfl⟩
        rw [hp3] at k0 k1
        have hpq : ((z + 1 : Nat) : Int) * (z + 1 : Nat) * (rd * rd) = p3 := by
          rw [← hp3, ← hp2, ← hp, Int.mul_assoc, Int.mul_assoc]
          push_cast
          rw [Int.mul_assoc]
        replace hpq := Lib.hid hpq
        by_cases hle : p3 ≤ sq
        · go_wp2_with fail
          go_roundw
          case rel => exact ⟨z + 1, by omega, by go_num, .inr (by rw [hpq.out]; exact hle), by first | rfl | trivial⟩
          case measure => simp [intOf]; omega
        · go_wp2_with fail
          go_ret
          have hzz := upZ_eq sq (rd * rd) q0.out 1024 z hz hz2 (.inr (by rw [hpq.out]; omega))
          rw [hZ.out] at hzz
          exact ⟨by rw [hzz]; rfl, hB⟩
      · obtain rfl : z = 1024 := by omega
        have hge : ¬ ((1024 : Nat) : Int) < 1024 := by omega
        go_wp2_with fail
        go_ret
        have hzz := upZ_eq sq (rd * rd) q0.out 1024 1024 (Nat.le_refl _) hz2 (.inl rfl)
        rw [hZ.out] at hzz
        exact ⟨by rw [hzz]; rfl, hB⟩
  · have hf : (rightL a.x a.y && rightL b.x b.y) = false := by simpa using h
    have hl : limL a b = 0 := by unfold limL; rw [if_neg h]
    have c1 := apart23_no a b hf
    obtain ⟨i, x, y, r, t, u⟩ := a
    obtain ⟨i2, x2, y2, r2, t2, u2⟩ := b
    rw [hl]
    clear h hf hl
    go_enter Try.func78, Try.ntmps78
    go_wp2_with (first
      | (go_at_call 91; (with_reducible refine (c1 _).mono ?_); rintro e w' ⟨rfl, hb_⟩; obtain ⟨p1, rfl⟩ := grow_of_below hb_; clear hb_)
      | fail)
    go_ret
    exact ⟨rfl, (by repeat' (first | with_reducible exact Below.refl _ _ | with_reducible exact Nat.le_refl _ | with_reducible assumption | with_reducible refine Go.below_growBy' ?_ ?_ _ | with_reducible refine Below.alloc ?_ ?_ _ | with_reducible refine Below.setCell ?_ ?_ _ | with_reducible refine Below.drew ?_ | with_reducible refine Go.le_alloc ?_ | with_reducible refine Go.le_growBy ?_ | with_reducible refine Go.le_setCell ?_ | with_reducible refine Go.le_drew ?_ | omega | (dsimp only; omega)))⟩
theorem near24_any (a b : Lb) (w : World) : Calls Try.prog 42 #[lbV a, lbV b] w fun e w' => e = .returned (.bool (nearL a b)) ∧ Below w.heap.size w w' := by
  have c1 := limit23_any a b
  have hn : nearL a b = decide (((limL a b : Nat) : Int) < 1024) := by unfold nearL; congr 1; exact propext ⟨fun h => by omega, fun h => by omega⟩
  rw [hn]
  generalize limL a b = z at *
  obtain ⟨i, x, y, r, t, u⟩ := a
  obtain ⟨i2, x2, y2, r2, t2, u2⟩ := b
  clear hn
  go_enter Try.func42, Try.ntmps42
  go_wp2_with (first
      | (go_at_call 78; (with_reducible refine (c1 _).mono ?_); rintro e w' ⟨rfl, hb_⟩; obtain ⟨p1, rfl⟩ := grow_of_below hb_; clear hb_)
      | fail)
  all_goals
    go_ret
    exact ⟨by first | rfl | simp_all, (by repeat' (first | with_reducible exact Below.refl _ _ | with_reducible exact Nat.le_refl _ | with_reducible assumption | with_reducible refine Go.below_growBy' ?_ ?_ _ | with_reducible refine Below.alloc ?_ ?_ _ | with_reducible refine Below.setCell ?_ ?_ _ | with_reducible refine Below.drew ?_ | with_reducible refine Go.le_alloc ?_ | with_reducible refine Go.le_growBy ?_ | with_reducible refine Go.le_setCell ?_ | with_reducible refine Go.le_drew ?_ | omega | (dsimp only; omega)))⟩
end Go.Proofs.Ytikojanpbbiaiaa
namespace Go.Proofs.Ytikojanpbbiaiaa
set_option linter.unusedVariables false
set_option linter.unusedSimpArgs false

/-- compare of two integers: -1, 0, 1 -/
def cmpI (a b : Int) : Int := (a - b).sign

theorem cmpI_lt {a b : Int} (h : a < b) : cmpI a b = -1 := by unfold cmpI; rw [Int.sign_eq_neg_one_of_neg (by omega)]
theorem cmpI_eq (a : Int) : cmpI a a = 0 := by unfold cmpI; rw [Int.sub_self]; rfl
theorem cmpI_gt {a b : Int} (h : b < a) : cmpI a b = 1 := by unfold cmpI; rw [Int.sign_eq_one_of_pos (by omega)]

/-- the comparison of two products, as two words each -/
def cmp2 (h l h' l' : Int) : Int := if cmpI h h' = 0 then cmpI l l' else cmpI h h'

theorem cmp2_words (p q : Nat) : cmp2 (p / 18446744073709551616 : Nat) (p % 18446744073709551616 : Nat) (q / 18446744073709551616 : Nat) (q % 18446744073709551616 : Nat) = cmpI p q := by
  unfold cmp2
  rcases Nat.lt_trichotomy (p / 18446744073709551616) (q / 18446744073709551616) with h | h | h
  · rw [cmpI_lt (by omega), if_neg (by decide), cmpI_lt (by omega)]
  · rw [h, cmpI_eq, if_pos rfl]
    rcases Nat.lt_trichotomy (p % 18446744073709551616) (q % 18446744073709551616) with h2 | h2 | h2
    · rw [cmpI_lt (by omega), cmpI_lt (by omega)]
    · have : p = q := by omega
      rw [this, cmpI_eq, cmpI_eq]
    · rw [cmpI_gt (by omega), cmpI_gt (by omega)]
  · rw [cmpI_gt (by omega), if_neg (by decide), cmpI_gt (by omega)]

/-- the sign of a b - c d -/
def sign2 (a b c d : Int) : Int := (a * b - c * d).sign

theorem sign_of (n : Int) : (n < 0 ∧ n.sign = -1) ∨ (n = 0 ∧ n.sign = 0) ∨ (0 < n ∧ n.sign = 1) := by
  rcases Int.lt_trichotomy n 0 with h | h | h
  · exact .inl ⟨h, Int.sign_eq_neg_one_of_neg h⟩
  · exact .inr (.inl ⟨h, by rw [h]; rfl⟩)
  · exact .inr (.inr ⟨h, Int.sign_eq_one_of_pos h⟩)

theorem sign_cases (n : Int) : n.sign = -1 ∨ n.sign = 0 ∨ n.sign = 1 := by
  rcases sign_of n with h | h | h <;> simp [h.2]

theorem sign2_ne {a b c d : Int} (h : a.sign * b.sign ≠ c.sign * d.sign) : (a.sign * b.sign - c.sign * d.sign).sign = sign2 a b c d := by
  unfold sign2
  rw [← Int.sign_mul, ← Int.sign_mul] at *
  generalize a * b = x at *
  generalize c * d = y at *
  rcases sign_of x with ⟨h1, e1⟩ | ⟨h1, e1⟩ | ⟨h1, e1⟩ <;> rcases sign_of y with ⟨h2, e2⟩ | ⟨h2, e2⟩ | ⟨h2, e2⟩ <;> rw [e1, e2] at h ⊢ <;>
    first
    | exact absurd rfl h
    | (rw [Int.sign_eq_neg_one_of_neg (a := x - y) (by omega)]; rfl)
    | (rw [Int.sign_eq_one_of_pos (a := x - y) (by omega)]; rfl)

theorem sign2_eq {a b c d : Int} (h : a.sign * b.sign = c.sign * d.sign) : a.sign * b.sign * cmpI ((a.natAbs * b.natAbs : Nat) : Int) ((c.natAbs * d.natAbs : Nat) : Int) = sign2 a b c d := by
  unfold sign2 cmpI
  rw [← Int.natAbs_mul, ← Int.natAbs_mul]
  rw [← Int.sign_mul, ← Int.sign_mul] at h
  rw [← Int.sign_mul]
  generalize a * b = x at *
  generalize c * d = y at *
  rcases sign_of x with ⟨h1, e1⟩ | ⟨h1, e1⟩ | ⟨h1, e1⟩ <;> rcases sign_of y with ⟨h2, e2⟩ | ⟨h2, e2⟩ | ⟨h2, e2⟩ <;> rw [e1, e2] at h <;> try omega
  · rw [e1, show ((x.natAbs : Int)) = -x from by omega, show ((y.natAbs : Int)) = -y from by omega, show -x - -y = -(x - y) from by omega, Int.sign_neg]
    omega
  · rw [e1, h1, h2]; rfl
  · rw [e1, show ((x.natAbs : Int)) = x from by omega, show ((y.natAbs : Int)) = y from by omega, Int.one_mul]

/-! ### roots -/
/-- the reference's root: bit by bit -/
def rootBits (n : Int) : Nat → Int → Int
  | 0, out => out
  | k + 1, out => rootBits n k (if out + 2 ^ k ≤ 3037000499 ∧ (out + 2 ^ k) * (out + 2 ^ k) ≤ n then out + 2 ^ k else out)

def root (n : Int) : Int := rootBits n 32 0

def isRoot (n s : Int) : Prop := 0 ≤ s ∧ s ≤ 3037000499 ∧ s * s ≤ n ∧ (s = 3037000499 ∨ n < (s + 1) * (s + 1))

theorem sq_le {a b : Int} (h0 : 0 ≤ a) (h : a ≤ b) : a * a ≤ b * b := Int.mul_le_mul h h h0 (by omega)

theorem isRoot_unique {n s t : Int} (hs : isRoot n s) (ht : isRoot n t) : s = t := by
  obtain ⟨s0, s1, s2, s3⟩ := hs
  obtain ⟨t0, t1, t2, t3⟩ := ht
  rcases Int.lt_trichotomy s t with h | h | h
  · have := sq_le (a := s + 1) (b := t) (by omega) (by omega)
    omega
  · exact h
  · have := sq_le (a := t + 1) (b := s) (by omega) (by omega)
    omega

theorem rootBits_inv (n : Int) : ∀ (k : Nat) (out : Int), 0 ≤ out → out ≤ 3037000499 → out * out ≤ n → (3037000499 < out + 2 ^ k ∨ n < (out + 2 ^ k) * (out + 2 ^ k)) → isRoot n (rootBits n k out)
  | 0, out, h0, h1, h2, h3 => ⟨h0, h1, h2, by simp at h3; simp only [rootBits]; omega⟩
  | k + 1, out, h0, h1, h2, h3 => by
    unfold rootBits
    have hp : (0 : Int) < 2 ^ k := Int.pow_pos (by decide)
    have e : (2 : Int) ^ (k + 1) = 2 ^ k + 2 ^ k := by rw [Int.pow_succ]; omega
    rw [e] at h3
    split
    · rename_i h
      exact rootBits_inv n k _ (by omega) h.1 h.2 (by rw [show out + 2 ^ k + 2 ^ k = out + (2 ^ k + 2 ^ k) from by omega]; exact h3)
    · rename_i h
      refine rootBits_inv n k _ h0 h1 h2 ?_
      by_cases h4 : out + 2 ^ k ≤ 3037000499
      · right
        have : ¬ (out + 2 ^ k) * (out + 2 ^ k) ≤ n := fun hh => h ⟨h4, hh⟩
        omega
      · left; omega

theorem root_is {n : Int} (h : 0 ≤ n) : isRoot n (root n) := rootBits_inv n 32 0 (by decide) (by decide) (by omega) (.inl (by decide))

theorem rootBits_neg {n : Int} (h : n < 0) : ∀ (k : Nat), rootBits n k 0 = 0
  | 0 => rfl
  | k + 1 => by
    unfold rootBits
    rw [if_neg]
    · exact rootBits_neg h k
    · intro hh
      have hp : (0 : Int) < 2 ^ k := Int.pow_pos (by decide)
      have := sq_le (a := 0) (b := 0 + 2 ^ k) (by omega) (by omega)
      omega
theorem root_neg {n : Int} (h : n < 0) : root n = 0 := rootBits_neg h 32
theorem root_of {n s : Int} (h0 : 0 ≤ n) (h : isRoot n s) : s = root n := isRoot_unique h (root_is h0)

/-! ### greatest common divisors -/
/-- P1.4: the greatest common divisor; 1 where it is no int -/
def gcdI (a b : Int) : Int := if Nat.gcd a.natAbs b.natAbs ≤ 9223372036854775807 then (Nat.gcd a.natAbs b.natAbs : Nat) else 1

theorem rem30 (n : Int) : -1073741824 < n.tmod 1073741824 ∧ n.tmod 1073741824 < 1073741824 :=
  ⟨Int.lt_tmod_of_pos n (by decide), Int.tmod_lt_of_pos n (by decide)⟩
theorem mul_small {a b : Int} (a0 : -1073741824 < a) (a1 : a < 1073741824) (b0 : -1073741824 < b) (b1 : b < 1073741824) : -1152921504606846976 ≤ a * b ∧ a * b ≤ 1152921504606846976 := by
  have h : (a * b).natAbs ≤ 1073741824 * 1073741824 := by rw [Int.natAbs_mul]; exact Nat.mul_le_mul (by omega) (by omega)
  omega

end Go.Proofs.Ytikojanpbbiaiaa
namespace Go.Proofs.Ytikojanpbbiaiaa
set_option linter.unusedVariables false
set_option linter.unusedSimpArgs false
open Ieee

theorem cut_zero_le (neg : Bool) (n drop : Nat) : Toward.zero.cut neg n drop ≤ n := by
  unfold Toward.cut
  simp
  exact Nat.div_le_self _ _

/-- even rounding: at most one more than the quotient -/
theorem cut_even_le (neg : Bool) (n drop : Nat) : Toward.even.cut neg n drop ≤ n / 2 ^ (min drop (n.log2 + 2)) + 1 := by
  unfold Toward.cut
  simp only [Nat.one_shiftLeft]
  have : ∀ b : Bool, b.toNat ≤ 1 := by decide
  exact Nat.add_le_add_left (this _) _

theorem kept_le (mag : Nat) (s : Int) (h : s + mag.log2 ≤ 52) : Toward.even.cut false (mag <<< s.toNat) (-s).toNat ≤ 2 ^ 53 := by
  refine Nat.le_trans (cut_even_le _ _ _) ?_
  have hl : mag < 2 ^ (mag.log2 + 1) := Nat.lt_log2_self
  rw [Nat.shiftLeft_eq]
  by_cases hs : 0 ≤ s
  · rw [show (-s).toNat = 0 from by omega, Nat.zero_min, Nat.pow_zero, Nat.div_one]
    have h1 : mag * 2 ^ s.toNat < 2 ^ (mag.log2 + 1) * 2 ^ s.toNat := Nat.mul_lt_mul_of_pos_right hl (Nat.two_pow_pos _)
    rw [← Nat.pow_add] at h1
    have h2 : 2 ^ (mag.log2 + 1 + s.toNat) ≤ 2 ^ 53 := Nat.pow_le_pow_right (by decide) (by omega)
    omega
  · rw [show s.toNat = 0 from by omega, Nat.pow_zero, Nat.mul_one]
    have h3 : mag / 2 ^ min (-s).toNat (mag.log2 + 2) < 2 ^ 53 := by
      refine Nat.div_lt_of_lt_mul ?_
      rw [← Nat.pow_add]
      exact Nat.lt_of_lt_of_le hl (Nat.pow_le_pow_right (by decide) (by omega))
    omega

theorem least_double : double.leastPlace = -1074 := by decide
theorem inf_double : double.infRung = 2047 * 2 ^ 52 := by decide +kernel
theorem sign_double : double.signWeight = 2 ^ 63 := by decide +kernel
theorem binade_double : double.binade = 2 ^ 52 := by decide +kernel

/-- the rung of a rounded number: at most that of the place of its first digit -/
theorem nearest_le (mag : Nat) (place : Int) (E : Int) (h1 : place + mag.log2 ≤ E) (h2 : -1022 ≤ E) :
    double.nearest false mag place ≤ ((E + 1022).toNat + 2) * 2 ^ 52 := by
  unfold Format.nearest
  split
  · unfold Format.word; simp
  · rw [least_double, binade_double]
    unfold Format.word
    simp only [Bool.false_eq_true, if_false, show double.fractionBits = 52 from rfl]
    generalize double.infRung = R
    generalize hL : max (place + (mag.log2 : Int) - ((52 : Nat) : Int)) (-1074) = last
    have hk := kept_le mag (place - last) (by omega)
    rw [show (last - place).toNat = (-(place - last)).toNat from by congr 1; omega]
    have h3 : (last - -1074).toNat ≤ (E + 1022).toNat := by omega
    have h4 := Nat.mul_le_mul_right (2 ^ 52) h3
    generalize Toward.even.cut false (mag <<< (place - last).toNat) (-(place - last)).toNat = kept at *
    have h5 : (last - -1074).toNat * 2 ^ 52 + kept ≤ ((E + 1022).toNat + 2) * 2 ^ 52 := by
      have h6 : (2 : Nat) ^ 53 = 2 * 2 ^ 52 := by decide +kernel
      rw [h6] at hk
      rw [Nat.add_mul]
      exact Nat.add_le_add h4 hk
    exact Nat.le_trans (Nat.min_le_left _ _) h5

/-- what a low rung reads as -/
theorem read_low (r e : Nat) (he : 1 ≤ e) (he2 : e ≤ 2000) (h : r ≤ e * 2 ^ 52) :
    ∃ m i, double.read r = .number false m i ∧ m < 2 ^ 53 ∧ i ≤ (e : Int) - 1075 := by
  have hr : r < 2 ^ 63 := by have := Nat.mul_le_mul_right (2 ^ 52) he2; omega
  unfold Format.read
  rw [sign_double, binade_double, inf_double, least_double]
  rw [Nat.div_eq_of_lt hr, Nat.mod_eq_of_lt hr]
  simp only
  split
  · exact ⟨r, _, rfl, by omega, by omega⟩
  · rw [if_pos (by have := Nat.mul_le_mul_right (2 ^ 52) he2; omega)]
    refine ⟨_, _, rfl, ?_, ?_⟩
    · have := Nat.mod_lt r (Nat.two_pow_pos 52); omega
    · have : r / 2 ^ 52 ≤ e := Nat.div_le_of_le_mul (by omega)
      omega

theorem rootFrom_sq (n : Nat) : ∀ (todo root : Nat), root * root ≤ n → Datum.rootFrom n todo root * Datum.rootFrom n todo root ≤ n
  | 0, root, h => h
  | todo + 1, root, h => by
    unfold Datum.rootFrom
    simp only
    split
    · rename_i h1; exact rootFrom_sq n todo _ h1
    · exact rootFrom_sq n todo _ h

theorem root_datum (m : Nat) (i : Int) (hm : m < 2 ^ 53) (hi : i ≤ 11) :
    ∃ m' i', Datum.root 54 (.number false m i) = some (.number false m' i') ∧ (m' = 0 ∨ i' + (m'.log2 : Int) ≤ 31) := by
  unfold Datum.root
  simp only
  split
  · rename_i h0; exact ⟨m, i, rfl, .inl h0⟩
  · simp only [Bool.false_eq_true, if_false]
    refine ⟨_, _, rfl, ?_⟩
    generalize 2 * 54 - m.log2 + ((i - ((2 * 54 - m.log2 : Nat) : Int)) % 2).toNat = more
    have hsq := rootFrom_sq (m <<< more) ((m <<< more).log2 / 2 + 1) 0 (by simp)
    generalize Datum.rootFrom (m <<< more) ((m <<< more).log2 / 2 + 1) 0 = whole at *
    have hb : (whole * whole != m <<< more).toNat ≤ 1 := by cases (whole * whole != m <<< more) <;> decide
    generalize (whole * whole != m <<< more).toNat = b at *
    by_cases hz : 2 * whole + b = 0
    · exact .inl hz
    · right
      have ht := Nat.log2_self_le hz
      generalize (2 * whole + b).log2 = t at *
      rw [Nat.shiftLeft_eq] at hsq
      have h1 : m * 2 ^ more < 2 ^ (53 + more) := by rw [Nat.pow_add]; exact Nat.mul_lt_mul_of_pos_right hm (Nat.two_pow_pos _)
      have h2 : t = 0 ∨ 2 * t ≤ 54 + more := by
        cases t with
        | zero => exact .inl rfl
        | succ u =>
          right
          rw [Nat.pow_succ] at ht
          have h3 : 2 ^ u ≤ whole := by omega
          have h4 : 2 ^ u * 2 ^ u ≤ whole * whole := Nat.mul_le_mul h3 h3
          rw [← Nat.pow_add] at h4
          have h5 : 2 ^ (u + u) < 2 ^ (53 + more) := by omega
          have h6 := (Nat.pow_lt_pow_iff_right (a := 2) (by decide)).1 h5
          omega
      omega

/-- int(math.Sqrt(float64(n))) for an int greater than 0: the conversions give their values, and the last one an int from 0 on -/
theorem float_root (n : Int) (h0 : 0 < n) (h1 : n ≤ 9223372036854775807) :
    ∃ r k, FloatKind.f64.format.sqrt (FloatKind.f64.nearest n) = some r ∧ floatToIntVal .f64 r .i64 = some k ∧ 0 ≤ k ∧ k ≤ 9223372036854775807 := by
  have e1 : FloatKind.f64.nearest n = double.nearest false n.natAbs 0 := by
    unfold FloatKind.nearest FloatKind.encode
    show double.write _ = _
    unfold Format.write
    simp only
    rw [decide_eq_false (by omega)]
  have hl : n.natAbs.log2 ≤ 62 := by
    have h3 := Nat.log2_self_le (n := n.natAbs) (by omega)
    have h4 : 2 ^ n.natAbs.log2 < 2 ^ 63 := by omega
    have := (Nat.pow_lt_pow_iff_right (a := 2) (by decide)).1 h4
    omega
  have h2 := nearest_le n.natAbs 0 62 (by omega) (by decide)
  obtain ⟨m, i, hr, hm, hi⟩ := read_low _ 1086 (by decide) (by decide) h2
  obtain ⟨m', i', hq, hq'⟩ := root_datum m i hm (by omega)
  refine ⟨double.nearest false m' i', ?_⟩
  have h3 : double.nearest false m' i' ≤ ((31 + 1022 : Int).toNat + 2) * 2 ^ 52 := by
    rcases hq' with h | h
    · subst h; unfold Format.nearest Format.word; simp
    · exact nearest_le m' i' 31 h (by decide)
  obtain ⟨m2, i2, hr2, hm2, hi2⟩ := read_low _ 1055 (by decide) (by decide) h3
  have hcut : Toward.zero.cut false (m2 <<< i2.toNat) (-i2).toNat ≤ m2 <<< i2.toNat := cut_zero_le _ _ _
  rw [show i2.toNat = 0 from by omega, Nat.shiftLeft_zero] at hcut
  refine ⟨(Toward.zero.cut false (m2 <<< i2.toNat) (-i2).toNat : Nat), ?_, ?_, by omega, ?_⟩
  · rw [e1]
    show (((double.read _).root (double.fractionBits + 2)).map double.write) = _
    rw [hr]
    show (Datum.root 54 _).map double.write = _
    rw [hq]; rfl
  · unfold floatToIntVal FloatKind.decode
    show (match (double.read (double.nearest false m' i')).toInt .zero with | some n => if IntKind.i64.min ≤ n ∧ n ≤ IntKind.i64.max then some n else none | none => none) = _
    rw [hr2]
    show (match some (signed false (Toward.zero.cut false (m2 <<< i2.toNat) (-i2).toNat) 0) with | some n => if IntKind.i64.min ≤ n ∧ n ≤ IntKind.i64.max then some n else none | none => none) = _
    unfold signed
    simp only [Bool.false_eq_true, if_false, Nat.shiftLeft_zero]
    rw [show i2.toNat = 0 from by omega, Nat.shiftLeft_zero]
    generalize Toward.zero.cut false m2 (-i2).toNat = c at *
    rw [if_pos]
    rw [show IntKind.i64.min = -9223372036854775808 from rfl, show IntKind.i64.max = 9223372036854775807 from rfl]
    omega
  · rw [show i2.toNat = 0 from by omega, Nat.shiftLeft_zero]; omega

end Go.Proofs.Ytikojanpbbiaiaa
namespace Go.Proofs.Ytikojanpbbiaiaa
set_option linter.unusedVariables false
set_option linter.unusedSimpArgs false
open Go.RowKit

theorem ret_int {k : IntKind} {a b : Int} (h : a = b) : Ending.returned (.int k a) = .returned (.int k b) := by rw [h]

theorem call_sqrt (args : Array Value) (w : World) : (callFunc 88 args).run Try.prog w = ((Extern.MathSqrt.sqrt args).run Try.prog w).andThen fun v w' => .ok (.value v) w' :=
  run_callFunc_extern Try.func88 (by kernel_rfl) (by kernel_rfl) (by kernel_rfl) (by kernel_rfl) args w

theorem run_sqrt (x r : Nat) (h : FloatKind.f64.format.sqrt x = some r) (w : World) : (Extern.MathSqrt.sqrt #[.float .f64 x]).run Try.prog w = .ok (.float .f64 r) w := by
  change Sem.run Try.prog ((match FloatKind.f64.format.sqrt x with | some r => pure (Value.float .f64 r) | none => do pure (Value.float .f64 (← choose (.nanBits .f64 x x)))) : Sem Value) w = _
  rw [h]
  rfl

theorem run_tofloat (n : Int) (w : World) : (convert 3 125 (.int .i64 n)).run Try.prog w = .ok (.float .f64 (FloatKind.f64.nearest n)) w := by
  simp [convert, run_underlying Try.underlying3, run_underlying Try.underlying125, Conv.intToFloat]

set_option maxHeartbeats 400000 in
theorem msqrt_any (x r : Nat) (w : World) (h : FloatKind.f64.format.sqrt x = some r) :
    Calls Try.prog 69 #[.float .f64 x] w fun e w' => e = .returned (.float .f64 r) ∧ w = w' := by
  have h1 := fun w => call_sqrt #[.float .f64 x] w
  have h2 := fun w => run_sqrt x r h w
  clear h
  go_enter Try.func69, Try.ntmps69
  go_wp2_with fail
  go_ret
  exact ⟨rfl, rfl⟩

set_option maxHeartbeats 1000000 in
theorem sqrt_any (n : Int) (w : World) (hn : fits n) :
    Calls Try.prog 33 #[.int .i64 n] w fun e w' => e = .returned (.int .i64 (root n)) ∧ Below w.heap.size w w' := by
  obtain ⟨n0, n1⟩ := hn
  by_cases h : n ≤ 0
  · have HR : Hid (root n = 0) := by
      by_cases h2 : n < 0
      · exact root_neg h2
      · have : n = 0 := by omega
        subst this; exact (by decide +kernel : root 0 = 0)
    go_enter Try.func33, Try.ntmps33
    go_wp2_with fail
    go_ret
    exact ⟨ret_int HR.out.symm, Below.refl _ _⟩
  · obtain ⟨r, k, hr, hk, k0, k1⟩ := float_root n (by omega) n1
    have hc1 := run_tofloat n
    have hc2 := fun w => run_convert_float_int (P := Try.prog) 125 3 .f64 .i64 r k (w := w) (by rw [Try.underlying125]; rfl) Try.underlying3 hk
    have HR := Lib.hid hr
    clear hr hk
    by_cases hk : k ≤ 3037000499
    all_goals
      go_enter Try.func33, Try.ntmps33
      go_wp2_with (go_at_call 69; refine (msqrt_any _ _ _ HR.out).mono ?_; rintro e w' ⟨rfl, rfl⟩)
      go_loop [3] (fun t => ∃ s : Int, 0 ≤ s ∧ s ≤ 3037000499 ∧ t = .int .i64 s) (fun t => (intOf t).toNat)
      case atStart => exact ⟨_, by omega, by omega, rfl⟩
      case round =>
        obtain ⟨s, s0, s1, rfl⟩ := hrel
        have hq0 := sq_le (a := 0) (b := s) (by omega) s0
        have hq1 := sq_le (a := s) (b := 3037000499) s0 s1
        by_cases hgt : n < s * s
        · have hs : 1 ≤ s := by
            by_cases h5 : s = 0
            · subst h5; omega
            · omega
          go_wp2_with fail
          go_round
          case rel => exact ⟨s - 1, by omega, by omega, rfl⟩
          case measure => simp [intOf]; omega
        · go_wp2_with fail
          clear hq0 hq1
          have HN : Hid (s * s ≤ n) := by exact (by omega : s * s ≤ n)
          clear hgt
          go_loop [3] (fun t => ∃ s : Int, 0 ≤ s ∧ s ≤ 3037000499 ∧ Hid (s * s ≤ n) ∧ t = .int .i64 s) (fun t => (3037000499 - intOf t).toNat)
          case atStart => exact ⟨_, s0, s1, HN, rfl⟩
          case round =>
            clear s0 s1 HN
            obtain ⟨t, t0, t1, HN, rfl⟩ := hrel
            have hq0 := sq_le (a := 0) (b := t + 1) (by omega) (by omega)
            by_cases hlt : t < 3037000499
            · have hq1 := sq_le (a := t + 1) (b := 3037000499) (by omega) (by omega)
              by_cases hle : (t + 1) * (t + 1) ≤ n
              · go_wp2_with fail
                go_round
                case rel => exact ⟨t + 1, by omega, by omega, hle, rfl⟩
                case measure => simp [intOf]; omega
              · go_wp2_with fail
                go_ret
                exact ⟨ret_int (root_of (by omega) ⟨t0, t1, HN.out, .inr (by omega)⟩), Below.refl _ _⟩
            · go_wp2_with fail
              go_ret
              exact ⟨ret_int (root_of (by omega) ⟨t0, t1, HN.out, .inl (by omega)⟩), Below.refl _ _⟩
end Go.Proofs.Ytikojanpbbiaiaa
