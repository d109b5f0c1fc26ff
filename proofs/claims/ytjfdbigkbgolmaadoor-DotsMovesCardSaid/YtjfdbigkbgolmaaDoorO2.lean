/-
  A law's argument []api.Dot, opened: a slice value whose elements are four ints each. And a struct or an array of ints behind a slice.
-/
import Derived.Test.YtjfdbigkbgolmaaDoorT1
import Derived.Test.YtjfdbigkbgolmaaDoorFrame
import Derived.Deep.Slices
import Derived.OpenShut
namespace Go.Proofs.YtjfdbigkbgolmaaDoor
set_option linter.unusedVariables false
set_option linter.unusedSimpArgs false
open Go.RowKit Go.Shelf
section
variable {H : Type} {enc : TypeId × Value → H} {P : Program} {W : World} {base : Nat} {sp : Nat → Bool} {hd : Bool} {t e : TypeId} {v : Value}

theorem trodAll_head {ts : List TypeId} {vs : List Value} {ds : List (DataW H)} {ps : List MemPlace} (h : DataW.TrodAll enc P W base sp hd (t :: ts) (v :: vs) ds ps) : ∃ d p, DataW.Trod enc P W base sp hd t v d p := by
  cases ds with
  | nil => exact h.elim
  | cons d ds => obtain ⟨p, q, h1, -, -⟩ := h; exact ⟨d, p, h1⟩
theorem trodAll_tail {ts : List TypeId} {vs : List Value} {ds : List (DataW H)} {ps : List MemPlace} (h : DataW.TrodAll enc P W base sp hd (t :: ts) (v :: vs) ds ps) : ∃ ds' ps', DataW.TrodAll enc P W base sp hd ts vs ds' ps' := by
  cases ds with
  | nil => exact h.elim
  | cons d ds => obtain ⟨p, q, -, h2, -⟩ := h; exact ⟨ds, q, h2⟩

theorem okWide_slice {r : Reach} (ht : P.underlying t = some (.slice e)) (h : Value.okWide P W r base t v) : ∀ cs, v ≠ .agg cs := by
  intro cs hcs
  subst hcs
  simp [Value.okWide, ht, Cell.okWide, Cell.ok] at h

theorem lit_fits (z : Int) (h : (Lit.int .i64 z).wf = true) : fits z := by
  simp [Lit.wf, IntKind.min, IntKind.max, IntKind.signed, IntKind.bits] at h
  exact ⟨by omega, by omega⟩

/-- a struct of ints, read -/
theorem ints_cells {fs : Array Field} {fuel : Nat} {cs : List Value} {x : DataW H × List MemPlace} (he : P.underlying e = some (.struct fs)) (hn : P.cellsOf e = fs.size)
    (hf : ∀ (i : Nat) (f : Field), fs[i]? = some f → f.offset = i ∧ P.cellsOf f.type = 1 ∧ P.underlying f.type = some (.int .i64))
    (h : DataW.trod enc P W base sp hd fuel e cs = some x) : cs.length = fs.size ∧ ∀ i, i < fs.size → ∃ z : Int, cs[i]? = some (.int .i64 z) ∧ fits z := by
  obtain ⟨xs, n, rfl, -, hl, hxl, hf'⟩ := DataW.trod_struct he h
  refine ⟨by omega, fun i hi => ?_⟩
  have hfi := Array.getElem?_eq_getElem hi
  obtain ⟨h1, h2, h3⟩ := hf i _ hfi
  have h4 := hf' i _ hfi
  rw [h1, h2, List.getElem?_eq_getElem (by omega : i < xs.length)] at h4
  obtain ⟨z, h5, -, h6⟩ := DataW.trod_int h3 h4
  refine ⟨z, ?_, lit_fits _ h6⟩
  have h7 : ((cs.drop i).take 1)[0]? = some (.int .i64 z) := by rw [h5]; rfl
  rw [List.getElem?_take, if_pos (by omega), List.getElem?_drop] at h7
  exact h7

/-- a slice of dots that came in: its list, as long as it is -/
def DtsA (n₀ : Nat) (W : World) (a : Option Addr) (l : List Dt) : Prop :=
  ∀ j, (h : j < l.length) → ∃ b off, a = some ⟨b, off, none⟩ ∧ b < n₀ ∧ DtRow W b (off + j * 4) l[j] ∧ (fits l[j].x ∧ fits l[j].y ∧ fits l[j].k ∧ fits l[j].i)
theorem DtsA.below {n₀ : Nat} {A B : World} (h : Below n₀ A B) {a : Option Addr} {l : List Dt} (r : DtsA n₀ A a l) : DtsA n₀ B a l := fun j hj => by
  obtain ⟨b, off, h1, h2, h3, h4⟩ := r j hj
  exact ⟨b, off, h1, h2, h3.below h h2, h4⟩
theorem DtsA.up {n₀ n₁ : Nat} (hn : n₀ ≤ n₁) {A : World} {a : Option Addr} {l : List Dt} (r : DtsA n₀ A a l) : DtsA n₁ A a l := fun j hj => by
  obtain ⟨b, off, h1, h2, h3, h4⟩ := r j hj
  exact ⟨b, off, h1, by omega, h3, h4⟩

theorem dtField : ∃ fs : Array Field, Tryd.prog.underlying 45 = some (.struct fs) ∧ Tryd.prog.cellsOf 45 = fs.size ∧ fs.size = 4 ∧ ∀ (i : Nat) (f : Field), fs[i]? = some f → f.offset = i ∧ Tryd.prog.cellsOf f.type = 1 ∧ Tryd.prog.underlying f.type = some (.int .i64) := by
  refine ⟨_, Tryd.underlying45, by kernel_rfl, rfl, fun i f h => ?_⟩
  match i, h with
  | 0, h => cases Option.some.inj h; exact ⟨rfl, by kernel_rfl, Tryd.underlying3⟩
  | 1, h => cases Option.some.inj h; exact ⟨rfl, by kernel_rfl, Tryd.underlying3⟩
  | 2, h => cases Option.some.inj h; exact ⟨rfl, by kernel_rfl, Tryd.underlying3⟩
  | 3, h => cases Option.some.inj h; exact ⟨rfl, by kernel_rfl, Tryd.underlying3⟩
  | i + 4, h => simp at h
instance : Inhabited Dt := ⟨⟨0, 0, 0, 0⟩⟩
theorem dots_arg {v : Value} (hv : ∀ cs, v ≠ .agg cs) (h : ∃ d p, DataW.Trod enc Tryd.prog W base sp hd 38 v d p) : ∃ a len cap l, v = .slice a len cap ∧ l.length = len ∧ DtsA W.heap.size W a l := by
  obtain ⟨d, p, fuel, h⟩ := h
  have hcs : v.cells.toList = [v] := by cases v <;> first | rfl | exact absurd rfl (hv _)
  rw [hcs] at h
  obtain ⟨fs, he, hn, hn4, hf⟩ := dtField
  rcases Go.Deep.open_slice Tryd.underlying38 h with ⟨h1, -⟩ | ⟨a, len, cap, m, n, D, Pl, h1, -, h2, -, h3, -, h4⟩
  · obtain rfl : v = .slice none 0 0 := by simpa using h1
    exact ⟨_, _, _, [], rfl, rfl, fun j hj => by simp at hj⟩
  · obtain rfl : v = .slice (some a) len cap := by simpa using h1
    have hm : len ≤ m := by rw [h3]; split <;> omega
    have each : ∀ i, i < len → ∃ d : Dt, (W.cell? ((a.add (i * 4)).add 0) = some (.int .i64 d.x) ∧ W.cell? ((a.add (i * 4)).add 1) = some (.int .i64 d.y) ∧ W.cell? ((a.add (i * 4)).add 2) = some (.int .i64 d.k) ∧ W.cell? ((a.add (i * 4)).add 3) = some (.int .i64 d.i)) ∧ (fits d.x ∧ fits d.y ∧ fits d.k ∧ fits d.i) := by
      intro i hi
      obtain ⟨cs', h5, h6⟩ := h4 i (by omega)
      rw [hn, hn4] at h5
      obtain ⟨-, -, h7⟩ := World.cells?_some h5
      obtain ⟨-, h8⟩ := ints_cells he hn hf h6
      rw [hn4] at h8
      obtain ⟨x, x0, x1⟩ := h8 0 (by omega)
      obtain ⟨y, y0, y1⟩ := h8 1 (by omega)
      obtain ⟨k, k0, k1⟩ := h8 2 (by omega)
      obtain ⟨z, z0, z1⟩ := h8 3 (by omega)
      exact ⟨⟨x, y, k, z⟩, ⟨(h7 0 (by omega)).trans x0, (h7 1 (by omega)).trans y0, (h7 2 (by omega)).trans k0, (h7 3 (by omega)).trans z0⟩, x1, y1, k1, z1⟩
    obtain ⟨f, hfd⟩ := Go.Deep.choose_lt each
    refine ⟨some a, len, cap, (List.range len).map f, rfl, by simp, fun j hj => ?_⟩
    have hj' : j < len := by simpa using hj
    obtain ⟨⟨c0, c1, c2, c3⟩, hfit⟩ := hfd j hj'
    have hspot : a.spot = none := by
      obtain ⟨⟨d0, -⟩, -⟩ := hfd 0 (by omega)
      simpa [Addr.add] using World.cell?_spot d0
    obtain ⟨b, off, spot⟩ := a
    simp only at hspot
    subst hspot
    rw [Go.WideShapes.add_plain, Go.WideShapes.add_plain] at c0 c1 c2 c3
    have hg : ((List.range len).map f)[j] = f j := by simp
    rw [hg]
    exact ⟨b, off, rfl, World.block_lt_of_cell? _ _ c0, ⟨c0, c1, c2, c3⟩, hfit⟩
end
end Go.Proofs.YtjfdbigkbgolmaaDoor
