/-
  hachureref11.Made: the history that numbers make: at most eight events, their At rising, from 1 to 1024. First the worlds of its walk.
-/
import Derived.Test.YtfcmmclialeepaaD1
import Derived.Deep.RegionHeld3
import Derived.Deep.AppendLies
namespace Go.Proofs.Ytfcmmclialeepaa
open Go.RowKit Go.Shelf
attribute [local go_sem] Oper.semAt_some

theorem Below.of_grown {n₀ : Nat} {W W' : World} {row : Option Nat} (hg : W.grownBy W' row) (hn : n₀ ≤ W.heap.size) (hr : ∀ r, row = some r → n₀ ≤ r) : Below n₀ W W' :=
  ⟨hg.os, hg.tape, hg.output, hg.size, fun i hi => hg.block i (by omega) (fun e => by have := hr i e.symm; omega)⟩

/-- the worlds of Made's walk: the result's cell and the draw's box at n₀, n₀ + 1 -/
structure MW (n₀ : Nat) (w W : World) (sv : Value) (len k : Nat) : Prop where
  bR : Blk W n₀ #[.int .i64 0, .slice none 0 0] 32
  bD : Blk W (n₀ + 1) #[sv, .int .i64 (k : Nat)] 51
  below : Below n₀ w W
  ints : Ints n₀ W sv len

theorem MW.kept {n₀ : Nat} {w W W' : World} {sv : Value} {len k : Nat} {row : Option Nat} (h : MW n₀ w W sv len k) (hg : W.grownBy W' row) (hr : ∀ r, row = some r → n₀ + 1 < r) : MW n₀ w W' sv len k := by
  have hlt := h.bR.lt
  have hb : Below n₀ W W' := Below.of_grown hg (by omega) (fun r e => by have := hr r e; omega)
  exact ⟨h.bR.kept hg (fun e => by have := hr _ e; omega), h.bD.kept hg (fun e => by have := hr _ e; omega), h.below.trans hb, h.ints.below hb⟩

theorem setCell_grown (W : World) (b i : Nat) (v : Value) (p : Growth) : W.grownBy ((W.setCell ⟨b, i, none⟩ v).growBy p) (some b) := by
  refine ⟨rfl, rfl, rfl, by simp, fun k hk hne => ?_⟩
  rw [World.heap_growBy _ _ (by simpa using hk)]
  exact Below.heap_setCell _ _ _ _ (fun e => hne (by rw [e]))

/-- Next in such a world -/
theorem MW.call {n₀ : Nat} {w W : World} {sv : Value} {len k : Nat} (h : MW n₀ w W sv len k) (hk : k ≤ 1000) (m : Int) (hm1 : 1 ≤ m) (hm2 : m ≤ 4611686018427387904) :
    Calls Try.prog 18 #[.pointer (some ⟨n₀ + 1, 0, none⟩), .int .i64 m] W fun e W' => ∃ v k', e = .returned (.int .i64 v) ∧ 0 ≤ v ∧ v < m ∧ k' ≤ k + 1 ∧ MW n₀ w W' sv len k' ∧ W.grownBy W' (some (n₀ + 1)) := by
  refine (next_any n₀ (n₀ + 1) len k sv m W hm1 hm2 (by omega) h.ints h.bD hk).mono ?_
  rintro e W' ⟨v, k', p, rfl, h0, h1, h2, rfl⟩
  have hlt := h.bR.lt
  have hb : Below n₀ W ((W.setCell ⟨n₀ + 1, 1, none⟩ (.int .i64 (k' : Nat))).growBy p) := Below.of_grown (setCell_grown _ _ _ _ _) (by omega) (fun r e => by cases e; omega)
  refine ⟨v, k', rfl, h0, h1, h2, ⟨h.bR.kept (setCell_grown _ _ _ _ _) (fun e => by cases e), ?_, h.below.trans hb, h.ints.below hb⟩, setCell_grown _ _ _ _ _⟩
  have := (h.bD.set 1 (.int .i64 (k' : Nat))).grow p
  simpa using this

def evCells (e : Ev) : List Value := [.int .i64 e.kind, .int .i64 e.when_, .int .i64 e.id, .int .i64 e.other, .int .i64 e.n]
def flat (l : List Ev) : List Value := l.flatMap evCells
theorem flat_add (l : List Ev) (e : Ev) : flat l ++ evCells e = flat (l ++ [e]) := by simp [flat]
theorem flat_get : ∀ (l : List Ev) (j : Nat) (h : j < l.length), (flat l)[j * 5]? = some (.int .i64 l[j].kind) ∧ (flat l)[j * 5 + 1]? = some (.int .i64 l[j].when_) ∧ (flat l)[j * 5 + 2]? = some (.int .i64 l[j].id) ∧ (flat l)[j * 5 + 3]? = some (.int .i64 l[j].other) ∧ (flat l)[j * 5 + 4]? = some (.int .i64 l[j].n)
  | [], j, h => by simp at h
  | e :: l, 0, h => by simp [flat, evCells]
  | e :: l, j + 1, h => by
    have ih := flat_get l j (by simpa using h)
    have hf : flat (e :: l) = .int .i64 e.kind :: .int .i64 e.when_ :: .int .i64 e.id :: .int .i64 e.other :: .int .i64 e.n :: flat l := by simp [flat, evCells]
    have h5 : (j + 1) * 5 = j * 5 + 1 + 1 + 1 + 1 + 1 := by omega
    rw [hf, h5]
    simpa using ih

theorem evs_of_row {W : World} {base : Nat} {sl : Value} {l : List Ev} (h : W.ownsRow base 35 5 sl l.length (flat l)) (hl : l.length ≤ 4294967296) : Evs W.heap.size W sl l := by
  rcases h.2 with ⟨h1, h2⟩ | ⟨g, cap, cur, h1, h2, h3, h4⟩
  · exact .inl ⟨h1, List.eq_nil_of_length_eq_zero h2⟩
  · subst h1
    refine .inr ⟨g, 0, cap, rfl, (Array.getElem?_eq_some_iff.1 h3).1, hl, fun j hj => ?_⟩
    obtain ⟨a0, a1, a2, a3, a4⟩ := flat_get l j hj
    exact ⟨by rw [Nat.zero_add, h.cellAt _ (by omega), a0], by rw [Nat.zero_add, h.cellAt _ (by omega), a1], by rw [Nat.zero_add, h.cellAt _ (by omega), a2], by rw [Nat.zero_add, h.cellAt _ (by omega), a3], by rw [Nat.zero_add, h.cellAt _ (by omega), a4]⟩

/-- right events: their At rise, from 1 to at most 'top' and 1024 -/
def Right (top : Int) (l : List Ev) : Prop := (∀ e ∈ l, 1 ≤ e.when_ ∧ e.when_ ≤ 1024 ∧ e.when_ ≤ top) ∧ l.Pairwise (fun a b => a.when_ < b.when_)
theorem Right.up {a b : Int} {l : List Ev} (h : Right a l) (hab : a ≤ b) : Right b l := ⟨fun e he => by have := h.1 e he; omega, h.2⟩
theorem Right.add {a : Int} {l : List Ev} (h : Right a l) (e : Ev) (h0 : 1 ≤ e.when_) (h1 : a < e.when_) (h2 : e.when_ ≤ 1024) : Right e.when_ (l ++ [e]) := by
  refine ⟨fun x hx => ?_, ?_⟩
  · rcases List.mem_append.1 hx with h3 | h3
    · have := h.1 x h3; omega
    · obtain rfl := List.mem_singleton.1 h3; omega
  · rw [List.pairwise_append]
    refine ⟨h.2, by simp, fun x hx y hy => ?_⟩
    obtain rfl := List.mem_singleton.1 hy
    have := h.1 x hx
    omega

/-- the worlds of Made's loop -/
structure LW (n₀ : Nat) (w W : World) (sv : Value) (len K B4 : Nat) (d : Int) (sl : Value) (n : Nat) (xs : List Value) : Prop where
  mw : ∃ k, k ≤ K ∧ MW n₀ w W sv len k
  b4 : Blk W B4 #[.int .i64 d, sl] 32
  row : W.ownsRow (B4 + 1) 35 5 sl n xs
  far : n₀ + 1 < B4

theorem LW.kept {n₀ : Nat} {w W W' : World} {sv sl : Value} {len K B4 n : Nat} {d : Int} {xs : List Value} {row : Option Nat} (h : LW n₀ w W sv len K B4 d sl n xs) (hg : W.grownBy W' row) (hr : row = none) : LW n₀ w W' sv len K B4 d sl n xs := by
  subst hr
  obtain ⟨k, hk, hm⟩ := h.mw
  exact ⟨⟨k, hk, hm.kept hg (fun r e => by cases e)⟩, h.b4.kept hg (by simp), h.row.kept hg (by
    cases hb : sl.ownBlock with
    | none => exact .inl rfl
    | some r => exact .inr (by simp)), h.far⟩
theorem LW.alloc {n₀ : Nat} {w W : World} {sv sl : Value} {len K B4 n : Nat} {d : Int} {xs : List Value} (h : LW n₀ w W sv len K B4 d sl n xs) (o : Obj) : LW n₀ w (W.alloc o) sv len K B4 d sl n xs := h.kept (World.grownBy_alloc W o none) rfl
theorem LW.drew {n₀ : Nat} {w W : World} {sv sl : Value} {len K B4 n : Nat} {d : Int} {xs : List Value} (h : LW n₀ w W sv len K B4 d sl n xs) : LW n₀ w W.drew sv len K B4 d sl n xs := h.kept ⟨rfl, rfl, rfl, Nat.le_refl _, fun _ _ _ => rfl⟩ rfl
theorem LW.cell {n₀ : Nat} {w W : World} {sv sl : Value} {len K B4 n : Nat} {d : Int} {xs : List Value} (h : LW n₀ w W sv len K B4 d sl n xs) : W.cell? ⟨B4, 1, none⟩ = some sl := h.b4.cell 1
theorem LW.base {n₀ : Nat} {w W : World} {sv sl : Value} {len K B4 n : Nat} {d : Int} {xs : List Value} (h : LW n₀ w W sv len K B4 d sl n xs) (o : Obj) : B4 + 1 ≤ (W.alloc o).heap.size := by
  have := h.b4.lt
  simp
  omega
theorem LW.call {n₀ : Nat} {w W : World} {sv sl : Value} {len K B4 n : Nat} {d : Int} {xs : List Value} (h : LW n₀ w W sv len K B4 d sl n xs) (hK : K ≤ 1000) (m : Int) (hm1 : 1 ≤ m) (hm2 : m ≤ 4611686018427387904) :
    Calls Try.prog 18 #[.pointer (some ⟨n₀ + 1, 0, none⟩), .int .i64 m] W fun e W' => ∃ v, e = .returned (.int .i64 v) ∧ 0 ≤ v ∧ v < m ∧ LW n₀ w W' sv len (K + 1) B4 d sl n xs ∧ W.grownBy W' (some (n₀ + 1)) := by
  obtain ⟨k, hk, hm⟩ := h.mw
  have hfar := h.far
  refine (hm.call (by omega) m hm1 hm2).mono ?_
  rintro e W' ⟨v, k', rfl, h0, h1, h2, h3, h4⟩
  refine ⟨v, rfl, h0, h1, ⟨⟨k', by omega, h3⟩, h.b4.kept h4 (fun e => by cases e; omega), h.row.kept h4 ?_, hfar⟩, h4⟩
  cases hb : sl.ownBlock with
  | none => exact .inl rfl
  | some r => exact .inr (fun e => by cases e; have := (h.row.lt _ hb).1; omega)
theorem LW.after {n₀ : Nat} {w W w1 : World} {sv sl : Value} {len K B4 n : Nat} {d : Int} {xs : List Value} {o : Obj} (h : LW n₀ w W sv len K B4 d sl n xs) (hg : (W.alloc o).grownBy w1 sl.ownBlock) : Blk w1 B4 #[.int .i64 d, sl] 32 :=
  (h.b4.alloc o).kept hg (fun e => by have := (h.row.lt _ e).1; omega)
theorem LW.appended {n₀ : Nat} {w W w1 : World} {sv sl sl' : Value} {len K B4 n n' : Nat} {d : Int} {xs xs' : List Value} (h : LW n₀ w W sv len K B4 d sl n xs) (hg : W.grownBy w1 sl.ownBlock) (hr : w1.ownsRow (B4 + 1) 35 5 sl' n' xs') :
    LW n₀ w (w1.setCell ⟨B4, 1, none⟩ sl') sv len K B4 d sl' n' xs' := by
  obtain ⟨k, hk, hm⟩ := h.mw
  have hfar := h.far
  have hown : ∀ r, sl.ownBlock = some r → B4 + 1 ≤ r := fun r e => (h.row.lt r e).1
  have hm1 := hm.kept hg (fun r e => by have := hown r e; omega)
  have h4 := h.b4.kept hg (fun e => by have := hown _ e; omega)
  have hs : w1.grownBy (w1.setCell ⟨B4, 1, none⟩ sl') (some B4) := ⟨rfl, rfl, rfl, by simp, fun k _ hne => Below.heap_setCell _ _ _ _ (fun e => hne (by rw [e]))⟩
  exact ⟨⟨k, hk, hm1.kept hs (fun r e => by cases e; omega)⟩, by simpa using h4.set 1 sl', ownsRow_setCell_below hr (by show B4 < B4 + 1; omega) _, hfar⟩
end Go.Proofs.Ytfcmmclialeepaa
