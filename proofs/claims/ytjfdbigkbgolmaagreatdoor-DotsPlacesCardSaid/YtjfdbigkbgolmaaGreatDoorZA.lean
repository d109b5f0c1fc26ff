/-
  Blocks that are laid out by their types: a set S of blocks of the call's own, each cell of which is of the kind that the block's type says; slices into such blocks; what turns such a world into another one. Nothing is said of what the numbers are, so nothing need be known of who else reads or writes a block.
-/
import Derived.Test.YtjfdbigkbgolmaaGreatDoorZl
import Derived.Test.YtjfdbigkbgolmaaGreatDoorZd
import Derived.Test.YtjfdbigkbgolmaaGreatDoorZh
import Derived.Deep.AppendSrc
import Derived.Deep.RegionLaw
import Derived.Deep.AppendLies
namespace Go.Proofs.YtjfdbigkbgolmaaGreatDoor
set_option linter.unusedVariables false
set_option linter.unusedSimpArgs false
open Go.RowKit Go.Shelf

/-- the kinds of cells: ints, short strings, bools, short slices of e, any strings -/
structure CT where
  k : Nat
  e : TypeId
abbrev CT.int : CT := ⟨0, 0⟩
abbrev CT.str : CT := ⟨1, 0⟩
abbrev CT.bool : CT := ⟨2, 0⟩
abbrev CT.sl (e : TypeId) : CT := ⟨3, e⟩
abbrev CT.any : CT := ⟨4, 0⟩

def cellsT (t : TypeId) : List CT :=
  if t = 3 then [.int]
  else if t = 25 then [.int, .int]
  else if t = 175 then [.int, .int, .int]
  else if t = 156 then [.int, .sl 25, .int, .int]
  else if t = 179 then [.int, .sl 175, .int, .int]
  else if t = 73 then [.int, .str, .str, .int, .int]
  else if t = 62 then [.int, .sl 25, .int, .str, .str, .bool, .int, .int]
  else if t = 27 then [.int, .int, .int, .str, .any, .int, .int]
  else []
abbrev sizeT (t : TypeId) : Nat := (cellsT t).length

/-- a set of blocks -/
abbrev BS := Nat → Prop

/-- v is a slice of n elements of type e, in a block of S -/
def SL (S : BS) (W : World) (e : TypeId) (v : Value) (n : Nat) : Prop :=
  ∃ a cap, v = .slice a n cap ∧ n ≤ cap ∧ ((a = none ∧ cap = 0) ∨ ∃ b o c, a = some ⟨b, o * sizeT e, none⟩ ∧ S b ∧ Blk W b c e ∧ (o + cap) * sizeT e ≤ c.size)

structure CT.ok (S : BS) (W : World) (ct : CT) (v : Value) : Prop where
  lt : ct.k < 5
  i : ct.k = 0 → ∃ x, v = .int .i64 x ∧ fits x
  s : ct.k = 1 → ∃ s : ByteArray, v = .string s ∧ s.size ≤ 30
  b : ct.k = 2 → ∃ b, v = .bool b
  l : ct.k = 3 → ∃ n, n ≤ 100 ∧ SL S W ct.e v n
  a : ct.k = 4 → ∃ s : ByteArray, v = .string s
theorem CT.ok_int {S : BS} {W : World} {x : Int} (h : fits x) : CT.int.ok S W (.int .i64 x) := ⟨by decide, fun _ => ⟨x, rfl, h⟩, fun e => absurd e (by decide), fun e => absurd e (by decide), fun e => absurd e (by decide), fun e => absurd e (by decide)⟩
theorem CT.ok_str {S : BS} {W : World} {s : ByteArray} (h : s.size ≤ 30) : CT.str.ok S W (.string s) := ⟨by decide, fun e => absurd e (by decide), fun _ => ⟨s, rfl, h⟩, fun e => absurd e (by decide), fun e => absurd e (by decide), fun e => absurd e (by decide)⟩
theorem CT.ok_bool {S : BS} {W : World} (b : Bool) : CT.bool.ok S W (.bool b) := ⟨by decide, fun e => absurd e (by decide), fun e => absurd e (by decide), fun _ => ⟨b, rfl⟩, fun e => absurd e (by decide), fun e => absurd e (by decide)⟩
theorem CT.ok_sl {S : BS} {W : World} {e : TypeId} {v : Value} {n : Nat} (h : SL S W e v n) (hn : n ≤ 100) : (CT.sl e).ok S W v := ⟨by show 3 < 5; decide, fun e => absurd e (by show ¬ 3 = 0; decide), fun e => absurd e (by show ¬ 3 = 1; decide), fun e => absurd e (by show ¬ 3 = 2; decide), fun _ => ⟨n, hn, h⟩, fun e => absurd e (by show ¬ 3 = 4; decide)⟩
theorem CT.ok_any {S : BS} {W : World} (s : ByteArray) : CT.any.ok S W (.string s) := ⟨by decide, fun e => absurd e (by decide), fun e => absurd e (by decide), fun e => absurd e (by decide), fun e => absurd e (by decide), fun _ => ⟨s, rfl⟩⟩

def TB (S : BS) (W : World) (e : TypeId) (c : Array Value) : Prop := ∀ (i : Nat) (u : Value) (ct : CT), c[i]? = some u → (cellsT e)[i % sizeT e]? = some ct → ct.ok S W u
/-- the blocks of S are as their types say -/
def TW (S : BS) (W : World) : Prop := ∀ b, S b → ∃ c e, Blk W b c e ∧ TB S W e c

def Shp (S : BS) (W W' : World) : Prop := ∀ b c e, S b → Blk W b c e → ∃ c', Blk W' b c' e ∧ c'.size = c.size
theorem Shp.refl (S : BS) (W : World) : Shp S W W := fun _ c _ _ h => ⟨c, h, rfl⟩
theorem Shp.trans {S S1 : BS} {W W1 W2 : World} (h1 : Shp S W W1) (h2 : Shp S1 W1 W2) (hs : ∀ b, S b → S1 b) : Shp S W W2 := fun b c e hb hc => by
  obtain ⟨c1, k1, s1⟩ := h1 b c e hb hc
  obtain ⟨c2, k2, s2⟩ := h2 b c1 e (hs b hb) k1
  exact ⟨c2, k2, s2.trans s1⟩
theorem SL.mono {S S' : BS} {W W' : World} {e : TypeId} {v : Value} {n : Nat} (h : SL S W e v n) (hs : ∀ b, S b → S' b) (hsh : Shp S W W') : SL S' W' e v n := by
  obtain ⟨a, cap, rfl, hn, h | ⟨b, o, c, rfl, hb, hc, hl⟩⟩ := h
  · exact ⟨a, cap, rfl, hn, .inl h⟩
  · obtain ⟨c', hc', hz⟩ := hsh b c e hb hc
    exact ⟨_, cap, rfl, hn, .inr ⟨b, o, c', rfl, hs b hb, hc', by omega⟩⟩
theorem CT.ok.mono {S S' : BS} {W W' : World} {ct : CT} {v : Value} (h : ct.ok S W v) (hs : ∀ b, S b → S' b) (hsh : Shp S W W') : ct.ok S' W' v :=
  ⟨h.lt, h.i, h.s, h.b, fun e => by obtain ⟨n, hn, h⟩ := h.l e; exact ⟨n, hn, h.mono hs hsh⟩, h.a⟩
theorem TB.mono {S S' : BS} {W W' : World} {e : TypeId} {c : Array Value} (h : TB S W e c) (hs : ∀ b, S b → S' b) (hsh : Shp S W W') : TB S' W' e c := fun i u ct h1 h2 => (h i u ct h1 h2).mono hs hsh

/-- one such world turns into another one; the blocks of X may turn too -/
structure Ev (X : BS) (S : BS) (W : World) (S' : BS) (W' : World) : Prop where
  sub : ∀ b, S b → S' b
  new : ∀ b, S' b → S b ∨ W.heap.size ≤ b
  os : W'.os = W.os
  tape : W'.tape = W.tape
  output : W'.output = W.output
  size : W.heap.size ≤ W'.heap.size
  rest : ∀ b, b < W.heap.size → ¬ S b → ¬ X b → W'.heap[b]? = W.heap[b]?
  shape : Shp S W W'
  ok : TW S' W'

theorem TW.lt {S : BS} {W : World} (h : TW S W) {b : Nat} (hb : S b) : b < W.heap.size := by
  obtain ⟨c, e, hc, -⟩ := h b hb
  exact hc.lt
theorem Ev.refl {X S : BS} {W : World} (h : TW S W) : Ev X S W S W := ⟨fun _ h => h, fun _ h => .inl h, rfl, rfl, rfl, Nat.le_refl _, fun _ _ _ _ => rfl, Shp.refl _ _, h⟩
theorem Ev.trans {X S S1 S2 : BS} {W W1 W2 : World} (h1 : Ev X S W S1 W1) (h2 : Ev X S1 W1 S2 W2) : Ev X S W S2 W2 :=
  ⟨fun b h => h2.sub b (h1.sub b h), fun b h => by
    rcases h2.new b h with h | h
    · exact h1.new b h
    · exact .inr (Nat.le_trans h1.size h), h2.os.trans h1.os, h2.tape.trans h1.tape, h2.output.trans h1.output, Nat.le_trans h1.size h2.size, fun b hb hn hx => by
    have hn1 : ¬ S1 b := fun h => by
      rcases h1.new b h with h | h
      · exact hn h
      · omega
    exact (h2.rest b (Nat.lt_of_lt_of_le hb h1.size) hn1 hx).trans (h1.rest b hb hn hx), h1.shape.trans h2.shape h1.sub, h2.ok⟩
theorem Ev.below {X S S' : BS} {W W' : World} (h : Ev X S W S' W') {n : Nat} (hS : ∀ b, S b → n ≤ b) (hX : ∀ b, X b → n ≤ b) (hn : n ≤ W.heap.size) : Below n W W' :=
  ⟨h.os, h.tape, h.output, h.size, fun b hb => h.rest b (by omega) (fun hs => by have := hS b hs; omega) (fun hs => by have := hX b hs; omega)⟩
theorem Ev.sl {X S S' : BS} {W W' : World} (h : Ev X S W S' W') {e : TypeId} {v : Value} {n : Nat} (hs : SL S W e v n) : SL S' W' e v n := hs.mono h.sub h.shape
theorem Ev.ct {X S S' : BS} {W W' : World} (h : Ev X S W S' W') {ct : CT} {v : Value} (hs : ct.ok S W v) : ct.ok S' W' v := hs.mono h.sub h.shape
theorem Ev.blk {X S S' : BS} {W W' : World} (h : Ev X S W S' W') {b : Nat} {c : Array Value} {t : TypeId} (hb : Blk W b c t) (hn : ¬ S b) (hx : ¬ X b) : Blk W' b c t := (h.rest b hb.lt hn hx).trans hb
theorem Ev.not {X S S' : BS} {W W' : World} (h : Ev X S W S' W') {b : Nat} (hb : b < W.heap.size) (hn : ¬ S b) : ¬ S' b := fun hs => by
  rcases h.new b hs with h | h
  · exact hn h
  · omega
/-- no block of S turns -/
theorem Ev.of_grown {X S : BS} {W W' : World} {row : Option Nat} (hT : TW S W) (hg : W.grownBy W' row) (hr : ∀ r, row = some r → ¬ S r ∧ X r) : Ev X S W S W' := by
  have hsame : ∀ b, S b → W'.heap[b]? = W.heap[b]? := fun b hb => hg.block b (hT.lt hb) (fun e => (hr b e.symm).1 hb)
  have hsh : Shp S W W' := fun b c e hb hc => ⟨c, (hsame b hb).trans hc, rfl⟩
  refine ⟨fun _ h => h, fun _ h => .inl h, hg.os, hg.tape, hg.output, hg.size, fun b hb _ hx => hg.block b hb (fun e => hx (hr b e.symm).2), hsh, fun b hb => ?_⟩
  obtain ⟨c, e, hc, ht⟩ := hT b hb
  exact ⟨c, e, (hsame b hb).trans hc, ht.mono (fun _ h => h) hsh⟩
theorem Ev.of_below {X S : BS} {W W' : World} (hT : TW S W) (h : Below W.heap.size W W') : Ev X S W S W' := Ev.of_grown hT (grownBy_of_below h) (fun r e => by cases e)
theorem Ev.drew {X S : BS} {W : World} (hT : TW S W) : Ev X S W S W.drew := Ev.of_grown hT (drew_grown7 W) (fun r e => by cases e)
/-- TW looks at S's blocks alone -/
theorem TW.of_same {S : BS} {W W' : World} (hT : TW S W) (h : ∀ b, S b → W'.heap[b]? = W.heap[b]?) : TW S W' := by
  have hsh : Shp S W W' := fun b c e hb hc => ⟨c, (h b hb).trans hc, rfl⟩
  intro b hb
  obtain ⟨c, e, hc, ht⟩ := hT b hb
  exact ⟨c, e, (h b hb).trans hc, ht.mono (fun _ h => h) hsh⟩
theorem TW.none (W : World) : TW (fun _ => False) W := fun _ h => h.elim

/-- a block of S more -/
theorem Ev.alloc {X S : BS} {W : World} (hT : TW S W) {c : Array Value} {e : TypeId} (hc : TB S W e c) : Ev X S W (fun b => S b ∨ b = W.heap.size) (W.alloc (.cells c e)) := by
  have hsh : Shp S W (W.alloc (.cells c e)) := fun b c' e' hb hc' => ⟨c', hc'.alloc _, rfl⟩
  refine ⟨fun _ h => .inl h, fun b h => by rcases h with h | rfl; exact .inl h; exact .inr (Nat.le_refl _), rfl, rfl, rfl, by simp, fun b hb _ _ => (World.grownBy_alloc W _ none).block b hb (by simp), hsh, fun b hb => ?_⟩
  rcases hb with hb | rfl
  · obtain ⟨c', e', hc', ht⟩ := hT b hb
    exact ⟨c', e', hc'.alloc _, ht.mono (fun _ h => .inl h) hsh⟩
  · exact ⟨c, e, Blk.new W c e, hc.mono (fun _ h => .inl h) hsh⟩
/-- a cell of S's turns -/
theorem Ev.set {X S : BS} {W : World} (hT : TW S W) {b : Nat} {c : Array Value} {e : TypeId} (hb : S b) (hc : Blk W b c e) (i : Nat) (v : Value) (hv : ∀ ct, (cellsT e)[i % sizeT e]? = some ct → ct.ok S W v) : Ev X S W S (W.setCell ⟨b, i, none⟩ v) := by
  have hsh : Shp S W (W.setCell ⟨b, i, none⟩ v) := fun b' c' e' hb' hc' => by
    by_cases h : b' = b
    · subst h
      obtain ⟨rfl, rfl⟩ : c' = c ∧ e' = e := by
        unfold Blk at hc hc'
        rw [hc] at hc'
        cases hc'
        exact ⟨rfl, rfl⟩
      exact ⟨_, hc'.set i v, by simp⟩
    · exact ⟨c', hc'.other h i v, rfl⟩
  refine ⟨fun _ h => h, fun _ h => .inl h, rfl, rfl, rfl, by simp, fun b' _ hn _ => Below.heap_setCell _ _ _ _ (fun e => hn (by simp at e; exact e ▸ hb)), hsh, fun b' hb' => ?_⟩
  by_cases h : b' = b
  · subst h
    obtain ⟨c0, e0, hc0, ht⟩ := hT b' hb'
    obtain ⟨rfl, rfl⟩ : c0 = c ∧ e0 = e := by
      unfold Blk at hc hc0
      rw [hc] at hc0
      cases hc0
      exact ⟨rfl, rfl⟩
    refine ⟨_, e0, hc0.set i v, fun j u ct h1 h2 => ?_⟩
    rw [Array.getElem?_setIfInBounds] at h1
    split at h1
    · rename_i hij
      subst hij
      split at h1
      · cases h1
        exact (hv ct h2).mono (fun _ h => h) hsh
      · cases h1
    · exact (ht j u ct h1 h2).mono (fun _ h => h) hsh
  · obtain ⟨c0, e0, hc0, ht⟩ := hT b' hb'
    exact ⟨c0, e0, hc0.other h i v, ht.mono (fun _ h => h) hsh⟩
theorem Ev.setCells {X S : BS} {b : Nat} {e : TypeId} (hb : S b) : ∀ (vs : List Value) (o : Nat) (W : World) (c : Array Value), TW S W → Blk W b c e → (∀ j u ct, vs[j]? = some u → (cellsT e)[(o + j) % sizeT e]? = some ct → ct.ok S W u) → Ev X S W S (W.setCells b o vs)
  | [], o, W, c, hT, hc, hv => Ev.refl hT
  | v :: r, o, W, c, hT, hc, hv => by
    have h1 := Ev.set (X := X) hT hb hc o v (fun ct h => hv 0 v ct rfl (by simpa using h))
    exact h1.trans (Ev.setCells hb r (o + 1) _ _ h1.ok (hc.set o v) (fun j u ct h2 h3 => h1.ct (hv (j + 1) u ct (by simpa using h2) (by rw [show o + (j + 1) = o + 1 + j from by omega]; exact h3))))

/-- a type of elements -/
structure ET (e : TypeId) (s : Nat) : Prop where
  size : sizeT e = s
  pos : 0 < s
  info : ∃ i z, Tryz.prog.info? e = some i ∧ i.zero = some z ∧ i.size = s ∧ i.bytes ≤ 1000 ∧ z.cells.size = s ∧ ∀ S W (j : Nat) u ct, z.cells[j]? = some u → (cellsT e)[j]? = some ct → CT.ok S W ct u

theorem CT.ok.one {S : BS} {W : World} {ct : CT} {u : Value} (h : ct.ok S W u) : u.oneCell' = true := by
  have hk := h.lt
  rcases (show ct.k = 0 ∨ ct.k = 1 ∨ ct.k = 2 ∨ ct.k = 3 ∨ ct.k = 4 from by omega) with e | e | e | e | e
  · obtain ⟨x, rfl, -⟩ := h.i e; rfl
  · obtain ⟨x, rfl, -⟩ := h.s e; rfl
  · obtain ⟨x, rfl⟩ := h.b e; rfl
  · obtain ⟨n, -, a, cap, rfl, -⟩ := h.l e; rfl
  · obtain ⟨x, rfl⟩ := h.a e; rfl

/-- the cells of a slice -/
theorem SL.cells {S : BS} {W : World} {e : TypeId} {v : Value} {n s : Nat} (hT : TW S W) (he : ET e s) (h : SL S W e v n) : ∃ (a : Option Addr) (cap : Nat) (news : List Value), v = .slice a n cap ∧ n ≤ cap ∧ news.length = n * s ∧ (∀ j u, news[j]? = some u → ∃ ad, a = some ad ∧ W.cell? (ad.add j) = some u) ∧ (∀ j u ct, news[j]? = some u → (cellsT e)[j % s]? = some ct → ct.ok S W u) ∧ (∀ u ∈ news, u.oneCell' = true) ∧ (a = none → n = 0) := by
  have hs := he.size
  have hp := he.pos
  obtain ⟨a, cap, rfl, hn, ⟨rfl, rfl⟩ | ⟨b, o, c, rfl, hb, hc, hl⟩⟩ := h
  · obtain rfl : n = 0 := by omega
    exact ⟨none, 0, [], rfl, Nat.le_refl _, by simp, by simp, by simp, by simp, fun _ => rfl⟩
  · rw [hs] at hl ⊢
    obtain ⟨c0, e0, hc0, ht⟩ := hT b hb
    obtain ⟨rfl, rfl⟩ : c0 = c ∧ e0 = e := by
      unfold Blk at hc hc0
      rw [hc] at hc0
      cases hc0
      exact ⟨rfl, rfl⟩
    have hle : (o + n) * s ≤ c0.size := Nat.le_trans (Nat.mul_le_mul_right s (by omega)) hl
    rw [Nat.add_mul] at hle
    have hget : ∀ j u, ((c0.toList.drop (o * s)).take (n * s))[j]? = some u → c0[o * s + j]? = some u := fun j u h => by
      rw [List.getElem?_take] at h
      split at h
      · rw [List.getElem?_drop] at h
        simpa using h
      · cases h
    have hty : ∀ j u ct, ((c0.toList.drop (o * s)).take (n * s))[j]? = some u → (cellsT e0)[j % s]? = some ct → ct.ok S W u := fun j u ct h1 h2 =>
      ht (o * s + j) u ct (hget j u h1) (by rw [hs, Nat.mul_comm, Nat.mul_add_mod]; exact h2)
    refine ⟨_, cap, (c0.toList.drop (o * s)).take (n * s), rfl, hn, by simp; omega, fun j u hj => ⟨_, rfl, ?_⟩, hty, fun u hu => ?_, fun h => by cases h⟩
    · rw [Go.WideShapes.add_plain]
      exact (hc.cell _).trans (hget j u hj)
    · obtain ⟨j, hj, rfl⟩ := List.getElem_of_mem hu
      have hm : j % s < (cellsT e0).length := by rw [show (cellsT e0).length = s from hs]; exact Nat.mod_lt _ hp
      exact (hty j _ _ (List.getElem?_eq_getElem hj) (List.getElem?_eq_getElem hm)).one

/-- append -/
theorem append_tw {X S : BS} {W : World} (hT : TW S W) {t e ty : TypeId} {s : Nat} (ht : Tryz.prog.underlying t = some (.slice e)) (he : ET e s) {sv xv : Value} {n m : Nat} (hv : SL S W e sv n) (hx : SL S W e xv m) (hl : n + m ≤ 1000000) :
    ∃ v' S' W', (Builtin.append_ #[t, t] ty #[sv, xv]).run Tryz.prog W = .ok v' W' ∧ SL S' W' e v' (n + m) ∧ Ev X S W S' W' := by
  obtain ⟨i, z, hi, hz, hsz, hby, hzs, hzt⟩ := he.info
  have hp := he.pos
  have hss := he.size
  obtain ⟨xa, xc, news, rfl, hxn, hnl, hnc, hnt, hn1, hx0⟩ := hx.cells hT he
  have hsrc : Src Tryz.prog i.size t (.slice xa m xc) m news W := by
    cases xa with
    | none =>
      obtain rfl := hx0 rfl
      obtain rfl : news = [] := List.eq_nil_of_length_eq_zero (by simpa using hnl)
      exact Src.ofNil W ht xc
    | some ad => exact Src.ofSlice W ht ad m xc news (by rw [hsz]; exact hnl) (fun j u hj => by obtain ⟨ad', h, hc⟩ := hnc j u hj; cases h; exact hc) hn1
  have hv' := hv
  obtain ⟨a, cap, olds, rfl, hnc', hol, hoc, hot, ho1, ha0⟩ := hv.cells hT he
  by_cases hroom : n + m ≤ cap
  · obtain ⟨a2, cap2, h2, -, h3⟩ := hv'
    cases h2
    rcases h3 with ⟨rfl, rfl⟩ | ⟨b, o, c, rfl, hb, hc, hcl⟩
    · obtain rfl : n = 0 := by omega
      obtain rfl : m = 0 := by omega
      refine ⟨.slice none 0 0, S, W, ?_, ⟨none, 0, rfl, Nat.le_refl _, .inl ⟨rfl, rfl⟩⟩, Ev.refl hT⟩
      simp [Builtin.append_, run_underlying ht, sizeOf, typeInfo, hi, hsrc.len, hsrc.cells]
    · rw [hss] at hcl ⊢
      have hmul : (n + m) * s ≤ cap * s := Nat.mul_le_mul_right s hroom
      rw [Nat.add_mul] at hmul hcl
      have hcell : ∀ j, j < news.length → (W.cell? ⟨b, o * s + n * i.size + j, none⟩).isSome = true := fun j hj => by
        rw [hc.cell, hsz, Array.getElem?_eq_getElem (by omega)]
        rfl
      have hr := run_append_room_src (P := Tryz.prog) W t t ty e i ht hi b (o * s) n cap (.slice xa m xc) m news hsrc hroom hcell (fun j hj => hc.frozen _)
      refine ⟨_, S, _, hr, ?_, ?_⟩
      · have hE := Ev.setCells (X := X) hb news (o * s + n * i.size) W c hT hc (fun j u ct h1 h2 => hnt j u ct h1 (by
          rw [hss, hsz, ← Nat.add_mul, Nat.mul_comm, Nat.mul_add_mod] at h2
          exact h2))
        exact hE.sl ⟨_, cap, rfl, hroom, .inr ⟨b, o, c, by rw [hss], hb, hc, by rw [hss, Nat.add_mul]; omega⟩⟩
      · exact Ev.setCells hb news (o * s + n * i.size) W c hT hc (fun j u ct h1 h2 => hnt j u ct h1 (by
          rw [hss, hsz, ← Nat.add_mul, Nat.mul_comm, Nat.mul_add_mod] at h2
          exact h2))
  · have hold : (Builtin.firstCells i.size n (.slice a n cap)).run Tryz.prog W.drew = .ok olds.toArray W.drew := by
      cases a with
      | none =>
        obtain rfl := ha0 rfl
        obtain rfl : olds = [] := List.eq_nil_of_length_eq_zero (by simpa using hol)
        exact run_firstCells_none W.drew _ _ _ _
      | some ad => exact run_firstCells_some W.drew i.size n ad n cap olds (by rw [hsz]; exact hol) (fun j u hj => by obtain ⟨ad', h, hc⟩ := hoc j u hj; cases h; simpa using hc)
    have hge := grownCap_ge W (n + m) cap e
    have hcap : Builtin.nextslicecap (n + m) cap * i.bytes ≤ 281474976710656 := growslice_fits (by omega) (Nat.le_trans (Nat.mul_le_mul hl hby) (by decide))
    have hr := run_append_grow_src (P := Tryz.prog) W t t ty e i z ht hi hz a n cap olds hold (.slice xa m xc) m news hsrc (by omega) (by omega) hcap
    have hTd := (Ev.drew (X := X) hT).ok
    have hdr := Ev.drew (X := X) hT
    have hB : TB S W.drew e ((olds ++ news).toArray ++ Builtin.zeroCells z.cells (grownCap W (n + m) cap e - (n + m))) := by
      intro j u ct h1 h2
      rw [hss] at h2
      rw [Array.getElem?_append] at h1
      split at h1
      · rw [List.getElem?_toArray, List.getElem?_append] at h1
        split at h1
        · exact hdr.ct (hot j u ct h1 h2)
        · rename_i h3 h4
          refine hdr.ct (hnt _ u ct h1 ?_)
          rw [hol] at h4 ⊢
          have : (j - n * s) % s = j % s := by
            conv => rhs; rw [show j = (j - n * s) + s * n from by rw [Nat.mul_comm s n]; omega]
            rw [Nat.add_mul_mod_self_left]
          rw [this]
          exact h2
      · rename_i h3
        simp only [List.size_toArray, List.length_append, hol, hnl, ← Nat.add_mul] at h1 h3
        unfold Builtin.zeroCells at h1
        rw [Array.getElem?_map] at h1
        obtain ⟨k, hk, rfl⟩ := Option.map_eq_some_iff.1 h1
        obtain ⟨hk1, hk2⟩ := Array.getElem?_eq_some_iff.1 hk
        simp only [Array.getElem_range] at hk2
        have hm : (j - (n + m) * s) % s = j % s := by
          conv => rhs; rw [show j = (j - (n + m) * s) + s * (n + m) from by rw [Nat.mul_comm s]; omega]
          rw [Nat.add_mul_mod_self_left]
        rw [← hk2, hzs, hm]
        have hlt : j % s < z.cells.size := by rw [hzs]; exact Nat.mod_lt _ hp
        refine hzt S _ (j % s) _ ct ?_ h2
        rw [getElem!_pos z.cells (j % s) hlt, Array.getElem?_eq_getElem hlt]
    have hA := Ev.alloc (X := X) hTd hB
    refine ⟨_, _, _, hr, ?_, hdr.trans hA⟩
    refine ⟨_, _, rfl, hge, .inr ⟨W.heap.size, 0, _, by rw [Nat.zero_mul], .inr rfl, Blk.new W.drew _ _, ?_⟩⟩
    rw [hss, Nat.zero_add]
    simp only [Array.size_append, List.size_toArray, List.length_append, hol, hnl, size_zeroCells, hzs, ← Nat.add_mul]
    exact Nat.mul_le_mul_right s (by omega)

/-- an append, as an operation -/
theorem wp_append_tw {X S : BS} {w : World} (hT : TW S w) {o : Oper} {a : Act} {K : Act → World → Prop} {Q : Exit → Act → World → Prop} (sO xO : Operand) (t : TypeId) (ho : o.op = .call { callee := .builtin .append, args := #[sO, xO], argTypes := #[t, t] })
    {e : TypeId} {s : Nat} (ht : Tryz.prog.underlying t = some (.slice e)) (he : ET e s) {sv xv : Value} {n m : Nat} (hsv : a.eval sO = sv) (hv : SL S w e sv n) (hxv : a.eval xO = xv) (hx : SL S w e xv m) (hl : n + m ≤ 1000000)
    (h : ∀ v' S' w', SL S' w' e v' (n + m) → Ev X S w S' w' → K (a.put o.dst v') w') : Oper.wp Tryz.prog o a w K Q := by
  obtain ⟨v', S', w', hr, h2, h3⟩ := append_tw (X := X) hT (ty := o.type) ht he hv hx hl
  unfold Oper.wp execOp
  simp only [ho, resolve, invoke, builtin, Sem.run_bind, Sem.run_pure, Result.andThen_ok, List.map_toArray, List.map_cons, List.map_nil, hsv, hxv, hr]
  exact h v' S' w' h2 h3
theorem wpList_append_tw {X S : BS} {w : World} (hT : TW S w) {ops : Array Oper} {rest : List Oper} {o : Oper} {a : Act} {Q : Exit → Act → World → Prop} (hgd : o.guard = none) (sO xO : Operand) (t : TypeId) (ho : o.op = .call { callee := .builtin .append, args := #[sO, xO], argTypes := #[t, t] })
    {e : TypeId} {s : Nat} (ht : Tryz.prog.underlying t = some (.slice e)) (he : ET e s) {sv xv : Value} {n m : Nat} (hsv : a.eval sO = sv) (hv : SL S w e sv n) (hxv : a.eval xO = xv) (hx : SL S w e xv m) (hl : n + m ≤ 1000000)
    (h : ∀ v' S' w', SL S' w' e v' (n + m) → Ev X S w S' w' → wpList Tryz.prog ops Q rest (a.put o.dst v') w') : wpList Tryz.prog ops Q (o :: rest) a w :=
  wpList_plain hgd fun _ hK => wp_append_tw hT sO xO t ho ht he hsv hv hxv hx hl fun v' S' w' h2 h3 => hK _ _ (h v' S' w' h2 h3)
end Go.Proofs.YtjfdbigkbgolmaaGreatDoor
