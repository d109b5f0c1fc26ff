/-
  Blocks laid out by their types: the types of the references' maps; reading; the numbers' box.
-/
import Derived.Test.YtjfdbigkbgolmaaGreatDoorZA
import Derived.Test.YtjfdbigkbgolmaaGreatDoorZB

namespace Go.Proofs.YtjfdbigkbgolmaaGreatDoor
set_option linter.unusedVariables false
set_option linter.unusedSimpArgs false
open Go.RowKit Go.Shelf
attribute [local go_sem] Oper.semAt_some

/-- a zero cell -/
def zOk (ct : CT) (u : Value) : Bool :=
  match u with
  | .int .i64 n => ct.k == 0 && n == 0
  | .string s => (ct.k == 1 || ct.k == 4) && s.size == 0
  | .bool _ => ct.k == 2
  | .slice none 0 0 => ct.k == 3
  | _ => false
theorem zOk_ok {ct : CT} {u : Value} (h : zOk ct u = true) (S : BS) (W : World) : ct.ok S W u := by
  obtain ⟨k, e⟩ := ct
  unfold zOk at h
  split at h
  · simp only [Bool.and_eq_true, beq_iff_eq] at h
    obtain ⟨rfl, rfl⟩ := h
    exact ⟨by simp, fun _ => ⟨0, rfl, ⟨by decide, by decide⟩⟩, fun e => by simp at e, fun e => by simp at e, fun e => by simp at e, fun e => by simp at e⟩
  · rename_i s
    simp only [Bool.and_eq_true, Bool.or_eq_true, beq_iff_eq] at h
    obtain ⟨rfl | rfl, h⟩ := h
    · exact ⟨by simp, fun e => by simp at e, fun _ => ⟨s, rfl, by omega⟩, fun e => by simp at e, fun e => by simp at e, fun e => by simp at e⟩
    · exact ⟨by simp, fun e => by simp at e, fun e => by simp at e, fun e => by simp at e, fun e => by simp at e, fun _ => ⟨s, rfl⟩⟩
  · rename_i b
    simp only [beq_iff_eq] at h
    subst h
    exact ⟨by simp, fun e => by simp at e, fun e => by simp at e, fun _ => ⟨b, rfl⟩, fun e => by simp at e, fun e => by simp at e⟩
  · simp only [beq_iff_eq] at h
    subst h
    exact ⟨by simp, fun e => by simp at e, fun e => by simp at e, fun e => by simp at e, fun _ => ⟨0, by omega, none, 0, rfl, Nat.le_refl _, .inl ⟨rfl, rfl⟩⟩, fun e => by simp at e⟩
  · cases h
def zAll (e : TypeId) (z : Value) : Bool := (List.range (sizeT e)).all fun j => match z.cells[j]?, (cellsT e)[j]? with | some u, some ct => zOk ct u | _, _ => false
theorem zAll_ok {e : TypeId} {z : Value} (h : zAll e z = true) (S : BS) (W : World) (j : Nat) (u : Value) (ct : CT) (h1 : z.cells[j]? = some u) (h2 : (cellsT e)[j]? = some ct) : ct.ok S W u := by
  have hj : j < sizeT e := (List.getElem?_eq_some_iff.1 h2).1
  have h3 := List.all_eq_true.1 h j (List.mem_range.2 hj)
  rw [h1, h2] at h3
  exact zOk_ok h3 S W
theorem et_of {e : TypeId} {s bytes : Nat} {z : Value} (h : (Tryz.prog.info? e).map (fun i => (i.zero, i.size, i.bytes)) = some (some z, s, bytes)) (h1 : sizeT e = s) (h2 : 0 < s) (h3 : bytes ≤ 1000) (h4 : z.cells.size = s) (h5 : zAll e z = true) : ET e s := by
  obtain ⟨i, hi, hz, hs, hb⟩ := info_parts h
  exact ⟨h1, h2, i, z, hi, hz, hs, by omega, h4, zAll_ok h5⟩
abbrev edZ : Array Value := #[.int .i64 0, .slice none 0 0, .int .i64 0, .int .i64 0]
abbrev faZ : Array Value := #[.int .i64 0, .string ⟨#[]⟩, .string ⟨#[]⟩, .int .i64 0, .int .i64 0]
abbrev wyZ7 : Array Value := #[.int .i64 0, .slice none 0 0, .int .i64 0, .string ⟨#[]⟩, .string ⟨#[]⟩, .bool false, .int .i64 0, .int .i64 0]
abbrev plZ : Array Value := #[.int .i64 0, .int .i64 0, .int .i64 0, .string ⟨#[]⟩, .string ⟨#[]⟩, .int .i64 0, .int .i64 0]
theorem et_int : ET 3 1 := et_of (z := .int .i64 0) (bytes := 8) (by kernel_rfl) rfl (by omega) (by omega) rfl (by kernel_rfl)
theorem et_point : ET 25 2 := et_of (z := .agg #[.int .i64 0, .int .i64 0]) (bytes := 16) (by kernel_rfl) rfl (by omega) (by omega) rfl (by kernel_rfl)
theorem et_spot : ET 175 3 := et_of (z := .agg #[.int .i64 0, .int .i64 0, .int .i64 0]) (bytes := 24) (by kernel_rfl) rfl (by omega) (by omega) rfl (by kernel_rfl)
theorem et_edge : ET 156 4 := et_of (z := .agg edZ) (bytes := 48) (by kernel_rfl) rfl (by omega) (by omega) rfl (by kernel_rfl)
theorem et_trace : ET 179 4 := et_of (z := .agg edZ) (bytes := 48) (by kernel_rfl) rfl (by omega) (by omega) rfl (by kernel_rfl)
theorem et_face : ET 73 5 := et_of (z := .agg faZ) (bytes := 56) (by kernel_rfl) rfl (by omega) (by omega) rfl (by kernel_rfl)
theorem et_way : ET 62 8 := et_of (z := .agg wyZ7) (bytes := 96) (by kernel_rfl) rfl (by omega) (by omega) rfl (by kernel_rfl)
theorem et_place : ET 27 7 := et_of (z := .agg plZ) (bytes := 72) (by kernel_rfl) rfl (by omega) (by omega) rfl (by kernel_rfl)

theorem SL.nil (S : BS) (W : World) (e : TypeId) : SL S W e (.slice none 0 0) 0 := ⟨none, 0, rfl, Nat.le_refl _, .inl ⟨rfl, rfl⟩⟩
/-- a whole block of the call's own -/
theorem SL.blk {S : BS} {W : World} {e : TypeId} {b n : Nat} {c : Array Value} (hb : S b) (hc : Blk W b c e) (hn : n * sizeT e ≤ c.size) : SL S W e (.slice (some ⟨b, 0, none⟩) n n) n :=
  ⟨_, n, rfl, Nat.le_refl _, .inr ⟨b, 0, c, by rw [Nat.zero_mul], hb, hc, by rw [Nat.zero_add]; exact hn⟩⟩
theorem SL.some_ {S : BS} {W : World} {e : TypeId} {v : Value} {n : Nat} (h : SL S W e v n) (hn : 0 < n) : ∃ b off cap, v = .slice (some ⟨b, off, none⟩) n cap ∧ n ≤ cap ∧ S b := by
  obtain ⟨a, cap, rfl, h1, ⟨rfl, rfl⟩ | ⟨b, o, c, rfl, hb, -, -⟩⟩ := h
  · omega
  · exact ⟨b, _, cap, rfl, h1, hb⟩
theorem SL.form {S : BS} {W : World} {e : TypeId} {v : Value} {n : Nat} (h : SL S W e v n) : ∃ a cap, v = .slice a n cap ∧ n ≤ cap := by
  obtain ⟨a, cap, rfl, h1, -⟩ := h
  exact ⟨a, cap, rfl, h1⟩
/-- a cell of an element -/
theorem SL.cell {S : BS} {W : World} {e : TypeId} {b off n cap s : Nat} (hT : TW S W) (he : ET e s) (h : SL S W e (.slice (some ⟨b, off, none⟩) n cap) n) {k : Nat} (hk : k < n) (i : Nat) (ct : CT) (hct : (cellsT e)[i]? = some ct) :
    ∃ u, W.cell? ⟨b, off + k * s + i, none⟩ = some u ∧ ct.ok S W u := by
  obtain ⟨a, cap', h0, h1, ⟨rfl, rfl⟩ | ⟨b', o, c, rfl, hb, hc, hl⟩⟩ := h
  · simp at h0
  · simp only [Value.slice.injEq, Option.some.injEq, Addr.mk.injEq, and_true, true_and] at h0
    obtain ⟨⟨rfl, rfl⟩, rfl⟩ := h0
    have hs := he.size
    rw [hs] at hl ⊢
    obtain ⟨c0, e0, hc0, ht⟩ := hT b hb
    obtain ⟨rfl, rfl⟩ : c0 = c ∧ e0 = e := by
      unfold Blk at hc hc0
      rw [hc] at hc0
      cases hc0
      exact ⟨rfl, rfl⟩
    have hi : i < s := by rw [← hs]; exact (List.getElem?_eq_some_iff.1 hct).1
    have hle : (o + k + 1) * s ≤ (o + cap) * s := Nat.mul_le_mul_right s (by omega)
    rw [Nat.add_mul, Nat.add_mul, Nat.one_mul] at hle
    have hlt : o * s + k * s + i < c0.size := by omega
    refine ⟨c0[o * s + k * s + i], ?_, ?_⟩
    · rw [hc.cell, Array.getElem?_eq_getElem hlt]
    · refine ht (o * s + k * s + i) _ ct (Array.getElem?_eq_getElem hlt) ?_
      rw [hs, ← Nat.add_mul, Nat.mul_comm, Nat.mul_add_mod, Nat.mod_eq_of_lt hi]
      exact hct
/-- .. may be written -/
theorem SL.store {X S : BS} {W : World} {e : TypeId} {b off n cap s : Nat} (hT : TW S W) (he : ET e s) (h : SL S W e (.slice (some ⟨b, off, none⟩) n cap) n) (k : Nat) (i : Nat) (ct : CT) (hct : (cellsT e)[i]? = some ct) (v : Value) (hv : ct.ok S W v) :
    Ev X S W S (W.setCell ⟨b, off + k * s + i, none⟩ v) ∧ W.frozen? ⟨b, off + k * s + i, none⟩ = false := by
  obtain ⟨a, cap', h0, h1, ⟨rfl, rfl⟩ | ⟨b', o, c, rfl, hb, hc, hl⟩⟩ := h
  · simp at h0
  · simp only [Value.slice.injEq, Option.some.injEq, Addr.mk.injEq, and_true, true_and] at h0
    obtain ⟨⟨rfl, rfl⟩, rfl⟩ := h0
    have hs := he.size
    have hi : i < s := by rw [← hs]; exact (List.getElem?_eq_some_iff.1 hct).1
    refine ⟨Ev.set hT hb hc _ v (fun ct' h => ?_), hc.frozen _⟩
    rw [hs, ← Nat.add_mul, Nat.mul_comm, Nat.mul_add_mod, Nat.mod_eq_of_lt hi, hct] at h
    cases h
    exact hv
theorem SL.take {S : BS} {W : World} {e : TypeId} {a : Option Addr} {n cap k : Nat} (h : SL S W e (.slice a n cap) n) (hk : k ≤ n) : SL S W e (.slice a k cap) k := by
  obtain ⟨a', cap', h0, h1, h2⟩ := h
  cases h0
  exact ⟨a, cap, rfl, by omega, h2⟩
theorem SL.drop {S : BS} {W : World} {e : TypeId} {b off n cap k o2 s : Nat} (hs : sizeT e = s) (h : SL S W e (.slice (some ⟨b, off, none⟩) n cap) n) (hk : k ≤ n) (ho : o2 = off + k * s ∨ (k = cap ∧ o2 = off)) : SL S W e (.slice (some ⟨b, o2, none⟩) (n - k) (cap - k)) (n - k) := by
  obtain ⟨a', cap', h0, h1, ⟨rfl, rfl⟩ | ⟨b', o, c, rfl, hb, hc, hl⟩⟩ := h
  · simp at h0
  · simp only [Value.slice.injEq, Option.some.injEq, Addr.mk.injEq, and_true, true_and] at h0
    obtain ⟨⟨rfl, rfl⟩, rfl⟩ := h0
    rw [hs] at hl
    rcases ho with rfl | ⟨rfl, rfl⟩
    · exact ⟨_, _, rfl, by omega, .inr ⟨b, o + k, c, by rw [hs, Nat.add_mul], hb, hc, by rw [hs, show o + k + (cap - k) = o + cap from by omega]; exact hl⟩⟩
    · exact ⟨_, _, rfl, by omega, .inr ⟨b, o, c, by rw [hs], hb, hc, by rw [hs, Nat.sub_self, Nat.add_zero]; exact Nat.le_trans (Nat.mul_le_mul_right s (by omega)) hl⟩⟩

/-- a block by the kinds of its cells -/
theorem tb_of {S : BS} {W : World} {e : TypeId} {s : Nat} (he : sizeT e = s) {c : Array Value} (hc : c.size = s) (h : ∀ (i : Nat) (u : Value) (ct : CT), c[i]? = some u → (cellsT e)[i]? = some ct → ct.ok S W u) : TB S W e c := fun i u ct h1 h2 => by
  have hi : i < s := by rw [← hc]; exact (Array.getElem?_eq_some_iff.1 h1).1
  rw [he, Nat.mod_eq_of_lt hi] at h2
  exact h i u ct h1 h2
theorem tb_point {S : BS} {W : World} {x y : Int} (hx : fits x) (hy : fits y) : TB S W 25 #[.int .i64 x, .int .i64 y] := tb_of rfl rfl fun i u ct h1 h2 => by
  match i, h1, h2 with
  | 0, h1, h2 => cases h1; cases h2; exact CT.ok_int hx
  | 1, h1, h2 => cases h1; cases h2; exact CT.ok_int hy
  | i + 2, h1, _ => simp at h1
theorem tb_int {S : BS} {W : World} {x : Int} (hx : fits x) : TB S W 3 #[.int .i64 x] := tb_of rfl rfl fun i u ct h1 h2 => by
  match i, h1, h2 with
  | 0, h1, h2 => cases h1; cases h2; exact CT.ok_int hx
  | i + 1, h1, _ => simp at h1
theorem tb_nil {S : BS} {W : World} {e : TypeId} : TB S W e #[] := fun i u ct h1 _ => by simp at h1
theorem tb_edge {S : BS} {W : World} {id l r : Int} {v : Value} {n : Nat} (hi : fits id) (hl : fits l) (hr : fits r) (hv : SL S W 25 v n) (hn : n ≤ 100) : TB S W 156 #[.int .i64 id, v, .int .i64 l, .int .i64 r] := tb_of rfl rfl fun i u ct h1 h2 => by
  match i, h1, h2 with
  | 0, h1, h2 => cases h1; cases h2; exact CT.ok_int hi
  | 1, h1, h2 => cases h1; cases h2; exact CT.ok_sl hv hn
  | 2, h1, h2 => cases h1; cases h2; exact CT.ok_int hl
  | 3, h1, h2 => cases h1; cases h2; exact CT.ok_int hr
  | i + 4, h1, _ => simp at h1
theorem tb_trace {S : BS} {W : World} {id l r : Int} {v : Value} {n : Nat} (hi : fits id) (hl : fits l) (hr : fits r) (hv : SL S W 175 v n) (hn : n ≤ 100) : TB S W 179 #[.int .i64 id, v, .int .i64 l, .int .i64 r] := tb_of rfl rfl fun i u ct h1 h2 => by
  match i, h1, h2 with
  | 0, h1, h2 => cases h1; cases h2; exact CT.ok_int hi
  | 1, h1, h2 => cases h1; cases h2; exact CT.ok_sl hv hn
  | 2, h1, h2 => cases h1; cases h2; exact CT.ok_int hl
  | 3, h1, h2 => cases h1; cases h2; exact CT.ok_int hr
  | i + 4, h1, _ => simp at h1

/-- fits, of what the walk leaves -/
theorem fits_wrap (x : Int) : fits (IntKind.i64.wrap x) := by
  unfold fits
  simp [IntKind.wrap, IntKind.bits, IntKind.signed]
  omega

/-- a length that the machine knows (the literal out of sight of the walks) -/
def LenOk (n : Nat) : Prop := n ≤ 9223372036854775807
/-- the box of the numbers: D, apart from the blocks of S -/
structure TD (S : BS) (n₀ D : Nat) (sv : Value) (xs : List Int) (W : World) : Prop where
  tw : TW S W
  box : ∃ j : Nat, j ≤ xs.length ∧ Blk W D #[sv, .int .i64 (j : Nat)] 66
  ints : Ints n₀ W sv xs
  le : n₀ ≤ D
  len : LenOk xs.length
  low : ∀ b, S b → n₀ ≤ b
  not : ¬ S D
abbrev oneB (D : Nat) : BS := fun b => b = D
theorem TD.lt {S : BS} {n₀ D : Nat} {sv : Value} {xs : List Int} {W : World} (h : TD S n₀ D sv xs W) : D < W.heap.size := by obtain ⟨j, -, hb⟩ := h.box; exact hb.lt
/-- a world that turns otherwise than at the box -/
theorem TD.ev {X S S' : BS} {n₀ D : Nat} {sv : Value} {xs : List Int} {W W' : World} (h : TD S n₀ D sv xs W) (he : Ev X S W S' W') (hX : ∀ b, X b → n₀ ≤ b ∧ b ≠ D) : TD S' n₀ D sv xs W' := by
  have hlt := h.lt
  obtain ⟨j, hj, hb⟩ := h.box
  have hlow : ∀ b, S' b → n₀ ≤ b := fun b hb => by
    rcases he.new b hb with h1 | h1
    · exact h.low b h1
    · have := h.le; omega
  have hbel : Below n₀ W W' := he.below h.low (fun b hb => (hX b hb).1) (by have := h.le; omega)
  exact ⟨he.ok, ⟨j, hj, he.blk hb h.not (fun hx => (hX D hx).2 rfl)⟩, h.ints.below hbel, h.le, h.len, hlow, he.not hlt h.not⟩
set_option maxHeartbeats 1000000 in
set_option maxRecDepth 100000 in
theorem next_free (n₀ D j : Nat) (xs : List Int) (sv : Value) (m v : Int) (w : World) (hv : nextF xs j m = v) (hm1 : 1 ≤ m) (hm2 : m ≤ 4611686018427387904) (hD : n₀ ≤ D) (hI : Ints n₀ w sv xs) (hj : j ≤ xs.length) (hlen : LenOk xs.length) (hB : Blk w D #[sv, .int .i64 (j : Nat)] 66) :
    Calls Tryz.prog 22 #[.pointer (some ⟨D, 0, none⟩), .int .i64 m] w fun e w' => ∃ p, e = .returned (.int .i64 v) ∧ w' = (w.setCell ⟨D, 1, none⟩ (.int .i64 (min (j + 1) xs.length : Nat))).growBy p := by
  subst hv
  by_cases hlt : j < xs.length
  · rw [show min (j + 1) xs.length = j + 1 from by omega]
    have c0 : w.cell? ⟨D, 0, none⟩ = some sv := hB.cell 0
    have c1 : w.cell? ⟨D, 1, none⟩ = some (.int .i64 (j : Nat)) := hB.cell 1
    have f1 := hB.frozen 1
    obtain ⟨a, cap, rfl, hc⟩ := hI
    obtain ⟨b, off, rfl, hb, fx, cx⟩ := hc j hlt
    have hx : nextF xs j m = xs[j] % m := by unfold nextF; rw [List.getD_eq_getElem?_getD, List.getElem?_eq_getElem hlt]; rfl
    rw [hx]
    obtain ⟨x, hxx⟩ : ∃ x, xs[j] = x := ⟨_, rfl⟩
    rw [hxx] at fx cx ⊢
    have hbD : ¬ b = D := by omega
    have hDb : ¬ D = b := by omega
    have hlt' : (j : Int) < (xs.length : Int) := by omega
    have hjw : IntKind.i64.wrap ((j : Int) + 1) = (j : Int) + 1 := by unfold LenOk at hlen; exact wrap_in7 (by omega) (by omega)
    have hjv : wrap64 ((j : Int) + 1) = (j : Int) + 1 := by unfold LenOk at hlen; exact Go.IntWalk.wrap64_in _ ⟨by omega, by omega⟩
    clear hc hxx hx hj
    go_enter Tryz.func22, Tryz.ntmps22
    go_wp2_with fail
    first | with_reducible refine wp_region_grow2 (by kernel_rfl) (by kernel_rfl) ?_ | with_reducible refine wp_region_grow (by kernel_rfl) (by kernel_rfl) ?_
    repeat (first | go_big_quiet_step (fail) | quiet_step (fail))
    refine wpQuiet_nil ?_
    intro _ hw_
    obtain ⟨p, hw_⟩ := hw_
    subst hw_
    go_wp2_with fail
    have hju : wrap64 (j : Int) = (j : Int) := by unfold LenOk at hlen; exact Go.IntWalk.wrap64_in _ ⟨by omega, by omega⟩
    clear hlen
    first | with_reducible refine wp_region_grow2 (by kernel_rfl) (by kernel_rfl) ?_ | with_reducible refine wp_region_grow (by kernel_rfl) (by kernel_rfl) ?_
    repeat (first | go_big_quiet_step ((go_at_call 58; exact Calls.grow_of_same (mod_any _ _ _ fx hm1 hm2))) | quiet_step ((go_at_call 58; exact Calls.grow_of_same (mod_any _ _ _ fx hm1 hm2))))
    refine wpQuiet_nil ?_
    intro _ hw_
    obtain ⟨p, hw_⟩ := hw_
    subst hw_
    go_wp2_with fail
    go_ret
    exact ⟨_, rfl, rfl⟩
  · obtain rfl : j = xs.length := by omega
    rw [show min (xs.length + 1) xs.length = xs.length from by omega]
    have c0 : w.cell? ⟨D, 0, none⟩ = some sv := hB.cell 0
    have c1 : w.cell? ⟨D, 1, none⟩ = some (.int .i64 (xs.length : Nat)) := hB.cell 1
    have f1 := hB.frozen 1
    have hid := World.setCell_id w D 1 _ c1
    have hz : nextF xs xs.length m = 0 := by unfold nextF; rw [List.getD_eq_getElem?_getD, List.getElem?_eq_none (by omega)]; simp
    rw [hz]
    have hge' : ¬ (xs.length : Int) < (xs.length : Int) := by omega
    obtain ⟨a, cap, rfl, -⟩ := hI
    clear hz hlen hj
    go_enter Tryz.func22, Tryz.ntmps22
    go_wp2_with fail
    first | with_reducible refine wp_region_grow2 (by kernel_rfl) (by kernel_rfl) ?_ | with_reducible refine wp_region_grow (by kernel_rfl) (by kernel_rfl) ?_
    repeat (first | go_big_quiet_step (fail) | quiet_step (fail))
    refine wpQuiet_nil ?_
    intro _ hw_
    obtain ⟨p, hw_⟩ := hw_
    subst hw_
    go_wp2_with fail
    go_ret
    exact ⟨_, rfl, by rw [hid]⟩
/-- a number is drawn -/
theorem TD.call {S : BS} {n₀ D : Nat} {sv : Value} {xs : List Int} {W : World} (h : TD S n₀ D sv xs W) (m : Int) (hm1 : 1 ≤ m) (hm2 : m ≤ 4611686018427387904) :
    Calls Tryz.prog 22 #[.pointer (some ⟨D, 0, none⟩), .int .i64 m] W fun e W' => ∃ v, e = .returned (.int .i64 v) ∧ 0 ≤ v ∧ v < m ∧ TD S n₀ D sv xs W' ∧ W.grownBy W' (some D) ∧ Ev (oneB D) S W S W' := by
  obtain ⟨j, hj, hb⟩ := h.box
  refine (next_free n₀ D j xs sv m _ W rfl hm1 hm2 h.le h.ints hj h.len hb).mono ?_
  rintro e W' ⟨p, rfl, rfl⟩
  have hg := setCell_grown W D 1 (.int .i64 (min (j + 1) xs.length : Nat)) p
  have hn := nextF_in xs j hm1
  have hE : Ev (oneB D) S W S _ := Ev.of_grown h.tw hg (fun r e => by cases e; exact ⟨h.not, rfl⟩)
  refine ⟨_, rfl, hn.1, hn.2, ⟨hE.ok, ⟨min (j + 1) xs.length, by omega, ?_⟩, h.ints.below (Below.of_grown hg (by have := h.le; have := hb.lt; omega) (fun r e => by cases e; exact h.le)), h.le, h.len, h.low, h.not⟩, hg, hE⟩
  have := (hb.set 1 (.int .i64 (min (j + 1) xs.length : Nat))).grow p
  simpa using this
end Go.Proofs.YtjfdbigkbgolmaaGreatDoor
