/-
  Maps in plain words: a key type K (its values, how a key reads), elements of a plain type: block b holds the entries l, each key once.
  Chapter 24: the reference's has, surroundings, within, twice, kept.
  Chapter 24: labels and ints as keys of maps.
-/
import Derived.Test.YtikojanpbbiaiaaZc
import Derived.Maps.OwnSet
import Derived.Maps.OwnIn
import Derived.Maps.RangeWalk
import Derived.DeepKeys4
namespace Go.Proofs.Ytikojanpbbiaiaa
set_option linter.unusedVariables false
set_option linter.unusedSimpArgs false
open Go.RowKit Go.Maps

structure Ky (α : Type) where
  t : TypeId
  val : α → Value
  kl : α → Lit
  Ok : α → Prop
structure Ky.Law {α : Type} (K : Ky α) (P : Program) : Prop where
  law : Keyed P K.t
  key : ∀ {p}, K.Ok p → keyOf P K.t (K.val p) = some (K.kl p)
  inv : ∀ {v l}, keyOf P K.t v = some l → ∃ p, K.Ok p ∧ v = K.val p ∧ l = K.kl p
  vinj : ∀ {p q}, K.val p = K.val q → p = q
section
variable {α : Type} {K : Ky α} {P : Program}
theorem Ky.Law.inj (L : K.Law P) {p q : α} (hp : K.Ok p) (hq : K.Ok q) (h : K.kl p = K.kl q) : p = q := by
  have h1 := L.key hp
  rw [h] at h1
  exact L.vinj (L.law.inj h1 (L.key hq))
theorem Ky.Law.lit (L : K.Law P) {p : α} (hp : K.Ok p) : WideAt.IsKeyLit (K.kl p) := L.law.key (L.key hp)
variable [DecidableEq α] {β : Type}
theorem Ky.Law.same (L : K.Law P) {p q : α} (hp : K.Ok p) (hq : K.Ok q) : (K.kl p).sameKey (K.kl q) = decide (p = q) := by
  by_cases h : p = q
  · subst h
    simp [WideAt.sameKey_self (L.lit hp)]
  · simp only [h, decide_false]
    cases hs : (K.kl p).sameKey (K.kl q)
    · rfl
    · exact absurd (L.inj hp hq (WideAt.sameKey_eq hs)) h

def idOf (l : List (α × β)) (p : α) : Option β := (l.find? fun e => decide (e.1 = p)).map (·.2)
def hasK (l : List (α × β)) (p : α) : Bool := l.any fun e => decide (e.1 = p)
def putE (l : List (α × β)) (p : α) (x : β) : List (α × β) := if hasK l p then l.map (fun e => if e.1 = p then (p, x) else e) else l ++ [(p, x)]
theorem hasK_iff {l : List (α × β)} {p : α} : hasK l p = true ↔ p ∈ l.map (·.1) := by
  unfold hasK
  rw [List.any_eq_true]
  constructor
  · rintro ⟨e, he, h⟩
    exact List.mem_map.2 ⟨e, he, by simpa using h⟩
  · intro h
    obtain ⟨e, he, h⟩ := List.mem_map.1 h
    exact ⟨e, he, by simpa using h⟩
theorem putE_keys (l : List (α × β)) (p : α) (x : β) : (putE l p x).map (·.1) = if hasK l p then l.map (·.1) else l.map (·.1) ++ [p] := by
  unfold putE
  split
  · rw [List.map_map]
    refine List.map_congr_left fun e _ => ?_
    by_cases h : e.1 = p
    · simp [h]
    · simp [h]
  · simp
theorem hasK_put (l : List (α × β)) (p q : α) (x : β) : hasK (putE l p x) q = (decide (q = p) || hasK l q) := by
  rw [Bool.eq_iff_iff, hasK_iff, putE_keys, Bool.or_eq_true, decide_eq_true_iff]
  rw [show (hasK l q = true) = (q ∈ l.map (·.1)) from propext hasK_iff]
  split
  · rename_i h
    have := hasK_iff.1 h
    constructor
    · exact .inr
    · rintro (rfl | h')
      · exact this
      · exact h'
  · simp [or_comm]
theorem idOf_map (p q : α) (x : β) (hq : ¬ q = p) : ∀ l : List (α × β), idOf (l.map fun e => if e.1 = p then (p, x) else e) q = idOf l q
  | [] => rfl
  | a :: l => by
    have ih := idOf_map p q x hq l
    have hne : ¬ p = q := fun h => hq h.symm
    unfold idOf at ih ⊢
    by_cases ha : a.1 = p
    · simpa [ha, hne] using ih
    · by_cases haq : a.1 = q
      · have hf : List.find? (fun e => decide (e.1 = q)) (List.map (fun e => if e.1 = p then (p, x) else e) (a :: l)) = some a := by rw [List.map_cons, if_neg ha, List.find?_cons]; simp [haq]
        rw [hf]
        simp [haq]
      · rw [List.map_cons, if_neg ha, List.find?_cons, List.find?_cons]
        simp only [haq, decide_false]
        exact ih
theorem idOf_map_same (p : α) (x : β) : ∀ l : List (α × β), hasK l p = true → idOf (l.map fun e => if e.1 = p then (p, x) else e) p = some x
  | [], h => by simp [hasK] at h
  | a :: l, h => by
    by_cases ha : a.1 = p
    · simp [idOf, ha]
    · have ih := idOf_map_same p x l (by simpa [hasK, ha] using h)
      unfold idOf at ih ⊢
      simpa [ha] using ih
theorem idOf_put (l : List (α × β)) (p q : α) (x : β) : idOf (putE l p x) q = if q = p then some x else idOf l q := by
  unfold putE
  split
  · rename_i h
    by_cases hq : q = p
    · subst hq
      rw [if_pos rfl]
      exact idOf_map_same q x l h
    · rw [if_neg hq]
      exact idOf_map p q x hq l
  · rename_i h
    unfold idOf
    rw [List.find?_append]
    by_cases hq : q = p
    · subst hq
      have : l.find? (fun e => decide (e.1 = q)) = none := by
        rw [List.find?_eq_none]
        intro e he hh
        exact h (by unfold hasK; exact List.any_eq_true.2 ⟨e, he, hh⟩)
      simp [this]
    · have h1 : ¬ p = q := fun e => hq e.symm
      simp [h1, hq]
theorem putE_length (l : List (α × β)) (p : α) (x : β) : (putE l p x).length = if hasK l p then l.length else l.length + 1 := by
  unfold putE
  split <;> simp

/-- how the elements of the map read: a type, their literals, the zero value's own -/
structure Ve (β : Type) where
  t : TypeId
  lit : β → Lit
  z : β
/-- block b of W is a map of at most n entries that holds just the entries l -/
def MapK (P : Program) (K : Ky α) (V : Ve β) (W : World) (b n : Nat) (l : List (α × β)) : Prop :=
  ∃ (D : DataW Unit), W.ownsMap P K.t (plainElem P V.t) b n D ∧ (l.map (·.1)).Nodup ∧ (∀ e ∈ l, K.Ok e.1) ∧ Maps.size D = l.length ∧
    ∀ p, K.Ok p → has D (K.kl p) = hasK l p ∧ D.atKey (K.kl p) (.lit (V.lit V.z)) = .lit (V.lit ((idOf l p).getD V.z))
variable {V : Ve β} {W W' : World} {b n : Nat} {l : List (α × β)}
theorem MapK.kept {row : Option Nat} (h : MapK P K V W b n l) (hg : W.grownBy W' row) (hr : row ≠ some b) : MapK P K V W' b n l := by
  obtain ⟨D, ho, h1, h2, h3⟩ := h
  exact ⟨D, ho.kept hg (fun e => hr e.symm), h1, h2, h3⟩
theorem MapK.lt (h : MapK P K V W b n l) : b < W.heap.size := by
  obtain ⟨D, ho, -⟩ := h
  exact ho.lt
theorem MapK.alloc (h : MapK P K V W b n l) (o : Obj) : MapK P K V (W.alloc o) b n l := h.kept (World.grownBy_alloc W o none) (by simp)
theorem MapK.below {n₀ : Nat} (h : MapK P K V W b n l) (hb : Below n₀ W W') (hB : b < n₀) : MapK P K V W' b n l := by
  obtain ⟨D, ⟨es, clock, he, r⟩, h1, h2, h3⟩ := h
  exact ⟨D, ⟨es, clock, (hb.block b hB).trans he, r⟩, h1, h2, h3⟩
theorem MapK.made (P : Program) (K : Ky α) (V : Ve β) (W : World) : MapK P K V (W.alloc (.map #[] 0)) W.heap.size 0 [] :=
  ⟨.map [], World.ownsMap_made W _ _ _, by simp, by simp, rfl, fun p _ => ⟨rfl, rfl⟩⟩
/-- a store -/
theorem MapK.store (L : K.Law P) {D : DataW Unit} {p : α} {x : β} (hD : Tidy D) (h1 : (l.map (·.1)).Nodup) (h2 : ∀ e ∈ l, K.Ok e.1) (h4 : Maps.size D = l.length)
    (h3 : ∀ p, K.Ok p → has D (K.kl p) = hasK l p ∧ D.atKey (K.kl p) (.lit (V.lit V.z)) = .lit (V.lit ((idOf l p).getD V.z))) (hp : K.Ok p)
    (ho : W'.ownsMap P K.t (plainElem P V.t) b n (D.put (K.kl p) (.lit (V.lit x)))) : MapK P K V W' b n (putE l p x) := by
  refine ⟨_, ho, ?_, ?_, ?_, fun q hq => ?_⟩
  · rw [putE_keys]
    split
    · exact h1
    · rename_i h
      rw [List.nodup_append]
      refine ⟨h1, by simp, fun a ha c hc => ?_⟩
      obtain rfl : c = p := by simpa using hc
      exact fun e => h (hasK_iff.2 (e ▸ ha))
  · intro e he
    have : e.1 ∈ (putE l p x).map (·.1) := List.mem_map.2 ⟨e, he, rfl⟩
    rw [putE_keys] at this
    split at this
    · obtain ⟨e', he', h⟩ := List.mem_map.1 this
      rw [← h]; exact h2 e' he'
    · rcases List.mem_append.1 this with h | h
      · obtain ⟨e', he', h⟩ := List.mem_map.1 h
        rw [← h]; exact h2 e' he'
      · rw [show e.1 = p by simpa using h]; exact hp
  · rw [size_put hD, (h3 p hp).1, putE_length, h4]
  · have hk := L.lit hp
    rw [hasK_put, idOf_put]
    by_cases hqp : q = p
    · subst hqp
      simp [has_put_same hD.isMap hk, atKey_put_same hD.isMap hk]
    · have hne : K.kl q ≠ K.kl p := fun e => hqp (L.inj hq hp e)
      simp [has_put_other hne, atKey_put_other hne, hqp, h3 q hq]
/-- the store, as an operation -/
theorem MapK.wp_store (L : K.Law P) {ops : Array Oper} {rest : List Oper} {o : Oper} {a : Act} {Q : Exit → Act → World → Prop} (hg : o.guard = none) (m x v : Operand) (t : TypeId) (hop : o.op = Op.mapUpdate t m x v) (ht : P.underlying t = some (.map K.t V.t))
    (hm : a.eval m = .map (some b)) (h : MapK P K V W b n l) (hn : n < maxLen) {p : α} (hp : K.Ok p) (hx : a.eval x = K.val p) {y : β} {val : Value} (hv : a.eval v = val) (hval : plainElem (H := Unit) P V.t val = some (.lit (V.lit y), []))
    (hK : ∀ w', MapK P K V w' b (n + 1) (putE l p y) → W.grownBy w' (some b) → wpList P ops Q rest (a.put o.dst undef) w') : wpList P ops Q (o :: rest) a W := by
  obtain ⟨D, ho, h1, h2, h4, h3⟩ := h
  refine wpList_mapUpdate_own W hg m x v t hop K.t V.t L.law ht _ b n D hm ho hn (K.val p) val (K.kl p) hx hv (L.key hp) _ [] hval ?_
  intro w' ho' hg'
  exact hK w' (MapK.store L (ho.tidy L.law) h1 h2 h4 h3 hp ho') hg'
/-- the map's length -/
theorem MapK.wp_len {ops : Array Oper} {rest : List Oper} {o : Oper} {a : Act} {Q : Exit → Act → World → Prop} (hg : o.guard = none) (m : Operand) (t : TypeId) (hop : o.op = Op.call { callee := Callee.builtin Builtin.len, args := #[m], argTypes := #[t] }) (ht : P.underlying t = some (.map K.t V.t))
    (hm : a.eval m = .map (some b)) (h : MapK P K V W b n l) (hK : wpList P ops Q rest (a.put o.dst (.int .i64 (l.length : Nat))) W) : wpList P ops Q (o :: rest) a W := by
  obtain ⟨D, ho, h1, h2, h4, h3⟩ := h
  refine wpList_len_own W hg m t hop K.t V.t ht _ b n D hm ho ?_
  rw [h4]
  exact hK
/-- the map's length, as a run -/
theorem MapK.run_len (h : MapK P K V W b n l) {t : TypeId} (ht : P.underlying t = some (.map K.t V.t)) (ty : TypeId) : (Builtin.len_ #[t] ty #[.map (some b)]).run P W = .ok (.int .i64 (l.length : Nat)) W := by
  obtain ⟨D, ho, h1, h2, h4, h3⟩ := h
  rw [← h4]
  exact ho.len ht ty
end
end Go.Proofs.Ytikojanpbbiaiaa
namespace Go.Proofs.Ytikojanpbbiaiaa
set_option linter.unusedVariables false
set_option linter.unusedSimpArgs false
open Go.RowKit Go.Shelf
attribute [local go_sem] Oper.semAt_some
attribute [local go_sem ↓] Go.wp_at_zero Go.wp_at_succ

theorem str_list (a b : ByteArray) : (a.toList = b.toList) = (a = b) := by
  rw [ByteArray.toList_eq, ByteArray.toList_eq]
  refine propext ⟨fun h => ?_, fun h => by rw [h]⟩
  cases a
  cases b
  simp only at h
  rw [Array.toList_inj.1 h]
set_option maxRecDepth 100000 in
theorem eqlLb (i x y r u i2 x2 y2 r2 u2 : Int) (t t2 : ByteArray) (w : World) : (binOp .eql 39 (.agg #[.int .i64 i, .int .i64 x, .int .i64 y, .int .i64 r, .string t, .int .i64 u]) (.agg #[.int .i64 i2, .int .i64 x2, .int .i64 y2, .int .i64 r2, .string t2, .int .i64 u2])).run Try.prog w = .ok (.bool (decide ((⟨i, x, y, r, t, u⟩ : Lb) = ⟨i2, x2, y2, r2, t2, u2⟩))) w := by
  have u3 := Try.underlying3
  have a3 := Try.isAgg3
  have z3 := Try.sizeOf3
  have u9 := Try.underlying9
  have a9 := Try.isAgg9
  have z9 := Try.sizeOf9
  have aP := Try.isAgg37
  have zP := Try.sizeOf37
  have hS : Try.prog.underlying 39 = some (.struct (Try.prog.fieldsOf 39)) := by kernel_rfl
  have hp : Try.prog.stoodInHeld 39 = false := by kernel_rfl
  have hS2 : Try.prog.underlying 37 = some (.struct (Try.prog.fieldsOf 37)) := by kernel_rfl
  have hp2 : Try.prog.stoodInHeld 37 = false := by kernel_rfl
  have hq : ∀ (xs ys : Array Value) (w : World), (Op.equalIn 9999 37 (.agg xs) (.agg ys)).run Try.prog w = (Op.eqFields 9998 xs ys (Try.prog.fieldsOf 37).toList).run Try.prog w := fun xs ys w => run_equalIn_agg w 9998 37 xs ys hS2 hp2
  rw [run_eql_struct, show (10000 : Nat) = 9999 + 1 from rfl, run_equalIn_agg w 9999 39 _ _ hS hp]
  simp only [Program.fieldsOf, Try.underlying39]
  simp only [Program.fieldsOf, Try.underlying37] at hq
  clear hS hS2
  go_simp
  by_cases h1 : i = i2 <;> by_cases h2 : x = x2 <;> by_cases h3 : y = y2 <;> by_cases h4 : r = r2 <;> by_cases h5 : t = t2 <;> by_cases h6 : u = u2 <;> simp [h1, h2, h3, h4, h5, h6, str_list]
theorem guardLb (op : BinOp) (a b : Operand) (xs ys : Array Value) (w : World) : (eqGuard op 39 a b (.agg xs) (.agg ys)).run Try.prog w = .ok () w := run_eqGuard_agg w op 39 a b xs ys (by kernel_rfl)
/-- a label's six cells -/
structure LC (W : World) (b o : Nat) (i x y r : Int) (t : ByteArray) (u : Int) : Prop where
  c0 : W.cell? ⟨b, o, none⟩ = some (.int .i64 i)
  c1 : W.cell? ⟨b, o + 1, none⟩ = some (.int .i64 x)
  c2 : W.cell? ⟨b, o + 2, none⟩ = some (.int .i64 y)
  c3 : W.cell? ⟨b, o + 3, none⟩ = some (.int .i64 r)
  c4 : W.cell? ⟨b, o + 4, none⟩ = some (.string t)
  c5 : W.cell? ⟨b, o + 5, none⟩ = some (.int .i64 u)
theorem LC.below {n₀ : Nat} {W W' : World} {b o : Nat} {i x y r u : Int} {t : ByteArray} (h : LC W b o i x y r t u) (hb : Below n₀ W W') (hlt : b < n₀) : LC W' b o i x y r t u :=
  ⟨(hb.cell (p := ⟨b, o, none⟩) hlt).trans h.c0, (hb.cell (p := ⟨b, o + 1, none⟩) hlt).trans h.c1, (hb.cell (p := ⟨b, o + 2, none⟩) hlt).trans h.c2, (hb.cell (p := ⟨b, o + 3, none⟩) hlt).trans h.c3, (hb.cell (p := ⟨b, o + 4, none⟩) hlt).trans h.c4, (hb.cell (p := ⟨b, o + 5, none⟩) hlt).trans h.c5⟩
theorem Lst.get {n₀ : Nat} {W : World} {v : Value} {l : List Lb} (h : Lst lbE n₀ W v l) {k : Nat} (hk : k < l.length) : ∃ b off cap i x y r t u, v = .slice (some ⟨b, off, none⟩) l.length cap ∧ l[k]? = some ⟨i, x, y, r, t, u⟩ ∧ b < n₀ ∧ LC W b (off + k * 6) i x y r t u := by
  obtain ⟨b, off, cap, rfl, -, hb, hc⟩ := h.some_ (by omega)
  have h0 := hc k hk
  obtain ⟨d, hd⟩ : ∃ d, l[k] = d := ⟨_, rfl⟩
  rw [hd] at h0
  obtain ⟨i, x, y, r, t, u⟩ := d
  exact ⟨b, off, cap, i, x, y, r, t, u, rfl, by rw [List.getElem?_eq_getElem hk, hd], hb, ⟨h0 0 (by decide), h0 1 (by decide), h0 2 (by decide), h0 3 (by decide), h0 4 (by decide), h0 5 (by decide)⟩⟩
/-- a second look into the same slice -/
theorem Lst.get2 {n₀ : Nat} {W : World} {b off cap : Nat} {l : List Lb} (h : Lst lbE n₀ W (.slice (some ⟨b, off, none⟩) l.length cap) l) {k : Nat} (hk : k < l.length) : ∃ i x y r t u, l[k]? = some ⟨i, x, y, r, t, u⟩ ∧ LC W b (off + k * 6) i x y r t u := by
  obtain ⟨b', off', cap', i, x, y, r, t, u, e, h1, -, h2⟩ := h.get hk
  cases e
  exact ⟨i, x, y, r, t, u, h1, h2⟩
theorem mem_take_succ {l : List Lb} {k : Nat} {d x : Lb} (h : l[k]? = some d) : x ∈ l.take (k + 1) ↔ x ∈ l.take k ∨ x = d := by
  rw [List.take_add_one, h]
  simp
set_option maxHeartbeats 1000000 in
theorem has_any (v : Value) (l : List Lb) (z : Lb) (w : World) (h : Lst lbE w.heap.size w v l) : Calls Try.prog 90 #[v, lbV z] w fun e w' => e = .returned (.bool (decide (z ∈ l))) ∧ Below w.heap.size w w' := by
  have hlen := h.len
  obtain ⟨a, cap, rfl, -⟩ := h.form
  obtain ⟨i2, x2, y2, r2, t2, u2⟩ := z
  obtain ⟨res, hres⟩ : ∃ b, decide ((⟨i2, x2, y2, r2, t2, u2⟩ : Lb) ∈ l) = b := ⟨_, rfl⟩
  rw [hres]
  replace hres := Lib.hid hres
  go_enter Try.func90, Try.ntmps90
  go_wp2_with fail
  have kZ := Blk.new w #[.int .i64 i2, .int .i64 x2, .int .i64 y2, .int .i64 r2, .string t2, .int .i64 u2] 39
  have hB0 : Below w.heap.size w (w.alloc (.cells #[.int .i64 i2, .int .i64 x2, .int .i64 y2, .int .i64 r2, .string t2, .int .i64 u2] 39)) := (by repeat' (first | with_reducible exact Below.refl _ _ | with_reducible exact Nat.le_refl _ | with_reducible assumption | with_reducible refine Go.below_growBy' ?_ ?_ _ | with_reducible refine Below.alloc ?_ ?_ _ | with_reducible refine Below.setCell ?_ ?_ _ | with_reducible refine Below.drew ?_ | with_reducible refine Go.le_alloc ?_ | with_reducible refine Go.le_growBy ?_ | with_reducible refine Go.le_setCell ?_ | with_reducible refine Go.le_drew ?_ | omega | (dsimp only; omega)))
  obtain ⟨W0, hW0⟩ : ∃ W, w.alloc (.cells #[.int .i64 i2, .int .i64 x2, .int .i64 y2, .int .i64 r2, .string t2, .int .i64 u2] 39) = W := ⟨_, rfl⟩
  obtain ⟨BZ, hBZ⟩ : ∃ b, w.heap.size = b := ⟨_, rfl⟩
  have hl := h.below hB0
  rw [hW0] at kZ hB0 hl
  rw [hW0]
  rw [hBZ] at kZ
  rw [hBZ]
  clear hW0 hBZ h
  have lZ := kZ.lt
  go_loopw [5] (fun kk wr => ∃ k : Nat, k ≤ l.length ∧ kk = .int .i64 (k : Nat) ∧ (⟨i2, x2, y2, r2, t2, u2⟩ : Lb) ∉ l.take k ∧ Below W0.heap.size W0 wr) (fun kk _ => l.length - (intOf kk).toNat)
  case atStart => exact ⟨0, Nat.zero_le _, rfl, by simp, Below.refl _ _⟩
  case round =>
    obtain ⟨k, hk, rfl, hno, hB⟩ := hrel
    replace hno := Lib.hid hno
    by_cases hlt : k < l.length
    · have hltI : (k : Int) < (l.length : Int) := by omega
      obtain ⟨b, off, cap', i, x, y, r, t, u, hv, hget, hb, hc⟩ := hl.get hlt
      simp only [Value.slice.injEq, true_and] at hv
      obtain ⟨rfl, rfl⟩ := hv
      obtain ⟨c0, c1, c2, c3, c4, c5⟩ := hc.below hB (Nat.lt_of_lt_of_le hb hB0.size)
      have kZ1 := kZ.below hB lZ
      have z0 : wr.cell? ⟨BZ, 0, none⟩ = some (.int .i64 i2) := kZ1.cell 0
      have z1 : wr.cell? ⟨BZ, 1, none⟩ = some (.int .i64 x2) := kZ1.cell 1
      have z2 : wr.cell? ⟨BZ, 2, none⟩ = some (.int .i64 y2) := kZ1.cell 2
      have z3 : wr.cell? ⟨BZ, 3, none⟩ = some (.int .i64 r2) := kZ1.cell 3
      have z4 : wr.cell? ⟨BZ, 4, none⟩ = some (.string t2) := kZ1.cell 4
      have z5 : wr.cell? ⟨BZ, 5, none⟩ = some (.int .i64 u2) := kZ1.cell 5
      have hm := mem_take_succ (x := (⟨i2, x2, y2, r2, t2, u2⟩ : Lb)) hget
      replace hm := Lib.hid hm
      replace hget := Lib.hid hget
      have hg := guardLb
      have hn := eqlLb i x y r u i2 x2 y2 r2 u2 t t2
      by_cases hde : (⟨i, x, y, r, t, u⟩ : Lb) = ⟨i2, x2, y2, r2, t2, u2⟩
      · rw [decide_eq_true hde] at hn
        have hin : decide ((⟨i2, x2, y2, r2, t2, u2⟩ : Lb) ∈ l) = true := decide_eq_true (List.mem_of_mem_take (hm.out.2 (.inr hde.symm)))
        obtain rfl : res = true := hres.out.symm.trans hin
        clear hde hin hc hl
        go_wp2_with fail
        first | with_reducible refine wp_region_grow2 (by kernel_rfl) (by kernel_rfl) ?_ | with_reducible refine wp_region_grow (by kernel_rfl) (by kernel_rfl) ?_
        repeat (first | go_big_quiet_step (fail) | quiet_step (fail))
        refine wpQuiet_nil ?_
        intro _ hw_
        obtain ⟨p, hw_⟩ := hw_
        subst hw_
        go_wp2_with fail
        go_ret
        exact ⟨rfl, hB0.trans (below_growBy' (hB.mono hB0.size) (Nat.le_trans hB0.size hB.size) _)⟩
      · rw [decide_eq_false hde] at hn
        replace hde := Lib.hid hde
        clear hc
        go_wp2_with fail
        first | with_reducible refine wp_region_grow2 (by kernel_rfl) (by kernel_rfl) ?_ | with_reducible refine wp_region_grow (by kernel_rfl) (by kernel_rfl) ?_
        repeat (first | go_big_quiet_step (fail) | quiet_step (fail))
        refine wpQuiet_nil ?_
        intro _ hw_
        obtain ⟨p, hw_⟩ := hw_
        subst hw_
        go_wp2_with fail
        go_roundw
        case rel => exact ⟨k + 1, by omega, by go_num, fun hx => by
          rcases hm.out.1 hx with h1 | h1
          · exact hno.out h1
          · exact hde.out h1.symm, below_growBy' hB hB.size _⟩
        case measure => simp [intOf]; omega
    · obtain rfl : k = l.length := by omega
      have hin : decide ((⟨i2, x2, y2, r2, t2, u2⟩ : Lb) ∈ l) = false := decide_eq_false (fun hx => hno.out (by rw [List.take_length]; exact hx))
      obtain rfl : res = false := hres.out.symm.trans hin
      have hge : ¬ (l.length : Int) < (l.length : Int) := by omega
      clear hin
      go_wp2_with fail
      go_ret
      exact ⟨rfl, hB0.trans (hB.mono hB0.size)⟩
end Go.Proofs.Ytikojanpbbiaiaa
namespace Go.Proofs.Ytikojanpbbiaiaa
set_option linter.unusedVariables false
set_option linter.unusedSimpArgs false
open Go.RowKit Go.Maps

theorem laidOutP : laidOutB Try.prog = true := by kernel_rfl
set_option maxRecDepth 100000 in
theorem lbWide : (match Try.prog.underlying 39 with | some (.array _ _) | some (.struct _) => true | _ => false) = true := by kernel_rfl
theorem lbCells : Try.prog.cellsOf 39 = 6 := by kernel_rfl
theorem ptCells : Try.prog.cellsOf 37 = 2 := by kernel_rfl
theorem intCells : Try.prog.cellsOf 3 = 1 := by kernel_rfl
theorem strCells : Try.prog.cellsOf 9 = 1 := by kernel_rfl
set_option maxRecDepth 100000 in
theorem lbLaw : Keyed Try.prog 39 := Keyed.of_law (deep_law_laid laidOutP (m := 3) (by omega) (of_decide_eq_true (by kernel_rfl)) (by kernel_rfl) lbWide)
theorem lbKeyT : Try.prog.keyType 39 = true := by kernel_rfl
theorem lit_wf {n : Int} (h : fits n) : (Lit.int .i64 n).wf = true := by
  obtain ⟨h0, h1⟩ := h
  simp [Lit.wf, IntKind.min, IntKind.max, IntKind.signed, IntKind.bits]
  omega
theorem wf_lit {n : Int} (h : (Lit.int .i64 n).wf = true) : fits n := by
  simp [Lit.wf, IntKind.min, IntKind.max, IntKind.signed, IntKind.bits] at h
  exact ⟨by omega, by omega⟩
set_option maxRecDepth 100000 in
theorem keyLits_int (d : Nat) (cs : List Value) (L : List Lit) (h : Try.prog.keyLits (d + 1) 3 cs = some L) : ∃ n, cs = [.int .i64 n] ∧ fits n ∧ L = [.int .i64 n] := by
  unfold Program.keyLits at h
  rw [Try.underlying3] at h
  match cs, h with
  | [.int q n], h =>
    simp only at h
    split at h
    · rename_i hq
      obtain ⟨rfl, hw⟩ := hq
      cases h
      exact ⟨n, rfl, wf_lit hw, rfl⟩
    · cases h
set_option maxRecDepth 100000 in
theorem keyLits_str (d : Nat) (cs : List Value) (L : List Lit) (h : Try.prog.keyLits (d + 1) 9 cs = some L) : ∃ s, cs = [.string s] ∧ s.size ≤ maxLen ∧ L = [.string s.data.toList] := by
  unfold Program.keyLits at h
  rw [Try.underlying9] at h
  match cs, h with
  | [.string s], h =>
    simp only at h
    split at h
    · rename_i hq
      cases h
      exact ⟨s, rfl, hq, rfl⟩
    · cases h
set_option maxRecDepth 100000 in
theorem keyLits_pt (d : Nat) (cs : List Value) (L : List Lit) (h : Try.prog.keyLits (d + 1 + 1) 37 cs = some L) : ∃ x y, cs = [.int .i64 x, .int .i64 y] ∧ fits x ∧ fits y ∧ L = [.int .i64 x, .int .i64 y] := by
  unfold Program.keyLits at h
  rw [Try.underlying37] at h
  simp only [ptCells] at h
  split at h
  · rename_i hc
    obtain ⟨hlen, -⟩ := hc
    match cs, hlen with
    | [a, b], _ =>
      simp [intCells] at h
      rcases ha : Try.prog.keyLits (d + 1) 3 [a] with _ | La
      · rw [ha] at h; simp at h
      · obtain ⟨x, ex, fx, rfl⟩ := keyLits_int d [a] La ha
        rcases hb : Try.prog.keyLits (d + 1) 3 [b] with _ | Lb
        · rw [ha, hb] at h; simp at h
        · obtain ⟨y, ey, fy, rfl⟩ := keyLits_int d [b] Lb hb
          rw [ha, hb] at h
          simp at h ex ey
          subst ex
          subst ey
          subst h
          exact ⟨x, y, rfl, fx, fy, rfl⟩
  · cases h
theorem keyLits_int_mk (d : Nat) {n : Int} (h : (Lit.int .i64 n).wf = true) : Try.prog.keyLits (d + 1) 3 [.int .i64 n] = some [.int .i64 n] := by
  simp [Program.keyLits, Try.underlying3, h]
set_option maxRecDepth 100000 in
theorem keyLits_pt_mk (d : Nat) {x y : Int} (hx : (Lit.int .i64 x).wf = true) (hy : (Lit.int .i64 y).wf = true) : Try.prog.keyLits (d + 1 + 1) 37 [.int .i64 x, .int .i64 y] = some [.int .i64 x, .int .i64 y] := by
  have k1 := keyLits_int_mk d hx
  have k2 := keyLits_int_mk d hy
  unfold Program.keyLits
  rw [Try.underlying37]
  simp [ptCells, intCells, k1, k2]
/-- a label as a key -/
structure LbKey (l : Lb) : Prop where
  id : fits l.id
  x : fits l.x
  y : fits l.y
  r : fits l.r
  t : l.txt.size ≤ maxLen
  u : fits l.unt
def klL (l : Lb) : Lit := .string (keyBytes [.int .i64 l.id, .int .i64 l.x, .int .i64 l.y, .int .i64 l.r, .string l.txt.data.toList, .int .i64 l.unt])
abbrev lbK : Ky Lb := ⟨39, lbV, klL, LbKey⟩
theorem types_size : ∃ n, Try.prog.types.size = n + 1 + 1 := ⟨Try.prog.types.size - 2, by have h : 1 < Try.prog.types.size := of_decide_eq_true (by kernel_rfl); omega⟩
set_option maxRecDepth 100000 in
theorem keyOf_lb {p : Lb} (h : LbKey p) : keyOf Try.prog 39 (lbV p) = some (klL p) := by
  obtain ⟨i, x, y, r, t, u⟩ := p
  obtain ⟨hi, hx, hy, hr, ht, hu⟩ := h
  have wi := lit_wf hi
  have wx := lit_wf hx
  have wy := lit_wf hy
  have wr := lit_wf hr
  have wu := lit_wf hu
  simp only at ht wi wx wy wr wu
  clear hi hx hy hr hu
  unfold keyOf
  rw [Try.underlying39]
  have hf : (lbV ⟨i, x, y, r, t, u⟩).formed Try.prog 39 = true := by simp [Value.formed, Try.underlying39, lbCells]
  simp only [lbKeyT, hf, Bool.and_self, if_true]
  have hk : Try.prog.keyLits (Try.prog.types.size + 1) 39 [.int .i64 i, .int .i64 x, .int .i64 y, .int .i64 r, .string t, .int .i64 u] = some [.int .i64 i, .int .i64 x, .int .i64 y, .int .i64 r, .string t.data.toList, .int .i64 u] := by
    obtain ⟨n, hn⟩ := types_size
    rw [hn]
    unfold Program.keyLits
    rw [Try.underlying39]
    have k1 := keyLits_int_mk (n + 1) wi
    have k2 := keyLits_pt_mk n wx wy
    have k3 := keyLits_int_mk (n + 1) wr
    have k4 := keyLits_int_mk (n + 1) wu
    have k5 : Try.prog.keyLits (n + 1 + 1) 9 [.string t] = some [.string t.data.toList] := by simp [Program.keyLits, Try.underlying9, ht]
    simp [lbCells, ptCells, intCells, strCells, k1, k2, k3, k4, k5]
  exact congrArg (Option.map fun ls => Lit.string (keyBytes ls)) hk
set_option maxRecDepth 100000 in
theorem keyOf_lb_inv {v : Value} {l : Lit} (h : keyOf Try.prog 39 v = some l) : ∃ p, LbKey p ∧ v = lbV p ∧ l = klL p := by
  obtain ⟨xs, L, rfl, hL, rfl⟩ := keyOf_top lbWide h
  obtain ⟨n, hn⟩ := types_size
  rw [hn] at hL
  unfold Program.keyLits at hL
  rw [Try.underlying39] at hL
  simp only [lbCells] at hL
  split at hL
  · rename_i hc
    obtain ⟨hlen, -⟩ := hc
    obtain ⟨l⟩ := xs
    match l, hlen with
    | [a, b, c, d, e, f], _ =>
      simp [intCells, ptCells, strCells] at hL
      rcases ha : Try.prog.keyLits (n + 1 + 1) 3 [a] with _ | La
      · rw [ha] at hL; simp at hL
      obtain ⟨i, ea, fi, rfl⟩ := keyLits_int (n + 1) [a] La ha
      rcases hb : Try.prog.keyLits (n + 1 + 1) 37 [b, c] with _ | Lb_
      · rw [ha, hb] at hL; simp at hL
      obtain ⟨x, y, eb, fx, fy, rfl⟩ := keyLits_pt n [b, c] Lb_ hb
      rcases hd : Try.prog.keyLits (n + 1 + 1) 3 [d] with _ | Ld
      · rw [ha, hb, hd] at hL; simp at hL
      obtain ⟨r, ed, fr, rfl⟩ := keyLits_int (n + 1) [d] Ld hd
      rcases he : Try.prog.keyLits (n + 1 + 1) 9 [e] with _ | Le
      · rw [ha, hb, hd, he] at hL; simp at hL
      obtain ⟨s, ee, fs, rfl⟩ := keyLits_str (n + 1) [e] Le he
      rcases hf : Try.prog.keyLits (n + 1 + 1) 3 [f] with _ | Lf
      · rw [ha, hb, hd, he, hf] at hL; simp at hL
      obtain ⟨u, ef, fu, rfl⟩ := keyLits_int (n + 1) [f] Lf hf
      rw [ha, hb, hd, he, hf] at hL
      simp at hL ea eb ed ee ef
      obtain ⟨eb, ec⟩ := eb
      subst ea eb ec ed ee ef hL
      exact ⟨⟨i, x, y, r, s, u⟩, ⟨fi, fx, fy, fr, fs, fu⟩, rfl, rfl⟩
  · cases hL
theorem lbKL : lbK.Law Try.prog := ⟨lbLaw, keyOf_lb, keyOf_lb_inv, fun {p q} h => by
  obtain ⟨i, x, y, r, t, u⟩ := p
  obtain ⟨i2, x2, y2, r2, t2, u2⟩ := q
  simpa using h⟩
abbrev inK : Ky Int := ⟨3, fun n => .int .i64 n, fun n => .int .i64 n, fits⟩
theorem inKL : inK.Law Try.prog := ⟨int_keyed Try.underlying3, fun h => keyOf_int_mk Try.underlying3 (lit_wf h), fun {v l} h => by
  rw [keyOf_int Try.underlying3] at h
  unfold mapKey at h
  rw [Try.underlying3] at h
  cases v <;> simp at h
  obtain ⟨⟨h1, h2⟩, h3⟩ := h
  subst h1 h3
  exact ⟨_, wf_lit h2, rfl, rfl⟩, fun h => by simpa using h⟩
abbrev intV : Ve Int := ⟨3, fun n => .int .i64 n, 0⟩
abbrev boolV : Ve Bool := ⟨4, .bool, false⟩
end Go.Proofs.Ytikojanpbbiaiaa
