/-
  Chapter 29: maps keyed by dots: how a key reads.
-/
import Derived.Test.YtjfdbigkbgolmaaDoorG1
import Derived.Maps.OwnSet
import Derived.Maps.OwnIn
import Derived.DeepKeys4
import Derived.Sort.MapsRangeIn
import Derived.Sort.KeysCollected
namespace Go.Proofs.YtjfdbigkbgolmaaDoor
set_option linter.unusedVariables false
set_option linter.unusedSimpArgs false
open Go.RowKit Go.Maps

abbrev Spot := Int × Int
abbrev encS (p : Spot) : List Value := [.int .i64 p.1, .int .i64 p.2]
abbrev spotV (p : Spot) : Value := .agg #[.int .i64 p.1, .int .i64 p.2]
def FitS (p : Spot) : Prop := fits p.1 ∧ fits p.2
/-- what a dot reads as, as a key -/
def klS (p : Spot) : Lit := .string (keyBytes [.int .i64 p.1, .int .i64 p.2])

theorem laidOutP : laidOutB Tryd.prog = true := by kernel_rfl
set_option maxRecDepth 100000 in
theorem spotWide : (match Tryd.prog.underlying 68 with | some (.array _ _) | some (.struct _) => true | _ => false) = true := by kernel_rfl
theorem spotCells : Tryd.prog.cellsOf 68 = 2 := by kernel_rfl
theorem intCells : Tryd.prog.cellsOf 3 = 1 := by kernel_rfl
set_option maxRecDepth 100000 in
theorem spotLaw : Keyed Tryd.prog 68 := Keyed.of_law (deep_law_laid laidOutP (m := 2) (by omega) (of_decide_eq_true (by kernel_rfl)) (by kernel_rfl) spotWide)
theorem spotKeyT : Tryd.prog.keyType 68 = true := by kernel_rfl
theorem zeroInt (w : World) : (zeroValue 3).run Tryd.prog w = .ok (.int .i64 0) w := by kernel_rfl

theorem lit_wf {n : Int} (h : fits n) : (Lit.int .i64 n).wf = true := by
  obtain ⟨h0, h1⟩ := h
  simp [Lit.wf, IntKind.min, IntKind.max, IntKind.signed, IntKind.bits]
  omega
theorem wf_lit {n : Int} (h : (Lit.int .i64 n).wf = true) : fits n := by
  simp [Lit.wf, IntKind.min, IntKind.max, IntKind.signed, IntKind.bits] at h
  exact ⟨by omega, by omega⟩

set_option maxRecDepth 100000 in
theorem keyLits_int (d : Nat) (cs : List Value) (L : List Lit) (h : Tryd.prog.keyLits (d + 1) 3 cs = some L) : ∃ n, cs = [.int .i64 n] ∧ fits n ∧ L = [.int .i64 n] := by
  unfold Program.keyLits at h
  rw [Tryd.underlying3] at h
  match cs, h with
  | [.int q n], h =>
    simp only at h
    split at h
    · rename_i hq
      obtain ⟨rfl, hw⟩ := hq
      cases h
      exact ⟨n, rfl, wf_lit hw, rfl⟩
    · cases h

set_option maxRecDepth 100000 in
theorem keyOf_spot {p : Spot} (h : FitS p) : keyOf Tryd.prog 68 (spotV p) = some (klS p) := by
  obtain ⟨x, y⟩ := p
  obtain ⟨hx, hy⟩ := h
  have wx := lit_wf hx
  have wy := lit_wf hy
  unfold keyOf
  rw [Tryd.underlying68]
  have hf : (spotV (x, y)).formed Tryd.prog 68 = true := by simp [Value.formed, Tryd.underlying68, spotCells]
  simp only [spotKeyT, hf, Bool.and_self, if_true]
  have hk : Tryd.prog.keyLits (Tryd.prog.types.size + 1) 68 [.int .i64 x, .int .i64 y] = some [.int .i64 x, .int .i64 y] := by
    obtain ⟨n, hn⟩ : ∃ n, Tryd.prog.types.size = n + 1 := ⟨Tryd.prog.types.size - 1, by have h : 0 < Tryd.prog.types.size := of_decide_eq_true (by kernel_rfl); omega⟩
    rw [hn]
    unfold Program.keyLits
    rw [Tryd.underlying68]
    simp [spotCells, intCells, Program.keyLits, Tryd.underlying3, wx, wy]
  exact congrArg (Option.map fun ls => Lit.string (keyBytes ls)) hk

set_option maxRecDepth 100000 in
theorem keyOf_spot_inv {v : Value} {l : Lit} (h : keyOf Tryd.prog 68 v = some l) : ∃ p, FitS p ∧ v = spotV p ∧ l = klS p := by
  obtain ⟨xs, L, rfl, hL, rfl⟩ := keyOf_top spotWide h
  obtain ⟨n, hn⟩ : ∃ n, Tryd.prog.types.size = n + 1 := ⟨Tryd.prog.types.size - 1, by have h : 0 < Tryd.prog.types.size := of_decide_eq_true (by kernel_rfl); omega⟩
  rw [hn] at hL
  unfold Program.keyLits at hL
  rw [Tryd.underlying68] at hL
  simp only [spotCells] at hL
  split at hL
  · rename_i hc
    obtain ⟨hlen, -⟩ := hc
    obtain ⟨l⟩ := xs
    match l, hlen with
    | [a, b], _ =>
      simp [intCells] at hL
      rcases ha : Tryd.prog.keyLits (n + 1) 3 [a] with _ | La
      · rw [ha] at hL; simp at hL
      · obtain ⟨x, ex, fx, rfl⟩ := keyLits_int n [a] La ha
        rcases hb : Tryd.prog.keyLits (n + 1) 3 [b] with _ | Lb
        · rw [ha, hb] at hL; simp at hL
        · obtain ⟨y, ey, fy, rfl⟩ := keyLits_int n [b] Lb hb
          rw [ha, hb] at hL
          simp at hL ex ey
          subst ex
          subst ey
          subst hL
          exact ⟨(x, y), ⟨fx, fy⟩, rfl, rfl⟩
  · cases hL

theorem klS_inj {p q : Spot} (hp : FitS p) (hq : FitS q) (h : klS p = klS q) : p = q := by
  have h1 := keyOf_spot hp
  rw [h] at h1
  have h2 := spotLaw.inj h1 (keyOf_spot hq)
  simp at h2
  exact Prod.ext h2.1 h2.2
theorem klS_same {p q : Spot} (hp : FitS p) (hq : FitS q) : (klS p).sameKey (klS q) = decide (p = q) := by
  by_cases h : p = q
  · subst h
    simp [WideAt.sameKey_self (spotLaw.key (keyOf_spot hp))]
  · simp only [h, decide_false]
    cases hs : (klS p).sameKey (klS q)
    · rfl
    · exact absurd (klS_inj hp hq (WideAt.sameKey_eq hs)) h

/-! ### a map's content: a list of dots with their numbers, each dot once -/
def idOf (l : List (Spot × Int)) (p : Spot) : Option Int := (l.find? fun e => e.1 == p).map (·.2)
def hasK (l : List (Spot × Int)) (p : Spot) : Bool := l.any fun e => e.1 == p

/-- block b of W is a map of at most n entries that holds just the entries l -/
def MapIs (W : World) (b n : Nat) (l : List (Spot × Int)) : Prop :=
  ∃ (D : DataW Unit), W.ownsMap Tryd.prog 68 (plainElem Tryd.prog 3) b n D ∧ (l.map (·.1)).Nodup ∧ (∀ e ∈ l, FitS e.1) ∧
    ∀ p, FitS p → has D (klS p) = hasK l p ∧ D.atKey (klS p) (.lit (.int .i64 0)) = .lit (.int .i64 ((idOf l p).getD 0))

theorem MapIs.kept {W W' : World} {b n : Nat} {l : List (Spot × Int)} {row : Option Nat} (h : MapIs W b n l) (hg : W.grownBy W' row) (hr : row ≠ some b) : MapIs W' b n l := by
  obtain ⟨D, ho, h1, h2, h3⟩ := h
  exact ⟨D, ho.kept hg (fun e => hr e.symm), h1, h2, h3⟩
theorem MapIs.lt {W : World} {b n : Nat} {l : List (Spot × Int)} (h : MapIs W b n l) : b < W.heap.size := by
  obtain ⟨D, ho, -⟩ := h
  exact ho.lt
theorem MapIs.alloc {W : World} {b n : Nat} {l : List (Spot × Int)} (h : MapIs W b n l) (o : Obj) : MapIs (W.alloc o) b n l := h.kept (World.grownBy_alloc W o none) (by simp)
theorem MapIs.below {W W' : World} {b n n₀ : Nat} {l : List (Spot × Int)} (h : MapIs W b n l) (hb : Below n₀ W W') (hB : b < n₀) : MapIs W' b n l := by
  obtain ⟨D, ⟨es, clock, he, r⟩, h1, h2, h3⟩ := h
  exact ⟨D, ⟨es, clock, (hb.block b hB).trans he, r⟩, h1, h2, h3⟩
theorem MapIs.made (W : World) : MapIs (W.alloc (.map #[] 0)) W.heap.size 0 [] :=
  ⟨.map [], World.ownsMap_made W _ _ _, by simp, by simp, fun p _ => ⟨rfl, rfl⟩⟩

/-- the entries behind a store -/
def putE (l : List (Spot × Int)) (p : Spot) (x : Int) : List (Spot × Int) := if hasK l p then l.map (fun e => if e.1 == p then (p, x) else e) else l ++ [(p, x)]

theorem hasK_iff {l : List (Spot × Int)} {p : Spot} : hasK l p = true ↔ p ∈ l.map (·.1) := by
  unfold hasK
  rw [List.any_eq_true]
  constructor
  · rintro ⟨e, he, h⟩
    exact List.mem_map.2 ⟨e, he, by simpa using h⟩
  · intro h
    obtain ⟨e, he, h⟩ := List.mem_map.1 h
    exact ⟨e, he, by simpa using h⟩
theorem putE_keys (l : List (Spot × Int)) (p : Spot) (x : Int) : (putE l p x).map (·.1) = if hasK l p then l.map (·.1) else l.map (·.1) ++ [p] := by
  unfold putE
  split
  · rw [List.map_map]
    refine List.map_congr_left fun e _ => ?_
    by_cases h : e.1 = p
    · simp [h]
    · simp [h]
  · simp
theorem hasK_put (l : List (Spot × Int)) (p q : Spot) (x : Int) : hasK (putE l p x) q = (decide (q = p) || hasK l q) := by
  rw [Bool.eq_iff_iff, hasK_iff, putE_keys, Bool.or_eq_true, decide_eq_true_iff]
  rw [show (hasK l q = true) = (q ∈ l.map (·.1)) from propext hasK_iff]
  split
  · rename_i h
    have := hasK_iff.1 h
    constructor
    · exact .inr
    · rintro (rfl | h')
      · exact this
      · exact h'
  · simp [or_comm]
theorem idOf_put (l : List (Spot × Int)) (p q : Spot) (x : Int) : idOf (putE l p x) q = if q = p then some x else idOf l q := by
  unfold putE
  split
  · rename_i h
    unfold hasK at h
    induction l with
    | nil => simp at h
    | cons e l ih =>
      by_cases he : e.1 = p
      · by_cases hq : q = p
        · subst hq; simp [idOf, he]
        · have hne : ¬ p = q := fun h => hq h.symm
          have : ∀ l : List (Spot × Int), idOf (l.map fun e => if e.1 == p then (p, x) else e) q = idOf l q := by
            intro l
            induction l with
            | nil => rfl
            | cons a l ih2 =>
              unfold idOf at ih2 ⊢
              by_cases ha : a.1 = p
              · simp only [List.map_cons, ha, beq_self_eq_true, if_true, List.find?_cons]
                have h1 : (p == q) = false := by simpa using hne
                rw [h1]
                have h2 : (a.1 == q) = false := by rw [ha]; exact h1
                simp only [ha] at h2
                simpa [ha, h1] using ih2
              · have h1 : (a.1 == p) = false := by simpa using ha
                simp only [List.map_cons, h1, List.find?_cons, Bool.false_eq_true, if_false]
                cases hh : a.1 == q
                · exact ih2
                · rfl
          rw [this, if_neg hq]
      · have h' : l.any (fun e => e.1 == p) = true := by simpa [he] using h
        have ih := ih h'
        unfold idOf at ih ⊢
        have h1 : (e.1 == p) = false := by simpa using he
        simp only [List.map_cons, h1, List.find?_cons, Bool.false_eq_true, if_false]
        cases hh : e.1 == q
        · exact ih
        · have : e.1 = q := by simpa using hh
          have hq : ¬ q = p := fun h => he (this.trans h)
          simp [hq]
  · rename_i h
    unfold idOf
    rw [List.find?_append]
    by_cases hq : q = p
    · subst hq
      have : l.find? (fun e => e.1 == q) = none := by
        rw [List.find?_eq_none]
        intro e he hh
        exact h (by unfold hasK; exact List.any_eq_true.2 ⟨e, he, hh⟩)
      simp [this]
    · have h1 : (p == q) = false := by simpa using fun e => hq e.symm
      simp [h1, hq]

/-- a store -/
theorem MapIs.store {W W' : World} {b n : Nat} {l : List (Spot × Int)} {D : DataW Unit} {p : Spot} {x : Int} (hD : IsMap D) (h1 : (l.map (·.1)).Nodup) (h2 : ∀ e ∈ l, FitS e.1)
    (h3 : ∀ p, FitS p → has D (klS p) = hasK l p ∧ D.atKey (klS p) (.lit (.int .i64 0)) = .lit (.int .i64 ((idOf l p).getD 0))) (hp : FitS p)
    (ho : W'.ownsMap Tryd.prog 68 (plainElem Tryd.prog 3) b n (D.put (klS p) (.lit (.int .i64 x)))) : MapIs W' b n (putE l p x) := by
  refine ⟨_, ho, ?_, ?_, fun q hq => ?_⟩
  · rw [putE_keys]
    split
    · exact h1
    · rename_i h
      rw [List.nodup_append]
      refine ⟨h1, by simp, fun a ha c hc => ?_⟩
      obtain rfl : c = p := by simpa using hc
      exact fun e => h (hasK_iff.2 (e ▸ ha))
  · intro e he
    have : e.1 ∈ (putE l p x).map (·.1) := List.mem_map.2 ⟨e, he, rfl⟩
    rw [putE_keys] at this
    split at this
    · obtain ⟨e', he', h⟩ := List.mem_map.1 this
      rw [← h]; exact h2 e' he'
    · rcases List.mem_append.1 this with h | h
      · obtain ⟨e', he', h⟩ := List.mem_map.1 h
        rw [← h]; exact h2 e' he'
      · rw [show e.1 = p by simpa using h]; exact hp
  · have hk := spotLaw.key (keyOf_spot hp)
    rw [hasK_put, idOf_put]
    by_cases hqp : q = p
    · subst hqp
      simp [has_put_same hD hk, atKey_put_same hD hk]
    · have hne : klS q ≠ klS p := fun e => hqp (klS_inj hq hp e)
      simp [has_put_other hne, atKey_put_other hne, hqp, h3 q hq]
end Go.Proofs.YtjfdbigkbgolmaaDoor
