/-
  Chapter 29: maps keyed by dots: how a key reads.
  Chapter 29: maps.Keys over dots: the iterator's contract.
  A block of cells: what keeps it; a slice's own row likewise.
  Chapter 29: slices.AppendSeq, slices.Collect at dots: what the iterator gave, in its order, in a row of the call's own.
  Chapter 29: the order of dots: the closure that sorts them.
-/
import Derived.Test.YtjfdbigkbgolmaaGreatDoorZb
import Derived.Test.YtjfdbigkbgolmaaGreatDoorZa
import Derived.Maps.OwnSet
import Derived.Maps.OwnIn
import Derived.DeepKeys4
import Derived.Sort.MapsRangeIn
import Derived.Sort.KeysCollected
import Derived.RangeFuncBox
import Derived.RangeFuncLeaves
import Derived.RangeFuncNested
import Derived.RangeFuncBound
import Derived.RangeFuncCalls
import Derived.Shelf.AbstractIn
import Derived.RangeFuncSeq
import Derived.WalkKit
import Derived.OwnWalkIn
import Derived.TacticsInMore
import Derived.RegionIn
import Derived.LoopNIn
import Derived.LoopIn
import Derived.RangeFuncWrites
import Derived.RangeFuncFrom
import Derived.Shelf.SlSortCmp.QuietGrown
import Derived.Shelf.SlSortCmp.WholeK
namespace Go.Proofs.YtjfdbigkbgolmaaGreatDoor
set_option linter.unusedVariables false
set_option linter.unusedSimpArgs false
open Go.RowKit Go.Maps

abbrev Spot := Int × Int
abbrev encS (p : Spot) : List Value := [.int .i64 p.1, .int .i64 p.2]
abbrev spotV (p : Spot) : Value := .agg #[.int .i64 p.1, .int .i64 p.2]
def FitS (p : Spot) : Prop := fits p.1 ∧ fits p.2
/-- what a dot reads as, as a key -/
def klS (p : Spot) : Lit := .string (keyBytes [.int .i64 p.1, .int .i64 p.2])

theorem laidOutP : laidOutB Tryz.prog = true := by kernel_rfl
set_option maxRecDepth 100000 in
theorem spotWide : (match Tryz.prog.underlying 85 with | some (.array _ _) | some (.struct _) => true | _ => false) = true := by kernel_rfl
theorem spotCells : Tryz.prog.cellsOf 85 = 2 := by kernel_rfl
theorem intCells : Tryz.prog.cellsOf 3 = 1 := by kernel_rfl
set_option maxRecDepth 100000 in
theorem spotLaw : Keyed Tryz.prog 85 := Keyed.of_law (deep_law_laid laidOutP (m := 2) (by omega) (of_decide_eq_true (by kernel_rfl)) (by kernel_rfl) spotWide)
theorem spotKeyT : Tryz.prog.keyType 85 = true := by kernel_rfl
theorem zeroInt (w : World) : (zeroValue 3).run Tryz.prog w = .ok (.int .i64 0) w := by kernel_rfl

theorem lit_wf {n : Int} (h : fits n) : (Lit.int .i64 n).wf = true := by
  obtain ⟨h0, h1⟩ := h
  simp [Lit.wf, IntKind.min, IntKind.max, IntKind.signed, IntKind.bits]
  omega
theorem wf_lit {n : Int} (h : (Lit.int .i64 n).wf = true) : fits n := by
  simp [Lit.wf, IntKind.min, IntKind.max, IntKind.signed, IntKind.bits] at h
  exact ⟨by omega, by omega⟩

set_option maxRecDepth 100000 in
theorem keyLits_int (d : Nat) (cs : List Value) (L : List Lit) (h : Tryz.prog.keyLits (d + 1) 3 cs = some L) : ∃ n, cs = [.int .i64 n] ∧ fits n ∧ L = [.int .i64 n] := by
  unfold Program.keyLits at h
  rw [Tryz.underlying3] at h
  match cs, h with
  | [.int q n], h =>
    simp only at h
    split at h
    · rename_i hq
      obtain ⟨rfl, hw⟩ := hq
      cases h
      exact ⟨n, rfl, wf_lit hw, rfl⟩
    · cases h

set_option maxRecDepth 100000 in
theorem keyOf_spot {p : Spot} (h : FitS p) : keyOf Tryz.prog 85 (spotV p) = some (klS p) := by
  obtain ⟨x, y⟩ := p
  obtain ⟨hx, hy⟩ := h
  have wx := lit_wf hx
  have wy := lit_wf hy
  unfold keyOf
  rw [Tryz.underlying85]
  have hf : (spotV (x, y)).formed Tryz.prog 85 = true := by simp [Value.formed, Tryz.underlying85, spotCells]
  simp only [spotKeyT, hf, Bool.and_self, if_true]
  have hk : Tryz.prog.keyLits (Tryz.prog.types.size + 1) 85 [.int .i64 x, .int .i64 y] = some [.int .i64 x, .int .i64 y] := by
    obtain ⟨n, hn⟩ : ∃ n, Tryz.prog.types.size = n + 1 := ⟨Tryz.prog.types.size - 1, by have h : 0 < Tryz.prog.types.size := of_decide_eq_true (by kernel_rfl); omega⟩
    rw [hn]
    unfold Program.keyLits
    rw [Tryz.underlying85]
    simp [spotCells, intCells, Program.keyLits, Tryz.underlying3, wx, wy]
  exact congrArg (Option.map fun ls => Lit.string (keyBytes ls)) hk

set_option maxRecDepth 100000 in
theorem keyOf_spot_inv {v : Value} {l : Lit} (h : keyOf Tryz.prog 85 v = some l) : ∃ p, FitS p ∧ v = spotV p ∧ l = klS p := by
  obtain ⟨xs, L, rfl, hL, rfl⟩ := keyOf_top spotWide h
  obtain ⟨n, hn⟩ : ∃ n, Tryz.prog.types.size = n + 1 := ⟨Tryz.prog.types.size - 1, by have h : 0 < Tryz.prog.types.size := of_decide_eq_true (by kernel_rfl); omega⟩
  rw [hn] at hL
  unfold Program.keyLits at hL
  rw [Tryz.underlying85] at hL
  simp only [spotCells] at hL
  split at hL
  · rename_i hc
    obtain ⟨hlen, -⟩ := hc
    obtain ⟨l⟩ := xs
    match l, hlen with
    | [a, b], _ =>
      simp [intCells] at hL
      rcases ha : Tryz.prog.keyLits (n + 1) 3 [a] with _ | La
      · rw [ha] at hL; simp at hL
      · obtain ⟨x, ex, fx, rfl⟩ := keyLits_int n [a] La ha
        rcases hb : Tryz.prog.keyLits (n + 1) 3 [b] with _ | Lb
        · rw [ha, hb] at hL; simp at hL
        · obtain ⟨y, ey, fy, rfl⟩ := keyLits_int n [b] Lb hb
          rw [ha, hb] at hL
          simp at hL ex ey
          subst ex
          subst ey
          subst hL
          exact ⟨(x, y), ⟨fx, fy⟩, rfl, rfl⟩
  · cases hL

theorem klS_inj {p q : Spot} (hp : FitS p) (hq : FitS q) (h : klS p = klS q) : p = q := by
  have h1 := keyOf_spot hp
  rw [h] at h1
  have h2 := spotLaw.inj h1 (keyOf_spot hq)
  simp at h2
  exact Prod.ext h2.1 h2.2
theorem klS_same {p q : Spot} (hp : FitS p) (hq : FitS q) : (klS p).sameKey (klS q) = decide (p = q) := by
  by_cases h : p = q
  · subst h
    simp [WideAt.sameKey_self (spotLaw.key (keyOf_spot hp))]
  · simp only [h, decide_false]
    cases hs : (klS p).sameKey (klS q)
    · rfl
    · exact absurd (klS_inj hp hq (WideAt.sameKey_eq hs)) h

/-! ### a map's content: a list of dots with their numbers, each dot once -/
def idOf (l : List (Spot × Int)) (p : Spot) : Option Int := (l.find? fun e => e.1 == p).map (·.2)
def hasK (l : List (Spot × Int)) (p : Spot) : Bool := l.any fun e => e.1 == p

/-- block b of W is a map of at most n entries that holds just the entries l -/
def MapIs (W : World) (b n : Nat) (l : List (Spot × Int)) : Prop :=
  ∃ (D : DataW Unit), W.ownsMap Tryz.prog 85 (plainElem Tryz.prog 3) b n D ∧ (l.map (·.1)).Nodup ∧ (∀ e ∈ l, FitS e.1) ∧
    ∀ p, FitS p → has D (klS p) = hasK l p ∧ D.atKey (klS p) (.lit (.int .i64 0)) = .lit (.int .i64 ((idOf l p).getD 0))

theorem MapIs.kept {W W' : World} {b n : Nat} {l : List (Spot × Int)} {row : Option Nat} (h : MapIs W b n l) (hg : W.grownBy W' row) (hr : row ≠ some b) : MapIs W' b n l := by
  obtain ⟨D, ho, h1, h2, h3⟩ := h
  exact ⟨D, ho.kept hg (fun e => hr e.symm), h1, h2, h3⟩
theorem MapIs.lt {W : World} {b n : Nat} {l : List (Spot × Int)} (h : MapIs W b n l) : b < W.heap.size := by
  obtain ⟨D, ho, -⟩ := h
  exact ho.lt
theorem MapIs.alloc {W : World} {b n : Nat} {l : List (Spot × Int)} (h : MapIs W b n l) (o : Obj) : MapIs (W.alloc o) b n l := h.kept (World.grownBy_alloc W o none) (by simp)
theorem MapIs.below {W W' : World} {b n n₀ : Nat} {l : List (Spot × Int)} (h : MapIs W b n l) (hb : Below n₀ W W') (hB : b < n₀) : MapIs W' b n l := by
  obtain ⟨D, ⟨es, clock, he, r⟩, h1, h2, h3⟩ := h
  exact ⟨D, ⟨es, clock, (hb.block b hB).trans he, r⟩, h1, h2, h3⟩
theorem MapIs.made (W : World) : MapIs (W.alloc (.map #[] 0)) W.heap.size 0 [] :=
  ⟨.map [], World.ownsMap_made W _ _ _, by simp, by simp, fun p _ => ⟨rfl, rfl⟩⟩

/-- the entries behind a store -/
def putE (l : List (Spot × Int)) (p : Spot) (x : Int) : List (Spot × Int) := if hasK l p then l.map (fun e => if e.1 == p then (p, x) else e) else l ++ [(p, x)]

theorem hasK_iff {l : List (Spot × Int)} {p : Spot} : hasK l p = true ↔ p ∈ l.map (·.1) := by
  unfold hasK
  rw [List.any_eq_true]
  constructor
  · rintro ⟨e, he, h⟩
    exact List.mem_map.2 ⟨e, he, by simpa using h⟩
  · intro h
    obtain ⟨e, he, h⟩ := List.mem_map.1 h
    exact ⟨e, he, by simpa using h⟩
theorem putE_keys (l : List (Spot × Int)) (p : Spot) (x : Int) : (putE l p x).map (·.1) = if hasK l p then l.map (·.1) else l.map (·.1) ++ [p] := by
  unfold putE
  split
  · rw [List.map_map]
    refine List.map_congr_left fun e _ => ?_
    by_cases h : e.1 = p
    · simp [h]
    · simp [h]
  · simp
theorem hasK_put (l : List (Spot × Int)) (p q : Spot) (x : Int) : hasK (putE l p x) q = (decide (q = p) || hasK l q) := by
  rw [Bool.eq_iff_iff, hasK_iff, putE_keys, Bool.or_eq_true, decide_eq_true_iff]
  rw [show (hasK l q = true) = (q ∈ l.map (·.1)) from propext hasK_iff]
  split
  · rename_i h
    have := hasK_iff.1 h
    constructor
    · exact .inr
    · rintro (rfl | h')
      · exact this
      · exact h'
  · simp [or_comm]
theorem idOf_put (l : List (Spot × Int)) (p q : Spot) (x : Int) : idOf (putE l p x) q = if q = p then some x else idOf l q := by
  unfold putE
  split
  · rename_i h
    unfold hasK at h
    induction l with
    | nil => simp at h
    | cons e l ih =>
      by_cases he : e.1 = p
      · by_cases hq : q = p
        · subst hq; simp [idOf, he]
        · have hne : ¬ p = q := fun h => hq h.symm
          have : ∀ l : List (Spot × Int), idOf (l.map fun e => if e.1 == p then (p, x) else e) q = idOf l q := by
            intro l
            induction l with
            | nil => rfl
            | cons a l ih2 =>
              unfold idOf at ih2 ⊢
              by_cases ha : a.1 = p
              · simp only [List.map_cons, ha, beq_self_eq_true, if_true, List.find?_cons]
                have h1 : (p == q) = false := by simpa using hne
                rw [h1]
                have h2 : (a.1 == q) = false := by rw [ha]; exact h1
                simp only [ha] at h2
                simpa [ha, h1] using ih2
              · have h1 : (a.1 == p) = false := by simpa using ha
                simp only [List.map_cons, h1, List.find?_cons, Bool.false_eq_true, if_false]
                cases hh : a.1 == q
                · exact ih2
                · rfl
          rw [this, if_neg hq]
      · have h' : l.any (fun e => e.1 == p) = true := by simpa [he] using h
        have ih := ih h'
        unfold idOf at ih ⊢
        have h1 : (e.1 == p) = false := by simpa using he
        simp only [List.map_cons, h1, List.find?_cons, Bool.false_eq_true, if_false]
        cases hh : e.1 == q
        · exact ih
        · have : e.1 = q := by simpa using hh
          have hq : ¬ q = p := fun h => he (this.trans h)
          simp [hq]
  · rename_i h
    unfold idOf
    rw [List.find?_append]
    by_cases hq : q = p
    · subst hq
      have : l.find? (fun e => e.1 == q) = none := by
        rw [List.find?_eq_none]
        intro e he hh
        exact h (by unfold hasK; exact List.any_eq_true.2 ⟨e, he, hh⟩)
      simp [this]
    · have h1 : (p == q) = false := by simpa using fun e => hq e.symm
      simp [h1, hq]

/-- a store -/
theorem MapIs.store {W W' : World} {b n : Nat} {l : List (Spot × Int)} {D : DataW Unit} {p : Spot} {x : Int} (hD : IsMap D) (h1 : (l.map (·.1)).Nodup) (h2 : ∀ e ∈ l, FitS e.1)
    (h3 : ∀ p, FitS p → has D (klS p) = hasK l p ∧ D.atKey (klS p) (.lit (.int .i64 0)) = .lit (.int .i64 ((idOf l p).getD 0))) (hp : FitS p)
    (ho : W'.ownsMap Tryz.prog 85 (plainElem Tryz.prog 3) b n (D.put (klS p) (.lit (.int .i64 x)))) : MapIs W' b n (putE l p x) := by
  refine ⟨_, ho, ?_, ?_, fun q hq => ?_⟩
  · rw [putE_keys]
    split
    · exact h1
    · rename_i h
      rw [List.nodup_append]
      refine ⟨h1, by simp, fun a ha c hc => ?_⟩
      obtain rfl : c = p := by simpa using hc
      exact fun e => h (hasK_iff.2 (e ▸ ha))
  · intro e he
    have : e.1 ∈ (putE l p x).map (·.1) := List.mem_map.2 ⟨e, he, rfl⟩
    rw [putE_keys] at this
    split at this
    · obtain ⟨e', he', h⟩ := List.mem_map.1 this
      rw [← h]; exact h2 e' he'
    · rcases List.mem_append.1 this with h | h
      · obtain ⟨e', he', h⟩ := List.mem_map.1 h
        rw [← h]; exact h2 e' he'
      · rw [show e.1 = p by simpa using h]; exact hp
  · have hk := spotLaw.key (keyOf_spot hp)
    rw [hasK_put, idOf_put]
    by_cases hqp : q = p
    · subst hqp
      simp [has_put_same hD hk, atKey_put_same hD hk]
    · have hne : klS q ≠ klS p := fun e => hqp (klS_inj hq hp e)
      simp [has_put_other hne, atKey_put_other hne, hqp, h3 q hq]
end Go.Proofs.YtjfdbigkbgolmaaGreatDoor
namespace Go.Proofs.YtjfdbigkbgolmaaGreatDoor
set_option linter.unusedVariables false
set_option linter.unusedSimpArgs false
open Go.RowKit Go.Maps Go.Shelf
attribute [local go_sem] Oper.semAt_some

/-- the keys met so far -/
def CollS (l : List (Spot × Int)) (left : Lit → Bool) (ss : List Spot) : Prop := ss.Nodup ∧ (∀ p ∈ ss, FitS p) ∧ ∀ p, FitS p → (p ∈ ss ↔ hasK l p = true ∧ left (klS p) = false)
theorem CollS.start {l : List (Spot × Int)} {D : DataW Unit} (h : ∀ p, FitS p → has D (klS p) = hasK l p) : CollS l (has D) [] :=
  ⟨List.nodup_nil, by simp, fun p hp => by rw [h p hp]; cases hasK l p <;> simp⟩
theorem CollS.step {l : List (Spot × Int)} {left : Lit → Bool} {ss : List Spot} (h : CollS l left ss) {x : Spot} (hx : FitS x) (hl : left (klS x) = true) (hh : hasK l x = true) : CollS l (fun z => left z && !z.sameKey (klS x)) (ss ++ [x]) := by
  have hnew : x ∉ ss := fun hm => by have := ((h.2.2 x hx).1 hm).2; rw [hl] at this; cases this
  refine ⟨List.nodup_append.2 ⟨h.1, by simp, fun a ha b hb => by simp at hb; subst hb; exact fun e => hnew (e ▸ ha)⟩, fun p hp => ?_, fun p hp => ?_⟩
  · rcases List.mem_append.1 hp with h1 | h1
    · exact h.2.1 p h1
    · rw [show p = x by simpa using h1]; exact hx
  · rw [List.mem_append, h.2.2 p hp]
    show _ ↔ _ ∧ (left (klS p) && !(klS p).sameKey (klS x)) = false
    rw [klS_same hp hx]
    by_cases hpx : p = x
    · subst hpx; simp [hh]
    · simp [hpx]
theorem CollS.all {l : List (Spot × Int)} {left : Lit → Bool} {ss : List Spot} (h : CollS l left ss) (h0 : ∀ kl, left kl = false) (hf : ∀ e ∈ l, FitS e.1) : ss.Nodup ∧ ∀ p, p ∈ ss ↔ p ∈ l.map (·.1) := by
  refine ⟨h.1, fun p => ?_⟩
  constructor
  · intro hp
    exact hasK_iff.1 ((h.2.2 p (h.2.1 p hp)).1 hp).1
  · intro hp
    obtain ⟨e, he, rfl⟩ := List.mem_map.1 hp
    exact (h.2.2 _ (hf e he)).2 ⟨hasK_iff.2 hp, h0 _⟩

set_option maxRecDepth 100000 in
set_option maxHeartbeats 2000000 in
theorem keys1_in (F : Fence) (n : Nat) (hf : F.fn 108) (hro : F.round = none) (hn : 1 ≤ n) (l Bm b nn : Nat) (en : List (Spot × Int)) (J Jx : List Spot → World → Prop)
    (hY : ∀ pre x W, J pre W → pre.length < nn → YieldAt F (n - 1) Tryz.prog l #[spotV x] W fun e W' =>
      (e = .returned (.bool true) ∧ J (pre ++ [x]) W' ∧ KeepsWalks W W') ∨ (e = .returned (.bool false) ∧ Jx (pre ++ [x]) W'))
    (W : World) (hJ : AbidesFrom W.heap.size J) (hm : W.cell? ⟨Bm, 0, none⟩ = some (.map (some b))) (hM : MapIs W b nn en) (h0 : J [] W) :
    CallsIn F n Tryz.prog 108 #[.func (.yield l) #[] #[], .pointer (some ⟨Bm, 0, none⟩)] W fun e W' => (∃ v, e = .returned v) ∧
      ((∃ ss, (ss.Nodup ∧ ∀ p, p ∈ ss ↔ p ∈ en.map (·.1)) ∧ J ss W') ∨ (∃ pre, (pre.Nodup ∧ ∀ p ∈ pre, p ∈ en.map (·.1)) ∧ Jx pre W')) := by
  obtain ⟨D, hown, hnd, hfit, hkeys⟩ := hM
  refine callsIn_of_wp Tryz.func108 rfl hf ?_ hro
  simp only [Tryz.ntmps108, List.size_toArray, List.length_cons, List.length_nil, Nat.reduceAdd, Nat.reduceSub, Array.replicate_succ, Array.replicate_zero, List.push_toArray, List.append_toArray, List.nil_append, List.cons_append]
  have hlk0 := Lib.hid hkeys
  clear hkeys
  gi_wp2_with (first | (gi_at_range; refine wpListIn_range_own _ rfl _ 80 rfl 85 3 spotLaw Tryz.underlying80 _ b nn _ rfl hown ?_; intro w0 hrg0 hg0 hs0) | gi_in)
  go_frame
  gi_loopw [3] (fun _ wr => ∃ (left : Lit → Bool) (cnt : Nat) (ss : List Spot), wr.ranges Tryz.prog 85 (plainElem Tryz.prog 3) b W.heap.size nn D left cnt ∧ ss.length + cnt ≤ Maps.size D ∧ CollS en left ss ∧ J ss wr)
    (fun _ wr => wr.rangeLeft b W.heap.size)
  case atStart =>
    exact ⟨_, _, [], hrg0, by simp, CollS.start (fun p hp => (hlk0.out p hp).1), hJ [] W w0 none h0 hg0 (fun r e => by cases e)⟩
  case round =>
    obtain ⟨left, cnt, ss, hrg, hcs, hC, hJs⟩ := hrel
    have hsz := hown.size_le
    gi_wp2_with (first | (gi_at_next; refine wpListIn_next_ranges _ rfl _ rfl 85 spotLaw (plainElem Tryz.prog 3) spotV id (fun key kl hk => by obtain ⟨x, _, hx, _⟩ := keyOf_spot_inv hk; exact ⟨x, hx⟩) (fun v _ _ => ⟨v, rfl⟩) b W.heap.size nn _ _ _ rfl hrg ?_ ?_) | gi_in)
    · intro hc0 hl0
      gi_wp2
      go_end0
      exact ⟨⟨_, rfl⟩, .inl ⟨ss, hC.all hl0 hfit, hJs⟩⟩
    · intro x0 x1 c kl yd yp w2 cnt2 hkey hlk hv hat hrg2 hlt hg2 hs2 hen
      obtain ⟨x', fx, ex, rfl⟩ := keyOf_spot_inv hkey
      obtain rfl : (x0, x1) = x' := by simp at ex; exact Prod.ext ex.1 ex.2
      have hJ2 : J ss w2 := hJ ss wr w2 (some W.heap.size) hJs hg2 (fun r e => by cases e; exact ⟨Nat.le_refl _, hrg.iter_walk⟩)
      have hhas : hasK en (x0, x1) = true := by rw [← (hlk0.out (x0, x1) fx).1]; exact has_true_of_atKey hat
      have hC2 := hC.step fx hlk hhas
      clear hs2 hkey hhas
      obtain ⟨fn, tmps, assign, body, hy, hR⟩ := hY ss (x0, x1) (w2.alloc (.cells #[.int .i64 x0, .int .i64 x1] 85)) (hJ ss w2 _ none hJ2 (World.grownBy_alloc w2 _ none) (fun r e => by cases e)) (by omega)
      gi_wp2
      refine hR.mono ?_
      rintro e W3 (⟨rfl, hJ3, hk3⟩ | ⟨rfl, hJx3⟩)
      · gi_wp2
        have hrg3 := (hrg2.alloc (.cells #[.int .i64 x0, .int .i64 x1] 85)).of_walks hk3
        go_roundw
        case rel => exact ⟨_, cnt2, ss ++ [(x0, x1)], hrg3, by simp; omega, hC2, hJ3⟩
        case measure => rw [hrg3.left_eq, hrg.left_eq]; exact hlt
      · gi_wp2
        refine bodyPost_ret (results_none rfl _ _ _) rfl ?_
        exact ⟨⟨_, rfl⟩, .inr ⟨ss ++ [(x0, x1)], ⟨hC2.1, fun y hy => by have fy := hC2.2.1 y hy; exact hasK_iff.1 ((hC2.2.2 y fy).1 hy).1⟩, hJx3⟩⟩

theorem keys_in (F : Fence) (n : Nat) (hf : F.fn 78) (hro : F.round = none) (mb : Option Nat) (w : World) :
    CallsIn F n Tryz.prog 78 #[.map mb] w fun e w' => e = .returned (.func (.func 108) #[] #[.pointer (some ⟨w.heap.size, 0, none⟩)]) ∧ w' = w.alloc (.cells #[.map mb] 80) := by
  refine callsIn_of_wp Tryz.func78 rfl hf ?_ hro
  simp only [Tryz.ntmps78, List.size_toArray, List.length_cons, List.length_nil, Nat.reduceAdd, Nat.reduceSub, Array.replicate_succ, Array.replicate_zero, List.push_toArray, List.append_toArray, List.nil_append, List.cons_append]
  gi_wp2
  go_ret
  exact ⟨rfl, rfl⟩

/-- the iterator's value, as a sequence that may be stopped -/
theorem keys_stops (F : Fence) (n : Nat) (hf : F.fn 108) (hro : F.round = none) (hn : 1 ≤ n) (Bm b nn : Nat) (en : List (Spot × Int)) (w : World) (hBm : Bm < w.heap.size)
    (hm : w.cell? ⟨Bm, 0, none⟩ = some (.map (some b))) (hM : MapIs w b nn en) :
    SeqStopsK F n Tryz.prog 108 #[.pointer (some ⟨Bm, 0, none⟩)] (fun x : Spot => #[spotV x]) KeepsWalks (fun ss => ss.Nodup ∧ ∀ p, p ∈ ss ↔ p ∈ en.map (·.1)) (fun pre => pre.Nodup ∧ ∀ p ∈ pre, p ∈ en.map (·.1)) nn w := fun l J Jx W hW hJ _ hY h0 =>
  keys1_in F n hf hro hn l Bm b nn en J Jx hY W hJ ((hW.cell (p := ⟨Bm, 0, none⟩) hBm).trans hm) (hM.below hW hM.lt) h0
end Go.Proofs.YtjfdbigkbgolmaaGreatDoor
namespace Go.Proofs.YtjfdbigkbgolmaaGreatDoor
set_option linter.unusedVariables false
set_option linter.unusedSimpArgs false
open Go.RowKit Go.Shelf
/-- block B holds these cells, none frozen -/
def Blk (W : World) (B : Nat) (c : Array Value) (t : TypeId) : Prop := W.heap[B]? = some (.cells c t (0, 0))
theorem Blk.kept {W W' : World} {B : Nat} {c : Array Value} {t : TypeId} {row : Option Nat} (h : Blk W B c t) (hg : W.grownBy W' row) (hr : row ≠ some B) : Blk W' B c t := by
  exact (hg.block B (Array.getElem?_eq_some_iff.1 h).1 (fun e => hr e.symm)).trans h
theorem Blk.new (W : World) (c : Array Value) (t : TypeId) : Blk (W.alloc (.cells c t)) W.heap.size c t := by unfold Blk World.alloc; simp
theorem Blk.alloc {W : World} {B : Nat} {c : Array Value} {t : TypeId} (h : Blk W B c t) (o : Obj) : Blk (W.alloc o) B c t := h.kept (World.grownBy_alloc W o none) (by simp)
theorem Blk.lt {W : World} {B : Nat} {c : Array Value} {t : TypeId} (h : Blk W B c t) : B < W.heap.size := (Array.getElem?_eq_some_iff.1 h).1
theorem Blk.cell {W : World} {B : Nat} {c : Array Value} {t : TypeId} (h : Blk W B c t) (i : Nat) : W.cell? ⟨B, i, none⟩ = c[i]? := cell_of_block h i
theorem Blk.frozen {W : World} {B : Nat} {c : Array Value} {t : TypeId} (h : Blk W B c t) (i : Nat) : W.frozen? ⟨B, i, none⟩ = false := by
  unfold World.frozen?; rw [show W.heap[B]? = _ from h]; simp
theorem Blk.below {W W' : World} {B n₀ : Nat} {c : Array Value} {t : TypeId} (h : Blk W B c t) (hb : Below n₀ W W') (hB : B < n₀) : Blk W' B c t := (hb.block B hB).trans h
theorem Blk.set {W : World} {B : Nat} {c : Array Value} {t : TypeId} (h : Blk W B c t) (i : Nat) (v : Value) : Blk (W.setCell ⟨B, i, none⟩ v) B (c.setIfInBounds i v) t := by
  unfold Blk at *
  unfold World.setCell
  simp [Array.getElem?_modify, h]
theorem Blk.other {W : World} {B B' : Nat} {c : Array Value} {t : TypeId} (h : Blk W B c t) (hne : B ≠ B') (i : Nat) (v : Value) : Blk (W.setCell ⟨B', i, none⟩ v) B c t := by
  unfold Blk at *
  rw [Below.heap_setCell _ _ _ _ (by simpa using hne)]
  exact h
theorem Blk.grow {W : World} {B : Nat} {c : Array Value} {t : TypeId} (h : Blk W B c t) (p : Growth) : Blk (W.growBy p) B c t := h.kept (grownBy_growBy W p) (by simp)
theorem Blk.drew {W : World} {B : Nat} {c : Array Value} {t : TypeId} (h : Blk W B c t) : Blk W.drew B c t := h
theorem blk_own {β : Type} (B : Nat) (t : TypeId) (f : β → Array Value) : Own (fun s W => Blk W B (f s) t) := fun s X Y row hs hg hrow =>
  hs.kept hg (fun e' => by obtain ⟨o, ho, hc⟩ := hrow B e'; rw [show X.heap[B]? = _ from hs] at ho; cases ho; cases hc)


theorem ownsRow_turn {W W' : World} {row : Option Nat} {base : Nat} {e : TypeId} {size : Nat} {v : Value} {k : Nat} {xs : List Value} (h : W.ownsRow base e size v k xs) (hg : W.grownBy W' row)
    (hrow : ∀ r, row = some r → ∃ o : Obj, W.heap[r]? = some o ∧ ∀ cur, o ≠ .cells cur e (0, 0)) : W'.ownsRow base e size v k xs := by
  refine h.kept hg ?_
  rcases h.2 with ⟨rfl, _⟩ | ⟨g, cap, cur, rfl, _, hgb, _⟩
  · exact .inl rfl
  · refine .inr fun e' => ?_
    obtain ⟨o, ho, hw⟩ := hrow g (by simpa [Value.ownBlock] using e'.symm)
    rw [hgb] at ho; cases ho; exact hw cur rfl
theorem ownsRow_cells {W : World} {base : Nat} {e : TypeId} {size : Nat} {v : Value} {k : Nat} {xs : List Value} (h : W.ownsRow base e size v k xs) : ∀ (j : Nat) (o : Obj), v.ownBlock = some j → W.heap[j]? = some o → o.isCells = true := by
  intro j o hj ho
  rcases h.2 with ⟨rfl, _⟩ | ⟨g, cap, cur, rfl, _, hgb, _⟩
  · simp [Value.ownBlock] at hj
  · have : g = j := by simpa [Value.ownBlock] using hj
    subst this; rw [hgb] at ho; cases ho; rfl
/-- a block of another type is not the row -/
theorem ownsRow_other {W : World} {base : Nat} {e t : TypeId} {size : Nat} {v : Value} {k : Nat} {xs : List Value} (h : W.ownsRow base e size v k xs) {B : Nat} {c : Array Value} (hb : Blk W B c t) (hne : t ≠ e) : v.ownBlock ≠ some B := by
  intro hj
  rcases h.2 with ⟨rfl, _⟩ | ⟨g, cap, cur, rfl, _, hgb, _⟩
  · simp [Value.ownBlock] at hj
  · have : g = B := by simpa [Value.ownBlock] using hj
    subst this
    rw [show W.heap[g]? = _ from hb] at hgb
    cases hgb
    exact hne rfl
end Go.Proofs.YtjfdbigkbgolmaaGreatDoor
namespace Go.Proofs.YtjfdbigkbgolmaaGreatDoor
set_option linter.unusedVariables false
set_option linter.unusedSimpArgs false
open Go.RowKit Go.Shelf
attribute [local go_sem] Oper.semAt_some

theorem spotInfo : (Tryz.prog.info? 85).map (fun i => (i.zero, i.size, i.bytes)) = some (some (.agg #[.int .i64 0, .int .i64 0]), 2, 16) := by kernel_rfl

structure ApI (w : World) (B : Nat) (pre : List Spot) (W : World) : Prop where
  box : ∃ v, Blk W B #[v] 139 ∧ W.ownsRow w.heap.size 85 2 v pre.length (pre.flatMap encS) ∧ (v = .slice none 0 0 ↔ pre = [])
  below : Below w.heap.size w W
theorem apI_own (w : World) (B B' : Nat) (hB : w.heap.size ≤ B') : OwnFrom B' (ApI w B) := fun s X Y row hs hg hr => by
  obtain ⟨v, hb, hrow, hn⟩ := hs.box
  exact ⟨⟨v, hb.kept hg (fun e' => by obtain ⟨-, o, ho, hc⟩ := hr B e'; rw [show X.heap[B]? = _ from hb] at ho; cases ho; cases hc),
    ownsRow_turn hrow hg (fun r e => by obtain ⟨-, o, ho, hc⟩ := hr r e; exact ⟨o, ho, fun cur e => by subst e; cases hc⟩), hn⟩, hs.below.grown hg hs.below.size (fun k e => Nat.le_trans hB (hr k e).1)⟩

set_option maxRecDepth 100000 in
set_option maxHeartbeats 4000000 in
theorem appendSeq_in (F : Fence) (n : Nat) (hf : F.fn 130) (hro : F.round = none) (hn : 2 ≤ n) (g : Nat) (lb : Array Value) (hFg : F.fn g) (eg : ∀ args w, (callFunc g args).run Tryz.prog w = .ok (.enter g args) w)
    (S Sp : List Spot → Prop) (N : Nat) (hN : N ≤ 4294967296) (w : World) (hseq : SeqStopsK F (n - 1) Tryz.prog g lb (fun x : Spot => #[spotV x]) KeepsWalks S Sp N w) :
    CallsIn F n Tryz.prog 130 #[.slice none 0 0, .func (.func g) #[] lb] w fun e w' => ∃ v ss, e = .returned v ∧ S ss ∧ w'.ownsRow w.heap.size 85 2 v ss.length (ss.flatMap encS) ∧ (v = .slice none 0 0 ↔ ss = []) ∧ Below w.heap.size w w' := by
  have h1 : 1 ≤ n := by omega
  obtain ⟨i0, hi0, hz0, hz1, hz2⟩ := info_parts spotInfo
  refine callsIn_of_wp_marks Tryz.func130 rfl hf ?_ hro
  simp only [Tryz.ntmps130, List.size_toArray, List.length_cons, List.length_nil, Nat.reduceAdd, Nat.reduceSub, Array.replicate_succ, Array.replicate_zero, List.push_toArray, List.append_toArray, List.nil_append, List.cons_append]
  gi_wp2
  have bS := Blk.new w #[.slice none 0 0] 139
  obtain ⟨W0, hW0⟩ : ∃ W0, w.alloc (.cells #[.slice none 0 0] 139) = W0 := ⟨_, rfl⟩
  have hB0 : Below w.heap.size w W0 := by rw [← hW0]; exact (by repeat' (first | with_reducible exact Below.refl _ _ | with_reducible exact Nat.le_refl _ | with_reducible assumption | with_reducible refine Go.below_growBy' ?_ ?_ _ | with_reducible refine Below.alloc ?_ ?_ _ | with_reducible refine Below.setCell ?_ ?_ _ | with_reducible refine Below.drew ?_ | with_reducible refine Go.le_alloc ?_ | with_reducible refine Go.le_growBy ?_ | with_reducible refine Go.le_setCell ?_ | with_reducible refine Go.le_drew ?_ | omega | (dsimp only; omega)))
  have hsz : W0.heap.size = w.heap.size + 1 := by rw [← hW0]; simp
  rw [hW0] at bS ⊢
  clear hW0
  refine wpIn_rangeFunc_ownH hro h1 (gf := g) (lb := lb) rfl hFg eg hseq walksK_t walksK_b hB0 (fun _ => rfl)
    (ApI w w.heap.size) (fun _ _ _ => False)
    (apI_own w _ _ (by omega)) (fun c => ownFrom_pure _ _)
    ⟨⟨_, bS, ⟨rfl, .inl ⟨rfl, rfl⟩⟩, by simp⟩, hB0⟩
    (fun x a' W => ∃ Bx, w.heap.size < Bx ∧ Blk W Bx #[.int .i64 x.1, .int .i64 x.2] 85 ∧ a' = { tmps := #[.slice none 0 0, .func (.func g) #[] lb, .pointer (some ⟨w.heap.size, 0, none⟩), undef, .slice none 0 0, .pointer (some ⟨Bx, 0, none⟩), .func (.func g) #[] lb, spotV x, undef, undef, undef, undef, undef], defers := [] })
    (fun x a' _ X Y row hs hg hr => by obtain ⟨Bx, h1, h2, h3⟩ := hs; exact ⟨Bx, h1, blk_own Bx 85 (fun (_ : Unit) => #[Value.int .i64 x.1, Value.int .i64 x.2]) () X Y row h2 hg (fun r e => (hr r e).2), h3⟩)
    ?assign ?body ?done ?stop
  case assign =>
    rintro l pre x W K ⟨⟨v, bS1, hrow, hnl⟩, hB1⟩ hK
    gi_wp2
    have hlt := bS1.lt
    exact hK _ _ ((KeepsOthers.alloc _ _).from _) (KeepsWalks.alloc _ _) ⟨⟨v, bS1.alloc _, hrow.alloc _, hnl⟩, hB1.alloc hB1.size _⟩ ⟨W.heap.size, by omega, Blk.new W _ _, rfl⟩
  case body =>
    rintro l pre x a' W hl ⟨r, hr⟩ ⟨⟨v, bS1, hrow, hnl⟩, hB1⟩ ⟨Bx, hBx, bX, rfl⟩ hlt
    have cS : W.cell? ⟨w.heap.size, 0, none⟩ = some v := bS1.cell 0
    have fS := bS1.frozen 0
    have cX0 : W.cell? ⟨Bx, 0, none⟩ = some (.int .i64 x.1) := bX.cell 0
    have cX1 : W.cell? ⟨Bx, 1, none⟩ = some (.int .i64 x.2) := bX.cell 1
    obtain ⟨x0, x1⟩ := x
    simp only at cX0 cX1
    have hne : 139 ≠ 85 := by decide
    have hne2 := ownsRow_other (hrow.alloc (.cells #[.int .i64 x0, .int .i64 x1] 85)) (bS1.alloc _) hne
    have hsW := hB1.size
    have hnews : ∀ j u, (encS (x0, x1))[j]? = some u → (W.alloc (.cells #[.int .i64 x0, .int .i64 x1] 85)).cell? ((⟨W.heap.size, 0, none⟩ : Addr).add j) = some u := fun j u hj => by
      have hb := (Blk.new W #[.int .i64 x0, .int .i64 x1] 85).cell j
      rw [Go.WideShapes.add_plain, Nat.zero_add, hb]
      match j, hj with
      | 0, hj => exact hj
      | 1, hj => exact hj
      | j + 2, hj => simp at hj
    have h1c : ∀ u ∈ encS (x0, x1), u.oneCell' = true := by simp [Value.oneCell']
    gi_wp2_with (first | (gi_at_builtin; refine wpListIn_append_own _ (by rfl) _ _ 139 (by rfl) w.heap.size 85 i0 _ 2 16 Tryz.underlying139 hi0 hz0 hz1 hz2 (by rfl) (by decide) v pre.length _ (by rfl) (hrow.alloc _) ⟨W.heap.size, 0, none⟩ 1 1 (encS (x0, x1)) (by rfl) (by rfl) hnews h1c (by unfold maxLen; omega) (by omega) (by simp; omega) ?_; intro v' w3 hown' hg3 hnil3; have bS3 := (bS1.alloc (.cells #[.int .i64 x0, .int .i64 x1] 85)).kept hg3 hne2; have cS3 : w3.cell? ⟨w.heap.size, 0, none⟩ = some v := bS3.cell 0; have fS3 := bS3.frozen 0; obtain ⟨g', cap', rfl⟩ : ∃ g' cap', v' = .slice (some ⟨g', 0, none⟩) (pre.length + 1) cap' := (by rcases hown'.2 with ⟨_, h0⟩ | ⟨g', cap', cur', e', _⟩; exact absurd h0 (by omega); exact ⟨g', cap', e'⟩); go_frame) | gi_in)
    have hko : KeepsOthers W (w3.setCell ⟨w.heap.size, 0, none⟩ (.slice (some ⟨g', 0, none⟩) (pre.length + 1) cap')) :=
      (KeepsOthers.alloc _ _).trans ((KeepsOthers.of_grownBy hg3 (ownsRow_cells (hrow.alloc _))).trans (KeepsOthers.setCell _ _ _))
    have hB3 : Below w.heap.size w w3 := (hB1.alloc hsW _).grown hg3 (by simp; omega) (fun k e => (hrow.lt k e).1)
    refine ⟨hko.from _, hko.walks, ⟨⟨_, by have := bS3.set 0 (.slice (some ⟨g', 0, none⟩) (pre.length + 1) cap'); simpa using this, ?_, by simp⟩, hB3.setCell (p := ⟨w.heap.size, 0, none⟩) (Nat.le_refl _) _⟩⟩
    have := hown'.kept (grownBy_setCell' w3 w.heap.size (.slice (some ⟨g', 0, none⟩) (pre.length + 1) cap')) (.inr (ownsRow_other hown' bS3 hne))
    simpa using this
  case done =>
    rintro D ys W hD hS ⟨⟨v, bS1, hrow, hnl⟩, hB1⟩ hK
    have cS : W.cell? ⟨w.heap.size, 0, none⟩ = some v := bS1.cell 0
    have fS := bS1.frozen 0
    gi_wp2
    refine ⟨by simp, .inl ⟨_, _, rfl, run_takeDeferred hK, ?_⟩⟩
    exact ⟨_, results_tmp rfl _ _ _, v, ys, rfl, hS, ownsRow_turn hrow (grownBy_putObj' _ _ _) (fun r e => by cases e; exact ⟨_, hK, fun cur e => by cases e⟩), hnl, hB1.grown (grownBy_putObj' _ _ _) hB1.size (fun k e => by cases e; omega)⟩
  case stop =>
    rintro D c pre W hD hS hF hK
    exact hF.elim

set_option maxHeartbeats 1000000 in
theorem collect_in (F : Fence) (n : Nat) (hf : F.fn 106) (hf2 : F.fn 130) (hro : F.round = none) (hn : 3 ≤ n) (g : Nat) (lb : Array Value) (hFg : F.fn g) (eg : ∀ args w, (callFunc g args).run Tryz.prog w = .ok (.enter g args) w)
    (S Sp : List Spot → Prop) (N : Nat) (hN : N ≤ 4294967296) (w : World) (hseq : SeqStopsK F (n - 1 - 1) Tryz.prog g lb (fun x : Spot => #[spotV x]) KeepsWalks S Sp N w) :
    CallsIn F n Tryz.prog 106 #[.func (.func g) #[] lb] w fun e w' => ∃ v ss, e = .returned v ∧ S ss ∧ w'.ownsRow w.heap.size 85 2 v ss.length (ss.flatMap encS) ∧ (v = .slice none 0 0 ↔ ss = []) ∧ Below w.heap.size w w' := by
  have h1 : 1 ≤ n := by omega
  refine callsIn_of_wp Tryz.func106 rfl hf ?_ hro
  simp only [Tryz.ntmps106, List.size_toArray, List.length_cons, List.length_nil, Nat.reduceAdd, Nat.reduceSub, Array.replicate_succ, Array.replicate_zero, List.push_toArray, List.append_toArray, List.nil_append, List.cons_append]
  gi_wp2_with (gi_at_call 130; refine (appendSeq_in F (n - 1) hf2 hro (by omega) g lb hFg eg S Sp N hN _ hseq).mono ?_; rintro e w' ⟨v, ss, rfl, hS, hrow, hnl, hb⟩)
  go_ret
  exact ⟨v, ss, rfl, hS, hrow, hnl, hb⟩
end Go.Proofs.YtjfdbigkbgolmaaGreatDoor
namespace Go.Proofs.YtjfdbigkbgolmaaGreatDoor
set_option linter.unusedVariables false
set_option linter.unusedSimpArgs false
open Go.RowKit Go.Shelf Go.Sort Go.Lib
attribute [local go_sem] Oper.semAt_some

set_option maxHeartbeats 1000000 in
/-- cmp.Or of two numbers -/
theorem or2_any (x y r : Int) (hr : (if x = 0 then y else x) = r) (b : Nat) (w : World) (h0 : w.cell? ⟨b, 0, none⟩ = some (.int .i64 x)) (h1 : w.cell? ⟨b, 1, none⟩ = some (.int .i64 y)) :
    Calls Tryz.prog 80 #[.slice (some ⟨b, 0, none⟩) 2 2] w fun e w' => e = .returned (.int .i64 r) ∧ w = w' := by
  by_cases hx : x = 0
  · subst hx
    rw [if_pos rfl] at hr
    subst hr
    by_cases hy : y = 0
    · subst hy
      go_enter Tryz.func80, Tryz.ntmps80
      go_wp2_with fail
      refine wp_loop_rounds 3 ?_
      rw [rounds_succ]
      go_wp2_with fail
      rw [rounds_succ]
      go_wp2_with fail
      rw [rounds_succ]
      go_wp2_with fail
      go_ret
      exact ⟨rfl, rfl⟩
    · go_enter Tryz.func80, Tryz.ntmps80
      go_wp2_with fail
      refine wp_loop_rounds 2 ?_
      rw [rounds_succ]
      go_wp2_with fail
      rw [rounds_succ]
      go_wp2_with fail
      go_ret
      exact ⟨rfl, rfl⟩
  · rw [if_neg hx] at hr
    subst hr
    go_enter Tryz.func80, Tryz.ntmps80
    go_wp2_with fail
    refine wp_loop_rounds 1 ?_
    rw [rounds_succ]
    go_wp2_with fail
    go_ret
    exact ⟨rfl, rfl⟩

/-- the order: by y, then by x -/
def cmpS (p q : Spot) : Int := if compareInt p.2 q.2 = 0 then compareInt p.1 q.1 else compareInt p.2 q.2
theorem cmpCI_lt {a b : Int} : compareInt a b < 0 ↔ a < b := by
  unfold compareInt
  split
  · simp; assumption
  · split <;> simp <;> omega
theorem cmpCI_eq {a b : Int} : compareInt a b = 0 ↔ a = b := by
  unfold compareInt
  split
  · simp; omega
  · split <;> simp <;> omega
def ltS (p q : Spot) : Bool := decide (p.2 < q.2) || (decide (p.2 = q.2) && decide (p.1 < q.1))
theorem ltOf_cmpS (p q : Spot) : ltOf cmpS p q = ltS p q := by
  unfold ltOf cmpS ltS
  by_cases h : p.2 = q.2
  · rw [if_pos (cmpCI_eq.2 h)]
    simp [h, cmpCI_lt]
  · rw [if_neg (fun e => h (cmpCI_eq.1 e))]
    simp [h, cmpCI_lt]
theorem swoS : SWO (ltOf cmpS) where
  irrefl x := by rw [ltOf_cmpS]; simp [ltS]
  trans x y z h1 h2 := by rw [ltOf_cmpS] at *; simp [ltS] at *; omega
  ntrans x y z h1 h2 := by rw [ltOf_cmpS] at *; simp [ltS] at *; omega
theorem totS (x y : Spot) (h1 : ltOf cmpS x y = false) (h2 : ltOf cmpS y x = false) : x = y := by
  rw [ltOf_cmpS] at *
  simp [ltS] at *
  exact Prod.ext (by omega) (by omega)

theorem wp_region_grown_tail {P : Program} {id : Nat} {Q : Exit → Act → World → Prop} {a : Act} {w : World} {l : List Oper} (n : Nat) (hm : P.follows .mixedOrders = true) (hB : Region.lexTailB .any l.toArray n = true)
    (h : wpQuiet P l.toArray (fun w' => ∃ p : GrownBy, w' = grow (w.drewN p.n) p.os) (fun a' => ∀ w', (∃ p : GrownBy, w' = grow (w.drewN p.n) p.os) → wpList P l.toArray Q (l.drop n) a' w') (l.take n) a) : (Code.region id l.toArray true).wp P Q a w :=
  wp_region_tail n hm hB ⟨⟨1, #[]⟩, by rw [grow_empty]; rfl⟩ h

theorem cmp_grown (x y : Int) (r : Int) (hr : compareInt x y = r) (w : World) (n : Nat) (os : Array Obj) :
    Calls Tryz.prog 81 #[.int .i64 x, .int .i64 y] (grow (w.drewN n) os) fun e w'' => e = .returned (.int .i64 r) ∧ ∃ p : GrownBy, w'' = grow (w.drewN p.n) p.os :=
  (Go.Proofs.Tryz.cmp_Compare_int x y _).mono fun _ _ ⟨he, hw⟩ => ⟨by rw [he, hr], ⟨n, os⟩, by first | exact hw | exact hw.symm⟩

set_option maxRecDepth 100000 in
set_option maxHeartbeats 2000000 in
theorem cmpS_any (p q : Spot) (w : World) :
    Calls Tryz.prog 79 #[spotV p, spotV q] w fun e w' => e = .returned (.int .i64 (cmpS p q)) ∧ ∃ m os', w' = grow (w.drewN m) os' := by
  obtain ⟨px, py⟩ := p
  obtain ⟨qx, qy⟩ := q
  obtain ⟨r, hr⟩ : ∃ r, cmpS (px, py) (qx, qy) = r := ⟨_, rfl⟩
  rw [hr]
  unfold cmpS at hr
  simp only at hr
  obtain ⟨c1, h1⟩ : ∃ c, compareInt py qy = c := ⟨_, rfl⟩
  obtain ⟨c2, h2⟩ : ∃ c, compareInt px qx = c := ⟨_, rfl⟩
  rw [h1, h2] at hr
  replace h1 := Lib.hid h1
  replace h2 := Lib.hid h2
  replace hr := Lib.hid hr
  go_enter Tryz.func79, Tryz.ntmps79
  go_wp2_with fail
  obtain ⟨W, hW⟩ : ∃ W, (w.alloc (.cells #[.int .i64 px, .int .i64 py] 85)).alloc (.cells #[.int .i64 qx, .int .i64 qy] 85) = W := ⟨_, rfl⟩
  have k1 := (Blk.new w #[.int .i64 px, .int .i64 py] 85).alloc (.cells #[.int .i64 qx, .int .i64 qy] 85)
  have k2 := Blk.new (w.alloc (.cells #[.int .i64 px, .int .i64 py] 85)) #[.int .i64 qx, .int .i64 qy] 85
  simp only [World.size_alloc] at k2
  rw [hW] at k1 k2 ⊢
  have f0 := fun n os => cell_grown (a := ⟨w.heap.size, 0, none⟩) k1.lt (k1.cell 0) n os
  have f1 := fun n os => cell_grown (a := ⟨w.heap.size, 1, none⟩) k1.lt (k1.cell 1) n os
  have f2 := fun n os => cell_grown (a := ⟨w.heap.size + 1, 0, none⟩) k2.lt (k2.cell 0) n os
  have f3 := fun n os => cell_grown (a := ⟨w.heap.size + 1, 1, none⟩) k2.lt (k2.cell 1) n os
  simp at f0 f1 f2 f3
  replace hW := Lib.hid hW
  refine wp_region_grown_tail 10 (by kernel_rfl) (by kernel_rfl) ?_
  simp only [List.take_succ_cons, List.take_zero, List.drop_succ_cons, List.drop_zero]
  repeat (first | go_big_quiet_step ((go_at_call 81; exact cmp_grown _ _ _ (by first | with_reducible exact h1.out | with_reducible exact h2.out) _ _ _)) | quiet_step ((go_at_call 81; exact cmp_grown _ _ _ (by first | with_reducible exact h1.out | with_reducible exact h2.out) _ _ _)))
  refine wpQuiet_nil ?_
  intro X hw_
  obtain ⟨⟨nq, osq⟩, hw_⟩ := hw_
  replace hw_ := Lib.hid hw_
  clear f0 f1 f2 f3 k1 k2
  go_wp2_with (go_at_call 80; refine (or2_any _ _ _ hr.out _ _ (by simp) (by simp)).mono ?_; rintro e w' ⟨rfl, rfl⟩)
  go_ret
  refine ⟨rfl, nq, #[Obj.cells #[.int .i64 px, .int .i64 py] 85] ++ #[Obj.cells #[.int .i64 qx, .int .i64 qy] 85] ++ osq ++ #[Obj.cells #[.int .i64 c1, .int .i64 c2] 3], ?_⟩
  rw [hw_.out, ← hW.out]
  simp only [alloc_eq_grow, grow_grow]
  show grow (grow (w.drewN nq) _) _ = _
  rw [grow_grow, Array.append_assoc, Array.append_assoc, Array.append_assoc]

theorem cmpLaysS (blk off size : Nat) (w : World) : CmpLays Tryz.prog 79 #[] encS 2 cmpS blk off size w := fun _ _ _ _ x y => cmpS_any x y _
end Go.Proofs.YtjfdbigkbgolmaaGreatDoor
