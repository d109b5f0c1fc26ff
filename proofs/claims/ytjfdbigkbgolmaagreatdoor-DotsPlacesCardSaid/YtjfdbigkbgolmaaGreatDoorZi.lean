/-
  Chapter 29: the dots of a line, in plain Lean: from its first dot to its last one, each next to a further one, all different.
  Chapter 29: two points of a made sheet: their dots, and the dots of the way between them.
-/
import Derived.Test.YtjfdbigkbgolmaaGreatDoorZe
import Derived.Test.YtjfdbigkbgolmaaGreatDoorZx
import Derived.Test.YtjfdbigkbgolmaaGreatDoorZb
import Derived.Test.YtjfdbigkbgolmaaGreatDoorZl
import Derived.Test.YtjfdbigkbgolmaaGreatDoorZp

namespace Go.Proofs.YtjfdbigkbgolmaaGreatDoor
set_option linter.unusedVariables false
set_option linter.unusedSimpArgs false
open Go.RowKit Go.Shelf

/-- how far a coordinate has gone -/
def goF (t d N : Int) : Int := (2 * t * d + N) / (2 * N)
theorem goF_zero {d N : Int} (h : 0 < N) : goF 0 d N = 0 := by
  unfold goF
  rw [show 2 * 0 * d + N = N from by omega]
  exact Int.ediv_eq_zero_of_lt (by omega) (by omega)
theorem half_zero {N : Int} (h : 0 < N) : N / (2 * N) = 0 := Int.ediv_eq_zero_of_lt (by omega) (by omega)
theorem goF_mul {N q : Int} (h : 0 < N) {x : Int} (hx : x = N + (2 * N) * q) : x / (2 * N) = q := by
  rw [hx, Int.add_mul_ediv_left _ _ (by omega), half_zero h]
  omega
theorem goF_end {d N : Int} (h : 0 < N) : goF N d N = d := goF_mul h (by rw [Int.add_comm])
theorem goF_full {t N : Int} (h : 0 < N) : goF t N N = t := goF_mul h (by rw [Int.add_comm, Int.mul_assoc, Int.mul_comm t N, ← Int.mul_assoc])
theorem goF_neg {t N : Int} (h : 0 < N) : goF t (-N) N = -t := goF_mul h (by rw [Int.add_comm, Int.mul_neg, Int.mul_neg, Int.mul_assoc, Int.mul_comm t N, ← Int.mul_assoc])
theorem goF_step {t d N : Int} (h : 0 < N) (h1 : -N ≤ d) (h2 : d ≤ N) : goF (t + 1) d N ≤ goF t d N + 1 ∧ goF t d N ≤ goF (t + 1) d N + 1 := by
  unfold goF
  have e : 2 * (t + 1) * d + N = 2 * t * d + N + 2 * d := by rw [Int.mul_add, Int.add_mul]; omega
  have e1 : (2 * t * d + N + 2 * N) / (2 * N) = (2 * t * d + N) / (2 * N) + 1 := by
    have := Int.add_mul_ediv_left (2 * t * d + N) 1 (b := 2 * N) (by omega)
    rw [Int.mul_one] at this
    exact this
  have e2 : (2 * t * d + N + 2 * d + 2 * N) / (2 * N) = (2 * t * d + N + 2 * d) / (2 * N) + 1 := by
    have := Int.add_mul_ediv_left (2 * t * d + N + 2 * d) 1 (b := 2 * N) (by omega)
    rw [Int.mul_one] at this
    exact this
  rw [e, ← e1, ← e2]
  exact ⟨Int.ediv_le_ediv (by omega) (by omega), Int.ediv_le_ediv (by omega) (by omega)⟩
theorem goF_mono {s t d N : Int} (h : 0 < N) (hd : 0 ≤ d) (hst : s ≤ t) : goF s d N ≤ goF t d N := by
  unfold goF
  refine Int.ediv_le_ediv (by omega) ?_
  have := Int.mul_le_mul_of_nonneg_right (show 2 * s ≤ 2 * t by omega) hd
  omega
theorem goF_anti {s t d N : Int} (h : 0 < N) (hd : d ≤ 0) (hst : s ≤ t) : goF t d N ≤ goF s d N := by
  unfold goF
  refine Int.ediv_le_ediv (by omega) ?_
  have := Int.mul_le_mul_of_nonpos_right (show 2 * s ≤ 2 * t by omega) hd
  omega
theorem goF_between {t d N : Int} (h : 0 < N) (t0 : 0 ≤ t) (t1 : t ≤ N) : (0 ≤ goF t d N ∧ goF t d N ≤ d) ∨ (d ≤ goF t d N ∧ goF t d N ≤ 0) := by
  rcases Int.le_total 0 d with hd | hd
  · have h1 := goF_mono h hd t0
    have h2 := goF_mono h hd t1
    rw [goF_zero h] at h1
    rw [goF_end h] at h2
    exact .inl ⟨h1, h2⟩
  · have h1 := goF_anti h hd t0
    have h2 := goF_anti h hd t1
    rw [goF_zero h] at h1
    rw [goF_end h] at h2
    exact .inr ⟨h2, h1⟩

/-- the greatest difference -/
theorem lineN_is (a b : Spot) : 0 ≤ lineN a b ∧ (-lineN a b ≤ b.1 - a.1 ∧ b.1 - a.1 ≤ lineN a b) ∧ (-lineN a b ≤ b.2 - a.2 ∧ b.2 - a.2 ≤ lineN a b) ∧
    (b.1 - a.1 = lineN a b ∨ b.1 - a.1 = -lineN a b ∨ b.2 - a.2 = lineN a b ∨ b.2 - a.2 = -lineN a b) := by
  unfold lineN max4 mx
  repeat' split
  all_goals omega
theorem lineAt_go {a b : Spot} (h : 0 < lineN a b) (t : Int) : lineAt a b t = (a.1 + goF t (b.1 - a.1) (lineN a b), a.2 + goF t (b.2 - a.2) (lineN a b)) := by
  unfold lineAt goF
  rw [if_pos h]
theorem lineAt_first (a b : Spot) : lineAt a b 0 = a := by
  by_cases h : 0 < lineN a b
  · rw [lineAt_go h, goF_zero h, goF_zero h]
    exact Prod.ext (by simp) (by simp)
  · unfold lineAt
    rw [if_neg h]
theorem lineAt_last (a b : Spot) : lineAt a b (lineN a b) = b := by
  by_cases h : 0 < lineN a b
  · rw [lineAt_go h, goF_end h, goF_end h]
    exact Prod.ext (by simp only; omega) (by simp only; omega)
  · have := lineN_is a b
    unfold lineAt
    rw [if_neg h]
    exact Prod.ext (by omega) (by omega)
/-- two dots of a line are apart -/
theorem lineAt_ne {a b : Spot} {s t : Int} (h : 0 < lineN a b) (hst : s ≠ t) : lineAt a b s ≠ lineAt a b t := by
  rw [lineAt_go h, lineAt_go h]
  intro e
  have e1 := congrArg Prod.fst e
  have e2 := congrArg Prod.snd e
  simp only at e1 e2
  obtain ⟨-, -, -, h4⟩ := lineN_is a b
  rcases h4 with h4 | h4 | h4 | h4
  · rw [h4, goF_full h, goF_full h] at e1; omega
  · rw [h4, goF_neg h, goF_neg h] at e1; omega
  · rw [h4, goF_full h, goF_full h] at e2; omega
  · rw [h4, goF_neg h, goF_neg h] at e2; omega
/-- the next one touches it -/
theorem lineAt_near {a b : Spot} (h : 0 < lineN a b) (t : Int) : (lineAt a b (t + 1)).1 ≤ (lineAt a b t).1 + 1 ∧ (lineAt a b t).1 ≤ (lineAt a b (t + 1)).1 + 1 ∧ (lineAt a b (t + 1)).2 ≤ (lineAt a b t).2 + 1 ∧ (lineAt a b t).2 ≤ (lineAt a b (t + 1)).2 + 1 := by
  obtain ⟨-, ⟨h1, h2⟩, ⟨h3, h4⟩, -⟩ := lineN_is a b
  have g1 := goF_step (t := t) h h1 h2
  have g2 := goF_step (t := t) h h3 h4
  rw [lineAt_go h, lineAt_go h]
  simp only
  omega
/-- it lies between its ends -/
theorem lineAt_between {a b : Spot} {t : Int} (t0 : 0 ≤ t) (t1 : t ≤ lineN a b) : ((a.1 ≤ (lineAt a b t).1 ∧ (lineAt a b t).1 ≤ b.1) ∨ (b.1 ≤ (lineAt a b t).1 ∧ (lineAt a b t).1 ≤ a.1)) ∧ ((a.2 ≤ (lineAt a b t).2 ∧ (lineAt a b t).2 ≤ b.2) ∨ (b.2 ≤ (lineAt a b t).2 ∧ (lineAt a b t).2 ≤ a.2)) := by
  by_cases h : 0 < lineN a b
  · have g1 := goF_between (d := b.1 - a.1) h t0 t1
    have g2 := goF_between (d := b.2 - a.2) h t0 t1
    rw [lineAt_go h]
    simp only
    omega
  · have := lineN_is a b
    unfold lineAt
    rw [if_neg h]
    omega

/-! ### the entries of a way, and its dots -/
theorem wput_keys {s : Sh} {id : Int} {en : List (Spot × Int)} {d p : Spot} : p ∈ (wput s id en d).map (·.1) ↔ p ∈ en.map (·.1) ∨ (p = d ∧ onS s d.1 d.2 = true) := by
  unfold wput
  split
  · rename_i h
    simp only [Bool.and_eq_true] at h
    rw [putE_keys]
    split
    · rename_i hk
      constructor
      · exact .inl
      · rintro (h1 | ⟨rfl, -⟩)
        · exact h1
        · exact hasK_iff.1 hk
    · simp only [List.mem_append, List.mem_singleton, h.1, and_true]
  · rename_i h
    constructor
    · exact .inl
    · rintro (h1 | ⟨rfl, h2⟩)
      · exact h1
      · simp only [h2, Bool.true_and, Bool.not_eq_true] at h
        by_cases hk : hasK en p = true
        · exact hasK_iff.1 hk
        · simp [hk] at h
theorem wput_nodup {s : Sh} {id : Int} {en : List (Spot × Int)} {d : Spot} (h : (en.map (·.1)).Nodup) : ((wput s id en d).map (·.1)).Nodup := by
  unfold wput
  split
  · rw [putE_keys]
    split
    · exact h
    · rename_i hk
      refine List.nodup_append.2 ⟨h, by simp, fun x hx y hy => ?_⟩
      obtain rfl := List.mem_singleton.1 hy
      intro e
      subst e
      exact hk (hasK_iff.2 hx)
  · exact h
theorem wput_id {s : Sh} {id : Int} {en : List (Spot × Int)} {d : Spot} (h : ∀ p, p ∈ en.map (·.1) → idOf en p = some id) : ∀ p, p ∈ (wput s id en d).map (·.1) → idOf (wput s id en d) p = some id := by
  intro p hp
  have hp' := wput_keys.1 hp
  unfold wput at hp ⊢
  split
  · rw [idOf_put]
    split
    · rfl
    · rename_i hne
      rcases hp' with h1 | ⟨h1, -⟩
      · exact h p h1
      · exact absurd h1 hne
  · rename_i hc
    rw [if_neg hc] at hp
    exact h p hp
theorem linePut_facts (s : Sh) (id : Int) : ∀ (l : List NSpot) (en : List (Spot × Int)), (en.map (·.1)).Nodup → (∀ p, p ∈ en.map (·.1) → idOf en p = some id) →
    ((linePut s id en l).map (·.1)).Nodup ∧ (∀ p, p ∈ (linePut s id en l).map (·.1) → idOf (linePut s id en l) p = some id) ∧ ∀ p, p ∈ (linePut s id en l).map (·.1) ↔ p ∈ en.map (·.1) ∨ ∃ d ∈ l, p = d.1 ∧ onS s p.1 p.2 = true
  | [], en, h1, h2 => ⟨h1, h2, fun p => by simp [linePut]⟩
  | d :: l, en, h1, h2 => by
    obtain ⟨k1, k2, k3⟩ := linePut_facts s id l (wput s id en d.1) (wput_nodup h1) (wput_id h2)
    have e : linePut s id en (d :: l) = linePut s id (wput s id en d.1) l := rfl
    rw [e]
    refine ⟨k1, k2, fun p => ?_⟩
    rw [k3, wput_keys]
    simp only [List.mem_cons, exists_eq_or_imp]
    constructor
    · rintro ((h | ⟨rfl, h⟩) | h)
      · exact .inl h
      · exact .inr (.inl ⟨rfl, h⟩)
      · exact .inr (.inr h)
    · rintro (h | ⟨rfl, h⟩ | h)
      · exact .inl (.inl h)
      · exact .inl (.inr ⟨rfl, h⟩)
      · exact .inr h

/-- the dots of a line, as a list -/
def linePts (a b : Spot) : List Spot := (List.range (lineN a b + 1).toNat).map fun k : Nat => lineAt a b (k : Int)
theorem linePts_length (a b : Spot) : (linePts a b).length = (lineN a b + 1).toNat := by simp [linePts]
theorem linePts_mem {a b p : Spot} : p ∈ linePts a b ↔ ∃ t : Int, 0 ≤ t ∧ t ≤ lineN a b ∧ p = lineAt a b t := by
  have h0 := (lineN_is a b).1
  unfold linePts
  simp only [List.mem_map, List.mem_range]
  constructor
  · rintro ⟨k, hk, rfl⟩
    exact ⟨k, by omega, by omega, rfl⟩
  · rintro ⟨t, t0, t1, rfl⟩
    exact ⟨t.toNat, by omega, by rw [Int.toNat_of_nonneg t0]⟩
theorem linePts_nodup (a b : Spot) : (linePts a b).Nodup := by
  have h0 := (lineN_is a b).1
  unfold linePts
  rw [List.nodup_iff_pairwise_ne, List.pairwise_map]
  refine List.Pairwise.imp_of_mem ?_ List.nodup_range
  intro i j hi hj hij
  rw [List.mem_range] at hi hj
  exact lineAt_ne (by omega) (by omega)

/-- a sheet's dots, for a way that lies on it -/
theorem wayE_keys {s : Sh} {id : Int} {p q : Spot} (hp : onS s (dotOf s p).1 (dotOf s p).2 = true) (hq : onS s (dotOf s q).1 (dotOf s q).2 = true) (hs : OkS s) :
    ((wayE s id p q).map (·.1)).Nodup ∧ (∀ x, x ∈ (wayE s id p q).map (·.1) → idOf (wayE s id p q) x = some id) ∧ (∀ x, x ∈ (wayE s id p q).map (·.1) ↔ x ∈ linePts (dotOf s p) (dotOf s q)) ∧ ∀ x ∈ linePts (dotOf s p) (dotOf s q), onS s x.1 x.2 = true := by
  have hon : ∀ x ∈ linePts (dotOf s p) (dotOf s q), onS s x.1 x.2 = true := by
    intro x hx
    obtain ⟨t, t0, t1, rfl⟩ := linePts_mem.1 hx
    obtain ⟨b1, b2⟩ := lineAt_between t0 t1
    rw [onS_iff] at hp hq ⊢
    omega
  have hfit : ∀ x ∈ linePts (dotOf s p) (dotOf s q), FitS x := by
    intro x hx
    have h := onS_iff.1 (hon x hx)
    have := hs.w1
    have := hs.h1
    exact ⟨⟨by omega, by omega⟩, by omega, by omega⟩
  obtain ⟨a1, a2, a3⟩ := linePut_facts s id (lineL s p q) [] (by simp) (by simp)
  obtain ⟨b1, b2, b3⟩ := linePut_facts s id (lineL s q q) (linePut s id [] (lineL s p q)) a1 a2
  refine ⟨b1, b2, fun x => ?_, hon⟩
  have hN := (lineN_is (dotOf s p) (dotOf s q)).1
  have hmem : ∀ x, (∃ d ∈ lineL s p q, x = d.1 ∧ onS s x.1 x.2 = true) ↔ x ∈ linePts (dotOf s p) (dotOf s q) := by
    intro x
    unfold lineL upto
    simp only [List.mem_map, List.mem_range]
    constructor
    · rintro ⟨d, ⟨k, hk, rfl⟩, hx, -⟩
      have hk' : lineAt (dotOf s p) (dotOf s q) k ∈ linePts (dotOf s p) (dotOf s q) := linePts_mem.2 ⟨k, by omega, by omega, rfl⟩
      rw [lineS_val (hfit _ hk')] at hx
      rw [hx]
      exact hk'
    · intro hx
      obtain ⟨t, t0, t1, rfl⟩ := linePts_mem.1 hx
      refine ⟨_, ⟨t.toNat, by omega, rfl⟩, ?_, hon _ hx⟩
      have e : ((t.toNat : Nat) : Int) = t := Int.toNat_of_nonneg t0
      rw [lineS_val (by rw [e]; exact hfit _ hx), e]
  have hq2 : ∀ x, (∃ d ∈ lineL s q q, x = d.1 ∧ onS s x.1 x.2 = true) → x ∈ linePts (dotOf s p) (dotOf s q) := by
    intro x
    unfold lineL upto
    simp only [List.mem_map, List.mem_range]
    rintro ⟨d, ⟨k, hk, rfl⟩, hx, -⟩
    have h0 : lineN (dotOf s q) (dotOf s q) = 0 := by
      have := lineN_is (dotOf s q) (dotOf s q)
      omega
    rw [h0] at hk
    obtain rfl : k = 0 := by omega
    have hl : dotOf s q ∈ linePts (dotOf s p) (dotOf s q) := linePts_mem.2 ⟨_, hN, Int.le_refl _, (lineAt_last _ _).symm⟩
    have e : lineAt (dotOf s q) (dotOf s q) ((0 : Nat) : Int) = dotOf s q := lineAt_first _ _
    rw [lineS_val (by rw [e]; exact hfit _ hl), e] at hx
    rw [hx]
    exact hl
  show x ∈ (linePut s id (linePut s id [] (lineL s p q)) (lineL s q q)).map (·.1) ↔ _
  rw [b3, a3]
  simp only [List.map_nil, List.not_mem_nil, false_or]
  rw [hmem]
  constructor
  · rintro (h | h)
    · exact h
    · exact hq2 x h
  · exact .inl

theorem keysS_sorted (en : List (Spot × Int)) : (keysS en).Pairwise (fun a b => leS a b = true) := List.pairwise_mergeSort leS_trans leS_total _

/-- what is asked of the dots of a way -/
structure LineDots (s : Sh) (A B : Spot) (L : List Dt) : Prop where
  len : L.length = (lineN A B + 1).toNat
  on : ∀ k, (h : k < L.length) → onS s L[k].x L[k].y = true ∧ L[k].k = 2 ∧ L[k].i = 4
  up : ∀ k, (h : k + 1 < L.length) → L[k].y < L[k + 1].y ∨ (L[k].y = L[k + 1].y ∧ L[k].x < L[k + 1].x)
  first : ∃ k, ∃ h : k < L.length, L[k].x = A.1 ∧ L[k].y = A.2
  last : ∃ k, ∃ h : k < L.length, L[k].x = B.1 ∧ L[k].y = B.2
  near : ∀ k, (h : k < L.length) → 1 < L.length → leastF [L[k]] (L.take k ++ L.drop (k + 1)) = 1

theorem nodup_inj {l : List Spot} (h : l.Nodup) {i j : Nat} (hi : i < l.length) (hj : j < l.length) (e : l[i] = l[j]) : i = j := by
  rw [List.nodup_iff_pairwise_ne, List.pairwise_iff_getElem] at h
  rcases Nat.lt_trichotomy i j with h1 | h1 | h1
  · exact absurd e (h i j hi hj h1)
  · exact h1
  · exact absurd e.symm (h j i hj hi h1)
theorem apF_one {x y : Int} (h1 : x ≤ y + 1) (h2 : y ≤ x + 1) : apF x y ≤ 1 := by unfold apF; repeat' split; all_goals omega
theorem apD_one {d e : Dt} (h1 : d.x ≤ e.x + 1) (h2 : e.x ≤ d.x + 1) (h3 : d.y ≤ e.y + 1) (h4 : e.y ≤ d.y + 1) : apD d e ≤ 1 := by
  have k1 := apF_one h1 h2
  have k2 := apF_one h3 h4
  unfold apD
  split <;> omega
theorem rest_mem {α : Type} {l : List α} {k j : Nat} (hj : j < l.length) (hne : j ≠ k) : l[j] ∈ l.take k ++ l.drop (k + 1) := by
  rw [List.mem_append]
  rcases Nat.lt_or_gt_of_ne hne with h | h
  · left
    rw [List.mem_take_iff_getElem]
    exact ⟨j, by omega, rfl⟩
  · right
    rw [List.mem_drop_iff_getElem]
    exact ⟨j - (k + 1), by omega, by congr 1; omega⟩
theorem rest_inv {α : Type} {l : List α} {k : Nat} {x : α} (h : x ∈ l.take k ++ l.drop (k + 1)) : ∃ j, ∃ hj : j < l.length, j ≠ k ∧ l[j] = x := by
  rw [List.mem_append] at h
  rcases h with h | h
  · rw [List.mem_take_iff_getElem] at h
    obtain ⟨j, hj, rfl⟩ := h
    exact ⟨j, by omega, by omega, rfl⟩
  · rw [List.mem_drop_iff_getElem] at h
    obtain ⟨j, hj, rfl⟩ := h
    exact ⟨k + 1 + j, by omega, by omega, rfl⟩

theorem lineDots (s : Sh) (p q : Spot) (hp : onS s (dotOf s p).1 (dotOf s p).2 = true) (hq : onS s (dotOf s q).1 (dotOf s q).2 = true) (hs : OkS s) : LineDots s (dotOf s p) (dotOf s q) (dotsS 2 (wayE s 4 p q)) := by
  obtain ⟨h1, h2, h3, h4⟩ := wayE_keys (id := 4) hp hq hs
  have hN := (lineN_is (dotOf s p) (dotOf s q)).1
  have hperm := keysS_perm h1 (linePts_nodup (dotOf s p) (dotOf s q)) (fun x => (h3 x).symm)
  have hmem : ∀ x, x ∈ keysS (wayE s 4 p q) ↔ x ∈ linePts (dotOf s p) (dotOf s q) := fun x => hperm.symm.mem_iff
  have hnd : (keysS (wayE s 4 p q)).Nodup := hperm.nodup_iff.1 (linePts_nodup _ _)
  have hso := keysS_sorted (wayE s 4 p q)
  have hlen : (keysS (wayE s 4 p q)).length = (lineN (dotOf s p) (dotOf s q) + 1).toNat := by rw [← hperm.length_eq, linePts_length]
  have hid : ∀ x ∈ keysS (wayE s 4 p q), (idOf (wayE s 4 p q) x).getD 0 = 4 := fun x hx => by rw [h2 x ((h3 x).2 ((hmem x).1 hx))]; rfl
  unfold dotsS
  generalize keysS (wayE s 4 p q) = P at *
  generalize idOf (wayE s 4 p q) = ids at *
  generalize dotOf s p = A at *
  generalize dotOf s q = B at *
  clear h1 h2 h3
  have hat : ∀ x ∈ linePts A B, ∃ k, ∃ h : k < P.length, P[k] = x := fun x hx => List.getElem_of_mem ((hmem x).2 hx)
  refine ⟨by rw [List.length_map, hlen], fun k hk => ?_, fun k hk => ?_, ?_, ?_, fun k hk h1 => ?_⟩
  · rw [List.length_map] at hk
    rw [List.getElem_map]
    exact ⟨h4 _ ((hmem _).1 (List.getElem_mem hk)), rfl, hid _ (List.getElem_mem hk)⟩
  · rw [List.length_map] at hk
    rw [List.getElem_map, List.getElem_map]
    have h5 := List.pairwise_iff_getElem.1 hso k (k + 1) (by omega) hk (by omega)
    have h6 : P[k] ≠ P[k + 1] := fun e => by
      have := nodup_inj hnd (by omega) hk e
      omega
    have h7 : ¬ (P[k].2 = P[k + 1].2 ∧ P[k].1 = P[k + 1].1) := fun e => h6 (Prod.ext e.2 e.1)
    simp only [leS, ltS, Bool.not_eq_true', Bool.or_eq_false_iff, Bool.and_eq_false_imp, decide_eq_false_iff_not, decide_eq_true_eq] at h5
    show P[k].2 < P[k + 1].2 ∨ (P[k].2 = P[k + 1].2 ∧ P[k].1 < P[k + 1].1)
    omega
  · obtain ⟨k, hk, e⟩ := hat A (linePts_mem.2 ⟨0, Int.le_refl _, hN, (lineAt_first A B).symm⟩)
    exact ⟨k, by rw [List.length_map]; exact hk, by rw [List.getElem_map]; exact ⟨congrArg Prod.fst e, congrArg Prod.snd e⟩⟩
  · obtain ⟨k, hk, e⟩ := hat B (linePts_mem.2 ⟨_, hN, Int.le_refl _, (lineAt_last A B).symm⟩)
    exact ⟨k, by rw [List.length_map]; exact hk, by rw [List.getElem_map]; exact ⟨congrArg Prod.fst e, congrArg Prod.snd e⟩⟩
  · have hk' : k < P.length := by simpa using hk
    rw [List.length_map, hlen] at h1
    have hNpos : 0 < lineN A B := by omega
    obtain ⟨t, t0, t1, ht⟩ := linePts_mem.1 ((hmem _).1 (List.getElem_mem hk'))
    have hge : ¬ leastF [(P.map fun p => (⟨p.1, p.2, 2, (ids p).getD 0⟩ : Dt))[k]] ((P.map fun p => (⟨p.1, p.2, 2, (ids p).getD 0⟩ : Dt)).take k ++ (P.map fun p => (⟨p.1, p.2, 2, (ids p).getD 0⟩ : Dt)).drop (k + 1)) ≤ 0 := by
      intro h0
      rcases leastF_le.1 h0 with h0 | ⟨d, hd, e, he, h0⟩
      · omega
      · obtain rfl := List.mem_singleton.1 hd
        obtain ⟨j, hj, hne, rfl⟩ := rest_inv he
        rw [apD_zero, List.getElem_map, List.getElem_map] at h0
        have hj' : j < P.length := by simpa using hj
        have := nodup_inj hnd hk' hj' (Prod.ext h0.1 h0.2)
        omega
    have hle : leastF [(P.map fun p => (⟨p.1, p.2, 2, (ids p).getD 0⟩ : Dt))[k]] ((P.map fun p => (⟨p.1, p.2, 2, (ids p).getD 0⟩ : Dt)).take k ++ (P.map fun p => (⟨p.1, p.2, 2, (ids p).getD 0⟩ : Dt)).drop (k + 1)) ≤ 1 := by
      have key : ∀ u : Int, 0 ≤ u → u ≤ lineN A B → u ≠ t → ((lineAt A B u).1 ≤ (lineAt A B t).1 + 1 ∧ (lineAt A B t).1 ≤ (lineAt A B u).1 + 1 ∧ (lineAt A B u).2 ≤ (lineAt A B t).2 + 1 ∧ (lineAt A B t).2 ≤ (lineAt A B u).2 + 1) →
          ∃ e ∈ ((P.map fun p => (⟨p.1, p.2, 2, (ids p).getD 0⟩ : Dt)).take k ++ (P.map fun p => (⟨p.1, p.2, 2, (ids p).getD 0⟩ : Dt)).drop (k + 1)), apD (P.map fun p => (⟨p.1, p.2, 2, (ids p).getD 0⟩ : Dt))[k] e ≤ 1 := by
        intro u u0 u1 hut hn
        obtain ⟨j, hj, e⟩ := hat (lineAt A B u) (linePts_mem.2 ⟨u, u0, u1, rfl⟩)
        have hjk : j ≠ k := by
          rintro rfl
          exact lineAt_ne hNpos hut (e.symm.trans ht)
        refine ⟨_, rest_mem (l := P.map fun p => (⟨p.1, p.2, 2, (ids p).getD 0⟩ : Dt)) (j := j) (by simpa using hj) hjk, ?_⟩
        rw [List.getElem_map, List.getElem_map, e, ht]
        refine apD_one ?_ ?_ ?_ ?_ <;> simp only <;> omega
      refine leastF_le.2 (.inr ⟨_, List.mem_singleton.2 rfl, ?_⟩)
      by_cases htN : t < lineN A B
      · have hn := lineAt_near hNpos t
        exact key (t + 1) (by omega) (by omega) (by omega) hn
      · have hn := lineAt_near hNpos (t - 1)
        rw [show t - 1 + 1 = t from by omega] at hn
        exact key (t - 1) (by omega) (by omega) (by omega) (by omega)
    omega
end Go.Proofs.YtjfdbigkbgolmaaGreatDoor
namespace Go.Proofs.YtjfdbigkbgolmaaGreatDoor
set_option linter.unusedVariables false
set_option linter.unusedSimpArgs false
open Go.RowKit Go.Shelf Go.Deep

/-- a point of the sheet's area -/
structure InArea (s : Sh) (x y : Int) : Prop where
  x0 : s.ax ≤ x
  x1 : x < s.ax + s.w * s.st
  y0 : s.ay ≤ y
  y1 : y < s.ay + s.h * s.st

theorem MadeS.prod {s : Sh} (h : MadeS s) : (120 ≤ s.w * s.st ∧ s.w * s.st ≤ 680) ∧ (90 ≤ s.h * s.st ∧ s.h * s.st ≤ 510) := by
  have := h.t0
  have := h.w0
  have := h.h0
  have m1 := Int.mul_le_mul (a := s.w) (b := s.st) (c := 40) (d := 17) h.w1 h.t1 (by omega) (by omega)
  have m2 := Int.mul_le_mul (a := s.h) (b := s.st) (c := 30) (d := 17) h.h1 h.t1 (by omega) (by omega)
  have m3 := Int.mul_le_mul (a := 20) (b := 6) (c := s.w) (d := s.st) h.w0 h.t0 (by omega) (by omega)
  have m4 := Int.mul_le_mul (a := 15) (b := 6) (c := s.h) (d := s.st) h.h0 h.t0 (by omega) (by omega)
  exact ⟨⟨m3, m1⟩, m4, m2⟩
theorem MadeS.area {s : Sh} (h : MadeS s) {u v : Int} (hu : 0 ≤ u) (hv : 0 ≤ v) : InArea s (s.ax + u.tmod (s.w * s.st)) (s.ay + v.tmod (s.h * s.st)) := by
  obtain ⟨⟨p1, -⟩, p2, -⟩ := h.prod
  have a1 := Int.tmod_nonneg (s.w * s.st) hu
  have a2 := Int.tmod_lt_of_pos u (b := s.w * s.st) (by omega)
  have b1 := Int.tmod_nonneg (s.h * s.st) hv
  have b2 := Int.tmod_lt_of_pos v (b := s.h * s.st) (by omega)
  exact ⟨by omega, by omega, by omega, by omega⟩
theorem InArea.on {s : Sh} {x y : Int} (h : InArea s x y) (hm : MadeS s) : onS s (dotX s x) (dotY s y) = true := by
  have := hm.t0
  rw [onS_iff]
  unfold dotX dotY
  refine ⟨⟨Int.ediv_nonneg (by have := h.x0; omega) (by omega), Int.ediv_lt_of_lt_mul (by omega) (by have := h.x1; omega)⟩, Int.ediv_nonneg (by have := h.y0; omega) (by omega), Int.ediv_lt_of_lt_mul (by omega) (by have := h.y1; omega)⟩
theorem InArea.right {s : Sh} {x y : Int} (h : InArea s x y) (hm : MadeS s) : rightP x y = true := by
  obtain ⟨⟨-, p1⟩, -, p2⟩ := hm.prod
  obtain ⟨x0, x1, y0, y1⟩ := h
  obtain ⟨a0, a1, b0, b1, -⟩ := hm
  exact rightP_iff.2 (by omega)
theorem InArea.of {s : Sh} {x y : Int} (h : InArea s x y) (hm : MadeS s) : ofS s x y = (dotX s x, dotY s y, true) := by
  unfold ofS
  rw [if_pos ⟨hm.check, h.right hm, h.on hm⟩]

/-- the dots of the way between two such points -/
def lineL2 (s : Sh) (p q : Spot) : List Dt := dotsS 2 (wayE s 4 p q)
theorem lineL2_dots {s : Sh} {p q : Spot} (hm : MadeS s) (hp : InArea s p.1 p.2) (hq : InArea s q.1 q.2) : LineDots s (dotOf s p) (dotOf s q) (lineL2 s p q) :=
  lineDots s p q (hp.on hm) (hq.on hm) (okS_of hm.check)
theorem LineDots.pos {s : Sh} {A B : Spot} {L : List Dt} (h : LineDots s A B L) : 0 < L.length := by
  obtain ⟨k, hk, -⟩ := h.first
  omega
theorem LineDots.fits {s : Sh} {A B : Spot} {L : List Dt} (h : LineDots s A B L) (hs : OkS s) : ∀ d ∈ L, fits d.x ∧ fits d.y := by
  intro d hd
  obtain ⟨k, hk, rfl⟩ := List.getElem_of_mem hd
  have h1 := onS_iff.1 (h.on k hk).1
  have := hs.w1
  have := hs.h1
  exact ⟨⟨by omega, by omega⟩, by omega, by omega⟩
theorem lineN_small {s : Sh} {A B : Spot} (hA : onS s A.1 A.2 = true) (hB : onS s B.1 B.2 = true) (hs : OkS s) : lineN A B ≤ 80 := by
  have h1 := onS_iff.1 hA
  have h2 := onS_iff.1 hB
  have := hs.w1
  have := hs.h1
  have h3 := lineN_is A B
  omega
theorem max4_line (i j k n : Int) : max4 (i - k) (k - i) (j - n) (n - j) = lineN (i, j) (k, n) := by
  unfold lineN max4 mx
  simp only
  repeat' split
  all_goals omega

theorem ways_pts (X : World) {s : Sh} {p q : Spot} (hm : MadeS s) (hp : InArea s p.1 p.2) (hq : InArea s q.1 q.2) :
    Calls Tryz.prog 14 #[shV s, .slice (some ⟨X.heap.size + 1, 0, none⟩) 1 1] ((X.alloc (.cells #[.int .i64 p.1, .int .i64 p.2, .int .i64 q.1, .int .i64 q.2] 25)).alloc (.cells (wayC 4 X.heap.size) 62)) fun e w' =>
      ∃ b off cap, e = .returned (.slice (some ⟨b, off, none⟩) (lineL2 s p q).length cap) ∧ (lineL2 s p q).length ≤ cap ∧ Dts w'.heap.size w' (.slice (some ⟨b, off, none⟩) (lineL2 s p q).length cap) (lineL2 s p q) ∧ Below X.heap.size X w' := by
  have hL := lineL2_dots hm hp hq
  have hok := okS_of hm.check
  have hpos := hL.pos
  have hne : wayE s 4 p q ≠ [] := fun e => by
    have : (lineL2 s p q).length = 0 := by unfold lineL2; rw [e, dotsS_length]; rfl
    omega
  have hlen : (lineL2 s p q).length ≤ 81 := by
    have h1 := lineN_small (A := dotOf s p) (B := dotOf s q) (hp.on hm) (hq.on hm) hok
    rw [hL.len]
    omega
  have k1 := (Blk.new X #[.int .i64 p.1, .int .i64 p.2, .int .i64 q.1, .int .i64 q.2] 25).alloc (.cells (wayC 4 X.heap.size) 62)
  have k2 := Blk.new (X.alloc (.cells #[.int .i64 p.1, .int .i64 p.2, .int .i64 q.1, .int .i64 q.2] 25)) (wayC 4 X.heap.size) 62
  rw [World.size_alloc] at k2
  refine ((callsIn_wide (n := 3)).1 (ways1_in s 4 p q _ _ _ hm.check (by decide) hne (hp.right hm) (hq.right hm) k2 k1)).mono ?_
  rintro e w' ⟨v, base, rfl, -, hrow, hb⟩
  have hD : Dts w'.heap.size w' v (lineL2 s p q) := dts_of_row (l := lineL2 s p q) hrow (by omega) (hL.fits hok)
  obtain ⟨b, off, cap, rfl, -, -⟩ := hD.news (fun e => by rw [e] at hpos; simp at hpos)
  have hcap : (lineL2 s p q).length ≤ cap := by
    rcases hrow.2 with ⟨h, -⟩ | ⟨g, c, cur, h, -, -, hc, -⟩
    · simp at h
    · simp only [Value.slice.injEq] at h
      obtain ⟨-, -, rfl⟩ := h
      exact hc
  exact ⟨b, off, cap, rfl, hcap, hD, Below.trans (b := (X.alloc (.cells #[.int .i64 p.1, .int .i64 p.2, .int .i64 q.1, .int .i64 q.2] 25)).alloc (.cells (wayC 4 X.heap.size) 62)) (by repeat' (first | with_reducible exact Below.refl _ _ | with_reducible exact Nat.le_refl _ | with_reducible assumption | with_reducible refine Go.below_growBy' ?_ ?_ _ | with_reducible refine Below.alloc ?_ ?_ _ | with_reducible refine Below.setCell ?_ ?_ _ | with_reducible refine Below.drew ?_ | with_reducible refine Go.le_alloc ?_ | with_reducible refine Go.le_growBy ?_ | with_reducible refine Go.le_setCell ?_ | with_reducible refine Go.le_drew ?_ | omega | (dsimp only; omega))) (hb.mono (by simp; omega))⟩
theorem ways_pts2 {X : World} {B C : Nat} (h1 : X.heap.size = B) (h2 : B + 1 = C) {s : Sh} {p q : Spot} (hm : MadeS s) (hp : InArea s p.1 p.2) (hq : InArea s q.1 q.2) :
    Calls Tryz.prog 14 #[shV s, .slice (some ⟨C, 0, none⟩) 1 1] ((X.alloc (.cells #[.int .i64 p.1, .int .i64 p.2, .int .i64 q.1, .int .i64 q.2] 25)).alloc (.cells (wayC 4 B) 62)) fun e w' =>
      ∃ b off cap, e = .returned (.slice (some ⟨b, off, none⟩) (lineL2 s p q).length cap) ∧ (lineL2 s p q).length ≤ cap ∧ Dts w'.heap.size w' (.slice (some ⟨b, off, none⟩) (lineL2 s p q).length cap) (lineL2 s p q) ∧ Below X.heap.size X w' := by
  subst h1 h2
  exact ways_pts X hm hp hq

/-- a part of a slice of dots -/
theorem Dts.take {n : Nat} {W : World} {b off cap : Nat} {l : List Dt} (h : Dts n W (.slice (some ⟨b, off, none⟩) l.length cap) l) (k c : Nat) (hk : k ≤ l.length) : Dts n W (.slice (some ⟨b, off, none⟩) k c) (l.take k) := by
  rcases h with ⟨h1, -⟩ | ⟨b', off', cap', h1, hb, hl, hf, hc⟩
  · simp at h1
  · simp only [Value.slice.injEq, Option.some.injEq, Addr.mk.injEq, true_and, and_true] at h1
    obtain ⟨⟨rfl, rfl⟩, rfl⟩ := h1
    refine .inr ⟨b, off, c, by rw [List.length_take, Nat.min_eq_left hk], hb, by rw [List.length_take]; omega, fun d hd => hf d (List.mem_of_mem_take hd), fun j hj => ?_⟩
    rw [List.length_take] at hj
    rw [List.getElem_take]
    exact hc j (by omega)
theorem Dts.drop {n : Nat} {W : World} {b off cap : Nat} {l : List Dt} (h : Dts n W (.slice (some ⟨b, off, none⟩) l.length cap) l) (k c o2 m : Nat) (hk : k ≤ l.length) (ho : o2 = off + k * 4 ∨ k = l.length) (hm : m = l.length - k) : Dts n W (.slice (some ⟨b, o2, none⟩) m c) (l.drop k) := by
  subst hm
  rcases h with ⟨h1, -⟩ | ⟨b', off', cap', h1, hb, hl, hf, hc⟩
  · simp at h1
  · simp only [Value.slice.injEq, Option.some.injEq, Addr.mk.injEq, true_and, and_true] at h1
    obtain ⟨⟨rfl, rfl⟩, rfl⟩ := h1
    refine .inr ⟨b, o2, c, by rw [List.length_drop], hb, by rw [List.length_drop]; omega, fun d hd => hf d (List.mem_of_mem_drop hd), fun j hj => ?_⟩
    rw [List.length_drop] at hj
    rcases ho with rfl | ho
    · rw [List.getElem_drop]
      have := hc (k + j) (by omega)
      rw [show off + k * 4 + j * 4 = off + (k + j) * 4 from by omega]
      exact this
    · omega

/-- append of a part onto a row of the call's own, at a step of a region that draws -/
theorem step_append_part {ops : Array Oper} {o : Oper} {a : Act} {w : World} {K : Act → World → Prop} {Q : Exit → Act → World → Prop} {E : Prop} (hgd : o.guard = none) (s x : Operand)
    (ho : o.op = .call { callee := .builtin .append, args := #[s, x], argTypes := #[42, 42] })
    (base : Nat) (v : Value) (l1 l2 : List Dt) (hs : a.eval s = v) (hv : w.ownsRow base 59 4 v l1.length (l1.flatMap encD)) (b off m c : Nat) (hx : a.eval x = .slice (some ⟨b, off, none⟩) m c) (hD : Dts w.heap.size w (.slice (some ⟨b, off, none⟩) m c) l2)
    (hl : l1.length + l2.length ≤ 1000000) (hb : base ≤ w.heap.size)
    (h : ∀ v' w', w'.ownsRow base 59 4 v' (l1 ++ l2).length ((l1 ++ l2).flatMap encD) → w.grownBy w' v.ownBlock → K (a.put o.dst v') w') :
    if Region.wanted o (yielded ops a.tmps) = true then Oper.wp Tryz.prog o a w K Q else E := by
  have hw : Region.wanted o (yielded ops a.tmps) = true := by simp [Region.wanted, hgd]
  rw [if_pos hw]
  obtain ⟨i0, hi0, hz0, hz1, hz2⟩ := info_parts dotInfo
  have hm : m = l2.length ∧ ∀ j u, (l2.flatMap encD)[j]? = some u → w.cell? ((⟨b, off, none⟩ : Addr).add j) = some u := by
    by_cases hne : l2 = []
    · subst hne
      rcases hD with ⟨h1, -⟩ | ⟨b', off', cap', h1, -⟩
      · simp at h1
      · simp only [Value.slice.injEq] at h1
        exact ⟨h1.2.1, by simp⟩
    · obtain ⟨b', off', cap', h1, -, h2⟩ := hD.news hne
      simp only [Value.slice.injEq, Option.some.injEq, Addr.mk.injEq, and_true] at h1
      obtain ⟨⟨rfl, rfl⟩, rfl, -⟩ := h1
      exact ⟨rfl, h2⟩
  obtain ⟨rfl, hnews⟩ := hm
  obtain ⟨v', w', hr, hown, hgr, -, -⟩ := run_append_own_at (P := Tryz.prog) w base 42 o.type 59 i0 _ 4 32 Tryz.underlying42 hi0 hz0 hz1 hz2 rfl (by omega) v l1.length (l1.flatMap encD) hv ⟨b, off, none⟩ l2.length c (l2.flatMap encD) (flatD_length l2) hnews (flatD_one l2) (by unfold maxLen; omega) (by omega) hb
  unfold Oper.wp execOp
  simp only [ho, resolve, invoke, builtin, Sem.run_bind, Sem.run_pure, Result.andThen_ok, List.map_toArray, List.map_cons, List.map_nil, hs, hx, hr]
  exact h v' w' (by rw [List.length_append, List.flatMap_append]; exact hown) hgr
end Go.Proofs.YtjfdbigkbgolmaaGreatDoor
