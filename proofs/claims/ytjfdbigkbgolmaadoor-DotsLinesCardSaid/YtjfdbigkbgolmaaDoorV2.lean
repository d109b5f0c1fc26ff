/-
  Chapter 29: the dots of a line, in plain Lean: from its first dot to its last one, each next to a further one, all different.
-/
import Derived.Test.YtjfdbigkbgolmaaDoorT3
import Derived.Test.YtjfdbigkbgolmaaDoorW1
import Derived.Test.YtjfdbigkbgolmaaDoorU0
namespace Go.Proofs.YtjfdbigkbgolmaaDoor
open Go.RowKit Go.Shelf

/-- how far a coordinate has gone -/
def goF (t d N : Int) : Int := (2 * t * d + N) / (2 * N)
theorem goF_zero {d N : Int} (h : 0 < N) : goF 0 d N = 0 := by
  unfold goF
  rw [show 2 * 0 * d + N = N from by omega]
  exact Int.ediv_eq_zero_of_lt (by omega) (by omega)
theorem half_zero {N : Int} (h : 0 < N) : N / (2 * N) = 0 := Int.ediv_eq_zero_of_lt (by omega) (by omega)
theorem goF_mul {N q : Int} (h : 0 < N) {x : Int} (hx : x = N + (2 * N) * q) : x / (2 * N) = q := by
  rw [hx, Int.add_mul_ediv_left _ _ (by omega), half_zero h]
  omega
theorem goF_end {d N : Int} (h : 0 < N) : goF N d N = d := goF_mul h (by rw [Int.add_comm])
theorem goF_full {t N : Int} (h : 0 < N) : goF t N N = t := goF_mul h (by rw [Int.add_comm, Int.mul_assoc, Int.mul_comm t N, ← Int.mul_assoc])
theorem goF_neg {t N : Int} (h : 0 < N) : goF t (-N) N = -t := goF_mul h (by rw [Int.add_comm, Int.mul_neg, Int.mul_neg, Int.mul_assoc, Int.mul_comm t N, ← Int.mul_assoc])
theorem goF_step {t d N : Int} (h : 0 < N) (h1 : -N ≤ d) (h2 : d ≤ N) : goF (t + 1) d N ≤ goF t d N + 1 ∧ goF t d N ≤ goF (t + 1) d N + 1 := by
  unfold goF
  have e : 2 * (t + 1) * d + N = 2 * t * d + N + 2 * d := by rw [Int.mul_add, Int.add_mul]; omega
  have e1 : (2 * t * d + N + 2 * N) / (2 * N) = (2 * t * d + N) / (2 * N) + 1 := by
    have := Int.add_mul_ediv_left (2 * t * d + N) 1 (b := 2 * N) (by omega)
    rw [Int.mul_one] at this
    exact this
  have e2 : (2 * t * d + N + 2 * d + 2 * N) / (2 * N) = (2 * t * d + N + 2 * d) / (2 * N) + 1 := by
    have := Int.add_mul_ediv_left (2 * t * d + N + 2 * d) 1 (b := 2 * N) (by omega)
    rw [Int.mul_one] at this
    exact this
  rw [e, ← e1, ← e2]
  exact ⟨Int.ediv_le_ediv (by omega) (by omega), Int.ediv_le_ediv (by omega) (by omega)⟩
theorem goF_mono {s t d N : Int} (h : 0 < N) (hd : 0 ≤ d) (hst : s ≤ t) : goF s d N ≤ goF t d N := by
  unfold goF
  refine Int.ediv_le_ediv (by omega) ?_
  have := Int.mul_le_mul_of_nonneg_right (show 2 * s ≤ 2 * t by omega) hd
  omega
theorem goF_anti {s t d N : Int} (h : 0 < N) (hd : d ≤ 0) (hst : s ≤ t) : goF t d N ≤ goF s d N := by
  unfold goF
  refine Int.ediv_le_ediv (by omega) ?_
  have := Int.mul_le_mul_of_nonpos_right (show 2 * s ≤ 2 * t by omega) hd
  omega
theorem goF_between {t d N : Int} (h : 0 < N) (t0 : 0 ≤ t) (t1 : t ≤ N) : (0 ≤ goF t d N ∧ goF t d N ≤ d) ∨ (d ≤ goF t d N ∧ goF t d N ≤ 0) := by
  rcases Int.le_total 0 d with hd | hd
  · have h1 := goF_mono h hd t0
    have h2 := goF_mono h hd t1
    rw [goF_zero h] at h1
    rw [goF_end h] at h2
    exact .inl ⟨h1, h2⟩
  · have h1 := goF_anti h hd t0
    have h2 := goF_anti h hd t1
    rw [goF_zero h] at h1
    rw [goF_end h] at h2
    exact .inr ⟨h2, h1⟩

/-- the greatest difference -/
theorem lineN_is (a b : Spot) : 0 ≤ lineN a b ∧ (-lineN a b ≤ b.1 - a.1 ∧ b.1 - a.1 ≤ lineN a b) ∧ (-lineN a b ≤ b.2 - a.2 ∧ b.2 - a.2 ≤ lineN a b) ∧
    (b.1 - a.1 = lineN a b ∨ b.1 - a.1 = -lineN a b ∨ b.2 - a.2 = lineN a b ∨ b.2 - a.2 = -lineN a b) := by
  unfold lineN max4 mx
  repeat' split
  all_goals omega
theorem lineAt_go {a b : Spot} (h : 0 < lineN a b) (t : Int) : lineAt a b t = (a.1 + goF t (b.1 - a.1) (lineN a b), a.2 + goF t (b.2 - a.2) (lineN a b)) := by
  unfold lineAt goF
  rw [if_pos h]
theorem lineAt_first (a b : Spot) : lineAt a b 0 = a := by
  by_cases h : 0 < lineN a b
  · rw [lineAt_go h, goF_zero h, goF_zero h]
    exact Prod.ext (by simp) (by simp)
  · unfold lineAt
    rw [if_neg h]
theorem lineAt_last (a b : Spot) : lineAt a b (lineN a b) = b := by
  by_cases h : 0 < lineN a b
  · rw [lineAt_go h, goF_end h, goF_end h]
    exact Prod.ext (by simp only; omega) (by simp only; omega)
  · have := lineN_is a b
    unfold lineAt
    rw [if_neg h]
    exact Prod.ext (by omega) (by omega)
/-- two dots of a line are apart -/
theorem lineAt_ne {a b : Spot} {s t : Int} (h : 0 < lineN a b) (hst : s ≠ t) : lineAt a b s ≠ lineAt a b t := by
  rw [lineAt_go h, lineAt_go h]
  intro e
  have e1 := congrArg Prod.fst e
  have e2 := congrArg Prod.snd e
  simp only at e1 e2
  obtain ⟨-, -, -, h4⟩ := lineN_is a b
  rcases h4 with h4 | h4 | h4 | h4
  · rw [h4, goF_full h, goF_full h] at e1; omega
  · rw [h4, goF_neg h, goF_neg h] at e1; omega
  · rw [h4, goF_full h, goF_full h] at e2; omega
  · rw [h4, goF_neg h, goF_neg h] at e2; omega
/-- the next one touches it -/
theorem lineAt_near {a b : Spot} (h : 0 < lineN a b) (t : Int) : (lineAt a b (t + 1)).1 ≤ (lineAt a b t).1 + 1 ∧ (lineAt a b t).1 ≤ (lineAt a b (t + 1)).1 + 1 ∧ (lineAt a b (t + 1)).2 ≤ (lineAt a b t).2 + 1 ∧ (lineAt a b t).2 ≤ (lineAt a b (t + 1)).2 + 1 := by
  obtain ⟨-, ⟨h1, h2⟩, ⟨h3, h4⟩, -⟩ := lineN_is a b
  have g1 := goF_step (t := t) h h1 h2
  have g2 := goF_step (t := t) h h3 h4
  rw [lineAt_go h, lineAt_go h]
  simp only
  omega
/-- it lies between its ends -/
theorem lineAt_between {a b : Spot} {t : Int} (t0 : 0 ≤ t) (t1 : t ≤ lineN a b) : ((a.1 ≤ (lineAt a b t).1 ∧ (lineAt a b t).1 ≤ b.1) ∨ (b.1 ≤ (lineAt a b t).1 ∧ (lineAt a b t).1 ≤ a.1)) ∧ ((a.2 ≤ (lineAt a b t).2 ∧ (lineAt a b t).2 ≤ b.2) ∨ (b.2 ≤ (lineAt a b t).2 ∧ (lineAt a b t).2 ≤ a.2)) := by
  by_cases h : 0 < lineN a b
  · have g1 := goF_between (d := b.1 - a.1) h t0 t1
    have g2 := goF_between (d := b.2 - a.2) h t0 t1
    rw [lineAt_go h]
    simp only
    omega
  · have := lineN_is a b
    unfold lineAt
    rw [if_neg h]
    omega

/-! ### the entries of a way, and its dots -/
theorem wput_keys {s : Sh} {id : Int} {en : List (Spot × Int)} {d p : Spot} : p ∈ (wput s id en d).map (·.1) ↔ p ∈ en.map (·.1) ∨ (p = d ∧ onS s d.1 d.2 = true) := by
  unfold wput
  split
  · rename_i h
    simp only [Bool.and_eq_true] at h
    rw [putE_keys]
    split
    · rename_i hk
      constructor
      · exact .inl
      · rintro (h1 | ⟨rfl, -⟩)
        · exact h1
        · exact hasK_iff.1 hk
    · simp only [List.mem_append, List.mem_singleton, h.1, and_true]
  · rename_i h
    constructor
    · exact .inl
    · rintro (h1 | ⟨rfl, h2⟩)
      · exact h1
      · simp only [h2, Bool.true_and, Bool.not_eq_true] at h
        by_cases hk : hasK en p = true
        · exact hasK_iff.1 hk
        · simp [hk] at h
theorem wput_nodup {s : Sh} {id : Int} {en : List (Spot × Int)} {d : Spot} (h : (en.map (·.1)).Nodup) : ((wput s id en d).map (·.1)).Nodup := by
  unfold wput
  split
  · rw [putE_keys]
    split
    · exact h
    · rename_i hk
      refine List.nodup_append.2 ⟨h, by simp, fun x hx y hy => ?_⟩
      obtain rfl := List.mem_singleton.1 hy
      intro e
      subst e
      exact hk (hasK_iff.2 hx)
  · exact h
theorem wput_id {s : Sh} {id : Int} {en : List (Spot × Int)} {d : Spot} (h : ∀ p, p ∈ en.map (·.1) → idOf en p = some id) : ∀ p, p ∈ (wput s id en d).map (·.1) → idOf (wput s id en d) p = some id := by
  intro p hp
  have hp' := wput_keys.1 hp
  unfold wput at hp ⊢
  split
  · rw [idOf_put]
    split
    · rfl
    · rename_i hne
      rcases hp' with h1 | ⟨h1, -⟩
      · exact h p h1
      · exact absurd h1 hne
  · rename_i hc
    rw [if_neg hc] at hp
    exact h p hp
theorem linePut_facts (s : Sh) (id : Int) : ∀ (l : List NSpot) (en : List (Spot × Int)), (en.map (·.1)).Nodup → (∀ p, p ∈ en.map (·.1) → idOf en p = some id) →
    ((linePut s id en l).map (·.1)).Nodup ∧ (∀ p, p ∈ (linePut s id en l).map (·.1) → idOf (linePut s id en l) p = some id) ∧ ∀ p, p ∈ (linePut s id en l).map (·.1) ↔ p ∈ en.map (·.1) ∨ ∃ d ∈ l, p = d.1 ∧ onS s p.1 p.2 = true
  | [], en, h1, h2 => ⟨h1, h2, fun p => by simp [linePut]⟩
  | d :: l, en, h1, h2 => by
    obtain ⟨k1, k2, k3⟩ := linePut_facts s id l (wput s id en d.1) (wput_nodup h1) (wput_id h2)
    have e : linePut s id en (d :: l) = linePut s id (wput s id en d.1) l := rfl
    rw [e]
    refine ⟨k1, k2, fun p => ?_⟩
    rw [k3, wput_keys]
    simp only [List.mem_cons, exists_eq_or_imp]
    constructor
    · rintro ((h | ⟨rfl, h⟩) | h)
      · exact .inl h
      · exact .inr (.inl ⟨rfl, h⟩)
      · exact .inr (.inr h)
    · rintro (h | ⟨rfl, h⟩ | h)
      · exact .inl (.inl h)
      · exact .inl (.inr ⟨rfl, h⟩)
      · exact .inr h

/-- the dots of a line, as a list -/
def linePts (a b : Spot) : List Spot := (List.range (lineN a b + 1).toNat).map fun k : Nat => lineAt a b (k : Int)
theorem linePts_length (a b : Spot) : (linePts a b).length = (lineN a b + 1).toNat := by simp [linePts]
theorem linePts_mem {a b p : Spot} : p ∈ linePts a b ↔ ∃ t : Int, 0 ≤ t ∧ t ≤ lineN a b ∧ p = lineAt a b t := by
  have h0 := (lineN_is a b).1
  unfold linePts
  simp only [List.mem_map, List.mem_range]
  constructor
  · rintro ⟨k, hk, rfl⟩
    exact ⟨k, by omega, by omega, rfl⟩
  · rintro ⟨t, t0, t1, rfl⟩
    exact ⟨t.toNat, by omega, by rw [Int.toNat_of_nonneg t0]⟩
theorem linePts_nodup (a b : Spot) : (linePts a b).Nodup := by
  have h0 := (lineN_is a b).1
  unfold linePts
  rw [List.nodup_iff_pairwise_ne, List.pairwise_map]
  refine List.Pairwise.imp_of_mem ?_ List.nodup_range
  intro i j hi hj hij
  rw [List.mem_range] at hi hj
  exact lineAt_ne (by omega) (by omega)

/-- a sheet's dots, for a way that lies on it -/
theorem wayE_keys {s : Sh} {id : Int} {p q : Spot} (hp : onS s (dotOf s p).1 (dotOf s p).2 = true) (hq : onS s (dotOf s q).1 (dotOf s q).2 = true) (hs : OkS s) :
    ((wayE s id p q).map (·.1)).Nodup ∧ (∀ x, x ∈ (wayE s id p q).map (·.1) → idOf (wayE s id p q) x = some id) ∧ (∀ x, x ∈ (wayE s id p q).map (·.1) ↔ x ∈ linePts (dotOf s p) (dotOf s q)) ∧ ∀ x ∈ linePts (dotOf s p) (dotOf s q), onS s x.1 x.2 = true := by
  have hon : ∀ x ∈ linePts (dotOf s p) (dotOf s q), onS s x.1 x.2 = true := by
    intro x hx
    obtain ⟨t, t0, t1, rfl⟩ := linePts_mem.1 hx
    obtain ⟨b1, b2⟩ := lineAt_between t0 t1
    rw [onS_iff] at hp hq ⊢
    omega
  have hfit : ∀ x ∈ linePts (dotOf s p) (dotOf s q), FitS x := by
    intro x hx
    have h := onS_iff.1 (hon x hx)
    have := hs.w1
    have := hs.h1
    exact ⟨⟨by omega, by omega⟩, by omega, by omega⟩
  obtain ⟨a1, a2, a3⟩ := linePut_facts s id (lineL s p q) [] (by simp) (by simp)
  obtain ⟨b1, b2, b3⟩ := linePut_facts s id (lineL s q q) (linePut s id [] (lineL s p q)) a1 a2
  refine ⟨b1, b2, fun x => ?_, hon⟩
  have hN := (lineN_is (dotOf s p) (dotOf s q)).1
  have hmem : ∀ x, (∃ d ∈ lineL s p q, x = d.1 ∧ onS s x.1 x.2 = true) ↔ x ∈ linePts (dotOf s p) (dotOf s q) := by
    intro x
    unfold lineL upto
    simp only [List.mem_map, List.mem_range]
    constructor
    · rintro ⟨d, ⟨k, hk, rfl⟩, hx, -⟩
      have hk' : lineAt (dotOf s p) (dotOf s q) k ∈ linePts (dotOf s p) (dotOf s q) := linePts_mem.2 ⟨k, by omega, by omega, rfl⟩
      rw [lineS_val (hfit _ hk')] at hx
      rw [hx]
      exact hk'
    · intro hx
      obtain ⟨t, t0, t1, rfl⟩ := linePts_mem.1 hx
      refine ⟨_, ⟨t.toNat, by omega, rfl⟩, ?_, hon _ hx⟩
      have e : ((t.toNat : Nat) : Int) = t := Int.toNat_of_nonneg t0
      rw [lineS_val (by rw [e]; exact hfit _ hx), e]
  have hq2 : ∀ x, (∃ d ∈ lineL s q q, x = d.1 ∧ onS s x.1 x.2 = true) → x ∈ linePts (dotOf s p) (dotOf s q) := by
    intro x
    unfold lineL upto
    simp only [List.mem_map, List.mem_range]
    rintro ⟨d, ⟨k, hk, rfl⟩, hx, -⟩
    have h0 : lineN (dotOf s q) (dotOf s q) = 0 := by
      have := lineN_is (dotOf s q) (dotOf s q)
      omega
    rw [h0] at hk
    obtain rfl : k = 0 := by omega
    have hl : dotOf s q ∈ linePts (dotOf s p) (dotOf s q) := linePts_mem.2 ⟨_, hN, Int.le_refl _, (lineAt_last _ _).symm⟩
    have e : lineAt (dotOf s q) (dotOf s q) ((0 : Nat) : Int) = dotOf s q := lineAt_first _ _
    rw [lineS_val (by rw [e]; exact hfit _ hl), e] at hx
    rw [hx]
    exact hl
  show x ∈ (linePut s id (linePut s id [] (lineL s p q)) (lineL s q q)).map (·.1) ↔ _
  rw [b3, a3]
  simp only [List.map_nil, List.not_mem_nil, false_or]
  rw [hmem]
  constructor
  · rintro (h | h)
    · exact h
    · exact hq2 x h
  · exact .inl

theorem keysS_sorted (en : List (Spot × Int)) : (keysS en).Pairwise (fun a b => leS a b = true) := List.pairwise_mergeSort leS_trans leS_total _

/-- what is asked of the dots of a way -/
structure LineDots (s : Sh) (A B : Spot) (L : List Dt) : Prop where
  len : L.length = (lineN A B + 1).toNat
  on : ∀ k, (h : k < L.length) → onS s L[k].x L[k].y = true ∧ L[k].k = 2 ∧ L[k].i = 4
  up : ∀ k, (h : k + 1 < L.length) → L[k].y < L[k + 1].y ∨ (L[k].y = L[k + 1].y ∧ L[k].x < L[k + 1].x)
  first : ∃ k, ∃ h : k < L.length, L[k].x = A.1 ∧ L[k].y = A.2
  last : ∃ k, ∃ h : k < L.length, L[k].x = B.1 ∧ L[k].y = B.2
  near : ∀ k, (h : k < L.length) → 1 < L.length → leastF [L[k]] (L.take k ++ L.drop (k + 1)) = 1

theorem nodup_inj {l : List Spot} (h : l.Nodup) {i j : Nat} (hi : i < l.length) (hj : j < l.length) (e : l[i] = l[j]) : i = j := by
  rw [List.nodup_iff_pairwise_ne, List.pairwise_iff_getElem] at h
  rcases Nat.lt_trichotomy i j with h1 | h1 | h1
  · exact absurd e (h i j hi hj h1)
  · exact h1
  · exact absurd e.symm (h j i hj hi h1)
theorem apF_one {x y : Int} (h1 : x ≤ y + 1) (h2 : y ≤ x + 1) : apF x y ≤ 1 := by unfold apF; repeat' split; all_goals omega
theorem apD_one {d e : Dt} (h1 : d.x ≤ e.x + 1) (h2 : e.x ≤ d.x + 1) (h3 : d.y ≤ e.y + 1) (h4 : e.y ≤ d.y + 1) : apD d e ≤ 1 := by
  have k1 := apF_one h1 h2
  have k2 := apF_one h3 h4
  unfold apD
  split <;> omega
theorem rest_mem {α : Type} {l : List α} {k j : Nat} (hj : j < l.length) (hne : j ≠ k) : l[j] ∈ l.take k ++ l.drop (k + 1) := by
  rw [List.mem_append]
  rcases Nat.lt_or_gt_of_ne hne with h | h
  · left
    rw [List.mem_take_iff_getElem]
    exact ⟨j, by omega, rfl⟩
  · right
    rw [List.mem_drop_iff_getElem]
    exact ⟨j - (k + 1), by omega, by congr 1; omega⟩
theorem rest_inv {α : Type} {l : List α} {k : Nat} {x : α} (h : x ∈ l.take k ++ l.drop (k + 1)) : ∃ j, ∃ hj : j < l.length, j ≠ k ∧ l[j] = x := by
  rw [List.mem_append] at h
  rcases h with h | h
  · rw [List.mem_take_iff_getElem] at h
    obtain ⟨j, hj, rfl⟩ := h
    exact ⟨j, by omega, by omega, rfl⟩
  · rw [List.mem_drop_iff_getElem] at h
    obtain ⟨j, hj, rfl⟩ := h
    exact ⟨k + 1 + j, by omega, by omega, rfl⟩

theorem lineDots (s : Sh) (p q : Spot) (hp : onS s (dotOf s p).1 (dotOf s p).2 = true) (hq : onS s (dotOf s q).1 (dotOf s q).2 = true) (hs : OkS s) : LineDots s (dotOf s p) (dotOf s q) (dotsS 2 (wayE s 4 p q)) := by
  obtain ⟨h1, h2, h3, h4⟩ := wayE_keys (id := 4) hp hq hs
  have hN := (lineN_is (dotOf s p) (dotOf s q)).1
  have hperm := keysS_perm h1 (linePts_nodup (dotOf s p) (dotOf s q)) (fun x => (h3 x).symm)
  have hmem : ∀ x, x ∈ keysS (wayE s 4 p q) ↔ x ∈ linePts (dotOf s p) (dotOf s q) := fun x => hperm.symm.mem_iff
  have hnd : (keysS (wayE s 4 p q)).Nodup := hperm.nodup_iff.1 (linePts_nodup _ _)
  have hso := keysS_sorted (wayE s 4 p q)
  have hlen : (keysS (wayE s 4 p q)).length = (lineN (dotOf s p) (dotOf s q) + 1).toNat := by rw [← hperm.length_eq, linePts_length]
  have hid : ∀ x ∈ keysS (wayE s 4 p q), (idOf (wayE s 4 p q) x).getD 0 = 4 := fun x hx => by rw [h2 x ((h3 x).2 ((hmem x).1 hx))]; rfl
  unfold dotsS
  generalize keysS (wayE s 4 p q) = P at *
  generalize idOf (wayE s 4 p q) = ids at *
  generalize dotOf s p = A at *
  generalize dotOf s q = B at *
  clear h1 h2 h3
  have hat : ∀ x ∈ linePts A B, ∃ k, ∃ h : k < P.length, P[k] = x := fun x hx => List.getElem_of_mem ((hmem x).2 hx)
  refine ⟨by rw [List.length_map, hlen], fun k hk => ?_, fun k hk => ?_, ?_, ?_, fun k hk h1 => ?_⟩
  · rw [List.length_map] at hk
    rw [List.getElem_map]
    exact ⟨h4 _ ((hmem _).1 (List.getElem_mem hk)), rfl, hid _ (List.getElem_mem hk)⟩
  · rw [List.length_map] at hk
    rw [List.getElem_map, List.getElem_map]
    have h5 := List.pairwise_iff_getElem.1 hso k (k + 1) (by omega) hk (by omega)
    have h6 : P[k] ≠ P[k + 1] := fun e => by
      have := nodup_inj hnd (by omega) hk e
      omega
    have h7 : ¬ (P[k].2 = P[k + 1].2 ∧ P[k].1 = P[k + 1].1) := fun e => h6 (Prod.ext e.2 e.1)
    simp only [leS, ltS, Bool.not_eq_true', Bool.or_eq_false_iff, Bool.and_eq_false_imp, decide_eq_false_iff_not, decide_eq_true_eq] at h5
    show P[k].2 < P[k + 1].2 ∨ (P[k].2 = P[k + 1].2 ∧ P[k].1 < P[k + 1].1)
    omega
  · obtain ⟨k, hk, e⟩ := hat A (linePts_mem.2 ⟨0, Int.le_refl _, hN, (lineAt_first A B).symm⟩)
    exact ⟨k, by rw [List.length_map]; exact hk, by rw [List.getElem_map]; exact ⟨congrArg Prod.fst e, congrArg Prod.snd e⟩⟩
  · obtain ⟨k, hk, e⟩ := hat B (linePts_mem.2 ⟨_, hN, Int.le_refl _, (lineAt_last A B).symm⟩)
    exact ⟨k, by rw [List.length_map]; exact hk, by rw [List.getElem_map]; exact ⟨congrArg Prod.fst e, congrArg Prod.snd e⟩⟩
  · have hk' : k < P.length := by simpa using hk
    rw [List.length_map, hlen] at h1
    have hNpos : 0 < lineN A B := by omega
    obtain ⟨t, t0, t1, ht⟩ := linePts_mem.1 ((hmem _).1 (List.getElem_mem hk'))
    have hge : ¬ leastF [(P.map fun p => (⟨p.1, p.2, 2, (ids p).getD 0⟩ : Dt))[k]] ((P.map fun p => (⟨p.1, p.2, 2, (ids p).getD 0⟩ : Dt)).take k ++ (P.map fun p => (⟨p.1, p.2, 2, (ids p).getD 0⟩ : Dt)).drop (k + 1)) ≤ 0 := by
      intro h0
      rcases leastF_le.1 h0 with h0 | ⟨d, hd, e, he, h0⟩
      · omega
      · obtain rfl := List.mem_singleton.1 hd
        obtain ⟨j, hj, hne, rfl⟩ := rest_inv he
        rw [apD_zero, List.getElem_map, List.getElem_map] at h0
        have hj' : j < P.length := by simpa using hj
        have := nodup_inj hnd hk' hj' (Prod.ext h0.1 h0.2)
        omega
    have hle : leastF [(P.map fun p => (⟨p.1, p.2, 2, (ids p).getD 0⟩ : Dt))[k]] ((P.map fun p => (⟨p.1, p.2, 2, (ids p).getD 0⟩ : Dt)).take k ++ (P.map fun p => (⟨p.1, p.2, 2, (ids p).getD 0⟩ : Dt)).drop (k + 1)) ≤ 1 := by
      have key : ∀ u : Int, 0 ≤ u → u ≤ lineN A B → u ≠ t → ((lineAt A B u).1 ≤ (lineAt A B t).1 + 1 ∧ (lineAt A B t).1 ≤ (lineAt A B u).1 + 1 ∧ (lineAt A B u).2 ≤ (lineAt A B t).2 + 1 ∧ (lineAt A B t).2 ≤ (lineAt A B u).2 + 1) →
          ∃ e ∈ ((P.map fun p => (⟨p.1, p.2, 2, (ids p).getD 0⟩ : Dt)).take k ++ (P.map fun p => (⟨p.1, p.2, 2, (ids p).getD 0⟩ : Dt)).drop (k + 1)), apD (P.map fun p => (⟨p.1, p.2, 2, (ids p).getD 0⟩ : Dt))[k] e ≤ 1 := by
        intro u u0 u1 hut hn
        obtain ⟨j, hj, e⟩ := hat (lineAt A B u) (linePts_mem.2 ⟨u, u0, u1, rfl⟩)
        have hjk : j ≠ k := by
          rintro rfl
          exact lineAt_ne hNpos hut (e.symm.trans ht)
        refine ⟨_, rest_mem (l := P.map fun p => (⟨p.1, p.2, 2, (ids p).getD 0⟩ : Dt)) (j := j) (by simpa using hj) hjk, ?_⟩
        rw [List.getElem_map, List.getElem_map, e, ht]
        refine apD_one ?_ ?_ ?_ ?_ <;> simp only <;> omega
      refine leastF_le.2 (.inr ⟨_, List.mem_singleton.2 rfl, ?_⟩)
      by_cases htN : t < lineN A B
      · have hn := lineAt_near hNpos t
        exact key (t + 1) (by omega) (by omega) (by omega) hn
      · have hn := lineAt_near hNpos (t - 1)
        rw [show t - 1 + 1 = t from by omega] at hn
        exact key (t - 1) (by omega) (by omega) (by omega) (by omega)
    omega
end Go.Proofs.YtjfdbigkbgolmaaDoor
