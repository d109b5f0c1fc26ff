/-
  Plain facts for SpanFractions: a right history between the At of two neighbours; the fraction. No program in sight.
-/
import Derived.Test.YtfcmmclialeepaaPS2
import Derived.Test.YtfcmmclialeepaaE2
namespace Go.Proofs.Ytfcmmclialeepaa

theorem Right.sq_lt {top : Int} {l : List Ev} (h : Right top l) {i j : Nat} (hij : i < j) (hj : j < l.length) : atE l i * atE l i < atE l j * atE l j := by
  have h1 := h.at (j := i) (by omega)
  have h2 := h.lt hij hj
  have h3 := sq_le (a := atE l i + 1) (b := atE l j) (by omega) (by omega)
  have h4 : (atE l i + 1) * (atE l i + 1) = atE l i * atE l i + 2 * atE l i + 1 := by grind
  omega

theorem Right.beg_lt {top : Int} {l : List Ev} (h : Right top l) {k : Nat} (hk : k < l.length) : 0 ≤ begE l k ∧ begE l k < atE l k * atE l k ∧ atE l k * atE l k ≤ 1048576 := by
  have hs := sq_in (a := atE l k) ⟨by have := h.at hk; omega, (h.at hk).2⟩
  cases k with
  | zero =>
    have h1 := h.at hk
    have := sq_le (a := 1) (b := atE l 0) (by decide) h1.1
    exact ⟨Int.le_refl 0, by show (0 : Int) < _; omega, hs.2⟩
  | succ k =>
    have h1 := sq_in (a := atE l k) ⟨by have := h.at (j := k) (by omega); omega, (h.at (j := k) (by omega)).2⟩
    exact ⟨h1.1, h.sq_lt (Nat.lt_succ_self k) hk, hs.2⟩

theorem Right.le_beg {top : Int} {l : List Ev} (h : Right top l) {j k : Nat} (hjk : j < k) (hk : k < l.length) : atE l j * atE l j ≤ begE l k := by
  cases k with
  | zero => omega
  | succ k =>
    show _ ≤ atE l k * atE l k
    rcases Nat.lt_or_eq_of_le (Nat.le_of_lt_succ hjk) with h1 | rfl
    · exact Int.le_of_lt (h.sq_lt h1 (by omega))
    · exact Int.le_refl _

theorem Right.done {top : Int} {l : List Ev} (h : Right top l) {k : Nat} (hk : k < l.length) {sq : Int} (h1 : begE l k ≤ sq) (h2 : sq < atE l k * atE l k) : doneN sq l = k := by
  refine doneN_of (by omega) ?_ ?_
  · intro j hj
    have h3 := h.at (j := j) (by omega)
    have h4 := h.le_beg hj hk
    exact ⟨⟨by omega, h3.2⟩, by omega⟩
  · intro _ hh
    omega

theorem Right.done_end {top : Int} {l : List Ev} (h : Right top l) {k : Nat} (hk : k < l.length) : doneN (atE l k * atE l k) l = k + 1 := by
  refine doneN_of (by omega) ?_ ?_
  · intro j hj
    have h3 := h.at (j := j) (by omega)
    refine ⟨⟨by omega, h3.2⟩, ?_⟩
    rcases Nat.lt_or_eq_of_le (Nat.le_of_lt_succ hj) with h1 | rfl
    · exact Int.le_of_lt (h.sq_lt h1 hk)
    · exact Int.le_refl _
  · intro h4 hh
    have h5 := h.sq_lt (Nat.lt_succ_self k) h4
    have h6 : atE l (k + 1) * atE l (k + 1) ≤ atE l k * atE l k := hh.2
    exact absurd h5 (by show ¬ atE l k * atE l k < atE l (k + 1) * atE l (k + 1); omega)

theorem Right.doing {top : Int} {l : List Ev} (h : Right top l) {k : Nat} (hk : k < l.length) {sq : Int} (h1 : begE l k < sq) (h2 : sq < atE l k * atE l k) :
    doingF sq l = { n := k, up := lowN (sq - begE l k) (atE l k * atE l k - begE l k), down := lowD (sq - begE l k) (atE l k * atE l k - begE l k), ok := true } := by
  have hd := h.done hk (Int.le_of_lt h1) h2
  have ha := h.at hk
  have hi : inS (atE l k) := ⟨by omega, ha.2⟩
  unfold doingF doingAt
  rw [hd, if_pos (by simp [hk, hi, h1])]

theorem Right.not_begin {top : Int} {l : List Ev} (h : Right top l) {k : Nat} (hk : k < l.length) : doingF (begE l k) l = { n := 0, up := 0, down := 0, ok := false } := by
  have hd := h.done hk (Int.le_refl _) (h.beg_lt hk).2.1
  unfold doingF doingAt
  rw [hd, if_neg (by simp)]

theorem low_parts {n d : Int} (hd : 1 ≤ d) (hd2 : d ≤ 9223372036854775807) : ∃ g, 1 ≤ g ∧ g * lowN n d = n ∧ g * lowD n d = d ∧ gcdI (lowN n d) (lowD n d) = 1 := by
  obtain ⟨e, g1, gd⟩ := gcdI_pos (n := n) hd hd2
  have hg : (gcdI n d) ∣ n := by rw [e]; exact Int.ofNat_dvd_left.2 (Nat.gcd_dvd_left _ _)
  have hg2 : (gcdI n d) ∣ d := by rw [e]; exact Int.ofNat_dvd_left.2 (Nat.gcd_dvd_right _ _)
  obtain ⟨k, hk⟩ := hg
  obtain ⟨l, hl⟩ := hg2
  have hN : lowN n d = k := by unfold lowN; rw (occs := [1]) [hk]; exact Int.mul_tdiv_cancel_left _ (by omega)
  have hD : lowD n d = l := by unfold lowD; rw (occs := [1]) [hl]; exact Int.mul_ediv_cancel_left _ (by omega)
  refine ⟨gcdI n d, g1, by rw [hN]; exact hk.symm, by rw [hD]; exact hl.symm, ?_⟩
  rw [hN, hD]
  have h1 : Nat.gcd (n.natAbs / Nat.gcd n.natAbs d.natAbs) (d.natAbs / Nat.gcd n.natAbs d.natAbs) = 1 := Nat.coprime_div_gcd_div_gcd (by omega)
  have hkn : k.natAbs = n.natAbs / Nat.gcd n.natAbs d.natAbs := by
    have : n.natAbs = Nat.gcd n.natAbs d.natAbs * k.natAbs := by
      rw (occs := [1]) [hk, e]; rw [Int.natAbs_mul]; rfl
    rw (occs := [1]) [this]
    exact (Nat.mul_div_cancel_left _ (by omega)).symm
  have hln : l.natAbs = d.natAbs / Nat.gcd n.natAbs d.natAbs := by
    have : d.natAbs = Nat.gcd n.natAbs d.natAbs * l.natAbs := by
      rw (occs := [1]) [hl, e]; rw [Int.natAbs_mul]; rfl
    rw (occs := [1]) [this]
    exact (Nat.mul_div_cancel_left _ (by omega)).symm
  unfold gcdI
  rw [hkn, hln, h1]
  rfl

/-- a fraction between 0 and 1 -/
structure Frac (x y : Int) : Prop where
  n1 : 1 ≤ lowN x y
  lt : lowN x y < lowD x y
  le : lowD x y ≤ y
  co : gcdI (lowN x y) (lowD x y) = 1
  eq : lowN x y * y = lowD x y * x
theorem frac {x y : Int} (h0 : 1 ≤ x) (h1 : x < y) (h2 : y ≤ 1048576) : Frac x y := by
  obtain ⟨g, g1, gn, gd, co⟩ := low_parts (n := x) (d := y) (by omega) (by omega)
  obtain ⟨N, hN⟩ : ∃ N, lowN x y = N := ⟨_, rfl⟩
  obtain ⟨D, hD⟩ : ∃ D, lowD x y = D := ⟨_, rfl⟩
  rw [hN] at gn
  rw [hD] at gd
  have hN1 : 1 ≤ N := by
    by_cases h : 1 ≤ N
    · exact h
    · have : g * N ≤ g * 0 := Int.mul_le_mul_of_nonneg_left (by omega) (by omega)
      omega
  have hlt : N < D := by
    by_cases h : N < D
    · exact h
    · have : g * D ≤ g * N := Int.mul_le_mul_of_nonneg_left (by omega) (by omega)
      omega
  have hle : 1 * D ≤ g * D := Int.mul_le_mul_of_nonneg_right g1 (by omega)
  refine ⟨by rw [hN]; exact hN1, by rw [hN, hD]; exact hlt, by rw [hD]; omega, co, ?_⟩
  rw [hN, hD, ← gn, ← gd]
  grind

theorem frac_cmp {x x' y : Int} (h0 : 1 ≤ x) (hx : x < x') (h1 : x' < y) (h2 : y ≤ 1048576) : cmpR (lowN x y) (lowD x y) (lowN x' y) (lowD x' y) = -1 := by
  have f1 := frac (x := x) (y := y) h0 (by omega) h2
  have f2 := frac (x := x') (y := y) (by omega) h1 h2
  obtain ⟨g, g1, gn, gd, -⟩ := low_parts (n := x) (d := y) (by omega) (by omega)
  obtain ⟨g', g1', gn', gd', -⟩ := low_parts (n := x') (d := y) (by omega) (by omega)
  have a1 := f1.n1
  have a2 := f1.lt
  have a3 := f2.n1
  have a4 := f2.lt
  clear f1 f2
  generalize lowN x y = N at *
  generalize lowD x y = D at *
  generalize lowN x' y = N' at *
  generalize lowD x' y = D' at *
  have hneg : N * D' - N' * D < 0 := by
    by_cases h : N * D' < N' * D
    · omega
    · exfalso
      have hgg : 1 * 1 ≤ g * g' := Int.mul_le_mul g1 g1' (by decide) (by omega)
      have hm : (g * g') * (N' * D) ≤ (g * g') * (N * D') := Int.mul_le_mul_of_nonneg_left (by omega) (by omega)
      have e1 : (g * g') * (N' * D) = (g' * N') * (g * D) := by grind
      have e2 : (g * g') * (N * D') = (g * N) * (g' * D') := by grind
      rw [e1, e2, gn, gd, gn', gd'] at hm
      have : x * y < x' * y := Int.mul_lt_mul_of_pos_right hx (by omega)
      omega
  unfold cmpR
  rw [if_neg (by omega)]
  exact Int.sign_eq_neg_one_of_neg hneg

theorem Right.doing_end {top : Int} {l : List Ev} (h : Right top l) {k : Nat} (hk : k < l.length) : doingF (atE l k * atE l k) l = { n := 0, up := 0, down := 0, ok := false } := by
  have hd := h.done_end hk
  unfold doingF doingAt
  rw [hd, if_neg (by simp [begE])]

/-- all that the statement asks at a square between two neighbours -/
structure Step (evs : List Ev) (kn : Nat) (bg en q N D : Int) : Prop where
  do1 : doingF (bg + 1 + q) evs = { n := kn, up := N, down := D, ok := true }
  n1 : 1 ≤ N
  lt : N < D
  le : D ≤ 1048576
  co : gcdI N D = 1
  eq : N * (en - bg) = D * (1 + q)
  p0 : 0 ≤ N * (en - bg)
  p1 : N * (en - bg) ≤ 1099511627776

theorem Right.step {top : Int} {evs : List Ev} (h : Right top evs) {kn : Nat} (hk : kn < evs.length) {bg en q : Int} (hbg : begE evs kn = bg) (hen : atE evs kn * atE evs kn = en) (q0 : 0 ≤ q) (q1 : q < en - bg - 1) :
    Step evs kn bg en q (lowN (1 + q) (en - bg)) (lowD (1 + q) (en - bg)) := by
  obtain ⟨g0, g1, g2⟩ := h.beg_lt hk
  rw [hen] at g1 g2
  rw [hbg] at g0 g1
  have f := frac (x := 1 + q) (y := en - bg) (by omega) (by omega) (by omega)
  have hd := h.doing hk (sq := bg + 1 + q) (by omega) (by omega)
  rw [hbg, hen] at hd
  rw [show bg + 1 + q - bg = 1 + q by omega] at hd
  have a1 := f.n1
  have a2 := f.lt
  have a3 := f.le
  refine ⟨hd, a1, a2, by omega, f.co, f.eq, Int.mul_nonneg (by omega) (by omega), ?_⟩
  have h1 := Int.mul_le_mul (a := lowN (1 + q) (en - bg)) (b := en - bg) (c := 1048576) (d := 1048576) (by omega) (by omega) (by omega) (by omega)
  exact h1

theorem Right.step_lt {top : Int} {evs : List Ev} (h : Right top evs) {kn : Nat} (hk : kn < evs.length) {bg en q : Int} (hbg : begE evs kn = bg) (hen : atE evs kn * atE evs kn = en) (q0 : 0 ≤ q) (q1 : q < en - bg - 1) :
    ∃ N D, Step evs kn bg en q N D ∧ ((bg + 1 + q + 1 = en ∧ doneN (bg + 1 + q + 1) evs = kn + 1 ∧ doingF (bg + 1 + q + 1) evs = { n := 0, up := 0, down := 0, ok := false }) ∨
      (bg + 1 + q + 1 ≠ en ∧ ∃ N' D', doingF (bg + 1 + q + 1) evs = { n := kn, up := N', down := D', ok := true } ∧ 1 ≤ N' ∧ N' ≤ 1048576 ∧ 1 ≤ D' ∧ D' ≤ 1048576 ∧ cmpR N D N' D' = -1)) := by
  refine ⟨_, _, h.step hk hbg hen q0 q1, ?_⟩
  by_cases he : bg + 1 + q + 1 = en
  · refine .inl ⟨he, ?_, ?_⟩
    · rw [he, ← hen]; exact h.done_end hk
    · rw [he, ← hen]; exact h.doing_end hk
  · refine .inr ⟨he, lowN (1 + (q + 1)) (en - bg), lowD (1 + (q + 1)) (en - bg), ?_⟩
    have s := h.step hk hbg hen (q := q + 1) (by omega) (by omega)
    have hd := s.do1
    rw [← Int.add_assoc] at hd
    obtain ⟨g0, g1, g2⟩ := h.beg_lt hk
    rw [hen] at g1 g2
    rw [hbg] at g0 g1
    have a1 := s.n1
    have a2 := s.lt
    have a3 := s.le
    exact ⟨hd, a1, by omega, by omega, a3, frac_cmp (by omega) (by omega) (by omega) (by omega)⟩
end Go.Proofs.Ytfcmmclialeepaa
