/-
  Plain facts on right histories (chapter 11), and on such with one At that is no scale. No program in sight.
-/
import Derived.Test.YtfcmmclialeepaaD2
import Derived.Test.YtfcmmclialeepaaS4
namespace Go.Proofs.Ytfcmmclialeepaa

theorem Right.at {top : Int} {l : List Ev} (h : Right top l) {j : Nat} (hj : j < l.length) : 1 ≤ atE l j ∧ atE l j ≤ 1024 := by
  rw [atE_get hj]
  have := h.1 _ (List.getElem_mem hj)
  omega
theorem Right.lt {top : Int} {l : List Ev} (h : Right top l) {i j : Nat} (hij : i < j) (hj : j < l.length) : atE l i < atE l j := by
  rw [atE_get hj, atE_get (by omega)]
  exact List.pairwise_iff_getElem.1 h.2 i j (by omega) hj hij

/-- a history whose event k has another At -/
def wrong (l : List Ev) (k : Nat) (t : Int) : List Ev := l.mapIdx fun i e => if i = k then { e with when_ := t } else e
theorem wrong_length (l : List Ev) (k : Nat) (t : Int) : (wrong l k t).length = l.length := by simp [wrong]
theorem wrong_at (l : List Ev) (k : Nat) (t : Int) {j : Nat} (hj : j < l.length) : atE (wrong l k t) j = if j = k then t else atE l j := by
  rw [atE_get (by rw [wrong_length]; exact hj), atE_get hj]
  unfold wrong
  rw [List.getElem_mapIdx]
  split <;> rfl

theorem chk_run (l : List Ev) (k : Nat) (hk : k < l.length) (ht : atE l k < 1 ∨ 1024 < atE l k) (h : ∀ j, j < k → 1 ≤ atE l j ∧ atE l j ≤ 1024) (hr : ∀ i j, i < j → j < k → atE l i < atE l j) :
    ∀ n j : Nat, j + n = k → ∀ b : Int, (0 < j → b = atE l (j - 1)) → (j = 0 → b = 0) → chk b (l.drop j) = 3
  | 0, j, e, b, _, _ => by
    obtain rfl : j = k := by omega
    rw [chk_at b hk, ← atE_get hk, if_pos ht]
  | n + 1, j, e, b, hb, hb0 => by
    have hj : j < l.length := by omega
    have h1 := h j (by omega)
    have hrec := chk_run l k hk ht h hr n (j + 1) (by omega) (atE l j) (fun _ => by simp) (fun e => by omega)
    rw [chk_at b hj, ← atE_get hj, if_neg (by omega), if_neg, hrec]
    rcases Nat.eq_zero_or_pos j with h0 | h0
    · rw [hb0 h0]; omega
    · rw [hb h0]
      have := hr (j - 1) j (by omega) (by omega)
      omega

theorem wrong_check {top : Int} {l : List Ev} (h : Right top l) (h8 : l.length ≤ 8) {k : Nat} (hk : k < l.length) {t : Int} (ht : t < 0 ∨ 1024 < t) : checkH (wrong l k t) = 3 := by
  unfold checkH
  rw [if_neg (by rw [wrong_length]; omega)]
  refine chk_run (wrong l k t) k (by rw [wrong_length]; exact hk) ?_ ?_ ?_ k 0 (by omega) 0 (fun e => by omega) (fun _ => rfl)
  · rw [wrong_at l k t hk, if_pos rfl]; omega
  · intro j hj
    rw [wrong_at l k t (by omega), if_neg (by omega)]
    exact h.at (by omega)
  · intro i j hij hj
    rw [wrong_at l k t (by omega), wrong_at l k t (by omega), if_neg (by omega), if_neg (by omega)]
    exact h.lt hij (by omega)

theorem wrong_done {top : Int} {l : List Ev} (h : Right top l) {k : Nat} (hk : k < l.length) {t : Int} (ht : t < 0 ∨ 1024 < t) {sq : Int} (hs : 1048576 ≤ sq) : doneN sq (wrong l k t) = k := by
  refine doneN_of (by rw [wrong_length]; omega) ?_ ?_
  · intro j hj
    rw [wrong_at l k t (by omega), if_neg (by omega)]
    have h1 := h.at (j := j) (by omega)
    have h2 := sq_le (a := atE l j) (b := 1024) (by omega) h1.2
    exact ⟨⟨by omega, h1.2⟩, by omega⟩
  · intro _ hh
    rw [wrong_at l k t hk, if_pos rfl] at hh
    have := hh.1
    unfold inS at this
    omega

theorem wrong_doing {top : Int} {l : List Ev} (h : Right top l) {k : Nat} (hk : k < l.length) {t : Int} (ht : t < 0 ∨ 1024 < t) {sq : Int} (hs : 1048576 ≤ sq) : doingF sq (wrong l k t) = { n := 0, up := 0, down := 0, ok := false } := by
  unfold doingF
  rw [if_neg]
  unfold doingAt
  rw [wrong_done h hk ht hs, wrong_at l k t hk, if_pos rfl]
  have : ¬ inS t := by unfold inS; omega
  simp [this]

theorem flat_set (l : List Ev) (k : Nat) (t : Int) (hk : k < l.length) : (flat l).set (k * 5 + 1) (.int .i64 t) = flat (wrong l k t) := by
  induction l generalizing k with
  | nil => simp at hk
  | cons e l ih =>
    have hf : ∀ (e : Ev) (l : List Ev), flat (e :: l) = .int .i64 e.kind :: .int .i64 e.when_ :: .int .i64 e.id :: .int .i64 e.other :: .int .i64 e.n :: flat l := fun e l => by simp [flat, evCells]
    cases k with
    | zero =>
      have : wrong (e :: l) 0 t = { e with when_ := t } :: l := by
        unfold wrong
        rw [List.mapIdx_cons]
        simp
        apply List.ext_getElem <;> simp
      rw [this, hf, hf]
      simp
    | succ k =>
      have h1 : wrong (e :: l) (k + 1) t = e :: wrong l k t := by
        unfold wrong
        rw [List.mapIdx_cons]
        simp
      have h5 : (k + 1) * 5 + 1 = (k * 5 + 1) + 1 + 1 + 1 + 1 + 1 := by omega
      rw [h1, hf, hf, h5]
      simp only [List.set_cons_succ]
      rw [ih k (by simpa using hk)]
end Go.Proofs.Ytfcmmclialeepaa
