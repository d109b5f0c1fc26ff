/-
  Chapter 29: the end of DotsMoves: Ways of ways and of the moved ones.
-/
import Derived.Test.YtjfdbigkbgolmaaDoorMV
import Derived.Test.YtjfdbigkbgolmaaDoorWH
namespace Go.Proofs.YtjfdbigkbgolmaaDoor
set_option linter.unusedVariables false
set_option linter.unusedSimpArgs false
open Go.RowKit Go.Shelf

theorem ways_dts (s : Sh) (sv : Value) (ws : List Wy) (w : World) (hc : checkS s = 0) (hid : ∀ y ∈ ws, fits y.id) (hW : Wys w.heap.size w sv ws) (hlen : ws.length ≤ 8) (hpl : ∀ y ∈ ws, y.line.length ≤ 8) :
    Calls Tryd.prog 13 #[shV s, sv] w fun e w' => ∃ v, e = .returned v ∧ Dts w'.heap.size w' v (dotsS 2 (waysE s [] (ws.map Wy.key))) ∧ Below w.heap.size w w' := by
  have hs := okS_of hc
  refine ((callsIn_wide (n := 3)).1 (ways_in s sv ws w hc hid hW hlen hpl)).mono ?_
  rintro e w' ⟨v, base, rfl, -, hr, hb⟩
  refine ⟨v, rfl, dts_of_row hr ?_ (fun d hd => ?_), hb⟩
  · rw [dotsS_length]
    exact Nat.le_trans (waysE_length hs _) (by omega)
  · have h9 := dotsS_mem hd
    rw [waysE_fold] at h9
    have h8 := onS_iff.1 (fold_on s _ [] (by simp) _ h9)
    have w1 := hs.w1
    have v1 := hs.h1
    simp only at h8
    exact ⟨⟨by omega, by omega⟩, by omega, by omega⟩
/-- the moved ways' dots are those of the ways -/
theorem moved_dots {s : Sh} {d : Spot} {ws ys : List Wy} (hk : ys.map Wy.key = ((ws.drop 0).map fun y => moveW d y.key).reverse) (hg : ∀ y ∈ ws, GoodW y) (x0 : -7999 ≤ d.1) (x1 : d.1 ≤ 7999) (y0 : -7999 ≤ d.2) (y1 : d.2 ≤ 7999) :
    dotsS 2 (waysE (moveSh d s) [] (ys.map Wy.key)) = dotsS 2 (waysE s [] (ws.map Wy.key)) := by
  have h := moves_law s d (ws.map Wy.key) (fun w hw => by
    obtain ⟨y, hy, rfl⟩ := List.mem_map.1 hw
    have hsm := (hg y hy).small
    constructor
    · refine List.all_eq_true.2 fun p hp => ?_
      obtain ⟨a, b, c, e⟩ := hsm p hp
      exact rightP_iff.2 (by omega)
    · refine List.all_eq_true.2 fun p hp => ?_
      obtain ⟨q, hq, rfl⟩ := List.mem_map.1 hp
      obtain ⟨a, b, c, e⟩ := hsm q hq
      unfold moveP
      exact rightP_iff.2 (by simp only; omega))
  rw [List.map_map] at h
  rw [List.drop_zero] at hk
  rw [hk]
  exact h
theorem moved_good {d : Spot} {ws ys : List Wy} (hk : ys.map Wy.key = ((ws.drop 0).map fun y => moveW d y.key).reverse) (hg : ∀ y ∈ ws, GoodW y) : ∀ y ∈ ys, fits y.id ∧ y.line.length ≤ 8 := by
  intro y hy
  have h : y.key ∈ ys.map Wy.key := List.mem_map_of_mem hy
  rw [hk, List.mem_reverse, List.drop_zero] at h
  obtain ⟨z, hz, e⟩ := List.mem_map.1 h
  obtain ⟨g1, g2, g3⟩ := hg z hz
  unfold moveW at e
  simp only [Prod.mk.injEq] at e
  rw [← e.1, ← e.2]
  exact ⟨g1, by rw [List.length_map]; omega⟩

/-- what the operations of the last region leave -/
def FQ (va vb wv mv : Value) (s t : Sh) (L La : List Dt) (r : Bool) (i : Nat) (v : Value) (w : World) : Prop :=
  match i with
  | 2 => v = shV s
  | 3 => v = wv
  | 4 => Dts w.heap.size w v L
  | 5 => v = shV t
  | 6 => v = mv
  | 7 => Dts w.heap.size w v L
  | 11 => v = .bool r
  | 12 => v = .bool r
  | 16 => v = va
  | 17 => v = vb
  | _ => v = .bool true
theorem FQ.kept {va vb wv mv : Value} {s t : Sh} {L La : List Dt} {r : Bool} {i : Nat} {v : Value} {w w' : World} (h : FQ va vb wv mv s t L La r i v w) (hb : Below w.heap.size w w') : FQ va vb wv mv s t L La r i v w' := by
  unfold FQ at *
  split at h
  all_goals first | exact h | exact h.up hb hb.size
end Go.Proofs.YtjfdbigkbgolmaaDoor
