/-
  Chapter 29: Place of a tree at the number 12, and moves of sheets and points.
-/
import Derived.Test.YtjfdbigkbgolmaaDoorBD
import Derived.Test.YtjfdbigkbgolmaaDoorR4
import Derived.Test.YtjfdbigkbgolmaaDoorM0
import Derived.Test.YtjfdbigkbgolmaaDoorN1
namespace Go.Proofs.YtjfdbigkbgolmaaDoor
set_option linter.unusedVariables false
set_option linter.unusedSimpArgs false
open Go.RowKit Go.Shelf Go.Maps

def tree : ByteArray := ⟨#[116, 114, 101, 101]⟩
def txt12 : ByteArray := ⟨#[49, 50]⟩
def cells3 : ByteArray := ⟨#[60, 1, 3]⟩
theorem itoa12 : ∀ W, Calls Tryd.prog 38 #[.int .i64 12] W fun e W' => e = .returned (.string txt12) ∧ Below W.heap.size W W' := by
  intro W
  refine (Tryd.strconv_Itoa_small 12 (by omega) W).mono ?_
  rintro e W' ⟨rfl, rfl⟩
  refine ⟨?_, Below.refl _ _⟩
  rw [Lib.decDigits, Lib.decDigits]
  rfl
theorem digs12 : Digs txt12 := by
  intro i h
  have h2 : i < 2 := h
  rcases (show i = 0 ∨ i = 1 from by omega) with rfl | rfl <;> exact ⟨of_decide_eq_true rfl, of_decide_eq_true rfl⟩
theorem write12 : ∀ W, Calls Tryd.prog 37 #[.string txt12] W fun e W' => e = .returned (.tuple #[.string cells3, .int .i64 0]) ∧ Below W.heap.size W W' := by
  intro W
  have h := write_digs txt12 digs12 (by decide) W
  rw [show (⟨(outB txt12 txt12.size).toArray⟩ : ByteArray) = cells3 from by decide +kernel] at h
  exact h
theorem dots3 : ∀ k (h : k < cells3.size) W, Calls Tryd.prog 39 #[.int .u8 (cells3[k]).toNat] W fun e W' => e = .returned (.agg #[.bool (brD k 0), .bool (brD k 1), .bool (brD k 2), .bool (brD k 3), .bool (brD k 4), .bool (brD k 5)]) ∧ Below W.heap.size W W' := by
  intro k h W
  have h2 : k < 3 := h
  rcases (show k = 0 ∨ k = 1 ∨ k = 2 from by omega) with rfl | rfl | rfl
  · exact bdots60 W
  · exact bdots1 W
  · exact bdots3 W
theorem putE_ne (en : List (Spot × Int)) (p : Spot) (x : Int) : putE en p x ≠ [] := by
  intro e
  have h := putE_keys en p x
  rw [e] at h
  split at h
  · rename_i hk
    have h2 := hasK_iff.1 hk
    rw [← h] at h2
    simp at h2
  · simp at h
theorem upE_ne {en : List (Spot × Int)} (h : en ≠ []) (u : Bool) (p : Spot) (x : Int) : upE u en p x ≠ [] := by
  unfold upE
  split
  · exact putE_ne _ _ _
  · exact h
theorem symE_ne (i j id : Int) (r : Nat → Bool) (h : r 1 = true) : ∀ k, symE i j id r (k + 2) ≠ []
  | 0 => by
    show upE (r 1) _ _ _ ≠ []
    rw [h]
    exact putE_ne _ _ _
  | k + 1 => upE_ne (symE_ne i j id r h k) _ _ _
theorem dotE_ne (i j id : Int) (k : Nat) (d : Nat → Bool) {en : List (Spot × Int)} (h : en ≠ []) : ∀ n, dotE i j id k d en n ≠ []
  | 0 => h
  | n + 1 => upE_ne (dotE_ne i j id k d h n) _ _ _
theorem cellE_ne (i j id : Int) (D : Nat → Nat → Bool) {en : List (Spot × Int)} (h : en ≠ []) : ∀ k, cellE i j id D en k ≠ []
  | 0 => h
  | k + 1 => dotE_ne i j id k (D k) (cellE_ne i j id D h k) 6
abbrev en12 (i j : Int) : List (Spot × Int) := placeE i j 9 (symB 5) brD 3
theorem en12_ne (i j : Int) : en12 i j ≠ [] := cellE_ne _ _ _ _ (symE_ne _ _ _ _ (by decide +kernel) 7) 3
theorem en12_len (i j : Int) : (en12 i j).length ≤ 27 := by
  have h1 := cellE_length i j 9 brD (symE i j 9 (symB 5) 9) 3
  have h2 := symE_length i j 9 (symB 5) 9
  unfold en12 placeE
  omega
/-- whether the place fits -/
def fit12 (s : Sh) (i j : Int) : Bool := ((en12 i j).map (·.1)).all fun p => onS s p.1 p.2
def dots12 (s : Sh) (i j : Int) : List Dt := if fit12 s i j then dotsS 3 (en12 i j) else []
theorem dotsS_mem {k : Int} {en : List (Spot × Int)} {d : Dt} (h : d ∈ dotsS k en) : (d.x, d.y) ∈ en.map (·.1) := by
  unfold dotsS at h
  obtain ⟨p, hp, rfl⟩ := List.mem_map.1 h
  exact (List.mergeSort_perm _ _).mem_iff.1 hp
theorem tree_sum : (sumB tree.data.toList).tmod 7 = (5 : Nat) := by decide +kernel
/-- Place of a tree, numbered 12 -/
theorem place12_any (s : Sh) (x y i j : Int) (b : Bool) (w : World) (f0 : fits s.ax) (f1 : fits s.ay) (hof : ofS s x y = (i, j, b)) :
    Calls Tryd.prog 16 #[shV s, .agg (plC 9 x y 0 0 tree ⟨#[]⟩), .int .i64 12] w fun e w' => ∃ v, e = .returned (.tuple #[v, .bool (b && fit12 s i j)]) ∧ Dts w'.heap.size w' v (if b then dots12 s i j else []) ∧ Below w.heap.size w w' := by
  cases b with
  | false =>
    refine (place_no s 9 x y 0 0 12 i j tree ⟨#[]⟩ w f0 f1 hof).mono ?_
    rintro e w' ⟨rfl, hb⟩
    exact ⟨_, rfl, .inl ⟨rfl, rfl⟩, hb⟩
  | true =>
    obtain ⟨hck, -⟩ := ofS_true hof
    have hs := okS_of hck
    refine (place_yes s 9 x y 0 0 12 i j tree ⟨#[]⟩ txt12 cells3 brD 5 w f0 f1 hof (by decide) (by omega) (by omega) (by decide) (by omega) tree_sum (by decide) itoa12 write12 dots3 (en12_ne i j)).mono ?_
    rintro e w' ⟨hb, ⟨h, v, base, rfl, -, hr⟩ | ⟨⟨p, hp, h⟩, rfl⟩⟩
    · have hf : fit12 s i j = true := List.all_eq_true.2 h
      refine ⟨v, by rw [hf]; rfl, ?_, hb⟩
      rw [if_pos rfl]
      unfold dots12
      rw [if_pos hf]
      refine dts_of_row hr (by rw [dotsS_length]; exact Nat.le_trans (en12_len i j) (by omega)) (fun d hd => ?_)
      have h9 := onS_iff.1 (h _ (dotsS_mem hd))
      have w1 := hs.w1
      have v1 := hs.h1
      simp only at h9
      exact ⟨⟨by omega, by omega⟩, by omega, by omega⟩
    · have hf : fit12 s i j = false := by
        unfold fit12
        rw [List.all_eq_false]
        exact ⟨p, hp, by rw [h]; simp⟩
      refine ⟨_, by rw [hf]; rfl, ?_, hb⟩
      rw [if_pos rfl]
      unfold dots12
      rw [hf]
      exact .inl ⟨rfl, rfl⟩

theorem ofS_move {s : Sh} {d : Spot} {x y : Int} (h1 : checkS s = 0) (h2 : checkS (moveSh d s) = 0) (r1 : rightP x y = true) (r2 : rightP (x + d.1) (y + d.2) = true) : ofS (moveSh d s) (x + d.1) (y + d.2) = ofS s x y := by
  have e := dotOf_move s d (x, y)
  unfold dotOf moveP at e
  simp only [Prod.mk.injEq] at e
  unfold ofS
  rw [h1, h2, r1, r2, e.1, e.2]
  rfl
theorem MadeS.moved {s : Sh} (h : MadeS s) {d : Spot} (x0 : -7999 ≤ d.1) (x1 : d.1 ≤ 7999) (y0 : -7999 ≤ d.2) (y1 : d.2 ≤ 7999) : checkS (moveSh d s) = 0 := by
  obtain ⟨ax, ay, st, W, H, G⟩ := s
  obtain ⟨a0, a1, b0, b1, t0, t1, w0, w1, h0, h1, g0, g1⟩ := h
  simp only at a0 a1 b0 b1 t0 t1 w0 w1 h0 h1 g0 g1
  have m1 := Int.mul_le_mul (a := W) (b := st) (c := 40) (d := 17) w1 t1 (by omega) (by omega)
  have m2 := Int.mul_le_mul (a := H) (b := st) (c := 30) (d := 17) h1 t1 (by omega) (by omega)
  have m3 := Int.mul_nonneg (a := W) (b := st) (by omega) (by omega)
  have m4 := Int.mul_nonneg (a := H) (b := st) (by omega) (by omega)
  unfold moveSh
  rw [checkS_in ⟨⟨by simp only; omega, by simp only; omega⟩, ⟨by simp only; omega, by simp only; omega⟩, ⟨by simp only; omega, by simp only; omega⟩, by simp only; omega, by simp only; omega⟩]
  have e1 : rightP (ax + d.1) (ay + d.2) = true := rightP_iff.2 (by omega)
  have e2 : rightP (ax + d.1 + W * st) (ay + d.2 + H * st) = true := rightP_iff.2 (by omega)
  simp [e1, e2]
end Go.Proofs.YtjfdbigkbgolmaaDoor
