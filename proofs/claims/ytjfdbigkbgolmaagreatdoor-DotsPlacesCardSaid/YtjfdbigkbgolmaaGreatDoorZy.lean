/-
  Chapter 29: Place, the program's and the reference's, at any place and any number: one plain function.
  DotsPlaces' arguments, opened: lists of lists of ints; any place with a number and a sheet; the table of tens that the row lists.
-/
import Derived.Test.YtjfdbigkbgolmaaGreatDoorZS
import Derived.Test.YtjfdbigkbgolmaaGreatDoorZp
import Derived.Test.YtjfdbigkbgolmaaGreatDoorZl
import Derived.Test.YtjfdbigkbgolmaaGreatDoorZM
import Derived.Lib.LaidTab
namespace Go.Proofs.YtjfdbigkbgolmaaGreatDoor
set_option linter.unusedVariables false
set_option linter.unusedSimpArgs false
open Go.RowKit Go.Shelf
attribute [local go_sem] Oper.semAt_some

/-- the library's table of powers of ten -/
def Pow (W : World) : Prop := Lib.TabIs Tryz.prog W "internal/strconv.uint64pow10" .u64 Lib.pow10Tab
theorem Pow.below {W W' : World} (h : Pow W) (hb : Below W.heap.size W W') : Pow W' := by
  unfold Pow Lib.TabIs World.var? at *
  obtain ⟨g, hg, h2⟩ := Option.bind_eq_some_iff.1 h
  rw [hg]
  have hlt : g < W.heap.size := by
    cases ho : W.heap[g]? with
    | none => rw [ho] at h2; cases h2
    | some o => exact (Array.getElem?_eq_some_iff.1 ho).1
  show (match W'.heap[g]? with | some (.cells cs _ _) => some cs | _ => none) = _
  rw [hb.block g hlt]
  exact h2

def plM (cls : ByteArray) : Nat := ((sumB cls.data.toList).tmod 7).toNat
theorem plM_lt (cls : ByteArray) : plM cls < 7 ∧ (sumB cls.data.toList).tmod 7 = plM cls := by
  have h := (sumB_le cls.data.toList).1
  have h1 := Int.tmod_nonneg 7 h
  have h2 := Int.tmod_lt_of_pos (sumB cls.data.toList) (b := 7) (by omega)
  unfold plM
  omega
def plPts (i j : Int) (cls : ByteArray) (num : Int) : List Spot := placePts i j (symB (plM cls)) (cellD num.toNat) (cellsN num.toNat).size
def plF (s : Sh) (x y id : Int) (cls : ByteArray) (num : Int) : Bool × List Dt :=
  if (ofS s x y).2.2 && decide (1 ≤ num) && decide (num ≤ 999) && (plPts (ofS s x y).1 (ofS s x y).2.1 cls num).all (fun p => onS s p.1 p.2) then (true, outP id (plPts (ofS s x y).1 (ofS s x y).2.1 cls num)) else (false, [])
theorem plF_no {s : Sh} {x y id : Int} {cls : ByteArray} {num i j : Int} {b : Bool} (h : ofS s x y = (i, j, b)) (hno : b = false ∨ num < 1 ∨ 999 < num) : plF s x y id cls num = (false, []) := by
  unfold plF
  rw [h]
  rw [if_neg]
  rcases hno with rfl | h | h
  · simp
  · rw [decide_eq_false (show ¬ 1 ≤ num by omega)]; simp
  · rw [decide_eq_false (show ¬ num ≤ 999 by omega)]; simp
theorem plF_yes {s : Sh} {x y id : Int} {cls : ByteArray} {num i j : Int} (h : ofS s x y = (i, j, true)) (h0 : 1 ≤ num) (h1 : num ≤ 999) : plF s x y id cls num = if (plPts i j cls num).all (fun p => onS s p.1 p.2) then (true, outP id (plPts i j cls num)) else (false, []) := by
  unfold plF
  rw [h]
  simp only [decide_eq_true h0, decide_eq_true h1, Bool.true_and]
theorem placePts_len (i j : Int) (r : Nat → Bool) (n : Nat) (hn : n ≤ 999) : (placePts i j r (cellD n) (cellsN n).size).length ≤ 33 := by
  have h1 := cellPts_len i j (cellD n) (symPts i j r 9) (cellsN n).size
  have h2 := symPts_len i j r 9
  have h3 := cellsN_le n hn
  unfold placePts
  omega

theorem outB_first (s : ByteArray) : ∀ n, (outB s (n + 1))[0]? = some 60
  | 0 => by simp [outB]
  | n + 1 => by
    have h := outB_first s n
    rw [outB, if_neg (by omega), List.getElem?_append_left (by obtain ⟨h1, -⟩ := List.getElem?_eq_some_iff.1 h; exact h1)]
    exact h
theorem cellD_first (n : Nat) : cellD n 0 2 = true ∧ 1 ≤ (cellsN n).size := by
  have hl : 0 < (Lib.decDigits n).length := by rw [Lib.decDigits]; split <;> simp
  have hs : 0 < (txtN n).size := by rw [txtN_size]; exact hl
  obtain ⟨k, hk⟩ : ∃ k, (txtN n).size = k + 1 := ⟨(txtN n).size - 1, by omega⟩
  have hf := outB_first (txtN n) k
  rw [← hk] at hf
  obtain ⟨h0, h1⟩ := List.getElem?_eq_some_iff.1 hf
  have hz : 0 < (cellsN n).size := by rw [cellsN_size]; exact h0
  refine ⟨?_, hz⟩
  rw [cellD_at n 0 hz 2]
  have h2 : (cellsN n)[0]'hz = 60 := h1
  rw [h2]
  decide
theorem dotPts_some (i j : Int) (k : Nat) (d : Nat → Bool) (l : List Spot) (h : d 2 = true) : dotPts i j k d l 6 ≠ [] := by
  simp only [dotPts, h, if_true]
  simp
theorem cellPts_some (i j : Int) (D : Nat → Nat → Bool) (l : List Spot) (h : D 0 2 = true) : ∀ n, cellPts i j D l (n + 1) ≠ []
  | 0 => by rw [cellPts]; exact dotPts_some _ _ _ _ _ h
  | n + 1 => by
    have ih := cellPts_some i j D l h n
    rw [cellPts]
    simp only [dotPts]
    simp [ih]
theorem placeE_some (i j id : Int) (r : Nat → Bool) (n : Nat) : placeE i j id r (cellD n) (cellsN n).size ≠ [] := by
  obtain ⟨h1, h2⟩ := cellD_first n
  obtain ⟨k, hk⟩ : ∃ k, (cellsN n).size = k + 1 := ⟨(cellsN n).size - 1, by omega⟩
  have h3 := cellPts_some i j (cellD n) (symPts i j r 9) h1 k
  rw [placeE_pts]
  unfold placePts
  rw [hk]
  obtain ⟨q, hq⟩ := List.exists_mem_of_ne_nil _ h3
  intro he
  have h4 := (fold_keys (id := id) q (cellPts i j (cellD n) (symPts i j r 9) (k + 1)) []).2 (.inl hq)
  rw [he] at h4
  simp at h4

/-- Place of the program, a number out of range -/
theorem place_range (s : Sh) (id x y wt di num i j : Int) (cls name : ByteArray) (w : World) (f0 : fits s.ax) (f1 : fits s.ay) (hof : ofS s x y = (i, j, true)) (hno : num < 1 ∨ 999 < num) :
    Calls Tryz.prog 8 #[shV s, .agg (plC id x y wt di cls name), .int .i64 num] w fun e w' => e = .returned (.tuple #[.slice none 0 0, .bool false]) ∧ Below w.heap.size w w' := by
  obtain ⟨ax, ay, st, sw, sh, sg⟩ := s
  replace hof := Lib.hid hof
  have hwin : inR 1 num 999 = false := by unfold inR; rcases hno with h | h <;> simp <;> omega
  replace hwin := Lib.hid hwin
  clear hno
  go_enter Tryz.func8, Tryz.ntmps8
  go_wp2_with (first | (go_at_call 27; refine (of_eq hof.out _ f0 f1).mono ?_; rintro e w' ⟨rfl, hb_⟩; obtain ⟨p, rfl⟩ := grow_of_below hb_; clear hb_) | (go_at_call 28; refine (within_eq hwin.out _).mono ?_; rintro e w' ⟨rfl, rfl⟩) | fail)
  go_ret2
  exact ⟨rfl, (by repeat' (first | with_reducible exact Below.refl _ _ | with_reducible exact Nat.le_refl _ | with_reducible assumption | with_reducible refine Go.below_growBy' ?_ ?_ _ | with_reducible refine Below.alloc ?_ ?_ _ | with_reducible refine Below.setCell ?_ ?_ _ | with_reducible refine Below.drew ?_ | with_reducible refine Go.le_alloc ?_ | with_reducible refine Go.le_growBy ?_ | with_reducible refine Go.le_setCell ?_ | with_reducible refine Go.le_drew ?_ | omega | (dsimp only; omega)))⟩

theorem dts_out {s : Sh} {W : World} {base : Nat} {v : Value} {id : Int} {ps : List Spot} (hs : OkS s) (hl : ps.length ≤ 1000) (hon : ∀ p ∈ ps, onS s p.1 p.2 = true) (h : W.ownsRow base 59 4 v (outP id ps).length ((outP id ps).flatMap encD)) : Dts W.heap.size W v (outP id ps) :=
  dts_of_row h (by have := outP_length id ps; omega) (fun d hd => by
    have h9 := onS_iff.1 (outP_mem hon d hd)
    have w1 := hs.w1
    have v1 := hs.h1
    try simp only at h9
    exact ⟨⟨by omega, by omega⟩, by omega, by omega⟩)
theorem place_dts (s : Sh) (id x y wt di num : Int) (cls name : ByteArray) (w : World) (f0 : fits s.ax) (f1 : fits s.ay) (hid : fits id) (hcl : cls.size ≤ 1000) (htab : Pow w) :
    Calls Tryz.prog 8 #[shV s, .agg (plC id x y wt di cls name), .int .i64 num] w fun e w' => ∃ v, e = .returned (.tuple #[v, .bool (plF s x y id cls num).1]) ∧ Dts w'.heap.size w' v (plF s x y id cls num).2 ∧ Below w.heap.size w w' := by
  obtain ⟨⟨i, j, b⟩, hof⟩ : ∃ p, ofS s x y = p := ⟨_, rfl⟩
  cases b with
  | false =>
    rw [plF_no hof (.inl rfl)]
    refine (place_no s id x y wt di num i j cls name w f0 f1 hof).mono ?_
    rintro e w' ⟨rfl, hb⟩
    exact ⟨_, rfl, .inl ⟨rfl, rfl⟩, hb⟩
  | true =>
    by_cases hr : num < 1 ∨ 999 < num
    · rw [plF_no hof (.inr hr)]
      refine (place_range s id x y wt di num i j cls name w f0 f1 hof hr).mono ?_
      rintro e w' ⟨rfl, hb⟩
      exact ⟨_, rfl, .inl ⟨rfl, rfl⟩, hb⟩
    · obtain ⟨n, rfl⟩ : ∃ n : Nat, num = n := ⟨num.toNat, by omega⟩
      rw [plF_yes hof (by omega) (by omega)]
      unfold plPts
      rw [Int.toNat_natCast]
      obtain ⟨hm, hsum⟩ := plM_lt cls
      have hs := okS_of (ofS_true hof).1
      have hit : ∀ W, Below w.heap.size w W → Calls Tryz.prog 31 #[.int .i64 (n : Nat)] W fun e W' => e = .returned (.string (txtN n)) ∧ Below W.heap.size W W' := fun W hW => by
        refine (Tryz.strconv_Itoa (n : Nat) (by omega) (by omega) W (htab.below hW)).mono ?_
        rintro e W' ⟨rfl, k, os, rfl⟩
        refine ⟨?_, ?_⟩
        · unfold txtN Lib.itoa
          rw [if_neg (by omega), Int.toNat_natCast]
        · refine ⟨rfl, rfl, rfl, ?_, fun q hq => ?_⟩
          · show W.heap.size ≤ (W.heap ++ os).size
            rw [Array.size_append]
            omega
          · show (W.heap ++ os)[q]? = W.heap[q]?
            rw [Array.getElem?_append_left hq]
      have hwr : ∀ W, Calls Tryz.prog 30 #[.string (txtN n)] W fun e W' => e = .returned (.tuple #[.string (cellsN n), .int .i64 0]) ∧ Below W.heap.size W W' := fun W => write_digs (txtN n) (txtN_digs n) (by rw [txtN_size]; have := decDigits_len 2 n (by omega); omega) W
      have hdots : ∀ k (h : k < (cellsN n).size) W, Calls Tryz.prog 32 #[.int .u8 ((cellsN n)[k]).toNat] W fun e W' => e = .returned (.agg #[.bool (cellD n k 0), .bool (cellD n k 1), .bool (cellD n k 2), .bool (cellD n k 3), .bool (cellD n k 4), .bool (cellD n k 5)]) ∧ Below W.heap.size W W' := fun k hk W => by
        rw [cellD_at n k hk 0, cellD_at n k hk 1, cellD_at n k hk 2, cellD_at n k hk 3, cellD_at n k hk 4, cellD_at n k hk 5]
        exact cd_any _ (cellsN_byte n k hk) W
      refine (place_yes s id x y wt di n i j cls name (txtN n) (cellsN n) (cellD n) (plM cls) w f0 f1 hof hid (by omega) (by omega) (by omega) hm hsum (by have := cellsN_le n (by omega); omega) hit hwr hdots (placeE_some i j id _ n)).mono ?_
      have hkeys : ∀ p, p ∈ (placeE i j id (symB (plM cls)) (cellD n) (cellsN n).size).map (·.1) ↔ p ∈ placePts i j (symB (plM cls)) (cellD n) (cellsN n).size := fun p => by
        rw [placeE_pts, fold_keys]
        simp
      have hpl := placePts_len i j (symB (plM cls)) n (by omega)
      rintro e w' ⟨hb, ⟨h, v, base, rfl, -, hrow⟩ | ⟨⟨p, hp, h⟩, rfl⟩⟩
      · have hall : ∀ p ∈ placePts i j (symB (plM cls)) (cellD n) (cellsN n).size, onS s p.1 p.2 = true := fun p hp => h p ((hkeys p).2 hp)
        rw [if_pos (List.all_eq_true.2 hall)]
        rw [placeE_pts, ← outP_dots hall] at hrow
        exact ⟨v, rfl, dts_out hs (by omega) hall hrow, hb⟩
      · rw [if_neg (fun hc => by have := List.all_eq_true.1 hc p ((hkeys p).1 hp); rw [h] at this; cases this)]
        exact ⟨_, rfl, .inl ⟨rfl, rfl⟩, hb⟩
theorem rplace_dts (s : Sh) (id x y wt di num : Int) (cls name : ByteArray) (w : World) (hid : fits id) (hcl : cls.size ≤ 1000) :
    Calls Tryz.prog 9 #[shV s, .agg (plC id x y wt di cls name), .int .i64 num] w fun e w' => ∃ v, e = .returned (.tuple #[v, .bool (plF s x y id cls num).1]) ∧ Dts w'.heap.size w' v (plF s x y id cls num).2 ∧ Below w.heap.size w w' := by
  obtain ⟨⟨i, j, b⟩, hof⟩ : ∃ p, ofS s x y = p := ⟨_, rfl⟩
  by_cases hr : b = false ∨ num < 1 ∨ 999 < num
  · rw [plF_no hof hr]
    refine (rplace_no s id x y wt di num i j b cls name w hof hr).mono ?_
    rintro e w' ⟨rfl, hb⟩
    exact ⟨_, rfl, .inl ⟨rfl, rfl⟩, hb⟩
  · obtain rfl : b = true := by cases b; exact absurd (.inl rfl) hr; rfl
    obtain ⟨n, rfl⟩ : ∃ n : Nat, num = n := ⟨num.toNat, by omega⟩
    rw [plF_yes hof (by omega) (by omega)]
    unfold plPts
    rw [Int.toNat_natCast]
    obtain ⟨hm, hsum⟩ := plM_lt cls
    have hs := okS_of (ofS_true hof).1
    have hpl := placePts_len i j (symB (plM cls)) n (by omega)
    refine (rplace_yes s id x y wt di i j n (plM cls) cls name w hof hid (by omega) (by omega) (by omega) hm hsum).mono ?_
    rintro e w' ⟨hb, ⟨h, v, base, rfl, -, hrow⟩ | ⟨⟨p, hp, h⟩, rfl⟩⟩
    · rw [if_pos (List.all_eq_true.2 h)]
      exact ⟨v, rfl, dts_out hs (by omega) h hrow, hb⟩
    · rw [if_neg (fun hc => by have := List.all_eq_true.1 hc p hp; rw [h] at this; cases this)]
      exact ⟨_, rfl, .inl ⟨rfl, rfl⟩, hb⟩
end Go.Proofs.YtjfdbigkbgolmaaGreatDoor
namespace Go.Proofs.YtjfdbigkbgolmaaGreatDoor
set_option linter.unusedVariables false
set_option linter.unusedSimpArgs false
open Go.RowKit Go.Shelf
section
variable {H : Type} {enc : TypeId × Value → H} {P : Program} {W : World} {base : Nat} {sp : Nat → Bool} {hd : Bool} {t e : TypeId} {v : Value}

theorem ints_open {fuel : Nat} {x : DataW H × List MemPlace} (ht : P.underlying t = some (.slice e)) (he : P.underlying e = some (.int .i64)) (hc : P.cellsOf e = 1)
    (h : DataW.trod enc P W base sp hd fuel t [v] = some x) : ∃ xs, Intz W.heap.size W v xs := by
  rcases Go.ChangeShapes.open_ints ht he hc h with ⟨h1, -⟩ | ⟨a, len, cap, zs, h1, -, h2, h2m, h3, -, h4, h5⟩
  · obtain rfl : v = .slice none 0 0 := by simpa using h1
    exact ⟨[], Intz.nil _ _⟩
  · obtain rfl : v = .slice (some a) len cap := by simpa using h1
    have hz : len ≤ zs.length := by rw [h3]; split <;> omega
    refine ⟨zs.take len, ⟨some a, cap, by rw [List.length_take, Nat.min_eq_left hz], fun j hj => ?_⟩, ?_⟩
    · have hj' : j < len := by rw [List.length_take] at hj; omega
      obtain ⟨b, off, rfl, h6⟩ := Go.ints_at h4 (by omega)
      have h7 := h6 j (by omega)
      have hg : zs.getD j 0 = zs[j] := by rw [List.getD_eq_getElem?_getD, List.getElem?_eq_getElem (by omega)]; rfl
      rw [List.getElem_take]
      rw [hg] at h7
      exact ⟨b, off, rfl, World.block_lt_of_cell? _ _ h7, lit_fits _ (h5 _ (List.getElem_mem _)), h7⟩
    · rw [List.length_take, Nat.min_eq_left hz]
      unfold maxLen at h2m
      show len ≤ 9223372036854775807
      omega
theorem intz_arg (ht : P.underlying t = some (.slice e)) (he : P.underlying e = some (.int .i64)) (hc : P.cellsOf e = 1) (hv : ∀ cs, v ≠ .agg cs)
    (h : ∃ d p, DataW.Trod enc P W base sp hd t v d p) : ∃ xs, Intz W.heap.size W v xs := by
  obtain ⟨d, p, fuel, h⟩ := h
  have hcs : v.cells.toList = [v] := by cases v <;> first | rfl | exact absurd rfl (hv _)
  rw [hcs] at h
  exact ints_open ht he hc h
theorem mat_arg {t2 : TypeId} (ht2 : P.underlying t2 = some (.slice t)) (hc2 : P.cellsOf t = 1) (ht : P.underlying t = some (.slice e)) (he : P.underlying e = some (.int .i64)) (hc : P.cellsOf e = 1) (hv : ∀ cs, v ≠ .agg cs)
    (h : ∃ d p, DataW.Trod enc P W base sp hd t2 v d p) : ∃ rows, Mat W.heap.size W v rows ∧ LenOk rows.length := by
  obtain ⟨d, p, fuel, h⟩ := h
  have hcs : v.cells.toList = [v] := by cases v <;> first | rfl | exact absurd rfl (hv _)
  rw [hcs] at h
  rcases Go.Deep.open_slice1 ht2 hc2 h with ⟨h1, -⟩ | ⟨a, len, cap, m, n, V, D, Pl, h1, -, h2, h2m, h3, -, h4⟩
  · obtain rfl : v = .slice none 0 0 := by simpa using h1
    exact ⟨[], ⟨none, 0, rfl, Nat.le_refl _, fun j hj => by simp at hj⟩, Nat.zero_le _⟩
  · obtain rfl : v = .slice (some a) len cap := by simpa using h1
    have hm : len ≤ m := by rw [h3]; split <;> omega
    have each : ∀ i, i < len → ∃ r : Value × List Int, W.cell? (a.add i) = some r.1 ∧ Intz W.heap.size W r.1 r.2 := fun i hi => by
      obtain ⟨h5, h6⟩ := h4 i (by omega)
      obtain ⟨xs, hx⟩ := ints_open ht he hc h6
      exact ⟨(V i, xs), h5, hx⟩
    have inh : Inhabited (Value × List Int) := ⟨(.bool false, [])⟩
    obtain ⟨f, hf⟩ := Go.Deep.choose_lt each
    refine ⟨(List.range len).map f, ⟨some a, cap, by simp, by simpa using h2, fun j hj => ?_⟩, ?_⟩
    · have hj' : j < len := by simpa using hj
      obtain ⟨c0, hi⟩ := hf j hj'
      have hspot : a.spot = none := by
        have d0 := (hf 0 (by omega)).1
        simpa [Addr.add] using World.cell?_spot d0
      obtain ⟨b, off, spot⟩ := a
      simp only at hspot
      subst hspot
      rw [Go.WideShapes.add_plain] at c0
      have hg : ((List.range len).map f)[j] = f j := by simp
      rw [hg]
      exact ⟨b, off, rfl, World.block_lt_of_cell? _ _ c0, c0, hi⟩
    · rw [List.length_map, List.length_range]
      unfold maxLen at h2m
      show len ≤ 9223372036854775807
      omega
end
section
variable {P : Program} {W : World} {r : Reach} {base : Nat} {t : TypeId} {v : Value}
theorem cell_int (ht : P.underlying t = some (.int .i64)) (h : Cell.okWide P W r base t v) : ∃ x, v = .int .i64 x ∧ fits x := by
  unfold Cell.okWide at h
  rw [ht] at h
  cases v <;> simp [Cell.ok, ht] at h
  rename_i k n
  obtain ⟨rfl, h2⟩ := h
  refine ⟨n, rfl, ?_⟩
  simp [IntKind.has, IntKind.min, IntKind.max, IntKind.signed, IntKind.bits] at h2
  exact ⟨by omega, by omega⟩
theorem cell_str (ht : P.underlying t = some .string) (h : Cell.okWide P W r base t v) : ∃ s, v = .string s ∧ LenOk s.size := by
  unfold Cell.okWide at h
  rw [ht] at h
  cases v <;> simp [Cell.ok, ht] at h
  rename_i s
  refine ⟨s, rfl, ?_⟩
  try simp [IntKind.max, IntKind.signed, IntKind.bits] at h
  show s.size ≤ 9223372036854775807
  omega
theorem agg_cells (hrow : (match P.underlying t with | some (.struct _) | some (.array _ _) => true | _ => false) = true) (h : Value.okWide P W r base t v) : ∃ cs, v = .agg cs ∧ cs.size = P.cellsOf t ∧ Row.okWide P W r base t cs := by
  unfold Value.okWide at h
  split at hrow <;> simp_all
end
abbrev rawC (id x y : Int) (cs ns : ByteArray) (wt ds num ax ay st sw sh sg : Int) : Array Value := #[.int .i64 id, .int .i64 x, .int .i64 y, .string cs, .string ns, .int .i64 wt, .int .i64 ds, .int .i64 num, .int .i64 ax, .int .i64 ay, .int .i64 st, .int .i64 sw, .int .i64 sh, .int .i64 sg]
set_option maxRecDepth 100000 in
theorem raw_arg {W : World} {r : Reach} {base : Nat} {v : Value} (h : Value.okWide Tryz.prog W r base 31 v) : ∃ id x y cs ns wt ds num ax ay st sw sh sg, v = .agg (rawC id x y cs ns wt ds num ax ay st sw sh sg) ∧ (fits id ∧ fits x ∧ fits y ∧ fits wt ∧ fits ds ∧ fits num ∧ fits ax ∧ fits ay) ∧ LenOk cs.size := by
  obtain ⟨cs, rfl, hn, ts, hts, -, hcell⟩ := agg_cells (by kernel_rfl) h
  obtain rfl : ts = [3, 3, 3, 9, 9, 3, 3, 3, 3, 3, 3, 3, 3, 3] := Option.some.inj (hts.symm.trans (by kernel_rfl))
  have hn' : cs.size = 14 := hn.trans (by kernel_rfl)
  obtain ⟨l⟩ := cs
  match l, hn', hcell with
  | [c0, c1, c2, c3, c4, c5, c6, c7, c8, c9, c10, c11, c12, c13], _, hcell =>
    obtain ⟨u0, k0, h0⟩ := hcell 0 c0 rfl
    obtain ⟨u1, k1, h1⟩ := hcell 1 c1 rfl
    obtain ⟨u2, k2, h2⟩ := hcell 2 c2 rfl
    obtain ⟨u3, k3, h3⟩ := hcell 3 c3 rfl
    obtain ⟨u4, k4, h4⟩ := hcell 4 c4 rfl
    obtain ⟨u5, k5, h5⟩ := hcell 5 c5 rfl
    obtain ⟨u6, k6, h6⟩ := hcell 6 c6 rfl
    obtain ⟨u7, k7, h7⟩ := hcell 7 c7 rfl
    obtain ⟨u8, k8, h8⟩ := hcell 8 c8 rfl
    obtain ⟨u9, k9, h9⟩ := hcell 9 c9 rfl
    obtain ⟨u10, k10, h10⟩ := hcell 10 c10 rfl
    obtain ⟨u11, k11, h11⟩ := hcell 11 c11 rfl
    obtain ⟨u12, k12, h12⟩ := hcell 12 c12 rfl
    obtain ⟨u13, k13, h13⟩ := hcell 13 c13 rfl
    cases k0; cases k1; cases k2; cases k3; cases k4; cases k5; cases k6; cases k7; cases k8; cases k9; cases k10; cases k11; cases k12; cases k13
    obtain ⟨id, rfl, f0⟩ := cell_int Tryz.underlying3 h0
    obtain ⟨x, rfl, f1⟩ := cell_int Tryz.underlying3 h1
    obtain ⟨y, rfl, f2⟩ := cell_int Tryz.underlying3 h2
    obtain ⟨s3, rfl, f3⟩ := cell_str Tryz.underlying9 h3
    obtain ⟨s4, rfl, -⟩ := cell_str Tryz.underlying9 h4
    obtain ⟨x5, rfl, f5⟩ := cell_int Tryz.underlying3 h5
    obtain ⟨x6, rfl, f6⟩ := cell_int Tryz.underlying3 h6
    obtain ⟨x7, rfl, f7⟩ := cell_int Tryz.underlying3 h7
    obtain ⟨x8, rfl, f8⟩ := cell_int Tryz.underlying3 h8
    obtain ⟨x9, rfl, f9⟩ := cell_int Tryz.underlying3 h9
    obtain ⟨x10, rfl, -⟩ := cell_int Tryz.underlying3 h10
    obtain ⟨x11, rfl, -⟩ := cell_int Tryz.underlying3 h11
    obtain ⟨x12, rfl, -⟩ := cell_int Tryz.underlying3 h12
    obtain ⟨x13, rfl, -⟩ := cell_int Tryz.underlying3 h13
    exact ⟨id, x, y, s3, s4, x5, x6, x7, x8, x9, x10, x11, x12, x13, rfl, ⟨f0, f1, f2, f5, f6, f7, f8, f9⟩, f3⟩

theorem laidMet.tl {P : Program} {W : World} {a : String × DataW Unit} {rest : List (String × DataW Unit)} (h : laidMet P (a :: rest) W) : laidMet P rest W := by
  obtain ⟨ps, hl, hn, hb⟩ := h
  obtain ⟨n, d⟩ := a
  obtain ⟨g, t, cs, fuel, p, q, -, -, -, -, hr, rfl⟩ := hl
  exact ⟨q, hr, (List.nodup_append.1 hn).2.1, fun b off hm => hb b off (List.mem_append_right _ hm)⟩
end Go.Proofs.YtjfdbigkbgolmaaGreatDoor
