/-
  Chapter 7's At over made partitions: At returns a number and a bool; chapter 10's faceDistrict, part, stop.
-/
import Derived.Test.YtjfdbigkbgolmaaGreatDoorZK
import Derived.Test.YtjfdbigkbgolmaaGreatDoorZM

namespace Go.Proofs.YtjfdbigkbgolmaaGreatDoor
set_option linter.unusedVariables false
set_option linter.unusedSimpArgs false
open Go.RowKit Go.Shelf
attribute [local go_sem] Oper.semAt_some
attribute [local go_sem ↓] Go.wp_at_zero Go.wp_at_succ

theorem Ev.join {g S' : BS} {W W' : World} (h : TW g W) (h3 : Ev noB noB W S' W') : Ev noB g W (fun b => g b ∨ S' b) W' := by
  have h1 := Ev.of_below (X := noB) h h3.low
  refine ⟨fun b hb => .inl hb, fun b hb => ?_, h3.os, h3.tape, h3.output, h3.size, fun b hb _ _ => h3.rest b hb (fun h => h) (fun h => h), h1.shape, fun b hb => ?_⟩
  · rcases hb with hb | hb
    · exact .inl hb
    · rcases h3.new b hb with h2 | h2
      · exact h2.elim
      · exact .inr h2
  · rcases hb with hb | hb
    · obtain ⟨c, e, hc, ht⟩ := h1.ok b hb
      exact ⟨c, e, hc, ht.mono (fun _ h => .inl h) (Shp.refl _ _)⟩
    · obtain ⟨c, e, hc, ht⟩ := h3.ok b hb
      exact ⟨c, e, hc, ht.mono (fun _ h => .inr h) (Shp.refl _ _)⟩
/-- a walk over fresh typed blocks, with a box of its own -/
structure Bx1 (w : World) (B : Nat) (c : Array Value) (t : TypeId) (S : BS) (W : World) : Prop where
  ev : Ev noB noB w S W
  b : Blk W B c t
  n : ¬ S B
  l : w.heap.size ≤ B
theorem Bx1.evo {w W W' : World} {B : Nat} {c : Array Value} {t : TypeId} {S S' : BS} (h : Bx1 w B c t S W) (he : Ev noB S W S' W') : Bx1 w B c t S' W' := ⟨h.ev.trans he, he.blk h.b h.n (fun h => h), he.not h.b.lt h.n, h.l⟩
theorem Bx1.up {w W W' : World} {B : Nat} {c : Array Value} {t : TypeId} {S : BS} (h : Bx1 w B c t S W) (hb : Below W.heap.size W W') : Bx1 w B c t S W' := h.evo (Ev.of_below h.ev.ok hb)

def FAt (B3 : Nat) (ev : Value) (px py : Int) (i : Nat) (v : Value) (g : BS) (w : World) : Prop :=
  match i with
  | 0 => v = ev
  | 1 => ∃ n, SL g w 179 v n ∧ n ≤ 100
  | 2 => v = .agg #[.int .i64 px, .int .i64 py]
  | 3 => ∃ x b, v = .tuple #[.int .i64 x, .bool b]
  | 4 => ∃ x, v = .int .i64 x
  | 5 => ∃ b, v = .bool b
  | _ => False
theorem FAt.kept {B3 : Nat} {ev : Value} {px py : Int} {i : Nat} {v : Value} {g g' : BS} {w w' : World} (h : FAt B3 ev px py i v g w) (hg : Ev noB g w g' w') : FAt B3 ev px py i v g' w' := by
  unfold FAt at *
  split at h
  all_goals first | exact h | (obtain ⟨n, h1, h2⟩ := h; exact ⟨n, hg.sl h1, h2⟩) | (exact h)
set_option maxRecDepth 100000 in
set_option maxHeartbeats 4000000 in
theorem at7_any (S : BS) (w : World) (hT : TW S w) (ev : Value) (m : Nat) (hse : SL S w 156 ev m) (hm : m ≤ 100) (px py : Int) (fpx : fits px) (fpy : fits py) :
    Calls Tryz.prog 67 #[ev, .agg #[.int .i64 px, .int .i64 py]] w fun e w' => RetIB e ∧ Below w.heap.size w w' := by
  go_enter Tryz.func67, Tryz.ntmps67
  go_upto_region 1 with fail
  have h0 : Bx1 w w.heap.size #[.int .i64 px, .int .i64 py] 25 noB (w.alloc (.cells #[.int .i64 px, .int .i64 py] 25)) := ⟨Ev.of_below (TW.none _) (by repeat' (first | with_reducible exact Below.refl _ _ | with_reducible exact Nat.le_refl _ | with_reducible assumption | with_reducible refine Go.below_growBy' ?_ ?_ _ | with_reducible refine Below.alloc ?_ ?_ _ | with_reducible refine Below.setCell ?_ ?_ _ | with_reducible refine Below.drew ?_ | with_reducible refine Go.le_alloc ?_ | with_reducible refine Go.le_growBy ?_ | with_reducible refine Go.le_setCell ?_ | with_reducible refine Go.le_drew ?_ | omega | (dsimp only; omega))), Blk.new _ _ _, fun h => h, Nat.le_refl _⟩
  obtain ⟨W1, hW1⟩ : ∃ W, w.alloc (.cells #[.int .i64 px, .int .i64 py] 25) = W := ⟨_, rfl⟩
  obtain ⟨B3, hB3⟩ : ∃ b, w.heap.size = b := ⟨_, rfl⟩
  rw [hW1] at h0
  rw [hW1]
  have h1 : Bx1 w B3 #[.int .i64 px, .int .i64 py] 25 noB W1 := by rw [← hB3]; exact h0
  rw [hB3]
  clear h0 hW1 hB3
  refine Go.wp_region_reln 6 (by kernel_rfl) (by kernel_rfl) (fun _ g W => Bx1 w B3 #[.int .i64 px, .int .i64 py] 25 g W) (fun g W g' W' => Ev noB g W g' W') (FAt B3 ev px py) (fun _ _ _ _ _ _ h g => h.kept g) noB (h1.evo (Ev.drew h1.ev.ok)) ?_ ?_
  · intro i o hi ho c bb g W hc hM hA hD K hK
    match i, hi, ho with
    | 0, _, ho =>
      cases ho
      have f0 : bb.tmps[0]?.getD undef = ev := evalAt (v := ev) (hA.at_ (k := 0) (by kernel_rfl))
      go_simp
      exact hK (ev) g W rfl (Ev.refl hM.ev.ok) hM
    | 1, _, ho =>
      cases ho
      have f6 : bb.tmps[6]?.getD undef = ev := evalAt (v := ev) (dep_atN hD 0 6 (by kernel_rfl) rfl rfl)
      go_simp
      have hTW := Ev.of_below (X := noB) hT hM.ev.low
      refine (traces_any S W hTW.ok ev m (hTW.sl hse) hm).mono ?_
      rintro e W' ⟨S', v, rfl, ⟨n, h1, h2⟩, h3⟩
      go_simp
      have hj := Ev.join hM.ev.ok h3
      exact hK v _ W' ⟨n, h1.mono (fun _ h => .inr h) (Shp.refl _ _), h2⟩ hj (hM.evo hj)
    | 2, _, ho =>
      cases ho
      have f3 : bb.tmps[3]?.getD undef = .pointer (some ⟨B3, 0, none⟩) := evalAt (v := .pointer (some ⟨B3, 0, none⟩)) (hA.at_ (k := 3) (by kernel_rfl))
      have z0 : W.cell? ⟨B3, 0, none⟩ = some (.int .i64 px) := hM.b.cell 0
      have z1 : W.cell? ⟨B3, 1, none⟩ = some (.int .i64 py) := hM.b.cell 1
      go_simp
      exact hK (.agg #[.int .i64 px, .int .i64 py]) g W rfl (Ev.refl hM.ev.ok) hM
    | 3, _, ho =>
      cases ho
      have f7 := dep_atN hD 1 7 (by kernel_rfl) rfl rfl
      have f8 : bb.tmps[8]?.getD undef = .agg #[.int .i64 px, .int .i64 py] := evalAt (v := .agg #[.int .i64 px, .int .i64 py]) (dep_atN hD 2 8 (by kernel_rfl) rfl rfl)
      obtain ⟨n, h7, hn7⟩ := f7
      obtain ⟨tv, e7⟩ : ∃ v, bb.eval (.tmp 7) = v := ⟨_, rfl⟩
      rw [e7] at h7
      have f7 := evalAt e7
      go_simp
      refine (atTraces_any g W hM.ev.ok tv n h7 hn7 px py fpx fpy).mono ?_
      rintro e W' ⟨⟨x, b, rfl⟩, hb⟩
      go_simp
      exact hK (.tuple #[.int .i64 x, .bool b]) g W' ⟨_, _, rfl⟩ (Ev.of_below hM.ev.ok hb) (hM.up hb)
    | 4, _, ho =>
      cases ho
      have f9 := dep_atN hD 3 9 (by kernel_rfl) rfl rfl
      obtain ⟨x, b, e9⟩ := f9
      have f9 := evalAt e9
      go_simp
      exact hK (.int .i64 x) g W ⟨_, rfl⟩ (Ev.refl hM.ev.ok) hM
    | 5, _, ho =>
      cases ho
      have f9 := dep_atN hD 3 9 (by kernel_rfl) rfl rfl
      obtain ⟨x, b, e9⟩ := f9
      have f9 := evalAt e9
      go_simp
      exact hK (.bool b) g W ⟨_, rfl⟩ (Ev.refl hM.ev.ok) hM
    | i + 6, hi, _ => exact absurd hi (by omega)
  · intro bb g W hM hA hall
    obtain ⟨x, hP4⟩ := (show ∃ x, bb.eval (.tmp 10) = .int .i64 x from hall 4 (by omega) _ _ rfl rfl)
    obtain ⟨b, hP5⟩ := (show ∃ b, bb.eval (.tmp 11) = .bool b from hall 5 (by omega) _ _ rfl rfl)
    have hfr := hA.frame [true, true, true, true, true, true, false, false, false, false, false, false] _ rfl (by kernel_rfl)
    clear hall hA
    obtain ⟨f, hf⟩ : ∃ f : Nat → Value, (fun k => bb.tmps.getD k undef) = f := ⟨_, rfl⟩
    have g10 : f 10 = .int .i64 x := by rw [← hf, ← hP4]; rfl
    have g11 : f 11 = .bool b := by rw [← hf, ← hP5]; rfl
    rw [hf] at hfr
    clear hf hP4 hP5
    subst hfr
    simp only [pickL, g10, g11, Nat.reduceAdd]
    clear g10 g11
    simp only [List.drop_succ_cons, List.drop_zero]
    go_wp2_with fail
    go_ret2
    exact ⟨⟨_, _, rfl⟩, hM.ev.low⟩
theorem SL.face {S : BS} {W : World} {b off n cap : Nat} (hT : TW S W) (h : SL S W 73 (.slice (some ⟨b, off, none⟩) n cap) n) {k : Nat} (hk : k < n) : ∃ id d, W.cell? ⟨b, off + k * 5, none⟩ = some (.int .i64 id) ∧ W.cell? ⟨b, off + k * 5 + 4, none⟩ = some (.int .i64 d) ∧ fits id ∧ fits d := by
  obtain ⟨u0, c0, h0⟩ := h.cell hT et_face hk 0 .int rfl
  obtain ⟨u4, c4, h4⟩ := h.cell hT et_face hk 4 .int rfl
  obtain ⟨id, rfl, f0⟩ := h0.i rfl
  obtain ⟨d, rfl, f4⟩ := h4.i rfl
  exact ⟨id, d, c0, c4, f0, f4⟩
abbrev mapC (ev fv wv pv : Value) : Array Value := #[ev, fv, wv, pv]
set_option maxRecDepth 100000 in
set_option maxHeartbeats 2000000 in
theorem faceDistrict_any (S : BS) (w : World) (hT : TW S w) (ea fa wa pa : Option Addr) (en ec wn wc pn pc fc : Nat) (n : Nat) (hsf : SL S w 73 (.slice fa n fc) n) (hn : n ≤ 200) (id : Int) :
    Calls Tryz.prog 68 #[.agg (mapC (.slice ea en ec) (.slice fa n fc) (.slice wa wn wc) (.slice pa pn pc)), .int .i64 id] w fun e w' => (∃ x, e = .returned (.int .i64 x) ∧ fits x) ∧ Below w.heap.size w w' := by
  go_enter Tryz.func68, Tryz.ntmps68
  go_wp2_with fail
  have hb : Below w.heap.size w (w.alloc (.cells (mapC (.slice ea en ec) (.slice fa n fc) (.slice wa wn wc) (.slice pa pn pc)) 39)) := (by repeat' (first | with_reducible exact Below.refl _ _ | with_reducible exact Nat.le_refl _ | with_reducible assumption | with_reducible refine Go.below_growBy' ?_ ?_ _ | with_reducible refine Below.alloc ?_ ?_ _ | with_reducible refine Below.setCell ?_ ?_ _ | with_reducible refine Below.drew ?_ | with_reducible refine Go.le_alloc ?_ | with_reducible refine Go.le_growBy ?_ | with_reducible refine Go.le_setCell ?_ | with_reducible refine Go.le_drew ?_ | omega | (dsimp only; omega)))
  have k1 := (Blk.new w (mapC (.slice ea en ec) (.slice fa n fc) (.slice wa wn wc) (.slice pa pn pc)) 39).cell 1
  have hev := Ev.of_below (X := noB) hT hb
  obtain ⟨W1, hW1⟩ : ∃ W, w.alloc (.cells (mapC (.slice ea en ec) (.slice fa n fc) (.slice wa wn wc) (.slice pa pn pc)) 39) = W := ⟨_, rfl⟩
  obtain ⟨B, hB⟩ : ∃ b, w.heap.size = b := ⟨_, rfl⟩
  rw [hW1] at hb hev k1
  rw [hW1]
  have c1 : W1.cell? ⟨B, 1, none⟩ = some (.slice fa n fc) := by rw [← hB]; exact k1
  rw [hB]
  clear k1 hB hW1
  have hsf1 := hev.sl hsf
  go_loopw [5] (fun kk wr => ∃ k : Nat, k ≤ n ∧ kk = .int .i64 (k : Nat) ∧ wr = W1) (fun kk _ => n - (intOf kk).toNat)
  case atStart => exact ⟨0, Nat.zero_le _, rfl, rfl⟩
  case round =>
    obtain ⟨k, hk, rfl, rfl⟩ := hrel
    by_cases hlt : k < n
    · have hltI : (k : Int) < (n : Int) := by omega
      obtain ⟨b, off, cap', hab, -, -⟩ := hsf.some_ (by omega)
      simp only [Value.slice.injEq, true_and] at hab
      obtain ⟨rfl, rfl⟩ := hab
      obtain ⟨q, d, c0, c4, fq, fd⟩ := SL.face hev.ok hsf1 hlt
      by_cases hqi : q = id
      · subst hqi
        go_wp2_with fail
        go_ret
        exact ⟨⟨_, rfl, fd⟩, hb⟩
      · have hqb : (q == id) = false := by simpa using hqi
        go_wp2_with fail
        go_roundw
        case rel => exact ⟨k + 1, by omega, by go_num, by first | rfl | trivial⟩
        case measure => simp [intOf]; omega
    · have hge : ¬ (k : Int) < (n : Int) := by omega
      go_wp2_with fail
      go_ret
      exact ⟨⟨_, rfl, ⟨by decide, by decide⟩⟩, hb⟩
/-- a list of a list of lists -/
theorem part_any (n₀ : Nat) (w : World) (lv : Value) (rows : List (Value × List Int)) (hM : Mat n₀ w lv rows) (hr : rows.length ≤ 1000000) (k : Nat) (hk : k ≤ 100) :
    Calls Tryz.prog 24 #[lv, .int .i64 (k : Nat)] w fun e w' => ∃ v, e = .returned v ∧ (∃ xs, Intz n₀ w v xs) ∧ w = w' := by
  obtain ⟨a, cap, rfl, hc, hrow⟩ := hM
  go_enter Tryz.func24, Tryz.ntmps24
  by_cases h : k < rows.length
  · obtain ⟨b, off, rfl, hb, c0, hi⟩ := hrow k h
    have hle : ¬ (rows.length : Int) ≤ (k : Int) := by omega
    have hlt : (k : Int) < (rows.length : Int) := by omega
    obtain ⟨row, hrw⟩ : ∃ r, rows[k] = r := ⟨_, rfl⟩
    rw [hrw] at c0 hi
    clear hrow hrw
    go_wp2_with fail
    go_ret
    exact ⟨_, rfl, ⟨row.2, hi⟩, rfl⟩
  · have hle : (rows.length : Int) ≤ (k : Int) := by omega
    go_wp2_with fail
    go_ret
    exact ⟨_, rfl, ⟨[], Intz.nil _ _⟩, rfl⟩
set_option maxRecDepth 100000 in
theorem stop_any (i j : Int) (w : World) : Calls Tryz.prog 66 #[.int .i64 i, .int .i64 j] w fun e w' => (∃ x y, e = .returned (.agg #[.int .i64 x, .int .i64 y]) ∧ fits x ∧ fits y) ∧ Below w.heap.size w w' := by
  go_enter Tryz.func66, Tryz.ntmps66
  go_wp2_with fail
  have hk := Blk.new w #[.int .i64 (wrap64 (55 + wrap64 (80 * i))), .int .i64 (wrap64 (65 + wrap64 (70 * j)))] 25
  exact bodyPost_ret (results_cell_row (by rfl) _ _ _ 25 _ (0, 0) _ (by rfl) hk Tryz.underlying25 (by rfl) (by kernel_rfl)) rfl ⟨⟨_, _, rfl, fits_w64 _, fits_w64 _⟩, (by repeat' (first | with_reducible exact Below.refl _ _ | with_reducible exact Nat.le_refl _ | with_reducible assumption | with_reducible refine Go.below_growBy' ?_ ?_ _ | with_reducible refine Below.alloc ?_ ?_ _ | with_reducible refine Below.setCell ?_ ?_ _ | with_reducible refine Below.drew ?_ | with_reducible refine Go.le_alloc ?_ | with_reducible refine Go.le_growBy ?_ | with_reducible refine Go.le_setCell ?_ | with_reducible refine Go.le_drew ?_ | omega | (dsimp only; omega)))⟩
end Go.Proofs.YtjfdbigkbgolmaaGreatDoor
