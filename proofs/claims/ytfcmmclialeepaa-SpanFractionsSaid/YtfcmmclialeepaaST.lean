/-
  The events' cells as a list (for append), and behind a store into one of them.
-/
import Derived.Test.YtfcmmclialeepaaPS2
import Derived.Test.YtfcmmclialeepaaD3
import Derived.Test.YtfcmmclialeepaaS5
import Derived.Test.YtfcmmclialeepaaOpen
import Derived.Maps.AppendAt
namespace Go.Proofs.Ytfcmmclialeepaa
open Go.RowKit Go.Shelf

theorem flat_length (l : List Ev) : (flat l).length = l.length * 5 := by
  induction l with
  | nil => rfl
  | cons e l ih => simp [flat, evCells] at ih ⊢; omega

theorem evs_news {n₀ : Nat} {W : World} {a : Option Addr} {cap : Nat} {l : List Ev} (h : Evs n₀ W (.slice a l.length cap) l) (hne : 0 < l.length) :
    ∃ b off, a = some ⟨b, off, none⟩ ∧ b < n₀ ∧ ∀ j u, (flat l)[j]? = some u → W.cell? ((⟨b, off, none⟩ : Addr).add j) = some u := by
  rcases h with ⟨-, rfl⟩ | ⟨b, off, cap', h1, hb, hl, hc⟩
  · simp at hne
  · cases h1
    refine ⟨b, off, rfl, hb, fun j u hj => ?_⟩
    rw [Go.WideShapes.add_plain]
    obtain ⟨hlt, -⟩ := List.getElem?_eq_some_iff.1 hj
    rw [flat_length] at hlt
    obtain ⟨q, r, hr, rfl⟩ : ∃ q r, r < 5 ∧ j = q * 5 + r := ⟨j / 5, j % 5, Nat.mod_lt _ (by decide), by omega⟩
    obtain ⟨f0, f1, f2, f3, f4⟩ := flat_get l q (by omega)
    obtain ⟨c0, c1, c2, c3, c4⟩ := hc q (by omega)
    match r, hr, hj with
    | 0, _, hj => exact c0.trans (f0.symm.trans hj)
    | 1, _, hj => exact c1.trans (f1.symm.trans hj)
    | 2, _, hj => exact c2.trans (f2.symm.trans hj)
    | 3, _, hj => exact c3.trans (f3.symm.trans hj)
    | 4, _, hj => exact c4.trans (f4.symm.trans hj)

theorem flat_one (l : List Ev) : ∀ u ∈ flat l, u.oneCell' = true := by
  intro u hu
  obtain ⟨e, he, h⟩ := List.mem_flatMap.1 hu
  simp [evCells] at h
  rcases h with rfl | rfl | rfl | rfl | rfl <;> rfl

theorem Ints.up {n₀ : Nat} {A B : World} {sv : Value} {len : Nat} (h : Ints n₀ A sv len) (hb : Below n₀ A B) (hn : n₀ ≤ B.heap.size) : Ints B.heap.size B sv len := by
  obtain ⟨a, cap, e, h2⟩ := h.below hb
  refine ⟨a, cap, e, ?_⟩
  rcases h2 with h2 | ⟨b, off, e2, h3, h4⟩
  · exact .inl h2
  · exact .inr ⟨b, off, e2, by omega, h4⟩

theorem app_facts {w W1 w2 : World} {o1 o2 : Obj} {g cap3 kn : Nat} {evs : List Ev} {at_ : Int} (hB1 : Below w.heap.size w W1) (hk : kn < evs.length) (hl8 : evs.length ≤ 8)
    (hown2 : w2.ownsRow (W1.heap.size + 1) 35 5 (.slice (some ⟨g, 0, none⟩) (0 + evs.length) cap3) (0 + evs.length) ([] ++ flat evs)) (hgrow2 : ((W1.alloc o1).alloc o2).grownBy w2 (Value.slice (some ⟨W1.heap.size + 1, 0, none⟩) 0 0).ownBlock) :
    ∃ x0 : Int, w2.cell? ⟨g, kn * 5 + 1, none⟩ = some (.int .i64 x0) ∧ w2.frozen? ⟨g, kn * 5 + 1, none⟩ = false ∧ W1.heap.size + 1 ≤ g ∧ Below w.heap.size w w2 ∧ w.heap.size ≤ w2.heap.size ∧
      Evs (w2.setCell ⟨g, kn * 5 + 1, none⟩ (.int .i64 at_)).heap.size (w2.setCell ⟨g, kn * 5 + 1, none⟩ (.int .i64 at_)) (.slice (some ⟨g, 0, none⟩) evs.length cap3) (wrong evs kn at_) := by
  have hsW := hB1.size
  rw [Nat.zero_add, List.nil_append] at hown2
  have hst := (hown2.stored (kn * 5 + 1) (.int .i64 at_)).1
  rw [flat_set evs kn at_ hk] at hst
  have hB2 : Below w.heap.size w w2 := Below.trans (b := (W1.alloc o1).alloc o2) ((hB1.alloc hsW _).alloc (by simp; omega) _) (Below.of_grown hgrow2 (by simp; omega) (fun r e => by cases e; show w.heap.size ≤ W1.heap.size + 1; omega))
  exact ⟨_, (hown2.cellAt (kn * 5 + 1) (by omega)).trans (flat_get evs kn hk).2.1, hown2.frozenAt (kn * 5 + 1), (hown2.lt g rfl).1, hB2, hB2.size, evs_of_row (l := wrong evs kn at_) (by rw [wrong_length]; exact hst) (by rw [wrong_length]; omega)⟩

theorem done_eq {d sq : Int} {a : Option Addr} {len cap : Nat} {evs : List Ev} {w : World} {k : Nat} (hE : Evs w.heap.size w (.slice a len cap) evs) (hd : doneN sq evs = k) :
    Calls Try.prog 13 #[.agg #[.int .i64 d, .slice a len cap], .int .i64 sq] w fun e W' => e = .returned (.int .i64 k) ∧ Below w.heap.size w W' := by
  have h := done_any d sq a len cap evs w hE
  rw [hd] at h
  exact h

set_option maxRecDepth 100000 in
set_option maxHeartbeats 4000000 in
theorem stops_law (a : Option Addr) (len cap : Nat) (n at_ : Int) (w : World) (hI : Ints w.heap.size w (.slice a len cap) len) (n0 : 0 ≤ n) (n1 : n ≤ 255) (hat : fits at_) :
    Calls Try.prog 4 #[.slice a len cap, .int .u8 n, .int .i64 at_] w fun r w' => r = .returned (.bool true) ∧ Below w.heap.size w w' := by
  have ⟨_a0, _a1⟩ := hat
  obtain ⟨i0, hi0, hz0, hz1, hz2⟩ := ev_info'
  go_enter Try.func4, Try.ntmps4
  go_wp2_with (go_at_call 6; refine (sanity_any _).mono ?_; rintro e w' ⟨rfl, hb_⟩; obtain ⟨p, rfl⟩ := grow_of_below hb_; clear hb_)
  refine (made_any a len cap _ (hI.up (by repeat' (first | with_reducible exact Below.refl _ _ | with_reducible exact Nat.le_refl _ | with_reducible assumption | with_reducible refine Go.below_growBy' ?_ ?_ _ | with_reducible refine Below.alloc ?_ ?_ _ | with_reducible refine Below.setCell ?_ ?_ _ | with_reducible refine Below.drew ?_ | with_reducible refine Go.le_alloc ?_ | with_reducible refine Go.le_growBy ?_ | with_reducible refine Go.le_setCell ?_ | with_reducible refine Go.le_drew ?_ | omega | (dsimp only; omega))) (by repeat' (first | with_reducible exact Below.refl _ _ | with_reducible exact Nat.le_refl _ | with_reducible assumption | with_reducible refine Go.below_growBy' ?_ ?_ _ | with_reducible refine Below.alloc ?_ ?_ _ | with_reducible refine Below.setCell ?_ ?_ _ | with_reducible refine Below.drew ?_ | with_reducible refine Go.le_alloc ?_ | with_reducible refine Go.le_growBy ?_ | with_reducible refine Go.le_setCell ?_ | with_reducible refine Go.le_drew ?_ | omega | (dsimp only; omega))))).mono ?_
  rintro e W1 ⟨d, b, cap2, evs, rfl, hE, hl8, hR, hb⟩
  have hB1 : Below w.heap.size w W1 := Below.trans (b := w.growBy p) (by repeat' (first | with_reducible exact Below.refl _ _ | with_reducible exact Nat.le_refl _ | with_reducible assumption | with_reducible refine Go.below_growBy' ?_ ?_ _ | with_reducible refine Below.alloc ?_ ?_ _ | with_reducible refine Below.setCell ?_ ?_ _ | with_reducible refine Below.drew ?_ | with_reducible refine Go.le_alloc ?_ | with_reducible refine Go.le_growBy ?_ | with_reducible refine Go.le_setCell ?_ | with_reducible refine Go.le_drew ?_ | omega | (dsimp only; omega))) (hb.mono (by repeat' (first | with_reducible exact Below.refl _ _ | with_reducible exact Nat.le_refl _ | with_reducible assumption | with_reducible refine Go.below_growBy' ?_ ?_ _ | with_reducible refine Below.alloc ?_ ?_ _ | with_reducible refine Below.setCell ?_ ?_ _ | with_reducible refine Below.drew ?_ | with_reducible refine Go.le_alloc ?_ | with_reducible refine Go.le_growBy ?_ | with_reducible refine Go.le_setCell ?_ | with_reducible refine Go.le_drew ?_ | omega | (dsimp only; omega))))
  have hsW := hB1.size
  clear hb
  by_cases h0 : evs.length = 0
  · obtain rfl := List.eq_nil_of_length_eq_zero h0
    go_wp2_with fail
    go_ret
    exact ⟨rfl, (by repeat' (first | with_reducible exact Below.refl _ _ | with_reducible exact Nat.le_refl _ | with_reducible assumption | with_reducible refine Go.below_growBy' ?_ ?_ _ | with_reducible refine Below.alloc ?_ ?_ _ | with_reducible refine Below.setCell ?_ ?_ _ | with_reducible refine Below.drew ?_ | with_reducible refine Go.le_alloc ?_ | with_reducible refine Go.le_growBy ?_ | with_reducible refine Go.le_setCell ?_ | with_reducible refine Go.le_drew ?_ | omega | (dsimp only; omega)))⟩
  · have h0' : ¬ (evs.length : Int) = 0 := by omega
    have hl8' : (evs.length : Int) ≤ 8 := by omega
    by_cases ha : 0 ≤ at_ ∧ at_ ≤ 1024
    · obtain ⟨ha1, ha2⟩ := ha
      go_wp2_with fail
      go_ret
      exact ⟨rfl, (by repeat' (first | with_reducible exact Below.refl _ _ | with_reducible exact Nat.le_refl _ | with_reducible assumption | with_reducible refine Go.below_growBy' ?_ ?_ _ | with_reducible refine Below.alloc ?_ ?_ _ | with_reducible refine Below.setCell ?_ ?_ _ | with_reducible refine Below.drew ?_ | with_reducible refine Go.le_alloc ?_ | with_reducible refine Go.le_growBy ?_ | with_reducible refine Go.le_setCell ?_ | with_reducible refine Go.le_drew ?_ | omega | (dsimp only; omega)))⟩
    · have ht : at_ < 0 ∨ 1024 < at_ := by omega
      obtain ⟨kn, hkn, hk⟩ : ∃ kn : Nat, n.tmod evs.length = kn ∧ kn < evs.length := ⟨(n.tmod evs.length).toNat, by have := Int.tmod_nonneg (evs.length : Int) n0; omega, by have := Int.tmod_lt_of_pos n (b := (evs.length : Int)) (by omega); have := Int.tmod_nonneg (evs.length : Int) n0; omega⟩
      obtain ⟨bb, off, rfl, hbb, hnews⟩ := evs_news hE (by omega)
      have hnews2 : ∀ j u, (flat evs)[j]? = some u → ((W1.alloc (.cells #[.int .i64 d, .slice (some ⟨bb, off, none⟩) evs.length cap2] 32)).alloc (.cells #[] 35)).cell? ((⟨bb, off, none⟩ : Addr).add j) = some u := fun j u h => by
        have hc := hnews j u h
        rw [Go.WideShapes.add_plain] at hc ⊢
        rw [World.cell?_alloc_lt _ _ _ (by simp; omega), World.cell?_alloc_lt _ _ _ (by simpa using hbb)]
        exact hc
      have hown0 : ((W1.alloc (.cells #[.int .i64 d, .slice (some ⟨bb, off, none⟩) evs.length cap2] 32)).alloc (.cells #[] 35)).ownsRow (W1.heap.size + 1) 35 5 (.slice (some ⟨W1.heap.size + 1, 0, none⟩) 0 0) 0 [] := by
        have h := World.ownsRow_made (W1.alloc (.cells #[.int .i64 d, .slice (some ⟨bb, off, none⟩) evs.length cap2] 32)) (base := W1.heap.size + 1) (e := 35) (size := 5) #[] 0 (by simp) (by unfold maxLen; omega) rfl
        rw [World.size_alloc] at h
        exact h
      have hc8 : checkH (wrong evs kn at_) = 3 := wrong_check hR hl8 hk ht
      have hd8 : doneN 4611686018427387904 (wrong evs kn at_) = kn := wrong_done hR hk ht (by omega)
      have hg8 : doingF 1048576 (wrong evs kn at_) = { n := 0, up := 0, down := 0, ok := false } := wrong_doing hR hk ht (by omega)
      obtain ⟨hc8, hd8, hg8⟩ : Hid (checkH (wrong evs kn at_) = 3) ∧ Hid (doneN 4611686018427387904 (wrong evs kn at_) = kn) ∧ Hid (doingF 1048576 (wrong evs kn at_) = { n := 0, up := 0, down := 0, ok := false }) := ⟨hc8, hd8, hg8⟩
      have hk' : (kn : Int) < (evs.length : Int) := by omega
      have hne : evs ≠ [] := fun h => by rw [h] at h0; exact h0 rfl
      obtain ⟨he0⟩ : Nonempty (0 < evs.length) := ⟨by omega⟩
      have ht2 : at_ < 0 ∨ (0 ≤ at_ ∧ 1024 < at_) := by omega
      rcases ht2 with ha1 | ⟨ha0, ha1⟩ <;>
      · go_wp2_with (first | (at_builtin; refine wpList_append_lies _ (by rfl) _ _ _ (by rfl) (W1.heap.size + 1) 35 i0 _ 5 40 Try.underlying30 hi0 hz0 hz1 hz2 (by rfl) (by omega) (.slice (some ⟨W1.heap.size + 1, 0, none⟩) 0 0) 0 [] (by rfl) hown0 ⟨bb, off, none⟩ evs.length cap2 (flat evs) (by rfl) (flat_length evs) hnews2 (flat_one evs) he0 (by unfold maxLen; omega) (by omega) (by simp) _ rfl ?_; intro g cap3 w2 hown2 hgrow2 hat2 hlt2; obtain ⟨x0, cC, fC, hgg, hB2, hsW2, hE3⟩ := app_facts (at_ := at_) hB1 hk hl8 hown2 hgrow2; clear hown2 hat2 hgrow2) | (go_at_call 11; refine (doing_eq (fits_of (by decide) (by decide)) (hE3.up (by repeat' (first | with_reducible exact Below.refl _ _ | with_reducible exact Nat.le_refl _ | with_reducible assumption | with_reducible refine Go.below_growBy' ?_ ?_ _ | with_reducible refine Below.alloc ?_ ?_ _ | with_reducible refine Below.setCell ?_ ?_ _ | with_reducible refine Below.drew ?_ | with_reducible refine Go.le_alloc ?_ | with_reducible refine Go.le_growBy ?_ | with_reducible refine Go.le_setCell ?_ | with_reducible refine Go.le_drew ?_ | omega | (dsimp only; omega))) (by repeat' (first | with_reducible exact Below.refl _ _ | with_reducible exact Nat.le_refl _ | with_reducible assumption | with_reducible refine Go.below_growBy' ?_ ?_ _ | with_reducible refine Below.alloc ?_ ?_ _ | with_reducible refine Below.setCell ?_ ?_ _ | with_reducible refine Below.drew ?_ | with_reducible refine Go.le_alloc ?_ | with_reducible refine Go.le_growBy ?_ | with_reducible refine Go.le_setCell ?_ | with_reducible refine Go.le_drew ?_ | omega | (dsimp only; omega)))) hg8.out).mono ?_; rintro e w' ⟨rfl, hb_⟩; obtain ⟨p, rfl⟩ := grow_of_below hb_; clear hb_) | (go_at_call 12; refine (check_eq ⟨_, hE3.up (by repeat' (first | with_reducible exact Below.refl _ _ | with_reducible exact Nat.le_refl _ | with_reducible assumption | with_reducible refine Go.below_growBy' ?_ ?_ _ | with_reducible refine Below.alloc ?_ ?_ _ | with_reducible refine Below.setCell ?_ ?_ _ | with_reducible refine Below.drew ?_ | with_reducible refine Go.le_alloc ?_ | with_reducible refine Go.le_growBy ?_ | with_reducible refine Go.le_setCell ?_ | with_reducible refine Go.le_drew ?_ | omega | (dsimp only; omega))) (by repeat' (first | with_reducible exact Below.refl _ _ | with_reducible exact Nat.le_refl _ | with_reducible assumption | with_reducible refine Go.below_growBy' ?_ ?_ _ | with_reducible refine Below.alloc ?_ ?_ _ | with_reducible refine Below.setCell ?_ ?_ _ | with_reducible refine Below.drew ?_ | with_reducible refine Go.le_alloc ?_ | with_reducible refine Go.le_growBy ?_ | with_reducible refine Go.le_setCell ?_ | with_reducible refine Go.le_drew ?_ | omega | (dsimp only; omega))), hc8.out⟩).mono ?_; rintro e w' ⟨rfl, hb_⟩; obtain ⟨p, rfl⟩ := grow_of_below hb_; clear hb_) | (go_at_call 13; refine (done_eq (hE3.up (by repeat' (first | with_reducible exact Below.refl _ _ | with_reducible exact Nat.le_refl _ | with_reducible assumption | with_reducible refine Go.below_growBy' ?_ ?_ _ | with_reducible refine Below.alloc ?_ ?_ _ | with_reducible refine Below.setCell ?_ ?_ _ | with_reducible refine Below.drew ?_ | with_reducible refine Go.le_alloc ?_ | with_reducible refine Go.le_growBy ?_ | with_reducible refine Go.le_setCell ?_ | with_reducible refine Go.le_drew ?_ | omega | (dsimp only; omega))) (by repeat' (first | with_reducible exact Below.refl _ _ | with_reducible exact Nat.le_refl _ | with_reducible assumption | with_reducible refine Go.below_growBy' ?_ ?_ _ | with_reducible refine Below.alloc ?_ ?_ _ | with_reducible refine Below.setCell ?_ ?_ _ | with_reducible refine Below.drew ?_ | with_reducible refine Go.le_alloc ?_ | with_reducible refine Go.le_growBy ?_ | with_reducible refine Go.le_setCell ?_ | with_reducible refine Go.le_drew ?_ | omega | (dsimp only; omega)))) hd8.out).mono ?_; rintro e w' ⟨rfl, hb_⟩; obtain ⟨p, rfl⟩ := grow_of_below hb_; clear hb_))
        all_goals
          go_ret
          exact ⟨by first | rfl | (simp; done), (by repeat' (first | with_reducible exact Below.refl _ _ | with_reducible exact Nat.le_refl _ | with_reducible assumption | with_reducible refine Go.below_growBy' ?_ ?_ _ | with_reducible refine Below.alloc ?_ ?_ _ | with_reducible refine Below.setCell ?_ ?_ _ | with_reducible refine Below.drew ?_ | with_reducible refine Go.le_alloc ?_ | with_reducible refine Go.le_growBy ?_ | with_reducible refine Go.le_setCell ?_ | with_reducible refine Go.le_drew ?_ | omega | (dsimp only; omega)))⟩
end Go.Proofs.Ytfcmmclialeepaa
namespace Go.Proofs.Ytfcmmclialeepaa.spanStops
open Go.ChangeShapes Go.WideShapes Go.ChangeAt Go.RowKit
set_option linter.unusedVariables false

theorem own : ownKnob Try.prog.godebug = none := by kernel_rfl
theorem laidOut : laidOutB Try.prog = true := by kernel_rfl

theorem walk {H : Type} {enc : TypeId × Value → H} {ds : List (DataW H)} {before : List MemPlace} (W : World) (base : Nat) (args : Array Value) (hval : ∀ (j : Nat) t v, Try.f4.params[j]? = some t → args[j]? = some v → Value.okWide Try.prog W .any base t v) (hsz : args.toList.length = 3) (hwh : DataW.Whole enc Try.prog Try.f4.params.toList [] false W args.toList ds [] before) :
    Calls Try.prog 4 args W fun e W' => e = .returned (.bool true) ∧ Below W.heap.size W W' := by
  obtain ⟨v0, v1, v2, rfl⟩ : ∃ v0 v1 v2, args = #[v0, v1, v2] := by
    match args, hsz with
    | ⟨[v0, v1, v2]⟩, _ => exact ⟨v0, v1, v2, rfl⟩
  obtain ⟨n, rfl, hn⟩ := okWide_int_has Try.underlying5 (hval 1 5 v1 rfl rfl)
  obtain ⟨m, rfl, hm⟩ := okWide_int_has Try.underlying3 (hval 2 3 v2 rfl rfl)
  obtain ⟨p, q, hA, -⟩ := hwh
  obtain ⟨a, len, cap, rfl, hI⟩ := ints_arg (t := 29) Try.underlying29 Try.underlying3 (by kernel_rfl) (okWide_slice Try.underlying29 (hval 0 29 v0 rfl rfl)) (trodAll_head hA)
  obtain ⟨n0, n1⟩ := hn
  exact stops_law a len cap n m W hI n0 n1 hm

set_option maxRecDepth 100000 in
theorem lifted (os : Os) (started : os.Started) (H : Type) (enc : TypeId × Value → H) :
    ReturnsInHanded {} Try.checked os 4 .any (Rows.spanStopsSpec.pre6 enc Try.prog Try.f4 Rows.spanStopsRow.domain false) (Rows.spanStopsSpec.post enc Try.prog Try.f4 false true false false) := by
  refine returnsInHanded_of_change (C := Try.checked) own started (by kernel_rfl) Try.func4
    (ChangeSpec.witness6 (enc := enc) (C := Try.checked) false ⟨#[], #[.slice none 0 0, .int .u8 0, .int .i64 0], []⟩ 8 (by kernel_rfl) (by kernel_rfl) (by kernel_rfl) (by kernel_rfl)) ?_
  intro W base args ds gs before hval0 hW hcnd _
  exact law_calls 4 laidOut (by kernel_rfl) rfl rfl Try.underlying4 (fun ds h => match ds, h with | [_, _, _], _ => rfl) hW (fun hsz hwh => walk W base args hval0 hsz hwh)

theorem over : Rows.spanStopsRow.holds Try.pinned (OpenSpec.ofChange Rows.spanStopsSpec) :=
  OpenClaim.holds_of_wide 4 Try.f4 rfl rfl rfl rfl rfl rfl rfl ⟨rfl, rfl, rfl, rfl, rfl⟩ rfl rfl rfl rfl rfl (by kernel_rfl) Try.func4 (by kernel_rfl)
    (of_decide_eq_true (by kernel_rfl)) (by unfold Func.isWrapper; first | (rw [if_pos (by decide +kernel)]; kernel_rfl) | (rw [if_neg (by decide +kernel)]; exact ⟨rfl, rfl⟩))
    (fun os started H enc _ => lifted os started H enc)

theorem proved : Rows.SpanStopsSaid := over
#print axioms proved
end Go.Proofs.Ytfcmmclialeepaa.spanStops
