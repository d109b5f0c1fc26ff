/-
  Chapter 29: append of a list of dots onto a slice that has nothing and no room.
-/
import Derived.Test.YtjfdbigkbgolmaaDoorT4
import Derived.Deep.AppendSrc
import Derived.Deep.AppendLies
namespace Go.Proofs.YtjfdbigkbgolmaaDoor
set_option linter.unusedVariables false
set_option linter.unusedSimpArgs false
open Go.RowKit Go.Shelf Go.Deep

theorem flatD_length (l : List Dt) : (l.flatMap encD).length = l.length * 4 := by
  induction l with
  | nil => rfl
  | cons e l ih => simp at ih ⊢; omega
theorem flatD_one (l : List Dt) : ∀ u ∈ l.flatMap encD, u.oneCell' = true := by
  intro u hu
  obtain ⟨e, he, h⟩ := List.mem_flatMap.1 hu
  simp at h
  rcases h with rfl | rfl | rfl | rfl <;> rfl
theorem Dts.news {n₀ : Nat} {W : World} {sv : Value} {l : List Dt} (h : Dts n₀ W sv l) (hne : l ≠ []) : ∃ b off cap, sv = .slice (some ⟨b, off, none⟩) l.length cap ∧ b < n₀ ∧ ∀ j u, (l.flatMap encD)[j]? = some u → W.cell? ((⟨b, off, none⟩ : Addr).add j) = some u := by
  rcases h with ⟨-, rfl⟩ | ⟨b, off, cap, rfl, hb, hl, -, hc⟩
  · exact absurd rfl hne
  · refine ⟨b, off, cap, rfl, hb, fun j u hj => ?_⟩
    rw [Go.WideShapes.add_plain]
    obtain ⟨hlt, -⟩ := List.getElem?_eq_some_iff.1 hj
    rw [flatD_length] at hlt
    obtain ⟨q, r, hr, rfl⟩ : ∃ q r, r < 4 ∧ j = q * 4 + r := ⟨j / 4, j % 4, Nat.mod_lt _ (by decide), by omega⟩
    obtain ⟨f0, f1, f2, f3⟩ := flat4 l q (by omega)
    obtain ⟨c0, c1, c2, c3⟩ := hc q (by omega)
    match r, hr, hj with
    | 0, _, hj => exact c0.trans (f0.symm.trans hj)
    | 1, _, hj => exact c1.trans (f1.symm.trans hj)
    | 2, _, hj => exact c2.trans (f2.symm.trans hj)
    | 3, _, hj => exact c3.trans (f3.symm.trans hj)

theorem append_fresh (W : World) (base Z : Nat) (xv : Value) (l : List Dt) (ty : TypeId) (hZ : W.ownsRow base 45 4 (.slice (some ⟨Z, 0, none⟩) 0 0) 0 []) (hx : Dts W.heap.size W xv l) (hl : l.length ≤ 1000000) (hb : base ≤ W.heap.size) :
    ∃ v' W', (Builtin.append_ #[38, 38] ty #[.slice (some ⟨Z, 0, none⟩) 0 0, xv]).run Tryd.prog W = .ok v' W' ∧ W'.ownsRow base 45 4 v' l.length (l.flatMap encD) ∧ Below W.heap.size W W' := by
  obtain ⟨i0, hi0, hz0, hz1, hz2⟩ := info_parts dotInfo
  by_cases hne : l = []
  · subst hne
    have hs : Src Tryd.prog i0.size 38 xv 0 [] W := by
      rcases hx with ⟨rfl, -⟩ | ⟨b, off, cap, rfl, -⟩
      · exact Src.ofNil W Tryd.underlying38 0
      · exact Src.ofSlice W Tryd.underlying38 _ 0 cap [] (by simp) (by simp) (by simp)
    have hr := run_append_room_src (P := Tryd.prog) W 38 38 ty 45 i0 Tryd.underlying38 hi0 Z 0 0 0 xv 0 [] hs (by omega) (by simp) (by simp)
    exact ⟨_, W, hr, hZ, Below.refl _ _⟩
  · obtain ⟨b, off, cap, rfl, hbn, hnews⟩ := hx.news hne
    have hpos : 0 < l.length := List.length_pos_iff.2 hne
    obtain ⟨v', W', hr, hown, -, -, -⟩ := run_append_own_at (P := Tryd.prog) W base 38 ty 45 i0 _ 4 32 Tryd.underlying38 hi0 hz0 hz1 hz2 rfl (by omega) _ 0 [] hZ ⟨b, off, none⟩ l.length cap (l.flatMap encD) (flatD_length l) hnews (flatD_one l) (by unfold maxLen; omega) (by omega) hb
    have hs : Src Tryd.prog i0.size 38 (.slice (some ⟨b, off, none⟩) l.length cap) l.length (l.flatMap encD) W := Src.ofSlice W Tryd.underlying38 _ _ cap _ (by rw [hz1]; exact flatD_length l) hnews (flatD_one l)
    have hold : (Builtin.firstCells i0.size 0 (.slice (some ⟨Z, 0, none⟩) 0 0)).run Tryd.prog W.drew = .ok (([] : List Value).toArray) W.drew := run_firstCells_some W.drew i0.size 0 ⟨Z, 0, none⟩ 0 0 [] (by simp) (by simp)
    have hcap : Builtin.nextslicecap (0 + l.length) 0 * i0.bytes ≤ 281474976710656 := growslice_fits (by omega) (by rw [hz2]; omega)
    have hr2 := run_append_grow_src (P := Tryd.prog) W 38 38 ty 45 i0 _ Tryd.underlying38 hi0 hz0 (some ⟨Z, 0, none⟩) 0 0 [] hold _ l.length _ hs (by omega) (by omega) hcap
    rw [hr2] at hr
    injection hr with h1 h2
    subst h1 h2
    refine ⟨_, _, hr2, ?_, (Below.refl _ W).drew.alloc (Nat.le_refl _) _⟩
    simpa using hown

/-- at a step of a region that draws -/
theorem step_append_fresh {ops : Array Oper} {o : Oper} {a : Act} {w : World} {K : Act → World → Prop} {Q : Exit → Act → World → Prop} {E : Prop} (hgd : o.guard = none) (s x : Operand)
    (ho : o.op = .call { callee := .builtin .append, args := #[s, x], argTypes := #[38, 38] })
    (base Z : Nat) (hs : a.eval s = .slice (some ⟨Z, 0, none⟩) 0 0) (hZ : w.ownsRow base 45 4 (.slice (some ⟨Z, 0, none⟩) 0 0) 0 []) (xv : Value) (l : List Dt) (hxv : a.eval x = xv) (hx : Dts w.heap.size w xv l) (hl : l.length ≤ 1000000) (hb : base ≤ w.heap.size)
    (h : ∀ v' w', w'.ownsRow base 45 4 v' l.length (l.flatMap encD) → Below w.heap.size w w' → K (a.put o.dst v') w') :
    if Region.wanted o (yielded ops a.tmps) = true then Oper.wp Tryd.prog o a w K Q else E := by
  have hw : Region.wanted o (yielded ops a.tmps) = true := by simp [Region.wanted, hgd]
  rw [if_pos hw]
  obtain ⟨v', w', hr, h2, h3⟩ := append_fresh w base Z xv l o.type hZ hx hl hb
  unfold Oper.wp execOp
  simp only [ho, resolve, invoke, builtin, Sem.run_bind, Sem.run_pure, Result.andThen_ok, List.map_toArray, List.map_cons, List.map_nil, hs, hxv, hr]
  exact h v' w' h2 h3
end Go.Proofs.YtjfdbigkbgolmaaDoor
