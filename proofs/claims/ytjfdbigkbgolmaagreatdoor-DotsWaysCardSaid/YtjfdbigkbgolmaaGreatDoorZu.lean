/-
  hachureref08.Check: it returns.
  hachureref08.Fine: some of the ways that Made makes.
-/
import Derived.Test.YtjfdbigkbgolmaaGreatDoorZt
import Derived.Test.YtjfdbigkbgolmaaGreatDoorZC
import Derived.Deep.AppendSrc
import Derived.Deep.Onto
namespace Go.Proofs.YtjfdbigkbgolmaaGreatDoor
set_option linter.unusedVariables false
set_option linter.unusedSimpArgs false
open Go.RowKit Go.Shelf Go.Maps
attribute [local go_sem] Oper.semAt_some
attribute [local go_sem ↓] Go.wp_at_zero Go.wp_at_succ

theorem Wys.at_ {n₀ : Nat} {w : World} {a : Option Addr} {ws : List Wy} {cap : Nat} (h : Wys n₀ w (.slice a ws.length cap) ws) (h0 : 0 < ws.length) : ∃ b off, a = some ⟨b, off, none⟩ ∧ ∀ X, Below n₀ w X → ∀ j, (h : j < ws.length) → WyAt n₀ X b (off + j * 8) ws[j] := by
  obtain ⟨a', cap', e, hp⟩ := h
  simp only [Value.slice.injEq, true_and] at e
  obtain ⟨rfl, rfl⟩ := e
  obtain ⟨b, off, rfl, hb, -⟩ := hp 0 h0
  refine ⟨b, off, rfl, fun X hX j hj => ?_⟩
  obtain ⟨b', off', e, hb', y0⟩ := hp j hj
  simp only [Option.some.injEq, Addr.mk.injEq, and_true] at e
  obtain ⟨rfl, rfl⟩ := e
  exact y0.below hX hb
set_option maxRecDepth 100000 in
set_option maxHeartbeats 8000000 in
theorem rcheck8_any (sv : Value) (ws : List Wy) (n₀ : Nat) (w : World) (hn : n₀ ≤ w.heap.size) (h : Wys n₀ w sv ws) (hl : ws.length ≤ 8) (hpl : ∀ y ∈ ws, y.line.length ≤ 8) :
    Calls Tryz.prog 43 #[sv] w fun e w' => (∃ r : Int, e = .returned (.int .i64 r)) ∧ Below w.heap.size w w' := by
  have hlI : (ws.length : Int) ≤ 8 := by omega
  have hsv : ∃ a cap, sv = .slice a ws.length cap := by obtain ⟨a, cap, e, -⟩ := h; exact ⟨a, cap, e⟩
  obtain ⟨a, cap, rfl⟩ := hsv
  go_enter Tryz.func43, Tryz.ntmps43
  go_wp2_with fail
  go_loopw [3] (fun t wr => ∃ i : Nat, i ≤ ws.length ∧ t = .int .i64 (i : Nat) ∧ Below w.heap.size w wr) (fun t _ => ws.length - (intOf t).toNat)
  case atStart => exact ⟨0, Nat.zero_le _, rfl, Below.refl _ _⟩
  case round =>
    obtain ⟨i, hi, rfl, hB⟩ := hrel
    by_cases hlt : i < ws.length
    · have hltI : (i : Int) < (ws.length : Int) := by omega
      obtain ⟨b, off, rfl, hws⟩ := h.at_ (by omega)
      have hsz := hB.size
      have hy := hws _ (hB.mono hn) i hlt
      have hli := hpl _ (List.getElem_mem hlt)
      obtain ⟨y, hye⟩ : ∃ y, ws[i] = y := ⟨_, rfl⟩
      rw [hye] at hy hli
      obtain ⟨id, line, lv, lvl, cls, nm, stb, wt, di⟩ := y
      obtain ⟨c0, c1, c2, c3, c4, c5, c6, c7, hpt⟩ := hy
      simp only at c0 c1 c2 c3 c4 c5 c6 c7 hpt hli
      obtain ⟨la, lcap, rfl⟩ : ∃ a cap, lv = .slice a line.length cap := by obtain ⟨a, cap, e, -⟩ := hpt; exact ⟨a, cap, e⟩
      go_upto_region 7 with fail
      have hB1 : Below w.heap.size w (wr.alloc (.cells #[.int .i64 id, .slice la line.length lcap, .int .i64 lvl, .string cls, .string nm, .bool stb, .int .i64 wt, .int .i64 di] 62)) := hB.alloc hsz _
      have hpt0 : Pts n₀ (wr.alloc (.cells #[.int .i64 id, .slice la line.length lcap, .int .i64 lvl, .string cls, .string nm, .bool stb, .int .i64 wt, .int .i64 di] 62)) (.slice la line.length lcap) line := hpt.below ((Below.refl _ _).alloc (by omega) _)
      have kW := Blk.new wr #[.int .i64 id, .slice la line.length lcap, .int .i64 lvl, .string cls, .string nm, .bool stb, .int .i64 wt, .int .i64 di] 62
      obtain ⟨W1, hW1⟩ : ∃ W, (wr.alloc (.cells #[.int .i64 id, .slice la line.length lcap, .int .i64 lvl, .string cls, .string nm, .bool stb, .int .i64 wt, .int .i64 di] 62)) = W := ⟨_, rfl⟩
      rw [hW1] at kW hB1 hpt0 ⊢
      clear hW1 c0 c1 c2 c3 c4 c5 c6 c7 hye hpt
      obtain ⟨Bw, hBw⟩ : ∃ b, wr.heap.size = b := ⟨_, rfl⟩
      rw [hBw] at kW hsz ⊢
      clear hBw
      have c0 : W1.cell? ⟨Bw, 0, none⟩ = some (.int .i64 id) := kW.cell 0
      by_cases hid : id < 1
      · go_wp2_with fail
        go_ret
        exact ⟨⟨_, rfl⟩, hB1⟩
      · go_wp2_with fail
        go_loopw [5] (fun t wx => ∃ k : Nat, k ≤ i ∧ t = .int .i64 (k : Nat) ∧ Below w.heap.size w wx ∧ Below W1.heap.size W1 wx) (fun t _ => i - (intOf t).toNat)
        case atStart => exact ⟨0, Nat.zero_le _, rfl, hB1, Below.refl _ _⟩
        case round =>
          obtain ⟨k, hk, rfl, hB2, hB12⟩ := hrel
          have kW2 := kW.below hB12 kW.lt
          have hs2 := hB2.size
          have hs12 := hB12.size
          by_cases hki : k < i
          · have hkiI : (k : Int) < (i : Int) := by omega
            have hkl : k < ws.length := by omega
            have hkI : (k : Int) < (ws.length : Int) := by omega
            have hyk := (hws _ (hB2.mono hn) k hkl).c0
            generalize ws[k].id = idk at *
            have c0 : wr.cell? ⟨Bw, 0, none⟩ = some (.int .i64 id) := kW2.cell 0
            go_upto_region 12 with fail
            by_cases he : idk = id
            · subst he
              first | with_reducible refine wp_region_grow2 (by kernel_rfl) (by kernel_rfl) ?_ | with_reducible refine wp_region_grow (by kernel_rfl) (by kernel_rfl) ?_
              repeat (first | go_big_quiet_step (fail) | quiet_step (fail))
              refine wpQuiet_nil ?_
              intro _ hw_
              obtain ⟨p, hw_⟩ := hw_
              subst hw_
              go_wp2_with fail
              go_ret
              exact ⟨⟨_, rfl⟩, below_growBy' hB2 hs2 _⟩
            · have heb : (idk == id) = false := by simpa using he
              first | with_reducible refine wp_region_grow2 (by kernel_rfl) (by kernel_rfl) ?_ | with_reducible refine wp_region_grow (by kernel_rfl) (by kernel_rfl) ?_
              repeat (first | go_big_quiet_step (fail) | quiet_step (fail))
              refine wpQuiet_nil ?_
              intro _ hw_
              obtain ⟨p, hw_⟩ := hw_
              subst hw_
              go_wp2_with fail
              go_roundw
              case rel => exact ⟨k + 1, by omega, by go_num, below_growBy' hB2 hs2 _, below_growBy' hB12 hs12 _⟩
              case measure => simp [intOf]; try omega
          · have hkiI : ¬ (k : Int) < (i : Int) := by omega
            have c1 : wr.cell? ⟨Bw, 1, none⟩ = some (.slice la line.length lcap) := kW2.cell 1
            have hpt2 : Pts n₀ wr (.slice la line.length lcap) line := hpt0.below (hB12.mono (by have := hB1.size; omega))
            go_upto_region 15 with (first | (go_at_call 87; refine (rcheck5_any _ line n₀ _ (by omega) hpt2 (by omega)).mono ?_; rintro e w3 ⟨⟨r, rfl⟩, hb3⟩) | fail)
            have hB3 : Below w.heap.size w w3 := hB2.trans (hb3.mono (by omega))
            have hB13 : Below W1.heap.size W1 w3 := hB12.trans (hb3.mono (by omega))
            clear hb3 hpt2 c1 kW2 hB2 hB12
            have kW3 := kW.below hB13 kW.lt
            have c2 : w3.cell? ⟨Bw, 2, none⟩ = some (.int .i64 lvl) := kW3.cell 2
            have c6 : w3.cell? ⟨Bw, 6, none⟩ = some (.int .i64 wt) := kW3.cell 6
            by_cases hr : r = 0
            · subst hr
              by_cases v1 : lvl < -2
              · go_wp2_with fail
                go_ret
                exact ⟨⟨_, rfl⟩, hB3⟩
              · by_cases v2 : 2 < lvl
                · go_wp2_with fail
                  go_ret
                  exact ⟨⟨_, rfl⟩, hB3⟩
                · by_cases v3 : wt < 1
                  · go_wp2_with fail
                    go_ret
                    exact ⟨⟨_, rfl⟩, hB3⟩
                  · by_cases v4 : 255 < wt
                    · go_wp2_with fail
                      go_ret
                      exact ⟨⟨_, rfl⟩, hB3⟩
                    · go_upto_region 19 with fail
                      clear c2 c6
                      go_wp2_with fail
                      go_loopw [7] (fun t wx => ∃ k : Nat, k ≤ i ∧ t = .int .i64 (k : Nat) ∧ Below w.heap.size w wx ∧ Below W1.heap.size W1 wx) (fun t _ => i - (intOf t).toNat)
                      case atStart => exact ⟨0, Nat.zero_le _, rfl, hB3, hB13⟩
                      case round =>
                        clear hB3 hB13 kW3
                        obtain ⟨q, hq, rfl, hB4, hB14⟩ := hrel
                        have kW4 := kW.below hB14 kW.lt
                        have hs4 := hB4.size
                        have hs14 := hB14.size
                        by_cases hqi : q < i
                        · have hqiI : (q : Int) < (i : Int) := by omega
                          have hql : q < ws.length := by omega
                          have hqI : (q : Int) < (ws.length : Int) := by omega
                          have hlq := hpl _ (List.getElem_mem hql)
                          have hyq := hws _ (hB4.mono hn) q hql
                          obtain ⟨y, hye⟩ : ∃ y, ws[q] = y := ⟨_, rfl⟩
                          rw [hye] at hyq hlq
                          obtain ⟨id2, line2, lv2, lvl2, cls2, nm2, stb2, wt2, di2⟩ := y
                          obtain ⟨-, e1, e2, -, -, -, -, -, hpt4⟩ := hyq
                          simp only at e1 e2 hpt4 hlq
                          obtain ⟨la2, lcap2, rfl⟩ : ∃ a cap, lv2 = .slice a line2.length cap := by obtain ⟨a, cap, e, -⟩ := hpt4; exact ⟨a, cap, e⟩
                          clear hye
                          have c1 : wr.cell? ⟨Bw, 1, none⟩ = some (.slice la line.length lcap) := kW4.cell 1
                          have c2 : wr.cell? ⟨Bw, 2, none⟩ = some (.int .i64 lvl) := kW4.cell 2
                          have hptW : Pts n₀ wr (.slice la line.length lcap) line := hpt0.below (hB14.mono (by have := hB1.size; omega))
                          go_upto_region 22 with fail
                          by_cases hv : lvl2 = lvl
                          · subst hv
                            first | with_reducible refine wp_region_grow_tail2 16 (by kernel_rfl) (by kernel_rfl) ?_ | with_reducible refine wp_region_grow_tail 16 (by kernel_rfl) (by kernel_rfl) ?_
                            simp only [List.take_succ_cons, List.take_zero, List.drop_succ_cons, List.drop_zero]
                            repeat (first | go_big_quiet_step (fail) | quiet_step (fail))
                            refine wpQuiet_nil ?_
                            intro _ hw_
                            obtain ⟨p, hw_⟩ := hw_
                            subst hw_
                            have hBp : Below wr.heap.size wr (wr.growBy p) := (by repeat' (first | with_reducible exact Below.refl _ _ | with_reducible exact Nat.le_refl _ | with_reducible assumption | with_reducible refine Go.below_growBy' ?_ ?_ _ | with_reducible refine Below.alloc ?_ ?_ _ | with_reducible refine Below.setCell ?_ ?_ _ | with_reducible refine Below.drew ?_ | with_reducible refine Go.le_alloc ?_ | with_reducible refine Go.le_growBy ?_ | with_reducible refine Go.le_setCell ?_ | with_reducible refine Go.le_drew ?_ | omega | (dsimp only; omega)))
                            go_wp2_with (first | (go_at_call 88; refine (rcross_any _ _ line2 line n₀ _ (by simp; omega) (hpt4.below (hBp.mono (by omega))) (hptW.below (hBp.mono (by omega))) (by omega) (by omega)).mono ?_; rintro e w5 ⟨⟨b5, rfl⟩, hb5⟩) | fail)
                            · go_ret
                              exact ⟨⟨_, rfl⟩, (below_growBy' hB4 hs4 p).trans (hb5.mono (by simp; omega))⟩
                            · go_roundw
                              case rel => exact ⟨q + 1, by omega, by go_num, (below_growBy' hB4 hs4 p).trans (hb5.mono (by simp; omega)), (below_growBy' hB14 hs14 p).trans (hb5.mono (by simp; omega))⟩
                              case measure => simp [intOf]; try omega
                          · have hvb : (lvl2 == lvl) = false := by simpa using hv
                            first | with_reducible refine wp_region_grow_tail2 16 (by kernel_rfl) (by kernel_rfl) ?_ | with_reducible refine wp_region_grow_tail 16 (by kernel_rfl) (by kernel_rfl) ?_
                            simp only [List.take_succ_cons, List.take_zero, List.drop_succ_cons, List.drop_zero]
                            repeat (first | go_big_quiet_step (fail) | quiet_step (fail))
                            refine wpQuiet_nil ?_
                            intro _ hw_
                            obtain ⟨p, hw_⟩ := hw_
                            subst hw_
                            go_wp2_with fail
                            go_roundw
                            case rel => exact ⟨q + 1, by omega, by go_num, below_growBy' hB4 hs4 _, below_growBy' hB14 hs14 _⟩
                            case measure => simp [intOf]; try omega
                        · have hqiI : ¬ (q : Int) < (i : Int) := by omega
                          go_wp2_with fail
                          go_roundw
                          case rel => exact ⟨i + 1, by omega, by go_num, hB4⟩
                          case measure => simp [intOf]; try omega
            · have hrb : (r != 0) = true := by simpa using hr
              go_wp2_with fail
              go_ret
              exact ⟨⟨_, rfl⟩, hB3⟩
    · obtain rfl : i = ws.length := by omega
      go_wp2_with fail
      go_ret
      exact ⟨⟨_, rfl⟩, hB⟩
end Go.Proofs.YtjfdbigkbgolmaaGreatDoor
namespace Go.Proofs.YtjfdbigkbgolmaaGreatDoor
set_option linter.unusedVariables false
set_option linter.unusedSimpArgs false
open Go.RowKit Go.Shelf Go.Maps Go.Deep
attribute [local go_sem] Oper.semAt_some
attribute [local go_sem ↓] Go.wp_at_zero Go.wp_at_succ

theorem flatW_length (l : List Wy) : (l.flatMap Wy.cellL).length = l.length * 8 := by
  induction l with
  | nil => rfl
  | cons e l ih => simp [Wy.cellL] at ih ⊢; omega
theorem Wys.news {n₀ : Nat} {W : World} {sv : Value} {l : List Wy} (h : Wys n₀ W sv l) (hne : l ≠ []) : ∃ b off cap, sv = .slice (some ⟨b, off, none⟩) l.length cap ∧ (∀ u ∈ l.flatMap Wy.cellL, u.oneCell' = true) ∧ ∀ j u, (l.flatMap Wy.cellL)[j]? = some u → W.cell? ((⟨b, off, none⟩ : Addr).add j) = some u := by
  have h0 := List.length_pos_iff.2 hne
  have h' := h
  obtain ⟨a, cap, rfl, -⟩ := h'
  obtain ⟨b, off, rfl, hp⟩ := h.at_ h0
  have hp := hp W (Below.refl _ _)
  refine ⟨b, off, cap, rfl, ?_, fun j u hj => ?_⟩
  · intro u hu
    obtain ⟨y, hy, hu⟩ := List.mem_flatMap.1 hu
    obtain ⟨k, hk, rfl⟩ := List.getElem_of_mem hy
    obtain ⟨a2, c2, e2, -⟩ := (hp k hk).pts
    unfold Wy.cellL at hu
    rw [e2] at hu
    simp at hu
    rcases hu with rfl | rfl | rfl | rfl | rfl | rfl | rfl | rfl <;> rfl
  · rw [Go.WideShapes.add_plain]
    obtain ⟨hlt, -⟩ := List.getElem?_eq_some_iff.1 hj
    rw [flatW_length] at hlt
    obtain ⟨q, r, hr, rfl⟩ : ∃ q r, r < 8 ∧ j = q * 8 + r := ⟨j / 8, j % 8, Nat.mod_lt _ (by decide), by omega⟩
    have hq : q < l.length := by omega
    rw [flat_at Wy.cellL 8 (fun _ => rfl) l q r hq hr] at hj
    obtain ⟨c0, c1, c2, c3, c4, c5, c6, c7, -⟩ := hp q hq
    match r, hr, hj with
    | 0, _, hj => exact c0.trans hj
    | 1, _, hj => exact c1.trans hj
    | 2, _, hj => exact c2.trans hj
    | 3, _, hj => exact c3.trans hj
    | 4, _, hj => exact c4.trans hj
    | 5, _, hj => exact c5.trans hj
    | 6, _, hj => exact c6.trans hj
    | 7, _, hj => exact c7.trans hj
/-- ways, or none and no slice -/
def WysN (W : World) (xv : Value) (l : List Wy) : Prop := (xv = .slice none 0 0 ∧ l = []) ∨ (l ≠ [] ∧ Wys W.heap.size W xv l)
theorem WysN.wys {W : World} {xv : Value} {l : List Wy} (h : WysN W xv l) : Wys W.heap.size W xv l := by
  rcases h with ⟨rfl, rfl⟩ | ⟨-, h⟩
  · exact ⟨none, 0, rfl, fun j hj => by simp at hj⟩
  · exact h
theorem WysN.below {W W' : World} {xv : Value} {l : List Wy} (h : WysN W xv l) (hb : Below W.heap.size W W') : WysN W' xv l := by
  rcases h with ⟨rfl, rfl⟩ | ⟨h1, h⟩
  · exact .inl ⟨rfl, rfl⟩
  · exact .inr ⟨h1, h.up hb hb.size⟩

theorem append_freshW (W : World) (base Z : Nat) (xv : Value) (l : List Wy) (ty : TypeId) (hZ : W.ownsRow base 62 8 (.slice (some ⟨Z, 0, none⟩) 0 0) 0 []) (hx : WysN W xv l) (hl : l.length ≤ 1000) (hb : base ≤ W.heap.size) :
    ∃ v' W', (Builtin.append_ #[36, 36] ty #[.slice (some ⟨Z, 0, none⟩) 0 0, xv]).run Tryz.prog W = .ok v' W' ∧ W'.ownsRow base 62 8 v' l.length (l.flatMap Wy.cellL) ∧ Below W.heap.size W W' := by
  obtain ⟨i0, hi0, hz0, hz1, hz2⟩ := info_parts wayInfo
  rcases hx with ⟨rfl, rfl⟩ | ⟨hne, hx⟩
  · have hr := run_append_room_src (P := Tryz.prog) W 36 36 ty 62 i0 Tryz.underlying36 hi0 Z 0 0 0 (.slice none 0 0) 0 [] (Src.ofNil W Tryz.underlying36 0) (by omega) (by simp) (by simp)
    exact ⟨_, W, hr, hZ, Below.refl _ _⟩
  · obtain ⟨b, off, cap, rfl, hone, hnews⟩ := hx.news hne
    have hpos : 0 < l.length := List.length_pos_iff.2 hne
    obtain ⟨v', W', hr, hown, -, -, -⟩ := run_append_own_at (P := Tryz.prog) W base 36 ty 62 i0 _ 8 96 Tryz.underlying36 hi0 hz0 hz1 hz2 rfl (by omega) _ 0 [] hZ ⟨b, off, none⟩ l.length cap (l.flatMap Wy.cellL) (flatW_length l) hnews hone (by unfold maxLen; omega) (by omega) hb
    have hs : Src Tryz.prog i0.size 36 (.slice (some ⟨b, off, none⟩) l.length cap) l.length (l.flatMap Wy.cellL) W := Src.ofSlice W Tryz.underlying36 _ _ cap _ (by rw [hz1]; exact flatW_length l) hnews hone
    have hold : (Builtin.firstCells i0.size 0 (.slice (some ⟨Z, 0, none⟩) 0 0)).run Tryz.prog W.drew = .ok (([] : List Value).toArray) W.drew := run_firstCells_some W.drew i0.size 0 ⟨Z, 0, none⟩ 0 0 [] (by simp) (by simp)
    have hcap : Builtin.nextslicecap (0 + l.length) 0 * i0.bytes ≤ 281474976710656 := growslice_fits (by omega) (by rw [hz2]; omega)
    have hr2 := run_append_grow_src (P := Tryz.prog) W 36 36 ty 62 i0 _ Tryz.underlying36 hi0 hz0 (some ⟨Z, 0, none⟩) 0 0 [] hold _ l.length _ hs (by omega) (by omega) hcap
    rw [hr2] at hr
    injection hr with h1 h2
    subst h1 h2
    refine ⟨_, _, hr2, ?_, (Below.refl _ W).drew.alloc (Nat.le_refl _) _⟩
    simpa using hown
theorem step_append_freshW {ops : Array Oper} {o : Oper} {a : Act} {w : World} {K : Act → World → Prop} {Q : Exit → Act → World → Prop} {E : Prop} (hgd : o.guard = none) (s x : Operand)
    (ho : o.op = .call { callee := .builtin .append, args := #[s, x], argTypes := #[36, 36] })
    (base Z : Nat) (hs : a.eval s = .slice (some ⟨Z, 0, none⟩) 0 0) (hZ : w.ownsRow base 62 8 (.slice (some ⟨Z, 0, none⟩) 0 0) 0 []) (xv : Value) (l : List Wy) (hxv : a.eval x = xv) (hx : WysN w xv l) (hl : l.length ≤ 1000) (hb : base ≤ w.heap.size)
    (h : ∀ v' w', w'.ownsRow base 62 8 v' l.length (l.flatMap Wy.cellL) → Below w.heap.size w w' → K (a.put o.dst v') w') :
    if Region.wanted o (yielded ops a.tmps) = true then Oper.wp Tryz.prog o a w K Q else E := by
  have hw : Region.wanted o (yielded ops a.tmps) = true := by simp [Region.wanted, hgd]
  rw [if_pos hw]
  obtain ⟨v', w', hr, h2, h3⟩ := append_freshW w base Z xv l o.type hZ hx hl hb
  unfold Oper.wp execOp
  simp only [ho, resolve, invoke, builtin, Sem.run_bind, Sem.run_pure, Result.andThen_ok, List.map_toArray, List.map_cons, List.map_nil, hs, hxv, hr]
  exact h v' w' h2 h3
theorem ownsRow_emptyW {X : World} {Z base : Nat} (h : Blk X Z #[] 62) (hb : base ≤ Z) : X.ownsRow base 62 8 (.slice (some ⟨Z, 0, none⟩) 0 0) 0 [] :=
  ⟨rfl, .inr ⟨Z, 0, #[], rfl, hb, h, Nat.le_refl _, Nat.zero_le _, rfl, rfl⟩⟩
theorem wys_of_pts {base : Nat} {W : World} {v : Value} {ys : List Wy} (h : W.ownsRow base 62 8 v ys.length (ys.flatMap Wy.cellL)) (hl : ∀ y ∈ ys, Pts W.heap.size W y.lv y.line) : Wys W.heap.size W v ys := by
  rcases h.2 with ⟨rfl, h0⟩ | ⟨g, cap, cur, rfl, hbase, hgb, _⟩
  · rw [List.eq_nil_of_length_eq_zero h0]
    exact ⟨none, 0, rfl, fun j hj => by simp at hj⟩
  · refine ⟨_, cap, rfl, fun j hj => ⟨g, 0, rfl, (Array.getElem?_eq_some_iff.1 hgb).1, ?_⟩⟩
    have hc : ∀ i, i < 8 → W.cell? ⟨g, j * 8 + i, none⟩ = ys[j].cellL[i]? := fun i hi => (h.cellAt (j * 8 + i) (by omega)).trans (flat_at Wy.cellL 8 (fun _ => rfl) ys j i hj hi)
    rw [Nat.zero_add]
    exact ⟨hc 0 (by omega), hc 1 (by omega), hc 2 (by omega), hc 3 (by omega), hc 4 (by omega), hc 5 (by omega), hc 6 (by omega), hc 7 (by omega), hl _ (List.getElem_mem hj)⟩
theorem Wys.pts {n₀ : Nat} {W : World} {sv : Value} {l : List Wy} (h : Wys n₀ W sv l) : ∀ y ∈ l, Pts n₀ W y.lv y.line := fun y hy => by
  obtain ⟨k, hk, rfl⟩ := List.getElem_of_mem hy
  have h' := h
  obtain ⟨a, cap, rfl, -⟩ := h'
  obtain ⟨b, off, rfl, hp⟩ := h.at_ (by omega)
  exact (hp W (Below.refl _ _) k hk).pts

theorem newsW {X : World} {P : Nat} {y : Wy} (h : Blk X P y.cells 62) : ∀ j u, y.cellL[j]? = some u → X.cell? ((⟨P, 0, none⟩ : Addr).add j) = some u := fun j u hj => by
  rw [Go.WideShapes.add_plain, Nat.zero_add]
  refine (h.cell j).trans ?_
  rw [← hj]
  show y.cells[j]? = _
  simp [Wy.cells, Wy.cellL]
set_option maxRecDepth 100000 in
set_option maxHeartbeats 8000000 in
theorem fine_any (sv : Value) (xs : List Int) (w : World) (hI : Ints w.heap.size w sv xs) :
    Calls Tryz.prog 12 #[sv] w fun e w' => ∃ v ys, e = .returned v ∧ Wys w'.heap.size w' v ys ∧ ys.length ≤ 6 ∧ (∀ y ∈ ys, GoodW y) ∧ Below w.heap.size w w' := by
  obtain ⟨i1, hi1, hy0, hy1, hy2⟩ := info_parts wayInfo
  go_enter Tryz.func12, Tryz.ntmps12
  go_upto_region 2 with (first | (go_at_call 11; refine (made8_any sv xs _ hI).mono ?_; rintro e w1 ⟨av, all, rfl, hW, h6, hgood, hB0⟩) | fail)
  have hsv : ∃ a cap, av = .slice a all.length cap := by obtain ⟨a, cap, e, -⟩ := hW; exact ⟨a, cap, e⟩
  obtain ⟨a, cap, rfl⟩ := hsv
  have h6I : (all.length : Int) ≤ 6 := by omega
  go_wp2_with fail
  go_loopw [4, 5] (fun v t wr => ∃ (i : Nat) (ys : List Wy), i ≤ all.length ∧ t = .int .i64 (i : Nat) ∧ ys.length ≤ i ∧ (∀ y ∈ ys, GoodW y) ∧ WysN wr v ys ∧ Below w1.heap.size w1 wr) (fun _ t _ => all.length - (intOf t).toNat)
  case atStart => exact ⟨0, [], Nat.zero_le _, rfl, Nat.le_refl _, by simp, .inl ⟨rfl, rfl⟩, Below.refl _ _⟩
  case round =>
    obtain ⟨i, ys, hi, rfl, hyl, hgy, hN, hB⟩ := hrel
    have hsz := hB.size
    by_cases hlt : i < all.length
    · have hltI : (i : Int) < (all.length : Int) := by omega
      obtain ⟨b, off, rfl, hws⟩ := hW.at_ (by omega)
      have hy := hws _ hB i hlt
      have hgi := hgood _ (List.getElem_mem hlt)
      obtain ⟨y, hye⟩ : ∃ y, all[i] = y := ⟨_, rfl⟩
      rw [hye] at hy hgi
      have hyW := hy
      obtain ⟨id, line, lv, lvl, cls, nm, stb, wt, di⟩ := y
      obtain ⟨c0, c1, c2, c3, c4, c5, c6, c7, hpt⟩ := hy
      simp only at c0 c1 c2 c3 c4 c5 c6 c7 hpt
      obtain ⟨la, lcap, rfl⟩ : ∃ a cap, lv = .slice a line.length cap := by obtain ⟨a, cap, e, -⟩ := hpt; exact ⟨a, cap, e⟩
      have hb1 : b < w1.heap.size := by
        obtain ⟨a', cap', e', hp⟩ := hW
        obtain ⟨b', off', e2, hb', -⟩ := hp i hlt
        simp only [Value.slice.injEq, true_and] at e'
        obtain ⟨rfl, rfl⟩ := e'
        simp only [Option.some.injEq, Addr.mk.injEq, and_true] at e2
        obtain ⟨rfl, rfl⟩ := e2
        exact hb'
      clear hye
      go_upto_region 6 with fail
      have hY : ∃ Y : Wy, Y = ⟨id, line, .slice la line.length lcap, lvl, cls, nm, stb, wt, di⟩ := ⟨_, rfl⟩
      have hW1s := hB.size
      go_cut [6] (fun v wx => WysN wx v (ys ++ [(⟨id, line, .slice la line.length lcap, lvl, cls, nm, stb, wt, di⟩ : Wy)]) ∧ Below wr.heap.size wr wx)
      case first =>
        obtain ⟨Y, hYe⟩ := hY
        replace hYe := Lib.hid hYe
        go_region_law
          (first
            | (refine step_append_freshW (by rfl) _ _ (by rfl) wr.heap.size _ (by rfl) (ownsRow_emptyW ?_ ?_) _ ys (by rfl) (hN.below (by repeat' (first | with_reducible exact Below.refl _ _ | with_reducible exact Nat.le_refl _ | with_reducible assumption | with_reducible refine Go.below_growBy' ?_ ?_ _ | with_reducible refine Below.alloc ?_ ?_ _ | with_reducible refine Below.setCell ?_ ?_ _ | with_reducible refine Below.drew ?_ | with_reducible refine Go.le_alloc ?_ | with_reducible refine Go.le_growBy ?_ | with_reducible refine Go.le_setCell ?_ | with_reducible refine Go.le_drew ?_ | omega | (dsimp only; omega)))) (by omega) (by repeat' (first | with_reducible exact Below.refl _ _ | with_reducible exact Nat.le_refl _ | with_reducible assumption | with_reducible refine Go.below_growBy' ?_ ?_ _ | with_reducible refine Below.alloc ?_ ?_ _ | with_reducible refine Below.setCell ?_ ?_ _ | with_reducible refine Below.drew ?_ | with_reducible refine Go.le_alloc ?_ | with_reducible refine Go.le_growBy ?_ | with_reducible refine Go.le_setCell ?_ | with_reducible refine Go.le_drew ?_ | omega | (dsimp only; omega))) ?_; (first | exact Blk.new _ _ _ | (have h := (Blk.new (wr.alloc (.cells #[.int .i64 id, .slice la line.length lcap, .int .i64 lvl, .string cls, .string nm, .bool stb, .int .i64 wt, .int .i64 di] 62)) #[] 62).drew; rw [World.size_alloc] at h; exact h) | exact ((Blk.new wr #[] 62).alloc _).drew); (first | exact Nat.le_refl _ | (simp; done) | omega); intro v6 w6 hrow6 hb6; have hb46 : Below wr.heap.size wr w6 := Below.trans (by repeat' (first | with_reducible exact Below.refl _ _ | with_reducible exact Nat.le_refl _ | with_reducible assumption | with_reducible refine Go.below_growBy' ?_ ?_ _ | with_reducible refine Below.alloc ?_ ?_ _ | with_reducible refine Below.setCell ?_ ?_ _ | with_reducible refine Below.drew ?_ | with_reducible refine Go.le_alloc ?_ | with_reducible refine Go.le_growBy ?_ | with_reducible refine Go.le_setCell ?_ | with_reducible refine Go.le_drew ?_ | omega | (dsimp only; omega))) (hb6.mono (by repeat' (first | with_reducible exact Below.refl _ _ | with_reducible exact Nat.le_refl _ | with_reducible assumption | with_reducible refine Go.below_growBy' ?_ ?_ _ | with_reducible refine Below.alloc ?_ ?_ _ | with_reducible refine Below.setCell ?_ ?_ _ | with_reducible refine Below.drew ?_ | with_reducible refine Go.le_alloc ?_ | with_reducible refine Go.le_growBy ?_ | with_reducible refine Go.le_setCell ?_ | with_reducible refine Go.le_drew ?_ | omega | (dsimp only; omega)))); have hs46 := hb46.size; obtain ⟨d0, d1, d2, d3, d4, d5, d6, d7, -⟩ := hyW.below (hb46.mono hW1s) hb1; simp only at d0 d1 d2 d3 d4 d5 d6 d7)
            | ((first | (refine step_append_lies _ (by rfl) _ _ _ (by rfl) wr.heap.size 62 i1 _ 8 96 Tryz.underlying36 hi1 hy0 hy1 hy2 rfl (by omega) v6 ys.length _ (by rfl) (hrow6.alloc _) ⟨w6.heap.size, 0, none⟩ 1 1 (Wy.cellL ⟨id, line, .slice la line.length lcap, lvl, cls, nm, stb, wt, di⟩) (by rfl) (by rfl) (newsW (Blk.new _ _ _)) (by simp [Wy.cellL, Value.oneCell']) (by omega) (by unfold maxLen; omega) (by omega) (by repeat' (first | with_reducible exact Below.refl _ _ | with_reducible exact Nat.le_refl _ | with_reducible assumption | with_reducible refine Go.below_growBy' ?_ ?_ _ | with_reducible refine Below.alloc ?_ ?_ _ | with_reducible refine Below.setCell ?_ ?_ _ | with_reducible refine Below.drew ?_ | with_reducible refine Go.le_alloc ?_ | with_reducible refine Go.le_growBy ?_ | with_reducible refine Go.le_setCell ?_ | with_reducible refine Go.le_drew ?_ | omega | (dsimp only; omega))) _ rfl ?_) | (refine step_append_lies _ (by rfl) _ _ _ (by rfl) wr.heap.size 62 i1 _ 8 96 Tryz.underlying36 hi1 hy0 hy1 hy2 rfl (by omega) v6 ys.length _ (by rfl) hrow6 ⟨wr.heap.size, 0, none⟩ 1 1 (Wy.cellL ⟨id, line, .slice la line.length lcap, lvl, cls, nm, stb, wt, di⟩) (by rfl) (by rfl) (newsW (((Blk.new wr #[.int .i64 id, .slice la line.length lcap, .int .i64 lvl, .string cls, .string nm, .bool stb, .int .i64 wt, .int .i64 di] 62).alloc (.cells #[] 62)).drew.below hb6 (by simp; try omega))) (by simp [Wy.cellL, Value.oneCell']) (by omega) (by unfold maxLen; omega) (by omega) (by repeat' (first | with_reducible exact Below.refl _ _ | with_reducible exact Nat.le_refl _ | with_reducible assumption | with_reducible refine Go.below_growBy' ?_ ?_ _ | with_reducible refine Below.alloc ?_ ?_ _ | with_reducible refine Below.setCell ?_ ?_ _ | with_reducible refine Below.drew ?_ | with_reducible refine Go.le_alloc ?_ | with_reducible refine Go.le_growBy ?_ | with_reducible refine Go.le_setCell ?_ | with_reducible refine Go.le_drew ?_ | omega | (dsimp only; omega))) _ rfl ?_) | (refine step_append_lies _ (by rfl) _ _ _ (by rfl) wr.heap.size 62 i1 _ 8 96 Tryz.underlying36 hi1 hy0 hy1 hy2 rfl (by omega) v6 ys.length _ (by rfl) hrow6 ⟨wr.heap.size + 1, 0, none⟩ 1 1 (Wy.cellL ⟨id, line, .slice la line.length lcap, lvl, cls, nm, stb, wt, di⟩) (by rfl) (by rfl) (newsW (by have h := (Blk.new (wr.alloc (.cells #[] 62)) #[.int .i64 id, .slice la line.length lcap, .int .i64 lvl, .string cls, .string nm, .bool stb, .int .i64 wt, .int .i64 di] 62).drew.below hb6 (by simp; try omega); simpa using h)) (by simp [Wy.cellL, Value.oneCell']) (by omega) (by unfold maxLen; omega) (by omega) (by repeat' (first | with_reducible exact Below.refl _ _ | with_reducible exact Nat.le_refl _ | with_reducible assumption | with_reducible refine Go.below_growBy' ?_ ?_ _ | with_reducible refine Below.alloc ?_ ?_ _ | with_reducible refine Below.setCell ?_ ?_ _ | with_reducible refine Below.drew ?_ | with_reducible refine Go.le_alloc ?_ | with_reducible refine Go.le_growBy ?_ | with_reducible refine Go.le_setCell ?_ | with_reducible refine Go.le_drew ?_ | omega | (dsimp only; omega))) _ rfl ?_)); intro g7 cap7 w7 hown7 hgrow7 hat7 hlt7; have hb47 : Below wr.heap.size wr w7 := (by first | exact hb46.grown hgrow7 hb46.size (fun r e => (hrow6.lt r e).1) | exact (hb46.alloc hb46.size _).grown hgrow7 (Nat.le_trans hb46.size (by simp)) (fun r e => (hrow6.lt r e).1)))
            | fail)
        all_goals
          try go_simp
          go_wp2_with fail
          go_meet
          refine ⟨.inr ⟨by simp, ?_⟩, hb47⟩
          have hpts7 : ∀ z ∈ ys ++ [(⟨id, line, .slice la line.length lcap, lvl, cls, nm, stb, wt, di⟩ : Wy)], Pts w7.heap.size w7 z.lv z.line := fun z hz => by
            rcases List.mem_append.1 hz with hz | hz
            · exact ((hN.wys.pts z hz).below hb47).mono hb47.size
            · obtain rfl := List.mem_singleton.1 hz
              exact (hpt.below (hb47.mono hW1s)).mono (Nat.le_trans hW1s hb47.size)
          refine wys_of_pts (base := wr.heap.size) ?_ hpts7
          rw [List.length_append, List.flatMap_append]
          simpa using hown7
      case rest =>
      obtain ⟨hN2, hBc⟩ := hcut
      clear c0 c1 c2 c3 c4 c5 c6 c7
      obtain ⟨Y, hYe⟩ := hY
      rw [← hYe] at hN2 hgi
      clear hYe hyW
      have hgy2 : ∀ z ∈ ys ++ [Y], GoodW z := fun z hz => by
        rcases List.mem_append.1 hz with hz | hz
        · exact hgy z hz
        · obtain rfl := List.mem_singleton.1 hz
          exact hgi
      have hl2 : (ys ++ [Y]).length ≤ i + 1 := by rw [List.length_append]; simp; omega
      have hB6 : Below w1.heap.size w1 wc := hB.trans (hBc.mono hW1s)
      have hN6 := hN.below hBc
      generalize ys ++ [Y] = zs at *
      go_wp2_with (first | (go_at_call 43; refine (rcheck8_any _ zs wc.heap.size _ (Nat.le_refl _) hN2.wys (by omega) (fun y hy => Nat.le_trans (hgy2 y hy).len (by omega))).mono ?_; rintro e w8 ⟨⟨r, rfl⟩, hb8⟩) | fail)
      · go_roundw
        case rel => exact ⟨i + 1, zs, by omega, by go_num, by omega, hgy2, hN2.below hb8, hB6.trans (hb8.mono hB6.size)⟩
        case measure => simp [intOf]; try omega
      · go_roundw
        case rel => exact ⟨i + 1, ys, by omega, by go_num, by omega, hgy, hN6.below hb8, hB6.trans (hb8.mono hB6.size)⟩
        case measure => simp [intOf]; try omega
    · obtain rfl : i = all.length := by omega
      go_wp2_with fail
      go_ret
      exact ⟨_, ys, rfl, hN.wys, by omega, hgy, hB0.trans (hB.mono hB0.size)⟩
end Go.Proofs.YtjfdbigkbgolmaaGreatDoor
