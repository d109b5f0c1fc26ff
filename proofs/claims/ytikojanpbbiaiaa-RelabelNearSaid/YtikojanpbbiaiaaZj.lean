/-
  Chapter 24: the stable sort of at most 19 places.
  Chapter 24: the insertion sort of places walked, at two function values.
  Chapter 24: the insertion sort of places walked, at two function values.
  Chapter 24: slices.SortStableFunc of at most 19 places.
-/
import Derived.Test.YtikojanpbbiaiaaZf
import Derived.Test.YtikojanpbbiaiaaZi

namespace Go.Proofs.Ytikojanpbbiaiaa
set_option linter.unusedVariables false
set_option linter.unusedSimpArgs false
open Go.RowKit Go.Shelf Go.Lib Go.Sort
attribute [local go_sem] Oper.semAt_some
attribute [local go_sem ↓] Go.wp_at_zero Go.wp_at_succ

/-- the seven cells of a place, none frozen -/
structure PlC (W : World) (b o : Nat) (p : Pc) : Prop where
  c0 : W.cell? ⟨b, o, none⟩ = some (.int .i64 p.id)
  c1 : W.cell? ⟨b, o + 1, none⟩ = some (.int .i64 p.x)
  c2 : W.cell? ⟨b, o + 2, none⟩ = some (.int .i64 p.y)
  c3 : W.cell? ⟨b, o + 3, none⟩ = some (.string p.cls)
  c4 : W.cell? ⟨b, o + 4, none⟩ = some (.string p.nm)
  c5 : W.cell? ⟨b, o + 5, none⟩ = some (.int .i64 p.wt)
  c6 : W.cell? ⟨b, o + 6, none⟩ = some (.int .i64 p.ds)
structure PlF (W : World) (b o : Nat) : Prop where
  f0 : W.frozen? ⟨b, o, none⟩ = false
  f1 : W.frozen? ⟨b, o + 1, none⟩ = false
  f2 : W.frozen? ⟨b, o + 2, none⟩ = false
  f3 : W.frozen? ⟨b, o + 3, none⟩ = false
  f4 : W.frozen? ⟨b, o + 4, none⟩ = false
  f5 : W.frozen? ⟨b, o + 5, none⟩ = false
  f6 : W.frozen? ⟨b, o + 6, none⟩ = false
abbrev RowP (W : World) (blk off : Nat) (d : Array Pc) : Prop := HoldsK plE.enc 7 W blk off d
theorem RowP.pc {W : World} {blk off : Nat} {d : Array Pc} (h : RowP W blk off d) {j : Nat} (hj : j < d.size) : PlC W blk (off + j * 7) d[j]! :=
  ⟨(HoldsK.cell h hj (c := 0) (by omega)).1, (HoldsK.cell h hj (c := 1) (by omega)).1, (HoldsK.cell h hj (c := 2) (by omega)).1, (HoldsK.cell h hj (c := 3) (by omega)).1, (HoldsK.cell h hj (c := 4) (by omega)).1, (HoldsK.cell h hj (c := 5) (by omega)).1, (HoldsK.cell h hj (c := 6) (by omega)).1⟩
theorem RowP.pf {W : World} {blk off : Nat} {d : Array Pc} (h : RowP W blk off d) {j : Nat} (hj : j < d.size) : PlF W blk (off + j * 7) :=
  ⟨(HoldsK.cell h hj (c := 0) (by omega)).2, (HoldsK.cell h hj (c := 1) (by omega)).2, (HoldsK.cell h hj (c := 2) (by omega)).2, (HoldsK.cell h hj (c := 3) (by omega)).2, (HoldsK.cell h hj (c := 4) (by omega)).2, (HoldsK.cell h hj (c := 5) (by omega)).2, (HoldsK.cell h hj (c := 6) (by omega)).2⟩
theorem frozen_same {W W' : World} {b : Nat} (h : W'.heap[b]? = W.heap[b]?) (i : Nat) : W'.frozen? ⟨b, i, none⟩ = W.frozen? ⟨b, i, none⟩ := by
  unfold World.frozen?
  simp only [h]
theorem RowP.same {W W' : World} {blk off : Nat} {d : Array Pc} (h : RowP W blk off d) (hs : W'.heap[blk]? = W.heap[blk]?) : RowP W' blk off d := fun j hj =>
  ⟨(cell_same hs).trans (h j hj).1, (frozen_same hs _).trans (h j hj).2⟩
/-- two neighbours change their places -/
def swapW (W : World) (blk off j : Nat) (d : Array Pc) : World := (W.setCells blk (off + (j + 1) * 7) (plE.enc d[j]!)).setCells blk (off + j * 7) (plE.enc d[j + 1]!)
theorem swap_row {W : World} {blk off j : Nat} {d : Array Pc} (h : RowP W blk off d) (hj : j + 1 < d.size) : RowP (swapW W blk off j d) blk off (swp d (j + 1) j) := by
  have b : ∀ x, x < d.size → x * 7 + 7 ≤ d.size * 7 := fun x hx => by omega
  have h1 := holds_setCells_c h ((j + 1) * 7) (plE.enc d[j]!) (by rw [size_flatK]; exact b (j + 1) hj)
  have h2 := holds_setCells_c h1 (j * 7) (plE.enc d[j + 1]!) (by rw [size_setMany, size_flatK]; exact b j (by omega))
  unfold RowP HoldsK
  rw [← setMany_swp plE.enc 7 (fun _ => rfl) d (j + 1) j hj (by omega)]
  exact h2
theorem grown_setCells (blk : Nat) : ∀ (vs : List Value) (o : Nat) (W : World), W.grownBy (W.setCells blk o vs) (some blk)
  | [], o, W => ⟨rfl, rfl, rfl, Nat.le_refl _, fun _ _ _ => rfl⟩
  | v :: vs, o, W => by
    have h1 := grown_setCell W blk o v
    have h2 := grown_setCells blk vs (o + 1) (W.setCell ⟨blk, o, none⟩ v)
    exact ⟨h2.os.trans h1.os, h2.tape.trans h1.tape, h2.output.trans h1.output, Nat.le_trans h1.size h2.size, fun k hk hn => (h2.block k (Nat.lt_of_lt_of_le hk h1.size) hn).trans (h1.block k hk hn)⟩
theorem grown_trans {W W1 W2 : World} {b : Nat} (h1 : W.grownBy W1 (some b)) (h2 : W1.grownBy W2 (some b)) : W.grownBy W2 (some b) :=
  ⟨h2.os.trans h1.os, h2.tape.trans h1.tape, h2.output.trans h1.output, Nat.le_trans h1.size h2.size, fun k hk hn => (h2.block k (Nat.lt_of_lt_of_le hk h1.size) hn).trans (h1.block k hk hn)⟩
theorem grown_below {W W1 : World} (b : Option Nat) (h : Below W.heap.size W W1) : W.grownBy W1 b := ⟨h.os, h.tape, h.output, h.size, fun k hk _ => h.block k hk⟩
/-- the block of a row: cells of places, so many -/
def RowB (W : World) (blk N : Nat) : Prop := ∃ cur, Blk W blk cur 41 ∧ cur.size = N
theorem RowB.same {W W' : World} {blk N : Nat} (h : RowB W blk N) (hs : W'.heap[blk]? = W.heap[blk]?) : RowB W' blk N := by
  obtain ⟨cur, h1, h2⟩ := h
  exact ⟨cur, hs.trans h1, h2⟩
theorem RowB.setCells {blk N : Nat} : ∀ (vs : List Value) (o : Nat) (W : World), RowB W blk N → RowB (W.setCells blk o vs) blk N
  | [], _, _, h => h
  | v :: vs, o, W, ⟨cur, h1, h2⟩ => RowB.setCells vs (o + 1) _ ⟨_, h1.set o v, by simpa using h2⟩
theorem RowB.lt {W : World} {blk N : Nat} (h : RowB W blk N) : blk < W.heap.size := h.choose_spec.1.lt
/-- what the sort's rounds hold -/
structure SoW (w : World) (blk off N : Nat) (n : Nat) (d : Array Pc) (W : World) : Prop where
  row : RowP W blk off d
  rb : RowB W blk N
  gr : w.grownBy W (some blk)
  sz : d.size = n
theorem SoW.below {w : World} {blk off N n : Nat} {d : Array Pc} {W W' : World} (h : SoW w blk off N n d W) (hb : Below W.heap.size W W') : SoW w blk off N n d W' :=
  have e := hb.block blk h.rb.lt
  ⟨h.row.same e, h.rb.same e, grown_trans h.gr (grown_below _ hb), h.sz⟩
theorem SoW.drew {w : World} {blk off N n : Nat} {d : Array Pc} {W : World} (h : SoW w blk off N n d W) : SoW w blk off N n d W.drew := h.below ⟨rfl, rfl, rfl, Nat.le_refl _, fun _ _ => rfl⟩
theorem SoW.swap {w : World} {blk off N n j : Nat} {d : Array Pc} {W : World} (h : SoW w blk off N n d W) (hj : j + 1 < n) : SoW w blk off N n (swp d (j + 1) j) (swapW W blk off j d) :=
  ⟨swap_row h.row (by rw [h.sz]; exact hj), RowB.setCells _ _ _ (RowB.setCells _ _ _ h.rb), grown_trans h.gr (grown_trans (grown_setCells _ _ _ _) (grown_setCells _ _ _ _)), by rw [size_swp]; exact h.sz⟩
theorem swap_out (W : World) (blk o1 o2 : Nat) (i1 x1 y1 w1 d1 i2 x2 y2 w2 d2 : Int) (c1 n1 c2 n2 : ByteArray) :
    (W.setCells blk o1 (plE.enc ⟨i2, x2, y2, c2, n2, w2, d2⟩)).setCells blk o2 (plE.enc ⟨i1, x1, y1, c1, n1, w1, d1⟩) = ((((((((((((((W.setCell ⟨blk, o1, none⟩ (.int .i64 i2)).setCell ⟨blk, o1 + 1, none⟩ (.int .i64 x2)).setCell ⟨blk, o1 + 2, none⟩ (.int .i64 y2)).setCell ⟨blk, o1 + 3, none⟩ (.string c2)).setCell ⟨blk, o1 + 4, none⟩ (.string n2)).setCell ⟨blk, o1 + 5, none⟩ (.int .i64 w2)).setCell ⟨blk, o1 + 6, none⟩ (.int .i64 d2)).setCell ⟨blk, o2, none⟩ (.int .i64 i1)).setCell ⟨blk, o2 + 1, none⟩ (.int .i64 x1)).setCell ⟨blk, o2 + 2, none⟩ (.int .i64 y1)).setCell ⟨blk, o2 + 3, none⟩ (.string c1)).setCell ⟨blk, o2 + 4, none⟩ (.string n1)).setCell ⟨blk, o2 + 5, none⟩ (.int .i64 w1)).setCell ⟨blk, o2 + 6, none⟩ (.int .i64 d1)) := by
  simp only [World.setCells, Nat.add_assoc, Nat.reduceAdd]
theorem cmpLt (a b : Pc) : (ltOf cmpP a b = true ↔ cmpP a b < 0) := by unfold ltOf; simp
end Go.Proofs.Ytikojanpbbiaiaa
namespace Go.Proofs.Ytikojanpbbiaiaa
set_option linter.unusedVariables false
set_option linter.unusedSimpArgs false
open Go.RowKit Go.Shelf Go.Lib Go.Sort
attribute [local go_sem] Oper.semAt_some
attribute [local go_sem ↓] Go.wp_at_zero Go.wp_at_succ

set_option maxRecDepth 100000 in
set_option maxHeartbeats 8000000 in
theorem insertS_any (blk off cap N n : Nat) (d : Array Pc) (w : World) (hW : SoW w blk off N n d w) (hn : n ≤ 1000) :
    Calls Try.prog 98 #[.slice (some ⟨blk, off, none⟩) n cap, .int .i64 0, .int .i64 (n : Nat), .func (.func 58) #[] #[]] w fun e w' => e = .returned (.tuple #[]) ∧ SoW w blk off N n (insertionSort (ltOf cmpP) d 0 n) w' := by
  have mixed : Try.prog.follows .mixedOrders = true := by kernel_rfl
  have HW : Hid (SoW w blk off N n d w) := hW
  clear hW
  go_enter Try.func98, Try.ntmps98
  go_wp2_with fail
  go_loopw [8] (fun vi wr => ∃ (i : Nat) (dk : Array Pc), vi = .int .i64 (i : Nat) ∧ 1 ≤ i ∧ i ≤ n + 1 ∧ Hid (SoW w blk off N n dk wr) ∧ Hid (insOuter (ltOf cmpP) 0 n i dk = insOuter (ltOf cmpP) 0 n 1 d)) (fun vi _ => n + 1 - (intOf vi).toNat)
  case atStart => exact ⟨1, d, rfl, by omega, by omega, HW, rfl⟩
  case round =>
    obtain ⟨i, dk, rfl, hi1, hin, HR, HO⟩ := hrel
    by_cases hlt : i < n
    · have hltI : (i : Int) < (n : Int) := by omega
      go_wp2_with fail
      go_loopw [9] (fun vj wr2 => ∃ (j : Nat) (dj : Array Pc), vj = .int .i64 (j : Nat) ∧ j ≤ i ∧ Hid (SoW w blk off N n dj wr2) ∧ Hid (insInner (ltOf cmpP) 0 j dj = insInner (ltOf cmpP) 0 i dk)) (fun vj _ => (intOf vj).toNat)
      case atStart => exact ⟨i, dk, rfl, by omega, HR, rfl⟩
      case round =>
        obtain ⟨j, dj, rfl, hji, HJ, HI⟩ := hrel
        have out : Hid ((j = 0 ∨ ltOf cmpP dj[j]! dj[j - 1]! = false) → insOuter (ltOf cmpP) 0 n (i + 1) dj = insOuter (ltOf cmpP) 0 n 1 d) := fun hs => by
          rw [← HO.out, insOuter_go _ _ _ _ _ hlt, ← HI.out, insInner_stop _ _ _ _ (hs.imp (fun e => by omega) id)]
        by_cases hj0 : 0 < j
        · have hj0I : (0 : Int) < (j : Int) := by omega
          obtain ⟨jp, rfl⟩ : ∃ jp, j = jp + 1 := ⟨j - 1, by omega⟩
          have hjn : jp + 1 < dj.size := by rw [HJ.out.sz]; omega
          obtain ⟨xj, hxj⟩ : ∃ x, dj[jp + 1]! = x := ⟨_, rfl⟩
          obtain ⟨xp, hxp⟩ : ∃ x, dj[jp]! = x := ⟨_, rfl⟩
          obtain ⟨a0, a1, a2, a3, a4, a5, a6⟩ := hxj ▸ HJ.out.row.pc hjn
          obtain ⟨b0, b1, b2, b3, b4, b5, b6⟩ := hxp ▸ HJ.out.row.pc (j := jp) (by omega)
          have HX : Hid (dj[jp + 1]! = xj ∧ dj[jp]! = xp) := ⟨hxj, hxp⟩
          obtain ⟨cv, hcv⟩ : ∃ c, cmpP xj xp = c := ⟨_, rfl⟩
          have hcmp : ∀ W, Calls Try.prog 58 #[plV xj, plV xp] W fun e w' => e = .returned (.int .i64 cv) ∧ Below W.heap.size W w' := fun W => by rw [← hcv]; exact cmpS_any xj xp W
          have HC : Hid (cmpP xj xp = cv) := hcv
          clear hxj hxp hcv
          obtain ⟨i1, x1, y1, cl1, n1, wt1, d1⟩ := xj
          obtain ⟨i2, x2, y2, cl2, n2, wt2, d2⟩ := xp
          have hwp : IntKind.i64.wrap (jp : Int) = (jp : Int) := by rw [IntKind.wrap_i64]; omega
          have hjnI : (jp : Int) + 1 < (n : Int) := by omega
          have hjnI2 : (jp : Int) < (n : Int) := by omega
          have hp0 : (0 : Int) ≤ (jp : Int) + 1 := by omega
          have he0 : ((jp : Int) + 1).toNat = jp + 1 := by omega
          by_cases hlv : cv < 0
          · go_wp2_with fail
            first | with_reducible refine wp_region_grow2 (by kernel_rfl) (by kernel_rfl) ?_ | with_reducible refine wp_region_grow (by kernel_rfl) (by kernel_rfl) ?_
            repeat (first | go_big_quiet_step ((go_at_call 58; exact Calls.grow_of (hcmp _))) | quiet_step ((go_at_call 58; exact Calls.grow_of (hcmp _))))
            refine wpQuiet_nil ?_
            intro _ hw_
            obtain ⟨p, hw_⟩ := hw_
            subst hw_
            go_upto_region 6 with fail
            obtain ⟨W2, hW2⟩ : ∃ W, wr.growBy p = W := ⟨_, rfl⟩
            rw [hW2]
            have HJ2 : SoW w blk off N n dj W2 := by rw [← hW2]; exact HJ.out.below (below_growBy _ _)
            clear a0 a1 a2 a3 a4 a5 a6 b0 b1 b2 b3 b4 b5 b6 hW2 hcmp
            obtain ⟨a0, a1, a2, a3, a4, a5, a6⟩ := HX.out.1 ▸ HJ2.row.pc hjn
            obtain ⟨b0, b1, b2, b3, b4, b5, b6⟩ := HX.out.2 ▸ HJ2.row.pc (j := jp) (by omega)
            obtain ⟨f0, f1, f2, f3, f4, f5, f6⟩ := HJ2.row.pf hjn
            obtain ⟨g0, g1, g2, g3, g4, g5, g6⟩ := HJ2.row.pf (j := jp) (by omega)
            have HJ3 := Lib.hid (HJ2.swap (j := jp) (by omega))
            have hjj : jp + 1 < n := by omega
            replace HJ2 := Lib.hid HJ2
            simp only at a0 a1 a2 a3 a4 a5 a6 b0 b1 b2 b3 b4 b5 b6
            go_big_region_o
            all_goals go_wp2_with fail
            go_roundw
            case rel =>
              refine ⟨jp, swp dj (jp + 1) jp, by go_num, by omega, ?_, ?_⟩
              · have h3 := HJ3.out
                unfold swapW at h3
                rw [HX.out.1, HX.out.2, swap_out] at h3
                exact Lib.hid h3.drew
              · show _ = _
                have h4 := insInner_go (ltOf cmpP) 0 (jp + 1) dj (by omega) (by rw [HX.out.1, show jp + 1 - 1 = jp from rfl, HX.out.2, cmpLt, HC.out]; exact hlv)
                rw [← HI.out, h4]
                rfl
            case measure => first | (simp [intOf]; done) | (simp [intOf]; omega)
          · go_wp2_with fail
            first | with_reducible refine wp_region_grow2 (by kernel_rfl) (by kernel_rfl) ?_ | with_reducible refine wp_region_grow (by kernel_rfl) (by kernel_rfl) ?_
            repeat (first | go_big_quiet_step ((go_at_call 58; exact Calls.grow_of (hcmp _))) | quiet_step ((go_at_call 58; exact Calls.grow_of (hcmp _))))
            refine wpQuiet_nil ?_
            intro _ hw_
            obtain ⟨p, hw_⟩ := hw_
            subst hw_
            go_wp2_with fail
            go_roundw
            case rel => exact ⟨i + 1, dj, by go_num, by omega, by omega, HJ.out.below (below_growBy _ _), out.out (.inr (by show decide _ = false; rw [HX.out.1, show jp + 1 - 1 = jp from rfl, HX.out.2, HC.out]; exact decide_eq_false (by omega)))⟩
            case measure => first | (simp [intOf]; done) | (simp [intOf]; omega)
        · obtain rfl : j = 0 := by omega
          have hj0I : ¬ (0 : Int) < ((0 : Nat) : Int) := by omega
          have hSo := out.out (.inl rfl)
          go_wp2_with fail
          go_big_region_o
          all_goals go_wp2_with fail
          go_roundw
          case rel => exact ⟨i + 1, dj, by go_num, by omega, by omega, Lib.hid HJ.out.drew, hSo⟩
          case measure => first | (simp [intOf]; done) | (simp [intOf]; omega)
    · have hgeI : ¬ (i : Int) < (n : Int) := by omega
      go_wp2_with fail
      go_end0
      have h5 := HO.out
      rw [insOuter_stop _ _ _ _ _ hlt] at h5
      refine ⟨rfl, ?_⟩
      unfold insertionSort
      rw [← h5]
      exact HR.out
end Go.Proofs.Ytikojanpbbiaiaa
namespace Go.Proofs.Ytikojanpbbiaiaa
set_option linter.unusedVariables false
set_option linter.unusedSimpArgs false
open Go.RowKit Go.Shelf Go.Lib Go.Sort
attribute [local go_sem] Oper.semAt_some
attribute [local go_sem ↓] Go.wp_at_zero Go.wp_at_succ

set_option maxRecDepth 100000 in
set_option maxHeartbeats 8000000 in
theorem insertQ_any (q : Value) (blk off cap N n : Nat) (d : Array Pc) (w : World) (hW : SoW w blk off N n d w) (hn : n ≤ 1000) :
    Calls Try.prog 98 #[.slice (some ⟨blk, off, none⟩) n cap, .int .i64 0, .int .i64 (n : Nat), .func (.func 72) #[q] #[]] w fun e w' => e = .returned (.tuple #[]) ∧ SoW w blk off N n (insertionSort (ltOf cmpP) d 0 n) w' := by
  have mixed : Try.prog.follows .mixedOrders = true := by kernel_rfl
  have HW : Hid (SoW w blk off N n d w) := hW
  clear hW
  go_enter Try.func98, Try.ntmps98
  go_wp2_with fail
  go_loopw [8] (fun vi wr => ∃ (i : Nat) (dk : Array Pc), vi = .int .i64 (i : Nat) ∧ 1 ≤ i ∧ i ≤ n + 1 ∧ Hid (SoW w blk off N n dk wr) ∧ Hid (insOuter (ltOf cmpP) 0 n i dk = insOuter (ltOf cmpP) 0 n 1 d)) (fun vi _ => n + 1 - (intOf vi).toNat)
  case atStart => exact ⟨1, d, rfl, by omega, by omega, HW, rfl⟩
  case round =>
    obtain ⟨i, dk, rfl, hi1, hin, HR, HO⟩ := hrel
    by_cases hlt : i < n
    · have hltI : (i : Int) < (n : Int) := by omega
      go_wp2_with fail
      go_loopw [9] (fun vj wr2 => ∃ (j : Nat) (dj : Array Pc), vj = .int .i64 (j : Nat) ∧ j ≤ i ∧ Hid (SoW w blk off N n dj wr2) ∧ Hid (insInner (ltOf cmpP) 0 j dj = insInner (ltOf cmpP) 0 i dk)) (fun vj _ => (intOf vj).toNat)
      case atStart => exact ⟨i, dk, rfl, by omega, HR, rfl⟩
      case round =>
        obtain ⟨j, dj, rfl, hji, HJ, HI⟩ := hrel
        have out : Hid ((j = 0 ∨ ltOf cmpP dj[j]! dj[j - 1]! = false) → insOuter (ltOf cmpP) 0 n (i + 1) dj = insOuter (ltOf cmpP) 0 n 1 d) := fun hs => by
          rw [← HO.out, insOuter_go _ _ _ _ _ hlt, ← HI.out, insInner_stop _ _ _ _ (hs.imp (fun e => by omega) id)]
        by_cases hj0 : 0 < j
        · have hj0I : (0 : Int) < (j : Int) := by omega
          obtain ⟨jp, rfl⟩ : ∃ jp, j = jp + 1 := ⟨j - 1, by omega⟩
          have hjn : jp + 1 < dj.size := by rw [HJ.out.sz]; omega
          obtain ⟨xj, hxj⟩ : ∃ x, dj[jp + 1]! = x := ⟨_, rfl⟩
          obtain ⟨xp, hxp⟩ : ∃ x, dj[jp]! = x := ⟨_, rfl⟩
          obtain ⟨a0, a1, a2, a3, a4, a5, a6⟩ := hxj ▸ HJ.out.row.pc hjn
          obtain ⟨b0, b1, b2, b3, b4, b5, b6⟩ := hxp ▸ HJ.out.row.pc (j := jp) (by omega)
          have HX : Hid (dj[jp + 1]! = xj ∧ dj[jp]! = xp) := ⟨hxj, hxp⟩
          obtain ⟨cv, hcv⟩ : ∃ c, cmpP xj xp = c := ⟨_, rfl⟩
          have hcmp : ∀ W, Calls Try.prog 72 #[q, plV xj, plV xp] W fun e w' => e = .returned (.int .i64 cv) ∧ Below W.heap.size W w' := fun W => by rw [← hcv]; exact cmpQ_any q xj xp W
          have HC : Hid (cmpP xj xp = cv) := hcv
          clear hxj hxp hcv
          obtain ⟨i1, x1, y1, cl1, n1, wt1, d1⟩ := xj
          obtain ⟨i2, x2, y2, cl2, n2, wt2, d2⟩ := xp
          have hwp : IntKind.i64.wrap (jp : Int) = (jp : Int) := by rw [IntKind.wrap_i64]; omega
          have hjnI : (jp : Int) + 1 < (n : Int) := by omega
          have hjnI2 : (jp : Int) < (n : Int) := by omega
          have hp0 : (0 : Int) ≤ (jp : Int) + 1 := by omega
          have he0 : ((jp : Int) + 1).toNat = jp + 1 := by omega
          by_cases hlv : cv < 0
          · go_wp2_with fail
            first | with_reducible refine wp_region_grow2 (by kernel_rfl) (by kernel_rfl) ?_ | with_reducible refine wp_region_grow (by kernel_rfl) (by kernel_rfl) ?_
            repeat (first | go_big_quiet_step ((go_at_call 72; exact Calls.grow_of (hcmp _))) | quiet_step ((go_at_call 72; exact Calls.grow_of (hcmp _))))
            refine wpQuiet_nil ?_
            intro _ hw_
            obtain ⟨p, hw_⟩ := hw_
            subst hw_
            go_upto_region 6 with fail
            obtain ⟨W2, hW2⟩ : ∃ W, wr.growBy p = W := ⟨_, rfl⟩
            rw [hW2]
            have HJ2 : SoW w blk off N n dj W2 := by rw [← hW2]; exact HJ.out.below (below_growBy _ _)
            clear a0 a1 a2 a3 a4 a5 a6 b0 b1 b2 b3 b4 b5 b6 hW2 hcmp
            obtain ⟨a0, a1, a2, a3, a4, a5, a6⟩ := HX.out.1 ▸ HJ2.row.pc hjn
            obtain ⟨b0, b1, b2, b3, b4, b5, b6⟩ := HX.out.2 ▸ HJ2.row.pc (j := jp) (by omega)
            obtain ⟨f0, f1, f2, f3, f4, f5, f6⟩ := HJ2.row.pf hjn
            obtain ⟨g0, g1, g2, g3, g4, g5, g6⟩ := HJ2.row.pf (j := jp) (by omega)
            have HJ3 := Lib.hid (HJ2.swap (j := jp) (by omega))
            have hjj : jp + 1 < n := by omega
            replace HJ2 := Lib.hid HJ2
            simp only at a0 a1 a2 a3 a4 a5 a6 b0 b1 b2 b3 b4 b5 b6
            go_big_region_o
            all_goals go_wp2_with fail
            go_roundw
            case rel =>
              refine ⟨jp, swp dj (jp + 1) jp, by go_num, by omega, ?_, ?_⟩
              · have h3 := HJ3.out
                unfold swapW at h3
                rw [HX.out.1, HX.out.2, swap_out] at h3
                exact Lib.hid h3.drew
              · show _ = _
                have h4 := insInner_go (ltOf cmpP) 0 (jp + 1) dj (by omega) (by rw [HX.out.1, show jp + 1 - 1 = jp from rfl, HX.out.2, cmpLt, HC.out]; exact hlv)
                rw [← HI.out, h4]
                rfl
            case measure => first | (simp [intOf]; done) | (simp [intOf]; omega)
          · go_wp2_with fail
            first | with_reducible refine wp_region_grow2 (by kernel_rfl) (by kernel_rfl) ?_ | with_reducible refine wp_region_grow (by kernel_rfl) (by kernel_rfl) ?_
            repeat (first | go_big_quiet_step ((go_at_call 72; exact Calls.grow_of (hcmp _))) | quiet_step ((go_at_call 72; exact Calls.grow_of (hcmp _))))
            refine wpQuiet_nil ?_
            intro _ hw_
            obtain ⟨p, hw_⟩ := hw_
            subst hw_
            go_wp2_with fail
            go_roundw
            case rel => exact ⟨i + 1, dj, by go_num, by omega, by omega, HJ.out.below (below_growBy _ _), out.out (.inr (by show decide _ = false; rw [HX.out.1, show jp + 1 - 1 = jp from rfl, HX.out.2, HC.out]; exact decide_eq_false (by omega)))⟩
            case measure => first | (simp [intOf]; done) | (simp [intOf]; omega)
        · obtain rfl : j = 0 := by omega
          have hj0I : ¬ (0 : Int) < ((0 : Nat) : Int) := by omega
          have hSo := out.out (.inl rfl)
          go_wp2_with fail
          go_big_region_o
          all_goals go_wp2_with fail
          go_roundw
          case rel => exact ⟨i + 1, dj, by go_num, by omega, by omega, Lib.hid HJ.out.drew, hSo⟩
          case measure => first | (simp [intOf]; done) | (simp [intOf]; omega)
    · have hgeI : ¬ (i : Int) < (n : Int) := by omega
      go_wp2_with fail
      go_end0
      have h5 := HO.out
      rw [insOuter_stop _ _ _ _ _ hlt] at h5
      refine ⟨rfl, ?_⟩
      unfold insertionSort
      rw [← h5]
      exact HR.out
end Go.Proofs.Ytikojanpbbiaiaa
namespace Go.Proofs.Ytikojanpbbiaiaa
set_option linter.unusedVariables false
set_option linter.unusedSimpArgs false
open Go.RowKit Go.Shelf Go.Lib Go.Sort
attribute [local go_sem] Oper.semAt_some
attribute [local go_sem ↓] Go.wp_at_zero Go.wp_at_succ

/-- the places in their order -/
def sortP (l : List Pc) : List Pc := (insertionSort (ltOf cmpP) l.toArray 0 l.length).toList
theorem sortP_nil : sortP [] = [] := by
  unfold sortP insertionSort
  rw [insOuter_stop _ _ _ _ _ (by simp)]
theorem flatK_at (d : Array Pc) (t : Nat) (ht : t < d.size * 7) : (d.toList.flatMap plE.enc)[t]? = some (flatK plE.enc 7 d)[t]! := by
  have hq : t / 7 < d.toList.length := by simp; omega
  have hr : t % 7 < 7 := Nat.mod_lt _ (by decide)
  have e1 : t / 7 * 7 + t % 7 = t := by omega
  have h2 := flat_at plOk d.toList (t / 7) (t % 7) hq hr
  rw [show plE.s = 7 from rfl, e1] at h2
  rw [h2, get_flatK _ _ _ _ ht]
  have hqa : t / 7 < d.size := by omega
  rw [getElem!_pos d (t / 7) hqa]
  have hl : t % 7 < (plE.enc d[t / 7]).length := hr
  rw [getElem!_pos (plE.enc d[t / 7]) (t % 7) hl]
  simp only [Array.getElem_toList]
  exact List.getElem?_eq_getElem hl
theorem sow_of_row {w : World} {base g cap : Nat} {l : List Pc} (h : w.ownsRow base 41 7 (.slice (some ⟨g, 0, none⟩) l.length cap) l.length (l.flatMap plE.enc)) : SoW w g 0 (cap * 7) l.length l.toArray w ∧ base ≤ g := by
  rcases h.2 with ⟨e, -⟩ | ⟨g', cap', cur, e, hb, hg, h1, h2, h3, h4⟩
  · cases e
  · simp only [Value.slice.injEq, Option.some.injEq, Addr.mk.injEq, and_true, true_and] at e
    obtain ⟨rfl, rfl⟩ := e
    refine ⟨⟨fun t ht => ⟨?_, (show Blk w g cur 41 from hg).frozen _⟩, ⟨cur, hg, h3⟩, ⟨rfl, rfl, rfl, Nat.le_refl _, fun _ _ _ => rfl⟩, by simp⟩, hb⟩
    have ht' : t < l.length * 7 := by simpa using ht
    have h5 := flatK_at l.toArray t (by simpa using ht')
    simp only at h5
    have h6 := h.cellAt t ht'
    rw [h5] at h6
    simpa using h6
theorem row_of_sow {w W : World} {base g cap n : Nat} {d : Array Pc} (h : SoW w g 0 (cap * 7) n d W) (hb : base ≤ g) (hc : n ≤ cap) (hm : cap ≤ maxLen) : W.ownsRow base 41 7 (.slice (some ⟨g, 0, none⟩) n cap) n (d.toList.flatMap plE.enc) := by
  obtain ⟨hr, ⟨cur, hk, hs⟩, -, hz⟩ := h
  have hlen : (d.toList.flatMap plE.enc).length = n * 7 := by rw [flat_length plOk]; simp [hz]
  refine ⟨hlen, .inr ⟨g, cap, cur, rfl, hb, hk, hc, hm, hs, ?_⟩⟩
  refine List.ext_getElem? fun t => ?_
  by_cases ht : t < n * 7
  · rw [List.getElem?_take_of_lt ht, flatK_at d t (by rw [hz]; exact ht)]
    have h1 := (hr t (by rw [size_flatK, hz]; exact ht)).1
    rw [Nat.zero_add, hk.cell t] at h1
    simpa using h1
  · rw [List.getElem?_eq_none (by simp; omega), List.getElem?_eq_none (by omega)]
theorem insert0_any (a : Option Addr) (n c : Nat) (fv : Value) (w : World) : Calls Try.prog 98 #[.slice a n c, .int .i64 0, .int .i64 0, fv] w fun e w' => e = .returned (.tuple #[]) ∧ w = w' := by
  go_enter Try.func98, Try.ntmps98
  go_wp2_with fail
  refine wp_loop_rounds 1 ?_
  rw [rounds_succ]
  go_wp2_with fail
  go_end0
  exact ⟨rfl, rfl⟩
/-- the sort of at most 19 through one call of the insertion sort, whatever it does -/
theorem stable_any (v fv : Value) (n : Nat) (hn : n ≤ 19) (w : World) (K : World → Prop) (h : Calls Try.prog 98 #[v, .int .i64 0, .int .i64 (n : Nat), fv] w fun e w' => e = .returned (.tuple #[]) ∧ K w') :
    Calls Try.prog 85 #[v, .int .i64 (n : Nat), fv] w fun e w' => e = .returned (.tuple #[]) ∧ K w' := by
  have hnI : ¬ (20 : Int) ≤ (n : Int) := by omega
  have hnI2 : ¬ (20 : Int) < (n : Int) := by omega
  have mixed : Try.prog.follows .mixedOrders = true := by kernel_rfl
  go_enter Try.func85, Try.ntmps85
  go_wp2_with fail
  refine wp_loop_rounds 1 ?_
  rw [rounds_succ]
  go_wp2_with (go_at_call 98; refine h.mono ?_; rintro e w1 ⟨rfl, hK⟩)
  refine wp_loop_rounds 1 ?_
  rw [rounds_succ]
  go_wp2_with fail
  go_end0
  exact ⟨rfl, hK⟩
theorem sort_of {base g cap : Nat} {l : List Pc} {w : World} {fv : Value} (hl : l.length ≤ 19) (hrow : w.ownsRow base 41 7 (.slice (some ⟨g, 0, none⟩) l.length cap) l.length (l.flatMap plE.enc)) (hc : l.length ≤ cap) (hm : cap ≤ maxLen)
    (hins : SoW w g 0 (cap * 7) l.length l.toArray w → Calls Try.prog 98 #[.slice (some ⟨g, 0, none⟩) l.length cap, .int .i64 0, .int .i64 (l.length : Nat), fv] w fun e w' => e = .returned (.tuple #[]) ∧ SoW w g 0 (cap * 7) l.length (insertionSort (ltOf cmpP) l.toArray 0 l.length) w') :
    Calls Try.prog 85 #[.slice (some ⟨g, 0, none⟩) l.length cap, .int .i64 (l.length : Nat), fv] w fun e w' => e = .returned (.tuple #[]) ∧ w'.ownsRow base 41 7 (.slice (some ⟨g, 0, none⟩) l.length cap) l.length ((sortP l).flatMap plE.enc) ∧ w.grownBy w' (some g) := by
  obtain ⟨hS, hb⟩ := sow_of_row hrow
  refine stable_any _ fv l.length hl w _ ((hins hS).mono ?_)
  rintro e w' ⟨rfl, h⟩
  exact ⟨rfl, row_of_sow h hb hc hm, h.gr⟩
theorem sortStable_S (base : Nat) (v : Value) (l : List Pc) (w : World) (hl : l.length ≤ 19) (hrow : w.ownsRow base 41 7 v l.length (l.flatMap plE.enc)) :
    Calls Try.prog 57 #[v, .func (.func 58) #[] #[]] w fun e w' => e = .returned (.tuple #[]) ∧ w'.ownsRow base 41 7 v l.length ((sortP l).flatMap plE.enc) ∧ w.grownBy w' v.ownBlock := by
  rcases hrow.2 with ⟨rfl, h0⟩ | ⟨g, cap, cur, rfl, hb, hg, h1, h2, h3, h4⟩
  · obtain rfl := List.eq_nil_of_length_eq_zero h0
    have c1 := stable_any (.slice none 0 0) (.func (.func 58) #[] #[]) 0 (by omega) w (fun w' => w = w') (insert0_any none 0 0 _ w)
    have hr2 := Lib.hid hrow
    clear hrow h0
    go_enter Try.func57, Try.ntmps57
    go_wp2_with (go_at_call 85; refine c1.mono ?_; rintro e w1 ⟨rfl, rfl⟩)
    go_end0
    exact ⟨rfl, by rw [sortP_nil]; exact hr2.out, ⟨rfl, rfl, rfl, Nat.le_refl _, fun _ _ _ => rfl⟩⟩
  · have c1 := sort_of hl hrow h1 h2 (fun hS => insertS_any g 0 cap (cap * 7) l.length l.toArray w hS (by omega))
    clear hrow hg h3 h4
    go_enter Try.func57, Try.ntmps57
    go_wp2_with (go_at_call 85; refine c1.mono ?_; rintro e w1 ⟨rfl, hr2, hg2⟩)
    go_end0
    exact ⟨rfl, hr2, hg2⟩
theorem sortStable_Q (q : Value) (base : Nat) (v : Value) (l : List Pc) (w : World) (hl : l.length ≤ 19) (hrow : w.ownsRow base 41 7 v l.length (l.flatMap plE.enc)) :
    Calls Try.prog 71 #[v, .func (.func 72) #[q] #[]] w fun e w' => e = .returned (.tuple #[]) ∧ w'.ownsRow base 41 7 v l.length ((sortP l).flatMap plE.enc) ∧ w.grownBy w' v.ownBlock := by
  rcases hrow.2 with ⟨rfl, h0⟩ | ⟨g, cap, cur, rfl, hb, hg, h1, h2, h3, h4⟩
  · obtain rfl := List.eq_nil_of_length_eq_zero h0
    have c1 := stable_any (.slice none 0 0) (.func (.func 72) #[q] #[]) 0 (by omega) w (fun w' => w = w') (insert0_any none 0 0 _ w)
    have hr2 := Lib.hid hrow
    clear hrow h0
    go_enter Try.func71, Try.ntmps71
    go_wp2_with (go_at_call 85; refine c1.mono ?_; rintro e w1 ⟨rfl, rfl⟩)
    go_end0
    exact ⟨rfl, by rw [sortP_nil]; exact hr2.out, ⟨rfl, rfl, rfl, Nat.le_refl _, fun _ _ _ => rfl⟩⟩
  · have c1 := sort_of hl hrow h1 h2 (fun hS => insertQ_any q g 0 cap (cap * 7) l.length l.toArray w hS (by omega))
    clear hrow hg h3 h4
    go_enter Try.func71, Try.ntmps71
    go_wp2_with (go_at_call 85; refine c1.mono ?_; rintro e w1 ⟨rfl, hr2, hg2⟩)
    go_end0
    exact ⟨rfl, hr2, hg2⟩
end Go.Proofs.Ytikojanpbbiaiaa
