/-
  A law's argument []api.Way, opened: ways whose lines are slices of points.
  The law's few: at most four of any ways, with at most five points.
-/
import Derived.Test.YtjfdbigkbgolmaaGreatDoorZe
import Derived.Test.YtjfdbigkbgolmaaGreatDoorZm
import Derived.Test.YtjfdbigkbgolmaaGreatDoorZu

namespace Go.Proofs.YtjfdbigkbgolmaaGreatDoor
set_option linter.unusedVariables false
set_option linter.unusedSimpArgs false
open Go.RowKit Go.Shelf
section
variable {H : Type} {enc : TypeId × Value → H} {W : World} {base : Nat} {sp : Nat → Bool} {hd : Bool} {v : Value}

theorem ptField : ∃ fs : Array Field, Tryz.prog.underlying 25 = some (.struct fs) ∧ Tryz.prog.cellsOf 25 = fs.size ∧ fs.size = 2 ∧ ∀ (i : Nat) (f : Field), fs[i]? = some f → f.offset = i ∧ Tryz.prog.cellsOf f.type = 1 ∧ Tryz.prog.underlying f.type = some (.int .i64) := by
  refine ⟨_, Tryz.underlying25, by kernel_rfl, rfl, fun i f h => ?_⟩
  match i, h with
  | 0, h => cases Option.some.inj h; exact ⟨rfl, by kernel_rfl, Tryz.underlying3⟩
  | 1, h => cases Option.some.inj h; exact ⟨rfl, by kernel_rfl, Tryz.underlying3⟩
  | i + 2, h => simp at h
/-- a slice of points, as it lies -/
structure PtsC (W : World) (lv : Value) (line : List Spot) : Prop where
  pts : Pts W.heap.size W lv line
  cap : ∃ a cap, lv = .slice a line.length cap ∧ line.length ≤ cap
theorem pts_open {fuel : Nat} {x : DataW H × List MemPlace} (h : DataW.trod enc Tryz.prog W base sp hd fuel 60 [v] = some x) : ∃ line, PtsC W v line := by
  obtain ⟨fs, he, hn, hn2, hf⟩ := ptField
  rcases Go.Deep.open_slice Tryz.underlying60 h with ⟨h1, -⟩ | ⟨a, len, cap, m, n, D, Pl, h1, -, h2, -, h3, -, h4⟩
  · obtain rfl : v = .slice none 0 0 := by simpa using h1
    exact ⟨[], ⟨⟨none, 0, rfl, fun j hj => by simp at hj⟩, none, 0, rfl, by simp⟩⟩
  · obtain rfl : v = .slice (some a) len cap := by simpa using h1
    have hm : len ≤ m := by rw [h3]; split <;> omega
    have each : ∀ i, i < len → ∃ d : Spot, W.cell? ((a.add (i * 2)).add 0) = some (.int .i64 d.1) ∧ W.cell? ((a.add (i * 2)).add 1) = some (.int .i64 d.2) := by
      intro i hi
      obtain ⟨cs', h5, h6⟩ := h4 i (by omega)
      rw [hn, hn2] at h5
      obtain ⟨-, -, h7⟩ := World.cells?_some h5
      obtain ⟨-, h8⟩ := ints_cells he hn hf h6
      rw [hn2] at h8
      obtain ⟨x, x0, x1⟩ := h8 0 (by omega)
      obtain ⟨y, y0, y1⟩ := h8 1 (by omega)
      exact ⟨(x, y), (h7 0 (by omega)).trans x0, (h7 1 (by omega)).trans y0⟩
    obtain ⟨f, hfd⟩ := Go.Deep.choose_lt each
    have hcap : ∃ a' cap', Value.slice (some a) len cap = .slice a' ((List.range len).map f).length cap' ∧ ((List.range len).map f).length ≤ cap' := ⟨some a, cap, by simp, by simpa using h2⟩
    refine ⟨(List.range len).map f, ⟨⟨some a, cap, by simp, fun j hj => ?_⟩, hcap⟩⟩
    have hj' : j < len := by simpa using hj
    obtain ⟨c0, c1⟩ := hfd j hj'
    have hspot : a.spot = none := by
      obtain ⟨d0, -⟩ := hfd 0 (by omega)
      simpa [Addr.add] using World.cell?_spot d0
    obtain ⟨b, off, spot⟩ := a
    simp only at hspot
    subst hspot
    rw [Go.WideShapes.add_plain, Go.WideShapes.add_plain] at c0 c1
    have hg : ((List.range len).map f)[j] = f j := by simp
    rw [hg]
    exact ⟨b, off, rfl, World.block_lt_of_cell? _ _ c0, c0, c1⟩

theorem wyField : ∃ fs : Array Field, Tryz.prog.underlying 62 = some (.struct fs) ∧ Tryz.prog.cellsOf 62 = fs.size ∧ fs.size = 8 ∧ ∀ (i : Nat) (f : Field), fs[i]? = some f → f.offset = i ∧ Tryz.prog.cellsOf f.type = 1 ∧
    ((i = 0 ∨ i = 2 ∨ i = 6 ∨ i = 7) → Tryz.prog.underlying f.type = some (.int .i64)) ∧ (i = 1 → f.type = 60) ∧ ((i = 3 ∨ i = 4) → Tryz.prog.underlying f.type = some .string) ∧ (i = 5 → Tryz.prog.underlying f.type = some .bool) := by
  refine ⟨_, Tryz.underlying62, by kernel_rfl, rfl, fun i f h => ?_⟩
  match i, h with
  | 0, h => cases Option.some.inj h; exact ⟨rfl, by kernel_rfl, fun _ => Tryz.underlying3, by omega, by omega, by omega⟩
  | 1, h => cases Option.some.inj h; exact ⟨rfl, by kernel_rfl, by omega, fun _ => rfl, by omega, by omega⟩
  | 2, h => cases Option.some.inj h; exact ⟨rfl, by kernel_rfl, fun _ => Tryz.underlying3, by omega, by omega, by omega⟩
  | 3, h => cases Option.some.inj h; exact ⟨rfl, by kernel_rfl, by omega, by omega, fun _ => Tryz.underlying9, by omega⟩
  | 4, h => cases Option.some.inj h; exact ⟨rfl, by kernel_rfl, by omega, by omega, fun _ => Tryz.underlying9, by omega⟩
  | 5, h => cases Option.some.inj h; exact ⟨rfl, by kernel_rfl, by omega, by omega, by omega, fun _ => Tryz.underlying4⟩
  | 6, h => cases Option.some.inj h; exact ⟨rfl, by kernel_rfl, fun _ => Tryz.underlying3, by omega, by omega, by omega⟩
  | 7, h => cases Option.some.inj h; exact ⟨rfl, by kernel_rfl, fun _ => Tryz.underlying3, by omega, by omega, by omega⟩
  | i + 8, h => simp at h
/-- one cell of a struct whose fields take one cell each -/
theorem field_cell {e : TypeId} {fs : Array Field} {fuel : Nat} {cs : List Value} {x : DataW H × List MemPlace} (he : Tryz.prog.underlying e = some (.struct fs)) (h : DataW.trod enc Tryz.prog W base sp hd fuel e cs = some x)
    (hn : Tryz.prog.cellsOf e = fs.size) (hf : ∀ (i : Nat) (f : Field), fs[i]? = some f → f.offset = i ∧ Tryz.prog.cellsOf f.type = 1) (i : Nat) (f : Field) (hi : fs[i]? = some f) : ∃ c n y, cs[i]? = some c ∧ DataW.trod enc Tryz.prog W base sp hd n f.type [c] = some y := by
  obtain ⟨xs, n, rfl, -, hl, hxl, hf'⟩ := DataW.trod_struct he h
  obtain ⟨h1, h2⟩ := hf i f hi
  have hlt : i < fs.size := (Array.getElem?_eq_some_iff.1 hi).1
  have h4 := hf' i f hi
  rw [h1, h2, List.getElem?_eq_getElem (by omega : i < xs.length)] at h4
  have hcl : i < cs.length := by omega
  have h5 : (cs.drop i).take 1 = [cs[i]] := by
    rw [List.drop_eq_getElem_cons hcl]
    rfl
  rw [h5] at h4
  exact ⟨_, n, _, List.getElem?_eq_getElem hcl, h4⟩
theorem ways_arg {v : Value} (hv : ∀ cs, v ≠ .agg cs) (h : ∃ d p, DataW.Trod enc Tryz.prog W base sp hd 36 v d p) : ∃ ws : List Wy, Wys W.heap.size W v ws ∧ ∀ y ∈ ws, fits y.id ∧ PtsC W y.lv y.line := by
  obtain ⟨d, p, fuel, h⟩ := h
  have hcs : v.cells.toList = [v] := by cases v <;> first | rfl | exact absurd rfl (hv _)
  rw [hcs] at h
  obtain ⟨fs, he, hn, hn8, hf⟩ := wyField
  have hf2 : ∀ (i : Nat) (f : Field), fs[i]? = some f → f.offset = i ∧ Tryz.prog.cellsOf f.type = 1 := fun i f hi => ⟨(hf i f hi).1, (hf i f hi).2.1⟩
  rcases Go.Deep.open_slice Tryz.underlying36 h with ⟨h1, -⟩ | ⟨a, len, cap, m, n, D, Pl, h1, -, h2, -, h3, -, h4⟩
  · obtain rfl : v = .slice none 0 0 := by simpa using h1
    exact ⟨[], ⟨none, 0, rfl, fun j hj => by simp at hj⟩, by simp⟩
  · obtain rfl : v = .slice (some a) len cap := by simpa using h1
    have hm : len ≤ m := by rw [h3]; split <;> omega
    have each : ∀ i, i < len → ∃ y : Wy, (∀ k, k < 8 → W.cell? ((a.add (i * 8)).add k) = [Value.int .i64 y.id, y.lv, .int .i64 y.lvl, .string y.cls, .string y.nm, .bool y.st, .int .i64 y.wt, .int .i64 y.di][k]?) ∧ fits y.id ∧ PtsC W y.lv y.line := by
      intro i hi
      obtain ⟨cs', h5, h6⟩ := h4 i (by omega)
      rw [hn, hn8] at h5
      obtain ⟨-, -, h7⟩ := World.cells?_some h5
      have get : ∀ k, k < 8 → ∃ f, fs[k]? = some f ∧ ∃ c n y, cs'[k]? = some c ∧ DataW.trod enc Tryz.prog W base sp hd n f.type [c] = some y := fun k hk => by
        have hkf : k < fs.size := by omega
        exact ⟨fs[k], Array.getElem?_eq_getElem hkf, field_cell he h6 hn hf2 k _ (Array.getElem?_eq_getElem hkf)⟩
      obtain ⟨f0, g0, c0, n0, y0, e0, t0⟩ := get 0 (by omega)
      obtain ⟨f1, g1, c1, n1, y1, e1, t1⟩ := get 1 (by omega)
      obtain ⟨f2, g2, c2, n2, y2, e2, t2⟩ := get 2 (by omega)
      obtain ⟨f3, g3, c3, n3, y3, e3, t3⟩ := get 3 (by omega)
      obtain ⟨f4, g4, c4, n4, y4, e4, t4⟩ := get 4 (by omega)
      obtain ⟨f5, g5, c5, n5, y5, e5, t5⟩ := get 5 (by omega)
      obtain ⟨f6, g6, c6, n6, y6, e6, t6⟩ := get 6 (by omega)
      obtain ⟨f7, g7, c7, n7, y7, e7, t7⟩ := get 7 (by omega)
      obtain ⟨id, r0, -, w0⟩ := DataW.trod_int ((hf 0 f0 g0).2.2.1 (by omega)) t0
      rw [(hf 1 f1 g1).2.2.2.1 rfl] at t1
      obtain ⟨line, hline⟩ := pts_open t1
      obtain ⟨lvl, r2, -, -⟩ := DataW.trod_int ((hf 2 f2 g2).2.2.1 (by omega)) t2
      obtain ⟨cls, r3, -, -⟩ := DataW.trod_string ((hf 3 f3 g3).2.2.2.2.1 (by omega)) t3
      obtain ⟨nm, r4, -, -⟩ := DataW.trod_string ((hf 4 f4 g4).2.2.2.2.1 (by omega)) t4
      obtain ⟨st, r5, -⟩ := DataW.trod_bool ((hf 5 f5 g5).2.2.2.2.2 rfl) t5
      obtain ⟨wt, r6, -, -⟩ := DataW.trod_int ((hf 6 f6 g6).2.2.1 (by omega)) t6
      obtain ⟨di, r7, -, -⟩ := DataW.trod_int ((hf 7 f7 g7).2.2.1 (by omega)) t7
      simp only [List.cons.injEq, and_true] at r0 r2 r3 r4 r5 r6 r7
      subst r0 r2 r3 r4 r5 r6 r7
      refine ⟨⟨id, line, c1, lvl, cls, nm, st, wt, di⟩, fun k hk => ?_, lit_fits _ w0, hline⟩
      refine (h7 k (by omega)).trans ?_
      match k, hk with
      | 0, _ => exact e0
      | 1, _ => exact e1
      | 2, _ => exact e2
      | 3, _ => exact e3
      | 4, _ => exact e4
      | 5, _ => exact e5
      | 6, _ => exact e6
      | 7, _ => exact e7
    have inh : Inhabited Wy := ⟨⟨0, [], .bool false, 0, ⟨#[]⟩, ⟨#[]⟩, false, 0, 0⟩⟩
    obtain ⟨f, hfd⟩ := Go.Deep.choose_lt each
    refine ⟨(List.range len).map f, ⟨some a, cap, by simp, fun j hj => ?_⟩, fun y hy => ?_⟩
    · have hj' : j < len := by simpa using hj
      obtain ⟨hc, -, hp⟩ := hfd j hj'
      have hspot : a.spot = none := by
        have d0 := (hfd 0 (by omega)).1 0 (by omega)
        simpa [Addr.add] using World.cell?_spot d0
      obtain ⟨b, off, spot⟩ := a
      simp only at hspot
      subst hspot
      simp only [Go.WideShapes.add_plain] at hc
      have hg : ((List.range len).map f)[j] = f j := by simp
      rw [hg]
      exact ⟨b, off, rfl, World.block_lt_of_cell? _ _ (hc 0 (by omega)), hc 0 (by omega), hc 1 (by omega), hc 2 (by omega), hc 3 (by omega), hc 4 (by omega), hc 5 (by omega), hc 6 (by omega), hc 7 (by omega), hp.pts⟩
    · obtain ⟨j, hj, rfl⟩ := List.mem_map.1 hy
      exact (hfd j (List.mem_range.1 hj)).2
end
end Go.Proofs.YtjfdbigkbgolmaaGreatDoor
namespace Go.Proofs.YtjfdbigkbgolmaaGreatDoor
set_option linter.unusedVariables false
set_option linter.unusedSimpArgs false
open Go.RowKit Go.Shelf Go.Maps Go.Deep
attribute [local go_sem] Oper.semAt_some
attribute [local go_sem ↓] Go.wp_at_zero Go.wp_at_succ

/-- the ways that few has taken -/
structure FewW (w : World) (v : Value) (zs : List Wy) (W : World) : Prop where
  below : Below w.heap.size w W
  row : W.ownsRow w.heap.size 62 8 v zs.length (zs.flatMap Wy.cellL)
  pts : ∀ z ∈ zs, Pts w.heap.size W z.lv z.line
theorem FewW.alloc {w W : World} {v : Value} {zs : List Wy} (h : FewW w v zs W) (o : Obj) : FewW w v zs (W.alloc o) :=
  ⟨h.below.alloc h.below.size _, row_other h.row (World.grownBy_alloc W o none) (by simp), fun z hz => (h.pts z hz).below ((Below.refl _ _).alloc h.below.size _)⟩
theorem FewW.setCell {w W : World} {v : Value} {zs : List Wy} (h : FewW w v zs W) (B i : Nat) (x : Value) (hB : w.heap.size ≤ B) (hne : v.ownBlock ≠ some B) : FewW w v zs (W.setCell ⟨B, i, none⟩ x) :=
  ⟨h.below.setCell (p := ⟨B, i, none⟩) hB x, row_other h.row (setCell_grown0 W B i x) (fun r e => by cases e; exact hne), fun z hz => (h.pts z hz).below ((Below.refl _ _).setCell (p := ⟨B, i, none⟩) hB x)⟩

set_option maxRecDepth 100000 in
set_option maxHeartbeats 8000000 in
theorem few_any (sv : Value) (ws : List Wy) (w : World) (h : Wys w.heap.size w sv ws) (hg : ∀ y ∈ ws, fits y.id ∧ PtsC w y.lv y.line) :
    Calls Tryz.prog 13 #[sv] w fun e w' => ∃ v zs, e = .returned v ∧ Wys w'.heap.size w' v zs ∧ zs.length ≤ 4 ∧ (∀ z ∈ zs, fits z.id ∧ z.line.length ≤ 5) ∧ Below w.heap.size w w' := by
  obtain ⟨i1, hi1, hy0, hy1, hy2⟩ := info_parts wayInfo
  have hsv : ∃ a cap, sv = .slice a ws.length cap := by obtain ⟨a, cap, e, -⟩ := h; exact ⟨a, cap, e⟩
  obtain ⟨a, cap, rfl⟩ := hsv
  go_enter Tryz.func13, Tryz.ntmps13
  go_wp2_with fail
  go_loopw [3, 4] (fun v t wr => ∃ (i : Nat) (zs : List Wy), i ≤ 4 ∧ i ≤ ws.length ∧ t = .int .i64 (i : Nat) ∧ zs.length = i ∧ (∀ z ∈ zs, fits z.id ∧ z.line.length ≤ 5) ∧ FewW w v zs wr) (fun _ t _ => 4 - (intOf t).toNat)
  case atStart => exact ⟨0, [], by omega, Nat.zero_le _, rfl, rfl, by simp, ⟨Below.refl _ _, World.ownsRow_nil _ _ _ _, by simp⟩⟩
  case round =>
    obtain ⟨i, zs, hi4, hi, rfl, hzl, hz, hF⟩ := hrel
    by_cases hlt : i < ws.length
    · have hltI : (i : Int) < (ws.length : Int) := by omega
      by_cases h4 : i < 4
      · have h4I : (i : Int) < 4 := by omega
        obtain ⟨b, off, rfl, hws⟩ := h.at_ (by omega)
        have hy := hws _ hF.below i hlt
        obtain ⟨hid, hpc⟩ := hg _ (List.getElem_mem hlt)
        have hsz := hF.below.size
        obtain ⟨y, hye⟩ : ∃ y, ws[i] = y := ⟨_, rfl⟩
        rw [hye] at hy hid hpc
        obtain ⟨id, line, lv, lvl, cls, nm, stb, wt, di⟩ := y
        obtain ⟨c0, c1, c2, c3, c4, c5, c6, c7, hpt⟩ := hy
        simp only at c0 c1 c2 c3 c4 c5 c6 c7 hpt hid hpc
        obtain ⟨-, la, lcap, rfl, hcap⟩ := hpc
        obtain ⟨m, hm⟩ : ∃ m, min line.length 5 = m := ⟨_, rfl⟩
        have hmI : min (line.length : Int) 5 = (m : Nat) := by omega
        have hm0 : 0 ≤ (m : Int) := by omega
        have hmc : (m : Int) ≤ (lcap : Int) := by omega
        have hmn : m ≤ lcap := by omega
        have hptm : Pts w.heap.size wr (.slice la m lcap) (line.take m) := by
          obtain ⟨a', c', e, hp⟩ := hpt
          simp only [Value.slice.injEq, true_and] at e
          obtain ⟨rfl, rfl⟩ := e
          refine ⟨la, lcap, by rw [List.length_take, Nat.min_eq_left (by omega)], fun j hj => ?_⟩
          rw [List.length_take] at hj
          rw [List.getElem_take]
          exact hp j (by omega)
        have hl5 : (line.take m).length = m := by rw [List.length_take]; omega
        clear hye hpt
        replace hm := Lib.hid hm
        replace hl5 := Lib.hid hl5
        go_upto_region 6 with fail
        have hFa := hF.alloc (.cells #[.int .i64 id, .slice la line.length lcap, .int .i64 lvl, .string cls, .string nm, .bool stb, .int .i64 wt, .int .i64 di] 62)
        have kW := Blk.new wr #[.int .i64 id, .slice la line.length lcap, .int .i64 lvl, .string cls, .string nm, .bool stb, .int .i64 wt, .int .i64 di] 62
        have hne : u3.ownBlock ≠ some wr.heap.size := fun e => by have := (hF.row.lt _ e).2; omega
        have hptm2 : Pts w.heap.size (wr.alloc (.cells #[.int .i64 id, .slice la line.length lcap, .int .i64 lvl, .string cls, .string nm, .bool stb, .int .i64 wt, .int .i64 di] 62)) (.slice la m lcap) (line.take m) := hptm.below ((Below.refl _ _).alloc hsz _)
        obtain ⟨W1, hW1⟩ : ∃ W, (wr.alloc (.cells #[.int .i64 id, .slice la line.length lcap, .int .i64 lvl, .string cls, .string nm, .bool stb, .int .i64 wt, .int .i64 di] 62)) = W := ⟨_, rfl⟩
        rw [hW1] at hFa kW hptm2 ⊢
        clear hW1 c0 c1 c2 c3 c4 c5 c6 c7 hptm hF
        obtain ⟨Bw, hBw⟩ : ∃ b, wr.heap.size = b := ⟨_, rfl⟩
        rw [hBw] at kW hsz hne ⊢
        clear hBw
        have c1 : W1.cell? ⟨Bw, 1, none⟩ = some (.slice la line.length lcap) := kW.cell 1
        have f1 := kW.frozen 1
        go_upto_region 7 with fail
        have hF2 := hFa.setCell Bw 1 (.slice la m lcap) hsz hne
        have kW2 := kW.set 1 (.slice la m lcap)
        have hptm3 : Pts w.heap.size (W1.setCell ⟨Bw, 1, none⟩ (.slice la m lcap)) (.slice la m lcap) (line.take m) := hptm2.below ((Below.refl _ _).setCell (p := ⟨Bw, 1, none⟩) hsz _)
        have hk : #[Value.int .i64 id, .slice la line.length lcap, .int .i64 lvl, .string cls, .string nm, .bool stb, .int .i64 wt, .int .i64 di].setIfInBounds 1 (.slice la m lcap) = (Wy.cells ⟨id, line.take m, .slice la m lcap, lvl, cls, nm, stb, wt, di⟩) := by simp [Wy.cells]
        rw [hk] at kW2
        clear hk
        obtain ⟨W2, hW2⟩ : ∃ W, W1.setCell ⟨Bw, 1, none⟩ (.slice la m lcap) = W := ⟨_, rfl⟩
        rw [hW2] at hF2 kW2 hptm3 ⊢
        clear hW2 hFa kW c1 f1 hptm2
        have z0 : W2.cell? ⟨Bw, 0, none⟩ = some (.int .i64 id) := kW2.cell 0
        have z1 : W2.cell? ⟨Bw, 1, none⟩ = some (.slice la m lcap) := kW2.cell 1
        have z2 : W2.cell? ⟨Bw, 2, none⟩ = some (.int .i64 lvl) := kW2.cell 2
        have z3 : W2.cell? ⟨Bw, 3, none⟩ = some (.string cls) := kW2.cell 3
        have z4 : W2.cell? ⟨Bw, 4, none⟩ = some (.string nm) := kW2.cell 4
        have z5 : W2.cell? ⟨Bw, 5, none⟩ = some (.bool stb) := kW2.cell 5
        have z6 : W2.cell? ⟨Bw, 6, none⟩ = some (.int .i64 wt) := kW2.cell 6
        have z7 : W2.cell? ⟨Bw, 7, none⟩ = some (.int .i64 di) := kW2.cell 7
        have hrow := hF2.row
        have hs2 := hF2.below.size
        go_wp2_with (first | (at_builtin; refine wpList_append_lies _ (by rfl) _ _ _ (by rfl) w.heap.size 62 i1 _ 8 96 Tryz.underlying36 hi1 hy0 hy1 hy2 (by rfl) (by omega) u3 zs.length _ (by rfl) (hrow.alloc _) ⟨W2.heap.size, 0, none⟩ 1 1 (Wy.cellL ⟨id, line.take m, .slice la m lcap, lvl, cls, nm, stb, wt, di⟩) (by rfl) (by rfl) (World.news_of_block (heap_alloc_new _ _)) (by simp [Wy.cellL, Value.oneCell']) (by omega) (by unfold maxLen; omega) (by omega) (by simp; omega) _ rfl ?_; intro g cap2 W6 hown hgrow hat hltg) | fail)
        have hFA := hF2.alloc (.cells (Wy.cellL ⟨id, line.take m, .slice la m lcap, lvl, cls, nm, stb, wt, di⟩).toArray 62)
        have hb6 : Below w.heap.size (W2.alloc (.cells (Wy.cellL ⟨id, line.take m, .slice la m lcap, lvl, cls, nm, stb, wt, di⟩).toArray 62)) W6 := (Below.refl _ _).grown hgrow hFA.below.size (fun r e => (hrow.lt r e).1)
        have hF6 : FewW w (.slice (some ⟨g, 0, none⟩) (zs.length + 1) cap2) (zs ++ [⟨id, line.take m, .slice la m lcap, lvl, cls, nm, stb, wt, di⟩]) W6 := by
          refine ⟨hFA.below.trans hb6, ?_, fun z hz2 => ?_⟩
          · rw [List.length_append, List.flatMap_append]
            simpa using hown
          · rcases List.mem_append.1 hz2 with hz2 | hz2
            · exact (hFA.pts z hz2).below hb6
            · obtain rfl := List.mem_singleton.1 hz2
              exact (hptm3.below ((Below.refl _ _).alloc hs2 _)).below hb6
        go_roundw
        case rel => exact ⟨i + 1, zs ++ [⟨id, line.take m, .slice la m lcap, lvl, cls, nm, stb, wt, di⟩], by omega, by omega, by go_num, by rw [List.length_append, hzl]; rfl, fun z hz2 => by
            rcases List.mem_append.1 hz2 with hz2 | hz2
            · exact hz z hz2
            · obtain rfl := List.mem_singleton.1 hz2
              exact ⟨hid, by have := hl5.out; have := hm.out; show (line.take m).length ≤ 5; omega⟩, (by have h9 := hF6; rw [hzl] at h9; exact h9)⟩
        case measure => simp [intOf]; try omega
      · obtain rfl : i = 4 := by omega
        go_wp2_with fail
        go_ret
        exact ⟨_, zs, rfl, wys_of_pts hF.row (fun z hz => (hF.pts z hz).mono hF.below.size), by omega, hz, hF.below⟩
    · obtain rfl : i = ws.length := by omega
      go_wp2_with fail
      go_ret
      exact ⟨_, zs, rfl, wys_of_pts hF.row (fun z hz => (hF.pts z hz).mono hF.below.size), by omega, hz, hF.below⟩
end Go.Proofs.YtjfdbigkbgolmaaGreatDoor
