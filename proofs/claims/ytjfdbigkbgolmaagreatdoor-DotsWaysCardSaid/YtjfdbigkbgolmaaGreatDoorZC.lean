/-
  Chapter 29: hachureref08.Made, walked: at most six ways, each with two or three points of the small grid.
-/
import Derived.Test.YtjfdbigkbgolmaaGreatDoorZk

namespace Go.Proofs.YtjfdbigkbgolmaaGreatDoor
set_option linter.unusedVariables false
set_option linter.unusedSimpArgs false
open Go.RowKit Go.Shelf
attribute [local go_sem] Oper.semAt_some
attribute [local go_sem ↓] Go.wp_at_zero Go.wp_at_succ

abbrev wyZ : Array Value := #[.int .i64 0, .slice none 0 0, .int .i64 0, .string ⟨#[]⟩, .string ⟨#[]⟩, .bool false, .int .i64 0, .int .i64 0]
/-- what the operations of the region that makes a way leave -/
def FW (n₀ k : Nat) (a : Int) (ob : Option Nat) (ys : List Wy) (i : Nat) (v : Value) (w : World) : Prop :=
  match i with
  | 0 => v = .int .i64 (k : Nat)
  | 1 => v = .int .i64 (1 + (k : Nat))
  | 2 => ∃ B, v = .slice (some ⟨B, 0, none⟩) 4 4 ∧ n₀ < B ∧ Blk w B #[.int .i64 0, .int .i64 0, .int .i64 1, .int .i64 (-1)] 3
  | 3 => v = .pointer (some ⟨n₀, 0, none⟩)
  | 4 => ∃ x : Nat, v = .int .i64 x ∧ x < 4
  | 5 => ∃ B, ∃ x : Nat, v = .pointer (some ⟨B, x, none⟩) ∧ x < 4 ∧ n₀ < B ∧ Blk w B #[.int .i64 0, .int .i64 0, .int .i64 1, .int .i64 (-1)] 3
  | 6 => ∃ x, v = .int .i64 x
  | 7 => v = .pointer (some ⟨n₀, 0, none⟩)
  | 8 => ∃ x, v = .int .i64 x ∧ 0 ≤ x ∧ x < 20
  | 9 => ∃ x, v = .int .i64 x
  | 10 => v = .int .i64 a
  | 11 => ∃ x y, v = .agg #[.int .i64 x, .int .i64 y] ∧ Small (x, y)
  | 12 => ∃ L x y, v = .slice (some ⟨L, 0, none⟩) 1 1 ∧ n₀ < L ∧ Blk w L #[.int .i64 x, .int .i64 y] 25 ∧ Small (x, y) ∧ ∀ y ∈ ys, y.lv.ownBlock ≠ some L
  | 13 => ∃ L x y lvl wt, v = .agg (wyC (1 + (k : Nat)) (.slice (some ⟨L, 0, none⟩) 1 1) lvl wt false) ∧ n₀ < L ∧ Blk w L #[.int .i64 x, .int .i64 y] 25 ∧ Small (x, y) ∧ ∀ y ∈ ys, y.lv.ownBlock ≠ some L
  | 14 => ∃ B, v = .pointer (some ⟨B, 0, none⟩) ∧ n₀ < B ∧ Blk w B wyZ 62 ∧ ob ≠ some B
  | _ => False
def GW (n₀ : Nat) (w w' : World) : Prop := ∃ row, w.grownBy w' row ∧ ∀ r, row = some r → r = n₀
theorem FW.kept {n₀ k : Nat} {a : Int} {ob : Option Nat} {ys : List Wy} {i : Nat} {v : Value} {w w' : World} (h : FW n₀ k a ob ys i v w) (hg : GW n₀ w w') : FW n₀ k a ob ys i v w' := by
  obtain ⟨row, hg, hr⟩ := hg
  have hne : ∀ B, n₀ < B → row ≠ some B := fun B hB e => by have := hr B e; omega
  unfold FW at *
  split at h
  · exact h
  · exact h
  · obtain ⟨B, h1, h2, h3⟩ := h; exact ⟨B, h1, h2, h3.kept hg (hne B h2)⟩
  · exact h
  · exact h
  · obtain ⟨B, x, h1, h2, h3, h4⟩ := h; exact ⟨B, x, h1, h2, h3, h4.kept hg (hne B h3)⟩
  · exact h
  · exact h
  · exact h
  · exact h
  · exact h
  · exact h
  · obtain ⟨B, x, y, h1, h2, h3, h4⟩ := h; exact ⟨B, x, y, h1, h2, h3.kept hg (hne B h2), h4⟩
  · obtain ⟨B, x, y, l, t, h1, h2, h3, h4⟩ := h; exact ⟨B, x, y, l, t, h1, h2, h3.kept hg (hne B h2), h4⟩
  · obtain ⟨B, h1, h2, h3, h4⟩ := h; exact ⟨B, h1, h2, h3.kept hg (hne B h2), h4⟩
  · exact h
theorem GW.refl (n₀ : Nat) (w : World) : GW n₀ w w := ⟨none, grownBy_of_below (Below.refl _ _), by simp⟩
theorem GW.alloc (n₀ : Nat) (w : World) (o : Obj) : GW n₀ w (w.alloc o) := ⟨none, World.grownBy_alloc w o none, by simp⟩

/-- what the operations of the region that appends a corner leave -/
def FX (n₀ B : Nat) (lv : Value) (i : Nat) (v : Value) (w : World) : Prop :=
  match i with
  | 0 => v = .pointer (some ⟨B, 1, none⟩)
  | 1 => v = lv
  | 2 => v = .pointer (some ⟨n₀, 0, none⟩)
  | 3 => ∃ x, v = .int .i64 x ∧ 0 ≤ x ∧ x < 2
  | 4 => ∃ x, v = .int .i64 x ∧ 0 ≤ x ∧ x ≤ 10
  | 5 => ∃ x, v = .int .i64 x ∧ 0 ≤ x ∧ x ≤ 15
  | 6 => v = .pointer (some ⟨n₀, 0, none⟩)
  | 7 => ∃ x, v = .int .i64 x ∧ 0 ≤ x ∧ x < 2
  | 8 => ∃ x, v = .int .i64 x ∧ 0 ≤ x ∧ x ≤ 10
  | 9 => ∃ x, v = .int .i64 x ∧ 0 ≤ x ∧ x ≤ 15
  | 10 => ∃ x y, v = .agg #[.int .i64 x, .int .i64 y] ∧ Small (x, y)
  | 11 => ∃ L x y, v = .slice (some ⟨L, 0, none⟩) 1 1 ∧ n₀ < L ∧ Blk w L #[.int .i64 x, .int .i64 y] 25 ∧ Small (x, y)
  | _ => False
theorem FX.kept {n₀ B : Nat} {lv : Value} {i : Nat} {v : Value} {w w' : World} (h : FX n₀ B lv i v w) (hg : GW n₀ w w') : FX n₀ B lv i v w' := by
  obtain ⟨row, hg, hr⟩ := hg
  unfold FX at *
  split at h
  all_goals first | exact h | (obtain ⟨L, x, y, h1, h2, h3, h4⟩ := h; exact ⟨L, x, y, h1, h2, h3.kept hg (fun e => by have := hr L e; omega), h4⟩)
/-- .. that appends the last point -/
def FY (n₀ B : Nat) (lv : Value) (b : Int) (i : Nat) (v : Value) (w : World) : Prop :=
  match i with
  | 0 => v = .pointer (some ⟨B, 1, none⟩)
  | 1 => v = lv
  | 2 => v = .int .i64 b
  | 3 => ∃ x y, v = .agg #[.int .i64 x, .int .i64 y] ∧ Small (x, y)
  | 4 => ∃ L x y, v = .slice (some ⟨L, 0, none⟩) 1 1 ∧ n₀ < L ∧ Blk w L #[.int .i64 x, .int .i64 y] 25 ∧ Small (x, y)
  | _ => False
theorem FY.kept {n₀ B : Nat} {lv : Value} {b : Int} {i : Nat} {v : Value} {w w' : World} (h : FY n₀ B lv b i v w) (hg : GW n₀ w w') : FY n₀ B lv b i v w' := by
  obtain ⟨row, hg, hr⟩ := hg
  unfold FY at *
  split at h
  all_goals first | exact h | (obtain ⟨L, x, y, h1, h2, h3, h4⟩ := h; exact ⟨L, x, y, h1, h2, h3.kept hg (fun e => by have := hr L e; omega), h4⟩)
theorem MP.lt {n₀ K : Nat} {w W : World} {sv v : Value} {xs : List Int} {ys : List Wy} {B : Nat} {id lvl wt : Int} {lv : Value} {stb : Bool} {ps : List Spot} (h : MP n₀ w sv xs K v ys B id lv lvl wt stb ps W) : n₀ < W.heap.size := h.mr.lt
theorem MP.lvcell {n₀ K : Nat} {w W : World} {sv v : Value} {xs : List Int} {ys : List Wy} {B : Nat} {id lvl wt : Int} {lv : Value} {stb : Bool} {ps : List Spot} (h : MP n₀ w sv xs K v ys B id lv lvl wt stb ps W) : W.cell? ⟨B, 1, none⟩ = some lv := h.box.cell 1
theorem MP.lvslice {n₀ K : Nat} {w W : World} {sv v : Value} {xs : List Int} {ys : List Wy} {B : Nat} {id lvl wt : Int} {lv : Value} {stb : Bool} {ps : List Spot} (h : MP n₀ w sv xs K v ys B id lv lvl wt stb ps W) : ∃ a c, lv = .slice a ps.length c := by
  rcases h.line.2 with ⟨rfl, h0⟩ | ⟨g, cap, cur, rfl, _⟩
  · exact ⟨none, 0, by rw [h0]⟩
  · exact ⟨_, _, rfl⟩
theorem out71 (t : Array Value) (h : t.size = 71) : ∃ x0 x1 x2 x3 x4 x5 x6 x7 x8 x9 x10 x11 x12 x13 x14 x15 x16 x17 x18 x19 x20 x21 x22 x23 x24 x25 x26 x27 x28 x29 x30 x31 x32 x33 x34 x35 x36 x37 x38 x39 x40 x41 x42 x43 x44 x45 x46 x47 x48 x49 x50 x51 x52 x53 x54 x55 x56 x57 x58 x59 x60 x61 x62 x63 x64 x65 x66 x67 x68 x69 x70 : Value, t = #[x0, x1, x2, x3, x4, x5, x6, x7, x8, x9, x10, x11, x12, x13, x14, x15, x16, x17, x18, x19, x20, x21, x22, x23, x24, x25, x26, x27, x28, x29, x30, x31, x32, x33, x34, x35, x36, x37, x38, x39, x40, x41, x42, x43, x44, x45, x46, x47, x48, x49, x50, x51, x52, x53, x54, x55, x56, x57, x58, x59, x60, x61, x62, x63, x64, x65, x66, x67, x68, x69, x70] :=
  ⟨_, _, _, _, _, _, _, _, _, _, _, _, _, _, _, _, _, _, _, _, _, _, _, _, _, _, _, _, _, _, _, _, _, _, _, _, _, _, _, _, _, _, _, _, _, _, _, _, _, _, _, _, _, _, _, _, _, _, _, _, _, _, _, _, _, _, _, _, _, _, _, (array_out t 71 h).trans rfl⟩

theorem wrap_in8 {x : Int} (h0 : -9223372036854775808 ≤ x) (h1 : x ≤ 9223372036854775807) : IntKind.i64.wrap x = x := by
  simp [IntKind.wrap, IntKind.bits, IntKind.signed]
  omega
theorem three_set {n₀ K B L : Nat} {w W : World} {sv v : Value} {xs : List Int} {ys : List Wy} {c cl : Array Value} (h : MR n₀ w sv xs K v ys W ∧ Blk W B c 62 ∧ Blk W L cl 25) (hf : n₀ < B) (hne : v.ownBlock ≠ some B) (hLB : L ≠ B) (i : Nat) (x : Value) :
    MR n₀ w sv xs K v ys (W.setCell ⟨B, i, none⟩ x) ∧ Blk (W.setCell ⟨B, i, none⟩ x) B (c.setIfInBounds i x) 62 ∧ Blk (W.setCell ⟨B, i, none⟩ x) L cl 25 :=
  ⟨h.1.set h.2.1 hf hne i x, h.2.1.set i x, h.2.2.other hLB i x⟩
theorem wayInfo : (Tryz.prog.info? 62).map (fun i => (i.zero, i.size, i.bytes)) = some (some (.agg wyZ), 8, 96) := by kernel_rfl
theorem pointInfo : (Tryz.prog.info? 25).map (fun i => (i.zero, i.size, i.bytes)) = some (some (.agg #[.int .i64 0, .int .i64 0]), 2, 16) := by kernel_rfl

set_option maxRecDepth 100000 in
set_option maxHeartbeats 8000000 in
theorem made8_any (sv : Value) (xs : List Int) (w : World) (hI : Ints w.heap.size w sv xs) :
    Calls Tryz.prog 11 #[sv] w fun e w' => ∃ v ys, e = .returned v ∧ Wys w'.heap.size w' v ys ∧ ys.length ≤ 6 ∧ (∀ y ∈ ys, GoodW y) ∧ Below w.heap.size w w' := by
  obtain ⟨i0, hi0, hz0, hz1, hz2⟩ := info_parts pointInfo
  obtain ⟨i1, hi1, hy0, hy1, hy2⟩ := info_parts wayInfo
  obtain ⟨sa, sc, rfl, -⟩ : ∃ sa sc, sv = .slice sa xs.length sc ∧ True := by obtain ⟨sa, sc, h, -⟩ := hI; exact ⟨sa, sc, h, trivial⟩
  go_enter Tryz.func11, Tryz.ntmps11
  go_wp2_with fail
  have hB0 : Below w.heap.size w (w.alloc (.cells #[.slice sa xs.length sc, .int .i64 0] 66)) := (by repeat' (first | with_reducible exact Below.refl _ _ | with_reducible exact Nat.le_refl _ | with_reducible assumption | with_reducible refine Go.below_growBy' ?_ ?_ _ | with_reducible refine Below.alloc ?_ ?_ _ | with_reducible refine Below.setCell ?_ ?_ _ | with_reducible refine Below.drew ?_ | with_reducible refine Go.le_alloc ?_ | with_reducible refine Go.le_growBy ?_ | with_reducible refine Go.le_setCell ?_ | with_reducible refine Go.le_drew ?_ | omega | (dsimp only; omega)))
  have M0 : MR w.heap.size w (.slice sa xs.length sc) xs 0 (.slice none 0 0) [] (w.alloc (.cells #[.slice sa xs.length sc, .int .i64 0] 66)) :=
    ⟨⟨⟨0, Nat.le_refl _, by simpa using Blk.new w #[.slice sa xs.length sc, .int .i64 0] 66⟩, hB0, hI.below hB0⟩, World.ownsRow_nil _ _ _ _, by simp⟩
  refine (M0.call (by omega) 7 (by omega) (by omega)).mono ?_
  rintro e W1 ⟨many, rfl, b1, b2, M1, g1⟩
  clear M0 g1 hB0 hI
  generalize hn₀ : w.heap.size = n₀ at *
  replace hn₀ := Lib.hid hn₀
  go_wp2_with fail
  go_loopw [4, 6] (fun o k wr => ∃ (j : Nat) (v : Value) (ys : List Wy), o = v ∧ k = .int .i64 j ∧ (j : Int) ≤ many ∧ ys.length = j ∧ (∀ y ∈ ys, GoodW y) ∧ MR n₀ w (.slice sa xs.length sc) xs (1 + 100 * j) v ys wr) (fun _ k _ => 7 - (intOf k).toNat)
  case atStart => exact ⟨0, _, [], rfl, rfl, by omega, rfl, by simp, M1⟩
  case round =>
    obtain ⟨j, v, ys, rfl, rfl, hjm, hlen, hgood, M⟩ := hrel
    by_cases hj : (j : Int) < many
    · go_wp2_with fail
      refine (M.call (by omega) 9 (by omega) (by omega)).mono ?_
      rintro e Wa ⟨a, rfl, a0, a1, Ma, ga⟩
      clear M ga
      go_wp2_with fail
      refine (Ma.call (by omega) 9 (by omega) (by omega)).mono ?_
      rintro e Wb ⟨b, rfl, b0, b1', Mb, gb⟩
      clear Ma gb
      go_wp2_with fail
      go_cut [9] (fun v wx => ∃ (B L : Nat) (x y lvl wt : Int), v = .pointer (some ⟨B, 0, none⟩) ∧ Small (x, y) ∧ MP n₀ w (.slice sa xs.length sc) xs (1 + 100 * j + 20) u4 ys B (1 + (j : Nat)) (.slice (some ⟨L, 0, none⟩) 1 1) lvl wt false [(x, y)] wx)
      case first =>
        refine Go.wp_region_rel 15 (by kernel_rfl) (by kernel_rfl) (fun c W => MR n₀ w (.slice sa xs.length sc) xs (1 + 100 * j + 1 + 1 + c) u4 ys W) (GW n₀) (FW n₀ j a u4.ownBlock ys) (fun _ _ _ _ h g => h.kept g) Mb.drew ?_ ?_
        · intro i o hi ho c bb W hc hM hA hD K hK
          clear Mb hgood
          have hsz := hA.size
          have hdf := hA.defers
          obtain ⟨tm, df⟩ := bb
          obtain ⟨x0, x1, x2, x3, x4, x5, x6, x7, x8, x9, x10, x11, x12, x13, x14, x15, x16, x17, x18, x19, x20, x21, x22, x23, x24, x25, x26, x27, x28, x29, x30, x31, x32, x33, x34, x35, x36, x37, x38, x39, x40, x41, x42, x43, x44, x45, x46, x47, x48, x49, x50, x51, x52, x53, x54, x55, x56, x57, x58, x59, x60, x61, x62, x63, x64, x65, x66, x67, x68, x69, x70, rfl⟩ := out71 tm hsz
          obtain rfl : df = [] := hdf
          obtain rfl : x3 = .pointer (some ⟨n₀, 0, none⟩) := hA.at_ (k := 3) (by kernel_rfl)
          obtain rfl : x6 = .int .i64 (j : Nat) := hA.at_ (k := 6) (by kernel_rfl)
          obtain rfl : x7 = .int .i64 a := hA.at_ (k := 7) (by kernel_rfl)
          clear hA hsz
          have hw1 : IntKind.i64.wrap (1 + (j : Int)) = 1 + (j : Int) := wrap_in8 (by omega) (by omega)
          match i, hi, ho with
          | 0, _, ho =>
            cases ho
            go_simp
            exact hK (.int .i64 (j : Nat)) W rfl (GW.refl _ _) (hM.more (by omega))
          | 1, _, ho =>
            cases ho
            obtain rfl : x24 = .int .i64 (j : Nat) := dep_at hD 0 24 (by kernel_rfl) rfl rfl
            go_simp
            exact hK (.int .i64 (1 + (j : Nat))) W rfl (GW.refl _ _) (hM.more (by omega))
          | 2, _, ho =>
            cases ho
            go_simp
            exact hK (.slice (some ⟨W.heap.size, 0, none⟩) 4 4) _ ⟨_, rfl, hM.lt, Blk.new _ _ _⟩ (GW.alloc _ _ _) ((hM.alloc _).more (by omega))
          | 3, _, ho =>
            cases ho
            go_simp
            exact hK (.pointer (some ⟨n₀, 0, none⟩)) W rfl (GW.refl _ _) (hM.more (by omega))
          | 4, _, ho =>
            cases ho
            obtain rfl : x27 = .pointer (some ⟨n₀, 0, none⟩) := dep_at hD 3 27 (by kernel_rfl) rfl rfl
            go_simp
            refine (hM.call (by omega) 4 (by omega) (by omega)).mono ?_
            rintro e W' ⟨x, rfl, h0, h1, h2, hg⟩
            go_simp
            exact hK (.int .i64 x) W' ⟨x.toNat, by congr 1; omega, by omega⟩ ⟨_, hg, fun r e => by cases e; rfl⟩ h2
          | 5, _, ho =>
            cases ho
            obtain ⟨B, rfl, hB, kB⟩ := (show ∃ B, x26 = .slice (some ⟨B, 0, none⟩) 4 4 ∧ n₀ < B ∧ Blk W B #[.int .i64 0, .int .i64 0, .int .i64 1, .int .i64 (-1)] 3 from dep_at hD 2 26 (by kernel_rfl) rfl rfl)
            obtain ⟨x, rfl, hx⟩ := (show ∃ x : Nat, x28 = .int .i64 x ∧ x < 4 from dep_at hD 4 28 (by kernel_rfl) rfl rfl)
            have hxI : (x : Int) < 4 := by omega
            go_simp
            exact hK (.pointer (some ⟨B, x, none⟩)) W ⟨B, x, rfl, hx, hB, kB⟩ (GW.refl _ _) (hM.more (by omega))
          | 6, _, ho =>
            cases ho
            obtain ⟨B, x, rfl, hx, hB, kB⟩ := (show ∃ B, ∃ x : Nat, x29 = .pointer (some ⟨B, x, none⟩) ∧ x < 4 ∧ n₀ < B ∧ Blk W B #[.int .i64 0, .int .i64 0, .int .i64 1, .int .i64 (-1)] 3 from dep_at hD 5 29 (by kernel_rfl) rfl rfl)
            obtain ⟨y, hy⟩ : ∃ y : Int, W.cell? ⟨B, x, none⟩ = some (.int .i64 y) := by
              match x, hx with
              | 0, _ => exact ⟨_, kB.cell 0⟩
              | 1, _ => exact ⟨_, kB.cell 1⟩
              | 2, _ => exact ⟨_, kB.cell 2⟩
              | 3, _ => exact ⟨_, kB.cell 3⟩
            go_simp
            exact hK (.int .i64 y) W ⟨y, rfl⟩ (GW.refl _ _) (hM.more (by omega))
          | 7, _, ho =>
            cases ho
            go_simp
            exact hK (.pointer (some ⟨n₀, 0, none⟩)) W rfl (GW.refl _ _) (hM.more (by omega))
          | 8, _, ho =>
            cases ho
            obtain rfl : x31 = .pointer (some ⟨n₀, 0, none⟩) := dep_at hD 7 31 (by kernel_rfl) rfl rfl
            go_simp
            refine (hM.call (by omega) 20 (by omega) (by omega)).mono ?_
            rintro e W' ⟨x, rfl, h0, h1, h2, hg⟩
            go_simp
            exact hK (.int .i64 x) W' ⟨x, rfl, h0, h1⟩ ⟨_, hg, fun r e => by cases e; rfl⟩ h2
          | 9, _, ho =>
            cases ho
            obtain ⟨x, rfl, h0, h1⟩ := (show ∃ x, x32 = .int .i64 x ∧ 0 ≤ x ∧ x < 20 from dep_at hD 8 32 (by kernel_rfl) rfl rfl)
            have hw2 : IntKind.i64.wrap (1 + x) = 1 + x := wrap_in8 (by omega) (by omega)
            go_simp
            exact hK (.int .i64 (1 + x)) W ⟨_, rfl⟩ (GW.refl _ _) (hM.more (by omega))
          | 10, _, ho =>
            cases ho
            go_simp
            exact hK (.int .i64 a) W rfl (GW.refl _ _) (hM.more (by omega))
          | 11, _, ho =>
            cases ho
            obtain rfl : x34 = .int .i64 a := dep_at hD 10 34 (by kernel_rfl) rfl rfl
            go_simp
            refine (spot_any a W a0 a1).mono ?_
            rintro e W' ⟨⟨x, y, rfl, hxy⟩, hb⟩
            go_simp
            exact hK (.agg #[.int .i64 x, .int .i64 y]) W' ⟨x, y, rfl, hxy⟩ ⟨none, grownBy_of_below hb, by simp⟩ ((hM.grown (grownBy_of_below hb)).more (by omega))
          | 12, _, ho =>
            cases ho
            obtain ⟨x, y, rfl, hxy⟩ := (show ∃ x y, x35 = .agg #[.int .i64 x, .int .i64 y] ∧ Small (x, y) from dep_at hD 11 35 (by kernel_rfl) rfl rfl)
            go_simp
            exact hK (.slice (some ⟨W.heap.size, 0, none⟩) 1 1) _ ⟨_, x, y, rfl, hM.lt, Blk.new _ _ _, hxy, fun y hy e => Nat.lt_irrefl _ ((hM.lines y hy).lt _ e).2⟩ (GW.alloc _ _ _) ((hM.alloc _).more (by omega))
          | 13, _, ho =>
            cases ho
            obtain rfl : x25 = .int .i64 (1 + (j : Nat)) := dep_at hD 1 25 (by kernel_rfl) rfl rfl
            obtain ⟨lvl, rfl⟩ := (show ∃ x, x30 = .int .i64 x from dep_at hD 6 30 (by kernel_rfl) rfl rfl)
            obtain ⟨wt, rfl⟩ := (show ∃ x, x33 = .int .i64 x from dep_at hD 9 33 (by kernel_rfl) rfl rfl)
            obtain ⟨L, x, y, rfl, hL, kL, hxy, hap⟩ := (show ∃ L x y, x36 = .slice (some ⟨L, 0, none⟩) 1 1 ∧ n₀ < L ∧ Blk W L #[.int .i64 x, .int .i64 y] 25 ∧ Small (x, y) ∧ ∀ y ∈ ys, y.lv.ownBlock ≠ some L from dep_at hD 12 36 (by kernel_rfl) rfl rfl)
            go_simp
            exact hK (.agg (wyC (1 + (j : Nat)) (.slice (some ⟨L, 0, none⟩) 1 1) lvl wt false)) W ⟨L, x, y, lvl, wt, rfl, hL, kL, hxy, hap⟩ (GW.refl _ _) (hM.more (by omega))
          | 14, _, ho =>
            cases ho
            go_simp
            exact hK (.pointer (some ⟨W.heap.size, 0, none⟩)) _ ⟨_, rfl, hM.lt, Blk.new _ _ _, fun e => by have := (hM.row.lt _ e).2; omega⟩ (GW.alloc _ _ _) ((hM.alloc _).more (by omega))
        · intro bb W hM hA hall
          have hsz := hA.size
          have hdf := hA.defers
          obtain ⟨tm, df⟩ := bb
          obtain ⟨x0, x1, x2, x3, x4, x5, x6, x7, x8, x9, x10, x11, x12, x13, x14, x15, x16, x17, x18, x19, x20, x21, x22, x23, x24, x25, x26, x27, x28, x29, x30, x31, x32, x33, x34, x35, x36, x37, x38, x39, x40, x41, x42, x43, x44, x45, x46, x47, x48, x49, x50, x51, x52, x53, x54, x55, x56, x57, x58, x59, x60, x61, x62, x63, x64, x65, x66, x67, x68, x69, x70, rfl⟩ := out71 tm hsz
          obtain rfl : df = [] := hdf
          clear hsz
          obtain ⟨L, x, y, lvl, wt, rfl, hL, kL, hxy, hap⟩ := (show ∃ L x y lvl wt, x37 = .agg (wyC (1 + (j : Nat)) (.slice (some ⟨L, 0, none⟩) 1 1) lvl wt false) ∧ n₀ < L ∧ Blk W L #[.int .i64 x, .int .i64 y] 25 ∧ Small (x, y) ∧ ∀ y ∈ ys, y.lv.ownBlock ≠ some L from hall 13 (by omega) _ _ rfl rfl)
          obtain ⟨B, rfl, hB, kB, hne⟩ := (show ∃ B, x9 = .pointer (some ⟨B, 0, none⟩) ∧ n₀ < B ∧ Blk W B wyZ 62 ∧ u4.ownBlock ≠ some B from hall 14 (by omega) _ _ rfl rfl)
          have hLB : L ≠ B := fun e => by rw [e] at kL; have h := kL.symm.trans kB; cases h
          clear hall
          simp only [List.drop_succ_cons, List.drop_zero]
          have z0 : W.cell? ⟨B, 0, none⟩ = some (.int .i64 0) := kB.cell 0
          have z1 : W.cell? ⟨B, 1, none⟩ = some (.slice none 0 0) := kB.cell 1
          have z2 : W.cell? ⟨B, 2, none⟩ = some (.int .i64 0) := kB.cell 2
          have z3 : W.cell? ⟨B, 3, none⟩ = some (.string ⟨#[]⟩) := kB.cell 3
          have z4 : W.cell? ⟨B, 4, none⟩ = some (.string ⟨#[]⟩) := kB.cell 4
          have z5 : W.cell? ⟨B, 5, none⟩ = some (.bool false) := kB.cell 5
          have z6 : W.cell? ⟨B, 6, none⟩ = some (.int .i64 0) := kB.cell 6
          have z7 : W.cell? ⟨B, 7, none⟩ = some (.int .i64 0) := kB.cell 7
          have f0 := kB.frozen 0
          have f1 := kB.frozen 1
          have f2 := kB.frozen 2
          have f3 := kB.frozen 3
          have f4 := kB.frozen 4
          have f5 := kB.frozen 5
          have f6 := kB.frozen 6
          have f7 := kB.frozen 7
          go_wp2_with fail
          obtain rfl : x3 = .pointer (some ⟨n₀, 0, none⟩) := hA.at_ (k := 3) (by kernel_rfl)
          obtain rfl : x6 = .int .i64 (j : Nat) := hA.at_ (k := 6) (by kernel_rfl)
          obtain rfl := (show x0 = Act.eval _ (.tmp 0) from hA.at_ (k := 0) (by kernel_rfl))
          obtain rfl := (show x1 = Act.eval _ (.tmp 1) from hA.at_ (k := 1) (by kernel_rfl))
          obtain rfl := (show x2 = Act.eval _ (.tmp 2) from hA.at_ (k := 2) (by kernel_rfl))
          obtain rfl := (show x4 = Act.eval _ (.tmp 4) from hA.at_ (k := 4) (by kernel_rfl))
          obtain rfl := (show x5 = Act.eval _ (.tmp 5) from hA.at_ (k := 5) (by kernel_rfl))
          obtain rfl := (show x7 = Act.eval _ (.tmp 7) from hA.at_ (k := 7) (by kernel_rfl))
          obtain rfl := (show x8 = Act.eval _ (.tmp 8) from hA.at_ (k := 8) (by kernel_rfl))
          obtain rfl := (show x10 = Act.eval _ (.tmp 10) from hA.at_ (k := 10) (by kernel_rfl))
          obtain rfl := (show x11 = Act.eval _ (.tmp 11) from hA.at_ (k := 11) (by kernel_rfl))
          obtain rfl := (show x12 = Act.eval _ (.tmp 12) from hA.at_ (k := 12) (by kernel_rfl))
          obtain rfl := (show x13 = Act.eval _ (.tmp 13) from hA.at_ (k := 13) (by kernel_rfl))
          obtain rfl := (show x14 = Act.eval _ (.tmp 14) from hA.at_ (k := 14) (by kernel_rfl))
          obtain rfl := (show x15 = Act.eval _ (.tmp 15) from hA.at_ (k := 15) (by kernel_rfl))
          obtain rfl := (show x16 = Act.eval _ (.tmp 16) from hA.at_ (k := 16) (by kernel_rfl))
          obtain rfl := (show x17 = Act.eval _ (.tmp 17) from hA.at_ (k := 17) (by kernel_rfl))
          obtain rfl := (show x18 = Act.eval _ (.tmp 18) from hA.at_ (k := 18) (by kernel_rfl))
          obtain rfl := (show x19 = Act.eval _ (.tmp 19) from hA.at_ (k := 19) (by kernel_rfl))
          obtain rfl := (show x20 = Act.eval _ (.tmp 20) from hA.at_ (k := 20) (by kernel_rfl))
          obtain rfl := (show x21 = Act.eval _ (.tmp 21) from hA.at_ (k := 21) (by kernel_rfl))
          obtain rfl := (show x22 = Act.eval _ (.tmp 22) from hA.at_ (k := 22) (by kernel_rfl))
          obtain rfl := (show x23 = Act.eval _ (.tmp 23) from hA.at_ (k := 23) (by kernel_rfl))
          obtain rfl := (show x38 = Act.eval _ (.tmp 38) from hA.at_ (k := 38) (by kernel_rfl))
          obtain rfl := (show x39 = Act.eval _ (.tmp 39) from hA.at_ (k := 39) (by kernel_rfl))
          obtain rfl := (show x40 = Act.eval _ (.tmp 40) from hA.at_ (k := 40) (by kernel_rfl))
          obtain rfl := (show x41 = Act.eval _ (.tmp 41) from hA.at_ (k := 41) (by kernel_rfl))
          obtain rfl := (show x42 = Act.eval _ (.tmp 42) from hA.at_ (k := 42) (by kernel_rfl))
          obtain rfl := (show x43 = Act.eval _ (.tmp 43) from hA.at_ (k := 43) (by kernel_rfl))
          obtain rfl := (show x44 = Act.eval _ (.tmp 44) from hA.at_ (k := 44) (by kernel_rfl))
          obtain rfl := (show x45 = Act.eval _ (.tmp 45) from hA.at_ (k := 45) (by kernel_rfl))
          obtain rfl := (show x46 = Act.eval _ (.tmp 46) from hA.at_ (k := 46) (by kernel_rfl))
          obtain rfl := (show x47 = Act.eval _ (.tmp 47) from hA.at_ (k := 47) (by kernel_rfl))
          obtain rfl := (show x48 = Act.eval _ (.tmp 48) from hA.at_ (k := 48) (by kernel_rfl))
          obtain rfl := (show x49 = Act.eval _ (.tmp 49) from hA.at_ (k := 49) (by kernel_rfl))
          obtain rfl := (show x50 = Act.eval _ (.tmp 50) from hA.at_ (k := 50) (by kernel_rfl))
          obtain rfl := (show x51 = Act.eval _ (.tmp 51) from hA.at_ (k := 51) (by kernel_rfl))
          obtain rfl := (show x52 = Act.eval _ (.tmp 52) from hA.at_ (k := 52) (by kernel_rfl))
          obtain rfl := (show x53 = Act.eval _ (.tmp 53) from hA.at_ (k := 53) (by kernel_rfl))
          obtain rfl := (show x54 = Act.eval _ (.tmp 54) from hA.at_ (k := 54) (by kernel_rfl))
          obtain rfl := (show x55 = Act.eval _ (.tmp 55) from hA.at_ (k := 55) (by kernel_rfl))
          obtain rfl := (show x56 = Act.eval _ (.tmp 56) from hA.at_ (k := 56) (by kernel_rfl))
          obtain rfl := (show x57 = Act.eval _ (.tmp 57) from hA.at_ (k := 57) (by kernel_rfl))
          obtain rfl := (show x58 = Act.eval _ (.tmp 58) from hA.at_ (k := 58) (by kernel_rfl))
          obtain rfl := (show x59 = Act.eval _ (.tmp 59) from hA.at_ (k := 59) (by kernel_rfl))
          obtain rfl := (show x60 = Act.eval _ (.tmp 60) from hA.at_ (k := 60) (by kernel_rfl))
          obtain rfl := (show x61 = Act.eval _ (.tmp 61) from hA.at_ (k := 61) (by kernel_rfl))
          obtain rfl := (show x62 = Act.eval _ (.tmp 62) from hA.at_ (k := 62) (by kernel_rfl))
          obtain rfl := (show x63 = Act.eval _ (.tmp 63) from hA.at_ (k := 63) (by kernel_rfl))
          obtain rfl := (show x64 = Act.eval _ (.tmp 64) from hA.at_ (k := 64) (by kernel_rfl))
          obtain rfl := (show x65 = Act.eval _ (.tmp 65) from hA.at_ (k := 65) (by kernel_rfl))
          obtain rfl := (show x66 = Act.eval _ (.tmp 66) from hA.at_ (k := 66) (by kernel_rfl))
          obtain rfl := (show x67 = Act.eval _ (.tmp 67) from hA.at_ (k := 67) (by kernel_rfl))
          obtain rfl := (show x68 = Act.eval _ (.tmp 68) from hA.at_ (k := 68) (by kernel_rfl))
          obtain rfl := (show x69 = Act.eval _ (.tmp 69) from hA.at_ (k := 69) (by kernel_rfl))
          obtain rfl := (show x70 = Act.eval _ (.tmp 70) from hA.at_ (k := 70) (by kernel_rfl))
          go_meet
          obtain ⟨hM8, hB8, hL8⟩ := three_set (three_set (three_set (three_set (three_set (three_set (three_set (three_set ⟨hM, kB, kL⟩ hB hne hLB 0 (.int .i64 (1 + (j : Nat)))) hB hne hLB 1 (.slice (some ⟨L, 0, none⟩) 1 1)) hB hne hLB 2 (.int .i64 lvl)) hB hne hLB 3 pathS) hB hne hLB 4 (.string ⟨#[]⟩)) hB hne hLB 5 (.bool false)) hB hne hLB 6 (.int .i64 wt)) hB hne hLB 7 (.int .i64 1)
          exact ⟨B, L, x, y, lvl, wt, rfl, hxy, ⟨hM8.more (by omega), by simpa using hB8, hB, hne, row_one hL8 hL, fun y hy r e => by cases e; exact hap y hy⟩⟩
      case rest =>
      obtain ⟨B, L, x, y, lvl, wt, rfl, hxy, MP0⟩ := hcut
      clear Mb
      go_upto_if 40 with (first | (go_at_call 22; refine (MP0.call (by omega) 4 (by omega) (by omega)).mono ?_; rintro e Wc ⟨x4, rfl, p0, p1, MP1, -⟩) | fail)
      go_cut [9] (fun v wx => ∃ (lv : Value) (ps : List Spot), v = .pointer (some ⟨B, 0, none⟩) ∧ 1 ≤ ps.length ∧ ps.length ≤ 2 ∧ (∀ p ∈ ps, Small p) ∧ MP n₀ w (.slice sa xs.length sc) xs (1 + 100 * j + 40) u4 ys B (1 + (j : Nat)) lv lvl wt false ps wx)
      case first =>
        clear MP0
        by_cases hx4 : x4 = 0
        · subst hx4
          clear p0 p1
          go_wp2_with fail
          refine Go.wp_region_rel 12 (by kernel_rfl) (by kernel_rfl) (fun c W => MP n₀ w (.slice sa xs.length sc) xs (1 + 100 * j + 20 + 1 + c) u4 ys B (1 + (j : Nat)) (.slice (some ⟨L, 0, none⟩) 1 1) lvl wt false [(x, y)] W) (GW n₀) (FX n₀ B (.slice (some ⟨L, 0, none⟩) 1 1)) (fun _ _ _ _ h g => h.kept g) MP1.drew ?_ ?_
          · intro i o hi ho c bb W hc hM hA hD K hK
            clear MP1 hgood
            have hsz := hA.size
            have hdf := hA.defers
            obtain ⟨tm, df⟩ := bb
            obtain ⟨x0, x1, x2, x3, x4, x5, x6, x7, x8, x9, x10, x11, x12, x13, x14, x15, x16, x17, x18, x19, x20, x21, x22, x23, x24, x25, x26, x27, x28, x29, x30, x31, x32, x33, x34, x35, x36, x37, x38, x39, x40, x41, x42, x43, x44, x45, x46, x47, x48, x49, x50, x51, x52, x53, x54, x55, x56, x57, x58, x59, x60, x61, x62, x63, x64, x65, x66, x67, x68, x69, x70, rfl⟩ := out71 tm hsz
            obtain rfl : df = [] := hdf
            obtain rfl : x3 = .pointer (some ⟨n₀, 0, none⟩) := hA.at_ (k := 3) (by kernel_rfl)
            obtain rfl : x9 = .pointer (some ⟨B, 0, none⟩) := hA.at_ (k := 9) (by kernel_rfl)
            clear hA hsz
            match i, hi, ho with
            | 0, _, ho =>
              cases ho
              go_simp
              exact hK (.pointer (some ⟨B, 1, none⟩)) W rfl (GW.refl _ _) (hM.more (by omega))
            | 1, _, ho =>
              cases ho
              obtain rfl : x41 = .pointer (some ⟨B, 1, none⟩) := dep_at hD 0 41 (by kernel_rfl) rfl rfl
              have z1 := hM.lvcell
              go_simp
              exact hK (.slice (some ⟨L, 0, none⟩) 1 1) W rfl (GW.refl _ _) (hM.more (by omega))
            | 2, _, ho =>
              cases ho
              go_simp
              exact hK (.pointer (some ⟨n₀, 0, none⟩)) W rfl (GW.refl _ _) (hM.more (by omega))
            | 3, _, ho =>
              cases ho
              obtain rfl : x43 = .pointer (some ⟨n₀, 0, none⟩) := dep_at hD 2 43 (by kernel_rfl) rfl rfl
              go_simp
              refine (hM.call (by omega) 2 (by omega) (by omega)).mono ?_
              rintro e W' ⟨t, rfl, h0, h1, h2, hg⟩
              go_simp
              exact hK (.int .i64 t) W' ⟨t, rfl, h0, h1⟩ ⟨_, hg, fun r e => by cases e; rfl⟩ h2
            | 4, _, ho =>
              cases ho
              obtain ⟨t, rfl, h0, h1⟩ := (show ∃ t, x44 = .int .i64 t ∧ 0 ≤ t ∧ t < 2 from dep_at hD 3 44 (by kernel_rfl) rfl rfl)
              have hw2 : IntKind.i64.wrap (10 * t) = 10 * t := wrap_in8 (by omega) (by omega)
              go_simp
              exact hK (.int .i64 (10 * t)) W ⟨_, rfl, by omega, by omega⟩ (GW.refl _ _) (hM.more (by omega))
            | 5, _, ho =>
              cases ho
              obtain ⟨t, rfl, h0, h1⟩ := (show ∃ t, x45 = .int .i64 t ∧ 0 ≤ t ∧ t ≤ 10 from dep_at hD 4 45 (by kernel_rfl) rfl rfl)
              have hw2 : IntKind.i64.wrap (5 + t) = 5 + t := wrap_in8 (by omega) (by omega)
              go_simp
              exact hK (.int .i64 (5 + t)) W ⟨_, rfl, by omega, by omega⟩ (GW.refl _ _) (hM.more (by omega))
            | 6, _, ho =>
              cases ho
              go_simp
              exact hK (.pointer (some ⟨n₀, 0, none⟩)) W rfl (GW.refl _ _) (hM.more (by omega))
            | 7, _, ho =>
              cases ho
              obtain rfl : x47 = .pointer (some ⟨n₀, 0, none⟩) := dep_at hD 6 47 (by kernel_rfl) rfl rfl
              go_simp
              refine (hM.call (by omega) 2 (by omega) (by omega)).mono ?_
              rintro e W' ⟨t, rfl, h0, h1, h2, hg⟩
              go_simp
              exact hK (.int .i64 t) W' ⟨t, rfl, h0, h1⟩ ⟨_, hg, fun r e => by cases e; rfl⟩ h2
            | 8, _, ho =>
              cases ho
              obtain ⟨t, rfl, h0, h1⟩ := (show ∃ t, x48 = .int .i64 t ∧ 0 ≤ t ∧ t < 2 from dep_at hD 7 48 (by kernel_rfl) rfl rfl)
              have hw2 : IntKind.i64.wrap (10 * t) = 10 * t := wrap_in8 (by omega) (by omega)
              go_simp
              exact hK (.int .i64 (10 * t)) W ⟨_, rfl, by omega, by omega⟩ (GW.refl _ _) (hM.more (by omega))
            | 9, _, ho =>
              cases ho
              obtain ⟨t, rfl, h0, h1⟩ := (show ∃ t, x49 = .int .i64 t ∧ 0 ≤ t ∧ t ≤ 10 from dep_at hD 8 49 (by kernel_rfl) rfl rfl)
              have hw2 : IntKind.i64.wrap (5 + t) = 5 + t := wrap_in8 (by omega) (by omega)
              go_simp
              exact hK (.int .i64 (5 + t)) W ⟨_, rfl, by omega, by omega⟩ (GW.refl _ _) (hM.more (by omega))
            | 10, _, ho =>
              cases ho
              obtain ⟨t, rfl, h0, h1⟩ := (show ∃ t, x46 = .int .i64 t ∧ 0 ≤ t ∧ t ≤ 15 from dep_at hD 5 46 (by kernel_rfl) rfl rfl)
              obtain ⟨u, rfl, h2, h3⟩ := (show ∃ t, x50 = .int .i64 t ∧ 0 ≤ t ∧ t ≤ 15 from dep_at hD 9 50 (by kernel_rfl) rfl rfl)
              go_simp
              exact hK (.agg #[.int .i64 t, .int .i64 u]) W ⟨t, u, rfl, h0, by simp only; omega, h2, by simp only; omega⟩ (GW.refl _ _) (hM.more (by omega))
            | 11, _, ho =>
              cases ho
              obtain ⟨t, u, rfl, htu⟩ := (show ∃ x y, x51 = .agg #[.int .i64 x, .int .i64 y] ∧ Small (x, y) from dep_at hD 10 51 (by kernel_rfl) rfl rfl)
              go_simp
              exact hK (.slice (some ⟨W.heap.size, 0, none⟩) 1 1) _ ⟨_, t, u, rfl, hM.lt, Blk.new _ _ _, htu⟩ (GW.alloc _ _ _) ((hM.alloc _).more (by omega))
          · intro bb W hM hA hall
            have hsz := hA.size
            have hdf := hA.defers
            obtain ⟨tm, df⟩ := bb
            obtain ⟨x0, x1, x2, x3, x4, x5, x6, x7, x8, x9, x10, x11, x12, x13, x14, x15, x16, x17, x18, x19, x20, x21, x22, x23, x24, x25, x26, x27, x28, x29, x30, x31, x32, x33, x34, x35, x36, x37, x38, x39, x40, x41, x42, x43, x44, x45, x46, x47, x48, x49, x50, x51, x52, x53, x54, x55, x56, x57, x58, x59, x60, x61, x62, x63, x64, x65, x66, x67, x68, x69, x70, rfl⟩ := out71 tm hsz
            obtain rfl : df = [] := hdf
            clear hsz MP1
            obtain rfl := (show x42 = .slice (some ⟨L, 0, none⟩) 1 1 from hall 1 (by omega) _ _ rfl rfl)
            obtain ⟨P, px, py, rfl, hP, kP, hpxy⟩ := (show ∃ L x y, x52 = .slice (some ⟨L, 0, none⟩) 1 1 ∧ n₀ < L ∧ Blk W L #[.int .i64 x, .int .i64 y] 25 ∧ Small (x, y) from hall 11 (by omega) _ _ rfl rfl)
            clear hall
            obtain rfl := (show x0 = _ from hA.at_ (k := 0) (by kernel_rfl))
            obtain rfl := (show x1 = _ from hA.at_ (k := 1) (by kernel_rfl))
            obtain rfl := (show x2 = _ from hA.at_ (k := 2) (by kernel_rfl))
            obtain rfl := (show x3 = _ from hA.at_ (k := 3) (by kernel_rfl))
            obtain rfl := (show x4 = _ from hA.at_ (k := 4) (by kernel_rfl))
            obtain rfl := (show x5 = _ from hA.at_ (k := 5) (by kernel_rfl))
            obtain rfl := (show x6 = _ from hA.at_ (k := 6) (by kernel_rfl))
            obtain rfl := (show x7 = _ from hA.at_ (k := 7) (by kernel_rfl))
            obtain rfl := (show x8 = _ from hA.at_ (k := 8) (by kernel_rfl))
            obtain rfl := (show x9 = _ from hA.at_ (k := 9) (by kernel_rfl))
            obtain rfl := (show x10 = _ from hA.at_ (k := 10) (by kernel_rfl))
            obtain rfl := (show x11 = _ from hA.at_ (k := 11) (by kernel_rfl))
            obtain rfl := (show x12 = _ from hA.at_ (k := 12) (by kernel_rfl))
            obtain rfl := (show x13 = _ from hA.at_ (k := 13) (by kernel_rfl))
            obtain rfl := (show x14 = _ from hA.at_ (k := 14) (by kernel_rfl))
            obtain rfl := (show x15 = _ from hA.at_ (k := 15) (by kernel_rfl))
            obtain rfl := (show x16 = _ from hA.at_ (k := 16) (by kernel_rfl))
            obtain rfl := (show x17 = _ from hA.at_ (k := 17) (by kernel_rfl))
            obtain rfl := (show x18 = _ from hA.at_ (k := 18) (by kernel_rfl))
            obtain rfl := (show x19 = _ from hA.at_ (k := 19) (by kernel_rfl))
            obtain rfl := (show x20 = _ from hA.at_ (k := 20) (by kernel_rfl))
            obtain rfl := (show x21 = _ from hA.at_ (k := 21) (by kernel_rfl))
            obtain rfl := (show x22 = _ from hA.at_ (k := 22) (by kernel_rfl))
            obtain rfl := (show x23 = _ from hA.at_ (k := 23) (by kernel_rfl))
            obtain rfl := (show x24 = _ from hA.at_ (k := 24) (by kernel_rfl))
            obtain rfl := (show x25 = _ from hA.at_ (k := 25) (by kernel_rfl))
            obtain rfl := (show x26 = _ from hA.at_ (k := 26) (by kernel_rfl))
            obtain rfl := (show x27 = _ from hA.at_ (k := 27) (by kernel_rfl))
            obtain rfl := (show x28 = _ from hA.at_ (k := 28) (by kernel_rfl))
            obtain rfl := (show x29 = _ from hA.at_ (k := 29) (by kernel_rfl))
            obtain rfl := (show x30 = _ from hA.at_ (k := 30) (by kernel_rfl))
            obtain rfl := (show x31 = _ from hA.at_ (k := 31) (by kernel_rfl))
            obtain rfl := (show x32 = _ from hA.at_ (k := 32) (by kernel_rfl))
            obtain rfl := (show x33 = _ from hA.at_ (k := 33) (by kernel_rfl))
            obtain rfl := (show x34 = _ from hA.at_ (k := 34) (by kernel_rfl))
            obtain rfl := (show x35 = _ from hA.at_ (k := 35) (by kernel_rfl))
            obtain rfl := (show x36 = _ from hA.at_ (k := 36) (by kernel_rfl))
            obtain rfl := (show x37 = _ from hA.at_ (k := 37) (by kernel_rfl))
            obtain rfl := (show x38 = _ from hA.at_ (k := 38) (by kernel_rfl))
            obtain rfl := (show x39 = _ from hA.at_ (k := 39) (by kernel_rfl))
            obtain rfl := (show x40 = _ from hA.at_ (k := 40) (by kernel_rfl))
            obtain rfl := (show x54 = _ from hA.at_ (k := 54) (by kernel_rfl))
            obtain rfl := (show x55 = _ from hA.at_ (k := 55) (by kernel_rfl))
            obtain rfl := (show x56 = _ from hA.at_ (k := 56) (by kernel_rfl))
            obtain rfl := (show x57 = _ from hA.at_ (k := 57) (by kernel_rfl))
            obtain rfl := (show x58 = _ from hA.at_ (k := 58) (by kernel_rfl))
            obtain rfl := (show x59 = _ from hA.at_ (k := 59) (by kernel_rfl))
            obtain rfl := (show x60 = _ from hA.at_ (k := 60) (by kernel_rfl))
            obtain rfl := (show x61 = _ from hA.at_ (k := 61) (by kernel_rfl))
            obtain rfl := (show x62 = _ from hA.at_ (k := 62) (by kernel_rfl))
            obtain rfl := (show x63 = _ from hA.at_ (k := 63) (by kernel_rfl))
            obtain rfl := (show x64 = _ from hA.at_ (k := 64) (by kernel_rfl))
            obtain rfl := (show x65 = _ from hA.at_ (k := 65) (by kernel_rfl))
            obtain rfl := (show x66 = _ from hA.at_ (k := 66) (by kernel_rfl))
            obtain rfl := (show x67 = _ from hA.at_ (k := 67) (by kernel_rfl))
            obtain rfl := (show x68 = _ from hA.at_ (k := 68) (by kernel_rfl))
            obtain rfl := (show x69 = _ from hA.at_ (k := 69) (by kernel_rfl))
            obtain rfl := (show x70 = _ from hA.at_ (k := 70) (by kernel_rfl))
            simp only [List.drop_succ_cons, List.drop_zero]
            have hrow := hM.line
            have hle := hM.lt
            go_wp2_with (first | (at_builtin; refine wpList_append_lies _ (by rfl) _ _ _ (by rfl) (n₀ + 1) 25 i0 _ 2 16 Tryz.underlying60 hi0 hz0 hz1 hz2 (by rfl) (by omega) (.slice (some ⟨L, 0, none⟩) 1 1) 1 _ (by rfl) hrow ⟨P, 0, none⟩ 1 1 (encS (px, py)) (by rfl) (by rfl) (blk_news kP) (encS_one _) (by omega) (by unfold maxLen; omega) (by omega) (by omega) _ rfl ?_; intro g cap W2 hown hgrow hat hltg; have kB2 := hM.box.kept hgrow (blk_apart hM.line hM.box (by decide)); have zb := kB2.cell 1; have fb := kB2.frozen 1) | fail)
            go_meet
            exact ⟨_, _, rfl, by simp, by simp, by simpa using ⟨hxy, hpxy⟩, (hM.appended hgrow hown hat).more (by omega)⟩
        · have hne4 : (x4 == 0) = false := by simpa using hx4
          go_wp2_with fail
          go_meet
          exact ⟨_, _, rfl, by simp, by simp, by simpa using hxy, MP1.more (by omega)⟩
      case rest =>
      clear MP0 MP1 hxy p0 p1
      obtain ⟨lv, ps, rfl, q0, q1, hps, MP1⟩ := hcut
      go_wp2_with fail
      go_cut [9] (fun v wx => ∃ (lv : Value) (ps : List Spot), v = .pointer (some ⟨B, 0, none⟩) ∧ 2 ≤ ps.length ∧ ps.length ≤ 3 ∧ (∀ p ∈ ps, Small p) ∧ MP n₀ w (.slice sa xs.length sc) xs (1 + 100 * j + 50) u4 ys B (1 + (j : Nat)) lv lvl wt false ps wx)
      case first =>
        obtain ⟨la, lc, rfl⟩ := MP1.lvslice
        refine Go.wp_region_rel 5 (by kernel_rfl) (by kernel_rfl) (fun c W => MP n₀ w (.slice sa xs.length sc) xs (1 + 100 * j + 40 + c) u4 ys B (1 + (j : Nat)) (.slice la ps.length lc) lvl wt false ps W) (GW n₀) (FY n₀ B (.slice la ps.length lc) b) (fun _ _ _ _ h g => h.kept g) MP1.drew ?_ ?_
        · intro i o hi ho c bb W hc hM hA hD K hK
          clear MP1 hgood hps
          have hsz := hA.size
          have hdf := hA.defers
          obtain ⟨tm, df⟩ := bb
          obtain ⟨x0, x1, x2, x3, x4, x5, x6, x7, x8, x9, x10, x11, x12, x13, x14, x15, x16, x17, x18, x19, x20, x21, x22, x23, x24, x25, x26, x27, x28, x29, x30, x31, x32, x33, x34, x35, x36, x37, x38, x39, x40, x41, x42, x43, x44, x45, x46, x47, x48, x49, x50, x51, x52, x53, x54, x55, x56, x57, x58, x59, x60, x61, x62, x63, x64, x65, x66, x67, x68, x69, x70, rfl⟩ := out71 tm hsz
          obtain rfl : df = [] := hdf
          obtain rfl : x8 = .int .i64 b := hA.at_ (k := 8) (by kernel_rfl)
          obtain rfl : x9 = .pointer (some ⟨B, 0, none⟩) := hA.at_ (k := 9) (by kernel_rfl)
          clear hA hsz
          match i, hi, ho with
          | 0, _, ho =>
            cases ho
            go_simp
            exact hK (.pointer (some ⟨B, 1, none⟩)) W rfl (GW.refl _ _) (hM.more (by omega))
          | 1, _, ho =>
            cases ho
            obtain rfl : x55 = .pointer (some ⟨B, 1, none⟩) := dep_at hD 0 55 (by kernel_rfl) rfl rfl
            have z1 := hM.lvcell
            go_simp
            exact hK (.slice la ps.length lc) W rfl (GW.refl _ _) (hM.more (by omega))
          | 2, _, ho =>
            cases ho
            go_simp
            exact hK (.int .i64 b) W rfl (GW.refl _ _) (hM.more (by omega))
          | 3, _, ho =>
            cases ho
            obtain rfl : x57 = .int .i64 b := dep_at hD 2 57 (by kernel_rfl) rfl rfl
            go_simp
            refine (spot_any b W b0 b1').mono ?_
            rintro e W' ⟨⟨x, y, rfl, hxy⟩, hb⟩
            go_simp
            exact hK (.agg #[.int .i64 x, .int .i64 y]) W' ⟨x, y, rfl, hxy⟩ ⟨none, grownBy_of_below hb, by simp⟩ ((hM.grown (grownBy_of_below hb)).more (by omega))
          | 4, _, ho =>
            cases ho
            obtain ⟨t, u, rfl, htu⟩ := (show ∃ x y, x58 = .agg #[.int .i64 x, .int .i64 y] ∧ Small (x, y) from dep_at hD 3 58 (by kernel_rfl) rfl rfl)
            go_simp
            exact hK (.slice (some ⟨W.heap.size, 0, none⟩) 1 1) _ ⟨_, t, u, rfl, hM.lt, Blk.new _ _ _, htu⟩ (GW.alloc _ _ _) ((hM.alloc _).more (by omega))
        · intro bb W hM hA hall
          have hsz := hA.size
          have hdf := hA.defers
          obtain ⟨tm, df⟩ := bb
          obtain ⟨x0, x1, x2, x3, x4, x5, x6, x7, x8, x9, x10, x11, x12, x13, x14, x15, x16, x17, x18, x19, x20, x21, x22, x23, x24, x25, x26, x27, x28, x29, x30, x31, x32, x33, x34, x35, x36, x37, x38, x39, x40, x41, x42, x43, x44, x45, x46, x47, x48, x49, x50, x51, x52, x53, x54, x55, x56, x57, x58, x59, x60, x61, x62, x63, x64, x65, x66, x67, x68, x69, x70, rfl⟩ := out71 tm hsz
          obtain rfl : df = [] := hdf
          clear hsz MP1
          obtain rfl := (show x56 = .slice la ps.length lc from hall 1 (by omega) _ _ rfl rfl)
          obtain ⟨P, px, py, rfl, hP, kP, hpxy⟩ := (show ∃ L x y, x59 = .slice (some ⟨L, 0, none⟩) 1 1 ∧ n₀ < L ∧ Blk W L #[.int .i64 x, .int .i64 y] 25 ∧ Small (x, y) from hall 4 (by omega) _ _ rfl rfl)
          clear hall
          obtain rfl := (show x0 = _ from hA.at_ (k := 0) (by kernel_rfl))
          obtain rfl := (show x1 = _ from hA.at_ (k := 1) (by kernel_rfl))
          obtain rfl := (show x2 = _ from hA.at_ (k := 2) (by kernel_rfl))
          obtain rfl := (show x3 = _ from hA.at_ (k := 3) (by kernel_rfl))
          obtain rfl := (show x4 = _ from hA.at_ (k := 4) (by kernel_rfl))
          obtain rfl := (show x5 = _ from hA.at_ (k := 5) (by kernel_rfl))
          obtain rfl := (show x6 = _ from hA.at_ (k := 6) (by kernel_rfl))
          obtain rfl := (show x7 = _ from hA.at_ (k := 7) (by kernel_rfl))
          obtain rfl := (show x8 = _ from hA.at_ (k := 8) (by kernel_rfl))
          obtain rfl := (show x9 = _ from hA.at_ (k := 9) (by kernel_rfl))
          obtain rfl := (show x10 = _ from hA.at_ (k := 10) (by kernel_rfl))
          obtain rfl := (show x11 = _ from hA.at_ (k := 11) (by kernel_rfl))
          obtain rfl := (show x12 = _ from hA.at_ (k := 12) (by kernel_rfl))
          obtain rfl := (show x13 = _ from hA.at_ (k := 13) (by kernel_rfl))
          obtain rfl := (show x14 = _ from hA.at_ (k := 14) (by kernel_rfl))
          obtain rfl := (show x15 = _ from hA.at_ (k := 15) (by kernel_rfl))
          obtain rfl := (show x16 = _ from hA.at_ (k := 16) (by kernel_rfl))
          obtain rfl := (show x17 = _ from hA.at_ (k := 17) (by kernel_rfl))
          obtain rfl := (show x18 = _ from hA.at_ (k := 18) (by kernel_rfl))
          obtain rfl := (show x19 = _ from hA.at_ (k := 19) (by kernel_rfl))
          obtain rfl := (show x20 = _ from hA.at_ (k := 20) (by kernel_rfl))
          obtain rfl := (show x21 = _ from hA.at_ (k := 21) (by kernel_rfl))
          obtain rfl := (show x22 = _ from hA.at_ (k := 22) (by kernel_rfl))
          obtain rfl := (show x23 = _ from hA.at_ (k := 23) (by kernel_rfl))
          obtain rfl := (show x24 = _ from hA.at_ (k := 24) (by kernel_rfl))
          obtain rfl := (show x25 = _ from hA.at_ (k := 25) (by kernel_rfl))
          obtain rfl := (show x26 = _ from hA.at_ (k := 26) (by kernel_rfl))
          obtain rfl := (show x27 = _ from hA.at_ (k := 27) (by kernel_rfl))
          obtain rfl := (show x28 = _ from hA.at_ (k := 28) (by kernel_rfl))
          obtain rfl := (show x29 = _ from hA.at_ (k := 29) (by kernel_rfl))
          obtain rfl := (show x30 = _ from hA.at_ (k := 30) (by kernel_rfl))
          obtain rfl := (show x31 = _ from hA.at_ (k := 31) (by kernel_rfl))
          obtain rfl := (show x32 = _ from hA.at_ (k := 32) (by kernel_rfl))
          obtain rfl := (show x33 = _ from hA.at_ (k := 33) (by kernel_rfl))
          obtain rfl := (show x34 = _ from hA.at_ (k := 34) (by kernel_rfl))
          obtain rfl := (show x35 = _ from hA.at_ (k := 35) (by kernel_rfl))
          obtain rfl := (show x36 = _ from hA.at_ (k := 36) (by kernel_rfl))
          obtain rfl := (show x37 = _ from hA.at_ (k := 37) (by kernel_rfl))
          obtain rfl := (show x38 = _ from hA.at_ (k := 38) (by kernel_rfl))
          obtain rfl := (show x39 = _ from hA.at_ (k := 39) (by kernel_rfl))
          obtain rfl := (show x40 = _ from hA.at_ (k := 40) (by kernel_rfl))
          obtain rfl := (show x41 = _ from hA.at_ (k := 41) (by kernel_rfl))
          obtain rfl := (show x42 = _ from hA.at_ (k := 42) (by kernel_rfl))
          obtain rfl := (show x43 = _ from hA.at_ (k := 43) (by kernel_rfl))
          obtain rfl := (show x44 = _ from hA.at_ (k := 44) (by kernel_rfl))
          obtain rfl := (show x45 = _ from hA.at_ (k := 45) (by kernel_rfl))
          obtain rfl := (show x46 = _ from hA.at_ (k := 46) (by kernel_rfl))
          obtain rfl := (show x47 = _ from hA.at_ (k := 47) (by kernel_rfl))
          obtain rfl := (show x48 = _ from hA.at_ (k := 48) (by kernel_rfl))
          obtain rfl := (show x49 = _ from hA.at_ (k := 49) (by kernel_rfl))
          obtain rfl := (show x50 = _ from hA.at_ (k := 50) (by kernel_rfl))
          obtain rfl := (show x51 = _ from hA.at_ (k := 51) (by kernel_rfl))
          obtain rfl := (show x52 = _ from hA.at_ (k := 52) (by kernel_rfl))
          obtain rfl := (show x53 = _ from hA.at_ (k := 53) (by kernel_rfl))
          obtain rfl := (show x54 = _ from hA.at_ (k := 54) (by kernel_rfl))
          obtain rfl := (show x61 = _ from hA.at_ (k := 61) (by kernel_rfl))
          obtain rfl := (show x62 = _ from hA.at_ (k := 62) (by kernel_rfl))
          obtain rfl := (show x63 = _ from hA.at_ (k := 63) (by kernel_rfl))
          obtain rfl := (show x64 = _ from hA.at_ (k := 64) (by kernel_rfl))
          obtain rfl := (show x65 = _ from hA.at_ (k := 65) (by kernel_rfl))
          obtain rfl := (show x66 = _ from hA.at_ (k := 66) (by kernel_rfl))
          obtain rfl := (show x67 = _ from hA.at_ (k := 67) (by kernel_rfl))
          obtain rfl := (show x68 = _ from hA.at_ (k := 68) (by kernel_rfl))
          obtain rfl := (show x69 = _ from hA.at_ (k := 69) (by kernel_rfl))
          obtain rfl := (show x70 = _ from hA.at_ (k := 70) (by kernel_rfl))
          simp only [List.drop_succ_cons, List.drop_zero]
          have hrow := hM.line
          have hle := hM.lt
          go_wp2_with (first | (at_builtin; refine wpList_append_lies _ (by rfl) _ _ _ (by rfl) (n₀ + 1) 25 i0 _ 2 16 Tryz.underlying60 hi0 hz0 hz1 hz2 (by rfl) (by omega) (.slice la ps.length lc) ps.length _ (by rfl) hrow ⟨P, 0, none⟩ 1 1 (encS (px, py)) (by rfl) (by rfl) (blk_news kP) (encS_one _) (by omega) (by unfold maxLen; omega) (by omega) (by omega) _ rfl ?_; intro g cap W2 hown hgrow hat hltg; have kB2 := hM.box.kept hgrow (blk_apart hM.line hM.box (by decide)); have zb := kB2.cell 1; have fb := kB2.frozen 1) | fail)
          go_meet
          exact ⟨_, _, rfl, by simp; omega, by simp; omega, fun p hp => by rcases List.mem_append.1 hp with h | h; exact hps p h; (obtain rfl := List.mem_singleton.1 h; exact hpxy), (hM.appended hgrow hown hat).more (by omega)⟩
      case rest =>
      clear MP1 hps q0 q1
      obtain ⟨lv, ps, rfl, q0, q1, hps, MP1⟩ := hcut
      go_upto_region 13 with (first | (go_at_call 22; refine (MP1.call (by omega) 3 (by omega) (by omega)).mono ?_; rintro e Wd ⟨x5, rfl, p0, p1, MP2, -⟩; have zb := MP2.box.cell 5; have fb := MP2.box.frozen 5) | fail)
      have MP3 := MP2.set (id' := 1 + (j : Nat)) (lvl' := lvl) (wt' := wt) (lv' := lv) (stb' := (x5 == 0)) 5 (.bool (x5 == 0)) (by simp) rfl
      refine wp_world (fun W5 hW5 => ?_)
      rw [← hW5] at MP3
      clear hW5 MP2 MP1 zb fb p0 p1
      generalize (x5 == 0) = sb at *
      have z0 : W5.cell? ⟨B, 0, none⟩ = some (.int .i64 (1 + (j : Nat))) := MP3.box.cell 0
      have z1 : W5.cell? ⟨B, 1, none⟩ = some lv := MP3.box.cell 1
      have z2 : W5.cell? ⟨B, 2, none⟩ = some (.int .i64 lvl) := MP3.box.cell 2
      have z3 : W5.cell? ⟨B, 3, none⟩ = some pathS := MP3.box.cell 3
      have z4 : W5.cell? ⟨B, 4, none⟩ = some (.string ⟨#[]⟩) := MP3.box.cell 4
      have z5 : W5.cell? ⟨B, 5, none⟩ = some (.bool sb) := MP3.box.cell 5
      have z6 : W5.cell? ⟨B, 6, none⟩ = some (.int .i64 wt) := MP3.box.cell 6
      have z7 : W5.cell? ⟨B, 7, none⟩ = some (.int .i64 1) := MP3.box.cell 7
      have hrow := MP3.mr.row
      have hle := MP3.lt
      obtain ⟨la, lc, rfl⟩ := MP3.lvslice
      go_wp2_with (first | (at_builtin; refine wpList_append_lies _ (by rfl) _ _ _ (by rfl) (n₀ + 1) 62 i1 _ 8 96 Tryz.underlying36 hi1 hy0 hy1 hy2 (by rfl) (by omega) u4 ys.length _ (by rfl) (hrow.alloc _) ⟨W5.heap.size, 0, none⟩ 1 1 (wyC (1 + (j : Nat)) (.slice la ps.length lc) lvl wt sb).toList (by rfl) (by rfl) (World.news_of_block (heap_alloc_new _ _)) (by simp [Value.oneCell']) (by omega) (by unfold maxLen; omega) (by omega) (by simp; omega) _ rfl ?_; intro g cap W6 hown hgrow hat hltg) | fail)
      go_roundw
      case rel => exact ⟨j + 1, _, ys ++ [⟨1 + (j : Nat), ps, .slice la ps.length lc, lvl, ⟨#[112, 97, 116, 104]⟩, ⟨#[]⟩, sb, wt, 1⟩], rfl, by go_num, by omega, by rw [List.length_append, hlen]; rfl, fun y hy => by
        rcases List.mem_append.1 hy with h | h
        · exact hgood y h
        · obtain rfl := List.mem_singleton.1 h
          exact ⟨by constructor <;> (try simp only) <;> omega, q1, hps⟩, (by have h9 := (MP3.outed (c := #[]) hgrow hown).more (K' := 1 + 100 * (j + 1)) (by omega); rw [hlen] at h9; exact h9)⟩
      case measure => simp [intOf]; omega
    · go_wp2_with fail
      go_ret
      exact ⟨_, rfl, ys, wys_of_row M.row M.lines, by omega, hgood, by rw [hn₀.out]; exact M.dw.below⟩
end Go.Proofs.YtjfdbigkbgolmaaGreatDoor
