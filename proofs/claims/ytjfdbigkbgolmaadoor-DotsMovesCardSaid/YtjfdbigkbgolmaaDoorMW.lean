/-
  Chapter 29: DotsMoves answers true for every argument: the walk.
-/
import Derived.Test.YtjfdbigkbgolmaaDoorMY
import Derived.Test.YtjfdbigkbgolmaaDoorRF
namespace Go.Proofs.YtjfdbigkbgolmaaDoor
set_option linter.unusedVariables false
set_option linter.unusedSimpArgs false
open Go.RowKit Go.Shelf
attribute [local go_sem] Oper.semAt_some
attribute [local go_sem ↓] Go.wp_at_zero Go.wp_at_succ

set_option maxRecDepth 100000 in
theorem out139 (t : Array Value) (h : t.size = 139) : ∃ x0 x1 x2 x3 x4 x5 x6 x7 x8 x9 x10 x11 x12 x13 x14 x15 x16 x17 x18 x19 x20 x21 x22 x23 x24 x25 x26 x27 x28 x29 x30 x31 x32 x33 x34 x35 x36 x37 x38 x39 x40 x41 x42 x43 x44 x45 x46 x47 x48 x49 x50 x51 x52 x53 x54 x55 x56 x57 x58 x59 x60 x61 x62 x63 x64 x65 x66 x67 x68 x69 x70 x71 x72 x73 x74 x75 x76 x77 x78 x79 x80 x81 x82 x83 x84 x85 x86 x87 x88 x89 x90 x91 x92 x93 x94 x95 x96 x97 x98 x99 x100 x101 x102 x103 x104 x105 x106 x107 x108 x109 x110 x111 x112 x113 x114 x115 x116 x117 x118 x119 x120 x121 x122 x123 x124 x125 x126 x127 x128 x129 x130 x131 x132 x133 x134 x135 x136 x137 x138 : Value, t = #[x0, x1, x2, x3, x4, x5, x6, x7, x8, x9, x10, x11, x12, x13, x14, x15, x16, x17, x18, x19, x20, x21, x22, x23, x24, x25, x26, x27, x28, x29, x30, x31, x32, x33, x34, x35, x36, x37, x38, x39, x40, x41, x42, x43, x44, x45, x46, x47, x48, x49, x50, x51, x52, x53, x54, x55, x56, x57, x58, x59, x60, x61, x62, x63, x64, x65, x66, x67, x68, x69, x70, x71, x72, x73, x74, x75, x76, x77, x78, x79, x80, x81, x82, x83, x84, x85, x86, x87, x88, x89, x90, x91, x92, x93, x94, x95, x96, x97, x98, x99, x100, x101, x102, x103, x104, x105, x106, x107, x108, x109, x110, x111, x112, x113, x114, x115, x116, x117, x118, x119, x120, x121, x122, x123, x124, x125, x126, x127, x128, x129, x130, x131, x132, x133, x134, x135, x136, x137, x138] :=
  ⟨_, _, _, _, _, _, _, _, _, _, _, _, _, _, _, _, _, _, _, _, _, _, _, _, _, _, _, _, _, _, _, _, _, _, _, _, _, _, _, _, _, _, _, _, _, _, _, _, _, _, _, _, _, _, _, _, _, _, _, _, _, _, _, _, _, _, _, _, _, _, _, _, _, _, _, _, _, _, _, _, _, _, _, _, _, _, _, _, _, _, _, _, _, _, _, _, _, _, _, _, _, _, _, _, _, _, _, _, _, _, _, _, _, _, _, _, _, _, _, _, _, _, _, _, _, _, _, _, _, _, _, _, _, _, _, _, _, _, _, (array_out t 139 h).trans rfl⟩
/-- what the operations leave that move a point -/
def FZ (base B : Nat) (lvm plv : Value) (pb po k Bd : Nat) (px py dx dz : Int) (i : Nat) (v : Value) (w : World) : Prop :=
  match i with
  | 0 => v = lvm
  | 1 => v = .pointer (some ⟨B, 1, none⟩)
  | 2 => v = plv
  | 3 => v = .int .i64 (k : Nat)
  | 4 => v = .pointer (some ⟨pb, po + k * 2, none⟩)
  | 5 => v = .pointer (some ⟨pb, po + k * 2, none⟩)
  | 6 => v = .int .i64 px
  | 7 => v = .pointer (some ⟨Bd, 0, none⟩)
  | 8 => v = .int .i64 dx
  | 9 => v = .int .i64 (px + dx)
  | 10 => v = .pointer (some ⟨B, 1, none⟩)
  | 11 => v = plv
  | 12 => v = .int .i64 (k : Nat)
  | 13 => v = .pointer (some ⟨pb, po + k * 2, none⟩)
  | 14 => v = .pointer (some ⟨pb, po + k * 2 + 1, none⟩)
  | 15 => v = .int .i64 py
  | 16 => v = .pointer (some ⟨Bd, 1, none⟩)
  | 17 => v = .int .i64 dz
  | 18 => v = .int .i64 (py + dz)
  | 19 => v = .agg #[.int .i64 (px + dx), .int .i64 (py + dz)]
  | 20 => ∃ L, v = .slice (some ⟨L, 0, none⟩) 1 1 ∧ Blk w L #[.int .i64 (px + dx), .int .i64 (py + dz)] 24
  | _ => False
theorem FZ.kept {base B : Nat} {lvm plv : Value} {pb po k Bd : Nat} {px py dx dz : Int} {i : Nat} {v : Value} {w w' : World} (h : FZ base B lvm plv pb po k Bd px py dx dz i v w) (hg : w.grownBy w' none) : FZ base B lvm plv pb po k Bd px py dx dz i v w' := by
  unfold FZ at *
  split at h
  all_goals first | exact h | (obtain ⟨L, h1, h2⟩ := h; exact ⟨L, h1, h2.kept hg (by simp)⟩)
theorem evalAt {b : Act} {k : Nat} {v : Value} (h : b.eval (.tmp k) = v) : b.tmps[k]?.getD undef = v := by
  rw [← h]
  simp [Act.eval]
theorem evalTrue {b : Act} {k : Nat} (h : b.eval (.tmp k) = .bool true) : b.tmps[k]? = some (.bool true) := by
  have h2 := evalAt h
  cases hc : b.tmps[k]? with
  | none => rw [hc] at h2; simp [undef] at h2
  | some v => rw [hc] at h2; simpa using h2
theorem grown_refl (w : World) : w.grownBy w none := grownBy_of_below (Below.refl _ _)

theorem plC7 {W : World} {B : Nat} {a b c f g : Int} {d e : ByteArray} (h : Blk W B #[.int .i64 a, .int .i64 b, .int .i64 c, .string d, .string e, .int .i64 f, .int .i64 g] 50) : W.cell? ⟨B, 0, none⟩ = some (.int .i64 a) ∧ W.cell? ⟨B, 1, none⟩ = some (.int .i64 b) ∧ W.cell? ⟨B, 2, none⟩ = some (.int .i64 c) ∧ W.cell? ⟨B, 3, none⟩ = some (.string d) ∧ W.cell? ⟨B, 4, none⟩ = some (.string e) ∧ W.cell? ⟨B, 5, none⟩ = some (.int .i64 f) ∧ W.cell? ⟨B, 6, none⟩ = some (.int .i64 g) :=
  ⟨h.cell 0, h.cell 1, h.cell 2, h.cell 3, h.cell 4, h.cell 5, h.cell 6⟩
theorem shC6 {W : World} {B : Nat} {a b c d e f : Int} (h : Blk W B #[.int .i64 a, .int .i64 b, .int .i64 c, .int .i64 d, .int .i64 e, .int .i64 f] 26) : W.cell? ⟨B, 0, none⟩ = some (.int .i64 a) ∧ W.cell? ⟨B, 1, none⟩ = some (.int .i64 b) ∧ W.cell? ⟨B, 2, none⟩ = some (.int .i64 c) ∧ W.cell? ⟨B, 3, none⟩ = some (.int .i64 d) ∧ W.cell? ⟨B, 4, none⟩ = some (.int .i64 e) ∧ W.cell? ⟨B, 5, none⟩ = some (.int .i64 f) :=
  ⟨h.cell 0, h.cell 1, h.cell 2, h.cell 3, h.cell 4, h.cell 5⟩

set_option maxRecDepth 100000 in
set_option maxHeartbeats 8000000 in
theorem moves_any (sv mv : Value) (xs ms : List Int) (bx bz : Int) (w : World) (hI : Ints w.heap.size w sv xs) (hM : Ints w.heap.size w mv ms) (fx : fits bx) (fz : fits bz) :
    Calls Tryd.prog 5 #[sv, mv, .agg #[.int .i64 bx, .int .i64 bz]] w fun e w' => e = .returned (.bool true) ∧ Below w.heap.size w w' := by
  have hm := madeF_made xs
  have hmade := fun W (h : Ints W.heap.size W sv xs) => made_any sv xs W h
  have hmade8 := fun W (h : Ints W.heap.size W mv ms) => made8_any mv ms W h
  obtain ⟨s, hse⟩ : ∃ s, madeF xs = s := ⟨_, rfl⟩
  rw [hse] at hm hmade
  clear hse
  obtain ⟨dx, hdx⟩ : ∃ d, bx.tmod 8000 = d := ⟨_, rfl⟩
  obtain ⟨dz, hdz⟩ : ∃ d, bz.tmod 8000 = d := ⟨_, rfl⟩
  have dx0 : -7999 ≤ dx ∧ dx ≤ 7999 := by rw [← hdx]; have h1 := Int.lt_tmod_of_pos bx (b := 8000) (by omega); have h2 := Int.tmod_lt_of_pos bx (b := 8000) (by omega); omega
  have dz0 : -7999 ≤ dz ∧ dz ≤ 7999 := by rw [← hdz]; have h1 := Int.lt_tmod_of_pos bz (b := 8000) (by omega); have h2 := Int.tmod_lt_of_pos bz (b := 8000) (by omega); omega
  obtain ⟨dx0, dx1⟩ := dx0
  obtain ⟨dz0, dz1⟩ := dz0
  have hck := hm.check
  have hck2 := hm.moved (d := (dx, dz)) dx0 dx1 dz0 dz1
  have hm' := hm
  obtain ⟨x0, x1, y0, y1, t0, t1, w0, w1, h0, h1, g0, g1⟩ := hm'
  obtain ⟨ax, ay, st, sw, sh, sg⟩ := s
  simp only at x0 x1 y0 y1 t0 t1 w0 w1 h0 h1 g0 g1
  have wr1 : IntKind.i64.wrap dx = dx := wrap_in9 (by omega) (by omega)
  have wr2 : IntKind.i64.wrap dz = dz := wrap_in9 (by omega) (by omega)
  have wr3 : IntKind.i64.wrap (ax + dx) = ax + dx := wrap_in9 (by omega) (by omega)
  have wr4 : IntKind.i64.wrap (ay + dz) = ay + dz := wrap_in9 (by omega) (by omega)
  have kb := Blk.new w #[.int .i64 bx, .int .i64 bz] 24
  go_enter Tryd.func5, Tryd.ntmps5
  go_upto_region 4 with (first
    | (go_at_call 7; refine (sanity_any _).mono ?_; rintro e w1 ⟨rfl, hb1⟩; replace kb := kb.below hb1 kb.lt; have hB1 : Below w.heap.size w w1 := Below.trans (b := w.alloc (.cells #[.int .i64 bx, .int .i64 bz] 24)) (by repeat' (first | with_reducible exact Below.refl _ _ | with_reducible exact Nat.le_refl _ | with_reducible assumption | with_reducible refine Go.below_growBy' ?_ ?_ _ | with_reducible refine Below.alloc ?_ ?_ _ | with_reducible refine Below.setCell ?_ ?_ _ | with_reducible refine Below.drew ?_ | with_reducible refine Go.le_alloc ?_ | with_reducible refine Go.le_growBy ?_ | with_reducible refine Go.le_setCell ?_ | with_reducible refine Go.le_drew ?_ | omega | (dsimp only; omega))) (hb1.mono (by simp)); clear hb1)
    | (go_at_call 8; with_reducible refine (hmade _ ?_).mono ?_; exact hI.up hB1 hB1.size; rintro e w2 ⟨rfl, hb2⟩; replace kb := kb.below hb2 kb.lt; replace hB1 := hB1.trans (hb2.mono hB1.size); clear hb2)
    | (go_at_call 15; with_reducible refine (hmade8 _ ?_).mono ?_; exact hM.up (hB1.alloc hB1.size _) (by have := hB1.size; simp; omega); rintro e w3 ⟨wv, ws, rfl, hWs, hws6, hgood, hb3⟩)
    | fail)
  have kS := (Blk.new w2 #[.int .i64 ax, .int .i64 ay, .int .i64 st, .int .i64 sw, .int .i64 sh, .int .i64 sg] 26).below hb3 (by simp)
  replace kb := (kb.alloc (.cells #[.int .i64 ax, .int .i64 ay, .int .i64 st, .int .i64 sw, .int .i64 sh, .int .i64 sg] 26)).below hb3 (by have := kb.lt; simp; omega)
  have hB3 : Below w.heap.size w w3 := (hB1.alloc hB1.size _).trans (hb3.mono (by have := hB1.size; simp; omega))
  have hB8 := hB1.size
  clear hb3 hB1 hmade hmade8 hI hM
  obtain ⟨B8, hB8e⟩ : ∃ b, w2.heap.size = b := ⟨_, rfl⟩
  rw [hB8e] at kS hB8 ⊢
  clear hB8e
  obtain ⟨B5, hB5e⟩ : ∃ b, w.heap.size = b := ⟨_, rfl⟩
  rw [hB5e] at kb hB3 hB8 ⊢
  replace hB5e := Lib.hid hB5e
  obtain ⟨c0, c1, c2, c3, c4, c5⟩ := shC6 kS
  have e0 : w3.cell? ⟨B5, 0, none⟩ = some (.int .i64 bx) := kb.cell 0
  have e1 : w3.cell? ⟨B5, 1, none⟩ = some (.int .i64 bz) := kb.cell 1
  have l5 := kb.lt
  have l8 := kS.lt
  obtain ⟨wa, wcap, rfl, hrows⟩ := hWs
  go_wp2_with fail
  have kd := (Blk.new w3 #[.int .i64 dx, .int .i64 dz] 24).alloc (.cells #[.int .i64 (ax + dx), .int .i64 (ay + dz), .int .i64 st, .int .i64 sw, .int .i64 sh, .int .i64 sg] 26)
  have ko := Blk.new (w3.alloc (.cells #[.int .i64 dx, .int .i64 dz] 24)) #[.int .i64 (ax + dx), .int .i64 (ay + dz), .int .i64 st, .int .i64 sw, .int .i64 sh, .int .i64 sg] 26
  rw [World.size_alloc] at ko
  replace kS := (kS.alloc (.cells #[.int .i64 dx, .int .i64 dz] 24)).alloc (.cells #[.int .i64 (ax + dx), .int .i64 (ay + dz), .int .i64 st, .int .i64 sw, .int .i64 sh, .int .i64 sg] 26)
  have hB34 : Below w3.heap.size w3 ((w3.alloc (.cells #[.int .i64 dx, .int .i64 dz] 24)).alloc (.cells #[.int .i64 (ax + dx), .int .i64 (ay + dz), .int .i64 st, .int .i64 sw, .int .i64 sh, .int .i64 sg] 26)) := (by repeat' (first | with_reducible exact Below.refl _ _ | with_reducible exact Nat.le_refl _ | with_reducible assumption | with_reducible refine Go.below_growBy' ?_ ?_ _ | with_reducible refine Below.alloc ?_ ?_ _ | with_reducible refine Below.setCell ?_ ?_ _ | with_reducible refine Below.drew ?_ | with_reducible refine Go.le_alloc ?_ | with_reducible refine Go.le_growBy ?_ | with_reducible refine Go.le_setCell ?_ | with_reducible refine Go.le_drew ?_ | omega | (dsimp only; omega)))
  clear c0 c1 c2 c3 c4 c5 e0 e1 kb
  obtain ⟨W4, hW4⟩ : ∃ W, (w3.alloc (.cells #[.int .i64 dx, .int .i64 dz] 24)).alloc (.cells #[.int .i64 (ax + dx), .int .i64 (ay + dz), .int .i64 st, .int .i64 sw, .int .i64 sh, .int .i64 sg] 26) = W := ⟨_, rfl⟩
  rw [hW4] at kd ko kS hB34 ⊢
  clear hW4
  obtain ⟨Bo, hBo⟩ : ∃ b, w3.heap.size + 1 = b := ⟨_, rfl⟩
  rw [hBo] at ko ⊢
  obtain ⟨Bd, hBd⟩ : ∃ b, w3.heap.size = b := ⟨_, rfl⟩
  rw [hBd] at kd hrows hB34 ⊢
  have hB4 : Below B5 w W4 := hB3.trans (hB34.mono (by rw [← hBd, ← hB5e.out]; exact hB3.size))
  have ld := kd.lt
  have lo := ko.lt
  replace l8 := kS.lt
  have hd0 : ∀ W, Below W4.heap.size W4 W → W.cell? ⟨Bd, 0, none⟩ = some (.int .i64 dx) := fun W h => (kd.below h ld).cell 0
  have hd1 : ∀ W, Below W4.heap.size W4 W → W.cell? ⟨Bd, 1, none⟩ = some (.int .i64 dz) := fun W h => (kd.below h ld).cell 1
  obtain ⟨i0, hi0, hz0, hz1, hz2⟩ := info_parts pointInfo
  obtain ⟨i1, hi1, hy0, hy1, hy2⟩ := info_parts wayInfo
  clear hBo hBd hB3 l5
  go_loopw [12, 13] (fun v i wr => ∃ (t : Nat) (ys : List Wy), t ≤ ws.length ∧ i = .int .i64 ((t : Int) - 1) ∧ ys.map Wy.key = ((ws.drop t).map fun y => moveW (dx, dz) y.key).reverse ∧ LV W4.heap.size W4 v ys wr) (fun _ i _ => (intOf i + 1).toNat)
  case atStart => exact ⟨ws.length, [], Nat.le_refl _, rfl, by simp, Below.refl _ _, World.ownsRow_nil _ _ _ _, by simp⟩
  case round =>
    obtain ⟨t, ys, ht, rfl, hkeys, hV⟩ := hrel
    have hBv := hV.below
    have hle := hBv.size
    by_cases ht0 : 0 < t
    · obtain ⟨k, rfl⟩ : ∃ k, t = k + 1 := ⟨t - 1, by omega⟩
      have hkI : (((k + 1 : Nat) : Int) - 1) = (k : Nat) := by omega
      rw [hkI]
      have hk : k < ws.length := by omega
      have hkLt : (k : Int) < (ws.length : Int) := by omega
      have hk0 : 0 ≤ (k : Int) := by omega
      have hlen : ys.length = ws.length - (k + 1) := by
        have := congrArg List.length hkeys
        simpa using this
      obtain ⟨b, off, rfl, hb, hy⟩ := hrows k hk
      have hBd3 : Below Bd w3 wr := hB34.trans (hBv.mono (by omega))
      have hy' := hy.below hBd3 hb
      have hgy := hgood _ (List.getElem_mem hk)
      have hsn := moved_snoc (dx, dz) ws k hk
      have hpts := hy.pts
      obtain ⟨y, hye⟩ : ∃ y, ws[k] = y := ⟨_, rfl⟩
      rw [hye] at hy' hgy hsn hpts
      clear hye hy
      replace hsn := Lib.hid hsn
      replace hkeys := Lib.hid hkeys
      replace hrows := Lib.hid hrows
      obtain ⟨c0, c1, c2, c3, c4, c5, c6, c7, hP⟩ := hy'
      obtain ⟨pa, pcap, hplv, hpp⟩ := hpts
      have hlenP := hgy.len
      obtain ⟨id, line, plv, lvl, cls, nm, stb, wt, di⟩ := y
      simp only at c0 c1 c2 c3 c4 c5 c6 c7 hplv hpp hlenP
      subst hplv
      go_wp2_with fail
      have hL0 := LP.start hV hle #[.int .i64 id, .slice pa line.length pcap, .int .i64 lvl, .string cls, .string nm, .bool stb, .int .i64 wt, .int .i64 di]
      clear c0 c1 c2 c3 c4 c5 c6 c7 hP hBd3 hBv
      obtain ⟨B, hBe⟩ : ∃ b, wr.heap.size = b := ⟨_, rfl⟩
      rw [hBe] at hL0 hle ⊢
      clear hBe hV
      go_loopw [15, 16] (fun lv i W => ∃ n : Nat, n ≤ line.length ∧ i = .int .i64 (n : Nat) ∧ LP W4.heap.size W4 u12 ys B #[.int .i64 id, .slice pa line.length pcap, .int .i64 lvl, .string cls, .string nm, .bool stb, .int .i64 wt, .int .i64 di] lv ((line.take n).map (moveP (dx, dz))) W) (fun _ i _ => line.length - (intOf i).toNat)
      case atStart => exact ⟨0, Nat.zero_le _, rfl, by simpa using hL0⟩
      case round =>
        clear hL0
        obtain ⟨n, hn, rfl, hM⟩ := hrel
        by_cases hlt : n < line.length
        · have hltI : (n : Int) < (line.length : Int) := by omega
          obtain ⟨pb, po, rfl, hpb, hq0, hq1⟩ := hpp n hlt
          have hsm := hgy.small _ (List.getElem_mem hlt)
          have htk := take_move (dx, dz) line n hlt
          obtain ⟨ps, hps⟩ : ∃ ps, (line.take n).map (moveP (dx, dz)) = ps := ⟨_, rfl⟩
          have hpl : ps.length = n := by rw [← hps]; simp; omega
          rw [hps] at htk hM
          obtain ⟨⟨px, py⟩, hpe⟩ : ∃ p, line[n] = p := ⟨_, rfl⟩
          rw [hpe] at hsm htk hq0 hq1
          obtain ⟨p0, p1, p2, p3⟩ := hsm
          simp only at p0 p1 p2 p3 hq0 hq1
          replace htk := Lib.hid htk
          clear hpe hps
          have hpx : ∀ W, Below W4.heap.size W4 W → W.cell? ⟨pb, po + n * 2, none⟩ = some (.int .i64 px) := fun W h => ((hB34.trans (h.mono (by omega))).cell (p := ⟨pb, po + n * 2, none⟩) hpb).trans hq0
          have hpy : ∀ W, Below W4.heap.size W4 W → W.cell? ⟨pb, po + n * 2 + 1, none⟩ = some (.int .i64 py) := fun W h => ((hB34.trans (h.mono (by omega))).cell (p := ⟨pb, po + n * 2 + 1, none⟩) hpb).trans hq1
          have wp1 : IntKind.i64.wrap (px + dx) = px + dx := wrap_in9 (by omega) (by omega)
          have wp2 : IntKind.i64.wrap (py + dz) = py + dz := wrap_in9 (by omega) (by omega)
          have z1 : wr.cell? ⟨B, 1, none⟩ = some (.slice (some ⟨pb, po, none⟩) line.length pcap) := hM.box.cell 1
          clear hq0 hq1
          replace hpp := Lib.hid hpp
          go_wp2_with fail
          refine Go.wp_region_rel 21 (by kernel_rfl) (by kernel_rfl) (fun _ W => LP W4.heap.size W4 u12 ys B #[.int .i64 id, .slice (some ⟨pb, po, none⟩) line.length pcap, .int .i64 lvl, .string cls, .string nm, .bool stb, .int .i64 wt, .int .i64 di] u15 ps W) (fun w w' => w.grownBy w' none) (FZ W4.heap.size B u15 (.slice (some ⟨pb, po, none⟩) line.length pcap) pb po n Bd px py dx dz) (fun _ _ _ _ h g => h.kept g) hM.drew ?_ ?_
          · clear hM z1 hkeys hrows hpp hsn hgood hgy kd ko kS hB4 hB34
            intro i o hi ho c bb W hc hM hA hD K hK
            have f10 : bb.tmps[10]?.getD undef = .pointer (some ⟨Bd, 0, none⟩) := evalAt (v := .pointer (some ⟨Bd, 0, none⟩)) (hA.at_ (k := 10) (by kernel_rfl))
            have f14 : bb.tmps[14]?.getD undef = .pointer (some ⟨B, 0, none⟩) := evalAt (v := .pointer (some ⟨B, 0, none⟩)) (hA.at_ (k := 14) (by kernel_rfl))
            have f15 : bb.tmps[15]?.getD undef = u15 := evalAt (v := u15) (hA.at_ (k := 15) (by kernel_rfl))
            have f16 : bb.tmps[16]?.getD undef = .int .i64 (n : Nat) := evalAt (v := .int .i64 (n : Nat)) (hA.at_ (k := 16) (by kernel_rfl))
            clear hA
            match i, hi, ho with
          | 0, _, ho =>
            cases ho
            go_simp
            exact hK u15 W rfl (grown_refl _) hM
          | 1, _, ho =>
            cases ho
            go_simp
            exact hK (.pointer (some ⟨B, 1, none⟩)) W rfl (grown_refl _) hM
          | 2, _, ho =>
            cases ho
            have f69 : bb.tmps[69]?.getD undef = .pointer (some ⟨B, 1, none⟩) := evalAt (v := .pointer (some ⟨B, 1, none⟩)) (dep_at hD 1 69 (by kernel_rfl) rfl rfl)
            have z1 : W.cell? ⟨B, 1, none⟩ = some (.slice (some ⟨pb, po, none⟩) line.length pcap) := hM.box.cell 1
            go_simp
            exact hK (.slice (some ⟨pb, po, none⟩) line.length pcap) W rfl (grown_refl _) hM
          | 3, _, ho =>
            cases ho
            go_simp
            exact hK (.int .i64 (n : Nat)) W rfl (grown_refl _) hM
          | 4, _, ho =>
            cases ho
            have f70 : bb.tmps[70]?.getD undef = .slice (some ⟨pb, po, none⟩) line.length pcap := evalAt (v := .slice (some ⟨pb, po, none⟩) line.length pcap) (dep_at hD 2 70 (by kernel_rfl) rfl rfl)
            have f71 : bb.tmps[71]?.getD undef = .int .i64 (n : Nat) := evalAt (v := .int .i64 (n : Nat)) (dep_at hD 3 71 (by kernel_rfl) rfl rfl)
            go_simp
            exact hK (.pointer (some ⟨pb, po + n * 2, none⟩)) W rfl (grown_refl _) hM
          | 5, _, ho =>
            cases ho
            have f72 : bb.tmps[72]?.getD undef = .pointer (some ⟨pb, po + n * 2, none⟩) := evalAt (v := .pointer (some ⟨pb, po + n * 2, none⟩)) (dep_at hD 4 72 (by kernel_rfl) rfl rfl)
            go_simp
            exact hK (.pointer (some ⟨pb, po + n * 2, none⟩)) W rfl (grown_refl _) hM
          | 6, _, ho =>
            cases ho
            have f73 : bb.tmps[73]?.getD undef = .pointer (some ⟨pb, po + n * 2, none⟩) := evalAt (v := .pointer (some ⟨pb, po + n * 2, none⟩)) (dep_at hD 5 73 (by kernel_rfl) rfl rfl)
            have z1 := hpx W hM.ways.below
            go_simp
            exact hK (.int .i64 px) W rfl (grown_refl _) hM
          | 7, _, ho =>
            cases ho
            go_simp
            exact hK (.pointer (some ⟨Bd, 0, none⟩)) W rfl (grown_refl _) hM
          | 8, _, ho =>
            cases ho
            have f75 : bb.tmps[75]?.getD undef = .pointer (some ⟨Bd, 0, none⟩) := evalAt (v := .pointer (some ⟨Bd, 0, none⟩)) (dep_at hD 7 75 (by kernel_rfl) rfl rfl)
            have z1 := hd0 W hM.ways.below
            go_simp
            exact hK (.int .i64 dx) W rfl (grown_refl _) hM
          | 9, _, ho =>
            cases ho
            have f74 : bb.tmps[74]?.getD undef = .int .i64 px := evalAt (v := .int .i64 px) (dep_at hD 6 74 (by kernel_rfl) rfl rfl)
            have f76 : bb.tmps[76]?.getD undef = .int .i64 dx := evalAt (v := .int .i64 dx) (dep_at hD 8 76 (by kernel_rfl) rfl rfl)
            go_simp
            exact hK (.int .i64 (px + dx)) W rfl (grown_refl _) hM
          | 10, _, ho =>
            cases ho
            go_simp
            exact hK (.pointer (some ⟨B, 1, none⟩)) W rfl (grown_refl _) hM
          | 11, _, ho =>
            cases ho
            have f78 : bb.tmps[78]?.getD undef = .pointer (some ⟨B, 1, none⟩) := evalAt (v := .pointer (some ⟨B, 1, none⟩)) (dep_at hD 10 78 (by kernel_rfl) rfl rfl)
            have z1 : W.cell? ⟨B, 1, none⟩ = some (.slice (some ⟨pb, po, none⟩) line.length pcap) := hM.box.cell 1
            go_simp
            exact hK (.slice (some ⟨pb, po, none⟩) line.length pcap) W rfl (grown_refl _) hM
          | 12, _, ho =>
            cases ho
            go_simp
            exact hK (.int .i64 (n : Nat)) W rfl (grown_refl _) hM
          | 13, _, ho =>
            cases ho
            have f79 : bb.tmps[79]?.getD undef = .slice (some ⟨pb, po, none⟩) line.length pcap := evalAt (v := .slice (some ⟨pb, po, none⟩) line.length pcap) (dep_at hD 11 79 (by kernel_rfl) rfl rfl)
            have f80 : bb.tmps[80]?.getD undef = .int .i64 (n : Nat) := evalAt (v := .int .i64 (n : Nat)) (dep_at hD 12 80 (by kernel_rfl) rfl rfl)
            go_simp
            exact hK (.pointer (some ⟨pb, po + n * 2, none⟩)) W rfl (grown_refl _) hM
          | 14, _, ho =>
            cases ho
            have f81 : bb.tmps[81]?.getD undef = .pointer (some ⟨pb, po + n * 2, none⟩) := evalAt (v := .pointer (some ⟨pb, po + n * 2, none⟩)) (dep_at hD 13 81 (by kernel_rfl) rfl rfl)
            go_simp
            exact hK (.pointer (some ⟨pb, po + n * 2 + 1, none⟩)) W rfl (grown_refl _) hM
          | 15, _, ho =>
            cases ho
            have f82 : bb.tmps[82]?.getD undef = .pointer (some ⟨pb, po + n * 2 + 1, none⟩) := evalAt (v := .pointer (some ⟨pb, po + n * 2 + 1, none⟩)) (dep_at hD 14 82 (by kernel_rfl) rfl rfl)
            have z1 := hpy W hM.ways.below
            go_simp
            exact hK (.int .i64 py) W rfl (grown_refl _) hM
          | 16, _, ho =>
            cases ho
            go_simp
            exact hK (.pointer (some ⟨Bd, 1, none⟩)) W rfl (grown_refl _) hM
          | 17, _, ho =>
            cases ho
            have f84 : bb.tmps[84]?.getD undef = .pointer (some ⟨Bd, 1, none⟩) := evalAt (v := .pointer (some ⟨Bd, 1, none⟩)) (dep_at hD 16 84 (by kernel_rfl) rfl rfl)
            have z1 := hd1 W hM.ways.below
            go_simp
            exact hK (.int .i64 dz) W rfl (grown_refl _) hM
          | 18, _, ho =>
            cases ho
            have f83 : bb.tmps[83]?.getD undef = .int .i64 py := evalAt (v := .int .i64 py) (dep_at hD 15 83 (by kernel_rfl) rfl rfl)
            have f85 : bb.tmps[85]?.getD undef = .int .i64 dz := evalAt (v := .int .i64 dz) (dep_at hD 17 85 (by kernel_rfl) rfl rfl)
            go_simp
            exact hK (.int .i64 (py + dz)) W rfl (grown_refl _) hM
          | 19, _, ho =>
            cases ho
            have f77 : bb.tmps[77]?.getD undef = .int .i64 (px + dx) := evalAt (v := .int .i64 (px + dx)) (dep_at hD 9 77 (by kernel_rfl) rfl rfl)
            have f86 : bb.tmps[86]?.getD undef = .int .i64 (py + dz) := evalAt (v := .int .i64 (py + dz)) (dep_at hD 18 86 (by kernel_rfl) rfl rfl)
            go_simp
            exact hK (.agg #[.int .i64 (px + dx), .int .i64 (py + dz)]) W rfl (grown_refl _) hM
          | 20, _, ho =>
            cases ho
            have f87 : bb.tmps[87]?.getD undef = .agg #[.int .i64 (px + dx), .int .i64 (py + dz)] := evalAt (v := .agg #[.int .i64 (px + dx), .int .i64 (py + dz)]) (dep_at hD 19 87 (by kernel_rfl) rfl rfl)
            go_simp
            exact hK (.slice (some ⟨W.heap.size, 0, none⟩) 1 1) _ ⟨_, rfl, Blk.new _ _ _⟩ (World.grownBy_alloc W _ none) (hM.alloc _)
            | i + 21, hi, _ => exact absurd hi (by omega)
          · intro bb W hM hA hall
            obtain ⟨P, hP20, kP⟩ := (show ∃ L, bb.eval (.tmp 88) = .slice (some ⟨L, 0, none⟩) 1 1 ∧ Blk W L #[.int .i64 (px + dx), .int .i64 (py + dz)] 24 from hall 20 (by omega) _ _ rfl rfl)
            have hP0 : bb.eval (.tmp 68) = u15 := hall 0 (by omega) _ _ rfl rfl
            have hfr := hA.frame [true, true, true, true, true, true, true, true, true, true, true, true, true, true, true, true, true, true, true, true, true, true, true, true, true, true, true, true, true, true, true, true, true, true, true, true, true, true, true, true, true, true, true, true, true, true, true, true, true, true, true, true, true, true, true, true, true, true, true, true, true, true, true, true, true, true, true, true, false, false, false, false, false, false, false, false, false, false, false, false, false, false, false, false, false, false, false, false, false, true, true, true, true, true, true, true, true, true, true, true, true, true, true, true, true, true, true, true, true, true, true, true, true, true, true, true, true, true, true, true, true, true, true, true, true, true, true, true, true, true, true, true, true, true, true, true, true, true, true] _ rfl (by kernel_rfl)
            clear hall hA
            obtain ⟨f, hf⟩ : ∃ f : Nat → Value, (fun k => bb.tmps.getD k undef) = f := ⟨_, rfl⟩
            have g68 : f 68 = u15 := by rw [← hf, ← hP0]; rfl
            have g88 : f 88 = .slice (some ⟨P, 0, none⟩) 1 1 := by rw [← hf, ← hP20]; rfl
            rw [hf] at hfr
            clear hf hP0 hP20
            subst hfr
            simp only [pickL, g68, g88, Nat.reduceAdd]
            clear g68 g88 z1
            simp only [List.drop_succ_cons, List.drop_zero]
            have hrow := hM.line
            have hle2 := hM.le
            go_wp2_with (first | (at_builtin; refine wpList_append_lies _ (by rfl) _ _ _ (by rfl) W4.heap.size 24 i0 _ 2 16 Tryd.underlying40 hi0 hz0 hz1 hz2 (by rfl) (by omega) u15 ps.length _ (by rfl) hrow ⟨P, 0, none⟩ 1 1 (encS (px + dx, py + dz)) (by rfl) (by rfl) (blk_news kP) (encS_one _) (by omega) (by unfold maxLen; omega) (by omega) hle2 _ rfl ?_; intro g cap W2 hown hgrow hat hltg) | fail)
            go_roundw
            case rel => exact ⟨n + 1, by omega, by go_num, by rw [htk.out]; have h9 := hM.appended hgrow hown hat; rw [hpl] at h9; exact h9⟩
            case measure => simp [intOf]; omega
        · obtain rfl : n = line.length := by omega
          rw [List.take_length] at hM
          clear hlt hn
          have z1 : wr.cell? ⟨B, 1, none⟩ = some (.slice pa line.length pcap) := hM.box.cell 1
          have zf := hM.box.frozen 1
          obtain ⟨qa, qc, rfl⟩ := hM.lvslice
          rw [List.length_map] at hM ⊢
          go_upto_region 18 with fail
          have hM2 := hM.set 1 (.slice qa line.length qc)
          refine wp_world (fun W5 hW5 => ?_)
          rw [← hW5] at hM2
          clear hW5 hM z1 zf
          have z0 : W5.cell? ⟨B, 0, none⟩ = some (.int .i64 id) := hM2.box.cell 0
          have z1 : W5.cell? ⟨B, 1, none⟩ = some (.slice qa line.length qc) := hM2.box.cell 1
          have z2 : W5.cell? ⟨B, 2, none⟩ = some (.int .i64 lvl) := hM2.box.cell 2
          have z3 : W5.cell? ⟨B, 3, none⟩ = some (.string cls) := hM2.box.cell 3
          have z4 : W5.cell? ⟨B, 4, none⟩ = some (.string nm) := hM2.box.cell 4
          have z5 : W5.cell? ⟨B, 5, none⟩ = some (.bool stb) := hM2.box.cell 5
          have z6 : W5.cell? ⟨B, 6, none⟩ = some (.int .i64 wt) := hM2.box.cell 6
          have z7 : W5.cell? ⟨B, 7, none⟩ = some (.int .i64 di) := hM2.box.cell 7
          have hrow := hM2.ways.row
          have hle2 := hM2.le
          have hwk : IntKind.i64.wrap ((k : Int) - 1) = (k : Int) - 1 := wrap_in9 (by omega) (by omega)
          have hyl : ys.length ≤ 6 := by omega
          clear hpp hgy hlenP hlen
          go_wp2_with (first | (at_builtin; refine wpList_append_lies _ (by rfl) _ _ _ (by rfl) W4.heap.size 42 i1 _ 8 96 Tryd.underlying43 hi1 hy0 hy1 hy2 (by rfl) (by omega) u12 ys.length _ (by rfl) (hrow.alloc _) ⟨W5.heap.size, 0, none⟩ 1 1 (Wy.cellL ⟨id, line.map (moveP (dx, dz)), .slice qa line.length qc, lvl, cls, nm, stb, wt, di⟩) (by rfl) (by rfl) (World.news_of_block (heap_alloc_new _ _)) (by simp [Wy.cellL, Value.oneCell']) (by omega) (by unfold maxLen; omega) (by omega) (by simp; omega) _ rfl ?_; intro g cap W6 hown hgrow hat hltg) | fail)
          go_roundw
          case rel => exact ⟨k, ys ++ [⟨id, line.map (moveP (dx, dz)), .slice qa line.length qc, lvl, cls, nm, stb, wt, di⟩], by omega, rfl, by rw [hsn.out, List.map_append, hkeys.out]; rfl, hM2.outed hgrow rfl rfl hown⟩
          case measure => simp [intOf]
    · obtain rfl : t = 0 := by omega
      have hmd := moved_dots (s := ⟨ax, ay, st, sw, sh, sg⟩) hkeys hgood dx0 dx1 dz0 dz1
      have hmg := moved_good hkeys hgood
      have hyl : ys.length = ws.length := by simpa using congrArg List.length hkeys
      have hWm := wys_of_row hV.row hV.lines
      have hWw : Wys wr.heap.size wr (.slice wa ws.length wcap) ws := ((show Wys Bd w3 (.slice wa ws.length wcap) ws from ⟨wa, wcap, rfl, hrows⟩).below (hB34.trans (hBv.mono (by omega)))).mono (by omega)
      have hBw : Below B5 w wr := hB4.trans (hBv.mono (by rw [← hB5e.out]; exact hB4.size))
      replace kd := kd.below hBv ld
      replace ko := ko.below hBv lo
      replace kS := kS.below hBv l8
      obtain ⟨ua, uc, hu, hu2⟩ := hWm
      rw [hyl] at hu
      subst hu
      have hWm : Wys wr.heap.size wr (.slice ua ws.length uc) ys := ⟨ua, uc, by rw [hyl], hu2⟩
      clear hu2
      clear hd0 hd1 hrows hkeys hV hB34 hB4 hi0 hz0 hz1 hz2 hi1 hy0 hy1 hy2
      obtain ⟨c0, c1, -⟩ : wr.cell? ⟨Bd, 0, none⟩ = some (.int .i64 dx) ∧ wr.cell? ⟨Bd, 1, none⟩ = some (.int .i64 dz) ∧ True := ⟨kd.cell 0, kd.cell 1, trivial⟩
      have wq1 : IntKind.i64.wrap (60 + dx) = 60 + dx := wrap_in9 (by omega) (by omega)
      have wq2 : IntKind.i64.wrap (60 + dz) = 60 + dz := wrap_in9 (by omega) (by omega)
      go_upto_region 22 with fail
      have kp := (Blk.new wr #[.int .i64 9, .int .i64 60, .int .i64 60, .string ⟨#[116, 114, 101, 101]⟩, .string ⟨#[]⟩, .int .i64 0, .int .i64 0] 50).alloc (.cells #[.int .i64 9, .int .i64 (60 + dx), .int .i64 (60 + dz), .string ⟨#[116, 114, 101, 101]⟩, .string ⟨#[]⟩, .int .i64 0, .int .i64 0] 50)
      have kq := Blk.new (wr.alloc (.cells #[.int .i64 9, .int .i64 60, .int .i64 60, .string ⟨#[116, 114, 101, 101]⟩, .string ⟨#[]⟩, .int .i64 0, .int .i64 0] 50)) #[.int .i64 9, .int .i64 (60 + dx), .int .i64 (60 + dz), .string ⟨#[116, 114, 101, 101]⟩, .string ⟨#[]⟩, .int .i64 0, .int .i64 0] 50
      rw [World.size_alloc] at kq
      replace kS := (kS.alloc (.cells #[.int .i64 9, .int .i64 60, .int .i64 60, .string ⟨#[116, 114, 101, 101]⟩, .string ⟨#[]⟩, .int .i64 0, .int .i64 0] 50)).alloc (.cells #[.int .i64 9, .int .i64 (60 + dx), .int .i64 (60 + dz), .string ⟨#[116, 114, 101, 101]⟩, .string ⟨#[]⟩, .int .i64 0, .int .i64 0] 50)
      replace ko := (ko.alloc (.cells #[.int .i64 9, .int .i64 60, .int .i64 60, .string ⟨#[116, 114, 101, 101]⟩, .string ⟨#[]⟩, .int .i64 0, .int .i64 0] 50)).alloc (.cells #[.int .i64 9, .int .i64 (60 + dx), .int .i64 (60 + dz), .string ⟨#[116, 114, 101, 101]⟩, .string ⟨#[]⟩, .int .i64 0, .int .i64 0] 50)
      have hB6 : Below wr.heap.size wr ((wr.alloc (.cells #[.int .i64 9, .int .i64 60, .int .i64 60, .string ⟨#[116, 114, 101, 101]⟩, .string ⟨#[]⟩, .int .i64 0, .int .i64 0] 50)).alloc (.cells #[.int .i64 9, .int .i64 (60 + dx), .int .i64 (60 + dz), .string ⟨#[116, 114, 101, 101]⟩, .string ⟨#[]⟩, .int .i64 0, .int .i64 0] 50)) := (by repeat' (first | with_reducible exact Below.refl _ _ | with_reducible exact Nat.le_refl _ | with_reducible assumption | with_reducible refine Go.below_growBy' ?_ ?_ _ | with_reducible refine Below.alloc ?_ ?_ _ | with_reducible refine Below.setCell ?_ ?_ _ | with_reducible refine Below.drew ?_ | with_reducible refine Go.le_alloc ?_ | with_reducible refine Go.le_growBy ?_ | with_reducible refine Go.le_setCell ?_ | with_reducible refine Go.le_drew ?_ | omega | (dsimp only; omega)))
      clear c0 c1 kd
      obtain ⟨W6, hW6⟩ : ∃ W, (wr.alloc (.cells #[.int .i64 9, .int .i64 60, .int .i64 60, .string ⟨#[116, 114, 101, 101]⟩, .string ⟨#[]⟩, .int .i64 0, .int .i64 0] 50)).alloc (.cells #[.int .i64 9, .int .i64 (60 + dx), .int .i64 (60 + dz), .string ⟨#[116, 114, 101, 101]⟩, .string ⟨#[]⟩, .int .i64 0, .int .i64 0] 50) = W := ⟨_, rfl⟩
      rw [hW6] at kp kq kS ko hB6 ⊢
      clear hW6
      replace hWm := hWm.up hB6 hB6.size
      replace hWw := hWw.up hB6 hB6.size
      replace hBw := hBw.trans (hB6.mono (by rw [← hB5e.out]; exact hBw.size))
      obtain ⟨Bq, hBq⟩ : ∃ b, wr.heap.size + 1 = b := ⟨_, rfl⟩
      rw [hBq] at kq ⊢
      obtain ⟨Bp, hBp⟩ : ∃ b, wr.heap.size = b := ⟨_, rfl⟩
      rw [hBp] at kp ⊢
      clear hBq hBp hB6 hBv hle
      replace l8 := kS.lt
      replace lo := ko.lt
      have lq := kq.lt
      obtain ⟨⟨i, j, b⟩, hof⟩ : ∃ q, ofS ⟨ax, ay, st, sw, sh, sg⟩ 60 60 = q := ⟨_, rfl⟩
      have hof2 : ofS (moveSh (dx, dz) ⟨ax, ay, st, sw, sh, sg⟩) (60 + dx) (60 + dz) = (i, j, b) := (ofS_move hck hck2 (by decide) (rightP_iff.2 (by omega))).trans hof
      have h12a := fun W => place12_any ⟨ax, ay, st, sw, sh, sg⟩ 60 60 i j b W (show fits ax from ⟨by omega, by omega⟩) (show fits ay from ⟨by omega, by omega⟩) hof
      have h12b := fun W => place12_any (moveSh (dx, dz) ⟨ax, ay, st, sw, sh, sg⟩) (60 + dx) (60 + dz) i j b W (show fits (ax + dx) from ⟨by omega, by omega⟩) (show fits (ay + dz) from ⟨by omega, by omega⟩) hof2
      rw [show fit12 (moveSh (dx, dz) ⟨ax, ay, st, sw, sh, sg⟩) i j = fit12 ⟨ax, ay, st, sw, sh, sg⟩ i j from rfl, show dots12 (moveSh (dx, dz) ⟨ax, ay, st, sw, sh, sg⟩) i j = dots12 ⟨ax, ay, st, sw, sh, sg⟩ i j from rfl] at h12b
      obtain ⟨r, hr⟩ : ∃ r, (b && fit12 ⟨ax, ay, st, sw, sh, sg⟩ i j) = r := ⟨_, rfl⟩
      obtain ⟨La, hLa⟩ : ∃ l, (if b = true then dots12 ⟨ax, ay, st, sw, sh, sg⟩ i j else []) = l := ⟨_, rfl⟩
      rw [hr, hLa] at h12a h12b
      have h12a' : ∀ W, Calls Tryd.prog 16 #[.agg #[.int .i64 ax, .int .i64 ay, .int .i64 st, .int .i64 sw, .int .i64 sh, .int .i64 sg], .agg #[.int .i64 9, .int .i64 60, .int .i64 60, .string ⟨#[116, 114, 101, 101]⟩, .string ⟨#[]⟩, .int .i64 0, .int .i64 0], .int .i64 12] W fun e w' => ∃ v, e = .returned (.tuple #[v, .bool r]) ∧ Dts w'.heap.size w' v La ∧ Below W.heap.size W w' := h12a
      have h12b' : ∀ W, Calls Tryd.prog 16 #[.agg #[.int .i64 (ax + dx), .int .i64 (ay + dz), .int .i64 st, .int .i64 sw, .int .i64 sh, .int .i64 sg], .agg #[.int .i64 9, .int .i64 (60 + dx), .int .i64 (60 + dz), .string ⟨#[116, 114, 101, 101]⟩, .string ⟨#[]⟩, .int .i64 0, .int .i64 0], .int .i64 12] W fun e w' => ∃ v, e = .returned (.tuple #[v, .bool r]) ∧ Dts w'.heap.size w' v La ∧ Below W.heap.size W w' := h12b
      clear h12a h12b hof hof2 hr hLa
      obtain ⟨c0, c1, c2, c3, c4, c5⟩ := shC6 kS
      obtain ⟨p0, p1, p2, p3, p4, p5, p6⟩ := plC7 kp
      go_upto_region 24 with (first
        | (go_at_call 16; with_reducible refine (h12a' _).mono ?_; rintro e W7 ⟨va, rfl, hD1, hb7⟩; clear c0 c1 c2 c3 c4 c5 p0 p1 p2 p3 p4 p5 p6; obtain ⟨c0, c1, c2, c3, c4, c5⟩ := shC6 (ko.below hb7 lo); obtain ⟨p0, p1, p2, p3, p4, p5, p6⟩ := plC7 (kq.below hb7 lq))
        | (go_at_call 16; with_reducible refine (h12b' _).mono ?_; rintro e W8 ⟨vb, rfl, hD2, hb8⟩)
        | fail)
      clear c0 c1 c2 c3 c4 c5 p0 p1 p2 p3 p4 p5 p6 kp kq lq
      replace hD1 := hD1.up hb8 hb8.size
      have hb68 : Below W6.heap.size W6 W8 := hb7.trans (hb8.mono hb7.size)
      replace hWm := hWm.up hb68 hb68.size
      replace hWw := hWw.up hb68 hb68.size
      replace hBw := hBw.trans (hb68.mono (by rw [← hB5e.out]; exact hBw.size))
      replace kS := kS.below hb68 l8
      replace ko := ko.below hb68 lo
      replace l8 := kS.lt
      replace lo := ko.lt
      clear hb7 hb8 hb68 h12a' h12b'
      obtain ⟨L, hL⟩ : ∃ L, dotsS 2 (waysE ⟨ax, ay, st, sw, sh, sg⟩ [] (ws.map Wy.key)) = L := ⟨_, rfl⟩
      refine Go.wp_region_relg 20 (by kernel_rfl) (by kernel_rfl) (fun _ W => Below W8.heap.size W8 W) (fun w w' => Below w.heap.size w w') (FQ va vb (.slice wa ws.length wcap) (.slice ua ws.length uc) ⟨ax, ay, st, sw, sh, sg⟩ (moveSh (dx, dz) ⟨ax, ay, st, sw, sh, sg⟩) L La r) (fun _ _ _ _ h g => h.kept g) (Below.refl _ _).drew ?_ ?_
      · intro i o hi ho c bb W hc hM hA hD K hK
        match i, hi, ho with
        | 0, _, ho =>
          cases ho
          have f7 : bb.tmps[7]?.getD undef = .bool true := evalAt (v := .bool true) (hA.at_ (k := 7) (by kernel_rfl))
          go_simp
          exact hK (.bool true) W rfl (Below.refl _ _) hM
        | 1, _, ho =>
          cases ho
          have f119 : bb.tmps[119]?.getD undef = .bool true := evalAt (v := .bool true) (dep_at hD 0 119 (by kernel_rfl) rfl rfl)
          go_simp
          exact hK (.bool true) W rfl (Below.refl _ _) hM
        | 2, _, ho =>
          cases ho
          have e120 : bb.tmps[120]? = some (.bool true) := evalTrue (dep_at hD 1 120 (by kernel_rfl) rfl rfl)
          have f8 : bb.tmps[8]?.getD undef = .pointer (some ⟨B8, 0, none⟩) := evalAt (v := .pointer (some ⟨B8, 0, none⟩)) (hA.at_ (k := 8) (by kernel_rfl))
          have f120 : bb.tmps[120]?.getD undef = .bool true := evalAt (v := .bool true) (dep_at hD 1 120 (by kernel_rfl) rfl rfl)
          obtain ⟨c0, c1, c2, c3, c4, c5⟩ := shC6 (kS.below hM l8)
          go_simp
          exact hK (.agg #[.int .i64 ax, .int .i64 ay, .int .i64 st, .int .i64 sw, .int .i64 sh, .int .i64 sg]) W rfl (Below.refl _ _) hM
        | 3, _, ho =>
          cases ho
          have e120 : bb.tmps[120]? = some (.bool true) := evalTrue (dep_at hD 1 120 (by kernel_rfl) rfl rfl)
          have f9 : bb.tmps[9]?.getD undef = .slice wa ws.length wcap := evalAt (v := .slice wa ws.length wcap) (hA.at_ (k := 9) (by kernel_rfl))
          have f120 : bb.tmps[120]?.getD undef = .bool true := evalAt (v := .bool true) (dep_at hD 1 120 (by kernel_rfl) rfl rfl)
          go_simp
          exact hK (.slice wa ws.length wcap) W rfl (Below.refl _ _) hM
        | 4, _, ho =>
          cases ho
          have e120 : bb.tmps[120]? = some (.bool true) := evalTrue (dep_at hD 1 120 (by kernel_rfl) rfl rfl)
          have f121 : bb.tmps[121]?.getD undef = .agg #[.int .i64 ax, .int .i64 ay, .int .i64 st, .int .i64 sw, .int .i64 sh, .int .i64 sg] := evalAt (v := .agg #[.int .i64 ax, .int .i64 ay, .int .i64 st, .int .i64 sw, .int .i64 sh, .int .i64 sg]) (dep_at hD 2 121 (by kernel_rfl) rfl rfl)
          have f122 : bb.tmps[122]?.getD undef = .slice wa ws.length wcap := evalAt (v := .slice wa ws.length wcap) (dep_at hD 3 122 (by kernel_rfl) rfl rfl)
          have f120 : bb.tmps[120]?.getD undef = .bool true := evalAt (v := .bool true) (dep_at hD 1 120 (by kernel_rfl) rfl rfl)
          go_simp
          refine (ways_dts ⟨ax, ay, st, sw, sh, sg⟩ _ ws W hck (fun y hy => (hgood y hy).id) (hWw.up hM hM.size) (by omega) (fun y hy => by have := (hgood y hy).len; omega)).mono ?_
          rintro e W' ⟨v, rfl, hv, hb⟩
          rw [hL] at hv
          go_simp
          exact hK v W' hv hb (hM.trans (hb.mono hM.size))
        | 5, _, ho =>
          cases ho
          have e120 : bb.tmps[120]? = some (.bool true) := evalTrue (dep_at hD 1 120 (by kernel_rfl) rfl rfl)
          have f11 : bb.tmps[11]?.getD undef = .pointer (some ⟨Bo, 0, none⟩) := evalAt (v := .pointer (some ⟨Bo, 0, none⟩)) (hA.at_ (k := 11) (by kernel_rfl))
          have f120 : bb.tmps[120]?.getD undef = .bool true := evalAt (v := .bool true) (dep_at hD 1 120 (by kernel_rfl) rfl rfl)
          obtain ⟨c0, c1, c2, c3, c4, c5⟩ := shC6 (ko.below hM lo)
          go_simp
          exact hK (.agg #[.int .i64 (ax + dx), .int .i64 (ay + dz), .int .i64 st, .int .i64 sw, .int .i64 sh, .int .i64 sg]) W rfl (Below.refl _ _) hM
        | 6, _, ho =>
          cases ho
          have e120 : bb.tmps[120]? = some (.bool true) := evalTrue (dep_at hD 1 120 (by kernel_rfl) rfl rfl)
          have f12 : bb.tmps[12]?.getD undef = .slice ua ws.length uc := evalAt (v := .slice ua ws.length uc) (hA.at_ (k := 12) (by kernel_rfl))
          have f120 : bb.tmps[120]?.getD undef = .bool true := evalAt (v := .bool true) (dep_at hD 1 120 (by kernel_rfl) rfl rfl)
          go_simp
          exact hK (.slice ua ws.length uc) W rfl (Below.refl _ _) hM
        | 7, _, ho =>
          cases ho
          have e120 : bb.tmps[120]? = some (.bool true) := evalTrue (dep_at hD 1 120 (by kernel_rfl) rfl rfl)
          have f124 : bb.tmps[124]?.getD undef = .agg #[.int .i64 (ax + dx), .int .i64 (ay + dz), .int .i64 st, .int .i64 sw, .int .i64 sh, .int .i64 sg] := evalAt (v := .agg #[.int .i64 (ax + dx), .int .i64 (ay + dz), .int .i64 st, .int .i64 sw, .int .i64 sh, .int .i64 sg]) (dep_at hD 5 124 (by kernel_rfl) rfl rfl)
          have f125 : bb.tmps[125]?.getD undef = .slice ua ws.length uc := evalAt (v := .slice ua ws.length uc) (dep_at hD 6 125 (by kernel_rfl) rfl rfl)
          have f120 : bb.tmps[120]?.getD undef = .bool true := evalAt (v := .bool true) (dep_at hD 1 120 (by kernel_rfl) rfl rfl)
          go_simp
          refine (ways_dts (moveSh (dx, dz) ⟨ax, ay, st, sw, sh, sg⟩) _ ys W hck2 (fun y hy => (hmg y hy).1) (hWm.up hM hM.size) (by omega) (fun y hy => (hmg y hy).2)).mono ?_
          rintro e W' ⟨v, rfl, hv, hb⟩
          rw [hmd, hL] at hv
          go_simp
          exact hK v W' hv hb (hM.trans (hb.mono hM.size))
        | 8, _, ho =>
          cases ho
          have e120 : bb.tmps[120]? = some (.bool true) := evalTrue (dep_at hD 1 120 (by kernel_rfl) rfl rfl)
          obtain ⟨d4, hd4⟩ : ∃ d, bb.tmps[123]?.getD undef = d := ⟨_, rfl⟩
          have hD4 : Dts W.heap.size W d4 L := by rw [← hd4, evalAt (v := bb.eval (.tmp 123)) rfl]; exact dep_at hD 4 123 (by kernel_rfl) rfl rfl
          obtain ⟨d7, hd7⟩ : ∃ d, bb.tmps[126]?.getD undef = d := ⟨_, rfl⟩
          have hD7 : Dts W.heap.size W d7 L := by rw [← hd7, evalAt (v := bb.eval (.tmp 126)) rfl]; exact dep_at hD 7 126 (by kernel_rfl) rfl rfl
          have f120 : bb.tmps[120]?.getD undef = .bool true := evalAt (v := .bool true) (dep_at hD 1 120 (by kernel_rfl) rfl rfl)
          go_simp
          refine (same_yes W hD4 hD7).mono ?_
          rintro e W' ⟨rfl, hb⟩
          go_simp
          exact hK (.bool true) W' rfl hb (hM.trans (hb.mono hM.size))
        | 9, _, ho =>
          cases ho
          have f120 : bb.tmps[120]?.getD undef = .bool true := evalAt (v := .bool true) (dep_at hD 1 120 (by kernel_rfl) rfl rfl)
          have f127 : bb.tmps[127]?.getD undef = .bool true := evalAt (v := .bool true) (dep_at hD 8 127 (by kernel_rfl) rfl rfl)
          go_simp
          exact hK (.bool true) W rfl (Below.refl _ _) hM
        | 10, _, ho =>
          cases ho
          have f128 : bb.tmps[128]?.getD undef = .bool true := evalAt (v := .bool true) (dep_at hD 9 128 (by kernel_rfl) rfl rfl)
          go_simp
          exact hK (.bool true) W rfl (Below.refl _ _) hM
        | 11, _, ho =>
          cases ho
          have e129 : bb.tmps[129]? = some (.bool true) := evalTrue (dep_at hD 10 129 (by kernel_rfl) rfl rfl)
          have f20 : bb.tmps[20]?.getD undef = .bool r := evalAt (v := .bool r) (hA.at_ (k := 20) (by kernel_rfl))
          have f129 : bb.tmps[129]?.getD undef = .bool true := evalAt (v := .bool true) (dep_at hD 10 129 (by kernel_rfl) rfl rfl)
          go_simp
          exact hK (.bool r) W rfl (Below.refl _ _) hM
        | 12, _, ho =>
          cases ho
          have e129 : bb.tmps[129]? = some (.bool true) := evalTrue (dep_at hD 10 129 (by kernel_rfl) rfl rfl)
          have f22 : bb.tmps[22]?.getD undef = .bool r := evalAt (v := .bool r) (hA.at_ (k := 22) (by kernel_rfl))
          have f129 : bb.tmps[129]?.getD undef = .bool true := evalAt (v := .bool true) (dep_at hD 10 129 (by kernel_rfl) rfl rfl)
          go_simp
          exact hK (.bool r) W rfl (Below.refl _ _) hM
        | 13, _, ho =>
          cases ho
          have e129 : bb.tmps[129]? = some (.bool true) := evalTrue (dep_at hD 10 129 (by kernel_rfl) rfl rfl)
          have f130 : bb.tmps[130]?.getD undef = .bool r := evalAt (v := .bool r) (dep_at hD 11 130 (by kernel_rfl) rfl rfl)
          have f131 : bb.tmps[131]?.getD undef = .bool r := evalAt (v := .bool r) (dep_at hD 12 131 (by kernel_rfl) rfl rfl)
          have f129 : bb.tmps[129]?.getD undef = .bool true := evalAt (v := .bool true) (dep_at hD 10 129 (by kernel_rfl) rfl rfl)
          go_simp
          exact hK (.bool true) W rfl (Below.refl _ _) hM
        | 14, _, ho =>
          cases ho
          have f129 : bb.tmps[129]?.getD undef = .bool true := evalAt (v := .bool true) (dep_at hD 10 129 (by kernel_rfl) rfl rfl)
          have f132 : bb.tmps[132]?.getD undef = .bool true := evalAt (v := .bool true) (dep_at hD 13 132 (by kernel_rfl) rfl rfl)
          go_simp
          exact hK (.bool true) W rfl (Below.refl _ _) hM
        | 15, _, ho =>
          cases ho
          have f133 : bb.tmps[133]?.getD undef = .bool true := evalAt (v := .bool true) (dep_at hD 14 133 (by kernel_rfl) rfl rfl)
          go_simp
          exact hK (.bool true) W rfl (Below.refl _ _) hM
        | 16, _, ho =>
          cases ho
          have e134 : bb.tmps[134]? = some (.bool true) := evalTrue (dep_at hD 15 134 (by kernel_rfl) rfl rfl)
          have f19 : bb.tmps[19]?.getD undef = va := evalAt (v := va) (hA.at_ (k := 19) (by kernel_rfl))
          have f134 : bb.tmps[134]?.getD undef = .bool true := evalAt (v := .bool true) (dep_at hD 15 134 (by kernel_rfl) rfl rfl)
          go_simp
          exact hK (va) W rfl (Below.refl _ _) hM
        | 17, _, ho =>
          cases ho
          have e134 : bb.tmps[134]? = some (.bool true) := evalTrue (dep_at hD 15 134 (by kernel_rfl) rfl rfl)
          have f21 : bb.tmps[21]?.getD undef = vb := evalAt (v := vb) (hA.at_ (k := 21) (by kernel_rfl))
          have f134 : bb.tmps[134]?.getD undef = .bool true := evalAt (v := .bool true) (dep_at hD 15 134 (by kernel_rfl) rfl rfl)
          go_simp
          exact hK (vb) W rfl (Below.refl _ _) hM
        | 18, _, ho =>
          cases ho
          have e134 : bb.tmps[134]? = some (.bool true) := evalTrue (dep_at hD 15 134 (by kernel_rfl) rfl rfl)
          have f135 : bb.tmps[135]?.getD undef = va := evalAt (v := va) (dep_at hD 16 135 (by kernel_rfl) rfl rfl)
          have f136 : bb.tmps[136]?.getD undef = vb := evalAt (v := vb) (dep_at hD 17 136 (by kernel_rfl) rfl rfl)
          have f134 : bb.tmps[134]?.getD undef = .bool true := evalAt (v := .bool true) (dep_at hD 15 134 (by kernel_rfl) rfl rfl)
          go_simp
          refine (same_yes W (hD1.up hM hM.size) (hD2.up hM hM.size)).mono ?_
          rintro e W' ⟨rfl, hb⟩
          go_simp
          exact hK (.bool true) W' rfl hb (hM.trans (hb.mono hM.size))
        | 19, _, ho =>
          cases ho
          have f134 : bb.tmps[134]?.getD undef = .bool true := evalAt (v := .bool true) (dep_at hD 15 134 (by kernel_rfl) rfl rfl)
          have f137 : bb.tmps[137]?.getD undef = .bool true := evalAt (v := .bool true) (dep_at hD 18 137 (by kernel_rfl) rfl rfl)
          go_simp
          exact hK (.bool true) W rfl (Below.refl _ _) hM
        | i + 20, hi, _ => exact absurd hi (by omega)
      · intro bb W hM hA hall
        have h19 : bb.tmps[138]?.getD undef = .bool true := evalAt (v := .bool true) (hall 19 (by omega) _ _ rfl rfl)
        have hfr := hA.frame [true, true, true, true, true, true, true, true, true, true, true, true, true, true, true, true, true, true, true, true, true, true, true, true, true, true, true, true, true, true, true, true, true, true, true, true, true, true, true, true, true, true, true, true, true, true, true, true, true, true, true, true, true, true, true, true, true, true, true, true, true, true, true, true, true, true, true, true, true, true, true, true, true, true, true, true, true, true, true, true, true, true, true, true, true, true, true, true, true, true, true, true, true, true, true, true, true, true, true, true, true, true, true, true, true, true, true, true, true, true, true, true, true, true, true, true, true, true, true, false, false, false, false, false, false, false, false, false, false, false, false, false, false, false, false, false, false, false, false] _ rfl (by kernel_rfl)
        clear hall hA
        obtain ⟨f, hf⟩ : ∃ f : Nat → Value, (fun k => bb.tmps.getD k undef) = f := ⟨_, rfl⟩
        have g138 : f 138 = .bool true := by rw [← hf, ← h19]; simp
        rw [hf] at hfr
        clear hf h19
        subst hfr
        simp only [pickL, g138, Nat.reduceAdd]
        clear g138
        simp only [List.drop_succ_cons, List.drop_zero]
        have hBf : Below w.heap.size w W := by rw [hB5e.out]; exact hBw.trans (hM.mono (by rw [← hB5e.out]; exact hBw.size))
        go_wp2_with fail
        go_ret
        exact ⟨rfl, hBf⟩
end Go.Proofs.YtjfdbigkbgolmaaDoor
