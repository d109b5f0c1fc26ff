/-
  Chapter 24: (*Labels).Change walked, without histories.
-/
import Derived.Test.YtikojanpbbiaiaaZp

namespace Go.Proofs.Ytikojanpbbiaiaa
set_option linter.unusedVariables false
set_option linter.unusedSimpArgs false
open Go Go.RowKit Go.Shelf Go.Lib Go.Maps
attribute [local go_sem] Oper.semAt_some
attribute [local go_sem ↓] Go.wp_at_zero Go.wp_at_succ

theorem wpIn_veil {F : Fence} {n : Nat} {P : Program} {c : Code} {Q : Exit → Act → World → Prop} {a : Act} {w : World} (h : ∀ Q' : Exit → Act → World → Prop, (∀ e a w, Q e a w → Q' e a w) → c.wpIn F n P Q' a w) : c.wpIn F n P Q a w := h Q (fun _ _ _ q => q)
theorem lbKey_seed {p : Pc} (h : PcOk p) : LbKey (lbP p 1024) := ⟨h.id, h.x, h.y, by have := h.nm; exact ⟨by show _ ≤ 3 + 2 * (p.nm.size : Int); omega, by show 3 + 2 * (p.nm.size : Int) ≤ _; omega⟩, by have := h.nm; show p.nm.size ≤ maxLen; unfold maxLen; omega, (show fits 1024 from by decide)⟩
theorem chg_len (next : List Lb) : ∀ (R : List Nat) (L : List Lb), (R.foldl (stepC next) L).length = L.length
  | [], _ => rfl
  | k :: R, L => by rw [List.foldl_cons, chg_len next R, stepC, setU_length]
theorem chgL_len (sd ls next : List Lb) : (chgL sd ls next).length = next.length := by unfold chgL; rw [chg_len]; simp
/-- what the region that decides a label anew reads -/
structure ChR (wr : World) (Bn Bl b off q : Nat) (nv lv : Value) (x : Lb) (W : World) : Prop where
  bel : Below wr.heap.size wr W
  bl : W.cell? ⟨Bl, 0, none⟩ = some lv
  bn : W.cell? ⟨Bn, 0, none⟩ = some nv
  lc : LC W b (off + q * 6) x.id x.x x.y x.r x.txt x.unt
  lt : b < wr.heap.size
theorem ChR.up {wr W W' : World} {Bn Bl b off q : Nat} {nv lv : Value} {x : Lb} (h : ChR wr Bn Bl b off q nv lv x W) (hb : Below W.heap.size W W') : ChR wr Bn Bl b off q nv lv x W' :=
  ⟨h.bel.trans (hb.mono h.bel.size), cell_below hb h.bl, cell_below hb h.bn, h.lc.below hb (Nat.lt_of_lt_of_le h.lt h.bel.size), h.lt⟩

def FCh (wr : World) (next : List Lb) (Bn Bl b off q g cn cl : Nat) (i2 x2 y2 r2 u2 un : Int) (t2 : ByteArray) (i : Nat) (v : Value) (w : World) : Prop :=
  match i with
  | 0 => v = .slice (some ⟨g, 0, none⟩) next.length cl
  | 1 => v = .int .i64 (q : Nat)
  | 2 => v = .slice (some ⟨g, 0, none⟩) next.length cl
  | 3 => v = .int .i64 (q : Nat)
  | 4 => v = .slice (some ⟨g, 0, none⟩) q cl
  | 5 => v = .slice (some ⟨b, off, none⟩) next.length cn
  | 6 => v = .int .i64 (q : Nat)
  | 7 => v = .pointer (some ⟨b, off + q * 6, none⟩)
  | 8 => v = .agg #[.int .i64 i2, .int .i64 x2, .int .i64 y2, .int .i64 r2, .string t2, .int .i64 u2]
  | 9 => v = .int .i64 un
  | _ => False
theorem FCh.kept {wr : World} {next : List Lb} {Bn Bl b off q g cn cl : Nat} {i2 x2 y2 r2 u2 un : Int} {t2 : ByteArray} {i : Nat} {v : Value} {w w' : World} (h : FCh wr next Bn Bl b off q g cn cl i2 x2 y2 r2 u2 un t2 i v w) (hg : Below w.heap.size w w') : FCh wr next Bn Bl b off q g cn cl i2 x2 y2 r2 u2 un t2 i v w' := by
  unfold FCh at *
  split at h
  all_goals first | exact h
theorem change_none (m l : Value) (w : World) (xs : Array Value) (hm : m = .agg xs) : Calls Try.prog 10 #[.pointer none, m, l] w fun e w' => e = .returned (.int .i64 0) ∧ Below w.heap.size w w' := by
  subst hm
  go_enter Try.func10, Try.ntmps10
  go_wp2_with fail
  go_ret
  exact ⟨rfl, (by repeat' (first | with_reducible exact Below.refl _ _ | with_reducible exact Nat.le_refl _ | with_reducible assumption | with_reducible refine Go.below_growBy' ?_ ?_ _ | with_reducible refine Below.alloc ?_ ?_ _ | with_reducible refine Below.setCell ?_ ?_ _ | with_reducible refine Below.drew ?_ | with_reducible refine Go.le_alloc ?_ | with_reducible refine Go.le_growBy ?_ | with_reducible refine Go.le_setCell ?_ | with_reducible refine Go.le_drew ?_ | omega | (dsimp only; omega)))⟩
set_option maxRecDepth 100000 in
set_option maxHeartbeats 8000000 in
theorem change_any (v1 v2 v3 pv : Value) (l : List Pc) (sd ls : List Lb) (BX : Nat) (w : World) (hX : LabS w BX sd ls) (hL : Lst plE w.heap.size w pv l) (hf : Frm pv l.length) (hl : l.length ≤ 19) (hok : ∀ p ∈ queueL l, PcOk p) (hks : ∀ x ∈ sd, LbKey x) :
    Calls Try.prog 10 #[.pointer (some ⟨BX, 0, none⟩), .agg #[v1, v2, v3, pv], .slice none 0 0] w fun e w' => e = .returned (.int .i64 ((reachI sd (seedsL l) (seedsL l).length).length : Nat)) ∧ LabS w' BX (seedsL l) (chgL sd ls (seedsL l)) ∧ w.grownBy w' (some BX) := by
  have hsm := hX.small
  have hlen := hX.len
  obtain ⟨xa, xb, kX, hsd, hls, hfa, hfb⟩ := hX.out
  clear hX
  replace hlen := Lib.hid hlen
  obtain ⟨aa, ca, rfl, -⟩ := hsd.form
  obtain ⟨ab, cb, rfl, -⟩ := hls.form
  have hn19 : (seedsL l).length ≤ 19 := by unfold seedsL; rw [List.length_map]; exact Nat.le_trans (queueL_len l) hl
  have hnk : ∀ x ∈ seedsL l, LbKey x := by
    intro x hx
    obtain ⟨p, hp, rfl⟩ := List.mem_map.1 hx
    exact lbKey_seed (hok p hp)
  have hse := fun W (hL : Lst plE W.heap.size W pv l) => seeds_any v1 v2 v3 pv l W hL hf hl hok
  obtain ⟨next, hnx⟩ : ∃ n, seedsL l = n := ⟨_, rfl⟩
  rw [hnx] at hn19 hnk hse
  rw [hnx]
  clear hnx hok
  have hB0 : Below w.heap.size w (w.alloc (.cells #[v1, v2, v3, pv] 29)) := (Below.refl _ _).alloc (Nat.le_refl _) _
  have kM := Blk.new w #[v1, v2, v3, pv] 29
  have hLu := hL.up hB0
  refine (callsIn_wide (n := 3)).1 ?_
  refine callsIn_of_wp_marks Try.func10 rfl trivial ?_ rfl
  simp only [Try.ntmps10, List.size_toArray, List.length_cons, List.length_nil, Nat.reduceAdd, Nat.reduceSub, Array.replicate_succ, Array.replicate_zero, List.push_toArray, List.append_toArray, List.nil_append, List.cons_append]
  refine wpIn_wide.2 ?_
  go_upto_region 3 with fail
  obtain ⟨W0, hW0⟩ : ∃ W, w.alloc (.cells #[v1, v2, v3, pv] 29) = W := ⟨_, rfl⟩
  obtain ⟨B0, hB0e⟩ : ∃ b, w.heap.size = b := ⟨_, rfl⟩
  have hXl := kX.lt
  rw [hW0] at kM hLu hB0
  rw [hW0]
  rw [hB0e] at kM hB0 hXl
  rw [hB0e]
  have m0 : W0.cell? ⟨B0, 0, none⟩ = some v1 := kM.cell 0
  have m1 : W0.cell? ⟨B0, 1, none⟩ = some v2 := kM.cell 1
  have m2 : W0.cell? ⟨B0, 2, none⟩ = some v3 := kM.cell 2
  have m3 : W0.cell? ⟨B0, 3, none⟩ = some pv := kM.cell 3
  have hse2 := hse W0 hLu
  clear hse hLu kM hW0 hL
  go_upto_region 4 with (first
    | (go_at_call 27; (with_reducible refine hse2.mono ?_); rintro e W1 ⟨nv, rfl, hr1, hb1⟩; obtain ⟨an, cn, rfl, hcn⟩ := (lst_of_row lbOk hr1 (by omega)).form)
    | fail)
  have hb01 := hB0.trans (hb1.mono (by have := hB0.size; omega))
  have hln1 := lst_of_row lbOk hr1 (by omega)
  have hfn := frm_row hr1
  have hw0 : w.heap.size ≤ W0.heap.size := hB0.size
  have hnb : ∀ b off i, an = some ⟨b, off, i⟩ → b ≠ BX := fun b off i e => by
    have := (hr1.lt b (by rw [e]; rfl)).1
    have := hB0.size
    omega
  have hbn : Below W1.heap.size W1 (W1.alloc (.cells #[.slice an next.length cn] 33)) := (Below.refl _ _).alloc (Nat.le_refl _) _
  have kN := Blk.new W1 #[.slice an next.length cn] 33
  have hlnc := hln1.up hbn
  have hrwc := ownsRow_up hr1 hbn
  have hrwl : ∀ b, (Value.slice an next.length cn).ownBlock = some b → b < W1.heap.size := fun b e => (hr1.lt b e).2
  have hBc := hb01.trans (hbn.mono (by have := hb01.size; omega))
  obtain ⟨Bn, hBn⟩ : ∃ b, W1.heap.size = b := ⟨_, rfl⟩
  obtain ⟨Wc, hWc⟩ : ∃ W, W1.alloc (.cells #[.slice an next.length cn] 33) = W := ⟨_, rfl⟩
  have hszc : Wc.heap.size = Bn + 1 := by rw [← hWc, ← hBn]; simp
  rw [hWc] at kN hlnc hBc hrwc
  rw [hBn] at hrwl
  replace hrwc := Lib.hid hrwc
  replace hrwl := Lib.hid hrwl
  rw [hWc]
  rw [hBn] at kN
  rw [hBn]
  have n0 : Wc.cell? ⟨Bn, 0, none⟩ = some (.slice an next.length cn) := kN.cell 0
  have hcl := cloneLb_any _ next Wc hlnc hfn (by omega)
  clear hWc hBn hbn hln1 hr1 hb01 hse2 m0 m1 m2 m3 hb1 hB0
  go_upto_region 5 with (first
    | (go_at_call 26; (with_reducible refine hcl.mono ?_); rintro e W2 ⟨lv, rfl, hr2, hb2⟩; obtain ⟨al, cl, rfl, hcl2⟩ := (lst_of_row lbOk hr2 (by omega)).form)
    | fail)
  have hbl : Below W2.heap.size W2 (W2.alloc (.cells #[.slice al next.length cl] 33)) := (Below.refl _ _).alloc (Nat.le_refl _) _
  have kL := Blk.new W2 #[.slice al next.length cl] 33
  have hr3 := ownsRow_up hr2 hbl
  have hBc3 := hb2.trans (hbl.mono hb2.size)
  have hbl2 := hb2.size
  obtain ⟨Bl, hBl⟩ : ∃ b, W2.heap.size = b := ⟨_, rfl⟩
  obtain ⟨W3, hW3⟩ : ∃ W, W2.alloc (.cells #[.slice al next.length cl] 33) = W := ⟨_, rfl⟩
  rw [hW3] at kL hr3 hBc3
  rw [hW3]
  rw [hBl] at kL hbl2
  rw [hBl]
  have n3 := kN.below hBc3 kN.lt
  have l0 : W3.cell? ⟨Bl, 0, none⟩ = some (.slice al next.length cl) := kL.cell 0
  have n0' : W3.cell? ⟨Bn, 0, none⟩ = some (.slice an next.length cn) := n3.cell 0
  clear hW3 hBl hbl hr2 hb2 hcl n0 n3
  go_wp2_with fail
  have hr3' := Lib.hid hr3
  have hXc := kX.below hBc hXl
  have hsdc := (hsd.below (hB0e ▸ hBc)).mono hBc.size
  have hlsc := (hls.below (hB0e ▸ hBc)).mono hBc.size
  go_loopw [23] (fun kk wr => ∃ k : Nat, k ≤ next.length ∧ kk = .int .i64 (k : Nat) ∧ Hid (wr.ownsRow Wc.heap.size 39 6 (.slice al next.length cl) next.length ((mixL sd ls next k).flatMap lbE.enc)) ∧ Hid (Blk wr Bl #[.slice al next.length cl] 33) ∧ Below Wc.heap.size Wc wr) (fun kk _ => next.length - (intOf kk).toNat)
  case atStart => exact ⟨0, Nat.zero_le _, rfl, hr3', Lib.hid kL, hBc3⟩
  case round =>
    clear hr3' kL hBc3 hr3 l0 n0'
    obtain ⟨k, hk, rfl, hrow, hkl, hB⟩ := hrel
    have hsz := hB.size
    by_cases hlt : k < next.length
    · have hltI : (k : Int) < (next.length : Int) := by omega
      obtain ⟨b, off, cap', i2, x2, y2, r2, t2, u2, hv, hget, hbl, hzc⟩ := hlnc.get hlt
      simp only [Value.slice.injEq, true_and] at hv
      obtain ⟨rfl, rfl⟩ := hv
      obtain ⟨z0, z1, z2, z3, z4, z5⟩ := hzc.below hB hbl
      go_upto_region 8 with fail
      have kS := Blk.new wr #[.int .i64 i2, .int .i64 x2, .int .i64 y2, .int .i64 r2, .string t2, .int .i64 u2] 39
      have hbS : Below wr.heap.size wr (wr.alloc (.cells #[.int .i64 i2, .int .i64 x2, .int .i64 y2, .int .i64 r2, .string t2, .int .i64 u2] 39)) := (Below.refl _ _).alloc (Nat.le_refl _) _
      have hB4 := hB.trans (hbS.mono hsz)
      have hrow4 := Lib.hid (ownsRow_up hrow.out hbS)
      have hkl4 := Lib.hid (hkl.out.below hbS hkl.out.lt)
      obtain ⟨BS, hBS⟩ : ∃ b, wr.heap.size = b := ⟨_, rfl⟩
      obtain ⟨W4, hW4⟩ : ∃ W, wr.alloc (.cells #[.int .i64 i2, .int .i64 x2, .int .i64 y2, .int .i64 r2, .string t2, .int .i64 u2] 39) = W := ⟨_, rfl⟩
      rw [hW4] at kS hB4 hrow4 hkl4
      rw [hW4]
      rw [hBS] at kS
      rw [hBS]
      have hXlc : BX < Wc.heap.size := hXc.lt
      have kX4 := hXc.below hB4 hXlc
      have x0 : W4.cell? ⟨BX, 0, none⟩ = some (.slice aa sd.length ca) := kX4.cell 0
      have x1_ : W4.cell? ⟨BX, 1, none⟩ = some (.slice ab ls.length cb) := kX4.cell 1
      have s0 : W4.cell? ⟨BS, 0, none⟩ = some (.int .i64 i2) := kS.cell 0
      have s1 : W4.cell? ⟨BS, 1, none⟩ = some (.int .i64 x2) := kS.cell 1
      have s2 : W4.cell? ⟨BS, 2, none⟩ = some (.int .i64 y2) := kS.cell 2
      have s3 : W4.cell? ⟨BS, 3, none⟩ = some (.int .i64 r2) := kS.cell 3
      have s4 : W4.cell? ⟨BS, 4, none⟩ = some (.string t2) := kS.cell 4
      have s5 : W4.cell? ⟨BS, 5, none⟩ = some (.int .i64 u2) := kS.cell 5
      have hsd4 := (hsdc.below hB4).mono hB4.size
      have hidx := fun p => indexLb_any _ sd ⟨i2, x2, y2, r2, t2, u2⟩ _ (hsd4.up (below_growBy W4 p)) hfa
      have hils := indL_lt sd ⟨i2, x2, y2, r2, t2, u2⟩
      obtain ⟨ix, hix⟩ : ∃ i, indL sd ⟨i2, x2, y2, r2, t2, u2⟩ = i := ⟨_, rfl⟩
      have hset := fun h => mixL_set (sd := sd) (ls := ls) hget h
      have hskip := fun h => mixL_skip (sd := sd) (ls := ls) hget h
      rw [hix] at hidx hils hset hskip
      replace hset := Lib.hid hset
      replace hskip := Lib.hid hskip
      clear hix hget hsd4 hW4 hBS hbS hzc z0 z1 z2 z3 z4 z5 kX4 kS hrow hkl hB hsz
      rcases hils with rfl | ⟨iN, rfl, hiN⟩
      · go_wp2_with fail
        first | with_reducible refine wp_region_grow2 (by kernel_rfl) (by kernel_rfl) ?_ | with_reducible refine wp_region_grow (by kernel_rfl) (by kernel_rfl) ?_
        repeat (first | go_big_quiet_step ((go_at_call 28; exact Calls.grow_of (hidx _))) | quiet_step ((go_at_call 28; exact Calls.grow_of (hidx _))))
        refine wpQuiet_nil ?_
        intro _ hw_
        obtain ⟨p, hw_⟩ := hw_
        subst hw_
        go_wp2_with fail
        go_roundw
        case rel => exact ⟨k + 1, by omega, by go_num, Lib.hid (by rw [← hskip.out (by decide)]; exact ownsRow_up hrow4.out (below_growBy _ _)), Lib.hid (hkl4.out.below (below_growBy _ _) hkl4.out.lt), hB4.trans ((below_growBy _ _).mono hB4.size)⟩
        case measure => first | (simp [intOf]; done) | (simp [intOf]; omega)
      · have hi0 : (0 : Int) ≤ (iN : Int) := by omega
        go_wp2_with fail
        first | with_reducible refine wp_region_grow2 (by kernel_rfl) (by kernel_rfl) ?_ | with_reducible refine wp_region_grow (by kernel_rfl) (by kernel_rfl) ?_
        repeat (first | go_big_quiet_step ((go_at_call 28; exact Calls.grow_of (hidx _))) | quiet_step ((go_at_call 28; exact Calls.grow_of (hidx _))))
        refine wpQuiet_nil ?_
        intro _ hw_
        obtain ⟨p, hw_⟩ := hw_
        subst hw_
        go_upto_region 10 with fail
        obtain ⟨W5, hW5⟩ : ∃ W, W4.growBy p = W := ⟨_, rfl⟩
        have hb45 : Below W4.heap.size W4 (W4.growBy p) := below_growBy _ _
        have hrow5 := ownsRow_up hrow4.out hb45
        have hB5 := hB4.trans (hb45.mono hB4.size)
        have hkl5 := hkl4.out.below hb45 hkl4.out.lt
        rw [hW5] at hrow5 hB5 hkl5
        rw [hW5]
        have kX5 := hXc.below hB5 hXlc
        clear hW5 hb45 hrow4 hkl4 hB4 x0 x1_ s0 s1 s2 s3 s4 s5 hidx
        have x1_ : W5.cell? ⟨BX, 1, none⟩ = some (.slice ab ls.length cb) := kX5.cell 1
        have l0 : W5.cell? ⟨Bl, 0, none⟩ = some (.slice al next.length cl) := hkl5.cell 0
        have hiL : iN < ls.length := by have := hlen.out; omega
        have hiLI : (iN : Int) < (ls.length : Int) := by omega
        obtain ⟨lb, lo, lcap, i3, x3, y3, r3, t3, u3, hv, hget3, hbl3, hzc3⟩ := hlsc.get hiL
        simp only [Value.slice.injEq, true_and] at hv
        obtain ⟨rfl, rfl⟩ := hv
        have y5 := (hzc3.below hB5 hbl3).c5
        have hu3 : ls[(iN : Int).toNat]!.unt = u3 := by
          rw [Int.toNat_natCast, getElem!_pos ls iN hiL]
          rw [List.getElem?_eq_getElem hiL] at hget3
          rw [Option.some.inj hget3]
        have hs9 := hset.out hi0
        rw [hu3] at hs9
        obtain ⟨g, rfl, hgb⟩ := ownsRow_pos hrow5 (by omega)
        obtain ⟨⟨gv, hgv⟩, hgf⟩ := ownsRow_cellF hrow5 (j := k * 6 + 5) (by omega)
        have hrow6 := ownsRow_setU (l := mixL sd ls next k) (k := k) (by rw [mixL_len]; exact hlt) (by rw [mixL_len]; exact hrow5) u3
        rw [hs9, mixL_len] at hrow6
        have hg6 := grown_setCell W5 g (k * 6 + 5) (.int .i64 u3)
        have hB6 := hB5.grown hg6 hB5.size (fun k e => by cases e; exact hgb)
        have hkl6 := Lib.hid (hkl5.kept hg6 (fun e => by
          have h1 := ownsRow_other hrow5 hkl5 (by decide)
          exact h1 (by rw [← e]; rfl)))
        replace hrow6 := Lib.hid hrow6
        replace hg6 := Lib.hid hg6
        replace hB6 := Lib.hid hB6
        clear hrow5 hB5 hkl5 kX5 hs9 hu3 hget3 hzc3 hset hskip
        first | with_reducible refine wp_region_grow_tail2 10 (by kernel_rfl) (by kernel_rfl) ?_ | with_reducible refine wp_region_grow_tail 10 (by kernel_rfl) (by kernel_rfl) ?_
        simp only [List.take_succ_cons, List.take_zero, List.drop_succ_cons, List.drop_zero]
        repeat (first | go_big_quiet_step (fail) | quiet_step (fail))
        refine wpQuiet_nil ?_
        intro _ hw_
        obtain ⟨p, hw_⟩ := hw_
        subst hw_
        go_wp2_with fail
        go_roundw
        case rel => exact ⟨k + 1, by omega, by go_num, Lib.hid (ownsRow_up hrow6.out (below_growBy _ _)), Lib.hid (hkl6.out.below (below_growBy _ _) hkl6.out.lt), hB6.out.trans ((below_growBy _ _).mono hB6.out.size)⟩
        case measure => first | (simp [intOf]; done) | (simp [intOf]; omega)
    · obtain rfl : k = next.length := by omega
      have hgeI : ¬ (next.length : Int) < (next.length : Int) := by omega
      have hmx : mixL sd ls next next.length = next.map (carry sd ls) := by unfold mixL; simp
      rw [hmx] at hrow
      clear hmx
      go_upto_region 13 with fail
      have kM := Blk.new wr #[.int .i64 0] 3
      have hbM : Below wr.heap.size wr (wr.alloc (.cells #[.int .i64 0] 3)) := (Below.refl _ _).alloc (Nat.le_refl _) _
      have hrow7 := ownsRow_up hrow.out hbM
      have hkl7 := hkl.out.below hbM hkl.out.lt
      have hB7 := hB.trans (hbM.mono hsz)
      have hBll := hkl.out.lt
      obtain ⟨Bm, hBm⟩ : ∃ b, wr.heap.size = b := ⟨_, rfl⟩
      obtain ⟨W7, hW7⟩ : ∃ W, wr.alloc (.cells #[.int .i64 0] 3) = W := ⟨_, rfl⟩
      have hs7 : W7.heap.size = Bm + 1 := by rw [← hW7, ← hBm]; simp
      rw [hW7] at kM hrow7 hkl7 hB7
      rw [hW7]
      rw [hBm] at kM hsz hBll
      rw [hBm]
      have kX7 := hXc.below hB7 hXc.lt
      have kN7 := kN.below hB7 kN.lt
      have x0 : W7.cell? ⟨BX, 0, none⟩ = some (.slice aa sd.length ca) := kX7.cell 0
      have n0 : W7.cell? ⟨Bn, 0, none⟩ = some (.slice an next.length cn) := kN7.cell 0
      clear hW7 hBm hbM hrow hkl hB
      first | with_reducible refine wp_region_grow_tail2 5 (by kernel_rfl) (by kernel_rfl) ?_ | with_reducible refine wp_region_grow_tail 5 (by kernel_rfl) (by kernel_rfl) ?_
      simp only [List.take_succ_cons, List.take_zero, List.drop_succ_cons, List.drop_zero]
      repeat (first | go_big_quiet_step (fail) | quiet_step (fail))
      refine wpQuiet_nil ?_
      intro _ hw_
      obtain ⟨p, hw_⟩ := hw_
      subst hw_
      obtain ⟨W8, hW8⟩ : ∃ W, W7.growBy p = W := ⟨_, rfl⟩
      have hb78 : Below W7.heap.size W7 (W7.growBy p) := below_growBy _ _
      rw [hW8] at hb78
      rw [hW8]
      clear hW8 x0 n0
      go_wp2_with (first | (go_at_call 29; refine (reached_any _ _ _ _ _ _ _).mono ?_; rintro e w9 ⟨rfl, rfl⟩) | fail)
      have kA := (Blk.new W8 #[.slice aa sd.length ca] 33).alloc (.cells #[.slice an next.length cn] 33)
      have kB := Blk.new (W8.alloc (.cells #[.slice aa sd.length ca] 33)) #[.slice an next.length cn] 33
      simp only [World.size_alloc] at kB
      have hbY : Below W8.heap.size W8 ((W8.alloc (.cells #[.slice aa sd.length ca] 33)).alloc (.cells #[.slice an next.length cn] 33)) := (by repeat' (first | with_reducible exact Below.refl _ _ | with_reducible exact Nat.le_refl _ | with_reducible assumption | with_reducible refine Go.below_growBy' ?_ ?_ _ | with_reducible refine Below.alloc ?_ ?_ _ | with_reducible refine Below.setCell ?_ ?_ _ | with_reducible refine Below.drew ?_ | with_reducible refine Go.le_alloc ?_ | with_reducible refine Go.le_growBy ?_ | with_reducible refine Go.le_setCell ?_ | with_reducible refine Go.le_drew ?_ | omega | (dsimp only; omega)))
      obtain ⟨Y, hY⟩ : ∃ Y, (W8.alloc (.cells #[.slice aa sd.length ca] 33)).alloc (.cells #[.slice an next.length cn] 33) = Y := ⟨_, rfl⟩
      have hYs : Y.heap.size = W8.heap.size + 2 := by rw [← hY]; simp
      rw [hY] at kA kB hbY
      rw [hY]
      clear hY
      have hs78 := hb78.size
      have hb7Y : Below W7.heap.size W7 Y := hb78.trans (hbY.mono hs78)
      have hBY := hB7.trans (hb7Y.mono hB7.size)
      have hlsd := hsdc.below hBY
      have hlnx := hlnc.below hBY
      have hwc : w.heap.size ≤ Wc.heap.size := hBc.size
      have hI0 : ChI w Wc.heap.size Bm Bn Bl BX (.slice an next.length cn) (.slice al next.length cl) (.slice aa sd.length ca) (.slice ab ls.length cb) next (next.map (carry sd ls)) 0 Y :=
        ⟨kM.below hb7Y kM.lt, ownsRow_base (ownsRow_up hrow7 hb7Y) hwc, by simp, kN7.below hb7Y kN7.lt, hkl7.below hb7Y hkl7.lt, kX7.below hb7Y kX7.lt, ownsRow_base (ownsRow_below hrwc.out hBY (fun b e => by have := hrwl.out b e; omega)) hw0, fun b e => by have := hrwl.out b e; omega, hn19, fun g hg => (hrow7.lt g hg).1, hbl2, (hB0e ▸ hBc).trans (hBY.mono hwc)⟩
      have hgl : ∀ g, (Value.slice al next.length cl).ownBlock = some g → Wc.heap.size ≤ g ∧ g < W7.heap.size := fun g hg => hrow7.lt g hg
      have hBXl := hXc.lt
      have hBnl := kN.lt
      clear kM hrow7 kN7 hkl7 kX7 hlnx hB7 hb78 hbY hb7Y
      have hseq : SeqC Fence.wide (3 - 1) Try.prog 61 #[.pointer (some ⟨W8.heap.size, 0, none⟩), .pointer (some ⟨W8.heap.size + 1, 0, none⟩)] (fun x : Fin next.length => #[.int .i64 (x.val : Nat)]) (chC Bm (.slice al next.length cl)) (fun xs => xs.map Fin.val = reachI sd next next.length) next.length Y := by
        intro l J W hW hJ hCb hC0 hYd h0
        have hWs := hW.size
        refine (reached1_in 2 (by omega) l Wc.heap.size _ _ _ _ sd next (chC Bm (.slice al next.length cl)) (fun pre W => ∃ fs : List (Fin next.length), fs.map Fin.val = pre ∧ J fs W) W ?_ ?_ ?_ (kA.below hW kA.lt) (kB.below hW kB.lt) (hlsd.below (hW.mono (by omega))) ((hlnc.below hBY).below (hW.mono (by omega))) ?_ (by omega) hC0 (by omega) (by omega) hks hnk ⟨[], rfl, h0⟩).mono ?_
        · rintro s A A' row k ⟨fs, -, h⟩ hg hr hc
          exact hCb fs A A' row k h hg hr hc
        · rintro pre x W1 ⟨fs, hfs, h⟩ hl hx
          obtain ⟨fn, tmps, assign, body, hy, hR⟩ := hYd fs ⟨x, hx⟩ W1 h (by rw [← hfs] at hl; simpa using hl)
          refine ⟨fn, tmps, assign, body, hy, hR.mono ?_⟩
          rintro e W' ⟨rfl, h1, h2⟩
          exact ⟨rfl, ⟨_, by simp [hfs], h1⟩, h2⟩
        · rintro s A A' row ⟨fs, hfs, h⟩ hg hr
          exact ⟨fs, hfs, hJ fs A A' row h hg hr⟩
        · rintro k hk ⟨-, hc | hc⟩
          · omega
          · have := hgl k hc
            omega
        · rintro e W' ⟨⟨v, rfl⟩, xs, rfl, fs, hfs, h⟩
          exact ⟨⟨_, rfl⟩, fs, hfs, h⟩
      refine (wpIn_wide (n := 3)).1 (wpIn_rangeFunc_cells (α := Fin next.length) rfl (by omega) rfl trivial (enters_of Try.func61 (by kernel_rfl) rfl) (chC_put Bm _) (chC_cl Bm _) (chC_alloc Bm _) (chC_lt Bm _ _) hseq (Below.refl _ _) (fun _ => rfl)
        (fun pre W => ChI w Wc.heap.size Bm Bn Bl BX (.slice an next.length cn) (.slice al next.length cl) (.slice aa sd.length ca) (.slice ab ls.length cb) next ((pre.map Fin.val).foldl (stepC next) (next.map (carry sd ls))) pre.length W) (fun pre A A' row h hg hr => h.turn (Z := Y.heap.size) (by omega) (by omega) (by omega) (by omega) (by omega) hg hr) (fun pre A A' row k h hg hr hc => h.mine hc) hI0
        ?a1 ?assign ?body ?done)
      case assign =>
        intro l x W K hK
        gi_wp2
        exact hK
      case body =>
        intro l pre x wr hR hl
        obtain ⟨q, hq⟩ := x
        refine wpIn_block (wpIn_veil (fun Q9 hQ9 => wpIn_seq ?_))
        replace hQ9 := Lib.hid hQ9
        obtain ⟨L, hL0⟩ : ∃ L, (pre.map Fin.val).foldl (stepC next) (next.map (carry sd ls)) = L := ⟨_, rfl⟩
        have hfold : ((pre ++ [(⟨q, hq⟩ : Fin next.length)]).map Fin.val).foldl (stepC next) (next.map (carry sd ls)) = stepC next L q := by
          rw [List.map_append, List.foldl_append, hL0]
          rfl
        have hplen : (pre ++ [(⟨q, hq⟩ : Fin next.length)]).length = pre.length + 1 := by simp
        rw [hfold, hplen] at hQ9
        rw [hL0] at hR
        clear hfold hplen hL0 hseq hI0
        have hpl : pre.length < 19 := by omega
        obtain ⟨ml, hml⟩ : ∃ m, pre.length = m := ⟨_, rfl⟩
        rw [hml] at hR hpl hQ9
        clear hml hl
        have c12 : wr.cell? ⟨Bm, 0, none⟩ = some (.int .i64 (ml : Nat)) := hR.many.cell 0
        have f12 := hR.many.frozen 0
        have hwm : IntKind.i64.wrap ((ml : Int) + 1) = (ml : Int) + 1 := wrap_in7 (by omega) (by omega)
        have hgm := grown_setCell wr Bm 0 (.int .i64 ((ml : Int) + 1))
        have hR1 := hR.more (by omega) (by omega)
        rw [show ((ml + 1 : Nat) : Int) = (ml : Int) + 1 from by omega] at hR1
        have hqI : (q : Int) < (next.length : Int) := by omega
        have hqc : (q : Int) ≤ (cl : Int) := by omega
        gi_wp2
        refine wpIn_mono ?_ hQ9.out
        obtain ⟨Wm, hWm⟩ : ∃ W, wr.setCell ⟨Bm, 0, none⟩ (.int .i64 ((ml : Int) + 1)) = W := ⟨_, rfl⟩
        rw [hWm] at hgm hR1
        rw [hWm]
        clear hWm c12 f12
        obtain ⟨g, rfl, -⟩ := ownsRow_pos hR.row (by omega)
        obtain ⟨b, off, cap', i2, x2, y2, r2, t2, u2, hv, hget, hbl, hzc⟩ := hR1.lst.get hq
        simp only [Value.slice.injEq, true_and] at hv
        obtain ⟨rfl, rfl⟩ := hv
        obtain ⟨un, hune⟩ : ∃ u, untL (L.take q) ⟨i2, x2, y2, r2, t2, u2⟩ = u := ⟨_, rfl⟩
        have hstep : stepC next L q = setU L q un := by
          unfold stepC
          rw [getElem!_pos next q hq]
          rw [List.getElem?_eq_getElem hq] at hget
          rw [Option.some.inj hget, hune]
        have hun : ∀ W, Below Wm.heap.size Wm W → Calls Try.prog 30 #[.slice (some ⟨g, 0, none⟩) q cl, .agg #[.int .i64 i2, .int .i64 x2, .int .i64 y2, .int .i64 r2, .string t2, .int .i64 u2]] W fun e w' => e = .returned (.int .i64 un) ∧ Below W.heap.size W w' := fun W hb => by
          rw [← hune]
          refine until_any _ (L.take q) ⟨i2, x2, y2, r2, t2, u2⟩ W ?_
          have h1 := ownsRow_up hR1.row hb
          rw [← hR1.len] at h1
          exact (lst_of_row lbOk h1 (by have := hR1.len; omega)).take q (by have := hR1.len; omega)
        rw [hstep]
        refine wpIn_region_calls (by rintro ⟨a, w0, h⟩; cases h.1) ?h0 10 (by kernel_rfl) (by kernel_rfl) (fun _ W' => ChR Wm Bn Bl b off q (.slice (some ⟨b, off, none⟩) next.length cn) (.slice (some ⟨g, 0, none⟩) next.length cl) ⟨i2, x2, y2, r2, t2, u2⟩ W') (fun w0 w' => Below w0.heap.size w0 w') (FCh Wm next Bn Bl b off q g cn cl i2 x2 y2 r2 u2 un t2) (fun _ _ _ _ h g => h.kept g) ⟨(Below.refl _ _).drew, hR1.bl.cell 0, hR1.bn.cell 0, ⟨hzc.c0, hzc.c1, hzc.c2, hzc.c3, hzc.c4, hzc.c5⟩, by have := hR1.bl.lt; have := hR1.bcl; omega⟩ ?step ?tail
        case h0 =>
          intro i o ho ρ
          match i, ho with
          | 0, ho => cases ho; rfl
          | 1, ho => cases ho; rfl
          | 2, ho => cases ho; rfl
          | 3, ho => cases ho; rfl
          | 4, ho => cases ho; rfl
          | 5, ho => cases ho; rfl
          | 6, ho => cases ho; rfl
          | 7, ho => cases ho; rfl
          | 8, ho => cases ho; rfl
          | 9, ho => cases ho; rfl
          | 10, ho => cases ho; rfl
          | 11, ho => cases ho; rfl
          | 12, ho => cases ho; rfl
          | i + 13, ho => simp at ho
        case step =>
          clear hR hR1 hgm hzc hstep hune hget hlnc hsdc hlsc hXc kN kX hls hsd kA kB hlsd hBY hBc
          intro i o hi ho c bb W hc hM hA hD K hK
          match i, hi, ho with
          | 0, _, ho =>
            cases ho
            have f8 : bb.tmps[8]?.getD undef = .pointer (some ⟨Bl, 0, none⟩) := evalAt (v := .pointer (some ⟨Bl, 0, none⟩)) (hA.at_ (k := 8) (by kernel_rfl))
            have z0 : W.cell? ⟨Bl, 0, none⟩ = some (.slice (some ⟨g, 0, none⟩) next.length cl) := hM.bl
            go_simp
            exact hK (.slice (some ⟨g, 0, none⟩) next.length cl) W rfl (Below.refl _ _) hM
          | 1, _, ho =>
            cases ho
            have f13 : bb.tmps[13]?.getD undef = .int .i64 (q : Nat) := evalAt (v := .int .i64 (q : Nat)) (hA.at_ (k := 13) (by kernel_rfl))
            go_simp
            exact hK (.int .i64 (q : Nat)) W rfl (Below.refl _ _) hM
          | 2, _, ho =>
            cases ho
            have f8 : bb.tmps[8]?.getD undef = .pointer (some ⟨Bl, 0, none⟩) := evalAt (v := .pointer (some ⟨Bl, 0, none⟩)) (hA.at_ (k := 8) (by kernel_rfl))
            have z0 : W.cell? ⟨Bl, 0, none⟩ = some (.slice (some ⟨g, 0, none⟩) next.length cl) := hM.bl
            go_simp
            exact hK (.slice (some ⟨g, 0, none⟩) next.length cl) W rfl (Below.refl _ _) hM
          | 3, _, ho =>
            cases ho
            have f13 : bb.tmps[13]?.getD undef = .int .i64 (q : Nat) := evalAt (v := .int .i64 (q : Nat)) (hA.at_ (k := 13) (by kernel_rfl))
            go_simp
            exact hK (.int .i64 (q : Nat)) W rfl (Below.refl _ _) hM
          | 4, _, ho =>
            cases ho
            have f60 : bb.tmps[60]?.getD undef = .slice (some ⟨g, 0, none⟩) next.length cl := evalAt (v := .slice (some ⟨g, 0, none⟩) next.length cl) (dep_at hD 2 60 (by kernel_rfl) rfl rfl)
            have f61 : bb.tmps[61]?.getD undef = .int .i64 (q : Nat) := evalAt (v := .int .i64 (q : Nat)) (dep_at hD 3 61 (by kernel_rfl) rfl rfl)
            go_simp
            exact hK (.slice (some ⟨g, 0, none⟩) q cl) W rfl (Below.refl _ _) hM
          | 5, _, ho =>
            cases ho
            have f7 : bb.tmps[7]?.getD undef = .pointer (some ⟨Bn, 0, none⟩) := evalAt (v := .pointer (some ⟨Bn, 0, none⟩)) (hA.at_ (k := 7) (by kernel_rfl))
            have z0 : W.cell? ⟨Bn, 0, none⟩ = some (.slice (some ⟨b, off, none⟩) next.length cn) := hM.bn
            go_simp
            exact hK (.slice (some ⟨b, off, none⟩) next.length cn) W rfl (Below.refl _ _) hM
          | 6, _, ho =>
            cases ho
            have f13 : bb.tmps[13]?.getD undef = .int .i64 (q : Nat) := evalAt (v := .int .i64 (q : Nat)) (hA.at_ (k := 13) (by kernel_rfl))
            go_simp
            exact hK (.int .i64 (q : Nat)) W rfl (Below.refl _ _) hM
          | 7, _, ho =>
            cases ho
            have f63 : bb.tmps[63]?.getD undef = .slice (some ⟨b, off, none⟩) next.length cn := evalAt (v := .slice (some ⟨b, off, none⟩) next.length cn) (dep_at hD 5 63 (by kernel_rfl) rfl rfl)
            have f64 : bb.tmps[64]?.getD undef = .int .i64 (q : Nat) := evalAt (v := .int .i64 (q : Nat)) (dep_at hD 6 64 (by kernel_rfl) rfl rfl)
            go_simp
            exact hK (.pointer (some ⟨b, off + q * 6, none⟩)) W rfl (Below.refl _ _) hM
          | 8, _, ho =>
            cases ho
            have f65 : bb.tmps[65]?.getD undef = .pointer (some ⟨b, off + q * 6, none⟩) := evalAt (v := .pointer (some ⟨b, off + q * 6, none⟩)) (dep_at hD 7 65 (by kernel_rfl) rfl rfl)
            have z0 : W.cell? ⟨b, off + q * 6, none⟩ = some (.int .i64 i2) := hM.lc.c0
            have z1 : W.cell? ⟨b, off + q * 6 + 1, none⟩ = some (.int .i64 x2) := hM.lc.c1
            have z2 : W.cell? ⟨b, off + q * 6 + 2, none⟩ = some (.int .i64 y2) := hM.lc.c2
            have z3 : W.cell? ⟨b, off + q * 6 + 3, none⟩ = some (.int .i64 r2) := hM.lc.c3
            have z4 : W.cell? ⟨b, off + q * 6 + 4, none⟩ = some (.string t2) := hM.lc.c4
            have z5 : W.cell? ⟨b, off + q * 6 + 5, none⟩ = some (.int .i64 u2) := hM.lc.c5
            go_simp
            exact hK (.agg #[.int .i64 i2, .int .i64 x2, .int .i64 y2, .int .i64 r2, .string t2, .int .i64 u2]) W rfl (Below.refl _ _) hM
          | 9, _, ho =>
            cases ho
            have f62 : bb.tmps[62]?.getD undef = .slice (some ⟨g, 0, none⟩) q cl := evalAt (v := .slice (some ⟨g, 0, none⟩) q cl) (dep_at hD 4 62 (by kernel_rfl) rfl rfl)
            have f66 : bb.tmps[66]?.getD undef = .agg #[.int .i64 i2, .int .i64 x2, .int .i64 y2, .int .i64 r2, .string t2, .int .i64 u2] := evalAt (v := .agg #[.int .i64 i2, .int .i64 x2, .int .i64 y2, .int .i64 r2, .string t2, .int .i64 u2]) (dep_at hD 8 66 (by kernel_rfl) rfl rfl)
            go_simp
            refine (hun W hM.bel).mono ?_
            rintro e W' ⟨rfl, hb⟩
            go_simp
            exact hK (.int .i64 un) W' rfl hb (hM.up hb)
          | i + 10, hi, _ => exact absurd hi (by omega)
        case tail =>
          intro bb W' hM hA hall
          have hP0 : bb.eval (.tmp 58) = .slice (some ⟨g, 0, none⟩) next.length cl := hall 0 (by omega) _ _ rfl rfl
          have hP1 : bb.eval (.tmp 59) = .int .i64 (q : Nat) := hall 1 (by omega) _ _ rfl rfl
          have hP9 : bb.eval (.tmp 67) = .int .i64 un := hall 9 (by omega) _ _ rfl rfl
          have hfr := hA.frame [true, true, true, true, true, true, true, true, true, true, true, true, true, true, true, true, true, true, true, true, true, true, true, true, true, true, true, true, true, true, true, true, true, true, true, true, true, true, true, true, true, true, true, true, true, true, true, true, true, true, true, true, true, true, true, true, true, true, false, false, false, false, false, false, false, false, false, false, true, true, true, true, true, true, true, true, true, true, true] _ rfl (by kernel_rfl)
          clear hall hA hQ9 hun
          obtain ⟨f, hf⟩ : ∃ f : Nat → Value, (fun k => bb.tmps.getD k undef) = f := ⟨_, rfl⟩
          have g58 : f 58 = .slice (some ⟨g, 0, none⟩) next.length cl := by rw [← hf, ← hP0]; rfl
          have g59 : f 59 = .int .i64 (q : Nat) := by rw [← hf, ← hP1]; rfl
          have g67 : f 67 = .int .i64 un := by rw [← hf, ← hP9]; rfl
          rw [hf] at hfr
          clear hf hP0 hP1 hP9
          subst hfr
          simp only [pickL, g58, g59, g67, Nat.reduceAdd]
          clear g58 g59 g67
          simp only [List.drop_succ_cons, List.drop_zero]
          have hR2 := hR1.up hM.bel
          obtain ⟨⟨gv, hgv⟩, hgf⟩ := ownsRow_cellF hR2.row (j := q * 6 + 5) (by omega)
          have hR3 := hR2.anew hq un
          have hg3 := grown_setCell W' g (q * 6 + 5) (.int .i64 un)
          have hcg := hR.cg (g := g) rfl
          have hcm := hR.cm
          have hkeep : KeepC (chC Bm (Value.slice (some ⟨g, 0, none⟩) next.length cl)) wr (W'.setCell ⟨g, q * 6 + 5, none⟩ (.int .i64 un)) := by
            have z1 := hgm.size
            have z2 := hM.bel.size
            refine ⟨Nat.le_trans z1 (Nat.le_trans z2 hg3.size), fun k hk hn => ?_, fun k hk => .inl (hR.mine hk)⟩
            exact (hg3.block k (by omega) (fun e => hn (by cases e; exact hcg))).trans ((hM.bel.block k (by omega)).trans (hgm.block k hk (fun e => hn (by cases e; exact hcm))))
          replace hR3 := Lib.hid hR3
          replace hkeep := Lib.hid hkeep
          clear hR2 hR1 hR hM hg3 hgm hzc hcg hcm
          go_wp2_with fail
          exact ⟨by trivial, hkeep.out, hR3.out⟩
      case done =>
        intro D xs W hD hS hR hK
        rw [hS] at hR
        have hxl : xs.length = (reachI sd next next.length).length := by rw [← hS, List.length_map]
        rw [hxl] at hR
        clear hseq hI0
        have hend : (reachI sd next next.length).foldl (stepC next) (next.map (carry sd ls)) = chgL sd ls next := rfl
        rw [hend] at hR
        have hcl9 := chgL_len sd ls next
        obtain ⟨fin, hfin⟩ : ∃ f, chgL sd ls next = f := ⟨_, rfl⟩
        obtain ⟨many, hmany⟩ : ∃ m, (reachI sd next next.length).length = m := ⟨_, rfl⟩
        rw [hfin] at hR hcl9
        rw [hmany] at hR
        replace hcl9 := Lib.hid hcl9
        have hRH := Lib.hid hR
        have c12 : W.cell? ⟨Bm, 0, none⟩ = some (.int .i64 (many : Nat)) := hR.many.cell 0
        have n0 : W.cell? ⟨Bn, 0, none⟩ = some (.slice an next.length cn) := hR.bn.cell 0
        have l0 : W.cell? ⟨Bl, 0, none⟩ = some (.slice al next.length cl) := hR.bl.cell 0
        have x0 : W.cell? ⟨BX, 0, none⟩ = some (.slice aa sd.length ca) := hR.bx.cell 0
        have x1_ : W.cell? ⟨BX, 1, none⟩ = some (.slice ab ls.length cb) := hR.bx.cell 1
        have f0 := hR.bx.frozen 0
        have f1 := hR.bx.frozen 1
        clear hR hS hxl
        have mixed : Try.prog.follows .mixedOrders = true := by kernel_rfl
        have hne : ¬ Bm = BX := by omega
        have hne2 : ¬ BX = Bm := by omega
        go_wp2_with fail
        go_big_region_o
        all_goals go_wp2_with fail
        obtain ⟨Wz, hWz⟩ : ∃ W', ((W.setCell ⟨BX, 0, none⟩ (.slice an next.length cn)).setCell ⟨BX, 1, none⟩ (.slice al next.length cl)).drew = W' := ⟨_, rfl⟩
        have hR := hRH.out
        have hgz0 := grown_trans (grown_setCell W BX 0 (.slice an next.length cn)) (grown_setCell _ BX 1 (.slice al next.length cl))
        have hgz : W.grownBy Wz (some BX) := by
          rw [← hWz]
          exact ⟨hgz0.os, hgz0.tape, hgz0.output, hgz0.size, hgz0.block⟩
        have kXz : Blk Wz BX #[.slice an next.length cn, .slice al next.length cl] 45 := by
          rw [← hWz]
          have h1 := ((hR.bx.set 0 (.slice an next.length cn)).set 1 (.slice al next.length cl)).drew
          simpa using h1
        rw [hWz]
        clear hWz hgz0
        have hDl := (Array.getElem?_eq_some_iff.1 hK).1
        have hKz : Wz.heap[D]? = some (.deferred (some [])) := (hgz.block D hDl (fun e => by cases e; have := hR.bx.lt; have := hBY.size; omega)).trans hK
        refine ⟨by simp, .inl ⟨_, _, rfl, run_takeDeferred hKz, ?_⟩⟩
        have hg1 := grownBy_putObj' Wz D (.deferred none)
        have hgn : ∀ {B : Nat} {c : Array Value} {t : TypeId}, Blk Wz B c t → some D ≠ some B := fun hk e => by
          cases e
          have := hKz.symm.trans hk
          simp at this
        have hlv1 := (hR.row.kept hgz (.inr (ownsRow_other hR.row hR.bx (by decide))))
        have hlv2 := ownsRow_turn hlv1 hg1 (fun r e => by cases e; exact ⟨_, hKz, fun cur e => by cases e⟩)
        have hbcW : Wc.heap.size ≤ W.heap.size := by have := hR.bl.lt; have := hR.bcl; omega
        have hgk : ∀ b, b < Wc.heap.size → b ≠ BX → (Wz.putObj D (.deferred none)).heap[b]? = W.heap[b]? := fun b hb hn => by
          have h1 := hgz.size
          exact (hg1.block b (by omega) (fun e => by cases e; have := hBY.size; omega)).trans (hgz.block b (by omega) (fun e => hn (by cases e; rfl)))
        have hnx0 := hR.nx.kept hgz (.inr (ownsRow_other hR.nx hR.bx (by decide)))
        have hnx1 := ownsRow_turn hnx0 hg1 (fun r e => by cases e; exact ⟨_, hKz, fun cur e => by cases e⟩)
        have hWzs : Wc.heap.size ≤ (Wz.putObj D (.deferred none)).heap.size := Nat.le_trans hbcW (Nat.le_trans hgz.size hg1.size)
        refine ⟨_, results_tmp rfl _ _ _, by rw [hmany]; rfl, ⟨⟨_, _, kXz.kept hg1 (hgn kXz), ownsRow_base hnx1 (Nat.zero_le _), by rw [hfin, hcl9.out]; exact ownsRow_base hlv2 (Nat.zero_le _)⟩, by rw [hfin]; exact hcl9.out.symm, hn19⟩, ?_⟩
        have hgw := hR.below
        refine ⟨hg1.os.trans (hgz.os.trans hgw.os), hg1.tape.trans (hgz.tape.trans hgw.tape), hg1.output.trans (hgz.output.trans hgw.output), Nat.le_trans hgw.size (Nat.le_trans hgz.size hg1.size), fun k hk hn => ?_⟩
        exact (hgk k (by omega) (fun e => hn (by rw [e]))).trans (hgw.block k hk)
end Go.Proofs.Ytikojanpbbiaiaa
