/-
  Chapter 24: the law's sanity walked.
-/
import Derived.Test.YtikojanpbbiaiaaZr
import Derived.Test.YtikojanpbbiaiaaZl
import Derived.Test.YtikojanpbbiaiaaZs

namespace Go.Proofs.Ytikojanpbbiaiaa
set_option linter.unusedVariables false
set_option linter.unusedSimpArgs false
open Go Go.RowKit Go.Shelf Go.Lib
attribute [local go_sem] Oper.semAt_some
attribute [local go_sem ↓] Go.wp_at_zero Go.wp_at_succ

theorem new_row {n0 : Nat} {pv : Value} {l : List Pc} {next fin : List Lb} {W : World} (hr : W.ownsRow n0 41 7 pv l.length (l.flatMap plE.enc)) (hl : l.length ≤ 19) (hok : ∀ p ∈ l, PcOk p) (h1 : seedsL l = next) (h3 : chgL [] [] next = fin) (v1 v2 v3 : Value) :
    Calls Try.prog 8 #[.agg #[v1, v2, v3, pv], .slice none 0 0] W fun e w' => ∃ BX, e = .returned (.pointer (some ⟨BX, 0, none⟩)) ∧ W.heap.size ≤ BX ∧ LabS w' BX next fin ∧ Below W.heap.size W w' := by
  subst h1 h3
  exact new_any v1 v2 v3 pv l W (lst_of_row plOk hr (by omega)) (frm_row hr) hl (queueL_all l PcOk hok)
theorem exS_eq : seedsL exP = exS := seedsL_C exP
theorem exS2_eq : seedsL exP2 = exS := (seedsL_C exP2).trans ex_3
theorem exS3_eq : seedsL exP3 = exS3 := seedsL_C exP3
theorem exS4_eq : seedsL exP4 = exS4 := seedsL_C exP4
theorem exS5_eq : seedsL exP5 = exS5 := seedsL_C exP5
theorem ex_l : exL.length ≤ 19 ∧ exL3.length ≤ 19 ∧ exL4.length ≤ 19 := by decide +kernel
/-- an example came back, and lies in a box -/
theorem exBox {n0 : Nat} {w w1 : World} {pv : Value} (hn : n0 ≤ w.heap.size) (hr : w1.ownsRow w.heap.size 41 7 pv exP.length (exP.flatMap plE.enc)) : MapB n0 (w1.alloc (.cells #[.slice none 0 0, .slice none 0 0, .slice none 0 0, pv] 29)) w1.heap.size pv exP :=
  ⟨Blk.new _ _ _, ownsRow_base (ownsRow_up hr ((Below.refl _ _).alloc (Nat.le_refl _) _)) hn⟩
theorem listed8 {W : World} {base : Nat} {u : Value} {l : List Lb} (hr : W.ownsRow base 39 6 u l.length (l.flatMap lbE.enc)) (hl : l.length ≤ 19) (x0 x1 x2 x3 x4 x5 x6 x7 : Int) (hx : flatL l = [x0, x1, x2, x3, x4, x5, x6, x7]) :
    Calls Try.prog 20 #[u, .slice (some ⟨W.heap.size, 0, none⟩) 8 8] (W.alloc (.cells #[.int .i64 x0, .int .i64 x1, .int .i64 x2, .int .i64 x3, .int .i64 x4, .int .i64 x5, .int .i64 x6, .int .i64 x7] 3)) fun e w' => e = .returned (.bool true) ∧ Below W.heap.size W w' :=
  (listed hr hl [x0, x1, x2, x3, x4, x5, x6, x7] hx).mono fun _ _ ⟨h1, h2⟩ => ⟨h1, ((Below.refl _ W).alloc (Nat.le_refl _) _).trans (h2.mono (by simp))⟩
/-- what the region that appends a place reads -/
structure SmR (wr : World) (B3 : Nat) (pv : Value) (W : World) : Prop where
  bel : Below wr.heap.size wr W
  c : W.cell? ⟨B3, 3, none⟩ = some pv
theorem SmR.up {wr W W' : World} {B3 : Nat} {pv : Value} (h : SmR wr B3 pv W) (hb : Below W.heap.size W W') : SmR wr B3 pv W' := ⟨h.bel.trans (hb.mono h.bel.size), cell_below hb h.c⟩

def FSm (wr : World) (B3 c3 : Nat) (a3 : Option Addr) (i : Nat) (v : Value) (w : World) : Prop :=
  match i with
  | 0 => v = .pointer (some ⟨B3, 3, none⟩)
  | 1 => v = .slice a3 4 c3
  | 2 => v = .agg #[.int .i64 5, .int .i64 1, .int .i64 1, .string treeB, .string ⟨#[]⟩, .int .i64 7, .int .i64 1]
  | 3 => ∃ L, v = .slice (some ⟨L, 0, none⟩) 1 1 ∧ wr.heap.size ≤ L ∧ Blk w L #[.int .i64 5, .int .i64 1, .int .i64 1, .string treeB, .string ⟨#[]⟩, .int .i64 7, .int .i64 1] 41
  | _ => False
theorem FSm.kept {wr : World} {B3 c3 : Nat} {a3 : Option Addr} {i : Nat} {v : Value} {w w' : World} (h : FSm wr B3 c3 a3 i v w) (hg : Below w.heap.size w w') : FSm wr B3 c3 a3 i v w' := by
  unfold FSm at *
  split at h
  all_goals first | exact h | (obtain ⟨L, h1, h2, h3⟩ := h; exact ⟨L, h1, h2, h3.below hg h3.lt⟩)
/-- what the region that makes two *Labels reads -/
structure MpR (wr : World) (b : Nat) (pv : Value) (W : World) : Prop where
  bel : Below wr.heap.size wr W
  k : Blk W b #[.slice none 0 0, .slice none 0 0, .slice none 0 0, pv] 29
theorem MpR.up {wr W W' : World} {b : Nat} {pv : Value} (h : MpR wr b pv W) (hb : Below W.heap.size W W') : MpR wr b pv W' := ⟨h.bel.trans (hb.mono h.bel.size), h.k.below hb h.k.lt⟩

def FNw (wr : World) (b1 c1 : Nat) (a1 : Option Addr) (i : Nat) (v : Value) (w : World) : Prop :=
  match i with
  | 0 => v = .agg #[.slice none 0 0, .slice none 0 0, .slice none 0 0, .slice a1 4 c1]
  | 1 => ∃ B, v = .pointer (some ⟨B, 0, none⟩) ∧ wr.heap.size ≤ B ∧ LabS w B exS exL
  | 2 => v = .agg #[.slice none 0 0, .slice none 0 0, .slice none 0 0, .slice a1 4 c1]
  | _ => False
theorem FNw.kept {wr : World} {b1 c1 : Nat} {a1 : Option Addr} {i : Nat} {v : Value} {w w' : World} (h : FNw wr b1 c1 a1 i v w) (hg : Below w.heap.size w w') : FNw wr b1 c1 a1 i v w' := by
  unfold FNw at *
  split at h
  all_goals first | exact h | (obtain ⟨B, h1, h2, h3⟩ := h; exact ⟨B, h1, h2, h3.below hg⟩)
abbrev elmP : Pc := ⟨1, 0, 0, treeB, ⟨#[69, 108, 109]⟩, 5, 1⟩
/-- what the last region reads, by stages: 0, 1 (the second append is done), 2 (Change is done) -/
structure MzR (wr : World) (b g1 Bz : Nat) (pv : Value) (g : Nat) (W : World) : Prop where
  gr : wr.grownBy W (some Bz)
  c3 : W.cell? ⟨b, 3, none⟩ = some pv
  p : PlC W g1 0 elmP
  bel : g ≤ 1 → Below wr.heap.size wr W
  lab : g ≤ 1 → LabS W Bz exS exL
theorem PlC.below {W W' : World} {b o : Nat} {p : Pc} (h : PlC W b o p) (hb : Below W.heap.size W W') : PlC W' b o p := ⟨cell_below hb h.c0, cell_below hb h.c1, cell_below hb h.c2, cell_below hb h.c3, cell_below hb h.c4, cell_below hb h.c5, cell_below hb h.c6⟩
theorem MzR.up {wr W W' : World} {b g1 Bz g : Nat} {pv : Value} (h : MzR wr b g1 Bz pv g W) (hb : Below W.heap.size W W') : MzR wr b g1 Bz pv g W' :=
  ⟨⟨hb.os.trans h.gr.os, hb.tape.trans h.gr.tape, hb.output.trans h.gr.output, Nat.le_trans h.gr.size hb.size, fun k hk hn => (hb.block k (Nat.lt_of_lt_of_le hk h.gr.size)).trans (h.gr.block k hk hn)⟩, cell_below hb h.c3, h.p.below hb, fun e => (h.bel e).trans (hb.mono h.gr.size), fun e => (h.lab e).below hb⟩
theorem MzR.push {wr W W' : World} {b g1 Bz g gu cu : Nat} {pv : Value} {xs : List Value} (h : MzR wr b g1 Bz pv g W) (hb : b < wr.heap.size) (hgl : g1 < wr.heap.size) (hg0 : g = 0) (hg : W.grownBy W' (Value.slice (some ⟨gu, 0, none⟩) 1 cu).ownBlock) (hbw : Below wr.heap.size W W') (hr : W.ownsRow wr.heap.size 41 7 (.slice (some ⟨gu, 0, none⟩) 1 cu) 1 xs) : MzR wr b g1 Bz pv 1 W' := by
  have hbel := (h.bel (by omega)).trans hbw
  have hc : ∀ i, W'.cell? ⟨g1, i, none⟩ = W.cell? ⟨g1, i, none⟩ := fun i => hbw.cell (p := ⟨g1, i, none⟩) hgl
  exact ⟨⟨hbel.os, hbel.tape, hbel.output, hbel.size, fun k hk _ => hbel.block k hk⟩, (hbw.cell (p := ⟨b, 3, none⟩) hb).trans h.c3, ⟨(hc _).trans h.p.c0, (hc _).trans h.p.c1, (hc _).trans h.p.c2, (hc _).trans h.p.c3, (hc _).trans h.p.c4, (hc _).trans h.p.c5, (hc _).trans h.p.c6⟩, fun _ => hbel,
    fun _ => (h.lab (by omega)).turn hg (fun k e => by obtain ⟨c, hc⟩ := row_blk hr e; exact ⟨c, _, hc, by decide, by decide⟩)⟩
theorem cell_kept {W W' : World} {b i B : Nat} {v : Value} (hg : W.grownBy W' (some B)) (h : W.cell? ⟨b, i, none⟩ = some v) (hne : b ≠ B) : W'.cell? ⟨b, i, none⟩ = some v :=
  (cell_same (hg.block b (World.block_lt_of_cell? _ _ h) (fun e => hne (by cases e; rfl)))).trans h
theorem MzR.fin {wr W W' : World} {b g1 Bz g : Nat} {pv : Value} (h : MzR wr b g1 Bz pv g W) (hg : W.grownBy W' (some Bz)) (hb : b ≠ Bz) (hgz : g1 ≠ Bz) : MzR wr b g1 Bz pv 2 W' :=
  ⟨grown_trans h.gr hg, cell_kept hg h.c3 hb, ⟨cell_kept hg h.p.c0 hgz, cell_kept hg h.p.c1 hgz, cell_kept hg h.p.c2 hgz, cell_kept hg h.p.c3 hgz, cell_kept hg h.p.c4 hgz, cell_kept hg h.p.c5 hgz, cell_kept hg h.p.c6 hgz⟩, fun e => by omega, fun e => by omega⟩
theorem evalEq {b : Act} {k : Nat} {v : Value} (h : b.tmps[k]?.getD undef = v) : b.eval (.tmp k) = v := by
  simpa [Act.eval] using h
section
variable {α : Type} {E : El α} {P : Program} {st : TypeId} {w : World} {l : List α}
theorem El.step_pushL (hE : E.Ok) (hI : E.In P st) {o : Oper} {a : Act} {K : Act → World → Prop} {Q : Exit → Act → World → Prop} (_hgd : o.guard = none) (sO xO : Operand) (ho : o.op = .call { callee := .builtin .append, args := #[sO, xO], argTypes := #[st, st] })
    {base : Nat} {v : Value} (hs : a.eval sO = v) (hrow : w.ownsRow base E.t E.s v l.length (l.flatMap E.enc)) (l2 : List α) {u : Value} {n0 : Nat} (hx : a.eval xO = u) (hL : Lst E n0 w u l2) (hpos : 0 < l2.length) (hbase : base ≤ w.heap.size) (hl : l.length + l2.length ≤ 100000)
    (h : ∀ v' w', w'.ownsRow base E.t E.s v' (l ++ l2).length ((l ++ l2).flatMap E.enc) → (∃ a c, v' = .slice a (l.length + l2.length) c) → w.grownBy w' v.ownBlock → Below base w w' → K (a.put o.dst v') w') : Oper.wp P o a w K Q := by
  obtain ⟨i, z, hi, hz, hsz, hby, hzs⟩ := hI.info
  obtain ⟨b, off, cap, rfl, hcap, hbn, -⟩ := hL.some_ hpos
  refine wp_append_lies w sO xO st ho base E.t i z E.s i.bytes hI.under hi hz hsz rfl hzs hE.pos v l.length _ hs hrow ⟨b, off, none⟩ l2.length cap (l2.flatMap E.enc) hx (flat_length hE l2) ?_ (flat_one hE l2) hpos (by unfold maxLen; omega) (Nat.le_trans (Nat.mul_le_mul hl hby) (by decide)) hbase _ rfl ?_
  · intro j u hj
    rw [Addr.add_lit]
    exact hL.flat hE j u hj
  · intro g cap' w' hown hg hgo hlt
    refine h _ w' ?_ ⟨_, _, rfl⟩ hg (below_of_grown hg hbase (fun k e => (hrow.lt k e).1))
    simpa [List.flatMap_append] using hown
end
abbrev stZ (s : Array Bool) : Nat := if s.getD 13 false then 2 else if s.getD 11 false then 1 else 0
theorem stZ_other (s : Array Bool) (i : Nat) (h1 : i ≠ 11) (h2 : i ≠ 13) : stZ (s.setIfInBounds i true) = stZ s := by
  unfold stZ
  rw [getD_set_ne false h2, getD_set_ne false h1]

def FZz (wr : World) (b1 Bz g1 c1 : Nat) (i : Nat) (v : Value) (g : Nat) (w : World) : Prop :=
  match i with
  | 0 => v = .pointer (some ⟨Bz, 0, none⟩)
  | 1 => ∃ Z, v = .slice (some ⟨Z, 0, none⟩) 0 0 ∧ wr.heap.size ≤ Z ∧ (g = 0 → Blk w Z #[] 41)
  | 2 => v = .pointer (some ⟨b1, 3, none⟩)
  | 3 => v = .slice (some ⟨g1, 0, none⟩) 4 c1
  | 4 => v = .pointer (some ⟨g1, 0, none⟩)
  | 5 => v = .agg #[.int .i64 1, .int .i64 0, .int .i64 0, .string treeB, .string ⟨#[69, 108, 109]⟩, .int .i64 5, .int .i64 1]
  | 6 => ∃ L, v = .slice (some ⟨L, 0, none⟩) 1 1 ∧ wr.heap.size ≤ L ∧ (g = 0 → Blk w L #[.int .i64 1, .int .i64 0, .int .i64 0, .string treeB, .string ⟨#[69, 108, 109]⟩, .int .i64 5, .int .i64 1] 41)
  | 7 => ∃ gu cap, v = .slice (some ⟨gu, 0, none⟩) 1 cap ∧ (g = 0 → w.ownsRow wr.heap.size 41 7 v 1 (plE.enc elmP))
  | 8 => v = .pointer (some ⟨b1, 3, none⟩)
  | 9 => v = .slice (some ⟨g1, 0, none⟩) 4 c1
  | 10 => v = .slice (some ⟨g1, 14, none⟩) 2 (c1 - 2)
  | 11 => ∃ a c, v = .slice a 3 c ∧ 1 ≤ g ∧ (g = 1 → w.ownsRow wr.heap.size 41 7 v exP5.length (exP5.flatMap plE.enc))
  | 12 => ∃ a c, v = .agg #[.slice none 0 0, .slice none 0 0, .slice none 0 0, .slice a 3 c] ∧ 1 ≤ g ∧ (g = 1 → w.ownsRow wr.heap.size 41 7 (.slice a 3 c) exP5.length (exP5.flatMap plE.enc))
  | 13 => v = .int .i64 2
  | 14 => v = .bool true
  | _ => False
theorem FZz.kept {wr : World} {b1 Bz g1 c1 : Nat} {i : Nat} {v : Value} {g g' : Nat} {w w' : World} (h : FZz wr b1 Bz g1 c1 i v g w) (hg : g ≤ g' ∧ (g' = g → Below w.heap.size w w')) : FZz wr b1 Bz g1 c1 i v g' w' := by
  unfold FZz at *
  split at h
  all_goals first | exact h | (obtain ⟨L, h1, h2, h3⟩ := h; exact ⟨L, h1, h2, fun e => by have e0 : g = 0 := (by omega); exact (h3 e0).below (hg.2 (by omega)) (h3 e0).lt⟩) | (obtain ⟨gu, cap, h1, h2⟩ := h; exact ⟨gu, cap, h1, fun e => by have e0 : g = 0 := (by omega); exact ownsRow_up (h2 e0) (hg.2 (by omega))⟩) | (obtain ⟨a, c, h1, h2, h3⟩ := h; exact ⟨a, c, h1, by omega, fun e => by have e0 : g = 1 := (by omega); exact ownsRow_up (h3 e0) (hg.2 (by omega))⟩)
theorem turn_below {w W W' : World} {BX : Nat} (hB : Below w.heap.size w W) (hg : W.grownBy W' (some BX)) (hb : w.heap.size ≤ BX) : Below w.heap.size w W' := hB.trans (below_of_grown hg hB.size (fun k e => by cases e; exact hb))
set_option maxRecDepth 100000 in
set_option maxHeartbeats 16000000 in
theorem sanity_any (w : World) : Calls Try.prog 6 #[] w fun e w' => e = .returned (.bool true) ∧ Below w.heap.size w w' := by
  go_enter Try.func6, Try.ntmps6
  -- m
  go_upto_region 2 with (first
    | (go_at_call 19; (with_reducible refine (example_any _).mono ?_); rintro e w1 ⟨pv, rfl, hr1, hb1⟩; obtain ⟨a1, c1, hpv, -⟩ := (lst_of_row plOk hr1 (by decide)).form; rw [show exP.length = 4 from rfl] at hpv; subst hpv)
    | fail)
  obtain ⟨n0, hn0⟩ : ∃ n, w.heap.size = n := ⟨_, rfl⟩
  have hm := exBox (n0 := n0) (by omega) hr1
  have hB := hb1.trans (show Below w.heap.size w1 (w1.alloc (.cells #[.slice none 0 0, .slice none 0 0, .slice none 0 0, .slice a1 4 c1] 29)) from (Below.refl _ _).alloc hb1.size _)
  obtain ⟨b1, hb1e⟩ : ∃ b, w1.heap.size = b := ⟨_, rfl⟩
  obtain ⟨W1, hW1⟩ : ∃ W, w1.alloc (.cells #[.slice none 0 0, .slice none 0 0, .slice none 0 0, .slice a1 4 c1] 29) = W := ⟨_, rfl⟩
  rw [hW1] at hm hB
  rw [hW1]
  rw [hb1e] at hm
  rw [hb1e]
  clear hW1 hb1e hr1 hb1
  -- x
  have m0 : W1.cell? ⟨b1, 0, none⟩ = some (.slice none 0 0) := hm.k.cell 0
  have m1 : W1.cell? ⟨b1, 1, none⟩ = some (.slice none 0 0) := hm.k.cell 1
  have m2 : W1.cell? ⟨b1, 2, none⟩ = some (.slice none 0 0) := hm.k.cell 2
  have m3 : W1.cell? ⟨b1, 3, none⟩ = some (.slice a1 4 c1) := hm.k.cell 3
  have hnew := new_row (fin := exL) hm.r (by decide) exOk1 exS_eq rfl (.slice none 0 0) (.slice none 0 0) (.slice none 0 0)
  go_upto_region 3 with (first
    | (go_at_call 8; (with_reducible refine hnew.mono ?_); rintro e W2 ⟨BX, rfl, hBX, hX, hb2⟩)
    | fail)
  have hBXn : n0 ≤ BX := by have := hB.size; omega
  replace hm := hm.up hb2
  replace hB := hB.trans (hb2.mono hB.size)
  clear m0 m1 m2 m3 hnew hb2 hBX
  -- the list; nothing changes
  have hlist := list_any BX exS exL W2 hX
  go_upto_region 5 with (first
    | (go_at_call 9; (with_reducible refine hlist.mono ?_); rintro e w3 ⟨u3, rfl, hr3, hb3⟩; obtain ⟨a3, c3, rfl, -⟩ := (lst_of_row lbOk hr3 (by have := ex_l; omega)).form; have hli := listed8 hr3 ex_l.1 2 1024 1 10 3 5 4 1024 ex_1)
    | (go_at_call 20; (with_reducible refine hli.mono ?_); rintro e w4 ⟨rfl, hb4⟩; have hb24 := hb3.trans (hb4.mono hb3.size); have hX4 := hX.below hb24; have hm4 := hm.up hb24; have hB4 := hB.trans (hb24.mono hB.size); have m0 : w4.cell? ⟨b1, 0, none⟩ = some (.slice none 0 0) := hm4.k.cell 0; have m1 : w4.cell? ⟨b1, 1, none⟩ = some (.slice none 0 0) := hm4.k.cell 1; have m2 : w4.cell? ⟨b1, 2, none⟩ = some (.slice none 0 0) := hm4.k.cell 2; have m3 : w4.cell? ⟨b1, 3, none⟩ = some (.slice a1 4 c1) := hm4.k.cell 3; have hch := change_row hX4 hm4.r (by decide) exOk1 exKey exS_eq ex_2.1 ex_2.2 (.slice none 0 0) (.slice none 0 0) (.slice none 0 0))
    | (go_at_call 10; (with_reducible refine hch.mono ?_); rintro e W5 ⟨rfl, hX5, hg5⟩)
    | fail)
  obtain ⟨cX, kXc⟩ := hX4.blk
  have hm5 := hm4.kept hg5 kXc
  have hB5 := turn_below hB4 hg5 (by omega)
  clear hX hm hB hlist hb3 hr3 hli hb4 hb24 hX4 hm4 hB4 m0 m1 m2 m3 hch hg5 kXc
  -- more
  go_upto_region 6 with (first
    | (go_at_call 19; (with_reducible refine (example_any _).mono ?_); rintro e w6 ⟨pv, rfl, hr6, hb6⟩; obtain ⟨a3, c3, hpv, -⟩ := (lst_of_row plOk hr6 (by decide)).form; rw [show exP.length = 4 from rfl] at hpv; subst hpv)
    | fail)
  have hb6' := hb6.trans (show Below W5.heap.size w6 (w6.alloc (.cells #[.slice none 0 0, .slice none 0 0, .slice none 0 0, .slice a3 4 c3] 29)) from (Below.refl _ _).alloc hb6.size _)
  have ho6 := exBox (n0 := W5.heap.size) (Nat.le_refl _) hr6
  have hl1 : ∀ g, (Value.slice a1 4 c1).ownBlock = some g → g < W5.heap.size := fun g e => (hm5.r.lt g e).2
  have hbl1 := hm5.k.lt
  have hB3g : W5.heap.size ≤ w6.heap.size := hb6.size
  have hX6 := hX5.below hb6'
  have hm6 := hm5.up hb6'
  have hB6 := hB5.trans (hb6'.mono hB5.size)
  have hB6s := Lib.hid hB5.size
  obtain ⟨B3, hB3e⟩ : ∃ b, w6.heap.size = b := ⟨_, rfl⟩
  obtain ⟨W6, hW6⟩ : ∃ W, w6.alloc (.cells #[.slice none 0 0, .slice none 0 0, .slice none 0 0, .slice a3 4 c3] 29) = W := ⟨_, rfl⟩
  rw [hW6] at ho6 hX6 hm6 hB6
  rw [hW6]
  rw [hB3e] at ho6 hB3g
  rw [hB3e]
  clear hW6 hB3e hr6 hb6 hb6' hX5 hm5 hB5
  refine Go.wp_region_rel 4 (by kernel_rfl) (by kernel_rfl) (fun _ W => SmR W6 B3 (.slice a3 4 c3) W) (fun w w' => Below w.heap.size w w') (FSm W6 B3 c3 a3) (fun _ _ _ _ h g => h.kept g) ⟨(Below.refl _ _).drew, ho6.k.cell 3⟩ ?step6 ?tail6
  case step6 =>
    clear hX6 hm6 hB6 ho6
    intro i o hi ho c bb W hc hM hA hD K hK
    match i, hi, ho with
    | 0, _, ho =>
      cases ho
      have f3 : bb.tmps[3]?.getD undef = .pointer (some ⟨B3, 0, none⟩) := evalAt (v := .pointer (some ⟨B3, 0, none⟩)) (hA.at_ (k := 3) (by kernel_rfl))
      go_simp
      exact hK (.pointer (some ⟨B3, 3, none⟩)) W rfl (Below.refl _ _) hM
    | 1, _, ho =>
      cases ho
      have f27 : bb.tmps[27]?.getD undef = .pointer (some ⟨B3, 3, none⟩) := evalAt (v := .pointer (some ⟨B3, 3, none⟩)) (dep_at hD 0 27 (by kernel_rfl) rfl rfl)
      have z0 : W.cell? ⟨B3, 3, none⟩ = some (.slice a3 4 c3) := hM.c
      go_simp
      exact hK (.slice a3 4 c3) W rfl (Below.refl _ _) hM
    | 2, _, ho =>
      cases ho
      go_simp
      refine (place_any 5 7 1 1 ⟨#[]⟩ W).mono ?_
      rintro e W' ⟨rfl, hb⟩
      go_simp
      exact hK _ W' rfl hb (hM.up hb)
    | 3, _, ho =>
      cases ho
      have f29 : bb.tmps[29]?.getD undef = .agg #[.int .i64 5, .int .i64 1, .int .i64 1, .string treeB, .string ⟨#[]⟩, .int .i64 7, .int .i64 1] := evalAt (v := .agg #[.int .i64 5, .int .i64 1, .int .i64 1, .string treeB, .string ⟨#[]⟩, .int .i64 7, .int .i64 1]) (dep_at hD 2 29 (by kernel_rfl) rfl rfl)
      go_simp
      exact hK (.slice (some ⟨W.heap.size, 0, none⟩) 1 1) _ ⟨_, rfl, hM.bel.size, Blk.new _ _ _⟩ ((Below.refl _ _).alloc (Nat.le_refl _) _) (hM.up ((Below.refl _ _).alloc (Nat.le_refl _) _))
    | i + 4, hi, _ => exact absurd hi (by omega)
  case tail6 =>
    intro bb W' hM hA hall
    have hP1 : bb.eval (.tmp 28) = .slice a3 4 c3 := hall 1 (by omega) _ _ rfl rfl
    obtain ⟨L, hP3, hLl, kL⟩ := (show ∃ L, bb.eval (.tmp 30) = .slice (some ⟨L, 0, none⟩) 1 1 ∧ W6.heap.size ≤ L ∧ Blk W' L #[.int .i64 5, .int .i64 1, .int .i64 1, .string treeB, .string ⟨#[]⟩, .int .i64 7, .int .i64 1] 41 from hall 3 (by omega) _ _ rfl rfl)
    have hfr := hA.frame [true, true, true, true, true, true, true, true, true, true, true, true, true, true, true, true, true, true, true, true, true, true, true, true, true, true, true, false, false, false, false, true, true, true, true, true, true, true, true, true, true, true, true, true, true, true, true, true, true, true, true, true, true, true, true, true, true, true, true, true, true, true, true, true, true, true, true, true, true, true, true, true, true, true, true, true, true, true, true, true, true, true, true, true, true, true, true, true, true, true, true, true, true, true, true, true, true, true] _ rfl (by kernel_rfl)
    clear hall hA
    obtain ⟨f, hf⟩ : ∃ f : Nat → Value, (fun k => bb.tmps.getD k undef) = f := ⟨_, rfl⟩
    have g28 : f 28 = .slice a3 4 c3 := by rw [← hf, ← hP1]; rfl
    have g30 : f 30 = .slice (some ⟨L, 0, none⟩) 1 1 := by rw [← hf, ← hP3]; rfl
    rw [hf] at hfr
    clear hf hP1 hP3
    subst hfr
    simp only [pickL, g28, g30, Nat.reduceAdd]
    clear g28 g30
    simp only [List.drop_succ_cons, List.drop_zero]
    have hX7 := hX6.below hM.bel
    have hm7 := hm6.up hM.bel
    have ho7 := ho6.up hM.bel
    have hB7 := hB6.trans (hM.bel.mono hB6.size)
    have hl7 := Lst.single plOk (x := ⟨5, 1, 1, treeB, ⟨#[]⟩, 7, 1⟩) kL
    clear hX6 hm6 ho6 hB6 hM kL
    go_upto_region 7 with (first
      | (at_builtin; refine El.pushL plOk plIn (by rfl) _ _ (by rfl) (by rfl) ho7.r [⟨5, 1, 1, treeB, ⟨#[]⟩, 7, 1⟩] (by rfl) hl7 (by simp) (by have := ho7.k.lt; omega) (by decide) ?_; intro v8 w8 hrow8 hf8 hg8 hb8; have kB8 := ho7.k.kept hg8 (fun e => by obtain ⟨c, hc⟩ := row_blk ho7.r e; have := ho7.k.symm.trans hc; simp at this); have c8 : w8.cell? ⟨B3, 3, none⟩ = some (.slice a3 4 c3) := kB8.cell 3; have f8 := kB8.frozen 3; obtain ⟨a8, c8', hf8⟩ := hf8; rw [show exP.length + [(⟨5, 1, 1, treeB, ⟨#[]⟩, 7, 1⟩ : Pc)].length = 5 from rfl] at hf8; subst hf8)
      | fail)
    have hg9 := grown_setCell w8 B3 3 (.slice a8 5 c8')
    have hX9 := (hX7.turn hg8 (fun k e => by obtain ⟨c, hc⟩ := row_blk ho7.r e; exact ⟨c, _, hc, by decide, by decide⟩)).turn hg9 (fun k e => by cases e; exact ⟨_, _, kB8, by decide, by decide⟩)
    have hm9 := (hm7.turn hg8 (fun e => by obtain ⟨c, hc⟩ := row_blk ho7.r e; have := hm7.k.symm.trans hc; simp at this) (fun k e hp => by have := hl1 k hp; have := (ho7.r.lt k e).1; omega)).turn hg9 (fun e => by cases e; omega) (fun k e hp => by cases e; have := hl1 B3 hp; omega)
    have ho9 : MapB W5.heap.size (w8.setCell ⟨B3, 3, none⟩ (.slice a8 5 c8')) B3 (.slice a8 5 c8') exP2 := ⟨by simpa using kB8.set 3 (.slice a8 5 c8'), hrow8.kept hg9 (.inr (ownsRow_other hrow8 kB8 (by decide)))⟩
    have hB9 := (hB7.trans (below_of_grown hg8 hB7.size (fun k e => by have := (ho7.r.lt k e).1; have := hB6s.out; omega))).grown hg9 (Nat.le_trans hB7.size hg8.size) (fun k e => by cases e; have := hB6s.out; omega)
    obtain ⟨W9, hW9⟩ : ∃ W, w8.setCell ⟨B3, 3, none⟩ (.slice a8 5 c8') = W := ⟨_, rfl⟩
    rw [hW9] at hX9 hm9 ho9 hB9
    rw [hW9]
    have hs59 : W5.heap.size ≤ W9.heap.size := by have := ho9.k.lt; omega
    clear hW9 hX7 hm7 ho7 hB7 hl7 hg8 hb8 kB8 c8 f8 hrow8 hg9 hLl
    -- other
    go_upto_region 8 with (first
      | (go_at_call 19; (with_reducible refine (example_any _).mono ?_); rintro e w10 ⟨pv, rfl, hr10, hb10⟩; obtain ⟨a4, c4, hpv, -⟩ := (lst_of_row plOk hr10 (by decide)).form; rw [show exP.length = 4 from rfl] at hpv; subst hpv)
      | fail)
    have hb10' := hb10.trans (show Below W9.heap.size w10 (w10.alloc (.cells #[.slice none 0 0, .slice none 0 0, .slice none 0 0, .slice a4 4 c4] 29)) from (Below.refl _ _).alloc hb10.size _)
    have hp10 := exBox (n0 := W9.heap.size) (Nat.le_refl _) hr10
    have hl3 : ∀ g, (Value.slice a8 5 c8').ownBlock = some g → g < W9.heap.size := fun g e => (ho9.r.lt g e).2
    have hbl3 := ho9.k.lt
    have hB4g : W9.heap.size ≤ w10.heap.size := hb10.size
    have hX10 := hX9.below hb10'
    have hm10 := hm9.up hb10'
    have ho10 := ho9.up hb10'
    have hB10 := hB9.trans (hb10'.mono hB9.size)
    obtain ⟨B4, hB4e⟩ : ∃ b, w10.heap.size = b := ⟨_, rfl⟩
    obtain ⟨W10, hW10⟩ : ∃ W, w10.alloc (.cells #[.slice none 0 0, .slice none 0 0, .slice none 0 0, .slice a4 4 c4] 29) = W := ⟨_, rfl⟩
    rw [hW10] at hp10 hX10 hm10 ho10 hB10
    rw [hW10]
    rw [hB4e] at hp10 hB4g
    rw [hB4e]
    clear hW10 hB4e hr10 hb10 hb10' hX9 hm9 ho9 hB9
    obtain ⟨g4, rfl, hg4⟩ := ownsRow_pos hp10.r (by decide)
    obtain ⟨⟨v25, s25⟩, f25⟩ := ownsRow_cellF hp10.r (j := 25) (by decide)
    have q3 : W10.cell? ⟨B4, 3, none⟩ = some (.slice (some ⟨g4, 0, none⟩) 4 c4) := hp10.k.cell 3
    have hg11 := grown_setCell W10 g4 25 (.string ⟨#[89, 101, 119]⟩)
    obtain ⟨cg4, kg4⟩ := row_blk hp10.r rfl
    have hX11 := hX10.turn hg11 (fun k e => by cases e; exact ⟨_, _, kg4, by decide, by decide⟩)
    have hm11 := hm10.turn hg11 (fun e => by cases e; have := hm10.k.symm.trans kg4; simp at this) (fun k e hp => by cases e; have := hl1 g4 hp; omega)
    have ho11 := ho10.turn hg11 (fun e => by cases e; have := ho10.k.symm.trans kg4; simp at this) (fun k e hp => by cases e; have := hl3 g4 hp; omega)
    have hp11 : MapB W9.heap.size (W10.setCell ⟨g4, 25, none⟩ (.string ⟨#[89, 101, 119]⟩)) B4 (.slice (some ⟨g4, 0, none⟩) 4 c4) exP3 := ⟨hp10.k.kept hg11 (fun e => by cases e; have := hp10.k.symm.trans kg4; simp at this), ownsRow_setCell hp10.r (j := 25) (by decide) (.string ⟨#[89, 101, 119]⟩)⟩
    have hB11 := hB10.grown hg11 hB10.size (fun k e => by cases e; have := hB6s.out; omega)
    go_upto_region 9 with fail
    obtain ⟨W11, hW11⟩ : ∃ W, W10.setCell ⟨g4, 25, none⟩ (.string ⟨#[89, 101, 119]⟩) = W := ⟨_, rfl⟩
    rw [hW11] at hX11 hm11 ho11 hp11 hB11
    rw [hW11]
    clear hW11 hX10 hm10 ho10 hp10 hB10 s25 f25 q3 hg11 kg4
    -- nothing changes; one is decided anew
    obtain ⟨cX, kX11⟩ := hX11.blk
    have m0 : W11.cell? ⟨B3, 0, none⟩ = some (.slice none 0 0) := ho11.k.cell 0
    have m1 : W11.cell? ⟨B3, 1, none⟩ = some (.slice none 0 0) := ho11.k.cell 1
    have m2 : W11.cell? ⟨B3, 2, none⟩ = some (.slice none 0 0) := ho11.k.cell 2
    have m3 : W11.cell? ⟨B3, 3, none⟩ = some (.slice a8 5 c8') := ho11.k.cell 3
    have hchA := change_row hX11 ho11.r (by decide) exOk2 exKey exS2_eq ex_2.1 ex_2.2 (.slice none 0 0) (.slice none 0 0) (.slice none 0 0)
    go_upto_region 11 with (first
      | (go_at_call 10; (with_reducible refine hchA.mono ?_); rintro e W12 ⟨rfl, hX12, hg12⟩; clear hchA; have hp12 := hp11.kept hg12 kX11; have hm12 := hm11.kept hg12 kX11; have hB12 := turn_below hB11 hg12 (by omega); obtain ⟨cX2, kX12⟩ := hX12.blk; have n0' : W12.cell? ⟨B4, 0, none⟩ = some (.slice none 0 0) := hp12.k.cell 0; have n1 : W12.cell? ⟨B4, 1, none⟩ = some (.slice none 0 0) := hp12.k.cell 1; have n2 : W12.cell? ⟨B4, 2, none⟩ = some (.slice none 0 0) := hp12.k.cell 2; have n3 : W12.cell? ⟨B4, 3, none⟩ = some (.slice (some ⟨g4, 0, none⟩) 4 c4) := hp12.k.cell 3; have hchB := change_row (fin := exL3) hX12 hp12.r (by decide) exOk3 exKey exS3_eq ex_4.1 rfl (.slice none 0 0) (.slice none 0 0) (.slice none 0 0))
      | (go_at_call 10; (with_reducible refine hchB.mono ?_); rintro e W13 ⟨rfl, hX13, hg13⟩; have hm13 := hm12.kept hg13 kX12; have hB13 := turn_below hB12 hg13 (by omega); have hlist := list_any BX exS3 exL3 W13 hX13)
      | (go_at_call 9; (with_reducible refine hlist.mono ?_); rintro e w14 ⟨u14, rfl, hr14, hb14⟩; obtain ⟨a14, c14, rfl, -⟩ := (lst_of_row lbOk hr14 (by have := ex_l; omega)).form; have hli := listed8 hr14 ex_l.2.1 2 1024 1 10 3 5 4 1024 ex_4.2)
      | (go_at_call 20; (with_reducible refine hli.mono ?_); rintro e W15 ⟨rfl, hb15⟩)
      | fail)
    have hb1315 := hb14.trans (hb15.mono hb14.size)
    have hm15 := hm13.up hb1315
    have hB15 := hB13.trans (hb1315.mono hB13.size)
    clear hX11 ho11 hp11 hm11 hB11 kX11 m0 m1 m2 m3 hX12 hg12 hp12 hm12 hB12 kX12 n0' n1 n2 n3 hchB hX13 hg13 hm13 hB13 hlist hr14 hb14 hli hb15 hb1315
    -- heavy
    go_upto_region 12 with (first
      | (go_at_call 19; (with_reducible refine (example_any _).mono ?_); rintro e w16 ⟨pv, rfl, hr16, hb16⟩; obtain ⟨a5, c5, hpv, -⟩ := (lst_of_row plOk hr16 (by decide)).form; rw [show exP.length = 4 from rfl] at hpv; subst hpv)
      | fail)
    have hb16' := hb16.trans (show Below W15.heap.size w16 (w16.alloc (.cells #[.slice none 0 0, .slice none 0 0, .slice none 0 0, .slice a5 4 c5] 29)) from (Below.refl _ _).alloc hb16.size _)
    have hp16 := exBox (n0 := W15.heap.size) (Nat.le_refl _) hr16
    have hl15 : ∀ g, (Value.slice a1 4 c1).ownBlock = some g → g < W15.heap.size := fun g e => (hm15.r.lt g e).2
    have hm16 := hm15.up hb16'
    have hB16 := hB15.trans (hb16'.mono hB15.size)
    obtain ⟨B5, hB5e⟩ : ∃ b, w16.heap.size = b := ⟨_, rfl⟩
    obtain ⟨W16, hW16⟩ : ∃ W, w16.alloc (.cells #[.slice none 0 0, .slice none 0 0, .slice none 0 0, .slice a5 4 c5] 29) = W := ⟨_, rfl⟩
    rw [hW16] at hp16 hm16 hB16
    rw [hW16]
    rw [hB5e] at hp16
    rw [hB5e]
    have hB15s := Lib.hid hB15.size
    clear hW16 hB5e hr16 hb16 hb16' hm15 hB15
    obtain ⟨g5, rfl, hg5⟩ := ownsRow_pos hp16.r (by decide)
    obtain ⟨⟨v19, s19⟩, f19⟩ := ownsRow_cellF hp16.r (j := 19) (by decide)
    have q3 : W16.cell? ⟨B5, 3, none⟩ = some (.slice (some ⟨g5, 0, none⟩) 4 c5) := hp16.k.cell 3
    have hg17 := grown_setCell W16 g5 19 (.int .i64 7)
    obtain ⟨cg5, kg5⟩ := row_blk hp16.r rfl
    have hm17 := hm16.turn hg17 (fun e => by cases e; have := hm16.k.symm.trans kg5; simp at this) (fun k e hp => by cases e; have := hl15 g5 hp; omega)
    have hp17 : MapB W15.heap.size (W16.setCell ⟨g5, 19, none⟩ (.int .i64 7)) B5 (.slice (some ⟨g5, 0, none⟩) 4 c5) exP4 := ⟨hp16.k.kept hg17 (fun e => by cases e; have := hp16.k.symm.trans kg5; simp at this), ownsRow_setCell hp16.r (j := 19) (by decide) (.int .i64 7)⟩
    have hB17 := hB16.grown hg17 hB16.size (fun k e => by cases e; have := hB15s.out; omega)
    go_upto_region 13 with fail
    obtain ⟨W17, hW17⟩ : ∃ W, W16.setCell ⟨g5, 19, none⟩ (.int .i64 7) = W := ⟨_, rfl⟩
    rw [hW17] at hm17 hp17 hB17
    rw [hW17]
    clear hW17 hm16 hp16 hB16 s19 f19 q3 hg17 kg5
    have hnewW : ∀ W, Below W17.heap.size W17 W → Calls Try.prog 8 #[.agg #[.slice none 0 0, .slice none 0 0, .slice none 0 0, .slice a1 4 c1], .slice none 0 0] W fun e w' => ∃ BX, e = .returned (.pointer (some ⟨BX, 0, none⟩)) ∧ W.heap.size ≤ BX ∧ LabS w' BX exS exL ∧ Below W.heap.size W w' := fun W hb => new_row (ownsRow_up hm17.r hb) (by decide) exOk1 exS_eq rfl _ _ _
    refine Go.wp_region_rel 3 (by kernel_rfl) (by kernel_rfl) (fun _ W => MpR W17 b1 (.slice a1 4 c1) W) (fun w w' => Below w.heap.size w w') (FNw W17 b1 c1 a1) (fun _ _ _ _ h g => h.kept g) ⟨(Below.refl _ _).drew, hm17.k.drew⟩ ?step13 ?tail13
    case step13 =>
      clear hm17 hp17 hB17
      intro i o hi ho c bb W hc hM hA hD K hK
      match i, hi, ho with
      | 0, _, ho =>
        cases ho
        have f1 : bb.tmps[1]?.getD undef = .pointer (some ⟨b1, 0, none⟩) := evalAt (v := .pointer (some ⟨b1, 0, none⟩)) (hA.at_ (k := 1) (by kernel_rfl))
        have z0 : W.cell? ⟨b1, 0, none⟩ = some (.slice none 0 0) := hM.k.cell 0
        have z1 : W.cell? ⟨b1, 1, none⟩ = some (.slice none 0 0) := hM.k.cell 1
        have z2 : W.cell? ⟨b1, 2, none⟩ = some (.slice none 0 0) := hM.k.cell 2
        have z3 : W.cell? ⟨b1, 3, none⟩ = some (.slice a1 4 c1) := hM.k.cell 3
        go_simp
        exact hK (.agg #[.slice none 0 0, .slice none 0 0, .slice none 0 0, .slice a1 4 c1]) W rfl (Below.refl _ _) hM
      | 1, _, ho =>
        cases ho
        have f60 : bb.tmps[60]?.getD undef = .agg #[.slice none 0 0, .slice none 0 0, .slice none 0 0, .slice a1 4 c1] := evalAt (v := .agg #[.slice none 0 0, .slice none 0 0, .slice none 0 0, .slice a1 4 c1]) (dep_at hD 0 60 (by kernel_rfl) rfl rfl)
        go_simp
        refine (hnewW W hM.bel).mono ?_
        rintro e W' ⟨B, rfl, hB, hX, hb⟩
        go_simp
        exact hK _ W' ⟨B, rfl, Nat.le_trans hM.bel.size hB, hX⟩ hb (hM.up hb)
      | 2, _, ho =>
        cases ho
        have f1 : bb.tmps[1]?.getD undef = .pointer (some ⟨b1, 0, none⟩) := evalAt (v := .pointer (some ⟨b1, 0, none⟩)) (hA.at_ (k := 1) (by kernel_rfl))
        have z0 : W.cell? ⟨b1, 0, none⟩ = some (.slice none 0 0) := hM.k.cell 0
        have z1 : W.cell? ⟨b1, 1, none⟩ = some (.slice none 0 0) := hM.k.cell 1
        have z2 : W.cell? ⟨b1, 2, none⟩ = some (.slice none 0 0) := hM.k.cell 2
        have z3 : W.cell? ⟨b1, 3, none⟩ = some (.slice a1 4 c1) := hM.k.cell 3
        go_simp
        exact hK (.agg #[.slice none 0 0, .slice none 0 0, .slice none 0 0, .slice a1 4 c1]) W rfl (Below.refl _ _) hM
      | i + 3, hi, _ => exact absurd hi (by omega)
    case tail13 =>
      intro bb W' hM hA hall
      obtain ⟨By, hP1, hByl, hY⟩ := (show ∃ B, bb.eval (.tmp 61) = .pointer (some ⟨B, 0, none⟩) ∧ W17.heap.size ≤ B ∧ LabS W' B exS exL from hall 1 (by omega) _ _ rfl rfl)
      have hP2 : bb.eval (.tmp 62) = .agg #[.slice none 0 0, .slice none 0 0, .slice none 0 0, .slice a1 4 c1] := hall 2 (by omega) _ _ rfl rfl
      have hfr := hA.frame [true, true, true, true, true, true, true, true, true, true, true, true, true, true, true, true, true, true, true, true, true, true, true, true, true, true, true, true, true, true, true, true, true, true, true, true, true, true, true, true, true, true, true, true, true, true, true, true, true, true, true, true, true, true, true, true, true, true, true, true, false, false, false, true, true, true, true, true, true, true, true, true, true, true, true, true, true, true, true, true, true, true, true, true, true, true, true, true, true, true, true, true, true, true, true, true, true, true] _ rfl (by kernel_rfl)
      clear hall hA
      obtain ⟨f, hf⟩ : ∃ f : Nat → Value, (fun k => bb.tmps.getD k undef) = f := ⟨_, rfl⟩
      have g61 : f 61 = .pointer (some ⟨By, 0, none⟩) := by rw [← hf, ← hP1]; rfl
      have g62 : f 62 = .agg #[.slice none 0 0, .slice none 0 0, .slice none 0 0, .slice a1 4 c1] := by rw [← hf, ← hP2]; rfl
      rw [hf] at hfr
      clear hf hP1 hP2
      subst hfr
      simp only [pickL, g61, g62, Nat.reduceAdd]
      clear g61 g62
      simp only [List.drop_succ_cons, List.drop_zero]
      have hm18 := hm17.up hM.bel
      have hp18 := hp17.up hM.bel
      have hB18 := hB17.trans (hM.bel.mono hB17.size)
      have hnz := hnewW W' hM.bel
      have hB17s := Lib.hid hB17.size
      clear hm17 hp17 hB17 hnewW hM
      go_upto_region 14 with (first
        | (go_at_call 8; (with_reducible refine hnz.mono ?_); rintro e W19 ⟨Bz, rfl, hBz, hZ, hb19⟩)
        | fail)
      have hByz : By < Bz := by obtain ⟨c, hc⟩ := hY.blk; have := hc.lt; omega
      have hY19 := hY.below hb19
      have hm19 := hm18.up hb19
      have hp19 := hp18.up hb19
      have hB19 := hB18.trans (hb19.mono hB18.size)
      have hB18s := Lib.hid hB18.size
      clear hY hm18 hp18 hB18 hb19 hnz
      -- y: two are decided anew
      have n0' : W19.cell? ⟨B5, 0, none⟩ = some (.slice none 0 0) := hp19.k.cell 0
      have n1 : W19.cell? ⟨B5, 1, none⟩ = some (.slice none 0 0) := hp19.k.cell 1
      have n2 : W19.cell? ⟨B5, 2, none⟩ = some (.slice none 0 0) := hp19.k.cell 2
      have n3 : W19.cell? ⟨B5, 3, none⟩ = some (.slice (some ⟨g5, 0, none⟩) 4 c5) := hp19.k.cell 3
      obtain ⟨cY, kY19⟩ := hY19.blk
      have hchY := change_row (fin := exL4) hY19 hp19.r (by decide) exOk4 exKey exS4_eq ex_5.1 rfl (.slice none 0 0) (.slice none 0 0) (.slice none 0 0)
      go_upto_region 16 with (first
        | (go_at_call 10; (with_reducible refine hchY.mono ?_); rintro e W20 ⟨rfl, hY20, hg20⟩; have hm20 := hm19.kept hg20 kY19; have hZ20 := hZ.kept hg20 kY19 (by omega); have hB20 := turn_below hB19 hg20 (by have := hB17s.out; omega); have hlist := list_any By exS4 exL4 W20 hY20)
        | (go_at_call 9; (with_reducible refine hlist.mono ?_); rintro e w21 ⟨u21, rfl, hr21, hb21⟩; obtain ⟨a21, c21, rfl, -⟩ := (lst_of_row lbOk hr21 (by have := ex_l; omega)).form; have hli := listed8 hr21 ex_l.2.2 2 1024 3 11 1 5 4 1024 ex_5.2)
        | (go_at_call 20; (with_reducible refine hli.mono ?_); rintro e W22 ⟨rfl, hb22⟩)
        | fail)
      have hb2022 := hb21.trans (hb22.mono hb21.size)
      have hm22 := hm20.up hb2022
      have hZ22 := hZ20.below hb2022
      have hB22 := hB20.trans (hb2022.mono hB20.size)
      clear hY19 hm19 hp19 hB19 n0' n1 n2 n3 kY19 hchY hY20 hg20 hm20 hZ20 hB20 hlist hr21 hb21 hli hb22 hb2022 hZ
      obtain ⟨g1, rfl, hg1⟩ := ownsRow_pos hm22.r (by decide)
      have hc14 : 4 ≤ c1 := by
        rcases hm22.r.2 with ⟨e, -⟩ | ⟨g', cap', cur, e, -, -, h1, -⟩
        · cases e
        · simp only [Value.slice.injEq, true_and] at e
          rw [e.2.2]
          exact h1
      have hpl := lst_of_row plOk hm22.r (by decide)
      obtain ⟨b', o', cap', e', -, -, hcc⟩ := hpl.some_ (by decide)
      simp only [Value.slice.injEq, Option.some.injEq, Addr.mk.injEq] at e'
      obtain ⟨⟨rfl, rfl, -⟩, -, -⟩ := e'
      have hcc0 := hcc 0 (by decide)
      have hPl : PlC W22 g1 0 elmP := ⟨hcc0 0 (by decide), hcc0 1 (by decide), hcc0 2 (by decide), hcc0 3 (by decide), hcc0 4 (by decide), hcc0 5 (by decide), hcc0 6 (by decide)⟩
      have hdr : Lst plE W22.heap.size W22 (.slice (some ⟨g1, 14, none⟩) 2 (c1 - 2)) (exP.drop 2) := Lst.drop (l := exP) hpl 2 (by decide)
      have hc14I : (4 : Int) ≤ (c1 : Int) := by omega
      clear hcc hcc0
      have hc12 : ¬ c1 = 2 := by omega
      have hb1z : b1 ≠ Bz := fun e => by obtain ⟨c, hc⟩ := hZ22.blk; have := hm22.k.symm.trans (e ▸ hc); simp at this
      have hg1z : g1 ≠ Bz := fun e => by obtain ⟨c, hc⟩ := hZ22.blk; obtain ⟨c2, hc2⟩ := row_blk hm22.r rfl; have := hc2.symm.trans (e ▸ hc); simp at this
      refine Go.wp_region_set 15 (by kernel_rfl) (by kernel_rfl) stZ (fun g W => MzR W22 b1 g1 Bz (.slice (some ⟨g1, 0, none⟩) 4 c1) g W) (fun g w g' w' => g ≤ g' ∧ (g' = g → Below w.heap.size w w')) (FZz W22 b1 Bz g1 c1) (fun _ _ _ _ _ _ h g => h.kept g) ?init16 ?step16 ?tail16
      case init16 =>
        have h0 : stZ (Array.replicate 16 false) = 0 := by decide
        show MzR W22 b1 g1 Bz _ (stZ (Array.replicate 16 false)) W22.drew
        rw [h0]
        exact ⟨⟨rfl, rfl, rfl, Nat.le_refl _, fun _ _ _ => rfl⟩, hm22.k.cell 3, ⟨hPl.c0, hPl.c1, hPl.c2, hPl.c3, hPl.c4, hPl.c5, hPl.c6⟩, fun _ => (Below.refl _ _).drew, fun _ => hZ22.below ⟨rfl, rfl, rfl, Nat.le_refl _, fun _ _ => rfl⟩⟩
      case step16 =>
        have hb1l := hm22.k.lt
        have hg1l : g1 < W22.heap.size := by obtain ⟨c2, hc2⟩ := row_blk hm22.r rfl; exact hc2.lt
        clear hm22 hZ22 hB22 hPl hpl
        intro i o hi ho s bb W inv hun haf hM hA hD K hK
        have hst := stZ_other s
        obtain ⟨g, hg⟩ : ∃ g, stZ s = g := ⟨_, rfl⟩
        rw [hg] at hM hD hK hst
        have hsz : s.size = 16 := inv.size
        have c7 : s.getD 11 false = true → s.getD 7 false = true := fun h => closed_at inv 11 7 rfl h (by kernel_rfl)
        have c11 : s.getD 13 false = true → s.getD 11 false = true := fun h => closed_at inv 13 11 rfl h (by kernel_rfl)
        have h11 : s.getD 11 false = false → g = 0 := fun h => by
          have h2 : s.getD 13 false = false := by
            cases e : s.getD 13 false with
            | false => rfl
            | true => have := c11 e; rw [h] at this; cases this
          rw [← hg]
          unfold stZ
          rw [h2, h]
          rfl
        have h7 : s.getD 7 false = false → g = 0 := fun h => h11 (by
          cases e : s.getD 11 false with
          | false => rfl
          | true => have := c7 e; rw [h] at this; cases this)
        have h13 : s.getD 13 false = false → g ≤ 1 := fun h => by
          rw [← hg]
          unfold stZ
          rw [h]
          split
          · rename_i hh; cases hh
          · split <;> omega
        have hst1 : s.getD 11 false = false → 1 = stZ (s.setIfInBounds 11 true) := fun h => by
          have h2 : s.getD 13 false = false := by
            cases e : s.getD 13 false with
            | false => rfl
            | true => have := c11 e; rw [h] at this; cases this
          unfold stZ
          rw [getD_set_ne false (by decide), h2, show (s.setIfInBounds 11 true).getD 11 false = true from by simp [hsz]]
          rfl
        have hst2 : 2 = stZ (s.setIfInBounds 13 true) := by
          unfold stZ
          rw [show (s.setIfInBounds 13 true).getD 13 false = true from by simp [hsz]]
          rfl
        replace hst1 := Lib.hid hst1
        replace hst2 := Lib.hid hst2
        clear c7 c11 hg hsz inv
        match i, hi, ho with
        | 0, _, ho =>
          cases ho
          have f7 : bb.tmps[7]?.getD undef = .pointer (some ⟨Bz, 0, none⟩) := evalAt (v := .pointer (some ⟨Bz, 0, none⟩)) (hA.at_ (k := 7) (by kernel_rfl))
          go_simp
          exact hK (.pointer (some ⟨Bz, 0, none⟩)) g W rfl (⟨Nat.le_refl _, fun _ => Below.refl _ _⟩) hM (hst _ (by decide) (by decide)).symm
        | 1, _, ho =>
          cases ho
          go_simp
          exact hK (.slice (some ⟨W.heap.size, 0, none⟩) 0 0) g _ ⟨_, rfl, hM.gr.size, fun _ => Blk.new _ _ _⟩ ⟨Nat.le_refl _, fun _ => (Below.refl _ _).alloc (Nat.le_refl _) _⟩ (hM.up ((Below.refl _ _).alloc (Nat.le_refl _) _)) (hst _ (by decide) (by decide)).symm
        | 2, _, ho =>
          cases ho
          have f1 : bb.tmps[1]?.getD undef = .pointer (some ⟨b1, 0, none⟩) := evalAt (v := .pointer (some ⟨b1, 0, none⟩)) (hA.at_ (k := 1) (by kernel_rfl))
          go_simp
          exact hK (.pointer (some ⟨b1, 3, none⟩)) g W rfl (⟨Nat.le_refl _, fun _ => Below.refl _ _⟩) hM (hst _ (by decide) (by decide)).symm
        | 3, _, ho =>
          cases ho
          have f85 : bb.tmps[85]?.getD undef = .pointer (some ⟨b1, 3, none⟩) := evalAt (v := .pointer (some ⟨b1, 3, none⟩)) (dep_atN hD 2 85 (by kernel_rfl) rfl rfl)
          have z0 : W.cell? ⟨b1, 3, none⟩ = some (.slice (some ⟨g1, 0, none⟩) 4 c1) := hM.c3
          go_simp
          exact hK (.slice (some ⟨g1, 0, none⟩) 4 c1) g W rfl (⟨Nat.le_refl _, fun _ => Below.refl _ _⟩) hM (hst _ (by decide) (by decide)).symm
        | 4, _, ho =>
          cases ho
          have f86 : bb.tmps[86]?.getD undef = .slice (some ⟨g1, 0, none⟩) 4 c1 := evalAt (v := .slice (some ⟨g1, 0, none⟩) 4 c1) (dep_atN hD 3 86 (by kernel_rfl) rfl rfl)
          go_simp
          exact hK (.pointer (some ⟨g1, 0, none⟩)) g W rfl (⟨Nat.le_refl _, fun _ => Below.refl _ _⟩) hM (hst _ (by decide) (by decide)).symm
        | 5, _, ho =>
          cases ho
          have f87 : bb.tmps[87]?.getD undef = .pointer (some ⟨g1, 0, none⟩) := evalAt (v := .pointer (some ⟨g1, 0, none⟩)) (dep_atN hD 4 87 (by kernel_rfl) rfl rfl)
          have z0 : W.cell? ⟨g1, 0, none⟩ = some (.int .i64 1) := hM.p.c0
          have z1 : W.cell? ⟨g1, 1, none⟩ = some (.int .i64 0) := hM.p.c1
          have z2 : W.cell? ⟨g1, 2, none⟩ = some (.int .i64 0) := hM.p.c2
          have z3 : W.cell? ⟨g1, 3, none⟩ = some (.string treeB) := hM.p.c3
          have z4 : W.cell? ⟨g1, 4, none⟩ = some (.string ⟨#[69, 108, 109]⟩) := hM.p.c4
          have z5 : W.cell? ⟨g1, 5, none⟩ = some (.int .i64 5) := hM.p.c5
          have z6 : W.cell? ⟨g1, 6, none⟩ = some (.int .i64 1) := hM.p.c6
          go_simp
          exact hK (.agg #[.int .i64 1, .int .i64 0, .int .i64 0, .string treeB, .string ⟨#[69, 108, 109]⟩, .int .i64 5, .int .i64 1]) g W rfl (⟨Nat.le_refl _, fun _ => Below.refl _ _⟩) hM (hst _ (by decide) (by decide)).symm
        | 6, _, ho =>
          cases ho
          have f88 : bb.tmps[88]?.getD undef = .agg #[.int .i64 1, .int .i64 0, .int .i64 0, .string treeB, .string ⟨#[69, 108, 109]⟩, .int .i64 5, .int .i64 1] := evalAt (v := .agg #[.int .i64 1, .int .i64 0, .int .i64 0, .string treeB, .string ⟨#[69, 108, 109]⟩, .int .i64 5, .int .i64 1]) (dep_atN hD 5 88 (by kernel_rfl) rfl rfl)
          go_simp
          exact hK (.slice (some ⟨W.heap.size, 0, none⟩) 1 1) g _ ⟨_, rfl, hM.gr.size, fun _ => Blk.new _ _ _⟩ ⟨Nat.le_refl _, fun _ => (Below.refl _ _).alloc (Nat.le_refl _) _⟩ (hM.up ((Below.refl _ _).alloc (Nat.le_refl _) _)) (hst _ (by decide) (by decide)).symm
        | 7, _, ho =>
          cases ho
          have f84 := dep_atN hD 1 84 (by kernel_rfl) rfl rfl
          have f89 := dep_atN hD 6 89 (by kernel_rfl) rfl rfl
          obtain ⟨Z, h1, h2, h3⟩ := f84
          obtain ⟨L, k1, k2, k3⟩ := f89
          have hg0 := h7 hun
          refine El.step_fresh plOk plIn _ _ (by rfl) _ Z h1 (fresh_row (h3 hg0) h2) _ [elmP] k1 (Lst.single plOk (k3 hg0)) (.inr ⟨_, _, _, rfl⟩) (by decide) hM.gr.size ?_
          rintro v9 w9 hr9 hb9 ⟨gu, cap, e9, -⟩
          exact hK v9 g w9 ⟨gu, cap, e9, fun _ => by simpa using hr9⟩ ⟨Nat.le_refl _, fun _ => hb9⟩ (hM.up hb9) (hst _ (by decide) (by decide)).symm
        | 8, _, ho =>
          cases ho
          have f1 : bb.tmps[1]?.getD undef = .pointer (some ⟨b1, 0, none⟩) := evalAt (v := .pointer (some ⟨b1, 0, none⟩)) (hA.at_ (k := 1) (by kernel_rfl))
          go_simp
          exact hK (.pointer (some ⟨b1, 3, none⟩)) g W rfl (⟨Nat.le_refl _, fun _ => Below.refl _ _⟩) hM (hst _ (by decide) (by decide)).symm
        | 9, _, ho =>
          cases ho
          have f91 : bb.tmps[91]?.getD undef = .pointer (some ⟨b1, 3, none⟩) := evalAt (v := .pointer (some ⟨b1, 3, none⟩)) (dep_atN hD 8 91 (by kernel_rfl) rfl rfl)
          have z0 : W.cell? ⟨b1, 3, none⟩ = some (.slice (some ⟨g1, 0, none⟩) 4 c1) := hM.c3
          go_simp
          exact hK (.slice (some ⟨g1, 0, none⟩) 4 c1) g W rfl (⟨Nat.le_refl _, fun _ => Below.refl _ _⟩) hM (hst _ (by decide) (by decide)).symm
        | 10, _, ho =>
          cases ho
          have f92 : bb.tmps[92]?.getD undef = .slice (some ⟨g1, 0, none⟩) 4 c1 := evalAt (v := .slice (some ⟨g1, 0, none⟩) 4 c1) (dep_atN hD 9 92 (by kernel_rfl) rfl rfl)
          go_simp
          exact hK (.slice (some ⟨g1, 14, none⟩) 2 (c1 - 2)) g W rfl (⟨Nat.le_refl _, fun _ => Below.refl _ _⟩) hM (hst _ (by decide) (by decide)).symm
        | 11, _, ho =>
          cases ho
          have f90 := dep_atN hD 7 90 (by kernel_rfl) rfl rfl
          have f93 : bb.tmps[93]?.getD undef = .slice (some ⟨g1, 14, none⟩) 2 (c1 - 2) := evalAt (v := .slice (some ⟨g1, 14, none⟩) 2 (c1 - 2)) (dep_atN hD 10 93 (by kernel_rfl) rfl rfl)
          obtain ⟨gu, cap, h1, h2⟩ := f90
          have hg0 := h11 hun
          have hr1 := h2 hg0
          rw [h1] at hr1
          have hu1 : W.ownsRow W22.heap.size plE.t plE.s (.slice (some ⟨gu, 0, none⟩) 1 cap) [elmP].length ([elmP].flatMap plE.enc) := by simpa using hr1
          have hl1 := (hdr.up (hM.bel (by omega)))
          refine El.step_pushL plOk plIn (by rfl) _ _ (by rfl) h1 hu1 (exP.drop 2) (evalEq f93) hl1 (by decide) hM.gr.size (by decide) ?_
          rintro v9 w9 hr9 ⟨a, c, e9⟩ hg9 hb9
          exact hK v9 1 w9 ⟨a, c, e9, Nat.le_refl _, fun _ => hr9⟩ ⟨by omega, fun e => by omega⟩ (hM.push hb1l hg1l hg0 hg9 hb9 hu1) (hst1.out hun)
        | 12, _, ho =>
          cases ho
          have f94 := dep_atN hD 11 94 (by kernel_rfl) rfl rfl
          obtain ⟨a, c, h1, h2, h3⟩ := f94
          rw [h1] at h3
          have e94 := evalAt h1
          go_simp
          exact hK (.agg #[.slice none 0 0, .slice none 0 0, .slice none 0 0, .slice a 3 c]) g W ⟨a, c, rfl, h2, h3⟩ ⟨Nat.le_refl _, fun _ => Below.refl _ _⟩ hM (hst _ (by decide) (by decide)).symm
        | 13, _, ho =>
          cases ho
          have f83 : bb.tmps[83]?.getD undef = .pointer (some ⟨Bz, 0, none⟩) := evalAt (v := .pointer (some ⟨Bz, 0, none⟩)) (dep_atN hD 0 83 (by kernel_rfl) rfl rfl)
          have f95 := dep_atN hD 12 95 (by kernel_rfl) rfl rfl
          obtain ⟨a, c, h1, h2, h3⟩ := f95
          have hg1 : g = 1 := by have := h13 hun; omega
          have e95 := evalAt h1
          have hc := change_row (fin := chgL exS exL exS5) (hM.lab (by omega)) (l := exP5) (h3 hg1) (by decide) exOk5 exKey exS5_eq ex_6 rfl (.slice none 0 0) (.slice none 0 0) (.slice none 0 0)
          go_simp
          refine hc.mono ?_
          rintro e W' ⟨rfl, hZ, hgZ⟩
          go_simp
          exact hK (.int .i64 2) 2 W' rfl ⟨by omega, fun e => by omega⟩ (hM.fin hgZ hb1z hg1z) hst2.out
        | 14, _, ho =>
          cases ho
          have f96 : bb.tmps[96]?.getD undef = .int .i64 2 := evalAt (v := .int .i64 2) (dep_atN hD 13 96 (by kernel_rfl) rfl rfl)
          go_simp
          exact hK (.bool true) g W rfl (⟨Nat.le_refl _, fun _ => Below.refl _ _⟩) hM (hst _ (by decide) (by decide)).symm
        | i + 15, hi, _ => exact absurd hi (by omega)
      case tail16 =>
        intro bb s W' hs hM hA hall
        have hP14 : bb.eval (.tmp 97) = .bool true := hall 14 (by omega) _ _ rfl rfl
        have hfr := hA.frame [true, true, true, true, true, true, true, true, true, true, true, true, true, true, true, true, true, true, true, true, true, true, true, true, true, true, true, true, true, true, true, true, true, true, true, true, true, true, true, true, true, true, true, true, true, true, true, true, true, true, true, true, true, true, true, true, true, true, true, true, true, true, true, true, true, true, true, true, true, true, true, true, true, true, true, true, true, true, true, true, true, true, true, false, false, false, false, false, false, false, false, false, false, false, false, false, false, false] _ rfl (by kernel_rfl)
        clear hall hA
        obtain ⟨f, hf⟩ : ∃ f : Nat → Value, (fun k => bb.tmps.getD k undef) = f := ⟨_, rfl⟩
        have g97 : f 97 = .bool true := by rw [← hf, ← hP14]; rfl
        rw [hf] at hfr
        clear hf hP14
        subst hfr
        simp only [pickL, g97, Nat.reduceAdd]
        clear g97
        simp only [List.drop_succ_cons, List.drop_zero]
        have hfin := turn_below hB22 hM.gr (by have := hB18s.out; omega)
        clear hm22 hZ22 hB22 hPl hpl hdr hM
        go_wp2_with fail
        go_ret
        exact ⟨rfl, hfin⟩
end Go.Proofs.Ytikojanpbbiaiaa
