/-
  Chapter 24: label.Make without histories.
-/
import Derived.Test.YtikojanpbbiaiaaZl
import Derived.Test.YtikojanpbbiaiaaZi
import Derived.Test.YtikojanpbbiaiaaZn

namespace Go.Proofs.Ytikojanpbbiaiaa
set_option linter.unusedVariables false
set_option linter.unusedSimpArgs false
open Go Go.RowKit Go.Shelf Go.Lib Go.Sort
attribute [local go_sem] Oper.semAt_some
attribute [local go_sem ↓] Go.wp_at_zero Go.wp_at_succ

/-- the label of a place -/
def lbP (p : Pc) (u : Int) : Lb := ⟨p.id, p.x, p.y, 3 + 2 * (p.nm.size : Int), p.nm, u⟩
def makeS (acc : List Lb) (p : Pc) : List Lb := acc ++ [lbP p (leastF (lbP p 0) acc)]
/-- the labels that label.Make makes -/
def makeL (q : List Pc) : List Lb := q.foldl makeS []
theorem makeL_succ {q : List Pc} {k : Nat} {p : Pc} (h : q[k]? = some p) : makeL (q.take (k + 1)) = makeS (makeL (q.take k)) p := by
  unfold makeL
  rw [List.take_add_one, h, List.foldl_append]
  rfl
theorem makeL_len (q : List Pc) : (makeL q).length = q.length := by
  unfold makeL
  have : ∀ (q : List Pc) (acc : List Lb), (q.foldl makeS acc).length = acc.length + q.length := by
    intro q
    induction q with
    | nil => intro acc; simp
    | cons p q ih => intro acc; rw [List.foldl_cons, ih]; unfold makeS; simp; omega
  simpa using this q []
/-- what the region that makes a label reads -/
structure MkI (wr : World) (BP : Nat) (p : Pc) (W : World) : Prop where
  bel : Below wr.heap.size wr W
  k : Blk W BP #[.int .i64 p.id, .int .i64 p.x, .int .i64 p.y, .string p.cls, .string p.nm, .int .i64 p.wt, .int .i64 p.ds] 41
theorem MkI.up {wr W W' : World} {BP : Nat} {p : Pc} (h : MkI wr BP p W) (hb : Below W.heap.size W W') : MkI wr BP p W' := ⟨h.bel.trans (hb.mono h.bel.size), h.k.below hb h.k.lt⟩

def FMk (wr : World) (BP : Nat) (i1 x1 y1 r1 : Int) (nm : ByteArray) (i : Nat) (v : Value) (w : World) : Prop :=
  match i with
  | 0 => v = .pointer (some ⟨BP, 0, none⟩)
  | 1 => v = .int .i64 i1
  | 2 => v = .pointer (some ⟨BP, 1, none⟩)
  | 3 => v = .agg #[.int .i64 x1, .int .i64 y1]
  | 4 => v = .pointer (some ⟨BP, 4, none⟩)
  | 5 => v = .string nm
  | 6 => v = .int .i64 r1
  | 7 => v = .pointer (some ⟨BP, 4, none⟩)
  | 8 => v = .string nm
  | 9 => v = .agg #[.int .i64 i1, .int .i64 x1, .int .i64 y1, .int .i64 r1, .string nm, .int .i64 0]
  | 10 => ∃ L, v = .pointer (some ⟨L, 0, none⟩) ∧ wr.heap.size ≤ L ∧ Blk w L #[.int .i64 0, .int .i64 0, .int .i64 0, .int .i64 0, .string ⟨#[]⟩, .int .i64 0] 39
  | _ => False
theorem FMk.kept {wr : World} {BP : Nat} {i1 x1 y1 r1 : Int} {nm : ByteArray} {i : Nat} {v : Value} {w w' : World} (h : FMk wr BP i1 x1 y1 r1 nm i v w) (hg : Below w.heap.size w w') : FMk wr BP i1 x1 y1 r1 nm i v w' := by
  unfold FMk at *
  split at h
  all_goals first | exact h | (obtain ⟨L, h1, h2, h3⟩ := h; exact ⟨L, h1, h2, h3.below hg h3.lt⟩)
set_option maxRecDepth 100000 in
set_option maxHeartbeats 4000000 in
theorem make_any (v1 v2 v3 pv : Value) (l : List Pc) (w : World) (h : Lst plE w.heap.size w pv l) (hf : Frm pv l.length) (hl : l.length ≤ 19) (hok : ∀ p ∈ queueL l, PcOk p) :
    Calls Try.prog 12 #[.agg #[v1, v2, v3, pv], .slice none 0 0] w fun e w' => ∃ u, e = .returned u ∧ w'.ownsRow w.heap.size 39 6 u (makeL (queueL l)).length ((makeL (queueL l)).flatMap lbE.enc) ∧ Below w.heap.size w w' := by
  have hB0 : Below w.heap.size w (w.alloc (.cells #[v1, v2, v3, pv] 29)) := (Below.refl _ _).alloc (Nat.le_refl _) _
  have kM := Blk.new w #[v1, v2, v3, pv] 29
  have hL := h.up hB0
  have hql := queueL_len l
  have hqd := fun W0 (hL : Lst plE W0.heap.size W0 pv l) => queued_any v1 v2 v3 pv l W0 hL hf hl
  obtain ⟨Q, hQ⟩ : ∃ Q, queueL l = Q := ⟨_, rfl⟩
  rw [hQ] at hok hql hqd
  rw [hQ]
  have hQ19 : Q.length ≤ 19 := by omega
  clear hQ hql
  obtain ⟨res, hres⟩ : ∃ r, makeL Q = r := ⟨_, rfl⟩
  rw [hres]
  replace hres := Lib.hid hres
  go_enter Try.func12, Try.ntmps12
  go_upto_region 1 with fail
  obtain ⟨W0, hW0⟩ : ∃ W, w.alloc (.cells #[v1, v2, v3, pv] 29) = W := ⟨_, rfl⟩
  obtain ⟨B0, hB0e⟩ : ∃ b, w.heap.size = b := ⟨_, rfl⟩
  have hBW : Below w.heap.size w W0 := by rw [← hW0]; exact hB0
  rw [hW0] at kM hL
  rw [hW0]
  rw [hB0e] at kM hBW
  rw [hB0e]
  have m0 : W0.cell? ⟨B0, 0, none⟩ = some v1 := kM.cell 0
  have m1 : W0.cell? ⟨B0, 1, none⟩ = some v2 := kM.cell 1
  have m2 : W0.cell? ⟨B0, 2, none⟩ = some v3 := kM.cell 2
  have m3 : W0.cell? ⟨B0, 3, none⟩ = some pv := kM.cell 3
  have hqd2 := hqd W0 hL
  clear hW0 hB0 h kM hqd hL
  go_upto_region 2 with (first
    | (go_at_call 34; (with_reducible refine hqd2.mono ?_); rintro e Wq ⟨uq, rfl, hrq, hbq⟩; obtain ⟨aq, cq, rfl, hcq⟩ := (lst_of_row plOk hrq (by omega)).form)
    | fail)
  have hlq := lst_of_row plOk hrq (by omega)
  have hBq : Below B0 w Wq := hBW.trans (hbq.mono (by have := hBW.size; omega))
  clear m0 m1 m2 m3 hqd2 hrq hbq hBW
  go_loopw [4, 16] (fun lv kk wr => ∃ k : Nat, k ≤ Q.length ∧ kk = .int .i64 (k : Nat) ∧ Hid (wr.ownsRow Wq.heap.size 39 6 lv (makeL (Q.take k)).length ((makeL (Q.take k)).flatMap lbE.enc)) ∧ Below Wq.heap.size Wq wr) (fun _ kk _ => Q.length - (intOf kk).toNat)
  case atStart => exact ⟨0, Nat.zero_le _, rfl, Lib.hid ⟨by simp [makeL], .inl ⟨rfl, by simp [makeL]⟩⟩, Below.refl _ _⟩
  case round =>
    obtain ⟨k, hk, rfl, hrow, hB⟩ := hrel
    have hsz := hB.size
    by_cases hlt : k < Q.length
    · have hltI : (k : Int) < (Q.length : Int) := by omega
      have hrl := Lst.form (lst_of_row lbOk hrow.out (by rw [makeL_len, List.length_take]; omega))
      obtain ⟨a4, c4, rfl, hc4⟩ := hrl
      obtain ⟨p, hp⟩ : ∃ p, Q[k]? = some p := ⟨_, List.getElem?_eq_getElem hlt⟩
      have hpok := hok p (List.mem_of_getElem? hp)
      have hrad := radius_any p.nm _ rfl hpok.nm
      obtain ⟨qb, qo, cq', hv, -, hqb, hqc⟩ := hlq.some_ (by omega)
      simp only [Value.slice.injEq, true_and] at hv
      obtain ⟨rfl, rfl⟩ := hv
      have hqk : Q[k] = p := by rw [List.getElem?_eq_getElem hlt] at hp; exact Option.some.inj hp
      have hcc := hqc k hlt
      rw [hqk] at hcc
      have q0 : wr.cell? ⟨qb, qo + k * 7, none⟩ = some (.int .i64 p.id) := (hB.cell (p := ⟨qb, qo + k * 7, none⟩) hqb).trans (hcc 0 (by decide))
      have q1 : wr.cell? ⟨qb, qo + k * 7 + 1, none⟩ = some (.int .i64 p.x) := (hB.cell (p := ⟨qb, qo + k * 7 + 1, none⟩) hqb).trans (hcc 1 (by decide))
      have q2 : wr.cell? ⟨qb, qo + k * 7 + 2, none⟩ = some (.int .i64 p.y) := (hB.cell (p := ⟨qb, qo + k * 7 + 2, none⟩) hqb).trans (hcc 2 (by decide))
      have q3 : wr.cell? ⟨qb, qo + k * 7 + 3, none⟩ = some (.string p.cls) := (hB.cell (p := ⟨qb, qo + k * 7 + 3, none⟩) hqb).trans (hcc 3 (by decide))
      have q4 : wr.cell? ⟨qb, qo + k * 7 + 4, none⟩ = some (.string p.nm) := (hB.cell (p := ⟨qb, qo + k * 7 + 4, none⟩) hqb).trans (hcc 4 (by decide))
      have q5 : wr.cell? ⟨qb, qo + k * 7 + 5, none⟩ = some (.int .i64 p.wt) := (hB.cell (p := ⟨qb, qo + k * 7 + 5, none⟩) hqb).trans (hcc 5 (by decide))
      have q6 : wr.cell? ⟨qb, qo + k * 7 + 6, none⟩ = some (.int .i64 p.ds) := (hB.cell (p := ⟨qb, qo + k * 7 + 6, none⟩) hqb).trans (hcc 6 (by decide))
      have hstep := Lib.hid (makeL_succ hp)
      have hacc : (makeL (Q.take k)).length = k := by rw [makeL_len, List.length_take]; omega
      obtain ⟨acc, hacc2⟩ : ∃ a, makeL (Q.take k) = a := ⟨_, rfl⟩
      rw [hacc2] at hrow hstep hacc
      rw [hacc2]
      have hacc9 : acc.length ≤ 19 := by omega
      replace hacc := Lib.hid hacc
      clear hp hqk hcc hacc2 hpok
      obtain ⟨i1, x1, y1, c1, nm, wt1, d1⟩ := p
      simp only at q0 q1 q2 q3 q4 q5 q6 hrad
      obtain ⟨r1, hr1⟩ : ∃ r, 3 + 2 * (nm.size : Int) = r := ⟨_, rfl⟩
      rw [hr1] at hrad
      go_upto_region 4 with fail
      have kP := Blk.new wr #[.int .i64 i1, .int .i64 x1, .int .i64 y1, .string c1, .string nm, .int .i64 wt1, .int .i64 d1] 41
      have hBa : Below wr.heap.size wr (wr.alloc (.cells #[.int .i64 i1, .int .i64 x1, .int .i64 y1, .string c1, .string nm, .int .i64 wt1, .int .i64 d1] 41)) := (Below.refl _ _).alloc (Nat.le_refl _) _
      obtain ⟨BP, hBP⟩ : ∃ b, wr.heap.size = b := ⟨_, rfl⟩
      obtain ⟨W1, hW1⟩ : ∃ W, wr.alloc (.cells #[.int .i64 i1, .int .i64 x1, .int .i64 y1, .string c1, .string nm, .int .i64 wt1, .int .i64 d1] 41) = W := ⟨_, rfl⟩
      have hrow1 := Lib.hid (ownsRow_up hrow.out hBa)
      have hB1 := hB.trans (hBa.mono hB.size)
      rw [hW1] at kP hrow1 hB1
      rw [hW1]
      rw [hBP] at kP
      rw [hBP]
      clear hW1 hrow hB hBa q0 q1 q2 q3 q4 q5 q6 hqc hsz hBP
      refine Go.wp_region_rel 11 (by kernel_rfl) (by kernel_rfl) (fun _ W => MkI W1 BP ⟨i1, x1, y1, c1, nm, wt1, d1⟩ W) (fun w w' => Below w.heap.size w w') (FMk W1 BP i1 x1 y1 r1 nm) (fun _ _ _ _ h g => h.kept g) ⟨(Below.refl _ _).drew, kP⟩ ?step ?tail
      case step =>
        clear hrow1 hB1 hBq hlq hok hstep hres hacc kP
        intro i o hi ho c bb W hc hM hA hD K hK
        match i, hi, ho with
        | 0, _, ho =>
          cases ho
          have f6 : bb.tmps[6]?.getD undef = .pointer (some ⟨BP, 0, none⟩) := evalAt (v := .pointer (some ⟨BP, 0, none⟩)) (hA.at_ (k := 6) (by kernel_rfl))
          go_simp
          exact hK (.pointer (some ⟨BP, 0, none⟩)) W rfl (Below.refl _ _) hM
        | 1, _, ho =>
          cases ho
          have f20 : bb.tmps[20]?.getD undef = .pointer (some ⟨BP, 0, none⟩) := evalAt (v := .pointer (some ⟨BP, 0, none⟩)) (dep_at hD 0 20 (by kernel_rfl) rfl rfl)
          have z0 : W.cell? ⟨BP, 0, none⟩ = some (.int .i64 i1) := hM.k.cell 0
          go_simp
          exact hK (.int .i64 i1) W rfl (Below.refl _ _) hM
        | 2, _, ho =>
          cases ho
          have f6 : bb.tmps[6]?.getD undef = .pointer (some ⟨BP, 0, none⟩) := evalAt (v := .pointer (some ⟨BP, 0, none⟩)) (hA.at_ (k := 6) (by kernel_rfl))
          go_simp
          exact hK (.pointer (some ⟨BP, 1, none⟩)) W rfl (Below.refl _ _) hM
        | 3, _, ho =>
          cases ho
          have f22 : bb.tmps[22]?.getD undef = .pointer (some ⟨BP, 1, none⟩) := evalAt (v := .pointer (some ⟨BP, 1, none⟩)) (dep_at hD 2 22 (by kernel_rfl) rfl rfl)
          have z0 : W.cell? ⟨BP, 1, none⟩ = some (.int .i64 x1) := hM.k.cell 1
          have z1 : W.cell? ⟨BP, 2, none⟩ = some (.int .i64 y1) := hM.k.cell 2
          go_simp
          exact hK (.agg #[.int .i64 x1, .int .i64 y1]) W rfl (Below.refl _ _) hM
        | 4, _, ho =>
          cases ho
          have f6 : bb.tmps[6]?.getD undef = .pointer (some ⟨BP, 0, none⟩) := evalAt (v := .pointer (some ⟨BP, 0, none⟩)) (hA.at_ (k := 6) (by kernel_rfl))
          go_simp
          exact hK (.pointer (some ⟨BP, 4, none⟩)) W rfl (Below.refl _ _) hM
        | 5, _, ho =>
          cases ho
          have f24 : bb.tmps[24]?.getD undef = .pointer (some ⟨BP, 4, none⟩) := evalAt (v := .pointer (some ⟨BP, 4, none⟩)) (dep_at hD 4 24 (by kernel_rfl) rfl rfl)
          have z0 : W.cell? ⟨BP, 4, none⟩ = some (.string nm) := hM.k.cell 4
          go_simp
          exact hK (.string nm) W rfl (Below.refl _ _) hM
        | 6, _, ho =>
          cases ho
          have f25 : bb.tmps[25]?.getD undef = .string nm := evalAt (v := .string nm) (dep_at hD 5 25 (by kernel_rfl) rfl rfl)
          go_simp
          refine (hrad W).mono ?_
          rintro e W' ⟨rfl, rfl⟩
          go_simp
          exact hK (.int .i64 r1) W rfl (Below.refl _ _) hM
        | 7, _, ho =>
          cases ho
          have f6 : bb.tmps[6]?.getD undef = .pointer (some ⟨BP, 0, none⟩) := evalAt (v := .pointer (some ⟨BP, 0, none⟩)) (hA.at_ (k := 6) (by kernel_rfl))
          go_simp
          exact hK (.pointer (some ⟨BP, 4, none⟩)) W rfl (Below.refl _ _) hM
        | 8, _, ho =>
          cases ho
          have f27 : bb.tmps[27]?.getD undef = .pointer (some ⟨BP, 4, none⟩) := evalAt (v := .pointer (some ⟨BP, 4, none⟩)) (dep_at hD 7 27 (by kernel_rfl) rfl rfl)
          have z0 : W.cell? ⟨BP, 4, none⟩ = some (.string nm) := hM.k.cell 4
          go_simp
          exact hK (.string nm) W rfl (Below.refl _ _) hM
        | 9, _, ho =>
          cases ho
          have f21 : bb.tmps[21]?.getD undef = .int .i64 i1 := evalAt (v := .int .i64 i1) (dep_at hD 1 21 (by kernel_rfl) rfl rfl)
          have f23 : bb.tmps[23]?.getD undef = .agg #[.int .i64 x1, .int .i64 y1] := evalAt (v := .agg #[.int .i64 x1, .int .i64 y1]) (dep_at hD 3 23 (by kernel_rfl) rfl rfl)
          have f26 : bb.tmps[26]?.getD undef = .int .i64 r1 := evalAt (v := .int .i64 r1) (dep_at hD 6 26 (by kernel_rfl) rfl rfl)
          have f28 : bb.tmps[28]?.getD undef = .string nm := evalAt (v := .string nm) (dep_at hD 8 28 (by kernel_rfl) rfl rfl)
          go_simp
          exact hK (.agg #[.int .i64 i1, .int .i64 x1, .int .i64 y1, .int .i64 r1, .string nm, .int .i64 0]) W rfl (Below.refl _ _) hM
        | 10, _, ho =>
          cases ho
          go_simp
          exact hK (.pointer (some ⟨W.heap.size, 0, none⟩)) _ ⟨_, rfl, hM.bel.size, Blk.new _ _ _⟩ ((Below.refl _ _).alloc (Nat.le_refl _) _) (hM.up ((Below.refl _ _).alloc (Nat.le_refl _) _))
        | i + 11, hi, _ => exact absurd hi (by omega)
      case tail =>
        intro bb W' hM hA hall
        obtain ⟨L, hP10, hLl, kL⟩ := (show ∃ L, bb.eval (.tmp 7) = .pointer (some ⟨L, 0, none⟩) ∧ W1.heap.size ≤ L ∧ Blk W' L #[.int .i64 0, .int .i64 0, .int .i64 0, .int .i64 0, .string ⟨#[]⟩, .int .i64 0] 39 from hall 10 (by omega) _ _ rfl rfl)
        have hP9 : bb.eval (.tmp 29) = .agg #[.int .i64 i1, .int .i64 x1, .int .i64 y1, .int .i64 r1, .string nm, .int .i64 0] := hall 9 (by omega) _ _ rfl rfl
        have hfr := hA.frame [true, true, true, true, true, true, true, false, true, true, true, true, true, true, true, true, true, true, true, true, false, false, false, false, false, false, false, false, false, false, true, true, true, true, true, true, true, true, true, true, true, true, true, true, true, true, true, true, true, true, true, true, true, true, true, true, true, true, true, true, true] _ rfl (by kernel_rfl)
        clear hall hA
        obtain ⟨f, hf⟩ : ∃ f : Nat → Value, (fun k => bb.tmps.getD k undef) = f := ⟨_, rfl⟩
        have g7 : f 7 = .pointer (some ⟨L, 0, none⟩) := by rw [← hf, ← hP10]; rfl
        have g29 : f 29 = .agg #[.int .i64 i1, .int .i64 x1, .int .i64 y1, .int .i64 r1, .string nm, .int .i64 0] := by rw [← hf, ← hP9]; rfl
        rw [hf] at hfr
        clear hf hP10 hP9
        subst hfr
        simp only [pickL, g7, g29, Nat.reduceAdd]
        clear g7 g29
        simp only [List.drop_succ_cons, List.drop_zero]
        have l0 : W'.cell? ⟨L, 0, none⟩ = some (.int .i64 0) := kL.cell 0
        have l1 : W'.cell? ⟨L, 1, none⟩ = some (.int .i64 0) := kL.cell 1
        have l2 : W'.cell? ⟨L, 2, none⟩ = some (.int .i64 0) := kL.cell 2
        have l3 : W'.cell? ⟨L, 3, none⟩ = some (.int .i64 0) := kL.cell 3
        have l4 : W'.cell? ⟨L, 4, none⟩ = some (.string ⟨#[]⟩) := kL.cell 4
        have l5 : W'.cell? ⟨L, 5, none⟩ = some (.int .i64 0) := kL.cell 5
        have f0 := kL.frozen 0
        have f1 := kL.frozen 1
        have f2 := kL.frozen 2
        have f3 := kL.frozen 3
        have f4 := kL.frozen 4
        have f5 := kL.frozen 5
        have kL2 := (((((kL.set 0 (.int .i64 i1)).set 1 (.int .i64 x1)).set 2 (.int .i64 y1)).set 3 (.int .i64 r1)).set 4 (.string nm)).set 5 (.int .i64 0)
        have hgW := grown_trans (grown_trans (grown_trans (grown_trans (grown_trans (grown_setCell W' L 0 (.int .i64 i1)) (grown_setCell _ L 1 (.int .i64 x1))) (grown_setCell _ L 2 (.int .i64 y1))) (grown_setCell _ L 3 (.int .i64 r1))) (grown_setCell _ L 4 (.string nm))) (grown_setCell _ L 5 (.int .i64 0))
        obtain ⟨W2, hW2⟩ : ∃ W, (((((W'.setCell ⟨L, 0, none⟩ (.int .i64 i1)).setCell ⟨L, 1, none⟩ (.int .i64 x1)).setCell ⟨L, 2, none⟩ (.int .i64 y1)).setCell ⟨L, 3, none⟩ (.int .i64 r1)).setCell ⟨L, 4, none⟩ (.string nm)).setCell ⟨L, 5, none⟩ (.int .i64 0) = W := ⟨_, rfl⟩
        rw [hW2] at kL2 hgW
        replace kL2 : Blk W2 L #[.int .i64 i1, .int .i64 x1, .int .i64 y1, .int .i64 r1, .string nm, .int .i64 0] 39 := by simpa using kL2
        have hb12 : Below W1.heap.size W1 W2 := hM.bel.trans (below_of_grown hgW hM.bel.size (fun k e => by cases e; exact hLl))
        have hrow2 := Lib.hid (ownsRow_up hrow1.out hb12)
        have hLq : Hid (Wq.heap.size ≤ L) := Nat.le_trans hB1.size hLl
        have hLne : Hid ((Value.slice a4 acc.length c4).ownBlock ≠ some L) := fun e => by
          have := (hrow1.out.lt L e).2
          omega
        have hB2 := hB1.trans (hb12.mono hB1.size)
        replace hgW := Lib.hid hgW
        replace kL2 := Lib.hid kL2
        replace hb12 := Lib.hid hb12
        go_wp2_with fail
        refine wp_loop_rounds 1 ?_
        rw [rounds_succ]
        clear hW2 l0 l1 l2 l3 l4 l5 f0 f1 f2 f3 f4 f5 hM kL hrow1 hB1 kP hgW hb12 hLl hrad
        go_wp2_with fail
        have hla := lst_of_row lbOk hrow2.out (by omega)
        go_loopw [8, 43] (fun fv jj w3 => ∃ (j : Nat) (bs : List Nat), jj = .int .i64 (j : Nat) ∧ j ≤ acc.length ∧ Hid (bs.length = j) ∧ Hid (w3.ownsRow W2.heap.size 90 1 fv bs.length (bs.flatMap (fnE L).enc)) ∧ Hid (Boxes w3 bs (acc.take j)) ∧ Below W2.heap.size W2 w3) (fun _ jj _ => acc.length - (intOf jj).toNat)
        case atStart => exact ⟨0, [], rfl, Nat.zero_le _, Lib.hid rfl, Lib.hid ⟨by simp, .inl ⟨rfl, by simp⟩⟩, Lib.hid ⟨by simp, fun k b y h => by simp at h⟩, Below.refl _ _⟩
        case round =>
          obtain ⟨j, bs, rfl, hj, hbs, hfr, hbx, hB3⟩ := hrel
          have hsz3 := hB3.size
          by_cases hjl : j < acc.length
          · have hjI : (j : Int) < (acc.length : Int) := by omega
            obtain ⟨b, off, cap', i2, x2, y2, r2, t2, u2, hv, hget, hbl, hzc⟩ := hla.get hjl
            simp only [Value.slice.injEq, true_and] at hv
            obtain ⟨rfl, rfl⟩ := hv
            obtain ⟨z0, z1, z2, z3, z4, z5⟩ := hzc.below hB3 hbl
            replace hget := Lib.hid hget
            go_upto_region 14 with fail
            have kY := Blk.new wr #[.int .i64 i2, .int .i64 x2, .int .i64 y2, .int .i64 r2, .string t2, .int .i64 u2] 39
            have hbY : Below wr.heap.size wr (wr.alloc (.cells #[.int .i64 i2, .int .i64 x2, .int .i64 y2, .int .i64 r2, .string t2, .int .i64 u2] 39)) := (Below.refl _ _).alloc (Nat.le_refl _) _
            have hbx1 := hbx.out.below hbY
            have hfr1 := ownsRow_up hfr.out hbY
            have hBY := hB3.trans (hbY.mono hB3.size)
            obtain ⟨BY, hBY'⟩ : ∃ b, wr.heap.size = b := ⟨_, rfl⟩
            obtain ⟨WY, hWY⟩ : ∃ W, wr.alloc (.cells #[.int .i64 i2, .int .i64 x2, .int .i64 y2, .int .i64 r2, .string t2, .int .i64 u2] 39) = W := ⟨_, rfl⟩
            rw [hWY] at kY hbx1 hfr1 hBY
            rw [hWY]
            rw [hBY'] at kY
            rw [hBY']
            have hszY := hBY.size
            have hbl9 : bs.length ≤ 19 := by have := hbs.out; omega
            clear hWY hBY' hbx hfr hB3 hbY z0 z1 z2 z3 z4 z5 hsz3 hzc
            replace hbx1 := Lib.hid hbx1
            replace kY := Lib.hid kY
            go_wp2_with (first
              | (at_builtin; refine El.push (fnOk L) (fnIn L) (by rfl) _ _ (by rfl) (by rfl) hfr1 BY (by rfl) rfl hszY (by omega) ?_; intro v9 w9 hrow9 hf9 hg9 hb9)
              | fail)
            have hbsl := hbs.out
            have hx1 : acc.take (j + 1) = acc.take j ++ [⟨i2, x2, y2, r2, t2, u2⟩] := by rw [List.take_add_one, hget.out]; rfl
            have hbx9 : Boxes w9 (bs ++ [BY]) (acc.take (j + 1)) := by
              have hne : ∀ B c, Blk WY B c 39 → Blk w9 B c 39 := fun B c hk => hk.kept hg9 (fun e => ownsRow_other hfr1 hk (by decide) e)
              rw [hx1]
              have h0 := hbx1.out
              refine ⟨by simp [h0.1], fun m b' y' e1 e2 => ?_⟩
              by_cases hm : m < bs.length
              · rw [List.getElem?_append_left hm] at e1
                rw [List.getElem?_append_left (by rw [← h0.1]; exact hm)] at e2
                exact hne _ _ (h0.2 m b' y' e1 e2)
              · have hm2 : m = bs.length := by
                  have := (List.getElem?_eq_some_iff.1 e1).1
                  simp at this
                  omega
                rw [hm2] at e1
                rw [hm2, h0.1] at e2
                simp at e1 e2
                rw [← e1, ← e2]
                exact hne _ _ kY.out
            go_roundw
            case rel => exact ⟨j + 1, bs ++ [BY], by go_num, by omega, Lib.hid (by simp [hbsl]), Lib.hid hrow9, Lib.hid hbx9, hBY.trans hb9⟩
            case measure => first | (simp [intOf]; done) | (simp [intOf]; omega)
          · obtain rfl : j = acc.length := by omega
            have hgeI : ¬ (acc.length : Int) < (acc.length : Int) := by omega
            have hbl9 : bs.length ≤ 19 := by have := hbs.out; omega
            have hls := lst_of_row (fnOk L) hfr.out (by omega)
            have kL3 := kL2.out.below hB3 kL2.out.lt
            have hbx1 := hbx.out
            rw [List.take_length] at hbx1
            have hle := least_any _ ⟨i1, x1, y1, r1, nm, 0⟩ L bs acc wr hls kL3 hbx1
            obtain ⟨lim, hlim⟩ : ∃ n, leastF ⟨i1, x1, y1, r1, nm, 0⟩ acc = n := ⟨_, rfl⟩
            rw [hlim] at hle
            replace hlim := Lib.hid hlim
            have hrow3 := Lib.hid (ownsRow_up hrow2.out hB3)
            clear hbx1 hls hfr hbx hbs hlq
            go_upto_region 17 with (first
              | (go_at_call 39; (with_reducible refine hle.mono ?_); rintro e w4 ⟨rfl, hb4⟩; have kL4 := kL3.below hb4 kL3.lt; have hB4 := hB3.trans (hb4.mono hB3.size); have hrow4 := Lib.hid (ownsRow_up hrow3.out hb4); have f5 := kL4.frozen 5; have l5 : w4.cell? ⟨L, 5, none⟩ = some (.int .i64 0) := kL4.cell 5)
              | fail)
            have kL5 := kL4.set 5 (.int .i64 lim)
            have hg5 := grown_setCell w4 L 5 (.int .i64 lim)
            have hLb : Wq.heap.size ≤ L := by
              have h1 := hLq.out
              omega
            have hB5 : Below Wq.heap.size Wq (w4.setCell ⟨L, 5, none⟩ (.int .i64 lim)) := (hB2.trans (hB4.mono hB2.size)).grown hg5 (Nat.le_trans hB2.size hB4.size) (fun k e => by cases e; exact hLb)
            have hrow5 := hrow4.out.kept hg5 (.inr hLne.out)
            obtain ⟨W5, hW5⟩ : ∃ W, w4.setCell ⟨L, 5, none⟩ (.int .i64 lim) = W := ⟨_, rfl⟩
            rw [hW5] at kL5 hB5 hrow5
            rw [hW5]
            replace kL5 : Blk W5 L #[.int .i64 i1, .int .i64 x1, .int .i64 y1, .int .i64 r1, .string nm, .int .i64 lim] 39 := by simpa using kL5
            clear hW5 hg5 kL4 kL3 hrow4 hrow3 hrow2 hB4 hb4 l5 f5 hla kL2 hle
            have x0 : W5.cell? ⟨L, 0, none⟩ = some (.int .i64 i1) := kL5.cell 0
            have x1_ : W5.cell? ⟨L, 1, none⟩ = some (.int .i64 x1) := kL5.cell 1
            have x2 : W5.cell? ⟨L, 2, none⟩ = some (.int .i64 y1) := kL5.cell 2
            have x3 : W5.cell? ⟨L, 3, none⟩ = some (.int .i64 r1) := kL5.cell 3
            have x4 : W5.cell? ⟨L, 4, none⟩ = some (.string nm) := kL5.cell 4
            have x5 : W5.cell? ⟨L, 5, none⟩ = some (.int .i64 lim) := kL5.cell 5
            have hsz5 := hB5.size
            clear kL5
            go_wp2_with (first
              | (at_builtin; refine El.push lbOk lbIn (by rfl) _ _ (by rfl) (by rfl) hrow5 ⟨i1, x1, y1, r1, nm, lim⟩ (by rfl) rfl hsz5 (by omega) ?_; intro v9 w9 hrow9 hf9 hg9 hb9)
              | fail)
            go_roundw
            case rel =>
              refine ⟨k + 1, by omega, by go_num, ?_, hB5.trans hb9⟩
              have e1 := hstep.out
              unfold makeS lbP at e1
              simp only [hr1, hlim.out] at e1
              rw [e1]
              exact Lib.hid hrow9
            case measure => first | (simp [intOf]; done) | (simp [intOf]; omega)
    · obtain rfl : k = Q.length := by omega
      have hgeI : ¬ (Q.length : Int) < (Q.length : Int) := by omega
      rw [List.take_length, hres.out] at hrow
      go_wp2_with fail
      go_ret
      refine ⟨_, rfl, ?_, ?_⟩
      · exact ownsRow_base hrow.out (by have := hBq.size; omega)
      · exact hBq.trans (hB.mono (by have := hBq.size; omega))
end Go.Proofs.Ytikojanpbbiaiaa
