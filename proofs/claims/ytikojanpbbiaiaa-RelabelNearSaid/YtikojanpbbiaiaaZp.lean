/-
  Chapter 24: relabel.seeds without histories.
  Chapter 24: relabel.until; (*Labels).List.
  A drawn region within a round of a range over a function, calls of Go functions among its operations (the wide fence).
  Chapter 24: (*Labels).Change in plain words, and what its loops hold.
-/
import Derived.Test.YtikojanpbbiaiaaZo
import Derived.Test.YtikojanpbbiaiaaZn
import Derived.Test.YtikojanpbbiaiaaZm

namespace Go.Proofs.Ytikojanpbbiaiaa
set_option linter.unusedVariables false
set_option linter.unusedSimpArgs false
open Go Go.RowKit Go.Shelf Go.Lib Go.Sort
attribute [local go_sem] Oper.semAt_some
attribute [local go_sem ↓] Go.wp_at_zero Go.wp_at_succ

section
variable {α : Type} {E : El α} {P : Program} {st : TypeId} {w : World} {l : List α}
/-- elements of a slice appended onto an own row -/
theorem El.pushL (hE : E.Ok) (hI : E.In P st) {ops : Array Oper} {rest : List Oper} {o : Oper} {a : Act} {Q : Exit → Act → World → Prop} (hgd : o.guard = none) (sO xO : Operand) (ho : o.op = .call { callee := .builtin .append, args := #[sO, xO], argTypes := #[st, st] })
    {base : Nat} {v : Value} (hs : a.eval sO = v) (hrow : w.ownsRow base E.t E.s v l.length (l.flatMap E.enc)) (l2 : List α) {u : Value} {n0 : Nat} (hx : a.eval xO = u) (hL : Lst E n0 w u l2) (hpos : 0 < l2.length) (hbase : base ≤ w.heap.size) (hl : l.length + l2.length ≤ 100000)
    (h : ∀ v' w', w'.ownsRow base E.t E.s v' (l ++ l2).length ((l ++ l2).flatMap E.enc) → (∃ a c, v' = .slice a (l.length + l2.length) c) → w.grownBy w' v.ownBlock → Below base w w' → wpList P ops Q rest (a.put o.dst v') w') :
    wpList P ops Q (o :: rest) a w := by
  obtain ⟨i, z, hi, hz, hsz, hby, hzs⟩ := hI.info
  obtain ⟨b, off, cap, rfl, hcap, hbn, -⟩ := hL.some_ hpos
  refine wpList_append_lies _ hgd sO xO st ho base E.t i z E.s i.bytes hI.under hi hz hsz rfl hzs hE.pos v l.length _ hs hrow ⟨b, off, none⟩ l2.length cap (l2.flatMap E.enc) hx (flat_length hE l2) ?_ (flat_one hE l2) hpos (by unfold maxLen; omega) (Nat.le_trans (Nat.mul_le_mul hl hby) (by decide)) hbase _ rfl ?_
  · intro j u hj
    rw [Addr.add_lit]
    exact hL.flat hE j u hj
  · intro g cap' w' hown hg hgo hlt
    refine h _ w' ?_ ⟨_, _, rfl⟩ hg (below_of_grown hg hbase (fun k e => (hrow.lt k e).1))
    simpa [List.flatMap_append] using hown
end
/-- one element in a block of its own -/
theorem Lst.single {α : Type} {E : El α} (hE : E.Ok) {W : World} {b : Nat} {x : α} (h : Blk W b (E.enc x).toArray E.t) : Lst E W.heap.size W (.slice (some ⟨b, 0, none⟩) 1 1) [x] := by
  refine ⟨_, 1, rfl, Nat.le_refl _, by simp, fun j hj => ?_⟩
  have hj0 : j = 0 := by simp at hj; omega
  subst hj0
  refine ⟨b, 0, rfl, h.lt, fun i hi => ?_⟩
  simp only [Nat.zero_mul, Nat.zero_add]
  rw [h.cell i]
  simp
theorem sortP_one (p : Pc) : sortP [p] = [p] := by
  unfold sortP insertionSort
  rw [insOuter_stop _ _ _ _ _ (by simp)]
theorem queueL_one {p : Pc} (h : noName p = false) : queueL [p] = [p] := by
  unfold queueL
  rw [show [p].filter (fun x => !noName x) = [p] from by simp [h], sortP_one]
theorem makeL_one (p : Pc) : makeL [p] = [lbP p 1024] := rfl
/-- of a sorted list: no one without a name -/
theorem insOuter_mem (b : Nat) (p : Pc → Prop) : ∀ (m i : Nat) (d : Array Pc), b - i = m → b ≤ d.size → (∀ x ∈ d.toList, p x) → ∀ x ∈ (insOuter (ltOf cmpP) 0 b i d).toList, p x := by
  have hsw : ∀ (d : Array Pc) (j : Nat), j + 1 < d.size → (∀ x ∈ d.toList, p x) → ∀ x ∈ (swp d (j + 1) j).toList, p x := by
    intro d j hj h x hx
    unfold swp at hx
    rw [getElem!_pos d j (by omega), getElem!_pos d (j + 1) hj] at hx
    simp only [Array.toList_setIfInBounds] at hx
    have h1 := List.mem_or_eq_of_mem_set hx
    rcases h1 with h1 | h1
    · rcases List.mem_or_eq_of_mem_set h1 with h2 | h2
      · exact h x h2
      · rw [h2]; exact h _ (by simp)
    · rw [h1]; exact h _ (by simp)
  have hss : ∀ (d : Array Pc) (i j : Nat), (swp d i j).size = d.size := fun d i j => size_swp d i j
  have hin : ∀ (j : Nat) (d : Array Pc), j < d.size → (∀ x ∈ d.toList, p x) → (∀ x ∈ (insInner (ltOf cmpP) 0 j d).toList, p x) ∧ (insInner (ltOf cmpP) 0 j d).size = d.size := by
    intro j
    induction j with
    | zero => intro d _ h; exact ⟨h, rfl⟩
    | succ j ih =>
      intro d hj h
      unfold insInner
      split
      · have := ih (swp d (j + 1) j) (by rw [hss]; omega) (hsw d j hj h)
        exact ⟨this.1, by rw [this.2, hss]⟩
      · exact ⟨h, rfl⟩
  intro m
  induction m with
  | zero => intro i d hm _ h; rw [insOuter_stop _ _ _ _ _ (by omega)]; exact h
  | succ m ih =>
    intro i d hm hb h
    rw [insOuter_go _ _ _ _ _ (by omega)]
    have := hin i d (by omega) h
    exact ih (i + 1) _ (by omega) (by rw [this.2]; exact hb) this.1
theorem sortP_mem (l : List Pc) (p : Pc → Prop) (h : ∀ x ∈ l, p x) : ∀ x ∈ sortP l, p x := by
  unfold sortP insertionSort
  exact insOuter_mem _ p _ _ _ rfl (by simp) (by simpa using h)
theorem queueL_named (l : List Pc) : ∀ x ∈ queueL l, noName x = false := by
  unfold queueL
  refine sortP_mem _ _ fun x hx => ?_
  simpa using (List.mem_filter.1 hx).2
theorem queueL_all (l : List Pc) (p : Pc → Prop) (h : ∀ x ∈ l, p x) : ∀ x ∈ queueL l, p x := by
  unfold queueL
  exact sortP_mem _ _ fun x hx => h x (List.mem_filter.1 hx).1
/-- the seeds of places -/
def seedsL (l : List Pc) : List Lb := (queueL l).map (fun p => lbP p 1024)
set_option maxRecDepth 100000 in
set_option maxHeartbeats 4000000 in
theorem seeds_any (v1 v2 v3 pv : Value) (l : List Pc) (w : World) (h : Lst plE w.heap.size w pv l) (hf : Frm pv l.length) (hl : l.length ≤ 19) (hok : ∀ p ∈ queueL l, PcOk p) :
    Calls Try.prog 27 #[.agg #[v1, v2, v3, pv], .slice none 0 0] w fun e w' => ∃ u, e = .returned u ∧ w'.ownsRow w.heap.size 39 6 u (seedsL l).length ((seedsL l).flatMap lbE.enc) ∧ Below w.heap.size w w' := by
  have hB0 : Below w.heap.size w (w.alloc (.cells #[v1, v2, v3, pv] 29)) := (Below.refl _ _).alloc (Nat.le_refl _) _
  have kM := Blk.new w #[v1, v2, v3, pv] 29
  have c3 : (w.alloc (.cells #[v1, v2, v3, pv] 29)).cell? ⟨w.heap.size, 3, none⟩ = some pv := kM.cell 3
  have hL := h.up hB0
  have hlf : (l.filter (fun x => !noName x)).length ≤ 19 := Nat.le_trans (List.length_filter_le _ _) hl
  have hnm := queueL_named l
  have hsrt : sortP (l.filter (fun x => !noName x)) = queueL l := rfl
  have hlen : (queueL l).length = (l.filter (fun x => !noName x)).length := sortP_len _
  unfold seedsL
  obtain ⟨Q, hQ⟩ : ∃ Q, queueL l = Q := ⟨_, rfl⟩
  rw [hQ] at hnm hok hsrt hlen
  rw [hQ]
  clear hQ
  have hQ19 : Q.length ≤ 19 := by omega
  obtain ⟨res, hres⟩ : ∃ r, Q.map (fun p => lbP p 1024) = r := ⟨_, rfl⟩
  rw [hres]
  replace hres := Lib.hid hres
  replace hlen := Lib.hid hlen
  replace hsrt := Lib.hid hsrt
  go_enter Try.func27, Try.ntmps27
  go_upto_region 1 with fail
  obtain ⟨W0, hW0⟩ : ∃ W, w.alloc (.cells #[v1, v2, v3, pv] 29) = W := ⟨_, rfl⟩
  obtain ⟨B0, hB0e⟩ : ∃ b, w.heap.size = b := ⟨_, rfl⟩
  rw [hW0] at hB0 c3 hL
  rw [hW0]
  rw [hB0e] at c3
  rw [hB0e]
  clear hW0 kM
  go_upto_region 2 with (first
    | (go_at_call 55; (with_reducible refine (clonePl_any _ l _ hL hf (by omega)).mono ?_); rintro e w1 ⟨u1, rfl, hr1, hb1⟩)
    | (go_at_call 54; (with_reducible refine (deleteS_any _ _ l _ (by omega) hr1).mono ?_); rintro e w2 ⟨u2, rfl, hr2, hg2, ho2⟩)
    | fail)
  have hsz := hB0.size
  have hbb1 : Below B0 w w1 := (hB0e ▸ hB0).trans (hb1.mono (by omega))
  have hbb2 : Below B0 w w2 := hbb1.trans (below_of_grown hg2 (by have := hbb1.size; omega) (fun k hk => by have := (hr1.lt k hk).1; omega))
  replace hbb2 := Lib.hid hbb2
  replace hr2 := Lib.hid hr2
  clear hr1 hg2 hbb1 hb1 hL h hB0 c3
  go_upto_region 3 with (first
    | (go_at_call 57; (with_reducible refine (sortStable_S _ _ (l.filter (fun x => !noName x)) _ hlf hr2.out).mono ?_); rintro e Wq ⟨rfl, hr3, hg3⟩)
    | fail)
  rw [hsrt.out, ← hlen.out] at hr3
  have hBq : Below B0 w Wq := hbb2.out.trans (below_of_grown hg3 (by have := hbb2.out.size; omega) (fun k hk => by have := (hr3.lt k hk).1; omega))
  have hlq := lst_of_row plOk hr3 (by omega)
  obtain ⟨aq, cq, rfl, hcq⟩ := hlq.form
  clear hbb2 hr2 hg3 hr3 hsrt hlen
  go_wp2_with fail
  go_loopw [6, 17] (fun lv kk wr => ∃ k : Nat, k ≤ Q.length ∧ kk = .int .i64 (k : Nat) ∧ Hid (wr.ownsRow Wq.heap.size 39 6 lv ((Q.take k).map (fun p => lbP p 1024)).length (((Q.take k).map (fun p => lbP p 1024)).flatMap lbE.enc)) ∧ Below Wq.heap.size Wq wr) (fun _ kk _ => Q.length - (intOf kk).toNat)
  case atStart => exact ⟨0, Nat.zero_le _, rfl, Lib.hid ⟨by simp, .inl ⟨rfl, by simp⟩⟩, Below.refl _ _⟩
  case round =>
    obtain ⟨k, hk, rfl, hrow, hB⟩ := hrel
    have hsz2 := hB.size
    by_cases hlt : k < Q.length
    · have hltI : (k : Int) < (Q.length : Int) := by omega
      obtain ⟨p, hp⟩ : ∃ p, Q[k]? = some p := ⟨_, List.getElem?_eq_getElem hlt⟩
      have hpm := List.mem_of_getElem? hp
      have hmk := fun u W (hL : Lst plE W.heap.size W u [p]) (hf : Frm u 1) => make_any (.slice none 0 0) (.slice none 0 0) (.slice none 0 0) u [p] W hL hf (by simp) (fun p' hp' => by rw [queueL_one (hnm p hpm)] at hp'; rw [List.mem_singleton.1 hp']; exact hok p hpm)
      rw [queueL_one (hnm p hpm), makeL_one] at hmk
      have hstep : (Q.take (k + 1)).map (fun p => lbP p 1024) = (Q.take k).map (fun p => lbP p 1024) ++ [lbP p 1024] := by
        rw [List.take_add_one, hp, List.map_append]
        rfl
      have hacc : ((Q.take k).map (fun p => lbP p 1024)).length ≤ 19 := by rw [List.length_map, List.length_take]; omega
      obtain ⟨acc, hacc2⟩ : ∃ a, (Q.take k).map (fun p => lbP p 1024) = a := ⟨_, rfl⟩
      rw [hacc2] at hrow hstep hacc
      obtain ⟨lb, hlb⟩ : ∃ b, lbP p 1024 = b := ⟨_, rfl⟩
      rw [hlb] at hmk hstep
      replace hstep := Lib.hid hstep
      clear hacc2 hlb hpm
      obtain ⟨qb, qo, cq', hv, -, hqb, hqc⟩ := hlq.some_ (by omega)
      simp only [Value.slice.injEq, true_and] at hv
      obtain ⟨rfl, rfl⟩ := hv
      have hqk : Q[k] = p := by rw [List.getElem?_eq_getElem hlt] at hp; exact Option.some.inj hp
      have hcc := hqc k hlt
      rw [hqk] at hcc
      have q0 : wr.cell? ⟨qb, qo + k * 7, none⟩ = some (.int .i64 p.id) := (hB.cell (p := ⟨qb, qo + k * 7, none⟩) hqb).trans (hcc 0 (by decide))
      have q1 : wr.cell? ⟨qb, qo + k * 7 + 1, none⟩ = some (.int .i64 p.x) := (hB.cell (p := ⟨qb, qo + k * 7 + 1, none⟩) hqb).trans (hcc 1 (by decide))
      have q2 : wr.cell? ⟨qb, qo + k * 7 + 2, none⟩ = some (.int .i64 p.y) := (hB.cell (p := ⟨qb, qo + k * 7 + 2, none⟩) hqb).trans (hcc 2 (by decide))
      have q3 : wr.cell? ⟨qb, qo + k * 7 + 3, none⟩ = some (.string p.cls) := (hB.cell (p := ⟨qb, qo + k * 7 + 3, none⟩) hqb).trans (hcc 3 (by decide))
      have q4 : wr.cell? ⟨qb, qo + k * 7 + 4, none⟩ = some (.string p.nm) := (hB.cell (p := ⟨qb, qo + k * 7 + 4, none⟩) hqb).trans (hcc 4 (by decide))
      have q5 : wr.cell? ⟨qb, qo + k * 7 + 5, none⟩ = some (.int .i64 p.wt) := (hB.cell (p := ⟨qb, qo + k * 7 + 5, none⟩) hqb).trans (hcc 5 (by decide))
      have q6 : wr.cell? ⟨qb, qo + k * 7 + 6, none⟩ = some (.int .i64 p.ds) := (hB.cell (p := ⟨qb, qo + k * 7 + 6, none⟩) hqb).trans (hcc 6 (by decide))
      clear hp hqk hcc hqc
      obtain ⟨i1, x1, y1, c1, nm, wt1, d1⟩ := p
      simp only at q0 q1 q2 q3 q4 q5 q6
      go_upto_region 7 with fail
      have kP := Blk.new wr #[.int .i64 i1, .int .i64 x1, .int .i64 y1, .string c1, .string nm, .int .i64 wt1, .int .i64 d1] 41
      have hBa : Below wr.heap.size wr (wr.alloc (.cells #[.int .i64 i1, .int .i64 x1, .int .i64 y1, .string c1, .string nm, .int .i64 wt1, .int .i64 d1] 41)) := (Below.refl _ _).alloc (Nat.le_refl _) _
      obtain ⟨BP, hBP⟩ : ∃ b, wr.heap.size = b := ⟨_, rfl⟩
      obtain ⟨W1, hW1⟩ : ∃ W, wr.alloc (.cells #[.int .i64 i1, .int .i64 x1, .int .i64 y1, .string c1, .string nm, .int .i64 wt1, .int .i64 d1] 41) = W := ⟨_, rfl⟩
      have hrow1 := Lib.hid (ownsRow_up hrow.out hBa)
      have hB1 := hB.trans (hBa.mono hB.size)
      rw [hW1] at kP hrow1 hB1
      rw [hW1]
      rw [hBP] at kP
      rw [hBP]
      clear hW1 hrow hB hBa q0 q1 q2 q3 q4 q5 q6 hsz2 hBP ho2
      have x0 : W1.cell? ⟨BP, 0, none⟩ = some (.int .i64 i1) := kP.cell 0
      have x1_ : W1.cell? ⟨BP, 1, none⟩ = some (.int .i64 x1) := kP.cell 1
      have x2 : W1.cell? ⟨BP, 2, none⟩ = some (.int .i64 y1) := kP.cell 2
      have x3 : W1.cell? ⟨BP, 3, none⟩ = some (.string c1) := kP.cell 3
      have x4 : W1.cell? ⟨BP, 4, none⟩ = some (.string nm) := kP.cell 4
      have x5 : W1.cell? ⟨BP, 5, none⟩ = some (.int .i64 wt1) := kP.cell 5
      have x6 : W1.cell? ⟨BP, 6, none⟩ = some (.int .i64 d1) := kP.cell 6
      have hm1 := hmk _ _ (Lst.single plOk (x := ⟨i1, x1, y1, c1, nm, wt1, d1⟩) (Blk.new W1 #[.int .i64 i1, .int .i64 x1, .int .i64 y1, .string c1, .string nm, .int .i64 wt1, .int .i64 d1] 41)) (.inr ⟨_, _, _, rfl⟩)
      have hb2 : Below W1.heap.size W1 (W1.alloc (.cells #[.int .i64 i1, .int .i64 x1, .int .i64 y1, .string c1, .string nm, .int .i64 wt1, .int .i64 d1] 41)) := (Below.refl _ _).alloc (Nat.le_refl _) _
      clear hmk kP
      go_wp2_with (first
        | (go_at_call 12; (with_reducible refine hm1.mono ?_); rintro e w3 ⟨u3, rfl, hr3, hb3⟩; have hb23 := hb2.trans (hb3.mono hb2.size); have hrow3 := ownsRow_up hrow1.out hb23; have hl3 := lst_of_row lbOk hr3 (by simp); have hB3 := hB1.trans (hb23.mono hB1.size); have hsz3 := hB3.size)
        | (at_builtin; refine El.pushL lbOk lbIn (by rfl) _ _ (by rfl) (by rfl) hrow3 [lb] (by rfl) hl3 (by simp) hsz3 (by simp; omega) ?_; intro v9 w9 hrow9 hf9 hg9 hb9)
        | fail)
      go_roundw
      case rel => exact ⟨k + 1, by omega, by go_num, by rw [hstep.out]; exact Lib.hid hrow9, hB3.trans hb9⟩
      case measure => first | (simp [intOf]; done) | (simp [intOf]; omega)
    · obtain rfl : k = Q.length := by omega
      have hgeI : ¬ (Q.length : Int) < (Q.length : Int) := by omega
      rw [List.take_length, hres.out] at hrow
      go_wp2_with fail
      go_ret
      refine ⟨_, rfl, ?_, ?_⟩
      · exact ownsRow_base hrow.out (by have := hBq.size; omega)
      · exact hB0e ▸ hBq.trans (hB.mono (by have := hBq.size; omega))
end Go.Proofs.Ytikojanpbbiaiaa
namespace Go.Proofs.Ytikojanpbbiaiaa
set_option linter.unusedVariables false
set_option linter.unusedSimpArgs false
open Go Go.RowKit Go.Shelf Go.Lib Go.Sort
attribute [local go_sem] Oper.semAt_some
attribute [local go_sem ↓] Go.wp_at_zero Go.wp_at_succ

/-- up to which scale a label is shown behind others -/
def untS (s : Lb) (z : Int) (y : Lb) : Int := if (limL y s : Int) < y.unt then min z (limL y s) else z
def untL (before : List Lb) (s : Lb) : Int := before.foldl (untS s) s.unt
theorem untL_step {l : List Lb} {k : Nat} {y : Lb} (s : Lb) (h : l[k]? = some y) : untL (l.take (k + 1)) s = if (limL y s : Int) < y.unt then min (untL (l.take k) s) (limL y s) else untL (l.take k) s := by
  unfold untL
  rw [List.take_add_one, h, List.foldl_append]
  rfl
set_option maxRecDepth 100000 in
set_option maxHeartbeats 2000000 in
theorem until_any (v : Value) (l : List Lb) (s : Lb) (w : World) (h : Lst lbE w.heap.size w v l) :
    Calls Try.prog 30 #[v, lbV s] w fun e w' => e = .returned (.int .i64 (untL l s)) ∧ Below w.heap.size w w' := by
  have hlen := h.len
  obtain ⟨a, cap, rfl, -⟩ := h.form
  obtain ⟨i, x, y, r, t, u⟩ := s
  obtain ⟨res, hres⟩ : ∃ r_, untL l ⟨i, x, y, r, t, u⟩ = r_ := ⟨_, rfl⟩
  rw [hres]
  replace hres := Lib.hid hres
  have hB0 : Below w.heap.size w (w.alloc (.cells #[.int .i64 i, .int .i64 x, .int .i64 y, .int .i64 r, .string t, .int .i64 u] 39)) := (Below.refl _ _).alloc (Nat.le_refl _) _
  have kS := Blk.new w #[.int .i64 i, .int .i64 x, .int .i64 y, .int .i64 r, .string t, .int .i64 u] 39
  have h1 := h.up hB0
  go_enter Try.func30, Try.ntmps30
  go_upto_region 2 with fail
  obtain ⟨W0, hW0⟩ : ∃ W, w.alloc (.cells #[.int .i64 i, .int .i64 x, .int .i64 y, .int .i64 r, .string t, .int .i64 u] 39) = W := ⟨_, rfl⟩
  obtain ⟨B0, hB0e⟩ : ∃ b, w.heap.size = b := ⟨_, rfl⟩
  rw [hW0] at kS hB0 h1
  rw [hW0]
  rw [hB0e] at kS hB0
  rw [hB0e]
  clear hW0 h
  go_wp2_with fail
  go_loopw [5, 13] (fun zz kk wr => ∃ k : Nat, k ≤ l.length ∧ kk = .int .i64 (k : Nat) ∧ zz = .int .i64 (untL (l.take k) ⟨i, x, y, r, t, u⟩) ∧ Below W0.heap.size W0 wr) (fun _ kk _ => l.length - (intOf kk).toNat)
  case atStart => exact ⟨0, Nat.zero_le _, rfl, rfl, Below.refl _ _⟩
  case round =>
    obtain ⟨k, hk, rfl, rfl, hB⟩ := hrel
    have hsz := hB.size
    by_cases hlt : k < l.length
    · have hltI : (k : Int) < (l.length : Int) := by omega
      obtain ⟨b, off, cap', i2, x2, y2, r2, t2, u2, hv, hget, hbl, hzc⟩ := h1.get hlt
      simp only [Value.slice.injEq, true_and] at hv
      obtain ⟨rfl, rfl⟩ := hv
      obtain ⟨z0, z1, z2, z3, z4, z5⟩ := hzc.below hB hbl
      have hst := untL_step ⟨i, x, y, r, t, u⟩ hget
      have hlim := limit_any ⟨i2, x2, y2, r2, t2, u2⟩ ⟨i, x, y, r, t, u⟩
      have kS1 := kS.below hB kS.lt
      simp only at hst
      generalize untL (l.take k) ⟨i, x, y, r, t, u⟩ = z at *
      generalize limL ⟨i2, x2, y2, r2, t2, u2⟩ ⟨i, x, y, r, t, u⟩ = n at *
      have s0 : wr.cell? ⟨B0, 0, none⟩ = some (.int .i64 i) := kS1.cell 0
      have s1 : wr.cell? ⟨B0, 1, none⟩ = some (.int .i64 x) := kS1.cell 1
      have s2 : wr.cell? ⟨B0, 2, none⟩ = some (.int .i64 y) := kS1.cell 2
      have s3 : wr.cell? ⟨B0, 3, none⟩ = some (.int .i64 r) := kS1.cell 3
      have s4 : wr.cell? ⟨B0, 4, none⟩ = some (.string t) := kS1.cell 4
      have s5 : wr.cell? ⟨B0, 5, none⟩ = some (.int .i64 u) := kS1.cell 5
      clear kS1 hget hzc
      by_cases hnu : (n : Int) < u2
      · rw [if_pos hnu] at hst
        replace hst := Lib.hid hst
        go_wp2_with (first
          | (go_at_call 11; (with_reducible refine (hlim _).mono ?_); rintro e w' ⟨rfl, hb_⟩; obtain ⟨p1, rfl⟩ := grow_of_below hb_; clear hb_)
          | fail)
        go_roundw
        case rel => exact ⟨k + 1, by omega, by go_num, by rw [hst.out], (by repeat' (first | with_reducible exact Below.refl _ _ | with_reducible exact Nat.le_refl _ | with_reducible assumption | with_reducible refine Go.below_growBy' ?_ ?_ _ | with_reducible refine Below.alloc ?_ ?_ _ | with_reducible refine Below.setCell ?_ ?_ _ | with_reducible refine Below.drew ?_ | with_reducible refine Go.le_alloc ?_ | with_reducible refine Go.le_growBy ?_ | with_reducible refine Go.le_setCell ?_ | with_reducible refine Go.le_drew ?_ | omega | (dsimp only; omega)))⟩
        case measure => first | (simp [intOf]; done) | (simp [intOf]; omega)
      · rw [if_neg hnu] at hst
        replace hst := Lib.hid hst
        go_wp2_with (first
          | (go_at_call 11; (with_reducible refine (hlim _).mono ?_); rintro e w' ⟨rfl, hb_⟩; obtain ⟨p1, rfl⟩ := grow_of_below hb_; clear hb_)
          | fail)
        go_roundw
        case rel => exact ⟨k + 1, by omega, by go_num, by rw [hst.out], (by repeat' (first | with_reducible exact Below.refl _ _ | with_reducible exact Nat.le_refl _ | with_reducible assumption | with_reducible refine Go.below_growBy' ?_ ?_ _ | with_reducible refine Below.alloc ?_ ?_ _ | with_reducible refine Below.setCell ?_ ?_ _ | with_reducible refine Below.drew ?_ | with_reducible refine Go.le_alloc ?_ | with_reducible refine Go.le_growBy ?_ | with_reducible refine Go.le_setCell ?_ | with_reducible refine Go.le_drew ?_ | omega | (dsimp only; omega)))⟩
        case measure => first | (simp [intOf]; done) | (simp [intOf]; omega)
    · obtain rfl : k = l.length := by omega
      have hgeI : ¬ (l.length : Int) < (l.length : Int) := by omega
      rw [List.take_length, hres.out]
      go_wp2_with fail
      go_ret
      exact ⟨rfl, hB0e ▸ hB0.trans (hB.mono (by have := hB0.size; omega))⟩
/-- what a *Labels holds -/
structure LabS (W : World) (BX : Nat) (sd ls : List Lb) : Prop where
  ex : ∃ sv lv, Blk W BX #[sv, lv] 45 ∧ W.ownsRow 0 39 6 sv sd.length (sd.flatMap lbE.enc) ∧ W.ownsRow 0 39 6 lv ls.length (ls.flatMap lbE.enc)
  len : sd.length = ls.length
  small : sd.length ≤ 19
theorem LabS.below {W W' : World} {BX : Nat} {sd ls : List Lb} (h : LabS W BX sd ls) (hb : Below W.heap.size W W') : LabS W' BX sd ls := by
  obtain ⟨⟨sv, lv, h1, h2, h3⟩, h6, h7⟩ := h
  exact ⟨⟨sv, lv, h1.below hb h1.lt, ownsRow_up h2 hb, ownsRow_up h3 hb⟩, h6, h7⟩
/-- another *Labels turns -/
theorem LabS.kept {W W' : World} {BX B : Nat} {sd ls : List Lb} {c : Array Value} (h : LabS W BX sd ls) (hg : W.grownBy W' (some B)) (hB : Blk W B c 45) (hne : B ≠ BX) : LabS W' BX sd ls := by
  obtain ⟨⟨sv, lv, h1, h2, h3⟩, h6, h7⟩ := h
  exact ⟨⟨sv, lv, h1.kept hg (by simpa using hne), h2.kept hg (.inr (ownsRow_other h2 hB (by decide))), h3.kept hg (.inr (ownsRow_other h3 hB (by decide)))⟩, h6, h7⟩
theorem LabS.blk {W : World} {BX : Nat} {sd ls : List Lb} (h : LabS W BX sd ls) : ∃ c, Blk W BX c 45 := by
  obtain ⟨⟨sv, lv, h1, -⟩, -⟩ := h
  exact ⟨_, h1⟩
theorem LabS.out {W : World} {BX : Nat} {sd ls : List Lb} (h : LabS W BX sd ls) : ∃ sv lv, Blk W BX #[sv, lv] 45 ∧ Lst lbE W.heap.size W sv sd ∧ Lst lbE W.heap.size W lv ls ∧ Frm sv sd.length ∧ Frm lv ls.length := by
  obtain ⟨⟨sv, lv, h1, h2, h3⟩, h6, h7⟩ := h
  exact ⟨sv, lv, h1, lst_of_row lbOk h2 (by omega), lst_of_row lbOk h3 (by omega), frm_row h2, frm_row h3⟩
theorem list_any (BX : Nat) (sd ls : List Lb) (w : World) (h : LabS w BX sd ls) :
    Calls Try.prog 9 #[.pointer (some ⟨BX, 0, none⟩)] w fun e w' => ∃ u, e = .returned u ∧ w'.ownsRow w.heap.size 39 6 u ls.length (ls.flatMap lbE.enc) ∧ Below w.heap.size w w' := by
  have h7 := h.small
  have h6 := h.len
  obtain ⟨sv, lv, h1, h2, h3, h4, h5⟩ := h.out
  have c1 : w.cell? ⟨BX, 1, none⟩ = some lv := h1.cell 1
  have hc := cloneLb_any lv ls w h3 h5 (by omega)
  clear h1 h2 h3 h4 h5 h6 h7 h
  go_enter Try.func9, Try.ntmps9
  go_wp2_with (first
    | (go_at_call 26; (with_reducible refine hc.mono ?_); rintro e w1 ⟨u1, rfl, hr1, hb1⟩)
    | fail)
  go_ret
  exact ⟨_, rfl, hr1, hb1⟩
theorem listNil_any (w : World) :
    Calls Try.prog 9 #[.pointer none] w fun e w' => e = .returned (.slice none 0 0) ∧ w = w' := by
  go_enter Try.func9, Try.ntmps9
  go_wp2_with fail
  go_ret
  exact ⟨rfl, rfl⟩
end Go.Proofs.Ytikojanpbbiaiaa
namespace Go.Proofs.Ytikojanpbbiaiaa
set_option linter.unusedVariables false
set_option linter.unusedSimpArgs false
open Go Go.RowKit

theorem uponIn_of_upon {l n : Nat} {P : Program} {o : Oper} {a : Act} {K : Act → World → Prop} {Q : Exit → Act → World → Prop} {r : Result Next} (h : o.upon P a K Q r) : o.uponIn (Fence.wide.inRound l) n P a K Q r := by
  cases r with
  | halt s w' => cases s <;> first | exact h | exact h.elim
  | ok nx w' =>
    cases nx with
    | value v => exact h
    | skip => exact h
    | defer d => exact h
    | enter f args => exact ⟨(fun e => by cases e), ((callsIn_wide (n := n - 1)).2 h).inRound l⟩
    | row row args => exact ⟨(fun e => by cases e), fun c cs _ => let ⟨v, w2, r, s⟩ := h c cs; ⟨v, w2, r, stepsIn_wide.2 s⟩⟩
    | _ => exact h.elim
theorem wpIn_of_wp2 {l n : Nat} {P : Program} {o : Oper} (h0 : ∀ (ρ : Operand → Value), o.semAt (some l) ρ = execOp ρ o) {a : Act} {w : World} {K : Act → World → Prop} {Q : Exit → Act → World → Prop} (h : o.wp P a w K Q) : o.wpIn (Fence.wide.inRound l) n P a w K Q := by
  refine ⟨fun f _ => trivial, ?_⟩
  rw [show (Fence.wide.inRound l).round = some l from rfl, h0 a.eval]
  exact uponIn_of_upon h
theorem wpAnyIn_of_wpAny2 {l n : Nat} {P : Program} {md : Region.Mode} {ops : Array Oper} {Q : Exit → Act → World → Prop} (h0 : ∀ (i : Nat) (o : Oper), ops[i]? = some o → ∀ (ρ : Operand → Value), o.semAt (some l) ρ = execOp ρ o) (hQ : ¬ LetsOut Q) : ∀ (fuel : Nat) (listed : Array Bool) (a : Act) (w : World), wpAny P md ops Q fuel listed a w → wpAnyIn (Fence.wide.inRound l) n P md ops Q fuel listed a w := by
  intro fuel
  induction fuel with
  | zero => exact fun _ _ _ h => h
  | succ fuel ih =>
    rintro listed a w ⟨h1, h2⟩
    refine ⟨h1, fun i hi => ?_⟩
    have h := h2 i hi
    unfold wpOp at h
    unfold wpOpIn
    cases ho : ops[i]? with
    | none =>
      rw [ho] at h
      exact ih _ _ _ h
    | some o =>
      rw [ho] at h
      simp only at h ⊢
      split
      · rename_i hw
        rw [if_pos hw] at h
        rcases h with h | ⟨_, h⟩
        · refine wpIn_of_wp2 (h0 i o ho) ?_
          exact Oper.wp_mono (fun a w h => ih _ a w h) h
        · exact absurd h hQ
      · rename_i hw
        rw [if_neg hw] at h
        exact ⟨fun f _ => trivial, ih _ _ _ h⟩
/-- wp_region_rel, within a round -/
theorem wpIn_region_calls {lp m : Nat} {P : Program} {id : Nat} {Q : Exit → Act → World → Prop} (hQ : ¬ LetsOut Q) {a : Act} {w : World} {l : List Oper} (h0 : ∀ (i : Nat) (o : Oper), l.toArray[i]? = some o → ∀ (ρ : Operand → Value), o.semAt (some lp) ρ = execOp ρ o) (n : Nat) (hm : P.follows .mixedOrders = true) (hB : Region.relB l.toArray n a.tmps.size = true)
    (I : Nat → World → Prop) (G : World → World → Prop) (Fv : Nat → Value → World → Prop) (hFv : ∀ i v w w', Fv i v w → G w w' → Fv i v w') (hI0 : I 0 w.drew)
    (hstep : ∀ i o, i < n → l.toArray[i]? = some o → ∀ c b w', c < n → I c w' → Agree l.toArray n a b → (∀ e ∈ o.after, Region.binds .any e = true → LeftAt l.toArray Fv e.on b w') →
      ∀ K : Act → World → Prop, (∀ v w'', Fv i v w'' → G w' w'' → I (c + 1) w'' → K (b.put o.dst v) w'') → Oper.wp P o b w' K Q)
    (htail : ∀ b w', I n w' → Agree l.toArray n a b → (∀ i, i < n → LeftAt l.toArray Fv i b w') → wpList P l.toArray Q (l.drop n) b w') :
    (Code.region id l.toArray true).wpIn (Fence.wide.inRound lp) m P Q a w := by
  simp only [Region.relB, Bool.and_eq_true, decide_eq_true_eq] at hB
  obtain ⟨⟨⟨⟨hn, hs⟩, hc⟩, hh⟩, hseq⟩ := hB
  have hh' : ∀ i, i < n → ∃ o d, HeadOk l.toArray n a.tmps.size i o d := fun i hi => Region.headB_spec (List.all_eq_true.1 hh i (List.mem_range.2 hi))
  have inv0 : HeadInv .any l.toArray n (Array.replicate l.toArray.size false) :=
    ⟨by simp, fun j oj _ hl => (by rw [getD_replicate_false] at hl; cases hl), fun t _ ht => getD_in (by simpa using ht) (getD_replicate_false _ _)⟩
  refine wpIn_region_any hm ?_
  refine wpAnyIn_of_wpAny2 h0 hQ _ _ _ _ ?_
  have h := wp_rel_go (P := P) (Q := Q) (a := a) hn hs hc hh' hseq I G Fv hFv hstep htail n 0 _ a w.drew (by omega) (cntL_none n) inv0 hI0 (Agree.refl _ _ _) (fun j hj hl => by rw [getD_replicate_false] at hl; cases hl)
  rw [show n + (l.toArray.size - n) = l.toArray.size from by omega] at h
  exact h
end Go.Proofs.Ytikojanpbbiaiaa
namespace Go.Proofs.Ytikojanpbbiaiaa
set_option linter.unusedVariables false
set_option linter.unusedSimpArgs false
open Go Go.RowKit Go.Shelf Go.Lib Go.Maps

def updU (s : Lb) (u : Int) : Lb := ⟨s.id, s.x, s.y, s.r, s.txt, u⟩
def setU : List Lb → Nat → Int → List Lb
  | [], _, _ => []
  | s :: l, 0, u => updU s u :: l
  | s :: l, k + 1, u => s :: setU l k u
theorem setU_length : ∀ (l : List Lb) (k : Nat) (u : Int), (setU l k u).length = l.length
  | [], _, _ => rfl
  | s :: l, 0, u => rfl
  | s :: l, k + 1, u => by simp [setU, setU_length l k u]
theorem setU_mid (A : List Lb) (s : Lb) (B : List Lb) (u : Int) : setU (A ++ s :: B) A.length u = A ++ updU s u :: B := by
  induction A with
  | nil => rfl
  | cons a A ih => simp [setU, ih]
theorem setU_flat : ∀ (l : List Lb) (k : Nat) (u : Int), k < l.length → (l.flatMap lbE.enc).set (k * 6 + 5) (.int .i64 u) = (setU l k u).flatMap lbE.enc
  | [], k, u, h => by simp at h
  | s :: l, 0, u, h => by simp [setU, updU]
  | s :: l, k + 1, u, h => by
    have ih := setU_flat l k u (by simpa using h)
    rw [setU, List.flatMap_cons, List.flatMap_cons, List.set_append_right _ _ (by simp; omega)]
    rw [show (k + 1) * 6 + 5 - (lbE.enc s).length = k * 6 + 5 from by simp; omega, ih]
/-- one label's scale in an own row -/
theorem ownsRow_setU {W : World} {base g cap : Nat} {l : List Lb} {k : Nat} (hk : k < l.length) (h : W.ownsRow base 39 6 (.slice (some ⟨g, 0, none⟩) l.length cap) l.length (l.flatMap lbE.enc)) (u : Int) :
    (W.setCell ⟨g, k * 6 + 5, none⟩ (.int .i64 u)).ownsRow base 39 6 (.slice (some ⟨g, 0, none⟩) l.length cap) l.length ((setU l k u).flatMap lbE.enc) := by
  rcases h.2 with ⟨e, -⟩ | ⟨g', cap', cur, e, hb, hg, h1, h2, h3, h4⟩
  · cases e
  · simp only [Value.slice.injEq, Option.some.injEq, Addr.mk.injEq, and_true, true_and] at e
    obtain ⟨rfl, rfl⟩ := e
    refine ⟨by rw [flat_length lbOk, setU_length], .inr ⟨g, cap, cur.setIfInBounds (k * 6 + 5) (.int .i64 u), rfl, hb, (show Blk W g cur 39 from hg).set _ _, h1, h2, by simpa using h3, ?_⟩⟩
    rw [← setU_flat l k u hk, ← h4]
    simp [List.take_set]
theorem ownsRow_cellF {W : World} {base g cap n s : Nat} {e : TypeId} {xs : List Value} (h : W.ownsRow base e s (.slice (some ⟨g, 0, none⟩) n cap) n xs) {j : Nat} (hj : j < n * s) : (∃ v, W.cell? ⟨g, j, none⟩ = some v) ∧ W.frozen? ⟨g, j, none⟩ = false := by
  have h1 := h.cellAt j hj
  refine ⟨⟨xs[j]'(by rw [h.1]; exact hj), by rw [h1, List.getElem?_eq_getElem]⟩, ?_⟩
  rcases h.2 with ⟨e1, -⟩ | ⟨g', cap', cur, e1, hb, hg, -⟩
  · cases e1
  · simp only [Value.slice.injEq, Option.some.injEq, Addr.mk.injEq, and_true, true_and] at e1
    obtain ⟨rfl, rfl⟩ := e1
    exact (show Blk W g cur e from hg).frozen j
theorem ownsRow_pos {W : World} {base n s cap : Nat} {e : TypeId} {a : Option Addr} {xs : List Value} (h : W.ownsRow base e s (.slice a n cap) n xs) (hn : 0 < n) : ∃ g, a = some ⟨g, 0, none⟩ ∧ base ≤ g := by
  rcases h.2 with ⟨e1, e2⟩ | ⟨g, cap', cur, e1, hb, -⟩
  · omega
  · simp only [Value.slice.injEq] at e1
    exact ⟨g, e1.1, hb⟩
theorem ownsRow_below {W W' : World} {base n n0 s : Nat} {e : TypeId} {v : Value} {xs : List Value} (h : W.ownsRow base e s v n xs) (hb : Below n0 W W') (hl : ∀ b, v.ownBlock = some b → b < n0) : W'.ownsRow base e s v n xs := by
  refine ⟨h.1, h.2.imp id ?_⟩
  rintro ⟨g, cap, cur, rfl, h2, h3, h4⟩
  exact ⟨g, cap, cur, rfl, h2, (hb.block g (hl g rfl)).trans h3, h4⟩
theorem lst_of_row_lt {α : Type} {E : El α} {n0 : Nat} {W : World} {v : Value} {l : List α} (hE : E.Ok) {base : Nat} (h : W.ownsRow base E.t E.s v l.length (l.flatMap E.enc)) (hl : l.length ≤ 1000000) (hb : ∀ b, v.ownBlock = some b → b < n0) : Lst E n0 W v l := by
  obtain ⟨a, cap, rfl, h1, h2, h3⟩ := lst_of_row hE h hl
  refine ⟨a, cap, rfl, h1, h2, fun j hj => ?_⟩
  obtain ⟨b, off, e, -, hc⟩ := h3 j hj
  exact ⟨b, off, e, hb b (by rw [e]; rfl), hc⟩
/-- what is carried over from the labels before -/
def carry (sd ls : List Lb) (s : Lb) : Lb := if 0 ≤ indL sd s then updU s (ls[(indL sd s).toNat]!).unt else s
def mixL (sd ls next : List Lb) (k : Nat) : List Lb := (next.take k).map (carry sd ls) ++ next.drop k
theorem mixL_len (sd ls next : List Lb) (k : Nat) : (mixL sd ls next k).length = next.length := by
  unfold mixL
  simp
  omega
theorem mixL_succ {sd ls next : List Lb} {k : Nat} {s : Lb} (h : next[k]? = some s) : mixL sd ls next (k + 1) = (next.take k).map (carry sd ls) ++ carry sd ls s :: next.drop (k + 1) ∧ mixL sd ls next k = (next.take k).map (carry sd ls) ++ s :: next.drop (k + 1) := by
  have hk := (List.getElem?_eq_some_iff.1 h).1
  unfold mixL
  refine ⟨by rw [List.take_add_one, h]; simp, ?_⟩
  rw [List.drop_eq_getElem_cons hk, (List.getElem?_eq_some_iff.1 h).2]
theorem mixL_set {sd ls next : List Lb} {k : Nat} {s : Lb} (h : next[k]? = some s) (hi : 0 ≤ indL sd s) : setU (mixL sd ls next k) k (ls[(indL sd s).toNat]!).unt = mixL sd ls next (k + 1) := by
  obtain ⟨h1, h2⟩ := mixL_succ (sd := sd) (ls := ls) h
  have hk := (List.getElem?_eq_some_iff.1 h).1
  have hl : ((next.take k).map (carry sd ls)).length = k := by simp; omega
  have := setU_mid ((next.take k).map (carry sd ls)) s (next.drop (k + 1)) (ls[(indL sd s).toNat]!).unt
  rw [hl] at this
  rw [h1, h2, this, carry, if_pos hi]
theorem mixL_skip {sd ls next : List Lb} {k : Nat} {s : Lb} (h : next[k]? = some s) (hi : ¬ 0 ≤ indL sd s) : mixL sd ls next k = mixL sd ls next (k + 1) := by
  obtain ⟨h1, h2⟩ := mixL_succ (sd := sd) (ls := ls) h
  rw [h1, h2, carry, if_neg hi]
theorem indL_lt (l : List Lb) (x : Lb) : indL l x = -1 ∨ ∃ i : Nat, indL l x = (i : Int) ∧ i < l.length := by
  have : ∀ (l : List Lb) (k : Nat), idxByFrom (fun a b => decide (a = b)) x l k = -1 ∨ ∃ i : Nat, idxByFrom (fun a b => decide (a = b)) x l k = ((k + i : Nat) : Int) ∧ i < l.length := by
    intro l
    induction l with
    | nil => intro k; exact .inl rfl
    | cons y l ih =>
      intro k
      unfold idxByFrom
      split
      · exact .inr ⟨0, by simp, by simp⟩
      · rcases ih (k + 1) with h | ⟨i, h1, h2⟩
        · exact .inl h
        · exact .inr ⟨i + 1, by rw [h1]; congr 1; omega, by simp; omega⟩
  rcases this l 0 with h | ⟨i, h1, h2⟩
  · exact .inl h
  · exact .inr ⟨i, by unfold indL idxBy; simpa using h1, h2⟩
/-- one label decided anew -/
def stepC (next : List Lb) (L : List Lb) (k : Nat) : List Lb := setU L k (untL (L.take k) (next[k]!))
/-- the labels after a change -/
def chgL (sd ls next : List Lb) : List Lb := (reachI sd next next.length).foldl (stepC next) (next.map (carry sd ls))
/-- the blocks that the body of Change's loop may turn -/
def chC (Bm : Nat) (lv : Value) (W : World) (k : Nat) : Prop := (∃ o, W.heap[k]? = some o ∧ o.isCells = true) ∧ (k = Bm ∨ lv.ownBlock = some k)
section
variable (Bm : Nat) (lv : Value)
theorem chC_lt (W : World) (k : Nat) (h : chC Bm lv W k) : k < W.heap.size := by
  obtain ⟨⟨o, ho, -⟩, -⟩ := h
  exact (Array.getElem?_eq_some_iff.1 ho).1
theorem chC_cl (W : World) (l : Nat) (o : Obj) (h : W.heap[l]? = some o) (ho : o.isCells = false) : ¬ chC Bm lv W l := by
  rintro ⟨⟨o', h', hc⟩, -⟩
  rw [h] at h'
  cases h'
  rw [ho] at hc
  cases hc
theorem chC_put (W : World) (l k : Nat) (o o' : Obj) (h : W.heap[l]? = some o) (ho : o.isCells = false) (ho' : o'.isCells = false) : chC Bm lv (W.putObj l o') k ↔ chC Bm lv W k := by
  have hlt : l < W.heap.size := (Array.getElem?_eq_some_iff.1 h).1
  have hl' : (W.putObj l o').heap[l]? = some o' := World.putObj_heap_same hlt
  by_cases hk : k = l
  · subst hk
    exact ⟨fun hc => absurd hc (chC_cl Bm lv _ k o' hl' ho'), fun hc => absurd hc (chC_cl Bm lv W k o h ho)⟩
  · have e1 : (W.putObj l o').heap[k]? = W.heap[k]? := World.putObj_heap_other hk
    unfold chC
    rw [e1]
theorem chC_alloc (W : World) (k : Nat) (o : Obj) (h : chC Bm lv (W.alloc o) k) (ho : o.isCells = false) : chC Bm lv W k := by
  have hnew : (W.alloc o).heap[W.heap.size]? = some o := World.alloc_heap_new W o
  have hk : k ≠ W.heap.size := fun e => chC_cl Bm lv _ k o (by rw [e]; exact hnew) ho h
  have hlt := chC_lt Bm lv _ k h
  rw [World.size_alloc] at hlt
  have e1 : (W.alloc o).heap[k]? = W.heap[k]? := Below.heap_alloc W o k (by omega)
  obtain ⟨⟨o', h1, h2⟩, h3⟩ := h
  exact ⟨⟨o', e1.symm.trans h1, h2⟩, h3⟩
end
/-- what Change's loop carries: many, the list's row; and what stays -/
structure ChI (w0 : World) (Bc Bm Bn Bl BX : Nat) (nv lv xa xb : Value) (next L : List Lb) (m : Nat) (W : World) : Prop where
  many : Blk W Bm #[.int .i64 (m : Nat)] 3
  row : W.ownsRow w0.heap.size 39 6 lv next.length (L.flatMap lbE.enc)
  len : L.length = next.length
  bn : Blk W Bn #[nv] 33
  bl : Blk W Bl #[lv] 33
  bx : Blk W BX #[xa, xb] 45
  nx : W.ownsRow w0.heap.size 39 6 nv next.length (next.flatMap lbE.enc)
  nb : ∀ b, nv.ownBlock = some b → b < Bc
  nl : next.length ≤ 19
  own : ∀ g, lv.ownBlock = some g → Bc ≤ g
  bcl : Bc ≤ Bl
  below : Below w0.heap.size w0 W
theorem ChI.lst {w0 W : World} {Bc Bm Bn Bl BX : Nat} {nv lv xa xb : Value} {next L : List Lb} {m : Nat} (h : ChI w0 Bc Bm Bn Bl BX nv lv xa xb next L m W) : Lst lbE Bc W nv next := lst_of_row_lt lbOk h.nx (by have := h.nl; omega) h.nb
theorem ChI.cm {w0 W : World} {Bc Bm Bn Bl BX : Nat} {nv lv xa xb : Value} {next L : List Lb} {m : Nat} (h : ChI w0 Bc Bm Bn Bl BX nv lv xa xb next L m W) : chC Bm lv W Bm := ⟨⟨_, h.many, rfl⟩, .inl rfl⟩
theorem ChI.cg {w0 W : World} {Bc Bm Bn Bl BX : Nat} {nv lv xa xb : Value} {next L : List Lb} {m : Nat} (h : ChI w0 Bc Bm Bn Bl BX nv lv xa xb next L m W) {g : Nat} (hg : lv.ownBlock = some g) : chC Bm lv W g := by
  rcases h.row.2 with ⟨e1, _⟩ | ⟨g', cap', cur, e1, _, hgb, _⟩
  · rw [e1] at hg; cases hg
  · rw [e1] at hg
    cases hg
    exact ⟨⟨_, hgb, rfl⟩, .inr (by rw [e1]; rfl)⟩
/-- a turn of a block that is not the body's -/
theorem ChI.turn {w0 A A' : World} {Bc Bm Bn Bl BX Z : Nat} {nv lv xa xb : Value} {next L : List Lb} {m : Nat} {row : Option Nat} (h : ChI w0 Bc Bm Bn Bl BX nv lv xa xb next L m A) (hz : w0.heap.size ≤ Z) (hbc : Bc ≤ Z) (hbn : Bn < Z) (hbl : Bl < Z) (hbx : BX < Z) (hg : A.grownBy A' row) (hr : ∀ r, row = some r → Z ≤ r ∧ ¬ chC Bm lv A r) : ChI w0 Bc Bm Bn Bl BX nv lv xa xb next L m A' := by
  have hm := h.cm
  have hgo := fun g e => h.cg (g := g) e
  obtain ⟨h1, h2, h3, h4, h5, h6, h7, h7b, h7c, h8, h8b, h9⟩ := h
  have hlow : ∀ b, b < Z → row ≠ some b := fun b hb e => by have := (hr b e).1; omega
  refine ⟨h1.kept hg (fun e => (hr Bm e).2 hm), h2.kept hg ?_, h3, h4.kept hg (hlow _ hbn), h5.kept hg (hlow _ hbl), h6.kept hg (hlow _ hbx), h7.kept hg ?_, h7b, h7c, h8, h8b, h9.grown hg h9.size (fun k e => Nat.le_trans hz (hr k e).1)⟩
  · cases ho : lv.ownBlock with
    | none => exact .inl rfl
    | some g => exact .inr (fun e => (hr g e.symm).2 (hgo g ho))
  · cases ho : nv.ownBlock with
    | none => exact .inl rfl
    | some g => exact .inr (fun e => hlow g (by have := h7b g ho; omega) e.symm)
/-- .. lets no block become the body's -/
theorem ChI.mine {w0 A A' : World} {Bc Bm Bn Bl BX : Nat} {nv lv xa xb : Value} {next L : List Lb} {m k : Nat} (h : ChI w0 Bc Bm Bn Bl BX nv lv xa xb next L m A) (hc : chC Bm lv A' k) : chC Bm lv A k := by
  obtain ⟨-, hk | hk⟩ := hc
  · rw [hk]; exact h.cm
  · exact h.cg hk
theorem ChI.up {w0 A A' : World} {Bc Bm Bn Bl BX : Nat} {nv lv xa xb : Value} {next L : List Lb} {m : Nat} (h : ChI w0 Bc Bm Bn Bl BX nv lv xa xb next L m A) (hb : Below A.heap.size A A') : ChI w0 Bc Bm Bn Bl BX nv lv xa xb next L m A' := by
  obtain ⟨h1, h2, h3, h4, h5, h6, h7, h7b, h7c, h8, h8b, h9⟩ := h
  exact ⟨h1.below hb h1.lt, ownsRow_up h2 hb, h3, h4.below hb h4.lt, h5.below hb h5.lt, h6.below hb h6.lt, ownsRow_up h7 hb, h7b, h7c, h8, h8b, h9.trans (hb.mono h9.size)⟩
/-- one more -/
theorem ChI.more {w0 A : World} {Bc Bm Bn Bl BX : Nat} {nv lv xa xb : Value} {next L : List Lb} {m : Nat} (h : ChI w0 Bc Bm Bn Bl BX nv lv xa xb next L m A) (hbc : Bc ≤ Bm) (hw : w0.heap.size ≤ Bm) : ChI w0 Bc Bm Bn Bl BX nv lv xa xb next L (m + 1) (A.setCell ⟨Bm, 0, none⟩ (.int .i64 ((m + 1 : Nat) : Int))) := by
  obtain ⟨h1, h2, h3, h4, h5, h6, h7, h7b, h7c, h8, h8b, h9⟩ := h
  have hg := grown_setCell A Bm 0 (.int .i64 ((m + 1 : Nat) : Int))
  have ne : ∀ {B : Nat} {c : Array Value} {t : TypeId}, Blk A B c t → t ≠ 3 → some Bm ≠ some B := fun hk ht e => by
    cases e
    have := h1.symm.trans hk
    simp at this
    exact ht this.2.symm
  refine ⟨by simpa using h1.set 0 (.int .i64 ((m + 1 : Nat) : Int)), h2.kept hg (.inr (ownsRow_other h2 h1 (by decide))), h3, h4.kept hg (ne h4 (by decide)), h5.kept hg (ne h5 (by decide)), h6.kept hg (ne h6 (by decide)), h7.kept hg (.inr (ownsRow_other h7 h1 (by decide))), h7b, h7c, h8, h8b, h9.grown hg h9.size (fun k e => by cases e; exact hw)⟩
/-- one label decided anew -/
theorem ChI.anew {w0 A : World} {Bc Bm Bn Bl BX g cap q : Nat} {nv xa xb : Value} {next L : List Lb} {m : Nat} (h : ChI w0 Bc Bm Bn Bl BX nv (.slice (some ⟨g, 0, none⟩) next.length cap) xa xb next L m A) (hq : q < next.length) (u : Int) : ChI w0 Bc Bm Bn Bl BX nv (.slice (some ⟨g, 0, none⟩) next.length cap) xa xb next (setU L q u) m (A.setCell ⟨g, q * 6 + 5, none⟩ (.int .i64 u)) := by
  obtain ⟨h1, h2, h3, h4, h5, h6, h7, h7b, h7c, h8, h8b, h9⟩ := h
  have hg := grown_setCell A g (q * 6 + 5) (.int .i64 u)
  have hne := fun {B : Nat} {c : Array Value} {t : TypeId} (hk : Blk A B c t) (ht : t ≠ 39) => ownsRow_other h2 hk ht
  have ne : ∀ {B : Nat} {c : Array Value} {t : TypeId}, Blk A B c t → t ≠ 39 → some g ≠ some B := fun hk ht e => hne hk ht e
  have hgb := (h2.lt g rfl)
  have hr := ownsRow_setU (l := L) (k := q) (by omega) (by rw [h3]; exact h2) u
  rw [h3] at hr
  refine ⟨h1.kept hg (ne h1 (by decide)), hr, by rw [setU_length, h3], h4.kept hg (ne h4 (by decide)), h5.kept hg (ne h5 (by decide)), h6.kept hg (ne h6 (by decide)), h7.kept hg (.inr (fun e => by have := h7b g e; have := h8 g rfl; omega)), h7b, h7c, h8, h8b, h9.grown hg h9.size (fun k e => by cases e; exact hgb.1)⟩
end Go.Proofs.Ytikojanpbbiaiaa
