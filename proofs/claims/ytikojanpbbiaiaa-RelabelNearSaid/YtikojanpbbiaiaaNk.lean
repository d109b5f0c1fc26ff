/-
  Shaken out of the text YQ.
  Shaken out of the text YP2.
  Shaken out of the text YQ2.
  Shaken out of the text YR.
-/
import Derived.Test.YtikojanpbbiaiaaZv
import Derived.Test.YtikojanpbbiaiaaNa
import Derived.Test.YtikojanpbbiaiaaNc
import Derived.Test.YtikojanpbbiaiaaNd
import Derived.Test.YtikojanpbbiaiaaNe
import Derived.Test.YtikojanpbbiaiaaNf
import Derived.Test.YtikojanpbbiaiaaNh
import Derived.Test.YtikojanpbbiaiaaNi
import Derived.Test.YtikojanpbbiaiaaNg
import Derived.Test.YtikojanpbbiaiaaNj
import Derived.Lib.LaidTab
namespace Go.Proofs.Ytikojanpbbiaiaa
set_option linter.unusedVariables false
set_option linter.unusedSimpArgs false
open Go.RowKit Go.Shelf
attribute [local go_sem] Oper.semAt_some
attribute [local go_sem ↓] Go.wp_at_zero Go.wp_at_succ

theorem Mat.take {n₀ : Nat} {W : World} {a : Option Addr} {cap : Nat} {rows : List (Value × List Int)} (h : Mat n₀ W (.slice a rows.length cap) rows) (m : Nat) (hm : m ≤ rows.length) : Mat n₀ W (.slice a m cap) (rows.take m) := by
  obtain ⟨a', cap', e, hc, hr⟩ := h
  cases e
  refine ⟨a, cap, by rw [List.length_take, Nat.min_eq_left hm], by rw [List.length_take]; omega, fun j hj => ?_⟩
  rw [List.length_take] at hj
  rw [List.getElem_take]
  exact hr j (by omega)
def partV (rows : List (Value × List Int)) (k : Nat) : Value := ((rows[k]?).map (·.1)).getD (.slice none 0 0)
def partX (rows : List (Value × List Int)) (k : Nat) : List Int := ((rows[k]?).map (·.2)).getD []
theorem partV_ints {n₀ : Nat} {w : World} {lv : Value} {rows : List (Value × List Int)} (hM : Mat n₀ w lv rows) (k : Nat) : Intz n₀ w (partV rows k) (partX rows k) := by
  obtain ⟨a, cap, rfl, hc, hrow⟩ := hM
  unfold partV partX
  by_cases h : k < rows.length
  · obtain ⟨b, off, rfl, hb, c0, hi⟩ := hrow k h
    rw [List.getElem?_eq_getElem h]
    exact hi
  · rw [List.getElem?_eq_none (by omega)]
    exact Intz.nil _ _
theorem part_eq (n₀ : Nat) (w : World) (lv : Value) (rows : List (Value × List Int)) (hM : Mat n₀ w lv rows) (k : Nat) :
    Calls Try.prog 22 #[lv, .int .i64 (k : Nat)] w fun e w' => e = .returned (partV rows k) ∧ w = w' := by
  obtain ⟨a, cap, rfl, hc, hrow⟩ := hM
  go_enter Try.func22, Try.ntmps22
  by_cases h : k < rows.length
  · obtain ⟨b, off, rfl, hb, c0, hi⟩ := hrow k h
    have hle : ¬ (rows.length : Int) ≤ (k : Int) := by omega
    have hlt : (k : Int) < (rows.length : Int) := by omega
    have hv : partV rows k = rows[k].1 := by unfold partV; rw [List.getElem?_eq_getElem h]; rfl
    rw [hv]
    obtain ⟨row, hrw⟩ : ∃ r, rows[k].1 = r := ⟨_, rfl⟩
    rw [hrw] at c0
    rw [hrw]
    clear hrow hrw hi hv
    go_wp2_with fail
    go_ret
    exact ⟨rfl, rfl⟩
  · have hle : (rows.length : Int) ≤ (k : Int) := by omega
    have hv : partV rows k = .slice none 0 0 := by unfold partV; rw [List.getElem?_eq_none (by omega)]; rfl
    rw [hv]
    clear hrow hv
    go_wp2_with fail
    go_ret
    exact ⟨rfl, rfl⟩
theorem DY.low {D : Nat} {sv : Value} {xs : List Int} {w W : World} {S : BS} {L : OwnL} {T : SlL} (h : DY w.heap.size D sv xs noB w S W L T) : Below w.heap.size w W :=
  h.st.ev.below (fun _ h => h.elim) (fun b hb => by cases hb; exact h.td.le) (Nat.le_refl _)
abbrev mapZ : Array Value := #[.slice none 0 0, .slice none 0 0, .slice none 0 0, .slice none 0 0]
end Go.Proofs.Ytikojanpbbiaiaa
namespace Go.Proofs.Ytikojanpbbiaiaa
set_option linter.unusedVariables false
set_option linter.unusedSimpArgs false
open Go.RowKit Go.Shelf
attribute [local go_sem] Oper.semAt_some
attribute [local go_sem ↓] Go.wp_at_zero Go.wp_at_succ

section
variable {α : Type} {E : El α} {P : Program} {st : TypeId} {w : World} {l : List α}
/-- as El.push; and where the row lies -/
theorem El.pushO (hE : E.Ok) (hI : E.In P st) {ops : Array Oper} {rest : List Oper} {o : Oper} {a : Act} {Q : Exit → Act → World → Prop} (hgd : o.guard = none) (sO xO : Operand) (ho : o.op = .call { callee := .builtin .append, args := #[sO, xO], argTypes := #[st, st] })
    {base : Nat} {v : Value} (hs : a.eval sO = v) (hrow : w.ownsRow base E.t E.s v l.length (l.flatMap E.enc)) (x : α) {H : Nat} (hx : a.eval xO = .slice (some ⟨H, 0, none⟩) 1 1) (hH : w.heap.size = H) (hbase : base ≤ w.heap.size) (hl : l.length ≤ 100000)
    (h : ∀ v' w', w'.ownsRow base E.t E.s v' (l ++ [x]).length ((l ++ [x]).flatMap E.enc) → (∀ g, v'.ownBlock = some g → v.ownBlock = some g ∨ w.heap.size ≤ g) → w.grownBy w' v.ownBlock → Below base w w' → wpList P ops Q rest (a.put o.dst v') w') :
    wpList P ops Q (o :: rest) a (w.alloc (.cells (E.enc x).toArray E.t)) := by
  subst hH
  obtain ⟨i, z, hi, hz, hsz, hby, hzs⟩ := hI.info
  have hlen := hE.len x
  refine wpList_append_lies _ hgd sO xO st ho base E.t i z E.s i.bytes hI.under hi hz hsz rfl hzs hE.pos v l.length _ hs (hrow.alloc _) ⟨w.heap.size, 0, none⟩ 1 1 (E.enc x) hx (by rw [hlen, Nat.one_mul]) (World.news_of_block (heap_alloc_new _ _)) (hE.one x) (by omega) (by unfold maxLen; omega) (Nat.le_trans (Nat.mul_le_mul (Nat.add_le_add_right hl 1) hby) (by decide)) (by simp; omega) _ rfl ?_
  intro g cap w' hown hg hgo hlt
  have hg1 : w.grownBy w' v.ownBlock := by
    have h0 := World.grownBy_alloc w (.cells (E.enc x).toArray E.t) none
    refine ⟨hg.os.trans h0.os, hg.tape.trans h0.tape, hg.output.trans h0.output, Nat.le_trans h0.size hg.size, fun k hk hne => ?_⟩
    exact (hg.block k (by simp; omega) hne).trans (h0.block k hk (by simp))
  refine h _ w' ?_ (fun g' e => ?_) hg1 ⟨hg1.os, hg1.tape, hg1.output, hg1.size, fun k hk => hg1.block k (by omega) (fun e => ?_)⟩
  · simpa [List.flatMap_append] using hown
  · simp only [Value.ownBlock, Option.some.injEq] at e
    subst e
    rcases hgo with h1 | h1
    · exact .inl h1
    · right
      rw [h1]
      simp
  · have := (hrow.lt k e.symm).1
    omega
end
theorem DY.callG {n₀ D : Nat} {sv : Value} {xs : List Int} {S0 S : BS} {W0 W : World} {L : OwnL} {T : SlL} (h : DY n₀ D sv xs S0 W0 S W L T) (m : Int) (hm1 : 1 ≤ m) (hm2 : m ≤ 4611686018427387904) :
    Calls Try.prog 23 #[.pointer (some ⟨D, 0, none⟩), .int .i64 m] W fun e W' => ∃ v, e = .returned (.int .i64 v) ∧ 0 ≤ v ∧ v < m ∧ DY n₀ D sv xs S0 W0 S W' L T ∧ W.grownBy W' (some D) := by
  refine (h.st.call m hm1 hm2).mono ?_
  rintro e W' ⟨v, rfl, h0, h1, h2, hg, h3⟩
  exact ⟨v, rfl, h0, h1, ⟨h2, fun p hp => by
    obtain ⟨k1, k2, k3, k4⟩ := h.bx p hp
    exact ⟨k1.kept hg (fun e => k3 (Option.some.inj e).symm), k2, k3, k4⟩, h.ne, fun q hq => h3.sl (h.sl q hq)⟩, hg⟩
/-- a block that is none of these turns -/
theorem DY.other {n₀ D : Nat} {sv : Value} {xs : List Int} {S0 S : BS} {W0 W W' : World} {L : OwnL} {T : SlL} {o : Option Nat} (h : DY n₀ D sv xs S0 W0 S W L T) (hg : W.grownBy W' o) (ho : ∀ g, o = some g → ¬ S g ∧ g ≠ D ∧ W0.heap.size ≤ g ∧ ∀ p ∈ L, p.1 ≠ g) : DY n₀ D sv xs S0 W0 S W' L T := by
  have hsame : ∀ b, S b → W'.heap[b]? = W.heap[b]? := fun b hb => hg.block b (h.tw.lt hb) (fun e => (ho b e.symm).1 hb)
  have hev := h.st.ev.own hg (fun r e => ⟨(ho r e).1, (ho r e).2.2.1⟩)
  have hlt := h.st.td.lt
  have hlo := h.st.lo
  obtain ⟨j, hj, hb⟩ := h.st.td.box
  have hbel : Below n₀ W W' := Below.of_grown hg (by have := h.st.td.le; omega) (fun q e => by have := (ho q e).2.2.1; omega)
  have hsh : Shp S W W' := fun b c e hb hc => ⟨c, (hsame b hb).trans hc, rfl⟩
  refine ⟨⟨⟨hev.ok, ⟨j, hj, hb.kept hg (fun e => (ho D e).2.1 rfl)⟩, h.st.td.ints.below hbel, h.st.td.le, h.st.td.len, h.st.td.low, h.st.td.not⟩, hev, hlo⟩, fun p hp => ?_, h.ne, fun q hq => (h.sl q hq).mono (fun _ h => h) hsh⟩
  obtain ⟨k1, k2, k3, k4⟩ := h.bx p hp
  exact ⟨k1.kept hg (fun e => (ho p.1 e).2.2.2 p hp rfl), k2, k3, k4⟩
/-- beside them a row of places of the call's own -/
structure DP (n₀ D : Nat) (sv : Value) (xs : List Int) (S0 : BS) (W0 : World) (S : BS) (W : World) (L : OwnL) (T : SlL) (ov : Value) (l : List Pc) : Prop where
  d : DY n₀ D sv xs S0 W0 S W L T
  row : W.ownsRow W0.heap.size 41 7 ov l.length (l.flatMap plE.enc)
  off : ∀ g, ov.ownBlock = some g → ¬ S g ∧ g ≠ D ∧ ∀ p ∈ L, p.1 ≠ g
section
variable {n₀ D : Nat} {sv : Value} {xs : List Int} {S0 S S' : BS} {W0 W W' : World} {L : OwnL} {T : SlL} {B i : Nat} {c c' : Array Value} {t : TypeId} {ov v : Value} {l : List Pc} {p : Nat × Array Value × TypeId}
theorem DP.call (h : DP n₀ D sv xs S0 W0 S W L T ov l) (m : Int) (hm1 : 1 ≤ m) (hm2 : m ≤ 4611686018427387904) :
    Calls Try.prog 23 #[.pointer (some ⟨D, 0, none⟩), .int .i64 m] W fun e W' => ∃ v, e = .returned (.int .i64 v) ∧ 0 ≤ v ∧ v < m ∧ DP n₀ D sv xs S0 W0 S W' L T ov l := by
  refine (h.d.callG m hm1 hm2).mono ?_
  rintro e W' ⟨v, rfl, h0, h1, h2, hg⟩
  refine ⟨v, rfl, h0, h1, h2, h.row.kept hg ?_, h.off⟩
  cases hp : ov.ownBlock with
  | none => exact .inl rfl
  | some g => exact .inr (fun e => (h.off g hp).2.1 (Option.some.inj e))
theorem DP.up (h : DP n₀ D sv xs S0 W0 S W L T ov l) (hb : Below W.heap.size W W') : DP n₀ D sv xs S0 W0 S W' L T ov l := ⟨h.d.up hb, ownsRow_up h.row hb, h.off⟩
theorem DP.box (h : DP n₀ D sv xs S0 W0 S W L T ov l) (c : Array Value) (t : TypeId) : DP n₀ D sv xs S0 W0 S (W.alloc (.cells c t)) ((W.heap.size, c, t) :: L) T ov l :=
  ⟨h.d.box c t, h.row.alloc _, fun g hg => by
    obtain ⟨h1, h2, h3⟩ := h.off g hg
    refine ⟨h1, h2, fun p hp => ?_⟩
    rcases List.mem_cons.1 hp with rfl | hp
    · have := (h.row.lt g hg).2
      intro e
      simp only at e
      omega
    · exact h3 p hp⟩
theorem DP.put (h : DP n₀ D sv xs S0 W0 S W ((B, c, t) :: L) T ov l) (hW : W' = W.setCell ⟨B, i, none⟩ v) (hc : c.setIfInBounds i v = c') : DP n₀ D sv xs S0 W0 S W' ((B, c', t) :: L) T ov l := by
  refine ⟨h.d.put hW hc, ?_, fun g hg => ?_⟩
  · rw [hW]
    refine h.row.kept (grown_set W B i v) ?_
    cases hp : ov.ownBlock with
    | none => exact .inl rfl
    | some g => exact .inr (fun e => (h.off g hp).2.2 _ (List.mem_cons_self ..) (Option.some.inj e).symm)
  · obtain ⟨h1, h2, h3⟩ := h.off g hg
    refine ⟨h1, h2, fun p hp => ?_⟩
    rcases List.mem_cons.1 hp with rfl | hp
    · exact h3 (B, c, t) (List.mem_cons_self ..)
    · exact h3 p (List.mem_cons_of_mem _ hp)
theorem DP.tail (h : DP n₀ D sv xs S0 W0 S W (p :: L) T ov l) : DP n₀ D sv xs S0 W0 S W L T ov l := ⟨h.d.tail, h.row, fun g hg => ⟨(h.off g hg).1, (h.off g hg).2.1, fun p hp => (h.off g hg).2.2 p (List.mem_cons_of_mem _ hp)⟩⟩
theorem DP.more {l' : List Pc} (h : DP n₀ D sv xs S0 W0 S W L T ov l) (hr : W'.ownsRow W0.heap.size 41 7 v l'.length (l'.flatMap plE.enc)) (hg : W.grownBy W' ov.ownBlock) (hn : ∀ g, v.ownBlock = some g → ov.ownBlock = some g ∨ W.heap.size ≤ g) : DP n₀ D sv xs S0 W0 S W' L T v l' := by
  refine ⟨h.d.other hg (fun g e => ⟨(h.off g e).1, (h.off g e).2.1, (h.row.lt g e).1, (h.off g e).2.2⟩), hr, fun g e => ?_⟩
  rcases hn g e with h1 | h1
  · exact h.off g h1
  · exact ⟨fun hs => by have := h.d.tw.lt hs; omega, fun e2 => by have := h.d.td.lt; omega, fun p hp e2 => by have := (h.d.bx p hp).1.lt; omega⟩
end
/-- the places that a made map has -/
structure PlsOk (l : List Pc) : Prop where
  id : ∀ (k : Nat) p, l[k]? = some p → p.id = 61 + (k : Int)
  ok : ∀ p ∈ l, PcOk p
theorem PlsOk.nil : PlsOk [] := ⟨fun k p h => by simp at h, fun p h => by simp at h⟩
theorem PlsOk.push {l : List Pc} {p : Pc} (h : PlsOk l) (hp : PcOk p) (hi : p.id = 61 + (l.length : Int)) : PlsOk (l ++ [p]) := by
  refine ⟨fun k q hq => ?_, fun q hq => ?_⟩
  · by_cases hk : k < l.length
    · rw [List.getElem?_append_left hk] at hq
      exact h.id k q hq
    · rw [List.getElem?_append_right (by omega)] at hq
      have hk0 : k = l.length := by
        have := (List.getElem?_eq_some_iff.1 hq).1
        simp at this
        omega
      subst hk0
      simp at hq
      subst hq
      exact hi
  · rcases List.mem_append.1 hq with h1 | h1
    · exact h.ok q h1
    · rw [List.mem_singleton.1 h1]
      exact hp
def PlV (n₀ D : Nat) (sv : Value) (xs : List Int) (S : BS) (w : World) (M B2 : Nat) (ev fv wv pv : Value) (ne nf : Nat) (ov kk : Value) (wr : World) : Prop :=
  ∃ (k : Nat) (S' : BS) (l : List Pc), k ≤ M ∧ kk = .int .i64 (k : Nat) ∧ l.length ≤ k ∧ PlsOk l ∧ DP n₀ D sv xs S w S' wr [(B2, mapC ev fv wv pv, 29)] [(133, ev, ne), (68, fv, nf)] ov l
theorem DP.pd {n₀ D : Nat} {sv : Value} {xs : List Int} {S0 S : BS} {W0 W W' : World} {L : OwnL} {T : SlL} {B : Nat} {id x y wt d : Int} {cs ns : ByteArray} {t : TypeId} {ov : Value} {l : List Pc} (h : DP n₀ D sv xs S0 W0 S W ((B, plC7 id x y cs ns wt 0, t) :: L) T ov l) (hW : W' = W.setCell ⟨B, 6, none⟩ (.int .i64 d)) : DP n₀ D sv xs S0 W0 S W' ((B, plC7 id x y cs ns wt d, t) :: L) T ov l := h.put hW rfl

set_option maxRecDepth 100000 in
set_option maxHeartbeats 8000000 in
theorem places10v_any (n₀ : Nat) (S : BS) (w : World) (hT : TW S w) (hlow : ∀ b, S b → n₀ ≤ b) (hn0 : n₀ ≤ w.heap.size) (sv : Value) (xs : List Int) (hI : Intz n₀ w sv xs)
    (ev fv : Value) (ne nf : Nat) (hse : SL S w 133 ev ne) (hne : ne ≤ 100) (hsf : SL S w 68 fv nf) (hnf : nf ≤ 200) (wa pa : Option Addr) (wn wc pn pc : Nat) :
    Calls Try.prog 25 #[.agg (mapC ev fv (.slice wa wn wc) (.slice pa pn pc)), sv] w fun e w' => ∃ S' v l, e = .returned v ∧ l.length ≤ 6 ∧ PlsOk l ∧ w'.ownsRow w.heap.size 41 7 v l.length (l.flatMap plE.enc) ∧ (∀ g, v.ownBlock = some g → ¬ S' g) ∧ Ev noB S w S' w' := by
  obtain ⟨ea, ec, rfl, -⟩ := hse.form
  obtain ⟨fa, fc, rfl, -⟩ := hsf.form
  obtain ⟨sa, sc, rfl⟩ : ∃ a c, sv = .slice a xs.length c := by
    obtain ⟨⟨a, c, e, -⟩, -⟩ := hI
    exact ⟨a, c, e⟩
  have hb1 : Below w.heap.size w (w.alloc (.cells (mapC (.slice ea ne ec) (.slice fa nf fc) (.slice wa wn wc) (.slice pa pn pc)) 29)) := (by repeat' (first | with_reducible exact Below.refl _ _ | with_reducible exact Nat.le_refl _ | with_reducible assumption | with_reducible refine Go.below_growBy' ?_ ?_ _ | with_reducible refine Below.alloc ?_ ?_ _ | with_reducible refine Below.setCell ?_ ?_ _ | with_reducible refine Below.drew ?_ | with_reducible refine Go.le_alloc ?_ | with_reducible refine Go.le_growBy ?_ | with_reducible refine Go.le_setCell ?_ | with_reducible refine Go.le_drew ?_ | omega | (dsimp only; omega)))
  have htd := TD.new (Ev.of_below (X := noB) hT hb1).ok hlow (Nat.le_trans hn0 hb1.size) (hI.below (hb1.mono hn0))
  have hb2 : Below w.heap.size w ((w.alloc (.cells (mapC (.slice ea ne ec) (.slice fa nf fc) (.slice wa wn wc) (.slice pa pn pc)) 29)).alloc (.cells #[.slice sa xs.length sc, .int .i64 0] 65)) := (by repeat' (first | with_reducible exact Below.refl _ _ | with_reducible exact Nat.le_refl _ | with_reducible assumption | with_reducible refine Go.below_growBy' ?_ ?_ _ | with_reducible refine Below.alloc ?_ ?_ _ | with_reducible refine Below.setCell ?_ ?_ _ | with_reducible refine Below.drew ?_ | with_reducible refine Go.le_alloc ?_ | with_reducible refine Go.le_growBy ?_ | with_reducible refine Go.le_setCell ?_ | with_reducible refine Go.le_drew ?_ | omega | (dsimp only; omega)))
  have hB := (Blk.new w (mapC (.slice ea ne ec) (.slice fa nf fc) (.slice wa wn wc) (.slice pa pn pc)) 29).alloc (.cells #[.slice sa xs.length sc, .int .i64 0] 65)
  simp only [World.size_alloc] at htd
  go_enter Try.func25, Try.ntmps25
  go_upto_region 3 with fail
  refine wp_world (fun W1 hW1 => ?_)
  rw [← hW1] at htd hb2 hB
  have hnS : ¬ S w.heap.size := fun h => Nat.lt_irrefl _ (hT.lt h)
  obtain ⟨B2, hB2⟩ : ∃ b, w.heap.size = b := ⟨_, rfl⟩
  obtain ⟨D, hD⟩ : ∃ b, w.heap.size + 1 = b := ⟨_, rfl⟩
  obtain ⟨sv, hsv⟩ : ∃ v, Value.slice sa xs.length sc = v := ⟨_, rfl⟩
  have hDw : w.heap.size ≤ D := by omega
  have hd1 : DY n₀ D sv xs S w S W1 [(B2, mapC (.slice ea ne ec) (.slice fa nf fc) (.slice wa wn wc) (.slice pa pn pc), 29)] [(133, .slice ea ne ec, ne), (68, .slice fa nf fc, nf)] := by
    have hE := Ev.of_below (X := oneB D) hT hb2
    rw [hD, hsv] at htd
    refine ⟨⟨htd, hE, hn0⟩, fun p hp => ?_, by simp, fun q hq => ?_⟩
    · simp only [List.mem_cons, List.not_mem_nil, or_false] at hp
      subst hp
      exact ⟨by rw [← hB2]; exact hB, by rw [← hB2]; exact hnS, by show B2 ≠ D; omega, by show w.heap.size ≤ B2; omega⟩
    · simp only [List.mem_cons, List.not_mem_nil, or_false] at hq
      rcases hq with rfl | rfl
      · exact hE.sl hse
      · exact hE.sl hsf
  rw [hD, hB2, hsv]
  clear htd hb1 hb2 hB hW1 hD hsv hI hnS hB2 hlow hn0
  go_wp2_with (first
    | (go_at_call 23; (with_reducible refine (hd1.call 7 (by omega) (by omega)).mono ?_); rintro e W2 ⟨many, rfl, m0, m1, hd2⟩)
    | fail)
  obtain ⟨M, rfl⟩ : ∃ M : Nat, many = M := ⟨many.toNat, by omega⟩
  have hM6 : M ≤ 6 := by omega
  obtain ⟨ev, hev⟩ : ∃ v, Value.slice ea ne ec = v := ⟨_, rfl⟩
  obtain ⟨fv, hfv⟩ : ∃ v, Value.slice fa nf fc = v := ⟨_, rfl⟩
  obtain ⟨wv, hwv⟩ : ∃ v, Value.slice wa wn wc = v := ⟨_, rfl⟩
  obtain ⟨pv, hpv⟩ : ∃ v, Value.slice pa pn pc = v := ⟨_, rfl⟩
  rw [hev, hfv, hwv, hpv] at hd2
  rw [hev, hfv, hwv, hpv]
  have hFD : ∀ (S : BS) (W : World), TW S W → SL S W 68 fv nf → ∀ id, Calls Try.prog 53 #[.agg (mapC ev fv wv pv), .int .i64 id] W fun e w' => (∃ x, e = .returned (.int .i64 x) ∧ fits x) ∧ Below W.heap.size W w' := fun S W h1 h2 id => by
    rw [← hev, ← hfv, ← hwv, ← hpv]
    rw [← hfv] at h2
    exact faceDistrict_any S W h1 _ _ _ _ _ _ _ _ _ _ _ nf h2 hnf id
  clear hev hfv hwv hpv
  go_loopw [6, 8] (fun ov kk wr => PlV n₀ D sv xs S w M B2 ev fv wv pv ne nf ov kk wr) (fun _ kk _ => M - (intOf kk).toNat)
  case atStart => exact ⟨0, S, [], by omega, rfl, by simp, PlsOk.nil, hd2, ⟨by simp, .inl ⟨rfl, by simp⟩⟩, fun g e => by cases e⟩
  case round =>
    clear hd1 hd2
    obtain ⟨k, S', l, hk, rfl, hn, hok, hd⟩ := hrel
    by_cases hlt : k < M
    · have hltI : (k : Int) < (M : Int) := by omega
      obtain ⟨oa, oc, rfl, -⟩ := (lst_of_row plOk hd.row (by omega)).form
      go_upto_if 28 with (first
        | (go_at_call 23; (with_reducible refine (hd.call 10 (by omega) (by omega)).mono ?_); rintro e W2 ⟨s, rfl, s0, s1, hd2⟩)
        | (go_at_call 23; (with_reducible refine (hd2.call 2 (by omega) (by omega)).mono ?_); rintro e W3 ⟨q, rfl, q0, q1, hd3⟩)
        | fail)
      by_cases hq : q = 1
      · subst hq
        clear hd hd2
        go_upto_region 11 with (first
          | (go_at_call 23; (with_reducible refine (hd3.call 3 (by omega) (by omega)).mono ?_); rintro e W4 ⟨a, rfl, a0, a1, hd4⟩)
          | (go_at_call 23; (with_reducible refine (hd4.call 2 (by omega) (by omega)).mono ?_); rintro e W5 ⟨b, rfl, b0, b1, hd5⟩)
          | (go_at_call 23; (with_reducible refine (hd5.call 51 (by omega) (by omega)).mono ?_); rintro e W6 ⟨c, rfl, c0, c1, hd6⟩)
          | (go_at_call 23; (with_reducible refine (hd6.call 60 (by omega) (by omega)).mono ?_); rintro e W7 ⟨t, rfl, t0, t1, hd7⟩)
          | fail)
        have hn6 : l.length ≤ 6 := by omega
        have f0 : fits (61 + (l.length : Int)) := ⟨by omega, by omega⟩
        have f5 : fits (1 + t) := ⟨by omega, by omega⟩
        refine wp_world (fun W8 hW8 => ?_)
        obtain ⟨X, Y, fX, fY, hd8⟩ : ∃ X Y, fits X ∧ fits Y ∧ DP n₀ D sv xs S w S' W8 [(W7.heap.size, plC7 (61 + l.length) X Y ⟨#[]⟩ ⟨#[]⟩ (1 + t) 0, 41), (B2, mapC ev fv wv pv, 29)] [(133, ev, ne), (68, fv, nf)] (.slice oa l.length oc) l := by
          rw [hW8]
          refine ⟨_, _, ?_, ?_, hd7.box _ _⟩
          · exact ⟨by omega, by omega⟩
          · exact ⟨by omega, by omega⟩
        obtain ⟨BP, hBP⟩ : ∃ b, W7.heap.size = b := ⟨_, rfl⟩
        rw [hBP] at hd8
        rw [hBP]
        clear hW8 hBP hd3 hd4 hd5 hd6 hd7
        have st1 : Strs #[.string ⟨#[116, 114, 101, 101]⟩, .string ⟨#[116, 114, 101, 101]⟩, .string ⟨#[115, 104, 111, 112]⟩] := strs_of [⟨#[116, 114, 101, 101]⟩, ⟨#[116, 114, 101, 101]⟩, ⟨#[115, 104, 111, 112]⟩] (by decide)
        go_upto_region 12 with (first
          | (go_at_call 23; (with_reducible refine ((hd8.box _ _).call 3 (by omega) (by omega)).mono ?_); rintro e Wb ⟨q, rfl, q0, q1, hb⟩; obtain ⟨q, rfl⟩ := Int.eq_ofNat_of_zero_le q0; obtain ⟨s1, cs1, hs1⟩ := st1.at_ hb.d.b0 (q := q) (by simp; omega); have hdB := hb.tail; obtain ⟨z0, z1, z2, z3, z4, z5, z6⟩ := cells7 hdB.d.b0; have zf := hdB.d.b0.frozen 3)
          | fail)
        refine wp_world (fun WC hWC => ?_)
        have hdC := hdB.put hWC (c' := plC7 (61 + l.length) X Y s1 ⟨#[]⟩ (1 + t) 0) rfl
        clear hd8 hdB hb hWC z0 z1 z2 z3 z4 z5 z6 zf cs1 st1
        have st2 : Strs #[.string ⟨#[]⟩, .string ⟨#[]⟩, .string ⟨#[71, 97, 116, 101]⟩, .string ⟨#[79, 97, 107]⟩, .string ⟨#[84, 104, 101, 32, 87, 101, 108, 108]⟩] := strs_of [⟨#[]⟩, ⟨#[]⟩, ⟨#[71, 97, 116, 101]⟩, ⟨#[79, 97, 107]⟩, ⟨#[84, 104, 101, 32, 87, 101, 108, 108]⟩] (by decide)
        go_upto_region 13 with (first
          | (go_at_call 23; (with_reducible refine ((hdC.box _ _).call 5 (by omega) (by omega)).mono ?_); rintro e Wd ⟨q', rfl, q'0, q'1, hd⟩; obtain ⟨q', rfl⟩ := Int.eq_ofNat_of_zero_le q'0; obtain ⟨s2, cs2, hs2⟩ := st2.at_ hd.d.b0 (q := q') (by simp; omega); have hdD := hd.tail; obtain ⟨z0, z1, z2, z3, z4, z5, z6⟩ := cells7 hdD.d.b0; have zf := hdD.d.b0.frozen 4)
          | fail)
        refine wp_world (fun WE hWE => ?_)
        have hdE := hdD.put hWE (c' := plC7 (61 + l.length) X Y s1 s2 (1 + t) 0) rfl
        clear hdC hdD hd hWE z0 z1 z2 z3 z4 z5 z6 zf cs2 st2
        obtain ⟨z0, z1, z2, z3, z4, z5, z6⟩ := cells7 hdE.d.b0
        obtain ⟨m0, m1, m2, m3⟩ := cellsM4 hdE.d.b1
        go_upto_region 14 with (first
          | (go_at_call 52; (with_reducible refine (at7_any S' WE hdE.d.tw ev ne hdE.d.s0 hne X Y fX fY).mono ?_); rintro e WA ⟨⟨x, bo, rfl⟩, hbA⟩)
          | fail)
        have hdA := hdE.up hbA
        clear hdE hbA z0 z1 z2 z3 z4 z5 z6 m0 m1 m2 m3
        obtain ⟨m0, m1, m2, m3⟩ := cellsM4 hdA.d.b1
        go_upto_region 15 with (first
          | (go_at_call 53; (with_reducible refine (hFD S' WA hdA.d.tw hdA.d.s1 x).mono ?_); rintro e WF ⟨⟨d, rfl, fd⟩, hbF⟩; have hdF := hdA.up hbF; obtain ⟨z0, z1, z2, z3, z4, z5, z6⟩ := cells7 hdF.d.b0; have zf := hdF.d.b0.frozen 6)
          | fail)
        refine wp_world (fun WG hWG => ?_)
        have hdG := hdF.pd hWG
        clear hdA hbF hdF hWG m0 m1 m2 m3 z0 z1 z2 z3 z4 z5 z6 zf
        obtain ⟨z0, z1, z2, z3, z4, z5, z6⟩ := cells7 hdG.d.b0
        cases bo
        · go_wp2_with fail
          go_roundw
          case rel => exact ⟨k + 1, S', l, by omega, by go_num, by omega, hok, hdG.tail⟩
          case measure => simp [intOf]; omega
        · by_cases hd0 : 0 < d
          · go_wp2_with (first
              | (at_builtin; refine El.pushO plOk plIn (by rfl) _ _ (by rfl) (by rfl) hdG.row ⟨61 + (l.length : Int), X, Y, s1, s2, 1 + t, d⟩ (by rfl) rfl (hdG.d.st.ev.size) (by omega) ?_; intro v9 w9 hr9 hn9 hg9 hb9)
              | fail)
            go_roundw
            case rel => exact ⟨k + 1, S', l ++ [⟨61 + (l.length : Int), X, Y, s1, s2, 1 + t, d⟩], by omega, by go_num, by rw [List.length_append]; simp; omega, hok.push ⟨f0, fX, fY, f5, show s2.size ≤ 1000 from by omega⟩ rfl, (hdG.more hr9 hg9 hn9).tail⟩
            case measure => simp [intOf]; omega
          · go_wp2_with fail
            go_roundw
            case rel => exact ⟨k + 1, S', l, by omega, by go_num, by omega, hok, hdG.tail⟩
            case measure => simp [intOf]; omega
      · have hqb : (q == 1) = false := by simpa using hq
        clear hd hd2
        go_upto_region 11 with (first
          | (go_at_call 23; (with_reducible refine (hd3.call 3 (by omega) (by omega)).mono ?_); rintro e W4 ⟨a, rfl, a0, a1, hd4⟩)
          | (go_at_call 23; (with_reducible refine (hd4.call 2 (by omega) (by omega)).mono ?_); rintro e W5 ⟨b, rfl, b0, b1, hd5⟩)
          | (go_at_call 23; (with_reducible refine (hd5.call 51 (by omega) (by omega)).mono ?_); rintro e W6 ⟨c, rfl, c0, c1, hd6⟩)
          | (go_at_call 23; (with_reducible refine (hd6.call 60 (by omega) (by omega)).mono ?_); rintro e W7 ⟨t, rfl, t0, t1, hd7⟩)
          | fail)
        have hn6 : l.length ≤ 6 := by omega
        have f0 : fits (61 + (l.length : Int)) := ⟨by omega, by omega⟩
        have f5 : fits (1 + t) := ⟨by omega, by omega⟩
        refine wp_world (fun W8 hW8 => ?_)
        obtain ⟨X, Y, fX, fY, hd8⟩ : ∃ X Y, fits X ∧ fits Y ∧ DP n₀ D sv xs S w S' W8 [(W7.heap.size, plC7 (61 + l.length) X Y ⟨#[]⟩ ⟨#[]⟩ (1 + t) 0, 41), (B2, mapC ev fv wv pv, 29)] [(133, ev, ne), (68, fv, nf)] (.slice oa l.length oc) l := by
          rw [hW8]
          refine ⟨_, _, ?_, ?_, hd7.box _ _⟩
          · exact ⟨by omega, by omega⟩
          · exact ⟨by omega, by omega⟩
        obtain ⟨BP, hBP⟩ : ∃ b, W7.heap.size = b := ⟨_, rfl⟩
        rw [hBP] at hd8
        rw [hBP]
        clear hW8 hBP hd3 hd4 hd5 hd6 hd7
        have st1 : Strs #[.string ⟨#[116, 114, 101, 101]⟩, .string ⟨#[116, 114, 101, 101]⟩, .string ⟨#[115, 104, 111, 112]⟩] := strs_of [⟨#[116, 114, 101, 101]⟩, ⟨#[116, 114, 101, 101]⟩, ⟨#[115, 104, 111, 112]⟩] (by decide)
        go_upto_region 12 with (first
          | (go_at_call 23; (with_reducible refine ((hd8.box _ _).call 3 (by omega) (by omega)).mono ?_); rintro e Wb ⟨q, rfl, q0, q1, hb⟩; obtain ⟨q, rfl⟩ := Int.eq_ofNat_of_zero_le q0; obtain ⟨s1, cs1, hs1⟩ := st1.at_ hb.d.b0 (q := q) (by simp; omega); have hdB := hb.tail; obtain ⟨z0, z1, z2, z3, z4, z5, z6⟩ := cells7 hdB.d.b0; have zf := hdB.d.b0.frozen 3)
          | fail)
        refine wp_world (fun WC hWC => ?_)
        have hdC := hdB.put hWC (c' := plC7 (61 + l.length) X Y s1 ⟨#[]⟩ (1 + t) 0) rfl
        clear hd8 hdB hb hWC z0 z1 z2 z3 z4 z5 z6 zf cs1 st1
        have st2 : Strs #[.string ⟨#[]⟩, .string ⟨#[]⟩, .string ⟨#[71, 97, 116, 101]⟩, .string ⟨#[79, 97, 107]⟩, .string ⟨#[84, 104, 101, 32, 87, 101, 108, 108]⟩] := strs_of [⟨#[]⟩, ⟨#[]⟩, ⟨#[71, 97, 116, 101]⟩, ⟨#[79, 97, 107]⟩, ⟨#[84, 104, 101, 32, 87, 101, 108, 108]⟩] (by decide)
        go_upto_region 13 with (first
          | (go_at_call 23; (with_reducible refine ((hdC.box _ _).call 5 (by omega) (by omega)).mono ?_); rintro e Wd ⟨q', rfl, q'0, q'1, hd⟩; obtain ⟨q', rfl⟩ := Int.eq_ofNat_of_zero_le q'0; obtain ⟨s2, cs2, hs2⟩ := st2.at_ hd.d.b0 (q := q') (by simp; omega); have hdD := hd.tail; obtain ⟨z0, z1, z2, z3, z4, z5, z6⟩ := cells7 hdD.d.b0; have zf := hdD.d.b0.frozen 4)
          | fail)
        refine wp_world (fun WE hWE => ?_)
        have hdE := hdD.put hWE (c' := plC7 (61 + l.length) X Y s1 s2 (1 + t) 0) rfl
        clear hdC hdD hd hWE z0 z1 z2 z3 z4 z5 z6 zf cs2 st2
        obtain ⟨z0, z1, z2, z3, z4, z5, z6⟩ := cells7 hdE.d.b0
        obtain ⟨m0, m1, m2, m3⟩ := cellsM4 hdE.d.b1
        go_upto_region 14 with (first
          | (go_at_call 52; (with_reducible refine (at7_any S' WE hdE.d.tw ev ne hdE.d.s0 hne X Y fX fY).mono ?_); rintro e WA ⟨⟨x, bo, rfl⟩, hbA⟩)
          | fail)
        have hdA := hdE.up hbA
        clear hdE hbA z0 z1 z2 z3 z4 z5 z6 m0 m1 m2 m3
        obtain ⟨m0, m1, m2, m3⟩ := cellsM4 hdA.d.b1
        go_upto_region 15 with (first
          | (go_at_call 53; (with_reducible refine (hFD S' WA hdA.d.tw hdA.d.s1 x).mono ?_); rintro e WF ⟨⟨d, rfl, fd⟩, hbF⟩; have hdF := hdA.up hbF; obtain ⟨z0, z1, z2, z3, z4, z5, z6⟩ := cells7 hdF.d.b0; have zf := hdF.d.b0.frozen 6)
          | fail)
        refine wp_world (fun WG hWG => ?_)
        have hdG := hdF.pd hWG
        clear hdA hbF hdF hWG m0 m1 m2 m3 z0 z1 z2 z3 z4 z5 z6 zf
        obtain ⟨z0, z1, z2, z3, z4, z5, z6⟩ := cells7 hdG.d.b0
        cases bo
        · go_wp2_with fail
          go_roundw
          case rel => exact ⟨k + 1, S', l, by omega, by go_num, by omega, hok, hdG.tail⟩
          case measure => simp [intOf]; omega
        · by_cases hd0 : 0 < d
          · go_wp2_with (first
              | (at_builtin; refine El.pushO plOk plIn (by rfl) _ _ (by rfl) (by rfl) hdG.row ⟨61 + (l.length : Int), X, Y, s1, s2, 1 + t, d⟩ (by rfl) rfl (hdG.d.st.ev.size) (by omega) ?_; intro v9 w9 hr9 hn9 hg9 hb9)
              | fail)
            go_roundw
            case rel => exact ⟨k + 1, S', l ++ [⟨61 + (l.length : Int), X, Y, s1, s2, 1 + t, d⟩], by omega, by go_num, by rw [List.length_append]; simp; omega, hok.push ⟨f0, fX, fY, f5, show s2.size ≤ 1000 from by omega⟩ rfl, (hdG.more hr9 hg9 hn9).tail⟩
            case measure => simp [intOf]; omega
          · go_wp2_with fail
            go_roundw
            case rel => exact ⟨k + 1, S', l, by omega, by go_num, by omega, hok, hdG.tail⟩
            case measure => simp [intOf]; omega
    · have hge : ¬ (k : Int) < (M : Int) := by omega
      go_wp2_with fail
      go_ret
      exact ⟨S', _, rfl, l, by omega, hok, hd.row, fun g e => (hd.off g e).1, hd.d.fin (Ev.refl hT) hDw⟩
end Go.Proofs.Ytikojanpbbiaiaa
namespace Go.Proofs.Ytikojanpbbiaiaa
set_option linter.unusedVariables false
set_option linter.unusedSimpArgs false
open Go.RowKit Go.Shelf
attribute [local go_sem] Oper.semAt_some
attribute [local go_sem ↓] Go.wp_at_zero Go.wp_at_succ

/-- what Made returns -/
def MadeR (w : World) (e : Ending) (w' : World) : Prop :=
  ∃ S' ev fv wv pv l, e = .returned (.agg #[ev, fv, wv, pv]) ∧ ((∃ n, SL S' w' 133 ev n ∧ n ≤ 30) ∧ (∃ n, SL S' w' 68 fv n ∧ n ≤ 200) ∧ (∃ n, SL S' w' 137 wv n ∧ n ≤ 100)) ∧ l.length ≤ 6 ∧ PlsOk l ∧ w'.ownsRow w.heap.size 41 7 pv l.length (l.flatMap plE.enc) ∧ (∀ g, pv.ownBlock = some g → ¬ S' g) ∧ Ev noB noB w S' w'
set_option maxRecDepth 100000 in
set_option maxHeartbeats 8000000 in
theorem made10v_any (lv : Value) (rows : List (Value × List Int)) (w : World) (hM : Mat w.heap.size w lv rows) :
    Calls Try.prog 7 #[lv] w fun e w' => MadeR w e w' := by
  have hM0 := hM
  obtain ⟨la, lcap, rfl, hlc, -⟩ := hM
  obtain ⟨m, hm⟩ : ∃ m, min rows.length 3 = m := ⟨_, rfl⟩
  have hmI : min (rows.length : Int) 3 = (m : Nat) := by omega
  have hm0 : 0 ≤ (m : Int) := by omega
  have hmc : (m : Int) ≤ (lcap : Int) := by omega
  have hmn : m ≤ lcap := by omega
  have ho := ((OW.init (TW.none w)).box mapZ 29).box mapZ 29
  have hb1 := ho.low
  have hM1 := ((hM0.below hb1).mono hb1.size).take m (by omega)
  simp only [World.size_alloc] at ho
  replace hm := Lib.hid hm
  go_enter Try.func7, Try.ntmps7
  go_upto_region 2 with fail
  refine wp_world (fun W1 hW1 => ?_)
  rw [← hW1] at ho hM1
  obtain ⟨B2, hB2⟩ : ∃ b, w.heap.size = b := ⟨_, rfl⟩
  obtain ⟨B3, hB3⟩ : ∃ b, w.heap.size + 1 = b := ⟨_, rfl⟩
  rw [hB3, hB2] at ho
  rw [hB3, hB2]
  have hl2 : w.heap.size ≤ B2 := by omega
  clear hW1 hB2 hB3 hb1
  go_upto_region 3 with (first
    | (go_at_call 21; (with_reducible refine (made7_any _ _ W1 hM1).mono ?_); rintro e W2 ⟨S1, ev, fv, rfl, ⟨ne, nf, hse, hne, hsf, hnf⟩, hev2⟩; obtain ⟨ea, ec, rfl, -⟩ := hse.form; obtain ⟨fa, fc, rfl, -⟩ := hsf.form; have ho2 := ((ho.evo hev2).add hse).add hsf; obtain ⟨z0, z1, z2, z3⟩ := cellsM4 ho2.b0; have zf0 := ho2.b0.frozen 0; have zf1 := ho2.b0.frozen 1)
    | fail)
  refine wp_world (fun W3 hW3 => ?_)
  have ho3 : OW noB w S1 W3 [(B3, mapC (.slice ea ne ec) (.slice fa nf fc) (.slice none 0 0) (.slice none 0 0), 29), (B2, mapZ, 29)] [(68, .slice fa nf fc, nf), (133, .slice ea ne ec, ne)] := by
    rw [hW3]
    exact (ho2.set 0 _ rfl).set 1 _ rfl
  clear ho ho2 hW3 z0 z1 z2 z3 zf0 zf1 hM1 hev2 hse hsf
  have hi3 := partV_ints (hM0.below ho3.low) 3
  have hp3 : Calls Try.prog 22 #[.slice la rows.length lcap, .int .i64 3] W3 fun e w' => e = .returned (partV rows 3) ∧ W3 = w' := part_eq _ W3 _ rows (hM0.below ho3.low) 3
  obtain ⟨v3, hv3⟩ : ∃ v, partV rows 3 = v := ⟨_, rfl⟩
  obtain ⟨x3, hx3⟩ : ∃ v, partX rows 3 = v := ⟨_, rfl⟩
  rw [hv3] at hi3 hp3
  rw [hx3] at hi3
  obtain ⟨sa, sc, rfl⟩ : ∃ a c, v3 = .slice a x3.length c := by
    obtain ⟨⟨a, c, e, -⟩, -⟩ := hi3
    exact ⟨a, c, e⟩
  clear hv3 hx3
  have hd := ho3.draw ho3.lows (Nat.le_refl _) hi3
  go_upto_region 4 with (first
    | (go_at_call 22; (with_reducible refine hp3.mono ?_); rintro e W' ⟨rfl, rfl⟩)
    | fail)
  refine wp_world (fun W4 hW4 => ?_)
  rw [← hW4] at hd
  have hDl : w.heap.size ≤ W3.heap.size := ho3.low.size
  obtain ⟨D, hD⟩ : ∃ b, W3.heap.size = b := ⟨_, rfl⟩
  obtain ⟨sv, hsv⟩ : ∃ v, Value.slice sa x3.length sc = v := ⟨_, rfl⟩
  rw [hD, hsv] at hd
  rw [hD] at hDl
  rw [hD, hsv]
  clear hp3 hi3 ho3 hW4 hD hsv
  go_wp2_with fail
  go_loopw [5] (fun kk wr => ∃ k : Nat, k ≤ nf ∧ kk = .int .i64 (k : Nat) ∧ DY w.heap.size D sv x3 noB w S1 wr [(B3, mapC (.slice ea ne ec) (.slice fa nf fc) (.slice none 0 0) (.slice none 0 0), 29), (B2, mapZ, 29)] [(68, .slice fa nf fc, nf), (133, .slice ea ne ec, ne)]) (fun kk _ => nf - (intOf kk).toNat)
  case atStart => exact ⟨0, Nat.zero_le _, rfl, hd⟩
  case round =>
    clear hd
    obtain ⟨k, hk, rfl, hd⟩ := hrel
    by_cases hlt : k < nf
    · have hltI : (k : Int) < (nf : Int) := by omega
      obtain ⟨b, off, cap', hab, -, -⟩ := hd.s0.some_ (by omega)
      simp only [Value.slice.injEq, true_and] at hab
      obtain ⟨rfl, rfl⟩ := hab
      obtain ⟨m0, m1, m2, m3⟩ := cellsM4 hd.b0
      go_upto_region 8 with fail
      clear m0 m1 m2 m3
      have st1 : Strs #[.string ⟨#[102, 105, 101, 108, 100]⟩, .string ⟨#[119, 111, 111, 100]⟩, .string ⟨#[108, 97, 107, 101]⟩] := strs_of [⟨#[102, 105, 101, 108, 100]⟩, ⟨#[119, 111, 111, 100]⟩, ⟨#[108, 97, 107, 101]⟩] (by decide)
      go_upto_region 9 with (first
        | (go_at_call 23; (with_reducible refine ((hd.box _ _).call 3 (by omega) (by omega)).mono ?_); rintro e Wb ⟨q, rfl, q0, q1, hb⟩; obtain ⟨q, rfl⟩ := Int.eq_ofNat_of_zero_le q0; obtain ⟨s1, cs1, hs1⟩ := st1.at_ hb.b0 (q := q) (by simp; omega); have hdB := hb.tail; obtain ⟨u, cu, -⟩ := SL.cell hdB.tw et_face hdB.s0 hlt 1 .str rfl; obtain ⟨hst, zf⟩ := SL.store (X := noB) hdB.tw et_face hdB.s0 k 1 .str rfl (.string s1) (CT.ok_str hs1))
        | fail)
      refine wp_world (fun WC hWC => ?_)
      have hdC := hdB.evo hst
      rw [← hWC] at hdC
      clear hd hdB hb hWC zf cs1 st1 cu hst
      have st2 : Strs #[.string ⟨#[]⟩, .string ⟨#[]⟩, .string ⟨#[]⟩, .string ⟨#[77, 111, 111, 114]⟩, .string ⟨#[72, 111, 108, 109]⟩, .string ⟨#[78, 111, 114, 116, 104, 32, 77, 111, 111, 114]⟩] := strs_of [⟨#[]⟩, ⟨#[]⟩, ⟨#[]⟩, ⟨#[77, 111, 111, 114]⟩, ⟨#[72, 111, 108, 109]⟩, ⟨#[78, 111, 114, 116, 104, 32, 77, 111, 111, 114]⟩] (by decide)
      go_upto_region 10 with (first
        | (go_at_call 23; (with_reducible refine ((hdC.box _ _).call 6 (by omega) (by omega)).mono ?_); rintro e Wd ⟨q', rfl, q'0, q'1, hb⟩; obtain ⟨q', rfl⟩ := Int.eq_ofNat_of_zero_le q'0; obtain ⟨s2, cs2, hs2⟩ := st2.at_ hb.b0 (q := q') (by simp; omega); have hdD := hb.tail; obtain ⟨u', cu, -⟩ := SL.cell hdD.tw et_face hdD.s0 hlt 2 .str rfl; obtain ⟨hst, zf⟩ := SL.store (X := noB) hdD.tw et_face hdD.s0 k 2 .str rfl (.string s2) (CT.ok_str hs2))
        | fail)
      refine wp_world (fun WE hWE => ?_)
      have hdE := hdD.evo hst
      rw [← hWE] at hdE
      clear hdC hdD hb hWE zf cs2 st2 cu hst
      go_upto_region 11 with (first
        | (go_at_call 23; (with_reducible refine (hdE.call 60 (by omega) (by omega)).mono ?_); rintro e Wf ⟨t, rfl, t0, t1, hdF⟩; obtain ⟨u2, cu, -⟩ := SL.cell hdF.tw et_face hdF.s0 hlt 3 .int rfl; obtain ⟨hst, zf⟩ := SL.store (X := noB) hdF.tw et_face hdF.s0 k 3 .int rfl (.int .i64 (1 + t)) (CT.ok_int ⟨by omega, by omega⟩))
        | fail)
      refine wp_world (fun WG hWG => ?_)
      have hdG := hdF.evo hst
      rw [← hWG] at hdG
      clear hdE hdF hWG zf cu hst
      go_upto_region 6 with (first
        | (go_at_call 23; (with_reducible refine (hdG.call 4 (by omega) (by omega)).mono ?_); rintro e Wh ⟨x, rfl, x0, x1, hdH⟩)
        | (go_at_call 23; (with_reducible refine (hdH.call 2 (by omega) (by omega)).mono ?_); rintro e Wi ⟨y, rfl, y0, y1, hdI⟩; obtain ⟨u3, cu, -⟩ := SL.cell hdI.tw et_face hdI.s0 hlt 4 .int rfl; obtain ⟨-, zf⟩ := SL.store (X := noB) hdI.tw et_face hdI.s0 k 4 .int rfl (.int .i64 0) (CT.ok_int ⟨by decide, by decide⟩))
        | fail)
      refine wp_world (fun WJ hWJ => ?_)
      have hdJ : DY w.heap.size D sv x3 noB w S1 WJ [(B3, mapC (.slice ea ne ec) (.slice (some ⟨b, off, none⟩) nf fc) (.slice none 0 0) (.slice none 0 0), 29), (B2, mapZ, 29)] [(68, .slice (some ⟨b, off, none⟩) nf fc, nf), (133, .slice ea ne ec, ne)] := by
        rw [hWJ]
        exact hdI.evo (SL.store (X := noB) hdI.tw et_face hdI.s0 k 4 .int rfl _ (CT.ok_int (by first | with_reducible exact fits_w64 _ | with_reducible exact fits_wrap _ | with_reducible assumption | exact ⟨by omega, by omega⟩))).1
      clear hdG hdH hdI hWJ zf cu
      go_wp2_with fail
      go_roundw
      case rel => exact ⟨k + 1, by omega, by go_num, hdJ⟩
      case measure => simp [intOf]; omega
    · have hge : ¬ (k : Int) < (nf : Int) := by omega
      obtain ⟨m0, m1, m2, m3⟩ := cellsM4 hd.b0
      have ho := hd.ow (TW.none w) hDl
      go_upto_region 12 with fail
      clear hd m0 m1 m2 m3 hlt hge
      have hi4 := partV_ints (hM0.below ho.low) 4
      have hp4 : Calls Try.prog 22 #[.slice la rows.length lcap, .int .i64 4] wr fun e w' => e = .returned (partV rows 4) ∧ wr = w' := part_eq _ wr _ rows (hM0.below ho.low) 4
      go_upto_region 13 with (first
        | (go_at_call 22; (with_reducible refine hp4.mono ?_); rintro e W' ⟨rfl, rfl⟩)
        | (go_at_call 24; (with_reducible refine (ways10_any _ S1 wr ho.tw ho.lows ho.low.size _ _ hi4).mono ?_); rintro e W5 ⟨S5, wv, rfl, ⟨nw, hsw, hnw⟩, hev5⟩; obtain ⟨wa, wc, rfl, -⟩ := hsw.form; have ho5 := (ho.evo hev5).add hsw; obtain ⟨z0, z1, z2, z3⟩ := cellsM4 ho5.b0; have zf := ho5.b0.frozen 2)
        | fail)
      refine wp_world (fun W6 hW6 => ?_)
      have ho6 := ho5.put hW6 (c' := mapC (.slice ea ne ec) (.slice fa nf fc) (.slice wa nw wc) (.slice none 0 0)) rfl
      clear ho ho5 hev5 hsw hW6 hi4 hp4 z0 z1 z2 z3 zf
      have hM6 := hM0.below ho6.low
      have hle6 := ho6.low.size
      obtain ⟨m0, m1, m2, m3⟩ := cellsM4 ho6.b0
      first | with_reducible refine wp_region_grow_tail2 3 (by kernel_rfl) (by kernel_rfl) ?_ | with_reducible refine wp_region_grow_tail 3 (by kernel_rfl) (by kernel_rfl) ?_
      simp only [List.take_succ_cons, List.take_zero, List.drop_succ_cons, List.drop_zero]
      repeat (first | go_big_quiet_step ((go_at_call 22; exact Calls.grow_of_same (part_eq w.heap.size _ _ rows (hM6.below ((Go.below_growBy _ _).mono hle6)) 5))) | quiet_step ((go_at_call 22; exact Calls.grow_of_same (part_eq w.heap.size _ _ rows (hM6.below ((Go.below_growBy _ _).mono hle6)) 5))))
      refine wpQuiet_nil ?_
      intro _ hw_
      obtain ⟨p, hw_⟩ := hw_
      subst hw_
      have ho7 := ho6.up (Go.below_growBy W6 p)
      have hi5 := partV_ints (hM0.below ho7.low) 5
      clear m0 m1 m2 m3 ho6 hM6
      go_upto_region 14 with (first
        | (go_at_call 25; (with_reducible refine (places10v_any w.heap.size S5 _ ho7.tw ho7.lows ho7.low.size _ _ hi5 _ _ ne nf ho7.s2 (Nat.le_trans hne (by decide)) ho7.s1 hnf _ _ _ _ _ _).mono ?_); rintro e W8 ⟨S8, pv, l, rfl, hl6, hok, hr8, hof, hev8⟩; replace hr8 := ownsRow_base hr8 ho7.low.size; obtain ⟨pa, pc, rfl, -⟩ := (lst_of_row plOk hr8 (by omega)).form; have ho8 := ho7.evo hev8; obtain ⟨z0, z1, z2, z3⟩ := cellsM4 ho8.b0; have zf := ho8.b0.frozen 3)
        | fail)
      refine wp_world (fun W9 hW9 => ?_)
      have hr9 : W9.ownsRow w.heap.size 41 7 (.slice pa l.length pc) l.length (l.flatMap plE.enc) := by
        rw [hW9]
        exact hr8.kept (grown_set _ B3 3 _) (.inr (ownsRow_other hr8 ho8.b0 (by decide)))
      have ho9 := ho8.put hW9 (c' := mapC (.slice ea ne ec) (.slice fa nf fc) (.slice wa nw wc) (.slice pa l.length pc)) rfl
      clear ho7 ho8 hev8 hr8 hW9 hi5 z0 z1 z2 z3 zf
      obtain ⟨z0, z1, z2, z3⟩ := cellsM4 ho9.b0
      obtain ⟨y0, y1, y2, y3⟩ := cellsM4 ho9.b1
      have f0 := ho9.b1.frozen 0
      have f1 := ho9.b1.frozen 1
      have f2 := ho9.b1.frozen 2
      have f3 := ho9.b1.frozen 3
      have hoA := ho9.swap
      have hrA := hr9.kept (grown_set _ B2 0 (.slice ea ne ec)) (.inr (ownsRow_other hr9 hoA.b0 (by decide)))
      have hoB := hoA.set 0 (.slice ea ne ec) rfl
      have hrB := hrA.kept (grown_set _ B2 1 (.slice fa nf fc)) (.inr (ownsRow_other hrA hoB.b0 (by decide)))
      have hoC := hoB.set 1 (.slice fa nf fc) rfl
      have hrC := hrB.kept (grown_set _ B2 2 (.slice wa nw wc)) (.inr (ownsRow_other hrB hoC.b0 (by decide)))
      have hoD := hoC.set 2 (.slice wa nw wc) rfl
      have hrD := hrC.kept (grown_set _ B2 3 (.slice pa l.length pc)) (.inr (ownsRow_other hrC hoD.b0 (by decide)))
      have hoX := hoD.set 3 (.slice pa l.length pc) (c' := mapC (.slice ea ne ec) (.slice fa nf fc) (.slice wa nw wc) (.slice pa l.length pc)) rfl
      clear ho9 hoA hoB hoC hoD hr9 hrA hrB hrC
      go_wp2_with fail
      exact bodyPost_ret (results_cell_row (by rfl) _ _ B2 29 _ (0, 0) _ (by rfl) hoX.b0 Try.underlying29 (by rfl) (by kernel_rfl)) rfl ⟨S8, _, _, _, _, l, rfl, ⟨⟨ne, hoX.s2, hne⟩, ⟨nf, hoX.s1, hnf⟩, ⟨nw, hoX.s0, hnw⟩⟩, hl6, hok, hrD, hof, hoX.ev⟩
end Go.Proofs.Ytikojanpbbiaiaa
namespace Go.Proofs.Ytikojanpbbiaiaa
set_option linter.unusedVariables false
set_option linter.unusedSimpArgs false
open Go.RowKit Go.Shelf
section
variable {H : Type} {enc : TypeId × Value → H} {P : Program} {W : World} {base : Nat} {sp : Nat → Bool} {hd : Bool} {t e : TypeId} {v : Value}

theorem ints_open {fuel : Nat} {x : DataW H × List MemPlace} (ht : P.underlying t = some (.slice e)) (he : P.underlying e = some (.int .i64)) (hc : P.cellsOf e = 1)
    (h : DataW.trod enc P W base sp hd fuel t [v] = some x) : ∃ xs, Intz W.heap.size W v xs := by
  rcases Go.ChangeShapes.open_ints ht he hc h with ⟨h1, -⟩ | ⟨a, len, cap, zs, h1, -, h2, h2m, h3, -, h4, h5⟩
  · obtain rfl : v = .slice none 0 0 := by simpa using h1
    exact ⟨[], Intz.nil _ _⟩
  · obtain rfl : v = .slice (some a) len cap := by simpa using h1
    have hz : len ≤ zs.length := by rw [h3]; split <;> omega
    refine ⟨zs.take len, ⟨some a, cap, by rw [List.length_take, Nat.min_eq_left hz], fun j hj => ?_⟩, ?_⟩
    · have hj' : j < len := by rw [List.length_take] at hj; omega
      obtain ⟨b, off, rfl, h6⟩ := Go.ints_at h4 (by omega)
      have h7 := h6 j (by omega)
      have hg : zs.getD j 0 = zs[j] := by rw [List.getD_eq_getElem?_getD, List.getElem?_eq_getElem (by omega)]; rfl
      rw [List.getElem_take]
      rw [hg] at h7
      exact ⟨b, off, rfl, World.block_lt_of_cell? _ _ h7, lit_fits _ (h5 _ (List.getElem_mem _)), h7⟩
    · rw [List.length_take, Nat.min_eq_left hz]
      unfold maxLen at h2m
      show len ≤ 9223372036854775807
      omega
theorem mat_arg {t2 : TypeId} (ht2 : P.underlying t2 = some (.slice t)) (hc2 : P.cellsOf t = 1) (ht : P.underlying t = some (.slice e)) (he : P.underlying e = some (.int .i64)) (hc : P.cellsOf e = 1) (hv : ∀ cs, v ≠ .agg cs)
    (h : ∃ d p, DataW.Trod enc P W base sp hd t2 v d p) : ∃ rows, Mat W.heap.size W v rows ∧ LenOk rows.length := by
  obtain ⟨d, p, fuel, h⟩ := h
  have hcs : v.cells.toList = [v] := by cases v <;> first | rfl | exact absurd rfl (hv _)
  rw [hcs] at h
  rcases Go.Deep.open_slice1 ht2 hc2 h with ⟨h1, -⟩ | ⟨a, len, cap, m, n, V, D, Pl, h1, -, h2, h2m, h3, -, h4⟩
  · obtain rfl : v = .slice none 0 0 := by simpa using h1
    exact ⟨[], ⟨none, 0, rfl, Nat.le_refl _, fun j hj => by simp at hj⟩, Nat.zero_le _⟩
  · obtain rfl : v = .slice (some a) len cap := by simpa using h1
    have hm : len ≤ m := by rw [h3]; split <;> omega
    have each : ∀ i, i < len → ∃ r : Value × List Int, W.cell? (a.add i) = some r.1 ∧ Intz W.heap.size W r.1 r.2 := fun i hi => by
      obtain ⟨h5, h6⟩ := h4 i (by omega)
      obtain ⟨xs, hx⟩ := ints_open ht he hc h6
      exact ⟨(V i, xs), h5, hx⟩
    have inh : Inhabited (Value × List Int) := ⟨(.bool false, [])⟩
    obtain ⟨f, hf⟩ := Go.Deep.choose_lt each
    refine ⟨(List.range len).map f, ⟨some a, cap, by simp, by simpa using h2, fun j hj => ?_⟩, ?_⟩
    · have hj' : j < len := by simpa using hj
      obtain ⟨c0, hi⟩ := hf j hj'
      have hspot : a.spot = none := by
        have d0 := (hf 0 (by omega)).1
        simpa [Addr.add] using World.cell?_spot d0
      obtain ⟨b, off, spot⟩ := a
      simp only at hspot
      subst hspot
      rw [Go.WideShapes.add_plain] at c0
      have hg : ((List.range len).map f)[j] = f j := by simp
      rw [hg]
      exact ⟨b, off, rfl, World.block_lt_of_cell? _ _ c0, c0, hi⟩
    · rw [List.length_map, List.length_range]
      unfold maxLen at h2m
      show len ≤ 9223372036854775807
      omega
end
section
variable {P : Program} {W : World} {r : Reach} {base : Nat} {t : TypeId} {v : Value}
end
end Go.Proofs.Ytikojanpbbiaiaa
