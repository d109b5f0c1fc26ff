/-
  append of a list that may have nothing onto a row of the call's own.
  Chapter 24: the law's cut.
  The frame of a law's proof, once for all: a walk that returns true and only makes memory (Below) pays the post of 'for every input: true; each argument reads as it did'.
  Chapter 24: a law's arguments opened: []api.Label, [2]uint8.
-/
import Derived.Test.YtikojanpbbiaiaaZr
import Derived.Test.YtikojanpbbiaiaaZi
import Derived.Test.YtikojanpbbiaiaaZb
import Derived.Test.YtikojanpbbiaiaaZc
import Derived.ProofKit
import Derived.OpenShut
import Derived.Deep.Slices
namespace Go.Proofs.Ytikojanpbbiaiaa
set_option linter.unusedVariables false
set_option linter.unusedSimpArgs false
open Go Go.RowKit Go.Shelf
section
variable {α : Type} {E : El α} {P : Program} {st : TypeId}
theorem setCells_nil (W : World) (b off : Nat) : W.setCells b off [] = W := by rfl
theorem El.append_join (hE : E.Ok) (hI : E.In P st) (W : World) (base : Nat) (v xv : Value) (l l2 : List α) (ty : TypeId) (hv : W.ownsRow base E.t E.s v l.length (l.flatMap E.enc)) (hsm : ∃ g c, v = .slice (some ⟨g, 0, none⟩) l.length c) {n0 : Nat} (hx : Lst E n0 W xv l2) (hf : Frm xv l2.length) (hl : l.length + l2.length ≤ 100000) (hb : base ≤ W.heap.size) :
    ∃ v' W', (Builtin.append_ #[st, st] ty #[v, xv]).run P W = .ok v' W' ∧ W'.ownsRow base E.t E.s v' (l ++ l2).length ((l ++ l2).flatMap E.enc) ∧ W.grownBy W' v.ownBlock ∧ Below base W W' ∧ ∃ g cap, v' = .slice (some ⟨g, 0, none⟩) (l ++ l2).length cap := by
  obtain ⟨i0, z, hi0, hz0, hz1, hz2, hz3⟩ := hI.info
  obtain ⟨g, c, rfl⟩ := hsm
  by_cases hne : l2 = []
  · subst hne
    have hs : Src P i0.size st xv 0 [] W := by
      rcases hf with rfl | ⟨b, off, cap, rfl⟩
      · exact Src.ofNil W hI.under 0
      · exact Src.ofSlice W hI.under _ 0 cap [] (by simp) (by simp) (by simp)
    have hlc : l.length + 0 ≤ c := by
      rcases hv.2 with ⟨e, -⟩ | ⟨g', cap', cur, e, -, -, h1, -⟩
      · cases e
      · simp only [Value.slice.injEq, true_and] at e
        omega
    have hr := run_append_room_src (P := P) W st st ty E.t i0 hI.under hi0 g 0 l.length c xv 0 [] hs hlc (by simp) (by simp)
    refine ⟨_, _, hr, ?_, ?_, ?_, g, c, ?_⟩
    · rw [List.append_nil]; exact hv
    · exact ⟨rfl, rfl, rfl, Nat.le_refl _, fun _ _ _ => rfl⟩
    · exact ⟨rfl, rfl, rfl, Nat.le_refl _, fun _ _ => rfl⟩
    · rw [List.append_nil]; rfl
  · have hpos : 0 < l2.length := List.length_pos_iff.2 hne
    obtain ⟨b, off, cap, rfl, hcap, hbn, -⟩ := hx.some_ hpos
    have hnews : ∀ j u, (l2.flatMap E.enc)[j]? = some u → W.cell? ((⟨b, off, none⟩ : Addr).add j) = some u := fun j u hj => by
      rw [Addr.add_lit]
      exact hx.flat hE j u hj
    obtain ⟨v', W', hr, hown, hg, -, -⟩ := run_append_own_at (P := P) W base st ty E.t i0 _ E.s i0.bytes hI.under hi0 hz0 hz1 rfl hz3 hE.pos _ l.length _ hv ⟨b, off, none⟩ l2.length cap (l2.flatMap E.enc) (flat_length hE l2) hnews (flat_one hE l2) (by unfold maxLen; omega) (Nat.le_trans (Nat.mul_le_mul (show l.length + l2.length ≤ 100000 by omega) hz2) (by decide)) hb
    have hform : ∃ g cap, v' = .slice (some ⟨g, 0, none⟩) (l ++ l2).length cap := by
      rw [List.length_append]
      rcases hown.2 with ⟨-, e⟩ | ⟨g', cap', cur, e, -⟩
      · omega
      · exact ⟨g', cap', e⟩
    refine ⟨v', W', hr, ?_, hg, below_of_grown hg hb (fun k e => (hv.lt k e).1), hform⟩
    rw [List.length_append, List.flatMap_append]
    exact hown
/-- at a step of a region that draws -/
theorem El.step_join (hE : E.Ok) (hI : E.In P st) {o : Oper} {a : Act} {w : World} {K : Act → World → Prop} {Q : Exit → Act → World → Prop} (s x : Operand)
    (ho : o.op = .call { callee := .builtin .append, args := #[s, x], argTypes := #[st, st] })
    (base : Nat) {v : Value} (hs : a.eval s = v) (l : List α) (hv : w.ownsRow base E.t E.s v l.length (l.flatMap E.enc)) (hsm : ∃ g c, v = .slice (some ⟨g, 0, none⟩) l.length c) {xv : Value} (l2 : List α) (hxv : a.eval x = xv) {n0 : Nat} (hx : Lst E n0 w xv l2) (hf : Frm xv l2.length) (hl : l.length + l2.length ≤ 100000) (hb : base ≤ w.heap.size)
    (h : ∀ v' w', w'.ownsRow base E.t E.s v' (l ++ l2).length ((l ++ l2).flatMap E.enc) → w.grownBy w' v.ownBlock → Below base w w' → (∃ g cap, v' = .slice (some ⟨g, 0, none⟩) (l ++ l2).length cap) → K (a.put o.dst v') w') :
    Oper.wp P o a w K Q := by
  obtain ⟨v', w', hr, h2, h3, h4, h5⟩ := El.append_join hE hI w base v xv l l2 o.type hv hsm hx hf hl hb
  unfold Oper.wp execOp
  simp only [ho, resolve, invoke, builtin, Sem.run_bind, Sem.run_pure, Result.andThen_ok, List.map_toArray, List.map_cons, List.map_nil, hs, hxv, hr]
  exact h v' w' h2 h3 h4 h5
/-- in a list of operations -/
theorem El.join (hE : E.Ok) (hI : E.In P st) {ops : Array Oper} {rest : List Oper} {o : Oper} {a : Act} {w : World} {Q : Exit → Act → World → Prop} (hgd : o.guard = none) (s x : Operand)
    (ho : o.op = .call { callee := .builtin .append, args := #[s, x], argTypes := #[st, st] })
    (base : Nat) {v : Value} (hs : a.eval s = v) (l : List α) (hv : w.ownsRow base E.t E.s v l.length (l.flatMap E.enc)) (hsm : ∃ g c, v = .slice (some ⟨g, 0, none⟩) l.length c) {xv : Value} (l2 : List α) (hxv : a.eval x = xv) {n0 : Nat} (hx : Lst E n0 w xv l2) (hf : Frm xv l2.length) (hl : l.length + l2.length ≤ 100000) (hb : base ≤ w.heap.size)
    (h : ∀ v' w', w'.ownsRow base E.t E.s v' (l ++ l2).length ((l ++ l2).flatMap E.enc) → w.grownBy w' v.ownBlock → Below base w w' → (∃ g cap, v' = .slice (some ⟨g, 0, none⟩) (l ++ l2).length cap) → wpList P ops Q rest (a.put o.dst v') w') :
    wpList P ops Q (o :: rest) a w :=
  wpList_plain hgd fun _ hK => El.step_join hE hI s x ho base hs l hv hsm l2 hxv hx hf hl hb fun v' w' h1 h2 h3 h4 => hK _ _ (h v' w' h1 h2 h3 h4)
end
end Go.Proofs.Ytikojanpbbiaiaa
namespace Go.Proofs.Ytikojanpbbiaiaa
set_option linter.unusedVariables false
set_option linter.unusedSimpArgs false
open Go.RowKit Go.Shelf
attribute [local go_sem] Oper.semAt_some
attribute [local go_sem ↓] Go.wp_at_zero Go.wp_at_succ

def cutLb (x : Lb) : Lb := ⟨x.id, x.x, x.y, x.r, x.txt.extract 0 (min x.txt.size 10), x.unt⟩
def CutR (w : World) (s : List Lb) (e : Ending) (w' : World) : Prop := ∃ u, e = .returned u ∧ w'.ownsRow w.heap.size 39 6 u s.length (s.flatMap lbE.enc) ∧ Below w.heap.size w w'
theorem cut_step {l : List Lb} {k : Nat} {x : Lb} (h : l[k]? = some x) : (l.take (k + 1)).map cutLb = (l.take k).map cutLb ++ [cutLb x] := by
  rw [List.take_add_one, h]
  simp
set_option maxRecDepth 100000 in
set_option maxHeartbeats 4000000 in
/-- the first 8 labels, cut: the slice may be longer -/
theorem cut_any (a : Option Addr) (n cap : Nat) (l : List Lb) (w : World) (h : Lst lbE w.heap.size w (.slice a l.length cap) l) (hn : l.length = min n 8) : Calls Try.prog 15 #[.slice a n cap] w fun e w' => CutR w (l.map cutLb) e w' := by
  obtain ⟨res, hres⟩ : ∃ r, l.map cutLb = r := ⟨_, rfl⟩
  rw [hres]
  replace hres := Lib.hid hres
  go_enter Try.func15, Try.ntmps15
  go_wp2_with fail
  go_loopw [3, 4] (fun ov kk wr => ∃ k : Nat, k ≤ l.length ∧ kk = .int .i64 (k : Nat) ∧ wr.ownsRow w.heap.size 39 6 ov ((l.take k).map cutLb).length (((l.take k).map cutLb).flatMap lbE.enc) ∧ Below w.heap.size w wr) (fun _ kk _ => l.length - (intOf kk).toNat)
  case atStart => exact ⟨0, Nat.zero_le _, rfl, ⟨by simp, .inl ⟨rfl, by simp⟩⟩, Below.refl _ _⟩
  case round =>
    obtain ⟨k, hk, rfl, hrow, hB⟩ := hrel
    have hsz := hB.size
    by_cases hlt : k < l.length
    · have hltI : (k : Int) < (n : Int) := by omega
      have hlt8I : (k : Int) < 8 := by omega
      obtain ⟨b, off, cap', i, x, y, r, t, u, hv, hget, hbl, hc⟩ := h.get hlt
      simp only [Value.slice.injEq, true_and] at hv
      obtain ⟨rfl, rfl⟩ := hv
      obtain ⟨c0, c1, c2, c3, c4, c5⟩ := hc.below hB hbl
      have hstep := Lib.hid (cut_step hget)
      have hlen8 : ((l.take k).map cutLb).length ≤ 8 := by simp; omega
      obtain ⟨R, hR⟩ : ∃ R, (l.take k).map cutLb = R := ⟨_, rfl⟩
      rw [hR] at hstep hlen8 hrow
      clear hR hget hc
      go_upto_region 7 with fail
      rw [show (min (t.size : Int) 10).toNat = min t.size 10 from by omega]
      have kB := Blk.new wr #[.int .i64 i, .int .i64 x, .int .i64 y, .int .i64 r, .string (t.extract 0 (min t.size 10)), .int .i64 u] 39
      have hbW : Below wr.heap.size wr (wr.alloc (.cells #[.int .i64 i, .int .i64 x, .int .i64 y, .int .i64 r, .string (t.extract 0 (min t.size 10)), .int .i64 u] 39)) := (Below.refl _ _).alloc (Nat.le_refl _) _
      obtain ⟨W1, hW1⟩ : ∃ W, wr.alloc (.cells #[.int .i64 i, .int .i64 x, .int .i64 y, .int .i64 r, .string (t.extract 0 (min t.size 10)), .int .i64 u] 39) = W := ⟨_, rfl⟩
      obtain ⟨B1, hB1⟩ : ∃ b, wr.heap.size = b := ⟨_, rfl⟩
      have hrow1 := ownsRow_up hrow hbW
      have hBB := hB.trans (hbW.mono hsz)
      rw [hW1] at kB hrow1 hBB
      rw [hB1] at kB
      rw [hW1, hB1]
      have hsz1 := hBB.size
      clear hbW hW1 hB1 hrow hB hsz c0 c1 c2 c3 c4 c5 hbl
      have c0 : W1.cell? ⟨B1, 0, none⟩ = some (.int .i64 i) := kB.cell 0
      have c1 : W1.cell? ⟨B1, 1, none⟩ = some (.int .i64 x) := kB.cell 1
      have c2 : W1.cell? ⟨B1, 2, none⟩ = some (.int .i64 y) := kB.cell 2
      have c3 : W1.cell? ⟨B1, 3, none⟩ = some (.int .i64 r) := kB.cell 3
      have c4 : W1.cell? ⟨B1, 4, none⟩ = some (.string (t.extract 0 (min t.size 10))) := kB.cell 4
      have c5 : W1.cell? ⟨B1, 5, none⟩ = some (.int .i64 u) := kB.cell 5
      have hR8 : R.length ≤ 100000 := by omega
      clear kB
      go_wp2_with (first
        | (at_builtin; refine El.push lbOk lbIn (by rfl) _ _ (by rfl) (by rfl) hrow1 ⟨i, x, y, r, t.extract 0 (min t.size 10), u⟩ (by rfl) rfl hsz1 hR8 ?_; intro v9 w9 hrow9 hf9 hg9 hb9)
        | fail)
      go_roundw
      case rel => exact ⟨k + 1, by omega, by go_num, by rw [hstep.out]; exact hrow9, hBB.trans hb9⟩
      case measure => simp [intOf]; omega
    · obtain rfl : k = l.length := by omega
      rw [List.take_length, hres.out] at hrow
      by_cases hn8 : (l.length : Int) < (n : Int)
      · have hge : ¬ (l.length : Int) < 8 := by omega
        go_wp2_with fail
        go_ret
        exact ⟨_, rfl, hrow, hB⟩
      · go_wp2_with fail
        go_ret
        exact ⟨_, rfl, hrow, hB⟩
end Go.Proofs.Ytikojanpbbiaiaa
namespace Go
set_option linter.unusedVariables false
set_option linter.unusedSimpArgs false
open Go.RowKit Go.ChangeShapes Go.WideShapes Go.ChangeAt

section
variable {H : Type} {enc : TypeId × Value → H} {P : Program}

theorem trodAll_below (hl : laidOutB P = true) {W W' : World} (hb : Below W.heap.size W W') : ∀ {ts : List TypeId} {vs : List Value} {ds : List (DataW H)} {ps : List MemPlace},
    (ts.all fun t => P.readableRec t && decide (t < P.types.size)) = true → (∀ x ∈ ps, x.block < W.heap.size) →
    DataW.TrodAll enc P W 0 (fun _ => true) true ts vs ds ps → DataW.TrodAll enc P W' 0 (fun b => decide (b < W.heap.size)) true ts vs ds ps
  | [], [], [], _, _, _, h => h
  | [], _ :: _, _, _, _, _, h => h.elim
  | [], [], _ :: _, _, _, _, h => h.elim
  | _ :: _, [], _, _, _, _, h => h.elim
  | _ :: _, _ :: _, [], _, _, _, h => h.elim
  | t :: ts, v :: vs, d :: ds, ps, hr, hlt, h => by
    obtain ⟨p, q, h1, h2, rfl⟩ := h
    simp only [List.all_cons, Bool.and_eq_true, decide_eq_true_eq] at hr
    exact ⟨p, q, Below.trod hl hr.1.1 hr.1.2 h1 hb (fun x hx => hlt x (List.mem_append.2 (.inl hx))),
      trodAll_below hl hb hr.2 (fun x hx => hlt x (List.mem_append.2 (.inr hx))) h2, rfl⟩

/-- the post of a law: it returns true, and what came in reads as it did -/
theorem law_post {f : Func} {s : ChangeSpec} {W W' : World} {args : Array Value} {ds : List (DataW H)} {before : List MemPlace} {T : TypeId}
    (hl : laidOutB P = true) (hr : (f.params.toList.all fun t => P.readableRec t && decide (t < P.types.size)) = true) (hv : s.vars = [])
    (hT : f.resultTypes = #[T]) (hT2 : P.underlying T = some .bool)
    (hs : s.fn H (ds ++ []) = { results := [.lit (.bool true)], args := ds })
    (hW : DataW.Whole enc P f.params.toList s.vars false W args.toList ds [] before)
    (hb : Below W.heap.size W W') : s.post enc P f false true false false W args (.bool true) W' := by
  have hlt := fun x hx => hW.lt x hx
  have hW2 := hW
  obtain ⟨p, q, hA, hV, rfl, hz, hn⟩ := hW
  rw [hv] at hV
  obtain ⟨-, rfl⟩ := trodVars_none hV
  refine ⟨ds, [], p ++ [], [], p, [], hW2, ?_, ?_, ?_, hb.frame _, fun h => by cases h⟩
  · rw [hs, hT]
    exact trodAll_cons_mk (shut_bool hT2 true) trodAll_mk0
  · rw [hs]
    exact trodAll_below hl hb hr (fun x hx => hlt x (by simpa using hx)) hA
  · rw [hs, hv]
    exact rfl
theorem trodAll_lengths {w : World} {b : Nat} {sp : Nat → Bool} {hd : Bool} : ∀ {ts : List TypeId} {vs : List Value} {ds : List (DataW H)} {ps : List MemPlace},
    DataW.TrodAll enc P w b sp hd ts vs ds ps → vs.length = ts.length ∧ ds.length = ts.length
  | [], [], [], _, _ => ⟨rfl, rfl⟩
  | [], _ :: _, _, _, h => h.elim
  | [], [], _ :: _, _, h => h.elim
  | _ :: _, [], _, _, h => h.elim
  | _ :: _, _ :: _, [], _, h => h.elim
  | _ :: _, _ :: _, _ :: _, _, h => by
    obtain ⟨p, q, h1, h2, rfl⟩ := h
    have := trodAll_lengths h2
    simp [this.1, this.2]

/-- a law's call, from its walk -/
theorem law_calls {k : FuncId} {f : Func} {s : ChangeSpec} {W : World} {args : Array Value} {ds gs : List (DataW H)} {before : List MemPlace} (T : TypeId)
    (hl : laidOutB P = true) (hr : (f.params.toList.all fun t => P.readableRec t && decide (t < P.types.size)) = true) (hv : s.vars = [])
    (hT : f.resultTypes = #[T]) (hT2 : P.underlying T = some .bool)
    (hs : ∀ ds : List (DataW H), ds.length = f.params.toList.length → s.fn H (ds ++ []) = { results := [.lit (.bool true)], args := ds })
    (hW : DataW.Whole enc P f.params.toList s.vars false W args.toList ds gs before)
    (hwalk : args.toList.length = f.params.toList.length → DataW.Whole enc P f.params.toList [] false W args.toList ds [] before → Calls P k args W fun e W' => e = .returned (.bool true) ∧ Below W.heap.size W W') :
    Calls P k args W fun e W' => ∃ v, e = .returned v ∧ s.post enc P f false true false false W args v W' := by
  have hW2 := hW
  obtain ⟨p, q, hA, hV, hb, hz, hn⟩ := hW2
  rw [hv] at hV
  obtain ⟨rfl, -⟩ := trodVars_none hV
  obtain ⟨l1, l2⟩ := trodAll_lengths hA
  have hW3 := hW
  rw [hv] at hW3
  exact (hwalk l1 hW3).mono fun e W' ⟨he, hbel⟩ => ⟨_, he, law_post hl hr hv hT hT2 (hs ds l2) hW hbel⟩

/-! ### what came in by value: ints, and rows of ints -/
variable {w : World} {r : Reach} {base : Nat} {t : TypeId} {v : Value} {k : IntKind}
theorem okWide_int_has (ht : P.underlying t = some (.int k)) (h : Value.okWide P w r base t v) : ∃ n, v = .int k n ∧ k.has n := by
  simp only [Value.okWide, ht, Cell.okWide] at h
  cases v <;> simp_all [Cell.ok]

theorem list_ints (k : IntKind) : ∀ l : List Value, (∀ v ∈ l, ∃ n, v = Value.int k n ∧ k.has n) → ∃ xs : List Int, l = xs.map (Value.int k) ∧ ∀ x ∈ xs, k.has x
  | [], _ => ⟨[], rfl, fun _ h => by cases h⟩
  | v :: l, h => by
    obtain ⟨n, rfl, hn⟩ := h v (by simp)
    obtain ⟨xs, rfl, hx⟩ := list_ints k l fun u hu => h u (by simp [hu])
    exact ⟨n :: xs, rfl, fun x hm => by
      rcases List.mem_cons.1 hm with rfl | hm
      · exact hn
      · exact hx x hm⟩

/-- a struct or an array whose cells are all ints of one kind -/
theorem okWide_ints {n : Nat} {ts : List TypeId} (hrow : (match P.underlying t with | some (.struct _) | some (.array _ _) => true | _ => false) = true) (hc : P.cellsOf t = n)
    (hts : P.cellTypes P.depth t = some ts) (hk : (ts.all fun u => match P.underlying u with | some (.int k') => k' == k | _ => false) = true) (h : Value.okWide P w r base t v) :
    ∃ xs : List Int, xs.length = n ∧ v = .agg (xs.map (Value.int k)).toArray ∧ ∀ x ∈ xs, k.has x := by
  have h2 : ∃ cs, v = .agg cs ∧ cs.size = P.cellsOf t ∧ Row.okWide P w r base t cs := by
    unfold Value.okWide at h
    split at hrow <;> simp_all
  obtain ⟨cs, rfl, hn, ts', hts', -, hcell⟩ := h2
  rw [hts] at hts'
  cases hts'
  obtain ⟨xs, hxs, hx⟩ := list_ints k cs.toList fun v hv => by
    obtain ⟨i, hi⟩ := List.getElem?_of_mem hv
    obtain ⟨u, hu, hcu⟩ := hcell i v (by simpa using hi)
    have hku := List.all_eq_true.1 hk u (List.mem_of_getElem? hu)
    split at hku
    · rename_i k' hk'
      have hkk : k' = k := by simpa using hku
      subst hkk
      simp only [Cell.okWide, hk'] at hcu
      cases v <;> simp_all [Cell.ok]
    · cases hku
  refine ⟨xs, ?_, ?_, hx⟩
  · have : cs.toList.length = xs.length := by rw [hxs]; simp
    simp at this
    omega
  · rw [← hxs]
end
end Go
namespace Go.Proofs.Ytikojanpbbiaiaa
set_option linter.unusedVariables false
set_option linter.unusedSimpArgs false
open Go.RowKit Go.Shelf
section
variable {H : Type} {enc : TypeId × Value → H} {P : Program} {W : World} {base : Nat} {sp : Nat → Bool} {hd : Bool} {t e : TypeId} {v : Value}
theorem trodAll_head {ts : List TypeId} {vs : List Value} {ds : List (DataW H)} {ps : List MemPlace} (h : DataW.TrodAll enc P W base sp hd (t :: ts) (v :: vs) ds ps) : ∃ d p, DataW.Trod enc P W base sp hd t v d p := by
  cases ds with
  | nil => exact h.elim
  | cons d ds => obtain ⟨p, q, h1, -, -⟩ := h; exact ⟨d, p, h1⟩
theorem trodAll_tail {ts : List TypeId} {vs : List Value} {ds : List (DataW H)} {ps : List MemPlace} (h : DataW.TrodAll enc P W base sp hd (t :: ts) (v :: vs) ds ps) : ∃ ds' ps', DataW.TrodAll enc P W base sp hd ts vs ds' ps' := by
  cases ds with
  | nil => exact h.elim
  | cons d ds => obtain ⟨p, q, -, h2, -⟩ := h; exact ⟨ds, q, h2⟩
theorem okWide_slice {r : Reach} (ht : P.underlying t = some (.slice e)) (h : Value.okWide P W r base t v) : ∀ cs, v ≠ .agg cs := by
  intro cs hcs
  subst hcs
  simp [Value.okWide, ht, Cell.okWide, Cell.ok] at h
theorem lit_fits (z : Int) (h : (Lit.int .i64 z).wf = true) : fits z := by
  simp [Lit.wf, IntKind.min, IntKind.max, IntKind.signed, IntKind.bits] at h
  exact ⟨by omega, by omega⟩
end
section
variable {H : Type} {enc : TypeId × Value → H} {W : World} {base : Nat} {sp : Nat → Bool} {hd : Bool} {v : Value}
/-- the cells of a struct, one after the other, by the places where its fields lie -/
theorem field_at {e : TypeId} {fs : Array Field} {fuel : Nat} {cs : List Value} {x : DataW H × List MemPlace} (he : Try.prog.underlying e = some (.struct fs)) (h : DataW.trod enc Try.prog W base sp hd fuel e cs = some x) (i : Nat) (f : Field) (hi : fs[i]? = some f) :
    ∃ n y, DataW.trod enc Try.prog W base sp hd n f.type ((cs.drop f.offset).take (Try.prog.cellsOf f.type)) = some y := by
  obtain ⟨xs, n, rfl, -, hl, hxl, hf'⟩ := DataW.trod_struct he h
  have hlt : i < fs.size := (Array.getElem?_eq_some_iff.1 hi).1
  have h4 := hf' i f hi
  rw [List.getElem?_eq_getElem (by omega : i < xs.length)] at h4
  exact ⟨n, _, h4⟩
theorem one_cell {cs : List Value} {k : Nat} {c : Value} (h : (cs.drop k).take 1 = [c]) : cs[k]? = some c := by
  have : ((cs.drop k).take 1)[0]? = some c := by rw [h]; rfl
  rw [List.getElem?_take, if_pos (by omega), List.getElem?_drop] at this
  exact this
theorem lbFields : ∃ fs : Array Field, Try.prog.underlying 39 = some (.struct fs) ∧ Try.prog.cellsOf 39 = 6 ∧ ∃ f0 f1 f2 f3 f4, fs[0]? = some f0 ∧ fs[1]? = some f1 ∧ fs[2]? = some f2 ∧ fs[3]? = some f3 ∧ fs[4]? = some f4 ∧
    (f0.type = 3 ∧ f0.offset = 0) ∧ (f1.type = 37 ∧ f1.offset = 1) ∧ (f2.type = 3 ∧ f2.offset = 3) ∧ (f3.type = 9 ∧ f3.offset = 4) ∧ (f4.type = 3 ∧ f4.offset = 5) := by
  refine ⟨_, Try.underlying39, by kernel_rfl, _, _, _, _, _, rfl, rfl, rfl, rfl, rfl, ⟨rfl, rfl⟩, ⟨rfl, rfl⟩, ⟨rfl, rfl⟩, ⟨rfl, rfl⟩, ⟨rfl, rfl⟩⟩
theorem ptFields : ∃ fs : Array Field, Try.prog.underlying 37 = some (.struct fs) ∧ Try.prog.cellsOf 37 = 2 ∧ ∃ f0 f1, fs[0]? = some f0 ∧ fs[1]? = some f1 ∧ (f0.type = 3 ∧ f0.offset = 0) ∧ (f1.type = 3 ∧ f1.offset = 1) := by
  refine ⟨_, Try.underlying37, by kernel_rfl, _, _, rfl, rfl, ⟨rfl, rfl⟩, ⟨rfl, rfl⟩⟩
/-- what a label that came in holds -/
structure LbIn (l : Lb) : Prop where
  id : fits l.id
  x : fits l.x
  y : fits l.y
  r : fits l.r
  u : fits l.unt
set_option maxRecDepth 100000 in
theorem label_cells {fuel : Nat} {cs : List Value} {x : DataW H × List MemPlace} (h : DataW.trod enc Try.prog W base sp hd fuel 39 cs = some x) : ∃ y : Lb, (∀ k, k < 6 → cs[k]? = (lbE.enc y)[k]?) ∧ LbIn y := by
  obtain ⟨fs, he, hn, f0, f1, f2, f3, f4, g0, g1, g2, g3, g4, ⟨t0, o0⟩, ⟨t1, o1⟩, ⟨t2, o2⟩, ⟨t3, o3⟩, ⟨t4, o4⟩⟩ := lbFields
  have hc3 : Try.prog.cellsOf 3 = 1 := by kernel_rfl
  have hcs : Try.prog.cellsOf 9 = 1 := by kernel_rfl
  obtain ⟨n0, y0, e0⟩ := field_at he h 0 f0 g0
  obtain ⟨n1, y1, e1⟩ := field_at he h 1 f1 g1
  obtain ⟨n2, y2, e2⟩ := field_at he h 2 f2 g2
  obtain ⟨n3, y3, e3⟩ := field_at he h 3 f3 g3
  obtain ⟨n4, y4, e4⟩ := field_at he h 4 f4 g4
  rw [t0, o0, hc3] at e0
  rw [t1, o1] at e1
  rw [t2, o2, hc3] at e2
  rw [t3, o3, hcs] at e3
  rw [t4, o4, hc3] at e4
  obtain ⟨pf, pe, pn, p0, p1, q0, q1, ⟨pt0, po0⟩, ⟨pt1, po1⟩⟩ := ptFields
  obtain ⟨m0, z0, d0⟩ := field_at pe e1 0 p0 q0
  obtain ⟨m1, z1, d1⟩ := field_at pe e1 1 p1 q1
  rw [pt0, po0, hc3, pn] at d0
  rw [pt1, po1, hc3, pn] at d1
  obtain ⟨id, r0, -, w0⟩ := DataW.trod_int Try.underlying3 e0
  obtain ⟨x, r1, -, w1⟩ := DataW.trod_int Try.underlying3 d0
  obtain ⟨y, r2, -, w2⟩ := DataW.trod_int Try.underlying3 d1
  obtain ⟨r, r3, -, w3⟩ := DataW.trod_int Try.underlying3 e2
  obtain ⟨s, r4, -, -⟩ := DataW.trod_string Try.underlying9 e3
  obtain ⟨u, r5, -, w5⟩ := DataW.trod_int Try.underlying3 e4
  have k0 := one_cell r0
  have k1' := one_cell r1
  have k2' := one_cell r2
  have k3 := one_cell r3
  have k4 := one_cell r4
  have k5 := one_cell r5
  have k1 : cs[1]? = some (.int .i64 x) := by simpa [List.getElem?_take] using k1'
  have k2 : cs[2]? = some (.int .i64 y) := by simpa [List.getElem?_take] using k2'
  refine ⟨⟨id, x, y, r, s, u⟩, fun k hk => ?_, lit_fits _ w0, lit_fits _ w1, lit_fits _ w2, lit_fits _ w3, lit_fits _ w5⟩
  match k, hk with
  | 0, _ => exact k0
  | 1, _ => exact k1
  | 2, _ => exact k2
  | 3, _ => exact k3
  | 4, _ => exact k4
  | 5, _ => exact k5
/-- a slice of labels that came in: its first 8 -/
theorem labels_arg {v : Value} (hv : ∀ cs, v ≠ .agg cs) (h : ∃ d p, DataW.Trod enc Try.prog W base sp hd 33 v d p) :
    ∃ a n cap, ∃ l : List Lb, v = .slice a n cap ∧ Lst lbE W.heap.size W (.slice a l.length cap) l ∧ l.length = min n 8 ∧ ∀ y ∈ l, LbIn y := by
  obtain ⟨d, p, fuel, h⟩ := h
  have hcs : v.cells.toList = [v] := by cases v <;> first | rfl | exact absurd rfl (hv _)
  rw [hcs] at h
  obtain ⟨-, -, hn6, -⟩ := lbFields
  rcases Go.Deep.open_slice Try.underlying33 h with ⟨h1, -⟩ | ⟨a, len, cap, m, n, D, Pl, h1, -, h2, -, h3, -, h4⟩
  · obtain rfl : v = .slice none 0 0 := by simpa using h1
    exact ⟨none, 0, 0, [], rfl, Lst.nil _ _ _, rfl, by simp⟩
  · obtain rfl : v = .slice (some a) len cap := by simpa using h1
    have hm : len ≤ m := by rw [h3]; split <;> omega
    have each : ∀ i, i < min len 8 → ∃ y : Lb, (∀ k, k < 6 → W.cell? ((a.add (i * 6)).add k) = (lbE.enc y)[k]?) ∧ LbIn y := by
      intro i hi
      obtain ⟨cs', h5, h6⟩ := h4 i (by omega)
      rw [hn6] at h5
      obtain ⟨-, -, h7⟩ := World.cells?_some h5
      obtain ⟨y, h8, h9⟩ := label_cells h6
      exact ⟨y, fun k hk => (h7 k (by omega)).trans (h8 k hk), h9⟩
    have inh : Inhabited Lb := ⟨⟨0, 0, 0, 0, ⟨#[]⟩, 0⟩⟩
    obtain ⟨f, hfd⟩ := Go.Deep.choose_lt each
    refine ⟨some a, len, cap, (List.range (min len 8)).map f, rfl, ⟨some a, cap, rfl, by simp; omega, by simp; omega, fun j hj => ?_⟩, by simp, fun y hy => ?_⟩
    · have hj' : j < min len 8 := by simpa using hj
      obtain ⟨hc, -⟩ := hfd j hj'
      have hspot : a.spot = none := by
        have d0 := (hfd 0 (by omega)).1 0 (by omega)
        simpa [Addr.add] using World.cell?_spot d0
      obtain ⟨b, off, spot⟩ := a
      simp only at hspot
      subst hspot
      simp only [Go.WideShapes.add_plain] at hc
      have hg : ((List.range (min len 8)).map f)[j] = f j := by simp
      rw [hg]
      exact ⟨b, off, rfl, World.block_lt_of_cell? _ _ ((hc 0 (by omega)).trans (by rfl : _ = some _)), hc⟩
    · obtain ⟨j, hj, rfl⟩ := List.mem_map.1 hy
      exact (hfd j (List.mem_range.1 hj)).2
end
end Go.Proofs.Ytikojanpbbiaiaa
