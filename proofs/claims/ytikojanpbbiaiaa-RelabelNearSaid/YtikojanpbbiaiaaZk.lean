/-
  Chapter 24: slices.DeleteFunc of places without a name: what it needs.
  Chapter 24: slices.DeleteFunc of places without a name, walked.
  Chapter 24: slices.DeleteFunc of places without a name, walked.
-/
import Derived.Test.YtikojanpbbiaiaaZj
import Derived.Lib.SliceRun
namespace Go.Proofs.Ytikojanpbbiaiaa
set_option linter.unusedVariables false
set_option linter.unusedSimpArgs false
open Go.RowKit Go.Shelf Go.Lib Go.Sort
attribute [local go_sem] Oper.semAt_some
attribute [local go_sem ↓] Go.wp_at_zero Go.wp_at_succ

theorem setMany_one {α : Type} [Inhabited α] (enc : α → List Value) (k : Nat) (hk : ∀ x, (enc x).length = k) (d : Array α) (i : Nat) (hi : i < d.size) (x : α) :
    setMany (flatK enc k d) (i * k) (enc x) = flatK enc k (d.setIfInBounds i x) := by
  refine ext_get! (by simp) fun t ht => ?_
  have ht' : t < d.size * k := by simpa using ht
  have k0 : 0 < k := by
    rcases Nat.eq_zero_or_pos k with h | h
    · subst h; simp at ht'
    · exact h
  have hq : t / k < d.size := (Nat.div_lt_iff_lt_mul k0).2 ht'
  rw [get_setMany _ _ _ t (by simpa using ht'), get_flatK _ _ _ t ht', get_flatK _ _ _ t (by simpa using ht'), hk]
  by_cases a : t / k = i
  · rw [if_pos ((blk_iff k i t k0).2 a), show t - i * k = t % k from by subst a; rw [Nat.mod_eq_sub_div_mul], ← a, getElem!_set_same d (t / k) x hq]
  · rw [if_neg (fun h => a ((blk_iff k i t k0).1 h))]
    have : (d.setIfInBounds i x)[t / k]! = d[t / k]! := by
      rw [getElem!_pos _ (t / k) (by simpa using hq), getElem!_pos d (t / k) hq, Array.getElem_setIfInBounds, if_neg (fun e => a e.symm)]
    rw [this]
theorem SoW.store {w : World} {blk off N n i : Nat} {d : Array Pc} {W : World} (h : SoW w blk off N n d W) (hi : i < n) (x : Pc) : SoW w blk off N n (d.setIfInBounds i x) (W.setCells blk (off + i * 7) (plE.enc x)) := by
  refine ⟨?_, RowB.setCells _ _ _ h.rb, grown_trans h.gr (grown_setCells _ _ _ _), by simpa using h.sz⟩
  have h1 := holds_setCells_c h.row (i * 7) (plE.enc x) (by rw [size_flatK, h.sz]; show i * 7 + 7 ≤ n * 7; omega)
  unfold RowP HoldsK
  rw [← setMany_one plE.enc 7 (fun _ => rfl) d i (by rw [h.sz]; exact hi) x]
  exact h1
theorem store_out (W : World) (blk o : Nat) (i x y w d : Int) (c n : ByteArray) :
    W.setCells blk o (plE.enc ⟨i, x, y, c, n, w, d⟩) = (((((((W.setCell ⟨blk, o, none⟩ (.int .i64 i)).setCell ⟨blk, o + 1, none⟩ (.int .i64 x)).setCell ⟨blk, o + 2, none⟩ (.int .i64 y)).setCell ⟨blk, o + 3, none⟩ (.string c)).setCell ⟨blk, o + 4, none⟩ (.string n)).setCell ⟨blk, o + 5, none⟩ (.int .i64 w)).setCell ⟨blk, o + 6, none⟩ (.int .i64 d)) := by
  simp only [World.setCells, Nat.add_assoc, Nat.reduceAdd]
/-- clear, of places -/
theorem run_clear_pl (w : World) (b o n c : Nat) (ty : TypeId) (hn : 0 < n) (hc : ∀ j, j < n * 7 → (w.cell? ⟨b, o + j, none⟩).isSome = true) (hf : ∀ j, j < n * 7 → w.frozen? ⟨b, o + j, none⟩ = false) :
    ∃ vs, vs.length = n * 7 ∧ (Builtin.clear_ #[27] ty #[.slice (some ⟨b, o, none⟩) n c]).run Try.prog w = .ok (.tuple #[]) (w.setCells b o vs) := by
  obtain ⟨zs, hzs⟩ : ∃ zs, (Builtin.zeroCells (Value.agg #[.int .i64 0, .int .i64 0, .int .i64 0, .string ⟨#[]⟩, .string ⟨#[]⟩, .int .i64 0, .int .i64 0]).cells n).toList = zs := ⟨_, rfl⟩
  have hlen : zs.length = n * 7 := by rw [← hzs, Array.length_toList, size_zeroCells]; rfl
  have h1 : ∀ v ∈ zs, v.oneCell' = true := by
    intro v hv
    rw [← hzs] at hv
    simp only [Builtin.zeroCells, Array.toList_map, List.mem_map] at hv
    obtain ⟨i, -, rfl⟩ := hv
    have : i % 7 < 7 := Nat.mod_lt _ (by decide)
    show Value.oneCell' ((#[Value.int .i64 0, .int .i64 0, .int .i64 0, .string ⟨#[]⟩, .string ⟨#[]⟩, .int .i64 0, .int .i64 0] : Array Value)[i % 7]!) = true
    obtain ⟨k, hk⟩ : ∃ k, i % 7 = k := ⟨_, rfl⟩
    rw [hk] at this ⊢
    match k, this with
    | 0, _ => rfl
    | 1, _ => rfl
    | 2, _ => rfl
    | 3, _ => rfl
    | 4, _ => rfl
    | 5, _ => rfl
    | 6, _ => rfl
  have hst := run_storeCells_cells (P := Try.prog) b o zs 0 w (by simpa [hlen] using hc) (by simpa [hlen] using hf) h1
  simp only [Nat.add_zero] at hst
  obtain ⟨m, rfl⟩ : ∃ m, n = m + 1 := ⟨n - 1, by omega⟩
  refine ⟨zs, hlen, ?_⟩
  have hu := run_underlying (P := Try.prog) Try.underlying27
  simp only [Builtin.clear_]
  simp [hu, Try.zeroValue41, hzs, hst]
/-- the first place without a name, or -1 -/
def noIdx (l : List Pc) : Int := idxBy (fun _ y => noName y) l default
theorem idxFrom_spec (p : Pc → Bool) : ∀ (l : List Pc) (k : Nat), (idxByFrom (fun _ y => p y) default l k = -1 ∧ ∀ x ∈ l, p x = false) ∨ ∃ i : Nat, idxByFrom (fun _ y => p y) default l k = ((k + i : Nat) : Int) ∧ i < l.length ∧ (∀ x ∈ l.take i, p x = false) ∧ ∃ x, l[i]? = some x ∧ p x = true
  | [], k => .inl ⟨rfl, by simp⟩
  | y :: l, k => by
    unfold idxByFrom
    by_cases h : p y = true
    · rw [if_pos h]
      exact .inr ⟨0, by simp, by simp, by simp, y, rfl, h⟩
    · rw [if_neg h]
      rcases idxFrom_spec p l (k + 1) with ⟨h1, h2⟩ | ⟨i, h1, h2, h3, x, h4, h5⟩
      · exact .inl ⟨h1, fun x hx => by
          rcases List.mem_cons.1 hx with rfl | hx
          · simpa using h
          · exact h2 x hx⟩
      · refine .inr ⟨i + 1, by rw [h1]; congr 1; omega, by simp; omega, fun x hx => ?_, x, by simpa using h4, h5⟩
        rw [List.take_succ_cons] at hx
        rcases List.mem_cons.1 hx with rfl | hx
        · simpa using h
        · exact h3 x hx
theorem noIdx_spec (l : List Pc) : (noIdx l = -1 ∧ l.filter (fun x => !noName x) = l) ∨ ∃ i : Nat, noIdx l = (i : Int) ∧ i < l.length ∧ (l.take (i + 1)).filter (fun x => !noName x) = l.take i := by
  rcases idxFrom_spec noName l 0 with ⟨h1, h2⟩ | ⟨i, h1, h2, h3, x, h4, h5⟩
  · exact .inl ⟨h1, List.filter_eq_self.2 fun x hx => by rw [h2 x hx]; rfl⟩
  · refine .inr ⟨i, by unfold noIdx idxBy; simpa using h1, h2, ?_⟩
    rw [List.take_add_one, h4, List.filter_append]
    simp only [Option.toList_some, List.filter_cons, h5, Bool.not_true, Bool.false_eq_true, if_false, List.filter_nil, List.append_nil]
    exact List.filter_eq_self.2 fun x hx => by rw [h3 x hx]; rfl
/-- what DeleteFunc's rounds hold: the first i are those kept of the first j, behind j all is as it was -/
structure DeW (w : World) (blk N : Nat) (l : List Pc) (i j : Nat) (W : World) : Prop where
  ex : ∃ d : Array Pc, SoW w blk 0 N l.length d W ∧ d.toList.take i = (l.take j).filter (fun x => !noName x) ∧ d.toList.drop j = l.drop j
  ij : i < j
  jn : j ≤ l.length
theorem DeW.below {w : World} {blk N i j : Nat} {l : List Pc} {W W' : World} (h : DeW w blk N l i j W) (hb : Below W.heap.size W W') : DeW w blk N l i j W' := by
  obtain ⟨⟨d, h1, h2, h3⟩, h4, h5⟩ := h
  exact ⟨⟨d, h1.below hb, h2, h3⟩, h4, h5⟩
theorem DeW.at_ {w : World} {blk N i j : Nat} {l : List Pc} {W : World} (h : DeW w blk N l i j W) (hj : j < l.length) {x : Pc} (hx : l[j]? = some x) : PlC W blk (0 + j * 7) x := by
  obtain ⟨⟨d, h1, h2, h3⟩, h4, h5⟩ := h
  have h6 : d.toList[j]? = l[j]? := by
    have := congrArg (fun l => l[0]?) h3
    simpa using this
  rw [hx] at h6
  have hjd : j < d.size := by rw [h1.sz]; exact hj
  have h7 := h1.row.pc hjd
  have h8 : d[j]! = x := by
    rw [getElem!_pos d j hjd]
    simpa [hjd] using h6
  rw [h8] at h7
  exact h7
theorem DeW.fr {w : World} {blk N i j : Nat} {l : List Pc} {W : World} (h : DeW w blk N l i j W) {k : Nat} (hk : k < l.length) : PlF W blk (0 + k * 7) := by
  obtain ⟨⟨d, h1, h2, h3⟩, h4, h5⟩ := h
  exact h1.row.pf (by rw [h1.sz]; exact hk)
theorem DeW.cell {w : World} {blk N i j : Nat} {l : List Pc} {W : World} (h : DeW w blk N l i j W) : (∀ t, t < l.length * 7 → (W.cell? ⟨blk, t, none⟩).isSome = true) ∧ ∀ t, t < l.length * 7 → W.frozen? ⟨blk, t, none⟩ = false := by
  obtain ⟨⟨d, h1, h2, h3⟩, h4, h5⟩ := h
  have hh := fun t (ht : t < l.length * 7) => h1.row t (by rw [size_flatK, h1.sz]; exact ht)
  simp only [Nat.zero_add] at hh
  exact ⟨fun t ht => by rw [(hh t ht).1]; rfl, fun t ht => (hh t ht).2⟩
theorem DeW.lt {w : World} {blk N i j : Nat} {l : List Pc} {W : World} (h : DeW w blk N l i j W) : blk < W.heap.size := by
  obtain ⟨⟨d, h1, h2, h3⟩, h4, h5⟩ := h
  exact h1.rb.lt
theorem DeW.skip {w : World} {blk N i j : Nat} {l : List Pc} {W : World} (h : DeW w blk N l i j W) (hj : j < l.length) {x : Pc} (hx : l[j]? = some x) (hn : noName x = true) : DeW w blk N l i (j + 1) W := by
  obtain ⟨⟨d, h1, h2, h3⟩, h4, h5⟩ := h
  refine ⟨⟨d, h1, ?_, ?_⟩, by omega, hj⟩
  · rw [h2, List.take_add_one, hx, List.filter_append]
    simp [hn]
  · have := congrArg (fun l => l.drop 1) h3
    simpa [List.drop_drop, Nat.add_comm] using this
theorem DeW.keep {w : World} {blk N i j : Nat} {l : List Pc} {W : World} (h : DeW w blk N l i j W) (hj : j < l.length) {x : Pc} (hx : l[j]? = some x) (hn : noName x = false) : DeW w blk N l (i + 1) (j + 1) (W.setCells blk (0 + i * 7) (plE.enc x)) := by
  obtain ⟨⟨d, h1, h2, h3⟩, h4, h5⟩ := h
  have hid : i < d.size := by rw [h1.sz]; omega
  refine ⟨⟨d.setIfInBounds i x, h1.store (by omega) x, ?_, ?_⟩, by omega, hj⟩
  · have e1 : (d.setIfInBounds i x).toList = d.toList.set i x := by simp
    rw [e1, List.take_set, List.take_add_one, List.getElem?_eq_getElem (by simpa using hid)]
    have hl : (d.toList.take i).length = i := by simp; omega
    rw [List.set_append_right _ _ (by omega), hl, Nat.sub_self]
    simp only [Option.toList_some, List.set_cons_zero]
    rw [h2, List.take_add_one (l := l), hx, List.filter_append]
    simp [hn]
  · have e1 : (d.setIfInBounds i x).toList = d.toList.set i x := by simp
    rw [e1, List.drop_set_of_lt (by omega)]
    have := congrArg (fun l => l.drop 1) h3
    simpa [List.drop_drop, Nat.add_comm] using this
theorem DeW.done {w : World} {base g cap i : Nat} {l : List Pc} {W : World} (h : DeW w g (cap * 7) l i l.length W) (hb : base ≤ g) (hc : l.length ≤ cap) (hm : cap ≤ maxLen) (vs : List Value) (hv : vs.length = (l.length - i) * 7) :
    i = (l.filter (fun x => !noName x)).length ∧ (W.setCells g (0 + i * 7) vs).ownsRow base 41 7 (.slice (some ⟨g, 0, none⟩) i cap) (l.filter (fun x => !noName x)).length ((l.filter (fun x => !noName x)).flatMap plE.enc) ∧ w.grownBy (W.setCells g (0 + i * 7) vs) (some g) := by
  obtain ⟨⟨d, h1, h2, h3⟩, h4, h5⟩ := h
  rw [List.take_length] at h2
  have hi : i = (l.filter (fun x => !noName x)).length := by
    rw [← h2]
    have := h1.sz
    simp
    omega
  refine ⟨hi, ?_, grown_trans h1.gr (grown_setCells _ _ _ _)⟩
  have hrow := row_of_sow h1 hb hc hm
  obtain ⟨cur, hk, hs⟩ := RowB.setCells vs (0 + i * 7) W h1.rb
  refine ⟨flat_length plOk _, .inr ⟨g, cap, cur, by rw [← hi], hb, hk, by omega, hm, hs, ?_⟩⟩
  refine List.ext_getElem? fun t => ?_
  have hf := flat_length plOk (l.filter (fun x => !noName x))
  rw [show plE.s = 7 from rfl] at hf
  by_cases ht : t < (l.filter (fun x => !noName x)).length * 7
  · rw [List.getElem?_take_of_lt ht]
    have c1 := hk.cell t
    rw [World.cell?_setCells_out g vs (0 + i * 7) W ⟨g, t, none⟩ (fun _ _ => .inl (by show t < 0 + i * 7; omega))] at c1
    have c2 := (h1.row t (by rw [size_flatK, h1.sz]; omega)).1
    rw [Nat.zero_add, c1] at c2
    have c3 := flatK_at d t (by rw [h1.sz]; omega)
    have c4 : (d.toList.flatMap plE.enc)[t]? = ((l.filter (fun x => !noName x)).flatMap plE.enc)[t]? := by
      rw [← h2, show d.toList.flatMap plE.enc = (d.toList.take i).flatMap plE.enc ++ (d.toList.drop i).flatMap plE.enc from by rw [← List.flatMap_append, List.take_append_drop]]
      refine List.getElem?_append_left ?_
      rw [h2, hf]
      exact ht
    rw [← c4, c3]
    simpa using c2
  · rw [List.getElem?_eq_none (by simp; omega), List.getElem?_eq_none (by omega)]
end Go.Proofs.Ytikojanpbbiaiaa
namespace Go.Proofs.Ytikojanpbbiaiaa
set_option linter.unusedVariables false
set_option linter.unusedSimpArgs false
open Go.RowKit Go.Shelf Go.Lib Go.Sort
attribute [local go_sem] Oper.semAt_some
attribute [local go_sem ↓] Go.wp_at_zero Go.wp_at_succ

theorem noIdxS_any (b cap : Nat) (l : List Pc) (w : World) (h : Lst plE w.heap.size w (.slice (some ⟨b, 0, none⟩) l.length cap) l) (hb : b < w.heap.size) :
    Calls Try.prog 84 #[.slice (some ⟨b, 0, none⟩) l.length cap, .func (.func 56) #[] #[]] w fun e w' => e = .returned (.int .i64 (noIdx l)) ∧ Below w.heap.size w w' := by
  have hlen := h.len
  refine (AnyQ.slices_IndexFunc Try.indexFuncPl 7 Try.isAgg41 Try.sizeOf41 plE.enc (fun _ => rfl) noName 56 #[] (enters_of Try.func56 (by kernel_rfl) rfl) b 0 l.length cap l w (fun W x hW => (noNameS_any x W).mono fun e w' ⟨he, hw⟩ => ⟨he, hW.trans (hw.mono hW.size)⟩) (Nat.le_refl _) (by omega) hb ?_).mono ?_
  · intro j hj i v hv
    obtain ⟨b', off', cap', e, -, -, hc⟩ := h.some_ (by omega)
    simp only [Value.slice.injEq, Option.some.injEq, Addr.mk.injEq] at e
    obtain ⟨⟨rfl, rfl, -⟩, -, -⟩ := e
    have hi := (List.getElem?_eq_some_iff.1 hv).1
    rw [getElem!_pos l j hj] at hv
    rw [← hv]
    exact hc j hj i hi
  · rintro e w' ⟨rfl, hb⟩
    rw [List.take_length]
    exact ⟨rfl, hb⟩
set_option maxRecDepth 100000 in
set_option maxHeartbeats 4000000 in
theorem deleteS_any (base : Nat) (v : Value) (l : List Pc) (w : World) (hl : l.length ≤ 1000) (hrow : w.ownsRow base 41 7 v l.length (l.flatMap plE.enc)) :
    Calls Try.prog 54 #[v, .func (.func 56) #[] #[]] w fun e w' => ∃ u, e = .returned u ∧ w'.ownsRow base 41 7 u (l.filter (fun x => !noName x)).length ((l.filter (fun x => !noName x)).flatMap plE.enc) ∧ w.grownBy w' v.ownBlock ∧ (u.ownBlock = v.ownBlock) := by
  rcases hrow.2 with ⟨rfl, h0⟩ | ⟨g, cap, cur, rfl, hb, hg, h1, h2, h3, h4⟩
  · obtain rfl := List.eq_nil_of_length_eq_zero h0
    have hr2 := Lib.hid hrow
    have c0 : Calls Try.prog 84 #[.slice none 0 0, .func (.func 56) #[] #[]] w fun e w' => e = .returned (.int .i64 (-1)) ∧ w = w' := by
      clear hrow h0 hr2
      go_enter Try.func84, Try.ntmps84
      go_wp2_with fail
      refine wp_loop_rounds 1 ?_
      rw [rounds_succ]
      go_wp2_with fail
      go_ret
      exact ⟨rfl, rfl⟩
    clear hrow h0
    go_enter Try.func54, Try.ntmps54
    go_wp2_with (go_at_call 84; refine c0.mono ?_; rintro e w1 ⟨rfl, rfl⟩)
    go_ret
    exact ⟨_, rfl, hr2.out, ⟨rfl, rfl, rfl, Nat.le_refl _, fun _ _ _ => rfl⟩, rfl⟩
  · obtain ⟨hS, hbg⟩ := sow_of_row hrow
    have hgl : g < w.heap.size := hS.rb.lt
    have c1 := noIdxS_any g cap l w (lst_of_row plOk hrow (by omega)) hgl
    rcases noIdx_spec l with ⟨hi, hfl⟩ | ⟨i, hi, hil, hft⟩
    · rw [hi] at c1
      rw [hfl]
      have hr2 := Lib.hid hrow
      clear hS hrow hg hfl hi h3 h4
      go_enter Try.func54, Try.ntmps54
      go_wp2_with (go_at_call 84; refine c1.mono ?_; rintro e w1 ⟨rfl, hb1⟩)
      go_ret
      exact ⟨_, rfl, ownsRow_up hr2.out hb1, ⟨hb1.os, hb1.tape, hb1.output, hb1.size, fun k hk _ => hb1.block k hk⟩, rfl⟩
    · rw [hi] at c1
      have hiI : ((i : Int) == -1) = false := by simp
      have hD0 : DeW w g (cap * 7) l i (i + 1) w := ⟨⟨l.toArray, hS, by simpa using hft.symm, by simp⟩, by omega, by omega⟩
      replace hD0 := Lib.hid hD0
      clear hS hrow hg h3 h4 hft hi
      have mixed : Try.prog.follows .mixedOrders = true := by kernel_rfl
      go_enter Try.func54, Try.ntmps54
      go_wp2_with (go_at_call 84; refine c1.mono ?_; rintro e w1 ⟨rfl, hb1⟩)
      have hD1 := Lib.hid (hD0.out.below hb1)
      clear hD0 hb1 c1
      go_loopw [5, 6] (fun vi vj wr => ∃ i j : Nat, vi = .int .i64 (i : Nat) ∧ vj = .int .i64 (j : Nat) ∧ Hid (DeW w g (cap * 7) l i j wr)) (fun _ vj _ => l.length - (intOf vj).toNat)
      case atStart => exact ⟨i, i + 1, rfl, by go_num, hD1⟩
      case round =>
        clear hD1 hil hiI
        obtain ⟨i, j, rfl, rfl, HD⟩ := hrel
        have hij := HD.out.ij
        have hjn := HD.out.jn
        by_cases hlt : j < l.length
        · have hltI : (j : Int) < (l.length : Int) := by omega
          have hiI2 : (i : Int) < (l.length : Int) := by omega
          obtain ⟨x, hx⟩ : ∃ x, l[j]? = some x := ⟨_, List.getElem?_eq_getElem hlt⟩
          obtain ⟨a0, a1, a2, a3, a4, a5, a6⟩ := HD.out.at_ hlt hx
          obtain ⟨q, hq⟩ : ∃ q, noName x = q := ⟨_, rfl⟩
          have hcl : ∀ W, Calls Try.prog 56 #[plV x] W fun e w' => e = .returned (.bool q) ∧ Below W.heap.size W w' := fun W => by rw [← hq]; exact noNameS_any x W
          have HX : Hid (l[j]? = some x ∧ noName x = q) := ⟨hx, hq⟩
          clear hx hq
          obtain ⟨i1, x1, y1, cl1, n1, wt1, d1⟩ := x
          simp only [Nat.zero_add] at a0 a1 a2 a3 a4 a5 a6
          go_upto_region 8 with fail
          have kX := Blk.new wr #[.int .i64 i1, .int .i64 x1, .int .i64 y1, .string cl1, .string n1, .int .i64 wt1, .int .i64 d1] 41
          have hDX := HD.out.below (show Below wr.heap.size wr (wr.alloc (.cells #[.int .i64 i1, .int .i64 x1, .int .i64 y1, .string cl1, .string n1, .int .i64 wt1, .int .i64 d1] 41)) from (Below.refl _ _).alloc (Nat.le_refl _) _)
          have hgx := HD.out.lt
          obtain ⟨BX, hBX⟩ : ∃ b, wr.heap.size = b := ⟨_, rfl⟩
          obtain ⟨W1, hW1⟩ : ∃ W, wr.alloc (.cells #[.int .i64 i1, .int .i64 x1, .int .i64 y1, .string cl1, .string n1, .int .i64 wt1, .int .i64 d1] 41) = W := ⟨_, rfl⟩
          rw [hW1] at kX hDX
          rw [hW1]
          rw [hBX] at kX hgx
          rw [hBX]
          clear hW1 hBX HD a0 a1 a2 a3 a4 a5 a6
          replace hDX := Lib.hid hDX
          have x0 : W1.cell? ⟨BX, 0, none⟩ = some (.int .i64 i1) := kX.cell 0
          have x1_ : W1.cell? ⟨BX, 1, none⟩ = some (.int .i64 x1) := kX.cell 1
          have x2 : W1.cell? ⟨BX, 2, none⟩ = some (.int .i64 y1) := kX.cell 2
          have x3 : W1.cell? ⟨BX, 3, none⟩ = some (.string cl1) := kX.cell 3
          have x4 : W1.cell? ⟨BX, 4, none⟩ = some (.string n1) := kX.cell 4
          have x5 : W1.cell? ⟨BX, 5, none⟩ = some (.int .i64 wt1) := kX.cell 5
          have x6 : W1.cell? ⟨BX, 6, none⟩ = some (.int .i64 d1) := kX.cell 6
          cases q
          · go_upto_region 9 with (first | (go_at_call 56; (with_reducible refine (hcl _).mono ?_); rintro e w2 ⟨rfl, hb2⟩; have kX2 := kX.below hb2 kX.lt; have hD2 := Lib.hid (hDX.out.below hb2); clear hb2 x0 x1_ x2 x3 x4 x5 x6) | fail)
            have x0 : w2.cell? ⟨BX, 0, none⟩ = some (.int .i64 i1) := kX2.cell 0
            have x1_ : w2.cell? ⟨BX, 1, none⟩ = some (.int .i64 x1) := kX2.cell 1
            have x2 : w2.cell? ⟨BX, 2, none⟩ = some (.int .i64 y1) := kX2.cell 2
            have x3 : w2.cell? ⟨BX, 3, none⟩ = some (.string cl1) := kX2.cell 3
            have x4 : w2.cell? ⟨BX, 4, none⟩ = some (.string n1) := kX2.cell 4
            have x5 : w2.cell? ⟨BX, 5, none⟩ = some (.int .i64 wt1) := kX2.cell 5
            have x6 : w2.cell? ⟨BX, 6, none⟩ = some (.int .i64 d1) := kX2.cell 6
            obtain ⟨f0, f1, f2, f3, f4, f5, f6⟩ := hD2.out.fr (k := i) (by omega)
            obtain ⟨c1, c2⟩ := hD2.out.cell
            have s0 := c1 (i * 7) (by omega)
            have s1 := c1 (i * 7 + 1) (by omega)
            have s2 := c1 (i * 7 + 2) (by omega)
            have s3 := c1 (i * 7 + 3) (by omega)
            have s4 := c1 (i * 7 + 4) (by omega)
            have s5 := c1 (i * 7 + 5) (by omega)
            have s6 := c1 (i * 7 + 6) (by omega)
            have hK := hD2.out.keep hlt HX.out.1 HX.out.2
            rw [store_out] at hK
            simp only [Nat.zero_add] at f0 f1 f2 f3 f4 f5 f6 hK
            obtain ⟨v0, s0⟩ := Option.isSome_iff_exists.1 s0
            obtain ⟨v1, s1⟩ := Option.isSome_iff_exists.1 s1
            obtain ⟨v2, s2⟩ := Option.isSome_iff_exists.1 s2
            obtain ⟨v3, s3⟩ := Option.isSome_iff_exists.1 s3
            obtain ⟨v4, s4⟩ := Option.isSome_iff_exists.1 s4
            obtain ⟨v5, s5⟩ := Option.isSome_iff_exists.1 s5
            obtain ⟨v6, s6⟩ := Option.isSome_iff_exists.1 s6
            have hwi : IntKind.i64.wrap ((i : Int) + 1) = (i : Int) + 1 := wrap_in7 (by omega) (by omega)
            clear c1 c2 hD2 hDX kX kX2 hcl
            replace hK := Lib.hid hK
            go_wp2_with fail
            go_roundw
            case rel => exact ⟨i + 1, j + 1, by go_num, by go_num, hK⟩
            case measure => first | (simp [intOf]; done) | (simp [intOf]; omega)
          · go_wp2_with (first | (go_at_call 56; (with_reducible refine (hcl _).mono ?_); rintro e w2 ⟨rfl, hb2⟩; have hD2 := Lib.hid (hDX.out.below hb2); clear hb2 x0 x1_ x2 x3 x4 x5 x6) | fail)
            go_roundw
            case rel => exact ⟨i, j + 1, by go_num, by go_num, Lib.hid (hD2.out.skip hlt HX.out.1 HX.out.2)⟩
            case measure => first | (simp [intOf]; done) | (simp [intOf]; omega)
        · obtain rfl : j = l.length := by omega
          have hgeI : ¬ (l.length : Int) < (l.length : Int) := by omega
          obtain ⟨c1, c2⟩ := HD.out.cell
          have hiI3 : (i : Int) ≤ (l.length : Int) := by omega
          obtain ⟨vs, hvs, hcr⟩ := run_clear_pl wr g (i * 7) (l.length - i) (cap - i) 0 (by omega) (fun t ht => c1 _ (by omega)) (fun t ht => c2 _ (by omega))
          clear c1 c2
          have hiC : (i : Int) ≤ (cap : Int) := by omega
          have hend := Lib.hid (HD.out.done hb h1 h2 vs hvs)
          go_wp2_with fail
          go_ret
          obtain ⟨-, e2, e3⟩ := hend.out
          rw [Nat.zero_add] at e2 e3
          exact ⟨_, rfl, e2, e3, rfl⟩
end Go.Proofs.Ytikojanpbbiaiaa
namespace Go.Proofs.Ytikojanpbbiaiaa
set_option linter.unusedVariables false
set_option linter.unusedSimpArgs false
open Go.RowKit Go.Shelf Go.Lib Go.Sort
attribute [local go_sem] Oper.semAt_some
attribute [local go_sem ↓] Go.wp_at_zero Go.wp_at_succ

theorem noIdxQ_any (b cap : Nat) (l : List Pc) (w : World) (h : Lst plE w.heap.size w (.slice (some ⟨b, 0, none⟩) l.length cap) l) (hb : b < w.heap.size) :
    Calls Try.prog 84 #[.slice (some ⟨b, 0, none⟩) l.length cap, .func (.func 70) #[] #[]] w fun e w' => e = .returned (.int .i64 (noIdx l)) ∧ Below w.heap.size w w' := by
  have hlen := h.len
  refine (AnyQ.slices_IndexFunc Try.indexFuncPl 7 Try.isAgg41 Try.sizeOf41 plE.enc (fun _ => rfl) noName 70 #[] (enters_of Try.func70 (by kernel_rfl) rfl) b 0 l.length cap l w (fun W x hW => (noNameQ_any x W).mono fun e w' ⟨he, hw⟩ => ⟨he, hW.trans (hw.mono hW.size)⟩) (Nat.le_refl _) (by omega) hb ?_).mono ?_
  · intro j hj i v hv
    obtain ⟨b', off', cap', e, -, -, hc⟩ := h.some_ (by omega)
    simp only [Value.slice.injEq, Option.some.injEq, Addr.mk.injEq] at e
    obtain ⟨⟨rfl, rfl, -⟩, -, -⟩ := e
    have hi := (List.getElem?_eq_some_iff.1 hv).1
    rw [getElem!_pos l j hj] at hv
    rw [← hv]
    exact hc j hj i hi
  · rintro e w' ⟨rfl, hb⟩
    rw [List.take_length]
    exact ⟨rfl, hb⟩
set_option maxRecDepth 100000 in
set_option maxHeartbeats 4000000 in
theorem deleteQ_any (base : Nat) (v : Value) (l : List Pc) (w : World) (hl : l.length ≤ 1000) (hrow : w.ownsRow base 41 7 v l.length (l.flatMap plE.enc)) :
    Calls Try.prog 54 #[v, .func (.func 70) #[] #[]] w fun e w' => ∃ u, e = .returned u ∧ w'.ownsRow base 41 7 u (l.filter (fun x => !noName x)).length ((l.filter (fun x => !noName x)).flatMap plE.enc) ∧ w.grownBy w' v.ownBlock ∧ (u.ownBlock = v.ownBlock) := by
  rcases hrow.2 with ⟨rfl, h0⟩ | ⟨g, cap, cur, rfl, hb, hg, h1, h2, h3, h4⟩
  · obtain rfl := List.eq_nil_of_length_eq_zero h0
    have hr2 := Lib.hid hrow
    have c0 : Calls Try.prog 84 #[.slice none 0 0, .func (.func 70) #[] #[]] w fun e w' => e = .returned (.int .i64 (-1)) ∧ w = w' := by
      clear hrow h0 hr2
      go_enter Try.func84, Try.ntmps84
      go_wp2_with fail
      refine wp_loop_rounds 1 ?_
      rw [rounds_succ]
      go_wp2_with fail
      go_ret
      exact ⟨rfl, rfl⟩
    clear hrow h0
    go_enter Try.func54, Try.ntmps54
    go_wp2_with (go_at_call 84; refine c0.mono ?_; rintro e w1 ⟨rfl, rfl⟩)
    go_ret
    exact ⟨_, rfl, hr2.out, ⟨rfl, rfl, rfl, Nat.le_refl _, fun _ _ _ => rfl⟩, rfl⟩
  · obtain ⟨hS, hbg⟩ := sow_of_row hrow
    have hgl : g < w.heap.size := hS.rb.lt
    have c1 := noIdxQ_any g cap l w (lst_of_row plOk hrow (by omega)) hgl
    rcases noIdx_spec l with ⟨hi, hfl⟩ | ⟨i, hi, hil, hft⟩
    · rw [hi] at c1
      rw [hfl]
      have hr2 := Lib.hid hrow
      clear hS hrow hg hfl hi h3 h4
      go_enter Try.func54, Try.ntmps54
      go_wp2_with (go_at_call 84; refine c1.mono ?_; rintro e w1 ⟨rfl, hb1⟩)
      go_ret
      exact ⟨_, rfl, ownsRow_up hr2.out hb1, ⟨hb1.os, hb1.tape, hb1.output, hb1.size, fun k hk _ => hb1.block k hk⟩, rfl⟩
    · rw [hi] at c1
      have hiI : ((i : Int) == -1) = false := by simp
      have hD0 : DeW w g (cap * 7) l i (i + 1) w := ⟨⟨l.toArray, hS, by simpa using hft.symm, by simp⟩, by omega, by omega⟩
      replace hD0 := Lib.hid hD0
      clear hS hrow hg h3 h4 hft hi
      have mixed : Try.prog.follows .mixedOrders = true := by kernel_rfl
      go_enter Try.func54, Try.ntmps54
      go_wp2_with (go_at_call 84; refine c1.mono ?_; rintro e w1 ⟨rfl, hb1⟩)
      have hD1 := Lib.hid (hD0.out.below hb1)
      clear hD0 hb1 c1
      go_loopw [5, 6] (fun vi vj wr => ∃ i j : Nat, vi = .int .i64 (i : Nat) ∧ vj = .int .i64 (j : Nat) ∧ Hid (DeW w g (cap * 7) l i j wr)) (fun _ vj _ => l.length - (intOf vj).toNat)
      case atStart => exact ⟨i, i + 1, rfl, by go_num, hD1⟩
      case round =>
        clear hD1 hil hiI
        obtain ⟨i, j, rfl, rfl, HD⟩ := hrel
        have hij := HD.out.ij
        have hjn := HD.out.jn
        by_cases hlt : j < l.length
        · have hltI : (j : Int) < (l.length : Int) := by omega
          have hiI2 : (i : Int) < (l.length : Int) := by omega
          obtain ⟨x, hx⟩ : ∃ x, l[j]? = some x := ⟨_, List.getElem?_eq_getElem hlt⟩
          obtain ⟨a0, a1, a2, a3, a4, a5, a6⟩ := HD.out.at_ hlt hx
          obtain ⟨q, hq⟩ : ∃ q, noName x = q := ⟨_, rfl⟩
          have hcl : ∀ W, Calls Try.prog 70 #[plV x] W fun e w' => e = .returned (.bool q) ∧ Below W.heap.size W w' := fun W => by rw [← hq]; exact noNameQ_any x W
          have HX : Hid (l[j]? = some x ∧ noName x = q) := ⟨hx, hq⟩
          clear hx hq
          obtain ⟨i1, x1, y1, cl1, n1, wt1, d1⟩ := x
          simp only [Nat.zero_add] at a0 a1 a2 a3 a4 a5 a6
          go_upto_region 8 with fail
          have kX := Blk.new wr #[.int .i64 i1, .int .i64 x1, .int .i64 y1, .string cl1, .string n1, .int .i64 wt1, .int .i64 d1] 41
          have hDX := HD.out.below (show Below wr.heap.size wr (wr.alloc (.cells #[.int .i64 i1, .int .i64 x1, .int .i64 y1, .string cl1, .string n1, .int .i64 wt1, .int .i64 d1] 41)) from (Below.refl _ _).alloc (Nat.le_refl _) _)
          have hgx := HD.out.lt
          obtain ⟨BX, hBX⟩ : ∃ b, wr.heap.size = b := ⟨_, rfl⟩
          obtain ⟨W1, hW1⟩ : ∃ W, wr.alloc (.cells #[.int .i64 i1, .int .i64 x1, .int .i64 y1, .string cl1, .string n1, .int .i64 wt1, .int .i64 d1] 41) = W := ⟨_, rfl⟩
          rw [hW1] at kX hDX
          rw [hW1]
          rw [hBX] at kX hgx
          rw [hBX]
          clear hW1 hBX HD a0 a1 a2 a3 a4 a5 a6
          replace hDX := Lib.hid hDX
          have x0 : W1.cell? ⟨BX, 0, none⟩ = some (.int .i64 i1) := kX.cell 0
          have x1_ : W1.cell? ⟨BX, 1, none⟩ = some (.int .i64 x1) := kX.cell 1
          have x2 : W1.cell? ⟨BX, 2, none⟩ = some (.int .i64 y1) := kX.cell 2
          have x3 : W1.cell? ⟨BX, 3, none⟩ = some (.string cl1) := kX.cell 3
          have x4 : W1.cell? ⟨BX, 4, none⟩ = some (.string n1) := kX.cell 4
          have x5 : W1.cell? ⟨BX, 5, none⟩ = some (.int .i64 wt1) := kX.cell 5
          have x6 : W1.cell? ⟨BX, 6, none⟩ = some (.int .i64 d1) := kX.cell 6
          cases q
          · go_upto_region 9 with (first | (go_at_call 70; (with_reducible refine (hcl _).mono ?_); rintro e w2 ⟨rfl, hb2⟩; have kX2 := kX.below hb2 kX.lt; have hD2 := Lib.hid (hDX.out.below hb2); clear hb2 x0 x1_ x2 x3 x4 x5 x6) | fail)
            have x0 : w2.cell? ⟨BX, 0, none⟩ = some (.int .i64 i1) := kX2.cell 0
            have x1_ : w2.cell? ⟨BX, 1, none⟩ = some (.int .i64 x1) := kX2.cell 1
            have x2 : w2.cell? ⟨BX, 2, none⟩ = some (.int .i64 y1) := kX2.cell 2
            have x3 : w2.cell? ⟨BX, 3, none⟩ = some (.string cl1) := kX2.cell 3
            have x4 : w2.cell? ⟨BX, 4, none⟩ = some (.string n1) := kX2.cell 4
            have x5 : w2.cell? ⟨BX, 5, none⟩ = some (.int .i64 wt1) := kX2.cell 5
            have x6 : w2.cell? ⟨BX, 6, none⟩ = some (.int .i64 d1) := kX2.cell 6
            obtain ⟨f0, f1, f2, f3, f4, f5, f6⟩ := hD2.out.fr (k := i) (by omega)
            obtain ⟨c1, c2⟩ := hD2.out.cell
            have s0 := c1 (i * 7) (by omega)
            have s1 := c1 (i * 7 + 1) (by omega)
            have s2 := c1 (i * 7 + 2) (by omega)
            have s3 := c1 (i * 7 + 3) (by omega)
            have s4 := c1 (i * 7 + 4) (by omega)
            have s5 := c1 (i * 7 + 5) (by omega)
            have s6 := c1 (i * 7 + 6) (by omega)
            have hK := hD2.out.keep hlt HX.out.1 HX.out.2
            rw [store_out] at hK
            simp only [Nat.zero_add] at f0 f1 f2 f3 f4 f5 f6 hK
            obtain ⟨v0, s0⟩ := Option.isSome_iff_exists.1 s0
            obtain ⟨v1, s1⟩ := Option.isSome_iff_exists.1 s1
            obtain ⟨v2, s2⟩ := Option.isSome_iff_exists.1 s2
            obtain ⟨v3, s3⟩ := Option.isSome_iff_exists.1 s3
            obtain ⟨v4, s4⟩ := Option.isSome_iff_exists.1 s4
            obtain ⟨v5, s5⟩ := Option.isSome_iff_exists.1 s5
            obtain ⟨v6, s6⟩ := Option.isSome_iff_exists.1 s6
            have hwi : IntKind.i64.wrap ((i : Int) + 1) = (i : Int) + 1 := wrap_in7 (by omega) (by omega)
            clear c1 c2 hD2 hDX kX kX2 hcl
            replace hK := Lib.hid hK
            go_wp2_with fail
            go_roundw
            case rel => exact ⟨i + 1, j + 1, by go_num, by go_num, hK⟩
            case measure => first | (simp [intOf]; done) | (simp [intOf]; omega)
          · go_wp2_with (first | (go_at_call 70; (with_reducible refine (hcl _).mono ?_); rintro e w2 ⟨rfl, hb2⟩; have hD2 := Lib.hid (hDX.out.below hb2); clear hb2 x0 x1_ x2 x3 x4 x5 x6) | fail)
            go_roundw
            case rel => exact ⟨i, j + 1, by go_num, by go_num, Lib.hid (hD2.out.skip hlt HX.out.1 HX.out.2)⟩
            case measure => first | (simp [intOf]; done) | (simp [intOf]; omega)
        · obtain rfl : j = l.length := by omega
          have hgeI : ¬ (l.length : Int) < (l.length : Int) := by omega
          obtain ⟨c1, c2⟩ := HD.out.cell
          have hiI3 : (i : Int) ≤ (l.length : Int) := by omega
          obtain ⟨vs, hvs, hcr⟩ := run_clear_pl wr g (i * 7) (l.length - i) (cap - i) 0 (by omega) (fun t ht => c1 _ (by omega)) (fun t ht => c2 _ (by omega))
          clear c1 c2
          have hiC : (i : Int) ≤ (cap : Int) := by omega
          have hend := Lib.hid (HD.out.done hb h1 h2 vs hvs)
          go_wp2_with fail
          go_ret
          obtain ⟨-, e2, e3⟩ := hend.out
          rw [Nat.zero_add] at e2 e3
          exact ⟨_, rfl, e2, e3, rfl⟩
end Go.Proofs.Ytikojanpbbiaiaa
