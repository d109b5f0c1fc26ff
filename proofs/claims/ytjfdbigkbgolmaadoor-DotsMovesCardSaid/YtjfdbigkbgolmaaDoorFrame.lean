/-
  The frame of a law's proof, once for all: a walk that returns true and only makes memory (Below) pays the post of 'for every input: true; each argument reads as it did'.
-/
import Derived.Test.YtjfdbigkbgolmaaDoorTools
import Derived.ProofKit
import Derived.OpenShut
namespace Go
set_option linter.unusedVariables false
set_option linter.unusedSimpArgs false
open Go.RowKit Go.ChangeShapes Go.WideShapes Go.ChangeAt

section
variable {H : Type} {enc : TypeId × Value → H} {P : Program}

theorem trodAll_below (hl : laidOutB P = true) {W W' : World} (hb : Below W.heap.size W W') : ∀ {ts : List TypeId} {vs : List Value} {ds : List (DataW H)} {ps : List MemPlace},
    (ts.all fun t => P.readableRec t && decide (t < P.types.size)) = true → (∀ x ∈ ps, x.block < W.heap.size) →
    DataW.TrodAll enc P W 0 (fun _ => true) true ts vs ds ps → DataW.TrodAll enc P W' 0 (fun b => decide (b < W.heap.size)) true ts vs ds ps
  | [], [], [], _, _, _, h => h
  | [], _ :: _, _, _, _, _, h => h.elim
  | [], [], _ :: _, _, _, _, h => h.elim
  | _ :: _, [], _, _, _, _, h => h.elim
  | _ :: _, _ :: _, [], _, _, _, h => h.elim
  | t :: ts, v :: vs, d :: ds, ps, hr, hlt, h => by
    obtain ⟨p, q, h1, h2, rfl⟩ := h
    simp only [List.all_cons, Bool.and_eq_true, decide_eq_true_eq] at hr
    exact ⟨p, q, Below.trod hl hr.1.1 hr.1.2 h1 hb (fun x hx => hlt x (List.mem_append.2 (.inl hx))),
      trodAll_below hl hb hr.2 (fun x hx => hlt x (List.mem_append.2 (.inr hx))) h2, rfl⟩

/-- the post of a law: it returns true, and what came in reads as it did -/
theorem law_post {f : Func} {s : ChangeSpec} {W W' : World} {args : Array Value} {ds : List (DataW H)} {before : List MemPlace} {T : TypeId}
    (hl : laidOutB P = true) (hr : (f.params.toList.all fun t => P.readableRec t && decide (t < P.types.size)) = true) (hv : s.vars = [])
    (hT : f.resultTypes = #[T]) (hT2 : P.underlying T = some .bool)
    (hs : s.fn H (ds ++ []) = { results := [.lit (.bool true)], args := ds })
    (hW : DataW.Whole enc P f.params.toList s.vars false W args.toList ds [] before)
    (hb : Below W.heap.size W W') : s.post enc P f false true false false W args (.bool true) W' := by
  have hlt := fun x hx => hW.lt x hx
  have hW2 := hW
  obtain ⟨p, q, hA, hV, rfl, hz, hn⟩ := hW
  rw [hv] at hV
  obtain ⟨-, rfl⟩ := trodVars_none hV
  refine ⟨ds, [], p ++ [], [], p, [], hW2, ?_, ?_, ?_, hb.frame _, fun h => by cases h⟩
  · rw [hs, hT]
    exact trodAll_cons_mk (shut_bool hT2 true) trodAll_mk0
  · rw [hs]
    exact trodAll_below hl hb hr (fun x hx => hlt x (by simpa using hx)) hA
  · rw [hs, hv]
    exact rfl
theorem trodAll_lengths {w : World} {b : Nat} {sp : Nat → Bool} {hd : Bool} : ∀ {ts : List TypeId} {vs : List Value} {ds : List (DataW H)} {ps : List MemPlace},
    DataW.TrodAll enc P w b sp hd ts vs ds ps → vs.length = ts.length ∧ ds.length = ts.length
  | [], [], [], _, _ => ⟨rfl, rfl⟩
  | [], _ :: _, _, _, h => h.elim
  | [], [], _ :: _, _, h => h.elim
  | _ :: _, [], _, _, h => h.elim
  | _ :: _, _ :: _, [], _, h => h.elim
  | _ :: _, _ :: _, _ :: _, _, h => by
    obtain ⟨p, q, h1, h2, rfl⟩ := h
    have := trodAll_lengths h2
    simp [this.1, this.2]

/-- a law's call, from its walk -/
theorem law_calls {k : FuncId} {f : Func} {s : ChangeSpec} {W : World} {args : Array Value} {ds gs : List (DataW H)} {before : List MemPlace} (T : TypeId)
    (hl : laidOutB P = true) (hr : (f.params.toList.all fun t => P.readableRec t && decide (t < P.types.size)) = true) (hv : s.vars = [])
    (hT : f.resultTypes = #[T]) (hT2 : P.underlying T = some .bool)
    (hs : ∀ ds : List (DataW H), ds.length = f.params.toList.length → s.fn H (ds ++ []) = { results := [.lit (.bool true)], args := ds })
    (hW : DataW.Whole enc P f.params.toList s.vars false W args.toList ds gs before)
    (hwalk : args.toList.length = f.params.toList.length → DataW.Whole enc P f.params.toList [] false W args.toList ds [] before → Calls P k args W fun e W' => e = .returned (.bool true) ∧ Below W.heap.size W W') :
    Calls P k args W fun e W' => ∃ v, e = .returned v ∧ s.post enc P f false true false false W args v W' := by
  have hW2 := hW
  obtain ⟨p, q, hA, hV, hb, hz, hn⟩ := hW2
  rw [hv] at hV
  obtain ⟨rfl, -⟩ := trodVars_none hV
  obtain ⟨l1, l2⟩ := trodAll_lengths hA
  have hW3 := hW
  rw [hv] at hW3
  exact (hwalk l1 hW3).mono fun e W' ⟨he, hbel⟩ => ⟨_, he, law_post hl hr hv hT hT2 (hs ds l2) hW hbel⟩

/-! ### what came in by value: ints, and rows of ints -/
variable {w : World} {r : Reach} {base : Nat} {t : TypeId} {v : Value} {k : IntKind}
theorem okWide_int_has (ht : P.underlying t = some (.int k)) (h : Value.okWide P w r base t v) : ∃ n, v = .int k n ∧ k.has n := by
  simp only [Value.okWide, ht, Cell.okWide] at h
  cases v <;> simp_all [Cell.ok]

theorem list_ints (k : IntKind) : ∀ l : List Value, (∀ v ∈ l, ∃ n, v = Value.int k n ∧ k.has n) → ∃ xs : List Int, l = xs.map (Value.int k) ∧ ∀ x ∈ xs, k.has x
  | [], _ => ⟨[], rfl, fun _ h => by cases h⟩
  | v :: l, h => by
    obtain ⟨n, rfl, hn⟩ := h v (by simp)
    obtain ⟨xs, rfl, hx⟩ := list_ints k l fun u hu => h u (by simp [hu])
    exact ⟨n :: xs, rfl, fun x hm => by
      rcases List.mem_cons.1 hm with rfl | hm
      · exact hn
      · exact hx x hm⟩

/-- a struct or an array whose cells are all ints of one kind -/
theorem okWide_ints {n : Nat} {ts : List TypeId} (hrow : (match P.underlying t with | some (.struct _) | some (.array _ _) => true | _ => false) = true) (hc : P.cellsOf t = n)
    (hts : P.cellTypes P.depth t = some ts) (hk : (ts.all fun u => match P.underlying u with | some (.int k') => k' == k | _ => false) = true) (h : Value.okWide P w r base t v) :
    ∃ xs : List Int, xs.length = n ∧ v = .agg (xs.map (Value.int k)).toArray ∧ ∀ x ∈ xs, k.has x := by
  have h2 : ∃ cs, v = .agg cs ∧ cs.size = P.cellsOf t ∧ Row.okWide P w r base t cs := by
    unfold Value.okWide at h
    split at hrow <;> simp_all
  obtain ⟨cs, rfl, hn, ts', hts', -, hcell⟩ := h2
  rw [hts] at hts'
  cases hts'
  obtain ⟨xs, hxs, hx⟩ := list_ints k cs.toList fun v hv => by
    obtain ⟨i, hi⟩ := List.getElem?_of_mem hv
    obtain ⟨u, hu, hcu⟩ := hcell i v (by simpa using hi)
    have hku := List.all_eq_true.1 hk u (List.mem_of_getElem? hu)
    split at hku
    · rename_i k' hk'
      have hkk : k' = k := by simpa using hku
      subst hkk
      simp only [Cell.okWide, hk'] at hcu
      cases v <;> simp_all [Cell.ok]
    · cases hku
  refine ⟨xs, ?_, ?_, hx⟩
  · have : cs.toList.length = xs.length := by rw [hxs]; simp
    simp at this
    omega
  · rw [← hxs]
end
end Go
