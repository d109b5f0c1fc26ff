/-
  A drawn region with guards whose operations leave values of which only something is known: as RR's law, an operation that is not wanted leaves its slot undefined.
  A drawn region, each operation looked at once, as RG's law, with a note that goes along with the world: what is known of memory beyond the world's own cells (which blocks are laid out by their types).
  A drawn region, each operation of its head looked at once, with a stage that is reckoned from which operations are done: what an operation left may be told for some stages only.
-/
import Derived.Test.YtikojanpbbiaiaaZl

namespace Go
set_option linter.unusedVariables false
set_option linter.unusedSimpArgs false
open Go.RowKit

section
variable {P : Program} {ops : Array Oper}

def Region.headGB (ops : Array Oper) (n sz i : Nat) : Bool :=
  match ops[i]? with
  | none => false
  | some o => (match o.dst with | none => false | some d => decide (d < sz)) && o.after.all (fun e => !Region.binds .any e || decide (e.on < i)) &&
    (List.range n).all (fun j => j == i || (match ops[j]? with | none => true | some o' => o.dst != o'.dst))
def Region.relGB (ops : Array Oper) (n sz : Nat) : Bool :=
  decide (n < ops.size) && Region.sinkB .any ops n && Region.chainB .any ops n && (List.range n).all (Region.headGB ops n sz) &&
  Region.seqB .any ops (ops.size - n) n (Array.replicate n true ++ Array.replicate (ops.size - n) false)

structure HeadOkG (ops : Array Oper) (n sz i : Nat) (o : Oper) (d : Nat) : Prop where
  op : ops[i]? = some o
  dst : o.dst = some d
  lt : d < sz
  after : ∀ e ∈ o.after, Region.binds .any e = true → e.on < i
  other : ∀ j o', j < n → j ≠ i → ops[j]? = some o' → o'.dst ≠ some d
theorem Region.headGB_spec {ops : Array Oper} {n sz i : Nat} (h : Region.headGB ops n sz i = true) : ∃ o d, HeadOkG ops n sz i o d := by
  unfold Region.headGB at h
  cases ho : ops[i]? with
  | none => rw [ho] at h; cases h
  | some o =>
    rw [ho] at h
    simp only [Bool.and_eq_true] at h
    obtain ⟨⟨h2, h3⟩, h4⟩ := h
    cases hd : o.dst with
    | none => rw [hd] at h2; cases h2
    | some d =>
      rw [hd] at h2 h4
      simp only [decide_eq_true_eq] at h2
      refine ⟨o, d, ho, hd, h2, fun e he hb => ?_, fun j o' hj hne ho' e => ?_⟩
      · obtain ⟨k, hk, rfl⟩ := Array.getElem_of_mem he
        have := (Array.all_eq_true.1 h3) k hk
        simpa [hb] using this
      · have := List.all_eq_true.1 h4 j (List.mem_range.2 hj)
        rw [ho'] at this
        simp [hne, e] at this

theorem relg_ready {n : Nat} {s : Array Bool} {sz : Nat} (hh : ∀ i, i < n → ∃ o d, HeadOkG ops n sz i o d) (inv : HeadInv .any ops n s) : ∀ k i, i < k → i < n → s.getD i false = false → Region.ready .any ops s ≠ [] := by
  intro k
  induction k with
  | zero => intro i h; omega
  | succ k ih =>
    intro i hik hin hf
    obtain ⟨o, d, ho⟩ := hh i hin
    by_cases hall : ∀ e ∈ o.after, Region.binds .any e = true → s.getD e.on false = true
    · have hlt : i < s.size := by rw [inv.size]; exact (Array.getElem?_eq_some_iff.1 ho.op).1
      exact List.ne_nil_of_mem (mem_ready.2 ⟨getD_in hlt hf, o, ho.op, hall⟩)
    · obtain ⟨e, he⟩ := Classical.not_forall.1 hall
      simp only [Classical.not_imp] at he
      obtain ⟨h1, h2, h3⟩ := he
      have h4 := ho.after e h1 h2
      exact ih e.on (by omega) (by omega) (by simpa using h3)

theorem wp_relg_go {Q : Exit → Act → World → Prop} {a : Act} {l : List Oper} {n : Nat} (hn : n < l.toArray.size) (hs : Region.sinkB .any l.toArray n = true) (hc : Region.chainB .any l.toArray n = true)
    (hh : ∀ i, i < n → ∃ o d, HeadOkG l.toArray n a.tmps.size i o d) (hseq : Region.seqB .any l.toArray (l.toArray.size - n) n (Array.replicate n true ++ Array.replicate (l.toArray.size - n) false) = true)
    (I : Nat → World → Prop) (G : World → World → Prop) (F : Nat → Value → World → Prop) (hF : ∀ i v w w', F i v w → G w w' → F i v w')
    (hstep : ∀ i o, i < n → l.toArray[i]? = some o → ∀ c b w', c < n → I c w' → Agree l.toArray n a b → (∀ e ∈ o.after, Region.binds .any e = true → LeftAt l.toArray F e.on b w') →
      ∀ K : Act → World → Prop, (∀ v w'', F i v w'' → G w' w'' → I (c + 1) w'' → K (b.put o.dst v) w'') → if Region.wanted o (yielded l.toArray b.tmps) then Oper.wp P o b w' K Q else K (b.put o.dst undef) w')
    (htail : ∀ b w', I n w' → Agree l.toArray n a b → (∀ i, i < n → LeftAt l.toArray F i b w') → wpList P l.toArray Q (l.drop n) b w') :
    ∀ (f c : Nat) (s : Array Bool) (b : Act) (w' : World), c + f = n → cntL s n = c → HeadInv .any l.toArray n s → I c w' → Agree l.toArray n a b → (∀ j, j < n → s.getD j false = true → LeftAt l.toArray F j b w') →
      wpAny P .any l.toArray Q (f + (l.toArray.size - n)) s b w' := by
  intro f
  induction f with
  | zero =>
    intro c s b w' hcf hcnt inv hI hA hL
    obtain rfl : c = n := by omega
    have hall := cntL_all hcnt
    have hsl : s = Array.replicate c true ++ Array.replicate (l.toArray.size - c) false := by
      apply Array.ext
      · rw [inv.size]; simp; simp at hn; omega
      · intro i h1 h2
        by_cases hi : i < c
        · have := hall i hi
          rw [Array.getElem_append_left (by simpa using hi)]
          simpa [Array.getD, h1] using this
        · have := inv.tail i (by omega) (by rw [← inv.size]; exact h1)
          rw [Array.getElem_append_right (by simp; omega)]
          simpa [Array.getD, h1] using this
    rw [Nat.zero_add, hsl]
    have h := wpAny_of_seq (P := P) (md := .any) (Q' := Q) (ops := l.toArray) (l.drop c) c (Array.replicate c true ++ Array.replicate (l.toArray.size - c) false) b w' (fun j => by simp [List.getElem?_drop])
      (by rw [List.length_drop, show l.length = l.toArray.size from by simp]; exact hseq) (htail b w' hI hA (fun i hi => hL i hi (hall i hi)))
    rw [List.length_drop, show l.length = l.toArray.size from by simp] at h
    exact h
  | succ f ih =>
    intro c s b w' hcf hcnt inv hI hA hL
    obtain ⟨i0, hi0, hf0⟩ := cntL_some (s := s) (n := n) (by omega)
    have hne := relg_ready hh inv (i0 + 1) i0 (by omega) hi0 hf0
    rw [show f + 1 + (l.toArray.size - n) = f + (l.toArray.size - n) + 1 from by omega]
    refine ⟨fun h => absurd h hne, fun i hi => ?_⟩
    have hlt0 : i0 < s.size := by rw [inv.size]; omega
    have hin : i < n := head_only hs hc hn inv hi0 (getD_in hlt0 hf0) i hi
    obtain ⟨hun, oi, hoi, haf⟩ := mem_ready.1 hi
    obtain ⟨o, d, ho⟩ := hh i hin
    obtain rfl : oi = o := Option.some.inj (hoi.symm.trans ho.op)
    have hlt : i < s.size := by rw [inv.size]; omega
    have hd : d < b.tmps.size := by rw [hA.size]; exact ho.lt
    unfold wpOp
    simp only [hoi]
    have hst := hstep i oi hin hoi c b w' (by omega) hI hA (fun e he hb => hL e.on (by have := ho.after e he hb; omega) (haf e he hb)) (wpAny P .any l.toArray Q (f + (l.toArray.size - n)) (s.setIfInBounds i true)) ?_
    · split at hst
      · rename_i hwt
        rw [if_pos hwt]
        exact .inl hst
      · rename_i hwt
        rw [if_neg hwt]
        exact hst
    intro v w'' h1 h2 h3
    rw [ho.dst]
    have hoth : ∀ k, k ≠ d → (b.put (some d) v).eval (.tmp k) = b.eval (.tmp k) := fun k hk => Act.eval_put (fun d' e => by cases e; intro e2; cases e2; exact hk rfl)
    refine ih (c + 1) _ _ _ (by omega) ?_ (inv.set hi hin) h3 ⟨by rw [Act.put_defers', hA.defers], by rw [Act.put_size, hA.size], fun k hk => ?_⟩ ?_
    · rw [cntL_set hlt (getD_both hun) hin, hcnt]
    · rw [hoth k (fun e => hk i oi hin hoi (by rw [ho.dst, e]))]
      exact hA.same k hk
    · intro j hj hlj o' d' ho' hd'
      by_cases hji : j = i
      · subst hji
        obtain rfl : o' = oi := Option.some.inj (ho'.symm.trans hoi)
        obtain rfl : d' = d := Option.some.inj (hd'.symm.trans ho.dst)
        rw [Act.eval_put_same hd]
        exact h1
      · have hne' : d' ≠ d := fun e => ho.other j o' hj hji ho' (by rw [hd', e])
        rw [hoth d' hne']
        rw [getD_set_ne false (fun e => hji e.symm)] at hlj
        exact hF j _ _ _ (hL j hj hlj o' d' ho' hd') h2

/-- **A drawn region, each operation of its head looked at once.** -/
theorem wp_region_relg {id : Nat} {Q : Exit → Act → World → Prop} {a : Act} {w : World} {l : List Oper} (n : Nat) (hm : P.follows .mixedOrders = true) (hB : Region.relGB l.toArray n a.tmps.size = true)
    (I : Nat → World → Prop) (G : World → World → Prop) (F : Nat → Value → World → Prop) (hF : ∀ i v w w', F i v w → G w w' → F i v w') (h0 : I 0 w.drew)
    (hstep : ∀ i o, i < n → l.toArray[i]? = some o → ∀ c b w', c < n → I c w' → Agree l.toArray n a b → (∀ e ∈ o.after, Region.binds .any e = true → LeftAt l.toArray F e.on b w') →
      ∀ K : Act → World → Prop, (∀ v w'', F i v w'' → G w' w'' → I (c + 1) w'' → K (b.put o.dst v) w'') → if Region.wanted o (yielded l.toArray b.tmps) then Oper.wp P o b w' K Q else K (b.put o.dst undef) w')
    (htail : ∀ b w', I n w' → Agree l.toArray n a b → (∀ i, i < n → LeftAt l.toArray F i b w') → wpList P l.toArray Q (l.drop n) b w') :
    (Code.region id l.toArray true).wp P Q a w := by
  simp only [Region.relGB, Bool.and_eq_true, decide_eq_true_eq] at hB
  obtain ⟨⟨⟨⟨hn, hs⟩, hc⟩, hh⟩, hseq⟩ := hB
  have hh' : ∀ i, i < n → ∃ o d, HeadOkG l.toArray n a.tmps.size i o d := fun i hi => Region.headGB_spec (List.all_eq_true.1 hh i (List.mem_range.2 hi))
  have inv0 : HeadInv .any l.toArray n (Array.replicate l.toArray.size false) :=
    ⟨by simp, fun j oj _ hl => (by rw [getD_replicate_false] at hl; cases hl), fun t _ ht => getD_in (by simpa using ht) (getD_replicate_false _ _)⟩
  refine wp_region_any hm ?_
  have h := wp_relg_go (P := P) (Q := Q) (a := a) hn hs hc hh' hseq I G F hF hstep htail n 0 _ a w.drew (by omega) (cntL_none n) inv0 h0 (Agree.refl _ _ _) (fun j hj hl => by rw [getD_replicate_false] at hl; cases hl)
  rw [show n + (l.toArray.size - n) = l.toArray.size from by omega] at h
  exact h

end
end Go
namespace Go
set_option linter.unusedVariables false
set_option linter.unusedSimpArgs false
open Go.RowKit

section
variable {P : Program} {ops : Array Oper}

/-- operation i has left a value of which F i holds -/
def LeftN {Γ : Type} (ops : Array Oper) (F : Nat → Value → Γ → World → Prop) (i : Nat) (b : Act) (g : Γ) (w : World) : Prop := ∀ o d, ops[i]? = some o → o.dst = some d → F i (b.eval (.tmp d)) g w
theorem dep_atN {Γ : Type} {F : Nat → Value → Γ → World → Prop} {o : Oper} {b : Act} {g : Γ} {w : World} (h : ∀ e ∈ o.after, Region.binds .any e = true → LeftN ops F e.on b g w) (j d : Nat) {oj : Oper}
    (h1 : (o.after.any fun e => Region.binds .any e && e.on == j) = true) (h2 : ops[j]? = some oj) (h3 : oj.dst = some d) : F j (b.eval (.tmp d)) g w := by
  obtain ⟨i, hi, h4⟩ := Array.any_eq_true.1 h1
  simp only [Bool.and_eq_true, beq_iff_eq] at h4
  have := h o.after[i] (Array.getElem_mem hi) h4.1
  rw [h4.2] at this
  exact this oj d h2 h3

theorem wp_reln_go {Q : Exit → Act → World → Prop} {a : Act} {l : List Oper} {n : Nat} (hn : n < l.toArray.size) (hs : Region.sinkB .any l.toArray n = true) (hc : Region.chainB .any l.toArray n = true)
    (hh : ∀ i, i < n → ∃ o d, HeadOkG l.toArray n a.tmps.size i o d) (hseq : Region.seqB .any l.toArray (l.toArray.size - n) n (Array.replicate n true ++ Array.replicate (l.toArray.size - n) false) = true)
    {Γ : Type} (I : Nat → Γ → World → Prop) (G : Γ → World → Γ → World → Prop) (F : Nat → Value → Γ → World → Prop) (hF : ∀ i v g w g' w', F i v g w → G g w g' w' → F i v g' w')
    (hstep : ∀ i o, i < n → l.toArray[i]? = some o → ∀ c b g w', c < n → I c g w' → Agree l.toArray n a b → (∀ e ∈ o.after, Region.binds .any e = true → LeftN l.toArray F e.on b g w') →
      ∀ K : Act → World → Prop, (∀ v g' w'', F i v g' w'' → G g w' g' w'' → I (c + 1) g' w'' → K (b.put o.dst v) w'') → if Region.wanted o (yielded l.toArray b.tmps) then Oper.wp P o b w' K Q else K (b.put o.dst undef) w')
    (htail : ∀ b g w', I n g w' → Agree l.toArray n a b → (∀ i, i < n → LeftN l.toArray F i b g w') → wpList P l.toArray Q (l.drop n) b w') :
    ∀ (f c : Nat) (s : Array Bool) (b : Act) (g : Γ) (w' : World), c + f = n → cntL s n = c → HeadInv .any l.toArray n s → I c g w' → Agree l.toArray n a b → (∀ j, j < n → s.getD j false = true → LeftN l.toArray F j b g w') →
      wpAny P .any l.toArray Q (f + (l.toArray.size - n)) s b w' := by
  intro f
  induction f with
  | zero =>
    intro c s b g w' hcf hcnt inv hI hA hL
    obtain rfl : c = n := by omega
    have hall := cntL_all hcnt
    have hsl : s = Array.replicate c true ++ Array.replicate (l.toArray.size - c) false := by
      apply Array.ext
      · rw [inv.size]; simp; simp at hn; omega
      · intro i h1 h2
        by_cases hi : i < c
        · have := hall i hi
          rw [Array.getElem_append_left (by simpa using hi)]
          simpa [Array.getD, h1] using this
        · have := inv.tail i (by omega) (by rw [← inv.size]; exact h1)
          rw [Array.getElem_append_right (by simp; omega)]
          simpa [Array.getD, h1] using this
    rw [Nat.zero_add, hsl]
    have h := wpAny_of_seq (P := P) (md := .any) (Q' := Q) (ops := l.toArray) (l.drop c) c (Array.replicate c true ++ Array.replicate (l.toArray.size - c) false) b w' (fun j => by simp [List.getElem?_drop])
      (by rw [List.length_drop, show l.length = l.toArray.size from by simp]; exact hseq) (htail b g w' hI hA (fun i hi => hL i hi (hall i hi)))
    rw [List.length_drop, show l.length = l.toArray.size from by simp] at h
    exact h
  | succ f ih =>
    intro c s b g w' hcf hcnt inv hI hA hL
    obtain ⟨i0, hi0, hf0⟩ := cntL_some (s := s) (n := n) (by omega)
    have hne := relg_ready hh inv (i0 + 1) i0 (by omega) hi0 hf0
    rw [show f + 1 + (l.toArray.size - n) = f + (l.toArray.size - n) + 1 from by omega]
    refine ⟨fun h => absurd h hne, fun i hi => ?_⟩
    have hlt0 : i0 < s.size := by rw [inv.size]; omega
    have hin : i < n := head_only hs hc hn inv hi0 (getD_in hlt0 hf0) i hi
    obtain ⟨hun, oi, hoi, haf⟩ := mem_ready.1 hi
    obtain ⟨o, d, ho⟩ := hh i hin
    obtain rfl : oi = o := Option.some.inj (hoi.symm.trans ho.op)
    have hlt : i < s.size := by rw [inv.size]; omega
    have hd : d < b.tmps.size := by rw [hA.size]; exact ho.lt
    unfold wpOp
    simp only [hoi]
    have hst := hstep i oi hin hoi c b g w' (by omega) hI hA (fun e he hb => hL e.on (by have := ho.after e he hb; omega) (haf e he hb)) (wpAny P .any l.toArray Q (f + (l.toArray.size - n)) (s.setIfInBounds i true)) ?_
    · split at hst
      · rename_i hwt
        rw [if_pos hwt]
        exact .inl hst
      · rename_i hwt
        rw [if_neg hwt]
        exact hst
    intro v g' w'' h1 h2 h3
    rw [ho.dst]
    have hoth : ∀ k, k ≠ d → (b.put (some d) v).eval (.tmp k) = b.eval (.tmp k) := fun k hk => Act.eval_put (fun d' e => by cases e; intro e2; cases e2; exact hk rfl)
    refine ih (c + 1) _ _ _ _ (by omega) ?_ (inv.set hi hin) h3 ⟨by rw [Act.put_defers', hA.defers], by rw [Act.put_size, hA.size], fun k hk => ?_⟩ ?_
    · rw [cntL_set hlt (getD_both hun) hin, hcnt]
    · rw [hoth k (fun e => hk i oi hin hoi (by rw [ho.dst, e]))]
      exact hA.same k hk
    · intro j hj hlj o' d' ho' hd'
      by_cases hji : j = i
      · subst hji
        obtain rfl : o' = oi := Option.some.inj (ho'.symm.trans hoi)
        obtain rfl : d' = d := Option.some.inj (hd'.symm.trans ho.dst)
        rw [Act.eval_put_same hd]
        exact h1
      · have hne' : d' ≠ d := fun e => ho.other j o' hj hji ho' (by rw [hd', e])
        rw [hoth d' hne']
        rw [getD_set_ne false (fun e => hji e.symm)] at hlj
        exact hF j _ _ _ _ _ (hL j hj hlj o' d' ho' hd') h2

/-- **A drawn region, each operation of its head looked at once.** -/
theorem wp_region_reln {id : Nat} {Q : Exit → Act → World → Prop} {a : Act} {w : World} {l : List Oper} (n : Nat) (hm : P.follows .mixedOrders = true) (hB : Region.relGB l.toArray n a.tmps.size = true)
    {Γ : Type} (I : Nat → Γ → World → Prop) (G : Γ → World → Γ → World → Prop) (F : Nat → Value → Γ → World → Prop) (hF : ∀ i v g w g' w', F i v g w → G g w g' w' → F i v g' w') (g0 : Γ) (h0 : I 0 g0 w.drew)
    (hstep : ∀ i o, i < n → l.toArray[i]? = some o → ∀ c b g w', c < n → I c g w' → Agree l.toArray n a b → (∀ e ∈ o.after, Region.binds .any e = true → LeftN l.toArray F e.on b g w') →
      ∀ K : Act → World → Prop, (∀ v g' w'', F i v g' w'' → G g w' g' w'' → I (c + 1) g' w'' → K (b.put o.dst v) w'') → if Region.wanted o (yielded l.toArray b.tmps) then Oper.wp P o b w' K Q else K (b.put o.dst undef) w')
    (htail : ∀ b g w', I n g w' → Agree l.toArray n a b → (∀ i, i < n → LeftN l.toArray F i b g w') → wpList P l.toArray Q (l.drop n) b w') :
    (Code.region id l.toArray true).wp P Q a w := by
  simp only [Region.relGB, Bool.and_eq_true, decide_eq_true_eq] at hB
  obtain ⟨⟨⟨⟨hn, hs⟩, hc⟩, hh⟩, hseq⟩ := hB
  have hh' : ∀ i, i < n → ∃ o d, HeadOkG l.toArray n a.tmps.size i o d := fun i hi => Region.headGB_spec (List.all_eq_true.1 hh i (List.mem_range.2 hi))
  have inv0 : HeadInv .any l.toArray n (Array.replicate l.toArray.size false) :=
    ⟨by simp, fun j oj _ hl => (by rw [getD_replicate_false] at hl; cases hl), fun t _ ht => getD_in (by simpa using ht) (getD_replicate_false _ _)⟩
  refine wp_region_any hm ?_
  have h := wp_reln_go (P := P) (Q := Q) (a := a) hn hs hc hh' hseq I G F hF hstep htail n 0 _ a g0 w.drew (by omega) (cntL_none n) inv0 h0 (Agree.refl _ _ _) (fun j hj hl => by rw [getD_replicate_false] at hl; cases hl)
  rw [show n + (l.toArray.size - n) = l.toArray.size from by omega] at h
  exact h

end
end Go
namespace Go
set_option linter.unusedVariables false
set_option linter.unusedSimpArgs false
open Go.RowKit

section
variable {P : Program} {ops : Array Oper}
theorem closed_at {n : Nat} {s : Array Bool} (inv : HeadInv .any ops n s) (j k : Nat) {oj : Oper} (h1 : ops[j]? = some oj) (hl : s.getD j false = true) (h2 : (oj.after.any fun e => Region.binds .any e && e.on == k) = true) : s.getD k false = true := by
  obtain ⟨i, hi, h4⟩ := Array.any_eq_true.1 h2
  simp only [Bool.and_eq_true, beq_iff_eq] at h4
  have := inv.closed j oj h1 hl oj.after[i] (Array.getElem_mem hi) h4.1
  rw [h4.2] at this
  exact this
theorem wp_set_go {Q : Exit → Act → World → Prop} {a : Act} {l : List Oper} {n : Nat} (hn : n < l.toArray.size) (hs : Region.sinkB .any l.toArray n = true) (hc : Region.chainB .any l.toArray n = true)
    (hh : ∀ i, i < n → ∃ o d, HeadOk l.toArray n a.tmps.size i o d) (hseq : Region.seqB .any l.toArray (l.toArray.size - n) n (Array.replicate n true ++ Array.replicate (l.toArray.size - n) false) = true)
    {Γ : Type} (st : Array Bool → Γ) (I : Γ → World → Prop) (G : Γ → World → Γ → World → Prop) (F : Nat → Value → Γ → World → Prop) (hF : ∀ i v g w g' w', F i v g w → G g w g' w' → F i v g' w')
    (hstep : ∀ i o, i < n → l.toArray[i]? = some o → ∀ (s : Array Bool) b w', HeadInv .any l.toArray n s → s.getD i false = false → (∀ e ∈ o.after, Region.binds .any e = true → s.getD e.on false = true) → I (st s) w' → Agree l.toArray n a b → (∀ e ∈ o.after, Region.binds .any e = true → LeftN l.toArray F e.on b (st s) w') →
      ∀ K : Act → World → Prop, (∀ v g' w'', F i v g' w'' → G (st s) w' g' w'' → I g' w'' → g' = st (s.setIfInBounds i true) → K (b.put o.dst v) w'') → Oper.wp P o b w' K Q)
    (htail : ∀ b (s : Array Bool) w', (∀ i, i < n → s.getD i false = true) → I (st s) w' → Agree l.toArray n a b → (∀ i, i < n → LeftN l.toArray F i b (st s) w') → wpList P l.toArray Q (l.drop n) b w') :
    ∀ (f c : Nat) (s : Array Bool) (b : Act) (w' : World), c + f = n → cntL s n = c → HeadInv .any l.toArray n s → I (st s) w' → Agree l.toArray n a b → (∀ j, j < n → s.getD j false = true → LeftN l.toArray F j b (st s) w') →
      wpAny P .any l.toArray Q (f + (l.toArray.size - n)) s b w' := by
  intro f
  induction f with
  | zero =>
    intro c s b w' hcf hcnt inv hI hA hL
    obtain rfl : c = n := by omega
    have hall := cntL_all hcnt
    have hsl : s = Array.replicate c true ++ Array.replicate (l.toArray.size - c) false := by
      apply Array.ext
      · rw [inv.size]; simp; simp at hn; omega
      · intro i h1 h2
        by_cases hi : i < c
        · have := hall i hi
          rw [Array.getElem_append_left (by simpa using hi)]
          simpa [Array.getD, h1] using this
        · have := inv.tail i (by omega) (by rw [← inv.size]; exact h1)
          rw [Array.getElem_append_right (by simp; omega)]
          simpa [Array.getD, h1] using this
    have ht := htail b s w' hall hI hA (fun i hi => hL i hi (hall i hi))
    rw [Nat.zero_add, hsl]
    have h := wpAny_of_seq (P := P) (md := .any) (Q' := Q) (ops := l.toArray) (l.drop c) c (Array.replicate c true ++ Array.replicate (l.toArray.size - c) false) b w' (fun j => by simp [List.getElem?_drop])
      (by rw [List.length_drop, show l.length = l.toArray.size from by simp]; exact hseq) ht
    rw [List.length_drop, show l.length = l.toArray.size from by simp] at h
    exact h
  | succ f ih =>
    intro c s b w' hcf hcnt inv hI hA hL
    obtain ⟨i0, hi0, hf0⟩ := cntL_some (s := s) (n := n) (by omega)
    have hne := rel_ready hh inv (i0 + 1) i0 (by omega) hi0 hf0
    rw [show f + 1 + (l.toArray.size - n) = f + (l.toArray.size - n) + 1 from by omega]
    refine ⟨fun h => absurd h hne, fun i hi => ?_⟩
    have hlt0 : i0 < s.size := by rw [inv.size]; omega
    have hin : i < n := head_only hs hc hn inv hi0 (getD_in hlt0 hf0) i hi
    obtain ⟨hun, oi, hoi, haf⟩ := mem_ready.1 hi
    obtain ⟨o, d, ho⟩ := hh i hin
    obtain rfl : oi = o := Option.some.inj (hoi.symm.trans ho.op)
    have hlt : i < s.size := by rw [inv.size]; omega
    have hd : d < b.tmps.size := by rw [hA.size]; exact ho.lt
    unfold wpOp
    simp only [hoi]
    rw [if_pos (by simp [Region.wanted, ho.guard])]
    refine .inl (hstep i oi hin hoi s b w' inv (getD_both hun) haf hI hA (fun e he hb => hL e.on (by have := ho.after e he hb; omega) (haf e he hb)) _ ?_)
    rintro v g' w'' h1 h2 h3 rfl
    rw [ho.dst]
    have hoth : ∀ k, k ≠ d → (b.put (some d) v).eval (.tmp k) = b.eval (.tmp k) := fun k hk => Act.eval_put (fun d' e => by cases e; intro e2; cases e2; exact hk rfl)
    refine ih (c + 1) _ _ _ (by omega) ?_ (inv.set hi hin) h3 ⟨by rw [Act.put_defers', hA.defers], by rw [Act.put_size, hA.size], fun k hk => ?_⟩ ?_
    · rw [cntL_set hlt (getD_both hun) hin, hcnt]
    · rw [hoth k (fun e => hk i oi hin hoi (by rw [ho.dst, e]))]
      exact hA.same k hk
    · intro j hj hlj o' d' ho' hd'
      by_cases hji : j = i
      · subst hji
        obtain rfl : o' = oi := Option.some.inj (ho'.symm.trans hoi)
        obtain rfl : d' = d := Option.some.inj (hd'.symm.trans ho.dst)
        rw [Act.eval_put_same hd]
        exact h1
      · have hne' : d' ≠ d := fun e => ho.other j o' hj hji ho' (by rw [hd', e])
        rw [hoth d' hne']
        rw [getD_set_ne false (fun e => hji e.symm)] at hlj
        exact hF j _ _ _ _ _ (hL j hj hlj o' d' ho' hd') h2
/-- **A drawn region, each operation of its head looked at once, by stages.** -/
theorem wp_region_set {id : Nat} {Q : Exit → Act → World → Prop} {a : Act} {w : World} {l : List Oper} (n : Nat) (hm : P.follows .mixedOrders = true) (hB : Region.relB l.toArray n a.tmps.size = true)
    {Γ : Type} (st : Array Bool → Γ) (I : Γ → World → Prop) (G : Γ → World → Γ → World → Prop) (F : Nat → Value → Γ → World → Prop) (hF : ∀ i v g w g' w', F i v g w → G g w g' w' → F i v g' w') (h0 : I (st (Array.replicate l.toArray.size false)) w.drew)
    (hstep : ∀ i o, i < n → l.toArray[i]? = some o → ∀ (s : Array Bool) b w', HeadInv .any l.toArray n s → s.getD i false = false → (∀ e ∈ o.after, Region.binds .any e = true → s.getD e.on false = true) → I (st s) w' → Agree l.toArray n a b → (∀ e ∈ o.after, Region.binds .any e = true → LeftN l.toArray F e.on b (st s) w') →
      ∀ K : Act → World → Prop, (∀ v g' w'', F i v g' w'' → G (st s) w' g' w'' → I g' w'' → g' = st (s.setIfInBounds i true) → K (b.put o.dst v) w'') → Oper.wp P o b w' K Q)
    (htail : ∀ b (s : Array Bool) w', (∀ i, i < n → s.getD i false = true) → I (st s) w' → Agree l.toArray n a b → (∀ i, i < n → LeftN l.toArray F i b (st s) w') → wpList P l.toArray Q (l.drop n) b w') :
    (Code.region id l.toArray true).wp P Q a w := by
  simp only [Region.relB, Bool.and_eq_true, decide_eq_true_eq] at hB
  obtain ⟨⟨⟨⟨hn, hs⟩, hc⟩, hh⟩, hseq⟩ := hB
  have hh' : ∀ i, i < n → ∃ o d, HeadOk l.toArray n a.tmps.size i o d := fun i hi => Region.headB_spec (List.all_eq_true.1 hh i (List.mem_range.2 hi))
  have inv0 : HeadInv .any l.toArray n (Array.replicate l.toArray.size false) :=
    ⟨by simp, fun j oj _ hl => (by rw [getD_replicate_false] at hl; cases hl), fun t _ ht => getD_in (by simpa using ht) (getD_replicate_false _ _)⟩
  refine wp_region_any hm ?_
  have h := wp_set_go (P := P) (Q := Q) (a := a) hn hs hc hh' hseq st I G F hF hstep htail n 0 _ a w.drew (by omega) (cntL_none n) inv0 h0 (Agree.refl _ _ _) (fun j hj hl => by rw [getD_replicate_false] at hl; cases hl)
  rw [show n + (l.toArray.size - n) = l.toArray.size from by omega] at h
  exact h
end
end Go
