/-
  Chapter 24: what the laws on places that go, and on labels made from nothing, come to, in plain words.
  Chapter 24: hachureref23.SameAll on equal lists; RelabelNothing walked.
-/
import Derived.Test.YtikojanpbbiaiaaZr
import Derived.Test.YtikojanpbbiaiaaZv
import Derived.Test.YtikojanpbbiaiaaNk
import Derived.Sort.LotA
namespace Go.Proofs.Ytikojanpbbiaiaa
set_option linter.unusedVariables false
set_option linter.unusedSimpArgs false
open Go Go.RowKit Go.Shelf Go.Lib Go.Sort

theorem sqL_comm (a b : Lb) : sqL a b = sqL b a := by
  unfold sqL
  rw [show a.x - b.x = -(b.x - a.x) from by omega, show a.y - b.y = -(b.y - a.y) from by omega, Int.neg_mul_neg, Int.neg_mul_neg]
theorem radL_comm (a b : Lb) : radL a b = radL b a := by unfold radL; omega
theorem limL_comm (a b : Lb) : limL a b = limL b a := by
  unfold limL
  rw [sqL_comm, radL_comm, Bool.and_comm]
theorem limL_upd (p : Pc) (u v : Int) (y : Lb) : limL (lbP p u) y = limL (lbP p v) y := rfl
theorem untL_least (p : Pc) : ∀ M : List Lb, untL M (lbP p 1024) = leastF (lbP p 0) M := by
  have h : ∀ (M : List Lb) (z : Int), z ≤ 1024 → M.foldl (untS (lbP p 1024)) z = M.foldl (fun n y => min n (limV (lbP p 0) y)) z := by
    intro M
    induction M with
    | nil => intro z _; rfl
    | cons y M ih =>
      intro z hz
      rw [List.foldl_cons, List.foldl_cons]
      have e : untS (lbP p 1024) z y = min z (limV (lbP p 0) y) := by
        unfold untS limV
        rw [limL_comm y, limL_upd p 1024 0 y]
        split
        · rfl
        · omega
      rw [e]
      refine ih _ ?_
      omega
  intro M
  exact h M 1024 (by omega)
theorem keptL_nil (next : List Lb) (k : Nat) (x : Lb) : keptL [] next k x = false := rfl
theorem reachI_nil (next : List Lb) : ∀ k, k ≤ next.length → reachI [] next k = List.range k
  | 0, _ => rfl
  | k + 1, h => by
    have ih := reachI_nil next k (by omega)
    unfold reachI
    rw [List.getElem?_eq_getElem (by omega)]
    simp only
    have hs : sameL [] next k next[k] = false := by unfold sameL; rw [keptL_nil]; simp
    rw [hs, ih, List.range_succ]
    simp
theorem carry_nil (s : Lb) : carry [] [] s = s := by
  unfold carry
  rw [if_neg]
  unfold indL idxBy idxByFrom
  decide
theorem seeds_get {q : List Pc} {k : Nat} {p : Pc} (h : q[k]? = some p) : (q.map (fun p => lbP p 1024))[k]? = some (lbP p 1024) := by rw [List.getElem?_map, h]; rfl
theorem chgL_make (q : List Pc) : ∀ k, k ≤ q.length → (List.range k).foldl (stepC (q.map (fun p => lbP p 1024))) (q.map (fun p => lbP p 1024)) = makeL (q.take k) ++ (q.map (fun p => lbP p 1024)).drop k
  | 0, _ => by simp [makeL]
  | k + 1, h => by
    have ih := chgL_make q k (by omega)
    rw [List.range_succ, List.foldl_append, ih]
    obtain ⟨p, hp⟩ : ∃ p, q[k]? = some p := ⟨_, List.getElem?_eq_getElem (by omega)⟩
    have hs := seeds_get hp
    have hk : k < (q.map (fun p => lbP p 1024)).length := by rw [List.length_map]; omega
    have hd : (q.map (fun p => lbP p 1024)).drop k = lbP p 1024 :: (q.map (fun p => lbP p 1024)).drop (k + 1) := by
      rw [List.drop_eq_getElem_cons hk]
      congr 1
      rw [List.getElem?_eq_getElem hk] at hs
      exact Option.some.inj hs
    have hm : (makeL (q.take k)).length = k := by rw [makeL_len, List.length_take]; omega
    rw [List.foldl_cons, List.foldl_nil, hd, makeL_succ hp]
    unfold stepC
    have hb : (q.map (fun p => lbP p 1024))[k]! = lbP p 1024 := by
      rw [getElem!_def, hs]
    obtain ⟨M, hM⟩ : ∃ M, makeL (q.take k) = M := ⟨_, rfl⟩
    rw [hM] at hm
    rw [hM]
    rw [hb, List.take_append_of_le_length (by omega), List.take_of_length_le (by omega), untL_least]
    have hu := setU_mid M (lbP p 1024) ((q.map (fun p => lbP p 1024)).drop (k + 1)) (leastF (lbP p 0) M)
    rw [hm] at hu
    rw [hu]
    unfold makeS
    rw [List.append_assoc]
    rfl
/-- labels that are made from nothing -/
theorem chgL_nil (l : List Pc) : chgL [] [] (seedsL l) = makeL (queueL l) := by
  unfold chgL seedsL
  rw [reachI_nil _ _ (Nat.le_refl _), List.length_map]
  have hc : (carry [] []) = id := funext carry_nil
  rw [hc, List.map_id]
  have := chgL_make (queueL l) (queueL l).length (Nat.le_refl _)
  rw [this, List.take_length, List.drop_of_length_le (by rw [List.length_map]; exact Nat.le_refl _), List.append_nil]
theorem count_nil (l : List Lb) : (reachI [] l l.length).length = l.length := by rw [reachI_nil _ _ (Nat.le_refl _), List.length_range]
theorem withinL_refl (l : List Lb) : withinL l l = true := by
  unfold withinL
  rw [List.all_eq_true]
  intro x hx
  exact decide_eq_true hx
theorem nodup_notin {l : List Lb} (h : (l.map Lb.id).Nodup) {k : Nat} {x : Lb} (hx : l[k]? = some x) : x ∉ l.take k := by
  intro hm
  have hk := (List.getElem?_eq_some_iff.1 hx).1
  have e : l = l.take k ++ x :: l.drop (k + 1) := by
    conv => lhs; rw [← List.take_append_drop k l]
    rw [List.drop_eq_getElem_cons hk, (List.getElem?_eq_some_iff.1 hx).2]
  rw [e, List.map_append, List.map_cons, List.nodup_append] at h
  exact h.2.2 x.id (List.mem_map_of_mem hm) x.id (List.mem_cons_self ..) rfl
/-- between seeds and themselves nothing is reached -/
theorem reachI_self (l : List Lb) (h : (l.map Lb.id).Nodup) : ∀ k, reachI l l k = []
  | 0 => rfl
  | k + 1 => by
    have ih := reachI_self l h k
    unfold reachI
    split
    · exact ih
    · rename_i x hx
      have ht : twiceL l = false := by unfold twiceL; simpa using h
      have hs : sameL l l k x = true := by
        unfold sameL keptL
        rw [ht, idxL_some l x k hx (nodup_notin h hx)]
        simp [withinL_refl]
      rw [hs, ih]
      simp
/-! ### the order of places -/
theorem lt_iff (a b : Pc) : ltOf cmpP a b = true ↔ (b.wt < a.wt ∨ (a.wt = b.wt ∧ a.id < b.id)) := by
  unfold ltOf cmpP compareInt
  simp only [decide_eq_true_eq]
  split <;> (try split at *) <;> (try split at *) <;> (try split at *) <;> omega
theorem lt_not (a b : Pc) : ltOf cmpP a b = false ↔ ¬ (b.wt < a.wt ∨ (a.wt = b.wt ∧ a.id < b.id)) := by
  rw [← lt_iff]
  cases ltOf cmpP a b <;> simp
theorem swoP : SWO (ltOf cmpP) := by
  refine ⟨fun x => ?_, fun x y z h1 h2 => ?_, fun x y z h1 h2 => ?_⟩
  · rw [lt_not]; omega
  · rw [lt_iff] at *; omega
  · rw [lt_not] at *; omega
theorem extract_all {α : Type} (d : Array α) (n : Nat) (h : n = d.size) : (d.extract 0 n) = d := by
  subst h
  simp
theorem sortP_perm (l : List Pc) : (sortP l).Perm l := by
  have := (insertionSort_holds (lt := ltOf cmpP) swoP l.toArray 0 l.length (Nat.zero_le _) (by simp)).1
  obtain ⟨h1, -, h3⟩ := this
  rw [extract_all _ _ (by rw [h1]; simp), extract_all _ _ (by simp)] at h3
  exact h3
theorem sortP_sorted (l : List Pc) : (sortP l).Pairwise (fun a b => ltOf cmpP b a = false) := by
  obtain ⟨⟨h1, -, -⟩, h2⟩ := insertionSort_holds (lt := ltOf cmpP) swoP l.toArray 0 l.length (Nat.zero_le _) (by simp)
  unfold sortP
  rw [List.pairwise_iff_getElem]
  intro i j hi hj hij
  have := h2 i j (Nat.zero_le _) hij (by simpa [h1] using hj)
  rw [getElem!_pos _ i (by simpa using hi), getElem!_pos _ j (by simpa using hj)] at this
  simpa using this
theorem queueL_perm (l : List Pc) : (queueL l).Perm (l.filter (fun x => !noName x)) := sortP_perm _
/-- the Ids of places are different -/
def PcNodup (l : List Pc) : Prop := (l.map Pc.id).Nodup
theorem PlsOk.nodup {l : List Pc} (h : ∀ (k : Nat) p, l[k]? = some p → p.id = 61 + (k : Int)) : PcNodup l := by
  unfold PcNodup
  rw [List.nodup_iff_pairwise_ne, List.pairwise_iff_getElem]
  intro i j hi hj hij
  rw [List.length_map] at hi hj
  rw [List.getElem_map, List.getElem_map, h i l[i] (List.getElem?_eq_getElem hi), h j l[j] (List.getElem?_eq_getElem hj)]
  omega
theorem PcNodup.queue {l : List Pc} (h : PcNodup l) : PcNodup (queueL l) := by
  unfold PcNodup at *
  refine ((queueL_perm l).map Pc.id).nodup_iff.2 ?_
  exact (List.filter_sublist.map Pc.id).nodup h
theorem PcNodup.seeds {l : List Pc} (h : PcNodup l) : ((seedsL l).map Lb.id).Nodup := by
  unfold seedsL
  rw [List.map_map]
  exact h.queue
theorem queueL_unnamed (p : Pc) (l : List Pc) (h : noName p = true) : queueL (p :: l) = queueL l := by
  unfold queueL
  rw [List.filter_cons]
  simp [h]
end Go.Proofs.Ytikojanpbbiaiaa
namespace Go.Proofs.Ytikojanpbbiaiaa
set_option linter.unusedVariables false
set_option linter.unusedSimpArgs false
open Go Go.RowKit Go.Shelf Go.Lib
attribute [local go_sem] Oper.semAt_some
attribute [local go_sem ↓] Go.wp_at_zero Go.wp_at_succ

set_option maxRecDepth 100000 in
theorem neqLb (i x y r u i2 x2 y2 r2 u2 : Int) (t t2 : ByteArray) (w : World) : (binOp .neq 39 (.agg #[.int .i64 i, .int .i64 x, .int .i64 y, .int .i64 r, .string t, .int .i64 u]) (.agg #[.int .i64 i2, .int .i64 x2, .int .i64 y2, .int .i64 r2, .string t2, .int .i64 u2])).run Try.prog w = .ok (.bool (!decide ((⟨i, x, y, r, t, u⟩ : Lb) = ⟨i2, x2, y2, r2, t2, u2⟩))) w := by
  have u3 := Try.underlying3
  have a3 := Try.isAgg3
  have z3 := Try.sizeOf3
  have u9 := Try.underlying9
  have a9 := Try.isAgg9
  have z9 := Try.sizeOf9
  have aP := Try.isAgg37
  have zP := Try.sizeOf37
  have hS : Try.prog.underlying 39 = some (.struct (Try.prog.fieldsOf 39)) := by kernel_rfl
  have hp : Try.prog.stoodInHeld 39 = false := by kernel_rfl
  have hS2 : Try.prog.underlying 37 = some (.struct (Try.prog.fieldsOf 37)) := by kernel_rfl
  have hp2 : Try.prog.stoodInHeld 37 = false := by kernel_rfl
  have hq : ∀ (xs ys : Array Value) (w : World), (Op.equalIn 9999 37 (.agg xs) (.agg ys)).run Try.prog w = (Op.eqFields 9998 xs ys (Try.prog.fieldsOf 37).toList).run Try.prog w := fun xs ys w => run_equalIn_agg w 9998 37 xs ys hS2 hp2
  rw [run_neq_struct, show (10000 : Nat) = 9999 + 1 from rfl, run_equalIn_agg w 9999 39 _ _ hS hp]
  simp only [Program.fieldsOf, Try.underlying39]
  simp only [Program.fieldsOf, Try.underlying37] at hq
  clear hS hS2
  go_simp
  by_cases h1 : i = i2 <;> by_cases h2 : x = x2 <;> by_cases h3 : y = y2 <;> by_cases h4 : r = r2 <;> by_cases h5 : t = t2 <;> by_cases h6 : u = u2 <;> simp [h1, h2, h3, h4, h5, h6, str_list]
set_option maxHeartbeats 1000000 in
theorem sameAll_eq (va vb : Value) (l : List Lb) (n0 n1 : Nat) (w : World) (ha : Lst lbE n0 w va l) (hb : Lst lbE n1 w vb l) (h0 : n0 ≤ w.heap.size) (h1 : n1 ≤ w.heap.size) :
    Calls Try.prog 13 #[va, vb] w fun e w' => e = .returned (.bool true) ∧ Below w.heap.size w w' := by
  have hlen := ha.len
  obtain ⟨a, ca, rfl, -⟩ := ha.form
  obtain ⟨b, cb, rfl, -⟩ := hb.form
  go_enter Try.func13, Try.ntmps13
  go_wp2_with fail
  go_loopw [5] (fun kk wr => ∃ k : Nat, k ≤ l.length ∧ kk = .int .i64 (k : Nat) ∧ Below w.heap.size w wr) (fun kk _ => l.length - (intOf kk).toNat)
  case atStart => exact ⟨0, Nat.zero_le _, rfl, Below.refl _ _⟩
  case round =>
    obtain ⟨k, hk, rfl, hB⟩ := hrel
    have hsz := hB.size
    by_cases hlt : k < l.length
    · have hltI : (k : Int) < (l.length : Int) := by omega
      obtain ⟨b1, o1, cap1, i, x, y, r, t, u, hv, hget, hbl, hc⟩ := ha.get hlt
      simp only [Value.slice.injEq, true_and] at hv
      obtain ⟨rfl, rfl⟩ := hv
      obtain ⟨b2, o2, cap2, i2, x2, y2, r2, t2, u2, hv, hget2, hbl2, hd⟩ := hb.get hlt
      simp only [Value.slice.injEq, true_and] at hv
      obtain ⟨rfl, rfl⟩ := hv
      rw [hget] at hget2
      simp only [Option.some.injEq, Lb.mk.injEq] at hget2
      obtain ⟨rfl, rfl, rfl, rfl, rfl, rfl⟩ := hget2
      obtain ⟨c0, c1, c2, c3, c4, c5⟩ := hc.below hB (by omega)
      obtain ⟨d0, d1, d2, d3, d4, d5⟩ := hd.below hB (by omega)
      have hg := guardLb
      have hn := neqLb i x y r u i x y r u t t
      rw [decide_eq_true rfl] at hn
      clear hc hd hget ha hb
      go_wp2_with fail
      first | with_reducible refine wp_region_grow2 (by kernel_rfl) (by kernel_rfl) ?_ | with_reducible refine wp_region_grow (by kernel_rfl) (by kernel_rfl) ?_
      repeat (first | go_big_quiet_step (fail) | quiet_step (fail))
      refine wpQuiet_nil ?_
      intro _ hw_
      obtain ⟨p, hw_⟩ := hw_
      subst hw_
      go_wp2_with fail
      go_roundw
      case rel => exact ⟨k + 1, by omega, by go_num, below_growBy' hB hsz _⟩
      case measure => simp [intOf]; omega
    · obtain rfl : k = l.length := by omega
      have hge : ¬ (l.length : Int) < (l.length : Int) := by omega
      go_wp2_with fail
      go_ret
      exact ⟨rfl, hB⟩
end Go.Proofs.Ytikojanpbbiaiaa
