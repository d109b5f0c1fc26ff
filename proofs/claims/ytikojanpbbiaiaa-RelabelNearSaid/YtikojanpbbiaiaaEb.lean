/-
  Chapter 24: what goes with a place, in plain words.
-/
import Derived.Test.YtikojanpbbiaiaaNl

namespace Go.Proofs.Ytikojanpbbiaiaa
set_option linter.unusedVariables false
set_option linter.unusedSimpArgs false
open Go Go.RowKit Go.Shelf Go.Lib Go.Sort

/-- a label without its scale -/
def bare (x : Lb) : Lb := updU x 0
theorem nearL_bare (x y : Lb) : nearL x y = nearL (bare x) (bare y) := rfl
theorem any_bare (C : List Lb) (y : Lb) : C.any (fun c => nearL c y) = (C.map bare).any (fun c => nearL c (bare y)) := by
  rw [List.any_map]
  rfl
theorem indL_at {l : List Lb} {x : Lb} {i : Nat} (h : l[i]? = some x) (hn : x ∉ l.take i) : indL l x = (i : Int) := by
  have : ∀ (l : List Lb) (k i : Nat), l[i]? = some x → x ∉ l.take i → idxByFrom (fun a b => decide (a = b)) x l k = ((k + i : Nat) : Int) := by
    intro l
    induction l with
    | nil => intro k i h; simp at h
    | cons y l ih =>
      intro k i h hn
      unfold idxByFrom
      cases i with
      | zero =>
        have e : y = x := by simpa using h
        rw [e]
        simp
      | succ i =>
        have hne : x ≠ y := fun e => hn (by rw [e]; simp)
        rw [if_neg (by simpa using fun e : x = y => hne e)]
        rw [ih (k + 1) i (by simpa using h) (fun hm => hn (by simp [hm]))]
        congr 1
        omega
  unfold indL idxBy
  rw [this l 0 i h hn]
  simp
/-- the labels of a queue are its seeds, with other scales -/
theorem makeL_get (q : List Pc) : ∀ k, k ≤ q.length → ∀ (i : Nat) (y : Lb), (makeL (q.take k))[i]? = some y → ∃ (p : Pc) (u : Int), q[i]? = some p ∧ y = lbP p u
  | 0, _, i, y, h => by simp [makeL] at h
  | k + 1, hk, i, y, h => by
    obtain ⟨p, hp⟩ : ∃ p, q[k]? = some p := ⟨_, List.getElem?_eq_getElem (by omega)⟩
    rw [makeL_succ hp] at h
    unfold makeS at h
    have hl : (makeL (q.take k)).length = k := by rw [makeL_len, List.length_take]; omega
    by_cases hi : i < k
    · rw [List.getElem?_append_left (by omega)] at h
      exact makeL_get q k (by omega) i y h
    · rw [List.getElem?_append_right (by omega), hl] at h
      have h0 : i = k := by
        have := (List.getElem?_eq_some_iff.1 h).1
        simp at this
        omega
      subst h0
      simp at h
      exact ⟨p, _, hp, h.symm⟩
theorem makeL_bare (q : List Pc) : (makeL q).map bare = q.map (fun p => lbP p 0) := by
  apply List.ext_getElem?
  intro i
  rw [List.getElem?_map, List.getElem?_map]
  by_cases hi : i < q.length
  · obtain ⟨y, hy⟩ : ∃ y, (makeL q)[i]? = some y := ⟨_, List.getElem?_eq_getElem (by rw [makeL_len]; exact hi)⟩
    obtain ⟨p, u, hp, rfl⟩ := makeL_get q q.length (Nat.le_refl _) i y (by rw [List.take_length]; exact hy)
    rw [hy, hp]
    rfl
  · rw [List.getElem?_eq_none (by rw [makeL_len]; omega), List.getElem?_eq_none (by omega)]
    rfl
theorem nodup_of_ids {l : List Lb} (h : (l.map Lb.id).Nodup) : l.Nodup := by
  rw [List.nodup_iff_pairwise_ne] at *
  rw [List.pairwise_map] at h
  exact h.imp (fun hne e => hne (by rw [e]))
/-- an index that is not reached carries over -/
theorem setU_other : ∀ (l : List Lb) (k : Nat) (u : Int) (q : Nat), q ≠ k → (setU l k u)[q]? = l[q]?
  | [], _, _, _, _ => rfl
  | s :: l, 0, u, q, h => by
    cases q with
    | zero => exact absurd rfl h
    | succ q => rfl
  | s :: l, k + 1, u, q, h => by
    cases q with
    | zero => rfl
    | succ q => simpa [setU] using setU_other l k u q (by omega)
theorem fold_other (next : List Lb) (q : Nat) : ∀ (R : List Nat) (L : List Lb), q ∉ R → (R.foldl (stepC next) L)[q]? = L[q]?
  | [], L, _ => rfl
  | k :: R, L, h => by
    rw [List.foldl_cons, fold_other next q R _ (fun hm => h (List.mem_cons_of_mem _ hm))]
    exact setU_other L k _ q (fun e => h (by rw [e]; exact List.mem_cons_self ..))
theorem now_get {sd ls nx : List Lb} {q i : Nat} {x y : Lb} (hq : q ∉ reachI sd nx nx.length) (hx : nx[q]? = some x) (hi : sd[i]? = some x) (hn : (sd.map Lb.id).Nodup) (hy : ls[i]? = some y) (hu : updU x y.unt = y) : y ∈ chgL sd ls nx := by
  have h := fold_other nx q _ (nx.map (carry sd ls)) hq
  rw [List.getElem?_map, hx] at h
  have hc : carry sd ls x = y := by
    have e := indL_at hi (nodup_notin hn hi)
    unfold carry
    rw [e, if_pos (by omega), Int.toNat_natCast]
    have : ls[i]! = y := by rw [getElem!_def, hy]
    rw [this, hu]
  rw [Option.map_some, hc] at h
  exact List.mem_of_getElem? h
theorem get_of_len {α : Type} {a : List α} {s : α} {b : List α} {j : Nat} {x : α} (h : b[j]? = some x) : (a ++ s :: b)[a.length + 1 + j]? = some x := by
  rw [List.getElem?_append_right (by omega), show a.length + 1 + j - a.length = j + 1 from by omega]
  exact h
theorem get_of_len0 {α : Type} {a b : List α} {j : Nat} {x : α} (h : b[j]? = some x) : (a ++ b)[a.length + j]? = some x := by
  rw [List.getElem?_append_right (by omega), show a.length + j - a.length = j from by omega]
  exact h
theorem take_of_len {α : Type} (a : List α) (s : α) (b : List α) (j : Nat) : (a ++ s :: b).take (a.length + 1 + j) = a ++ s :: b.take j := by
  rw [List.take_append, List.take_of_length_le (by omega), show a.length + 1 + j - a.length = j + 1 from by omega, List.take_succ_cons]
theorem take_of_len0 {α : Type} (a b : List α) (j : Nat) : (a ++ b).take (a.length + j) = a ++ b.take j := by
  rw [List.take_append, List.take_of_length_le (by omega), show a.length + j - a.length = j from by omega]
section
variable {a b : List Lb} {s : Lb}
theorem twice_no {l : List Lb} (h : (l.map Lb.id).Nodup) : twiceL l = false := by unfold twiceL; simpa using h
theorem nodup_less (h : ((a ++ s :: b).map Lb.id).Nodup) : ((a ++ b).map Lb.id).Nodup := by
  have : ((a ++ b).map Lb.id).Sublist ((a ++ s :: b).map Lb.id) := List.Sublist.map _ (List.Sublist.append (List.Sublist.refl _) (List.sublist_cons_self _ _))
  exact this.nodup h
theorem same_before (h : ((a ++ s :: b).map Lb.id).Nodup) {k : Nat} {x : Lb} (hx : a[k]? = some x) : sameL (a ++ s :: b) (a ++ b) k x = true := by
  have hk := (List.getElem?_eq_some_iff.1 hx).1
  have hg : (a ++ s :: b)[k]? = some x := by rw [List.getElem?_append_left hk]; exact hx
  unfold sameL keptL
  rw [twice_no h, twice_no (nodup_less h), idxL_some _ x k hg (nodup_notin h hg)]
  have e : surr (a ++ s :: b) k x = surr (a ++ b) k x := by
    unfold surr
    rw [List.take_append_of_le_length (by omega), List.take_append_of_le_length (by omega)]
  simp only [e, withinL_refl]
  rfl
theorem same_behind (h : ((a ++ s :: b).map Lb.id).Nodup) {j : Nat} {x : Lb} (hx : b[j]? = some x) : sameL (a ++ s :: b) (a ++ b) (a.length + j) x = !nearL s x := by
  have hg := get_of_len (a := a) (s := s) hx
  have hs : s ∉ a ++ b.take j := by
    have h2 := nodup_of_ids h
    rw [List.nodup_append] at h2
    obtain ⟨-, h3, h4⟩ := h2
    intro hm
    rcases List.mem_append.1 hm with hm | hm
    · exact h4 s hm s (List.mem_cons_self ..) rfl
    · exact (List.nodup_cons.1 h3).1 (List.mem_of_mem_take hm)
  unfold sameL keptL
  rw [twice_no h, twice_no (nodup_less h), idxL_some _ x _ hg (nodup_notin h hg)]
  simp only [Bool.or_self, Bool.not_false, Bool.true_and]
  unfold surr
  rw [take_of_len, take_of_len0]
  have h2 : withinL ((a ++ b.take j).filter (fun y => nearL y x)) ((a ++ s :: b.take j).filter (fun y => nearL y x)) = true := by
    unfold withinL
    rw [List.all_eq_true]
    intro y hy
    rw [List.mem_filter] at hy
    refine decide_eq_true (List.mem_filter.2 ⟨?_, hy.2⟩)
    rcases List.mem_append.1 hy.1 with hm | hm
    · exact List.mem_append_left _ hm
    · exact List.mem_append_right _ (List.mem_cons_of_mem _ hm)
  rw [h2, Bool.and_true]
  cases hn : nearL s x with
  | true =>
    have : withinL ((a ++ s :: b.take j).filter (fun y => nearL y x)) ((a ++ b.take j).filter (fun y => nearL y x)) = false := by
      unfold withinL
      rw [List.all_eq_false]
      refine ⟨s, List.mem_filter.2 ⟨List.mem_append_right _ (List.mem_cons_self ..), hn⟩, ?_⟩
      intro he
      exact hs (List.mem_filter.1 (of_decide_eq_true he)).1
    rw [this]
    rfl
  | false =>
    have : withinL ((a ++ s :: b.take j).filter (fun y => nearL y x)) ((a ++ b.take j).filter (fun y => nearL y x)) = true := by
      unfold withinL
      rw [List.all_eq_true]
      intro y hy
      rw [List.mem_filter] at hy
      refine decide_eq_true (List.mem_filter.2 ⟨?_, hy.2⟩)
      rcases List.mem_append.1 hy.1 with hm | hm
      · exact List.mem_append_left _ hm
      · rcases List.mem_cons.1 hm with rfl | hm
        · rw [hn] at hy; exact absurd hy.2 (by decide)
        · exact List.mem_append_right _ hm
    rw [this]
    rfl
theorem reach_before (h : ((a ++ s :: b).map Lb.id).Nodup) : ∀ k, k ≤ a.length → reachI (a ++ s :: b) (a ++ b) k = []
  | 0, _ => rfl
  | k + 1, hk => by
    have ih := reach_before h k (by omega)
    unfold reachI
    have hx : (a ++ b)[k]? = some a[k] := by rw [List.getElem?_append_left (by omega)]; exact List.getElem?_eq_getElem _
    rw [hx]
    simp only
    rw [same_before h (List.getElem?_eq_getElem (by omega)), ih]
    rfl
/-- the chain: the label that goes, and all that are reached -/
def chainOf (s : Lb) (nx : List Lb) (R : List Nat) : List Lb := s :: R.filterMap (fun i => nx[i]?)
theorem any_filterMap (nx : List Lb) (x : Lb) : ∀ R : List Nat, (R.any fun i => (nx[i]?).any fun y => nearL y x) = (R.filterMap (fun i => nx[i]?)).any (fun y => nearL y x)
  | [] => rfl
  | i :: R => by
    rw [List.any_cons, any_filterMap nx x R, List.filterMap_cons]
    cases nx[i]? <;> simp
theorem reach_behind (h : ((a ++ s :: b).map Lb.id).Nodup) {j : Nat} {x : Lb} (hx : b[j]? = some x) :
    reachI (a ++ s :: b) (a ++ b) (a.length + (j + 1)) = if (chainOf s (a ++ b) (reachI (a ++ s :: b) (a ++ b) (a.length + j))).any (fun c => nearL c x) then reachI (a ++ s :: b) (a ++ b) (a.length + j) ++ [a.length + j] else reachI (a ++ s :: b) (a ++ b) (a.length + j) := by
  rw [← Nat.add_assoc]
  conv => lhs; unfold reachI
  rw [get_of_len0 hx]
  simp only
  rw [same_behind h hx, any_filterMap, Bool.not_not]
  unfold chainOf
  rw [List.any_cons]
end
/-- what the law's loop holds -/
structure NSt where
  C : List Lb
  bh : Bool
  m : Nat
def nStep (pid : Int) (t : NSt) (y : Lb) : NSt := if y.id = pid then ⟨t.C ++ [y], true, t.m⟩ else if t.C.any (fun c => nearL c y) then ⟨t.C ++ [y], t.bh, t.m + 1⟩ else t
def nRun (pid : Int) (ys : List Lb) : NSt := ys.foldl (nStep pid) ⟨[], false, 0⟩
theorem nRun_succ {pid : Int} {ys : List Lb} {k : Nat} {y : Lb} (h : ys[k]? = some y) : nRun pid (ys.take (k + 1)) = nStep pid (nRun pid (ys.take k)) y := by
  unfold nRun
  rw [List.take_add_one, h, List.foldl_append]
  rfl
theorem nRun_none {pid : Int} : ∀ (ys : List Lb), (∀ y ∈ ys, y.id ≠ pid) → nRun pid ys = ⟨[], false, 0⟩ := by
  intro ys
  have : ∀ (ys : List Lb), (∀ y ∈ ys, y.id ≠ pid) → ys.foldl (nStep pid) ⟨[], false, 0⟩ = ⟨[], false, 0⟩ := by
    intro ys
    induction ys with
    | nil => intro _; rfl
    | cons y ys ih =>
      intro h
      rw [List.foldl_cons]
      have e : nStep pid ⟨[], false, 0⟩ y = ⟨[], false, 0⟩ := by
        unfold nStep
        rw [if_neg (h y (List.mem_cons_self ..))]
        rfl
      rw [e]
      exact ih (fun z hz => h z (List.mem_cons_of_mem _ hz))
  exact this ys
section
variable {a b ys : List Lb} {s : Lb}
theorem bare_at (hb : ys.map bare = (a ++ s :: b).map bare) {i : Nat} {x : Lb} (hx : (a ++ s :: b)[i]? = some x) : ∃ y, ys[i]? = some y ∧ bare y = bare x := by
  have h := congrArg (fun l : List Lb => l[i]?) hb
  simp only [List.getElem?_map, hx, Option.map_some] at h
  cases hy : ys[i]? with
  | none => rw [hy] at h; cases h
  | some y => rw [hy] at h; exact ⟨y, rfl, Option.some.inj h⟩
theorem bare_id {x y : Lb} (h : bare y = bare x) : y.id = x.id := by
  have := congrArg Lb.id h
  exact this
theorem bare_upd {x y : Lb} (h : bare y = bare x) : updU x y.unt = y := by
  obtain ⟨i, x1, y1, r, t, u⟩ := x
  obtain ⟨i', x1', y1', r', t', u'⟩ := y
  unfold bare updU at h
  simp only [Lb.mk.injEq] at h
  obtain ⟨rfl, rfl, rfl, rfl, rfl, -⟩ := h
  rfl
theorem ids_other (h : ((a ++ s :: b).map Lb.id).Nodup) {x : Lb} (hx : x ∈ a ∨ x ∈ b) : x.id ≠ s.id := by
  rw [List.map_append, List.map_cons, List.nodup_append] at h
  obtain ⟨-, h2, h3⟩ := h
  rcases hx with hx | hx
  · exact h3 x.id (List.mem_map_of_mem hx) s.id (List.mem_cons_self ..)
  · intro e
    exact (List.nodup_cons.1 h2).1 (e ▸ List.mem_map_of_mem hx)
theorem near_run (h : ((a ++ s :: b).map Lb.id).Nodup) (hb : ys.map bare = (a ++ s :: b).map bare) : ∀ j, j ≤ b.length →
    (nRun s.id (ys.take (a.length + 1 + j))).C.map bare = (chainOf s (a ++ b) (reachI (a ++ s :: b) (a ++ b) (a.length + j))).map bare ∧ (nRun s.id (ys.take (a.length + 1 + j))).bh = true ∧ (nRun s.id (ys.take (a.length + 1 + j))).m = (reachI (a ++ s :: b) (a ++ b) (a.length + j)).length
  | 0, _ => by
    have hx : (a ++ s :: b)[a.length]? = some s := by rw [List.getElem?_append_right (by omega), Nat.sub_self]; rfl
    obtain ⟨y, hy, hby⟩ := bare_at hb hx
    have h0 : nRun s.id (ys.take a.length) = ⟨[], false, 0⟩ := by
      apply nRun_none
      intro z hz
      obtain ⟨i, hi, hzi⟩ := List.mem_take_iff_getElem.1 hz
      have hia : i < a.length := by omega
      obtain ⟨y', hy', hb'⟩ := bare_at hb (i := i) (x := a[i]) (by rw [List.getElem?_append_left hia]; exact List.getElem?_eq_getElem _)
      have e : y' = z := by
        rw [List.getElem?_eq_getElem (by omega)] at hy'
        exact (Option.some.inj hy').symm.trans hzi
      rw [← e, bare_id hb']
      exact ids_other h (.inl (List.getElem_mem _))
    simp only [Nat.add_zero]
    rw [nRun_succ hy, h0, reach_before h a.length (Nat.le_refl _)]
    unfold nStep
    rw [if_pos (bare_id hby)]
    exact ⟨by simp [chainOf, hby], rfl, rfl⟩
  | j + 1, hj => by
    obtain ⟨i1, i2, i3⟩ := near_run h hb j (by omega)
    obtain ⟨x, hx⟩ : ∃ x, b[j]? = some x := ⟨_, List.getElem?_eq_getElem (by omega)⟩
    obtain ⟨y, hy, hby⟩ := bare_at hb (get_of_len (a := a) (s := s) hx)
    have hne : y.id ≠ s.id := by rw [bare_id hby]; exact ids_other h (.inr (List.mem_of_getElem? hx))
    rw [show a.length + 1 + (j + 1) = (a.length + 1 + j) + 1 from by omega, nRun_succ hy, reach_behind h hx]
    obtain ⟨t, ht⟩ : ∃ t, nRun s.id (ys.take (a.length + 1 + j)) = t := ⟨_, rfl⟩
    obtain ⟨R, hR⟩ : ∃ R, reachI (a ++ s :: b) (a ++ b) (a.length + j) = R := ⟨_, rfl⟩
    rw [ht, hR] at i1 i3
    rw [ht] at i2
    rw [ht, hR]
    have hc : t.C.any (fun c => nearL c y) = (chainOf s (a ++ b) R).any (fun c => nearL c x) := by
      rw [any_bare, i1, hby, ← any_bare]
    unfold nStep
    rw [if_neg hne, hc]
    split
    · refine ⟨?_, i2, ?_⟩
      · show (t.C ++ [y]).map bare = _
        rw [List.map_append, i1]
        unfold chainOf
        rw [List.filterMap_append, List.filterMap_cons, get_of_len0 hx]
        simp [hby]
      · show t.m + 1 = _
        rw [i3, List.length_append]
        rfl
    · exact ⟨i1, i2, i3⟩
theorem reach_ge (h : ((a ++ s :: b).map Lb.id).Nodup) : ∀ k r, r ∈ reachI (a ++ s :: b) (a ++ b) k → a.length ≤ r
  | 0, r, hr => by simp [reachI] at hr
  | k + 1, r, hr => by
    by_cases hk : k + 1 ≤ a.length
    · rw [reach_before h (k + 1) hk] at hr
      simp at hr
    · have ih := reach_ge h k r
      unfold reachI at hr
      split at hr
      · exact ih hr
      · split at hr
        · rcases List.mem_append.1 hr with hr | hr
          · exact ih hr
          · have := List.mem_singleton.1 hr
            omega
        · exact ih hr
theorem reach_later (old nx : List Lb) (q : Nat) : ∀ k, q < k → (q ∈ reachI old nx k ↔ q ∈ reachI old nx (q + 1))
  | 0, hk => by omega
  | k + 1, hk => by
    by_cases e : q = k
    · subst e; exact Iff.rfl
    · have ih := reach_later old nx q k (by omega)
      rw [← ih]
      have := reachI_mem_succ old nx k q (by omega)
      exact decide_eq_decide.1 this
theorem near_main (h : ((a ++ s :: b).map Lb.id).Nodup) (hb : ys.map bare = (a ++ s :: b).map bare) :
    (∀ i y, ys[i]? = some y → y.id = s.id ∨ y ∈ chgL (a ++ s :: b) ys (a ++ b) ∨ ((nRun s.id (ys.take i)).bh = true ∧ (nRun s.id (ys.take i)).C.any (fun c => nearL c y) = true)) ∧ (nRun s.id ys).m = (reachI (a ++ s :: b) (a ++ b) (a ++ b).length).length := by
  have hlen : ys.length = a.length + 1 + b.length := by
    have := congrArg List.length hb
    simp at this
    omega
  refine ⟨fun i y hy => ?_, ?_⟩
  · have hil := (List.getElem?_eq_some_iff.1 hy).1
    by_cases hi : i < a.length
    · have hx : (a ++ s :: b)[i]? = some a[i] := by rw [List.getElem?_append_left hi]; exact List.getElem?_eq_getElem _
      obtain ⟨y', hy', hby⟩ := bare_at hb hx
      rw [hy] at hy'
      cases hy'
      refine .inr (.inl (now_get (q := i) (fun hm => ?_) (by rw [List.getElem?_append_left hi]; exact List.getElem?_eq_getElem _) hx h hy (bare_upd hby)))
      have := reach_ge h _ _ hm
      omega
    · by_cases hi2 : i = a.length
      · subst hi2
        have hx : (a ++ s :: b)[a.length]? = some s := by rw [List.getElem?_append_right (by omega), Nat.sub_self]; rfl
        obtain ⟨y', hy', hby⟩ := bare_at hb hx
        rw [hy] at hy'
        cases hy'
        exact .inl (bare_id hby)
      · obtain ⟨j, rfl⟩ : ∃ j, i = a.length + 1 + j := ⟨i - a.length - 1, by omega⟩
        have hjb : j < b.length := by omega
        have hx : b[j]? = some b[j] := List.getElem?_eq_getElem hjb
        obtain ⟨y', hy', hby⟩ := bare_at hb (get_of_len (a := a) (s := s) hx)
        rw [hy] at hy'
        cases hy'
        obtain ⟨i1, i2, i3⟩ := near_run h hb j (by omega)
        cases hc : (chainOf s (a ++ b) (reachI (a ++ s :: b) (a ++ b) (a.length + j))).any (fun c => nearL c b[j]) with
        | true =>
          refine .inr (.inr ⟨i2, ?_⟩)
          rw [any_bare, i1, hby, ← any_bare]
          exact hc
        | false =>
          refine .inr (.inl (now_get (q := a.length + j) (fun hm => ?_) (get_of_len0 hx) (get_of_len hx) h hy (bare_upd hby)))
          rw [reach_later _ _ _ _ (by rw [List.length_append]; omega), Nat.add_assoc, reach_behind h hx, hc] at hm
          have := reachI_lt _ _ _ _ hm
          omega
  · have := (near_run h hb b.length (Nat.le_refl _)).2.2
    rw [← hlen, List.take_length] at this
    rw [this, List.length_append]
end
/-- the queue without a place that goes -/
theorem queue_less {l1 l2 : List Pc} {p : Pc} (hn : PcNodup (l1 ++ p :: l2)) (hp : noName p = false) : ∃ A B, queueL (l1 ++ p :: l2) = A ++ p :: B ∧ queueL (l1 ++ l2) = A ++ B := by
  have hq := queueL_perm (l1 ++ p :: l2)
  have hq2 := queueL_perm (l1 ++ l2)
  rw [List.filter_append, List.filter_cons, hp] at hq
  simp only [Bool.not_false, if_true] at hq
  rw [List.filter_append] at hq2
  obtain ⟨A, B, hAB⟩ := List.append_of_mem (hq.mem_iff.2 (List.mem_append_right _ (List.mem_cons_self ..)))
  refine ⟨A, B, hAB, ?_⟩
  rw [hAB] at hq
  have h1 : (A ++ B).Perm (l1.filter (fun x => !noName x) ++ l2.filter (fun x => !noName x)) := by
    have := List.perm_middle.symm.trans (hq.trans List.perm_middle)
    exact this.cons_inv
  have hs1 : (A ++ p :: B).Pairwise (fun a b => ltOf cmpP b a = false) := by
    rw [← hAB]
    exact sortP_sorted _
  have hs2 : (A ++ B).Pairwise (fun a b => ltOf cmpP b a = false) := hs1.sublist (List.Sublist.append (List.Sublist.refl _) (List.sublist_cons_self _ _))
  refine List.Perm.eq_of_pairwise (fun x y hx hy h1' h2' => ?_) (sortP_sorted _) hs2 (hq2.trans h1.symm)
  have e : x.id = y.id := by
    rw [lt_not] at h1' h2'
    omega
  have hx2 : x ∈ l1 ++ p :: l2 := by
    have := hq2.mem_iff.1 hx
    rw [← List.filter_append] at this
    have := (List.mem_filter.1 this).1
    rcases List.mem_append.1 this with h | h
    · exact List.mem_append_left _ h
    · exact List.mem_append_right _ (List.mem_cons_of_mem _ h)
  have hy2 : y ∈ l1 ++ p :: l2 := by
    have := h1.mem_iff.1 hy
    rw [← List.filter_append] at this
    have := (List.mem_filter.1 this).1
    rcases List.mem_append.1 this with h | h
    · exact List.mem_append_left _ h
    · exact List.mem_append_right _ (List.mem_cons_of_mem _ h)
  obtain ⟨i, hi, hxi⟩ := List.getElem_of_mem hx2
  obtain ⟨j, hj, hyj⟩ := List.getElem_of_mem hy2
  unfold PcNodup at hn
  rw [List.nodup_iff_pairwise_ne, List.pairwise_iff_getElem] at hn
  rcases Nat.lt_trichotomy i j with h | h | h
  · have := hn i j (by simpa using hi) (by simpa using hj) h
    rw [List.getElem_map, List.getElem_map, hxi, hyj] at this
    exact absurd e this
  · subst h
    rw [← hxi, ← hyj]
  · have := hn j i (by simpa using hj) (by simpa using hi) h
    rw [List.getElem_map, List.getElem_map, hxi, hyj] at this
    exact absurd e.symm this
theorem queue_skip {l1 l2 : List Pc} {p : Pc} (hp : noName p = true) : queueL (l1 ++ l2) = queueL (l1 ++ p :: l2) := by
  unfold queueL
  rw [List.filter_append, List.filter_append, List.filter_cons]
  simp [hp]
/-- P24.4, P24.6: what goes with a place -/
theorem near_plain {l1 l2 : List Pc} {p : Pc} (hn : PcNodup (l1 ++ p :: l2)) :
    (∀ i y, (makeL (queueL (l1 ++ p :: l2)))[i]? = some y → y.id = p.id ∨ y ∈ chgL (seedsL (l1 ++ p :: l2)) (makeL (queueL (l1 ++ p :: l2))) (seedsL (l1 ++ l2)) ∨ ((nRun p.id ((makeL (queueL (l1 ++ p :: l2))).take i)).bh = true ∧ (nRun p.id ((makeL (queueL (l1 ++ p :: l2))).take i)).C.any (fun c => nearL c y) = true)) ∧
    (nRun p.id (makeL (queueL (l1 ++ p :: l2)))).m = (reachI (seedsL (l1 ++ p :: l2)) (seedsL (l1 ++ l2)) (seedsL (l1 ++ l2)).length).length := by
  cases hp : noName p with
  | true =>
    have hq := queue_skip (l1 := l1) (l2 := l2) hp
    have hsd : seedsL (l1 ++ l2) = seedsL (l1 ++ p :: l2) := by unfold seedsL; rw [hq]
    have hnd := hn.seeds
    rw [hsd, reachI_self _ hnd]
    obtain ⟨q, hqe⟩ : ∃ q, queueL (l1 ++ p :: l2) = q := ⟨_, rfl⟩
    have hse : seedsL (l1 ++ p :: l2) = q.map (fun p => lbP p 1024) := by unfold seedsL; rw [hqe]
    rw [hse] at hnd
    rw [hqe, hse]
    have hother : ∀ y ∈ makeL q, y.id ≠ p.id := by
      intro y hy
      obtain ⟨i, hi, hyi⟩ := List.getElem_of_mem hy
      obtain ⟨p', u, hp', rfl⟩ := makeL_get q q.length (Nat.le_refl _) i y (by rw [List.take_length, List.getElem?_eq_getElem hi, hyi])
      have hm : p' ∈ q := List.mem_of_getElem? hp'
      have hmem : p' ∈ (l1 ++ p :: l2).filter (fun x => !noName x) := by
        have := queueL_perm (l1 ++ p :: l2)
        rw [hqe] at this
        exact this.mem_iff.1 hm
      obtain ⟨hm2, hnm⟩ := List.mem_filter.1 hmem
      intro e
      have e2 : p'.id = p.id := e
      have hne : p' ≠ p := fun e3 => by rw [e3, hp] at hnm; exact absurd hnm (by decide)
      unfold PcNodup at hn
      rw [List.map_append, List.map_cons, List.nodup_append] at hn
      obtain ⟨-, h2, h3⟩ := hn
      rcases List.mem_append.1 hm2 with h | h
      · exact h3 p'.id (List.mem_map_of_mem h) p.id (List.mem_cons_self ..) e2
      · rcases List.mem_cons.1 h with h | h
        · exact hne h
        · exact (List.nodup_cons.1 h2).1 (e2 ▸ List.mem_map_of_mem h)
    refine ⟨fun i y hy => .inr (.inl ?_), ?_⟩
    · obtain ⟨p', u, hp', rfl⟩ := makeL_get q q.length (Nat.le_refl _) i y (by rw [List.take_length]; exact hy)
      exact now_get (q := i) (i := i) (by rw [reachI_self _ hnd]; simp) (seeds_get hp') (seeds_get hp') hnd hy rfl
    · rw [nRun_none _ hother]
      rfl
  | false =>
    obtain ⟨A, B, h1, h2⟩ := queue_less hn hp
    have hnd := hn.seeds
    have e1 : seedsL (l1 ++ p :: l2) = A.map (fun p => lbP p 1024) ++ lbP p 1024 :: B.map (fun p => lbP p 1024) := by unfold seedsL; rw [h1, List.map_append, List.map_cons]
    have e2 : seedsL (l1 ++ l2) = A.map (fun p => lbP p 1024) ++ B.map (fun p => lbP p 1024) := by unfold seedsL; rw [h2, List.map_append]
    rw [e1] at hnd
    rw [e1, e2]
    have hb : (makeL (queueL (l1 ++ p :: l2))).map bare = (A.map (fun p => lbP p 1024) ++ lbP p 1024 :: B.map (fun p => lbP p 1024)).map bare := by
      rw [makeL_bare, h1, List.map_append, List.map_append, List.map_cons, List.map_cons, List.map_map, List.map_map]
      rfl
    exact near_main hnd hb
end Go.Proofs.Ytikojanpbbiaiaa
