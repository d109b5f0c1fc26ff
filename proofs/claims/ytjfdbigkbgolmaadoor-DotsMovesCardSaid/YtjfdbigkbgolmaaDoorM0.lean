/-
  Chapter 29: the entries of a list of ways, in plain Lean: their order plays no part; nor does a move of everything.
-/
import Derived.Test.YtjfdbigkbgolmaaDoorW1
import Derived.Test.YtjfdbigkbgolmaaDoorU0
namespace Go.Proofs.YtjfdbigkbgolmaaDoor
set_option linter.unusedVariables false
set_option linter.unusedSimpArgs false
open Go.RowKit Go.Shelf

/-- the piece of a way behind its k-th point -/
def wayLine (s : Sh) (ps : List Spot) (k : Nat) : List NSpot := lineL s (ps.getD k (0, 0)) (ps.getD (min (k + 1) (ps.length - 1)) (0, 0))
def wayPut (s : Sh) (id : Int) (ps : List Spot) (en : List (Spot × Int)) (t : Nat) : List (Spot × Int) := (List.range t).foldl (fun en k => linePut s id en (wayLine s ps k)) en
theorem wayPut_zero (s : Sh) (id : Int) (ps : List Spot) (en : List (Spot × Int)) : wayPut s id ps en 0 = en := rfl
theorem wayPut_succ (s : Sh) (id : Int) (ps : List Spot) (en : List (Spot × Int)) (t : Nat) : wayPut s id ps en (t + 1) = linePut s id (wayPut s id ps en t) (wayLine s ps t) := by
  unfold wayPut
  rw [List.range_succ, List.foldl_append]
  rfl
def rightL (ps : List Spot) : Bool := ps.all fun p => rightP p.1 p.2
/-- the entries behind ways: an Id, and points, for each -/
def waysE (s : Sh) (en : List (Spot × Int)) (ws : List (Int × List Spot)) : List (Spot × Int) := ws.foldl (fun en w => if rightL w.2 then wayPut s w.1 w.2 en w.2.length else en) en
theorem waysE_snoc (s : Sh) (en : List (Spot × Int)) (ws : List (Int × List Spot)) (w : Int × List Spot) : waysE s en (ws ++ [w]) = if rightL w.2 then wayPut s w.1 w.2 (waysE s en ws) w.2.length else waysE s en ws := by
  unfold waysE
  rw [List.foldl_append]
  rfl
theorem waysE_take (s : Sh) (ws : List (Int × List Spot)) (t : Nat) (h : t < ws.length) : waysE s [] (ws.take (t + 1)) = if rightL ws[t].2 then wayPut s ws[t].1 ws[t].2 (waysE s [] (ws.take t)) ws[t].2.length else waysE s [] (ws.take t) := by
  rw [List.take_add_one, List.getElem?_eq_getElem h]
  exact waysE_snoc _ _ _ _

/-! ### what ways contribute, one by one -/
def putC (s : Sh) (en : List (Spot × Int)) (c : Spot × Int) : List (Spot × Int) := wput s c.2 en c.1
def contr (s : Sh) (w : Int × List Spot) : List (Spot × Int) := if rightL w.2 then ((List.range w.2.length).flatMap (wayLine s w.2)).map (fun d => (d.1, w.1)) else []
theorem linePut_fold (s : Sh) (id : Int) (l : List NSpot) (en : List (Spot × Int)) : linePut s id en l = (l.map (fun d => (d.1, id))).foldl (putC s) en := by
  unfold linePut
  rw [List.foldl_map]
  rfl
theorem wayPut_fold (s : Sh) (id : Int) (ps : List Spot) (en : List (Spot × Int)) (t : Nat) : wayPut s id ps en t = (((List.range t).flatMap (wayLine s ps)).map (fun d => (d.1, id))).foldl (putC s) en := by
  induction t with
  | zero => rfl
  | succ t ih =>
    rw [wayPut_succ, ih, linePut_fold, List.range_succ, List.flatMap_append, List.map_append, List.foldl_append]
    simp
theorem waysE_fold (s : Sh) : ∀ (ws : List (Int × List Spot)) (en : List (Spot × Int)), waysE s en ws = (ws.flatMap (contr s)).foldl (putC s) en
  | [], en => rfl
  | w :: ws, en => by
    rw [List.flatMap_cons, List.foldl_append, ← waysE_fold s ws]
    unfold waysE
    rw [List.foldl_cons]
    congr 1
    unfold contr
    split
    · rw [wayPut_fold]
    · rfl

theorem hasK_idOf (en : List (Spot × Int)) (p : Spot) : hasK en p = (idOf en p).isSome := by
  unfold hasK idOf
  rw [Option.isSome_map, Bool.eq_iff_iff, List.find?_isSome, List.any_eq_true]
/-- the lesser of an Id and what is there -/
def lessO (id : Int) : Option Int → Int
  | none => id
  | some o => if id < o then id else o
theorem idOf_wput (s : Sh) (id : Int) (en : List (Spot × Int)) (d q : Spot) : idOf (wput s id en d) q = if q = d ∧ onS s d.1 d.2 = true then some (lessO id (idOf en d)) else idOf en q := by
  unfold wput
  rw [hasK_idOf]
  cases hon : onS s d.1 d.2 with
  | false => simp
  | true =>
    cases ho : idOf en d with
    | none =>
      simp only [Option.isSome_none, Bool.not_false, Bool.true_or, Bool.and_self, if_true, idOf_put, and_true, lessO]
    | some o =>
      simp only [Option.isSome_some, Bool.not_true, Bool.false_or, Bool.true_and, Option.getD_some, and_true, lessO, decide_eq_true_eq]
      split
      · rw [idOf_put]
      · split
        · rename_i h; rw [h]; exact ho
        · rfl
def SameE (a b : List (Spot × Int)) : Prop := ∀ p, idOf a p = idOf b p
theorem SameE.put {s : Sh} {a b : List (Spot × Int)} (h : SameE a b) (c : Spot × Int) : SameE (putC s a c) (putC s b c) := by
  intro q
  unfold putC
  rw [idOf_wput, idOf_wput, h q, h c.1]
theorem SameE.fold {s : Sh} : ∀ (l : List (Spot × Int)) {a b : List (Spot × Int)}, SameE a b → SameE (l.foldl (putC s) a) (l.foldl (putC s) b)
  | [], _, _, h => h
  | c :: l, _, _, h => SameE.fold l (h.put c)
theorem lessO_comm (x y : Int) (o : Option Int) : lessO x (some (lessO y o)) = lessO y (some (lessO x o)) := by
  cases o <;> simp only [lessO] <;> repeat' split
  all_goals omega
theorem putC_comm (s : Sh) (en : List (Spot × Int)) (x y : Spot × Int) : SameE (putC s (putC s en x) y) (putC s (putC s en y) x) := by
  intro q
  obtain ⟨dx, ix⟩ := x
  obtain ⟨dy, iy⟩ := y
  unfold putC
  simp only [idOf_wput]
  by_cases hxy : dx = dy
  · subst hxy
    by_cases hon : onS s dx.1 dx.2 = true
    · by_cases hq : q = dx
      · subst hq
        simp only [hon, and_self, if_true]
        rw [lessO_comm]
      · simp [hq]
    · simp [hon]
  · have hyx : ¬ dy = dx := fun e => hxy e.symm
    by_cases hqx : q = dx
    · subst hqx
      simp [hxy]
    · by_cases hqy : q = dy
      · subst hqy
        simp [hyx]
      · simp [hqx, hqy]
theorem fold_perm {s : Sh} {l l' : List (Spot × Int)} (h : l.Perm l') : ∀ en, SameE (l.foldl (putC s) en) (l'.foldl (putC s) en) := by
  induction h with
  | nil => exact fun _ _ => rfl
  | cons x _ ih => exact fun en => ih (putC s en x)
  | swap x y l => exact fun en => SameE.fold l (putC_comm s en y x)
  | trans _ _ ih1 ih2 => exact fun en p => (ih1 en p).trans (ih2 en p)
theorem putC_nodup (s : Sh) (en : List (Spot × Int)) (c : Spot × Int) (h : (en.map (·.1)).Nodup) : ((putC s en c).map (·.1)).Nodup := by
  unfold putC wput
  split
  · rw [putE_keys]
    split
    · exact h
    · rename_i hk
      rw [List.nodup_append]
      refine ⟨h, by simp, fun a ha b hb => ?_⟩
      obtain rfl : b = c.1 := by simpa using hb
      exact fun e => hk (hasK_iff.2 (e ▸ ha))
  · exact h
theorem fold_nodup (s : Sh) : ∀ (l : List (Spot × Int)) (en : List (Spot × Int)), (en.map (·.1)).Nodup → ((l.foldl (putC s) en).map (·.1)).Nodup
  | [], _, h => h
  | c :: l, en, h => fold_nodup s l (putC s en c) (putC_nodup s en c h)
/-- the dots are those of the numbers that are found -/
theorem dots_same {k : Int} {a b : List (Spot × Int)} (ha : (a.map (·.1)).Nodup) (hb : (b.map (·.1)).Nodup) (h : SameE a b) : dotsS k a = dotsS k b := by
  have hm : ∀ p, p ∈ a.map (·.1) ↔ p ∈ b.map (·.1) := fun p => by rw [← hasK_iff, ← hasK_iff, hasK_idOf, hasK_idOf, h p]
  have hp : (a.map (·.1)).Perm (b.map (·.1)) := (List.perm_ext_iff_of_nodup ha hb).2 hm
  have hk : keysS a = keysS b := keysS_uniq (((List.mergeSort_perm _ _).trans hp).trans (List.mergeSort_perm _ _).symm) (List.pairwise_mergeSort leS_trans leS_total _)
  unfold dotsS
  rw [hk]
  exact List.map_congr_left fun p _ => by rw [h p]
theorem ways_perm {k : Int} {s : Sh} {ws ws' : List (Int × List Spot)} (h : ws.Perm ws') : dotsS k (waysE s [] ws) = dotsS k (waysE s [] ws') := by
  rw [waysE_fold, waysE_fold]
  exact dots_same (fold_nodup _ _ _ (by simp)) (fold_nodup _ _ _ (by simp)) (fold_perm (h.flatMap_right _) _)

/-! ### how many entries there are -/
theorem nodup_lt : ∀ (n : Nat) (l : List Nat), l.Nodup → (∀ x ∈ l, x < n) → l.length ≤ n
  | 0, l, _, h => by
    match l, h with
    | [], _ => simp
    | x :: _, h => exact absurd (h x List.mem_cons_self) (by omega)
  | n + 1, l, hn, h => by
    by_cases hm : n ∈ l
    · have h1 := nodup_lt n (l.erase n) (hn.erase n) (fun x hx => by
        have := h x (List.mem_of_mem_erase hx)
        have hne : x ≠ n := fun e => by subst e; exact (List.Nodup.not_mem_erase hn) hx
        omega)
      have h2 := List.length_erase_of_mem hm
      omega
    · have h1 := nodup_lt n l hn (fun x hx => by
        have := h x hx
        have hne : x ≠ n := fun e => hm (e ▸ hx)
        omega)
      omega
theorem putC_on (s : Sh) (en : List (Spot × Int)) (c : Spot × Int) (h : ∀ p ∈ en.map (·.1), onS s p.1 p.2 = true) : ∀ p ∈ (putC s en c).map (·.1), onS s p.1 p.2 = true := by
  intro p hp
  unfold putC wput at hp
  split at hp
  · rename_i hc
    rw [putE_keys] at hp
    split at hp
    · exact h p hp
    · rcases List.mem_append.1 hp with hp | hp
      · exact h p hp
      · obtain rfl : p = c.1 := by simpa using hp
        simp only [Bool.and_eq_true] at hc
        exact hc.1
  · exact h p hp
theorem fold_on (s : Sh) : ∀ (l : List (Spot × Int)) (en : List (Spot × Int)), (∀ p ∈ en.map (·.1), onS s p.1 p.2 = true) → ∀ p ∈ (l.foldl (putC s) en).map (·.1), onS s p.1 p.2 = true
  | [], _, h => h
  | c :: l, en, h => fold_on s l (putC s en c) (putC_on s en c h)
theorem on_length {s : Sh} (hs : OkS s) {en : List (Spot × Int)} (hn : (en.map (·.1)).Nodup) (h : ∀ p ∈ en.map (·.1), onS s p.1 p.2 = true) : en.length ≤ 6480 := by
  have key : ∀ l : List Spot, l.Nodup → (∀ p ∈ l, onS s p.1 p.2 = true) → l.length ≤ 6480 := by
    intro l hl hon
    have h1 : (l.map fun p => p.1.toNat * 81 + p.2.toNat).Nodup := by
      rw [List.nodup_iff_pairwise_ne, List.pairwise_map]
      have hl' : ∀ {a b : Spot}, [a, b].Sublist l → a ≠ b := List.pairwise_iff_forall_sublist.1 (List.nodup_iff_pairwise_ne.1 hl)
      refine List.pairwise_iff_forall_sublist.2 (fun {a b} hab e => ?_)
      have ha := onS_iff.1 (hon a (hab.subset (by simp)))
      have hb := onS_iff.1 (hon b (hab.subset (by simp)))
      have w1 := hs.w1
      have v1 := hs.h1
      exact hl' hab (Prod.ext (by omega) (by omega))
    have h2 := nodup_lt 6480 _ h1 (fun x hx => by
      obtain ⟨p, hp, rfl⟩ := List.mem_map.1 hx
      have ha := onS_iff.1 (hon p hp)
      have w1 := hs.w1
      have v1 := hs.h1
      omega)
    simpa using h2
  have := key _ hn h
  simpa using this
theorem waysE_length {s : Sh} (hs : OkS s) (ws : List (Int × List Spot)) : (waysE s [] ws).length ≤ 6480 := by
  rw [waysE_fold]
  exact on_length hs (fold_nodup _ _ _ (by simp)) (fold_on _ _ _ (by simp))

/-! ### a move -/
def moveP (d p : Spot) : Spot := (p.1 + d.1, p.2 + d.2)
def moveSh (d : Spot) (s : Sh) : Sh := ⟨s.ax + d.1, s.ay + d.2, s.st, s.w, s.h, s.g⟩
def moveW (d : Spot) (w : Int × List Spot) : Int × List Spot := (w.1, w.2.map (moveP d))
theorem dotOf_move (s : Sh) (d p : Spot) : dotOf (moveSh d s) (moveP d p) = dotOf s p := by
  unfold dotOf dotX dotY moveSh moveP
  simp only
  rw [show p.1 + d.1 - (s.ax + d.1) = p.1 - s.ax from by omega, show p.2 + d.2 - (s.ay + d.2) = p.2 - s.ay from by omega]
theorem lineL_move (s : Sh) (d p q : Spot) : lineL (moveSh d s) (moveP d p) (moveP d q) = lineL s p q := by
  unfold lineL
  rw [dotOf_move, dotOf_move]
theorem getD_move (d : Spot) (ps : List Spot) (k : Nat) (h : k < ps.length) : (ps.map (moveP d)).getD k (0, 0) = moveP d (ps.getD k (0, 0)) := by
  rw [List.getD_eq_getElem?_getD, List.getD_eq_getElem?_getD, List.getElem?_map, List.getElem?_eq_getElem h]
  rfl
theorem wayLine_move (s : Sh) (d : Spot) (ps : List Spot) (k : Nat) (h : k < ps.length) : wayLine (moveSh d s) (ps.map (moveP d)) k = wayLine s ps k := by
  unfold wayLine
  rw [List.length_map, getD_move d ps k h, getD_move d ps _ (by omega), lineL_move]
theorem wayPut_move (s : Sh) (d : Spot) (id : Int) (ps : List Spot) (en : List (Spot × Int)) : ∀ t, t ≤ ps.length → wayPut (moveSh d s) id (ps.map (moveP d)) en t = wayPut s id ps en t
  | 0, _ => rfl
  | t + 1, h => by
    rw [wayPut_succ, wayPut_succ, wayPut_move s d id ps en t (by omega), wayLine_move s d ps t (by omega)]
    rfl
theorem waysE_move (s : Sh) (d : Spot) : ∀ (ws : List (Int × List Spot)) (en : List (Spot × Int)), (∀ w ∈ ws, rightL w.2 = true ∧ rightL (w.2.map (moveP d)) = true) → waysE (moveSh d s) en (ws.map (moveW d)) = waysE s en ws
  | [], _, _ => rfl
  | w :: ws, en, h => by
    obtain ⟨h1, h2⟩ := h w List.mem_cons_self
    have ih := fun en => waysE_move s d ws en (fun v hv => h v (List.mem_cons_of_mem _ hv))
    unfold waysE at ih ⊢
    rw [List.map_cons, List.foldl_cons, List.foldl_cons, ih]
    congr 1
    unfold moveW
    simp only [h1, h2, if_true, List.length_map]
    exact wayPut_move s d w.1 w.2 en _ (Nat.le_refl _)
/-- THE LAW: with everything moved, and the ways in reverse order, the dots are the same -/
theorem moves_law (s : Sh) (d : Spot) (ws : List (Int × List Spot)) (h : ∀ w ∈ ws, rightL w.2 = true ∧ rightL (w.2.map (moveP d)) = true) : dotsS 2 (waysE (moveSh d s) [] ((ws.map (moveW d)).reverse)) = dotsS 2 (waysE s [] ws) := by
  rw [ways_perm (List.reverse_perm _), waysE_move s d ws [] h]
end Go.Proofs.YtjfdbigkbgolmaaDoor
