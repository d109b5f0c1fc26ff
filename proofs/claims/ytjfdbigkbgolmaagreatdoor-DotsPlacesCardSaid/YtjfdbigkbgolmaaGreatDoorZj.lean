/-
  Chapter 29: the entries of a list of ways, in plain Lean: their order plays no part; nor does a move of everything.
  Chapter 29: the reference's list of dots, in plain Lean: putting dots one by one gives the entries' dots in order.
  Chapter 29: the reference's put, in plain Lean: where a dot goes.
-/
import Derived.Test.YtjfdbigkbgolmaaGreatDoorZx
import Derived.Test.YtjfdbigkbgolmaaGreatDoorZb

namespace Go.Proofs.YtjfdbigkbgolmaaGreatDoor
set_option linter.unusedVariables false
set_option linter.unusedSimpArgs false
open Go.RowKit Go.Shelf

/-- the piece of a way behind its k-th point -/
def wayLine (s : Sh) (ps : List Spot) (k : Nat) : List NSpot := lineL s (ps.getD k (0, 0)) (ps.getD (min (k + 1) (ps.length - 1)) (0, 0))
def wayPut (s : Sh) (id : Int) (ps : List Spot) (en : List (Spot × Int)) (t : Nat) : List (Spot × Int) := (List.range t).foldl (fun en k => linePut s id en (wayLine s ps k)) en
theorem wayPut_zero (s : Sh) (id : Int) (ps : List Spot) (en : List (Spot × Int)) : wayPut s id ps en 0 = en := rfl
theorem wayPut_succ (s : Sh) (id : Int) (ps : List Spot) (en : List (Spot × Int)) (t : Nat) : wayPut s id ps en (t + 1) = linePut s id (wayPut s id ps en t) (wayLine s ps t) := by
  unfold wayPut
  rw [List.range_succ, List.foldl_append]
  rfl
def rightL (ps : List Spot) : Bool := ps.all fun p => rightP p.1 p.2
/-- the entries behind ways: an Id, and points, for each -/
def waysE (s : Sh) (en : List (Spot × Int)) (ws : List (Int × List Spot)) : List (Spot × Int) := ws.foldl (fun en w => if rightL w.2 then wayPut s w.1 w.2 en w.2.length else en) en
theorem waysE_snoc (s : Sh) (en : List (Spot × Int)) (ws : List (Int × List Spot)) (w : Int × List Spot) : waysE s en (ws ++ [w]) = if rightL w.2 then wayPut s w.1 w.2 (waysE s en ws) w.2.length else waysE s en ws := by
  unfold waysE
  rw [List.foldl_append]
  rfl
theorem waysE_take (s : Sh) (ws : List (Int × List Spot)) (t : Nat) (h : t < ws.length) : waysE s [] (ws.take (t + 1)) = if rightL ws[t].2 then wayPut s ws[t].1 ws[t].2 (waysE s [] (ws.take t)) ws[t].2.length else waysE s [] (ws.take t) := by
  rw [List.take_add_one, List.getElem?_eq_getElem h]
  exact waysE_snoc _ _ _ _

/-! ### what ways contribute, one by one -/
def putC (s : Sh) (en : List (Spot × Int)) (c : Spot × Int) : List (Spot × Int) := wput s c.2 en c.1
def contr (s : Sh) (w : Int × List Spot) : List (Spot × Int) := if rightL w.2 then ((List.range w.2.length).flatMap (wayLine s w.2)).map (fun d => (d.1, w.1)) else []
theorem linePut_fold (s : Sh) (id : Int) (l : List NSpot) (en : List (Spot × Int)) : linePut s id en l = (l.map (fun d => (d.1, id))).foldl (putC s) en := by
  unfold linePut
  rw [List.foldl_map]
  rfl
theorem wayPut_fold (s : Sh) (id : Int) (ps : List Spot) (en : List (Spot × Int)) (t : Nat) : wayPut s id ps en t = (((List.range t).flatMap (wayLine s ps)).map (fun d => (d.1, id))).foldl (putC s) en := by
  induction t with
  | zero => rfl
  | succ t ih =>
    rw [wayPut_succ, ih, linePut_fold, List.range_succ, List.flatMap_append, List.map_append, List.foldl_append]
    simp
theorem waysE_fold (s : Sh) : ∀ (ws : List (Int × List Spot)) (en : List (Spot × Int)), waysE s en ws = (ws.flatMap (contr s)).foldl (putC s) en
  | [], en => rfl
  | w :: ws, en => by
    rw [List.flatMap_cons, List.foldl_append, ← waysE_fold s ws]
    unfold waysE
    rw [List.foldl_cons]
    congr 1
    unfold contr
    split
    · rw [wayPut_fold]
    · rfl

theorem hasK_idOf (en : List (Spot × Int)) (p : Spot) : hasK en p = (idOf en p).isSome := by
  unfold hasK idOf
  rw [Option.isSome_map, Bool.eq_iff_iff, List.find?_isSome, List.any_eq_true]
/-- the lesser of an Id and what is there -/
def lessO (id : Int) : Option Int → Int
  | none => id
  | some o => if id < o then id else o
theorem idOf_wput (s : Sh) (id : Int) (en : List (Spot × Int)) (d q : Spot) : idOf (wput s id en d) q = if q = d ∧ onS s d.1 d.2 = true then some (lessO id (idOf en d)) else idOf en q := by
  unfold wput
  rw [hasK_idOf]
  cases hon : onS s d.1 d.2 with
  | false => simp
  | true =>
    cases ho : idOf en d with
    | none =>
      simp only [Option.isSome_none, Bool.not_false, Bool.true_or, Bool.and_self, if_true, idOf_put, and_true, lessO]
    | some o =>
      simp only [Option.isSome_some, Bool.not_true, Bool.false_or, Bool.true_and, Option.getD_some, and_true, lessO, decide_eq_true_eq]
      split
      · rw [idOf_put]
      · split
        · rename_i h; rw [h]; exact ho
        · rfl
def SameE (a b : List (Spot × Int)) : Prop := ∀ p, idOf a p = idOf b p
theorem SameE.put {s : Sh} {a b : List (Spot × Int)} (h : SameE a b) (c : Spot × Int) : SameE (putC s a c) (putC s b c) := by
  intro q
  unfold putC
  rw [idOf_wput, idOf_wput, h q, h c.1]
theorem SameE.fold {s : Sh} : ∀ (l : List (Spot × Int)) {a b : List (Spot × Int)}, SameE a b → SameE (l.foldl (putC s) a) (l.foldl (putC s) b)
  | [], _, _, h => h
  | c :: l, _, _, h => SameE.fold l (h.put c)
theorem lessO_comm (x y : Int) (o : Option Int) : lessO x (some (lessO y o)) = lessO y (some (lessO x o)) := by
  cases o <;> simp only [lessO] <;> repeat' split
  all_goals omega
theorem putC_comm (s : Sh) (en : List (Spot × Int)) (x y : Spot × Int) : SameE (putC s (putC s en x) y) (putC s (putC s en y) x) := by
  intro q
  obtain ⟨dx, ix⟩ := x
  obtain ⟨dy, iy⟩ := y
  unfold putC
  simp only [idOf_wput]
  by_cases hxy : dx = dy
  · subst hxy
    by_cases hon : onS s dx.1 dx.2 = true
    · by_cases hq : q = dx
      · subst hq
        simp only [hon, and_self, if_true]
        rw [lessO_comm]
      · simp [hq]
    · simp [hon]
  · have hyx : ¬ dy = dx := fun e => hxy e.symm
    by_cases hqx : q = dx
    · subst hqx
      simp [hxy]
    · by_cases hqy : q = dy
      · subst hqy
        simp [hyx]
      · simp [hqx, hqy]
theorem fold_perm {s : Sh} {l l' : List (Spot × Int)} (h : l.Perm l') : ∀ en, SameE (l.foldl (putC s) en) (l'.foldl (putC s) en) := by
  induction h with
  | nil => exact fun _ _ => rfl
  | cons x _ ih => exact fun en => ih (putC s en x)
  | swap x y l => exact fun en => SameE.fold l (putC_comm s en y x)
  | trans _ _ ih1 ih2 => exact fun en p => (ih1 en p).trans (ih2 en p)
theorem putC_nodup (s : Sh) (en : List (Spot × Int)) (c : Spot × Int) (h : (en.map (·.1)).Nodup) : ((putC s en c).map (·.1)).Nodup := by
  unfold putC wput
  split
  · rw [putE_keys]
    split
    · exact h
    · rename_i hk
      rw [List.nodup_append]
      refine ⟨h, by simp, fun a ha b hb => ?_⟩
      obtain rfl : b = c.1 := by simpa using hb
      exact fun e => hk (hasK_iff.2 (e ▸ ha))
  · exact h
theorem fold_nodup (s : Sh) : ∀ (l : List (Spot × Int)) (en : List (Spot × Int)), (en.map (·.1)).Nodup → ((l.foldl (putC s) en).map (·.1)).Nodup
  | [], _, h => h
  | c :: l, en, h => fold_nodup s l (putC s en c) (putC_nodup s en c h)
/-- the dots are those of the numbers that are found -/
theorem dots_same {k : Int} {a b : List (Spot × Int)} (ha : (a.map (·.1)).Nodup) (hb : (b.map (·.1)).Nodup) (h : SameE a b) : dotsS k a = dotsS k b := by
  have hm : ∀ p, p ∈ a.map (·.1) ↔ p ∈ b.map (·.1) := fun p => by rw [← hasK_iff, ← hasK_iff, hasK_idOf, hasK_idOf, h p]
  have hp : (a.map (·.1)).Perm (b.map (·.1)) := (List.perm_ext_iff_of_nodup ha hb).2 hm
  have hk : keysS a = keysS b := keysS_uniq (((List.mergeSort_perm _ _).trans hp).trans (List.mergeSort_perm _ _).symm) (List.pairwise_mergeSort leS_trans leS_total _)
  unfold dotsS
  rw [hk]
  exact List.map_congr_left fun p _ => by rw [h p]
theorem ways_perm {k : Int} {s : Sh} {ws ws' : List (Int × List Spot)} (h : ws.Perm ws') : dotsS k (waysE s [] ws) = dotsS k (waysE s [] ws') := by
  rw [waysE_fold, waysE_fold]
  exact dots_same (fold_nodup _ _ _ (by simp)) (fold_nodup _ _ _ (by simp)) (fold_perm (h.flatMap_right _) _)

/-! ### how many entries there are -/
theorem nodup_lt : ∀ (n : Nat) (l : List Nat), l.Nodup → (∀ x ∈ l, x < n) → l.length ≤ n
  | 0, l, _, h => by
    match l, h with
    | [], _ => simp
    | x :: _, h => exact absurd (h x List.mem_cons_self) (by omega)
  | n + 1, l, hn, h => by
    by_cases hm : n ∈ l
    · have h1 := nodup_lt n (l.erase n) (hn.erase n) (fun x hx => by
        have := h x (List.mem_of_mem_erase hx)
        have hne : x ≠ n := fun e => by subst e; exact (List.Nodup.not_mem_erase hn) hx
        omega)
      have h2 := List.length_erase_of_mem hm
      omega
    · have h1 := nodup_lt n l hn (fun x hx => by
        have := h x hx
        have hne : x ≠ n := fun e => hm (e ▸ hx)
        omega)
      omega
theorem putC_on (s : Sh) (en : List (Spot × Int)) (c : Spot × Int) (h : ∀ p ∈ en.map (·.1), onS s p.1 p.2 = true) : ∀ p ∈ (putC s en c).map (·.1), onS s p.1 p.2 = true := by
  intro p hp
  unfold putC wput at hp
  split at hp
  · rename_i hc
    rw [putE_keys] at hp
    split at hp
    · exact h p hp
    · rcases List.mem_append.1 hp with hp | hp
      · exact h p hp
      · obtain rfl : p = c.1 := by simpa using hp
        simp only [Bool.and_eq_true] at hc
        exact hc.1
  · exact h p hp
theorem fold_on (s : Sh) : ∀ (l : List (Spot × Int)) (en : List (Spot × Int)), (∀ p ∈ en.map (·.1), onS s p.1 p.2 = true) → ∀ p ∈ (l.foldl (putC s) en).map (·.1), onS s p.1 p.2 = true
  | [], _, h => h
  | c :: l, en, h => fold_on s l (putC s en c) (putC_on s en c h)
theorem on_length {s : Sh} (hs : OkS s) {en : List (Spot × Int)} (hn : (en.map (·.1)).Nodup) (h : ∀ p ∈ en.map (·.1), onS s p.1 p.2 = true) : en.length ≤ 6480 := by
  have key : ∀ l : List Spot, l.Nodup → (∀ p ∈ l, onS s p.1 p.2 = true) → l.length ≤ 6480 := by
    intro l hl hon
    have h1 : (l.map fun p => p.1.toNat * 81 + p.2.toNat).Nodup := by
      rw [List.nodup_iff_pairwise_ne, List.pairwise_map]
      have hl' : ∀ {a b : Spot}, [a, b].Sublist l → a ≠ b := List.pairwise_iff_forall_sublist.1 (List.nodup_iff_pairwise_ne.1 hl)
      refine List.pairwise_iff_forall_sublist.2 (fun {a b} hab e => ?_)
      have ha := onS_iff.1 (hon a (hab.subset (by simp)))
      have hb := onS_iff.1 (hon b (hab.subset (by simp)))
      have w1 := hs.w1
      have v1 := hs.h1
      exact hl' hab (Prod.ext (by omega) (by omega))
    have h2 := nodup_lt 6480 _ h1 (fun x hx => by
      obtain ⟨p, hp, rfl⟩ := List.mem_map.1 hx
      have ha := onS_iff.1 (hon p hp)
      have w1 := hs.w1
      have v1 := hs.h1
      omega)
    simpa using h2
  have := key _ hn h
  simpa using this
theorem waysE_length {s : Sh} (hs : OkS s) (ws : List (Int × List Spot)) : (waysE s [] ws).length ≤ 6480 := by
  rw [waysE_fold]
  exact on_length hs (fold_nodup _ _ _ (by simp)) (fold_on _ _ _ (by simp))

/-! ### a move -/
def moveP (d p : Spot) : Spot := (p.1 + d.1, p.2 + d.2)
def moveSh (d : Spot) (s : Sh) : Sh := ⟨s.ax + d.1, s.ay + d.2, s.st, s.w, s.h, s.g⟩
def moveW (d : Spot) (w : Int × List Spot) : Int × List Spot := (w.1, w.2.map (moveP d))
theorem dotOf_move (s : Sh) (d p : Spot) : dotOf (moveSh d s) (moveP d p) = dotOf s p := by
  unfold dotOf dotX dotY moveSh moveP
  simp only
  rw [show p.1 + d.1 - (s.ax + d.1) = p.1 - s.ax from by omega, show p.2 + d.2 - (s.ay + d.2) = p.2 - s.ay from by omega]
theorem lineL_move (s : Sh) (d p q : Spot) : lineL (moveSh d s) (moveP d p) (moveP d q) = lineL s p q := by
  unfold lineL
  rw [dotOf_move, dotOf_move]
theorem getD_move (d : Spot) (ps : List Spot) (k : Nat) (h : k < ps.length) : (ps.map (moveP d)).getD k (0, 0) = moveP d (ps.getD k (0, 0)) := by
  rw [List.getD_eq_getElem?_getD, List.getD_eq_getElem?_getD, List.getElem?_map, List.getElem?_eq_getElem h]
  rfl
theorem wayLine_move (s : Sh) (d : Spot) (ps : List Spot) (k : Nat) (h : k < ps.length) : wayLine (moveSh d s) (ps.map (moveP d)) k = wayLine s ps k := by
  unfold wayLine
  rw [List.length_map, getD_move d ps k h, getD_move d ps _ (by omega), lineL_move]
theorem wayPut_move (s : Sh) (d : Spot) (id : Int) (ps : List Spot) (en : List (Spot × Int)) : ∀ t, t ≤ ps.length → wayPut (moveSh d s) id (ps.map (moveP d)) en t = wayPut s id ps en t
  | 0, _ => rfl
  | t + 1, h => by
    rw [wayPut_succ, wayPut_succ, wayPut_move s d id ps en t (by omega), wayLine_move s d ps t (by omega)]
    rfl
theorem waysE_move (s : Sh) (d : Spot) : ∀ (ws : List (Int × List Spot)) (en : List (Spot × Int)), (∀ w ∈ ws, rightL w.2 = true ∧ rightL (w.2.map (moveP d)) = true) → waysE (moveSh d s) en (ws.map (moveW d)) = waysE s en ws
  | [], _, _ => rfl
  | w :: ws, en, h => by
    obtain ⟨h1, h2⟩ := h w List.mem_cons_self
    have ih := fun en => waysE_move s d ws en (fun v hv => h v (List.mem_cons_of_mem _ hv))
    unfold waysE at ih ⊢
    rw [List.map_cons, List.foldl_cons, List.foldl_cons, ih]
    congr 1
    unfold moveW
    simp only [h1, h2, if_true, List.length_map]
    exact wayPut_move s d w.1 w.2 en _ (Nat.le_refl _)
/-- THE LAW: with everything moved, and the ways in reverse order, the dots are the same -/
theorem moves_law (s : Sh) (d : Spot) (ws : List (Int × List Spot)) (h : ∀ w ∈ ws, rightL w.2 = true ∧ rightL (w.2.map (moveP d)) = true) : dotsS 2 (waysE (moveSh d s) [] ((ws.map (moveW d)).reverse)) = dotsS 2 (waysE s [] ws) := by
  rw [ways_perm (List.reverse_perm _), waysE_move s d ws [] h]
end Go.Proofs.YtjfdbigkbgolmaaGreatDoor
namespace Go.Proofs.YtjfdbigkbgolmaaGreatDoor
set_option linter.unusedVariables false
set_option linter.unusedSimpArgs false
open Go.RowKit Go.Shelf

/-- a dot put among dots in order: of two at one place the lesser Id stays -/
def rput : List Dt → Dt → List Dt
  | [], x => [x]
  | d :: l, x => if ltS (d.x, d.y) (x.x, x.y) then d :: rput l x else if (d.x, d.y) = (x.x, x.y) then (if x.i < d.i then ⟨d.x, d.y, d.k, x.i⟩ else d) :: l else x :: d :: l
def insS : List Spot → Spot → List Spot
  | [], p => [p]
  | q :: ks, p => if ltS q p then q :: insS ks p else if q = p then q :: ks else p :: q :: ks
theorem ltS_irrefl (p : Spot) : ltS p p = false := by simp [ltS]
theorem ltS_trans {p q r : Spot} (h1 : ltS p q = true) (h2 : ltS q r = true) : ltS p r = true := by simp [ltS] at *; omega
theorem ltS_tri {p q : Spot} (h1 : ltS p q = false) (h2 : ¬ p = q) : ltS q p = true := by
  obtain ⟨a, b⟩ := p
  obtain ⟨c, d⟩ := q
  simp [ltS] at *
  omega
theorem mem_insS (p q : Spot) : ∀ ks : List Spot, q ∈ insS ks p ↔ q = p ∨ q ∈ ks
  | [] => by simp [insS]
  | a :: ks => by
    unfold insS
    split
    · simp only [List.mem_cons, mem_insS p q ks]
      constructor
      · rintro (h | h | h) <;> simp [h]
      · rintro (h | h | h) <;> simp [h]
    · split
      · rename_i h; subst h; simp
      · simp
theorem insS_sorted (p : Spot) : ∀ {ks : List Spot}, ks.Pairwise (fun a b => ltS a b = true) → (insS ks p).Pairwise (fun a b => ltS a b = true)
  | [], _ => by simp [insS]
  | a :: ks, h => by
    rw [List.pairwise_cons] at h
    unfold insS
    split
    · rename_i h1
      rw [List.pairwise_cons]
      refine ⟨fun b hb => ?_, insS_sorted p h.2⟩
      rcases (mem_insS p b ks).1 hb with rfl | hb
      · exact h1
      · exact h.1 b hb
    · rename_i h1
      split
      · exact List.pairwise_cons.2 h
      · rename_i h2
        have h3 := ltS_tri (by simpa using h1) h2
        rw [List.pairwise_cons]
        refine ⟨fun b hb => ?_, List.pairwise_cons.2 h⟩
        rcases List.mem_cons.1 hb with rfl | hb
        · exact h3
        · exact ltS_trans h3 (h.1 b hb)
def mkD (k : Int) (f : Spot → Int) (p : Spot) : Dt := ⟨p.1, p.2, k, f p⟩
theorem rput_map (k : Int) (f f' : Spot → Int) (p : Spot) (id : Int) : ∀ (ks : List Spot), ks.Pairwise (fun a b => ltS a b = true) → (∀ q, q ≠ p → f' q = f q) → (p ∈ ks → f' p = if id < f p then id else f p) → (p ∉ ks → f' p = id) →
    rput (ks.map (mkD k f)) ⟨p.1, p.2, k, id⟩ = (insS ks p).map (mkD k f')
  | [], _, _, _, h3 => by
    simp only [List.map_nil, rput, insS, List.map_cons]
    unfold mkD
    rw [h3 (by simp)]
  | a :: ks, hs, h1, h2, h3 => by
    rw [List.pairwise_cons] at hs
    show (if ltS a p = true then mkD k f a :: rput (ks.map (mkD k f)) ⟨p.1, p.2, k, id⟩ else if a = p then (if id < f a then ⟨a.1, a.2, k, id⟩ else mkD k f a) :: ks.map (mkD k f) else ⟨p.1, p.2, k, id⟩ :: mkD k f a :: ks.map (mkD k f)) = (if ltS a p = true then a :: insS ks p else if a = p then a :: ks else p :: a :: ks).map (mkD k f')
    by_cases hlt : ltS a p = true
    · rw [if_pos hlt, if_pos hlt, List.map_cons]
      have hne : a ≠ p := fun e => by subst e; rw [ltS_irrefl] at hlt; cases hlt
      rw [rput_map k f f' p id ks hs.2 h1 (fun h => h2 (List.mem_cons_of_mem _ h)) (fun h => h3 (fun e => by rcases List.mem_cons.1 e with e | e; exact hne e.symm; exact h e))]
      congr 1
      unfold mkD
      rw [h1 a hne]
    · rw [if_neg hlt, if_neg hlt]
      by_cases he : a = p
      · subst he
        rw [if_pos rfl, if_pos rfl, List.map_cons]
        have hrest : ks.map (mkD k f) = ks.map (mkD k f') := List.map_congr_left fun q hq => by
          have hne : q ≠ a := fun e => by have := hs.1 q hq; rw [e, ltS_irrefl] at this; cases this
          unfold mkD
          rw [h1 q hne]
        rw [hrest]
        congr 1
        have h4 := h2 List.mem_cons_self
        unfold mkD
        split
        · rename_i hid; rw [if_pos hid] at h4; rw [h4]
        · rename_i hid; rw [if_neg hid] at h4; rw [h4]
      · have h5 := ltS_tri (by simpa using hlt) he
        rw [if_neg he, if_neg he, List.map_cons, List.map_cons]
        have hni : p ∉ a :: ks := fun e => by
          rcases List.mem_cons.1 e with e | e
          · exact he e.symm
          · have := ltS_trans h5 (hs.1 p e); rw [ltS_irrefl] at this; cases this
        have hne : ∀ q ∈ a :: ks, q ≠ p := fun q hq e => hni (e ▸ hq)
        have hrest : ks.map (mkD k f) = ks.map (mkD k f') := List.map_congr_left fun q hq => by
          unfold mkD
          rw [h1 q (hne q (List.mem_cons_of_mem _ hq))]
        rw [hrest]
        unfold mkD
        rw [h3 hni, h1 a (hne a List.mem_cons_self)]
theorem keysS_inc {en : List (Spot × Int)} (hn : (en.map (·.1)).Nodup) : (keysS en).Pairwise (fun a b => ltS a b = true) := by
  have h1 : (keysS en).Pairwise (fun a b => leS a b = true) := List.pairwise_mergeSort leS_trans leS_total _
  have h2 : (keysS en).Nodup := (List.mergeSort_perm _ _).nodup_iff.2 hn
  rw [List.nodup_iff_pairwise_ne] at h2
  refine (h1.and h2).imp ?_
  rintro a b ⟨ha, hb⟩
  unfold leS at ha
  exact ltS_tri (by simpa using ha) (fun e => hb e.symm)
theorem keysS_mem {en : List (Spot × Int)} {p : Spot} : p ∈ keysS en ↔ (idOf en p).isSome = true := by
  rw [← hasK_idOf, hasK_iff]
  exact (List.mergeSort_perm _ _).mem_iff
/-- one contribution -/
theorem dotsS_putC (k : Int) (s : Sh) (en : List (Spot × Int)) (c : Spot × Int) (hn : (en.map (·.1)).Nodup) :
    dotsS k (putC s en c) = if onS s c.1.1 c.1.2 then rput (dotsS k en) ⟨c.1.1, c.1.2, k, c.2⟩ else dotsS k en := by
  obtain ⟨p, id⟩ := c
  cases hon : onS s p.1 p.2 with
  | false =>
    rw [if_neg (by simp)]
    unfold putC wput
    simp [hon]
  | true =>
    rw [if_pos rfl]
    have hid : ∀ q, idOf (putC s en (p, id)) q = if q = p then some (lessO id (idOf en p)) else idOf en q := fun q => by
      unfold putC
      rw [idOf_wput]
      simp [hon]
    have hks : keysS (putC s en (p, id)) = insS (keysS en) p := by
      have hs := insS_sorted p (keysS_inc hn)
      refine (keysS_uniq (keysS_perm (putC_nodup s en (p, id) hn) ?_ (fun q => ?_)) ?_).symm
      · rw [List.nodup_iff_pairwise_ne]
        exact hs.imp fun {a b} h e => by subst e; rw [ltS_irrefl] at h; cases h
      · rw [mem_insS, keysS_mem, ← hasK_iff, hasK_idOf, hid]
        split
        · rename_i h; simp [h]
        · rename_i h; simp [h]
      · refine hs.imp fun {a b} h => ?_
        unfold leS
        cases hb : ltS b a with
        | false => rfl
        | true => have := ltS_trans h hb; rw [ltS_irrefl] at this; cases this
    unfold dotsS
    rw [hks]
    refine (rput_map k (fun q => (idOf en q).getD 0) (fun q => (idOf (putC s en (p, id)) q).getD 0) p id (keysS en) (keysS_inc hn) (fun q hq => ?_) (fun h => ?_) (fun h => ?_)).symm
    · simp only [hid, if_neg hq]
    · simp only [hid, if_true, Option.getD_some]
      rw [keysS_mem] at h
      cases ho : idOf en p with
      | none => rw [ho] at h; cases h
      | some o => rfl
    · simp only [hid, if_true, Option.getD_some]
      rw [keysS_mem] at h
      cases ho : idOf en p with
      | none => rfl
      | some o => rw [ho] at h; exact absurd rfl h
/-- the reference's dots, contribution by contribution -/
def rputs (k : Int) (s : Sh) (cs : List (Spot × Int)) (l : List Dt) : List Dt := cs.foldl (fun l c => if onS s c.1.1 c.1.2 then rput l ⟨c.1.1, c.1.2, k, c.2⟩ else l) l
theorem rputs_dots (k : Int) (s : Sh) : ∀ (cs : List (Spot × Int)) (en : List (Spot × Int)), (en.map (·.1)).Nodup → rputs k s cs (dotsS k en) = dotsS k (cs.foldl (putC s) en)
  | [], _, _ => rfl
  | c :: cs, en, hn => by
    unfold rputs
    rw [List.foldl_cons, List.foldl_cons, ← dotsS_putC k s en c hn]
    exact rputs_dots k s cs _ (putC_nodup s en c hn)
theorem rputs_ways (s : Sh) (ws : List (Int × List Spot)) : rputs 2 s (ws.flatMap (contr s)) [] = dotsS 2 (waysE s [] ws) := by
  have h := rputs_dots 2 s (ws.flatMap (contr s)) [] (by simp)
  rw [waysE_fold, ← h]
  congr 1
  simp [dotsS, keysS]
end Go.Proofs.YtjfdbigkbgolmaaGreatDoor
namespace Go.Proofs.YtjfdbigkbgolmaaGreatDoor
set_option linter.unusedVariables false
set_option linter.unusedSimpArgs false
open Go.RowKit Go.Shelf

theorem rput_split (x : Dt) (l2 : List Dt) : ∀ (l1 : List Dt), (∀ d ∈ l1, ltS (d.x, d.y) (x.x, x.y) = true) → rput (l1 ++ l2) x = l1 ++ rput l2 x
  | [], _ => rfl
  | d :: l1, h => by
    rw [List.cons_append, rput, if_pos (h d List.mem_cons_self), rput_split x l2 l1 (fun e he => h e (List.mem_cons_of_mem _ he)), List.cons_append]
theorem rput_at {l : List Dt} {x : Dt} {k : Nat} (hk : k ≤ l.length) (hlt : ∀ j, (h : j < k) → ltS ((l[j]'(by omega)).x, (l[j]'(by omega)).y) (x.x, x.y) = true) : rput l x = l.take k ++ rput (l.drop k) x := by
  have h := rput_split x (l.drop k) (l.take k) (fun d hd => by
    obtain ⟨j, hj, rfl⟩ := List.getElem_of_mem hd
    rw [List.getElem_take]
    exact hlt j (by simp at hj; omega))
  rwa [List.take_append_drop] at h
theorem rput_end {l : List Dt} {x : Dt} (hlt : ∀ j, (h : j < l.length) → ltS ((l[j]).x, (l[j]).y) (x.x, x.y) = true) : rput l x = l ++ [x] := by
  have h := rput_at (l := l) (x := x) (k := l.length) (Nat.le_refl _) hlt
  rw [h]
  simp [rput]
theorem rput_in {l : List Dt} {x : Dt} {k : Nat} (hk : k < l.length) (hlt : ∀ j, (h : j < k) → ltS ((l[j]'(by omega)).x, (l[j]'(by omega)).y) (x.x, x.y) = true) (hge : ltS (l[k].x, l[k].y) (x.x, x.y) = false) (hne : ¬ (l[k].x = x.x ∧ l[k].y = x.y)) :
    rput l x = l.take k ++ x :: l.drop k := by
  rw [rput_at (Nat.le_of_lt hk) hlt, List.drop_eq_getElem_cons hk, rput, if_neg (by rw [hge]; decide), if_neg (fun e => hne (by simpa using e))]
theorem rput_same {l : List Dt} {x : Dt} {k : Nat} (hk : k < l.length) (hlt : ∀ j, (h : j < k) → ltS ((l[j]'(by omega)).x, (l[j]'(by omega)).y) (x.x, x.y) = true) (hx : l[k].x = x.x) (hy : l[k].y = x.y) :
    rput l x = if x.i < l[k].i then l.set k ⟨x.x, x.y, l[k].k, x.i⟩ else l := by
  rw [rput_at (Nat.le_of_lt hk) hlt, List.drop_eq_getElem_cons hk, rput, if_neg (by rw [hx, hy, ltS_irrefl]; decide), if_pos (by rw [hx, hy])]
  split
  · rw [List.set_eq_take_append_cons_drop, if_pos hk, hx, hy]
  · rw [← List.drop_eq_getElem_cons hk, List.take_append_drop]
theorem ltS_def (a b c d : Int) : ltS (a, b) (c, d) = (decide (b < d) || (decide (b = d) && decide (a < c))) := by
  unfold ltS
  simp
/-- a cell of a list's cells, set -/
theorem flat_set (l : List Dt) (k : Nat) (v : Int) (h : k < l.length) : (l.flatMap encD).set (k * 4 + 3) (.int .i64 v) = (l.set k ⟨l[k].x, l[k].y, l[k].k, v⟩).flatMap encD := by
  induction l generalizing k with
  | nil => simp at h
  | cons d l ih =>
    match k, h with
    | 0, _ => simp
    | k + 1, h =>
      have ih := ih k (by simpa using h)
      have e : (k + 1) * 4 + 3 = (encD d).length + (k * 4 + 3) := by simp; omega
      rw [List.flatMap_cons, e, List.set_append, if_neg (by omega), Nat.add_sub_cancel_left, ih]
      simp
end Go.Proofs.YtjfdbigkbgolmaaGreatDoor
