/-
  Chapter 29: the worlds of the walk of the reference's Ways.
  Chapter 29: the places' dots in plain Lean: putting the points one by one, as the reference does, gives the entries' dots in order.
-/
import Derived.Test.YtjfdbigkbgolmaaGreatDoorZB
import Derived.Test.YtjfdbigkbgolmaaGreatDoorZR
import Derived.Test.YtjfdbigkbgolmaaGreatDoorZk
import Derived.Test.YtjfdbigkbgolmaaGreatDoorZo

namespace Go.Proofs.YtjfdbigkbgolmaaGreatDoor
set_option linter.unusedVariables false
set_option linter.unusedSimpArgs false
open Go.RowKit Go.Shelf

theorem dotsS_mem7 {k : Int} {en : List (Spot × Int)} {d : Dt} (h : d ∈ dotsS k en) : (d.x, d.y) ∈ en.map (·.1) := by
  unfold dotsS at h
  obtain ⟨p, hp, rfl⟩ := List.mem_map.1 h
  exact (List.mergeSort_perm _ _).mem_iff.1 hp
/-- entries that contributions have made -/
def Ent (s : Sh) (en : List (Spot × Int)) : Prop := ∃ cs : List (Spot × Int), en = cs.foldl (putC s) []
theorem Ent.nil (s : Sh) : Ent s [] := ⟨[], rfl⟩
theorem Ent.put {s : Sh} {en : List (Spot × Int)} (h : Ent s en) (c : Spot × Int) : Ent s (putC s en c) := by
  obtain ⟨cs, rfl⟩ := h
  exact ⟨cs ++ [c], by rw [List.foldl_append]; rfl⟩
theorem Ent.nodup {s : Sh} {en : List (Spot × Int)} (h : Ent s en) : (en.map (·.1)).Nodup := by
  obtain ⟨cs, rfl⟩ := h
  exact fold_nodup s cs [] (by simp)
theorem Ent.len {s : Sh} {en : List (Spot × Int)} (h : Ent s en) (hs : OkS s) : (dotsS 2 en).length ≤ 6480 := by
  rw [dotsS_length]
  refine on_length hs h.nodup ?_
  obtain ⟨cs, rfl⟩ := h
  exact fold_on s cs [] (by simp)
theorem Ent.fits {s : Sh} {en : List (Spot × Int)} (h : Ent s en) (hs : OkS s) : ∀ d ∈ dotsS 2 en, fits d.x ∧ fits d.y := fun d hd => by
  have h9 := dotsS_mem7 hd
  obtain ⟨cs, rfl⟩ := h
  have h8 := onS_iff.1 (fold_on s cs [] (by simp) _ h9)
  have w1 := hs.w1
  have v1 := hs.h1
  simp only at h8
  exact ⟨⟨by omega, by omega⟩, by omega, by omega⟩
theorem Ent.dots {s : Sh} {en : List (Spot × Int)} (h : Ent s en) (p : Spot) (id : Int) : dotsS 2 (putC s en (p, id)) = if onS s p.1 p.2 then rput (dotsS 2 en) ⟨p.1, p.2, 2, id⟩ else dotsS 2 en := dotsS_putC 2 s en (p, id) h.nodup

/-- the entries behind the first n dots of a line -/
def lineE (s : Sh) (id : Int) (en : List (Spot × Int)) (ps : List Spot) : List (Spot × Int) := (ps.map (fun p => (p, id))).foldl (putC s) en
theorem lineE_take (s : Sh) (id : Int) (en : List (Spot × Int)) (ps : List Spot) (n : Nat) (h : n < ps.length) : lineE s id en (ps.take (n + 1)) = putC s (lineE s id en (ps.take n)) (ps[n], id) := by
  unfold lineE
  rw [List.take_add_one, List.getElem?_eq_getElem h, List.map_append, List.foldl_append]
  rfl
theorem lineL_map {s : Sh} {p q : Spot} (h : ∀ k : Nat, k ≤ (lineN (dotOf s p) (dotOf s q)).toNat → FitS (lineAt (dotOf s p) (dotOf s q) k)) (h0 : 0 ≤ lineN (dotOf s p) (dotOf s q)) : (lineL s p q).map (·.1) = lineP (dotOf s p) (dotOf s q) := by
  unfold lineL lineP upto
  rw [List.map_map]
  refine List.map_congr_left fun k hk => ?_
  rw [List.mem_range] at hk
  exact lineS_val (h k (by omega))
theorem linePut_line {s : Sh} {p q : Spot} (id : Int) (en : List (Spot × Int)) (h : (lineL s p q).map (·.1) = lineP (dotOf s p) (dotOf s q)) : linePut s id en (lineL s p q) = lineE s id en (lineP (dotOf s p) (dotOf s q)) := by
  rw [linePut_fold, lineE, ← h, List.map_map]
  rfl

/-- dots of right points are near -/
theorem dot_near5 {s : Sh} (hs : OkS s) {p : Spot} (h : rightP p.1 p.2 = true) : Near5 (dotOf s p) := by
  obtain ⟨⟨x0, x1⟩, y0, y1⟩ := rightP_iff.1 h
  obtain ⟨s0, s1, -, -, -, -, a0, a1, b0, b1⟩ := hs
  obtain ⟨c0, c1⟩ := ediv_bd (a := p.1 - s.ax) (b := s.st) (M := 40000) (by omega) (by omega) (by omega) (by omega)
  obtain ⟨d0, d1⟩ := ediv_bd (a := p.2 - s.ay) (b := s.st) (M := 40000) (by omega) (by omega) (by omega) (by omega)
  exact ⟨by show -100000 ≤ (p.1 - s.ax) / s.st; omega, by show (p.1 - s.ax) / s.st ≤ 100000; omega, by show -100000 ≤ (p.2 - s.ay) / s.st; omega, by show (p.2 - s.ay) / s.st ≤ 100000; omega⟩
theorem line_fit {a b : Spot} (ha : Near5 a) (hb : Near5 b) (k : Nat) (hk : k ≤ (lineN a b).toNat) : FitS (lineAt a b k) := by
  obtain ⟨N0, N1⟩ := lineN_near ha hb
  obtain ⟨ax, ay⟩ := a
  obtain ⟨bx, by_⟩ := b
  obtain ⟨N, hN⟩ : ∃ N, lineN (ax, ay) (bx, by_) = N := ⟨_, rfl⟩
  rw [hN] at N0 N1 hk
  obtain ⟨a0, a1, a2, a3⟩ := ha
  obtain ⟨b0, b1, b2, b3⟩ := hb
  simp only at a0 a1 a2 a3 b0 b1 b2 b3
  by_cases hz : 0 < N
  · rw [lineAt_pos hN hz]
    obtain ⟨X0, X1⟩ := prod_bd (a := 2 * (k : Int)) (b := bx - ax) (by omega) (by omega) (by omega) (by omega)
    obtain ⟨Y0, Y1⟩ := prod_bd (a := 2 * (k : Int)) (b := by_ - ay) (by omega) (by omega) (by omega) (by omega)
    obtain ⟨ox0, ox1⟩ := ediv_bd (a := 2 * (k : Int) * (bx - ax) + N) (b := 2 * N) (M := 100000000000) (by omega) (by omega) (by omega) (by omega)
    obtain ⟨oy0, oy1⟩ := ediv_bd (a := 2 * (k : Int) * (by_ - ay) + N) (b := 2 * N) (M := 100000000000) (by omega) (by omega) (by omega) (by omega)
    exact ⟨⟨by show _ ≤ ax + _; omega, by show ax + _ ≤ _; omega⟩, by show _ ≤ ay + _; omega, by show ay + _ ≤ _; omega⟩
  · rw [lineAt_zero hN hz]
    exact ⟨⟨by show _ ≤ ax; omega, by show ax ≤ _; omega⟩, by show _ ≤ ay; omega, by show ay ≤ _; omega⟩
theorem line_put {s : Sh} (hs : OkS s) {p q : Spot} (hp : rightP p.1 p.2 = true) (hq : rightP q.1 q.2 = true) (id : Int) (en : List (Spot × Int)) : linePut s id en (lineL s p q) = lineE s id en (lineP (dotOf s p) (dotOf s q)) :=
  linePut_line id en (lineL_map (fun k hk => line_fit (dot_near5 hs hp) (dot_near5 hs hq) k hk) (lineN_near (dot_near5 hs hp) (dot_near5 hs hq)).1)

/-- the worlds between two ways, and between two points of a way -/
structure RO (w : World) (s : Sh) (B2 base : Nat) (v : Value) (en : List (Spot × Int)) (W : World) : Prop where
  sheet : Blk W B2 #[.int .i64 s.ax, .int .i64 s.ay, .int .i64 s.st, .int .i64 s.w, .int .i64 s.h, .int .i64 s.g] 29
  far : B2 < base
  row : W.ownsRow base 59 4 v (dotsS 2 en).length ((dotsS 2 en).flatMap encD)
  wb : w.heap.size ≤ base
  below : Below w.heap.size w W
  lb : base ≤ W.heap.size
  ent : Ent s en
section
variable {w W W' : World} {s : Sh} {B2 base Bw : Nat} {v v' : Value} {en en' : List (Spot × Int)} {c : Array Value} {lv : Value} {l : List Spot}
theorem RO.grown (h : RO w s B2 base v en W) (hg : W.grownBy W' none) : RO w s B2 base v en W' :=
  ⟨h.sheet.kept hg (by simp), h.far, row_other h.row hg (by simp), h.wb, h.below.grown hg h.below.size (fun k e => by cases e), Nat.le_trans h.lb hg.size, h.ent⟩
theorem RO.alloc (h : RO w s B2 base v en W) (o : Obj) : RO w s B2 base v en (W.alloc o) := h.grown (World.grownBy_alloc W o none)
theorem RO.put (h : RO w s B2 base v en W) (hg : W.grownBy W' v.ownBlock) (hrow : W'.ownsRow base 59 4 v' (dotsS 2 en').length ((dotsS 2 en').flatMap encD)) (he : Ent s en') : RO w s B2 base v' en' W' :=
  ⟨h.sheet.kept hg (fun e => by have := (h.row.lt _ e).1; have := h.far; omega), h.far, hrow, h.wb, h.below.grown hg h.below.size (fun k e => by have := (h.row.lt _ e).1; have := h.wb; omega), Nat.le_trans h.lb hg.size, he⟩
/-- .. inside a way: its box -/
structure RB (w : World) (s : Sh) (B2 base Bw : Nat) (c : Array Value) (v : Value) (en : List (Spot × Int)) (W : World) : Prop where
  out : RO w s B2 base v en W
  box : Blk W Bw c 62
theorem RB.grown (h : RB w s B2 base Bw c v en W) (hg : W.grownBy W' none) : RB w s B2 base Bw c v en W' := ⟨h.out.grown hg, h.box.kept hg (by simp)⟩
theorem RB.put (h : RB w s B2 base Bw c v en W) (hg : W.grownBy W' v.ownBlock) (hrow : W'.ownsRow base 59 4 v' (dotsS 2 en').length ((dotsS 2 en').flatMap encD)) (he : Ent s en') : RB w s B2 base Bw c v' en' W' :=
  ⟨h.out.put hg hrow he, h.box.kept hg (blk_apart h.out.row h.box (by decide))⟩
/-- .. inside a line: its dots -/
structure RL (w : World) (s : Sh) (B2 base Bw : Nat) (c : Array Value) (lv : Value) (l : List Spot) (v : Value) (en : List (Spot × Int)) (W : World) : Prop where
  way : RB w s B2 base Bw c v en W
  line : W.ownsRow base 25 2 lv l.length (l.flatMap encS)
theorem RL.grown (h : RL w s B2 base Bw c lv l v en W) (hg : W.grownBy W' none) : RL w s B2 base Bw c lv l v en W' := ⟨h.way.grown hg, row_other h.line hg (by simp)⟩
theorem RL.put (h : RL w s B2 base Bw c lv l v en W) (hg : W.grownBy W' v.ownBlock) (hrow : W'.ownsRow base 59 4 v' (dotsS 2 en').length ((dotsS 2 en').flatMap encD)) (he : Ent s en') : RL w s B2 base Bw c lv l v' en' W' :=
  ⟨h.way.put hg hrow he, row_other h.line hg (rows_apart h.line h.way.out.row (by decide))⟩
end
end Go.Proofs.YtjfdbigkbgolmaaGreatDoor
namespace Go.Proofs.YtjfdbigkbgolmaaGreatDoor
set_option linter.unusedVariables false
set_option linter.unusedSimpArgs false
open Go.RowKit Go.Shelf

def symPts (i j : Int) (r : Nat → Bool) : Nat → List Spot
  | 0 => []
  | k + 1 => symPts i j r k ++ (if r k then [symSpot i j k] else [])
def dotPts (i j : Int) (k : Nat) (d : Nat → Bool) (l : List Spot) : Nat → List Spot
  | 0 => l
  | n + 1 => dotPts i j k d l n ++ (if d n then [cellSpot i j k n] else [])
def cellPts (i j : Int) (D : Nat → Nat → Bool) (l : List Spot) : Nat → List Spot
  | 0 => l
  | k + 1 => dotPts i j k (D k) (cellPts i j D l k) 6
def placePts (i j : Int) (r : Nat → Bool) (D : Nat → Nat → Bool) (n : Nat) : List Spot := cellPts i j D (symPts i j r 9) n

def putA (id : Int) (en : List (Spot × Int)) (p : Spot) : List (Spot × Int) := putE en p id
theorem symE_pts (i j id : Int) (r : Nat → Bool) : ∀ k, symE i j id r k = (symPts i j r k).foldl (putA id) []
  | 0 => rfl
  | k + 1 => by
    rw [symE, symPts, List.foldl_append, ← symE_pts i j id r k]
    unfold upE
    split <;> rfl
theorem dotE_pts (i j id : Int) (k : Nat) (d : Nat → Bool) (l : List Spot) : ∀ n, dotE i j id k d (l.foldl (putA id) []) n = (dotPts i j k d l n).foldl (putA id) []
  | 0 => rfl
  | n + 1 => by
    rw [dotE, dotPts, List.foldl_append, ← dotE_pts i j id k d l n]
    unfold upE
    split <;> rfl
theorem cellE_pts (i j id : Int) (D : Nat → Nat → Bool) (l : List Spot) : ∀ n, cellE i j id D (l.foldl (putA id) []) n = (cellPts i j D l n).foldl (putA id) []
  | 0 => rfl
  | n + 1 => by rw [cellE, cellPts, cellE_pts i j id D l n, dotE_pts]
theorem placeE_pts (i j id : Int) (r : Nat → Bool) (D : Nat → Nat → Bool) (n : Nat) : placeE i j id r D n = (placePts i j r D n).foldl (putA id) [] := by
  unfold placeE placePts
  rw [symE_pts, cellE_pts]
theorem symPts_len (i j : Int) (r : Nat → Bool) : ∀ k, (symPts i j r k).length ≤ k
  | 0 => Nat.le_refl _
  | k + 1 => by
    have := symPts_len i j r k
    rw [symPts, List.length_append]
    split <;> simp <;> omega
theorem dotPts_len (i j : Int) (k : Nat) (d : Nat → Bool) (l : List Spot) : ∀ n, (dotPts i j k d l n).length ≤ l.length + n
  | 0 => Nat.le_refl _
  | n + 1 => by
    have := dotPts_len i j k d l n
    rw [dotPts, List.length_append]
    split <;> simp <;> omega
theorem cellPts_len (i j : Int) (D : Nat → Nat → Bool) (l : List Spot) : ∀ n, (cellPts i j D l n).length ≤ l.length + 6 * n
  | 0 => Nat.le_refl _
  | n + 1 => by
    have h1 := cellPts_len i j D l n
    have h2 := dotPts_len i j n (D n) (cellPts i j D l n) 6
    rw [cellPts]
    omega

def AllId (id : Int) (en : List (Spot × Int)) : Prop := ∀ e ∈ en, e.2 = id
theorem putE_allId {id : Int} {en : List (Spot × Int)} (h : AllId id en) (p : Spot) : AllId id (putE en p id) := by
  intro e he
  unfold putE at he
  split at he
  · obtain ⟨e', he', rfl⟩ := List.mem_map.1 he
    split
    · rfl
    · exact h e' he'
  · rcases List.mem_append.1 he with he | he
    · exact h e he
    · rw [List.mem_singleton.1 he]
theorem putE_same {id : Int} {en : List (Spot × Int)} (h : AllId id en) {p : Spot} (hk : hasK en p = true) : putE en p id = en := by
  unfold putE
  rw [if_pos hk]
  conv => rhs; rw [← List.map_id en]
  refine List.map_congr_left fun e he => ?_
  split
  · rename_i hp
    have h1 := h e he
    obtain ⟨a, b⟩ := e
    simp only [beq_iff_eq] at hp h1
    rw [← hp, ← h1]
    rfl
  · rfl
theorem idOf_all {id : Int} {en : List (Spot × Int)} (h : AllId id en) {p : Spot} (hk : hasK en p = true) : (idOf en p).getD 0 = id := by
  rw [hasK_idOf] at hk
  obtain ⟨x, hx⟩ := Option.isSome_iff_exists.1 hk
  rw [hx]
  unfold idOf at hx
  obtain ⟨e, he, rfl⟩ := Option.map_eq_some_iff.1 hx
  exact h e (List.mem_of_find?_eq_some he)
theorem putE_putC {s : Sh} {id : Int} {en : List (Spot × Int)} (h : AllId id en) {p : Spot} (hon : onS s p.1 p.2 = true) : putE en p id = putC s en (p, id) := by
  unfold putC wput
  simp only [hon, Bool.true_and]
  cases hk : hasK en p with
  | false => simp
  | true =>
    rw [idOf_all h hk, putE_same h hk]
    simp
theorem fold_putC {s : Sh} {id : Int} : ∀ (ps : List Spot) (en : List (Spot × Int)), AllId id en → (∀ p ∈ ps, onS s p.1 p.2 = true) → ps.foldl (putA id) en = (ps.map fun p => (p, id)).foldl (putC s) en
  | [], _, _, _ => rfl
  | p :: ps, en, h, hon => by
    rw [List.foldl_cons, List.map_cons, List.foldl_cons, ← putE_putC h (hon p List.mem_cons_self)]
    exact fold_putC ps _ (putE_allId h p) (fun q hq => hon q (List.mem_cons_of_mem _ hq))
theorem fold_keys {id : Int} (q : Spot) : ∀ (ps : List Spot) (en : List (Spot × Int)), q ∈ (ps.foldl (putA id) en).map (·.1) ↔ q ∈ ps ∨ q ∈ en.map (·.1)
  | [], en => by simp
  | p :: ps, en => by
    rw [List.foldl_cons, fold_keys q ps]
    unfold putA
    rw [← hasK_iff, ← hasK_iff, hasK_put]
    simp only [List.mem_cons, Bool.or_eq_true, decide_eq_true_eq]
    constructor
    · rintro (h | h | h) <;> simp [h]
    · rintro ((h | h) | h) <;> simp [h]

/-- the dots that the reference has put -/
def outP (id : Int) (ps : List Spot) : List Dt := ps.foldl (fun l p => rput l ⟨p.1, p.2, 3, id⟩) []
theorem outP_snoc (id : Int) (ps : List Spot) (p : Spot) : outP id (ps ++ [p]) = rput (outP id ps) ⟨p.1, p.2, 3, id⟩ := by
  unfold outP
  rw [List.foldl_append]
  rfl
theorem outP_take (id : Int) (ps : List Spot) (n : Nat) (h : n < ps.length) : outP id (ps.take (n + 1)) = rput (outP id (ps.take n)) ⟨ps[n].1, ps[n].2, 3, id⟩ := by
  rw [List.take_add_one, List.getElem?_eq_getElem h, Option.toList_some, outP_snoc]
theorem outP_dots {s : Sh} {id : Int} {ps : List Spot} (hon : ∀ p ∈ ps, onS s p.1 p.2 = true) : outP id ps = dotsS 3 (ps.foldl (putA id) []) := by
  rw [fold_putC ps [] (by intro e he; cases he) hon, ← rputs_dots 3 s _ [] (by simp)]
  unfold outP rputs
  rw [List.foldl_map, show dotsS 3 [] = [] from by simp [dotsS, keysS]]
  have : ∀ (ps : List Spot) (l : List Dt), (∀ p ∈ ps, onS s p.1 p.2 = true) → ps.foldl (fun l p => rput l ⟨p.1, p.2, 3, id⟩) l = ps.foldl (fun l p => if onS s p.1 p.2 = true then rput l ⟨p.1, p.2, 3, id⟩ else l) l := by
    intro ps
    induction ps with
    | nil => intros; rfl
    | cons p ps ih =>
      intro l h
      rw [List.foldl_cons, List.foldl_cons, if_pos (h p List.mem_cons_self)]
      exact ih _ (fun q hq => h q (List.mem_cons_of_mem _ hq))
  exact this ps [] hon
theorem rput_length (x : Dt) : ∀ l : List Dt, (rput l x).length ≤ l.length + 1
  | [] => Nat.le_refl _
  | d :: l => by
    have := rput_length x l
    rw [rput]
    split
    · simp; omega
    · split <;> simp
theorem outP_length (id : Int) (ps : List Spot) : (outP id ps).length ≤ ps.length := by
  have h : ∀ (ps : List Spot) (l : List Dt), (ps.foldl (fun l p => rput l ⟨p.1, p.2, 3, id⟩) l).length ≤ l.length + ps.length := by
    intro ps
    induction ps with
    | nil => intro l; exact Nat.le_refl _
    | cons p ps ih =>
      intro l
      have h1 := ih (rput l ⟨p.1, p.2, 3, id⟩)
      have h2 := rput_length ⟨p.1, p.2, 3, id⟩ l
      rw [List.foldl_cons, List.length_cons]
      omega
  have := h ps []
  simpa [outP] using this
theorem outP_mem {s : Sh} {id : Int} {ps : List Spot} (hon : ∀ p ∈ ps, onS s p.1 p.2 = true) : ∀ d ∈ outP id ps, onS s d.x d.y = true := by
  intro d hd
  rw [outP_dots hon] at hd
  have h := dotsS_mem7 hd
  rw [fold_keys] at h
  rcases h with h | h
  · exact hon _ h
  · simp at h
end Go.Proofs.YtjfdbigkbgolmaaGreatDoor
