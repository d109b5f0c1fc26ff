/-
  Chapter 29: the worlds of the walk of the reference's Ways.
  Chapter 29: the reference's Ways, walked.
-/
import Derived.Test.YtjfdbigkbgolmaaGreatDoorZL
import Derived.Test.YtjfdbigkbgolmaaGreatDoorZP
import Derived.Test.YtjfdbigkbgolmaaGreatDoorZk
import Derived.Test.YtjfdbigkbgolmaaGreatDoorZr

namespace Go.Proofs.YtjfdbigkbgolmaaGreatDoor
set_option linter.unusedVariables false
set_option linter.unusedSimpArgs false
open Go.RowKit Go.Shelf

theorem dotsS_mem7 {k : Int} {en : List (Spot × Int)} {d : Dt} (h : d ∈ dotsS k en) : (d.x, d.y) ∈ en.map (·.1) := by
  unfold dotsS at h
  obtain ⟨p, hp, rfl⟩ := List.mem_map.1 h
  exact (List.mergeSort_perm _ _).mem_iff.1 hp
/-- entries that contributions have made -/
def Ent (s : Sh) (en : List (Spot × Int)) : Prop := ∃ cs : List (Spot × Int), en = cs.foldl (putC s) []
theorem Ent.nil (s : Sh) : Ent s [] := ⟨[], rfl⟩
theorem Ent.put {s : Sh} {en : List (Spot × Int)} (h : Ent s en) (c : Spot × Int) : Ent s (putC s en c) := by
  obtain ⟨cs, rfl⟩ := h
  exact ⟨cs ++ [c], by rw [List.foldl_append]; rfl⟩
theorem Ent.nodup {s : Sh} {en : List (Spot × Int)} (h : Ent s en) : (en.map (·.1)).Nodup := by
  obtain ⟨cs, rfl⟩ := h
  exact fold_nodup s cs [] (by simp)
theorem Ent.len {s : Sh} {en : List (Spot × Int)} (h : Ent s en) (hs : OkS s) : (dotsS 2 en).length ≤ 6480 := by
  rw [dotsS_length]
  refine on_length hs h.nodup ?_
  obtain ⟨cs, rfl⟩ := h
  exact fold_on s cs [] (by simp)
theorem Ent.fits {s : Sh} {en : List (Spot × Int)} (h : Ent s en) (hs : OkS s) : ∀ d ∈ dotsS 2 en, fits d.x ∧ fits d.y := fun d hd => by
  have h9 := dotsS_mem7 hd
  obtain ⟨cs, rfl⟩ := h
  have h8 := onS_iff.1 (fold_on s cs [] (by simp) _ h9)
  have w1 := hs.w1
  have v1 := hs.h1
  simp only at h8
  exact ⟨⟨by omega, by omega⟩, by omega, by omega⟩
theorem Ent.dots {s : Sh} {en : List (Spot × Int)} (h : Ent s en) (p : Spot) (id : Int) : dotsS 2 (putC s en (p, id)) = if onS s p.1 p.2 then rput (dotsS 2 en) ⟨p.1, p.2, 2, id⟩ else dotsS 2 en := dotsS_putC 2 s en (p, id) h.nodup

/-- the entries behind the first n dots of a line -/
def lineE (s : Sh) (id : Int) (en : List (Spot × Int)) (ps : List Spot) : List (Spot × Int) := (ps.map (fun p => (p, id))).foldl (putC s) en
theorem lineE_take (s : Sh) (id : Int) (en : List (Spot × Int)) (ps : List Spot) (n : Nat) (h : n < ps.length) : lineE s id en (ps.take (n + 1)) = putC s (lineE s id en (ps.take n)) (ps[n], id) := by
  unfold lineE
  rw [List.take_add_one, List.getElem?_eq_getElem h, List.map_append, List.foldl_append]
  rfl
theorem lineL_map {s : Sh} {p q : Spot} (h : ∀ k : Nat, k ≤ (lineN (dotOf s p) (dotOf s q)).toNat → FitS (lineAt (dotOf s p) (dotOf s q) k)) (h0 : 0 ≤ lineN (dotOf s p) (dotOf s q)) : (lineL s p q).map (·.1) = lineP (dotOf s p) (dotOf s q) := by
  unfold lineL lineP upto
  rw [List.map_map]
  refine List.map_congr_left fun k hk => ?_
  rw [List.mem_range] at hk
  exact lineS_val (h k (by omega))
theorem linePut_line {s : Sh} {p q : Spot} (id : Int) (en : List (Spot × Int)) (h : (lineL s p q).map (·.1) = lineP (dotOf s p) (dotOf s q)) : linePut s id en (lineL s p q) = lineE s id en (lineP (dotOf s p) (dotOf s q)) := by
  rw [linePut_fold, lineE, ← h, List.map_map]
  rfl

/-- dots of right points are near -/
theorem dot_near5 {s : Sh} (hs : OkS s) {p : Spot} (h : rightP p.1 p.2 = true) : Near5 (dotOf s p) := by
  obtain ⟨⟨x0, x1⟩, y0, y1⟩ := rightP_iff.1 h
  obtain ⟨s0, s1, -, -, -, -, a0, a1, b0, b1⟩ := hs
  obtain ⟨c0, c1⟩ := ediv_bd (a := p.1 - s.ax) (b := s.st) (M := 40000) (by omega) (by omega) (by omega) (by omega)
  obtain ⟨d0, d1⟩ := ediv_bd (a := p.2 - s.ay) (b := s.st) (M := 40000) (by omega) (by omega) (by omega) (by omega)
  exact ⟨by show -100000 ≤ (p.1 - s.ax) / s.st; omega, by show (p.1 - s.ax) / s.st ≤ 100000; omega, by show -100000 ≤ (p.2 - s.ay) / s.st; omega, by show (p.2 - s.ay) / s.st ≤ 100000; omega⟩
theorem line_fit {a b : Spot} (ha : Near5 a) (hb : Near5 b) (k : Nat) (hk : k ≤ (lineN a b).toNat) : FitS (lineAt a b k) := by
  obtain ⟨N0, N1⟩ := lineN_near ha hb
  obtain ⟨ax, ay⟩ := a
  obtain ⟨bx, by_⟩ := b
  obtain ⟨N, hN⟩ : ∃ N, lineN (ax, ay) (bx, by_) = N := ⟨_, rfl⟩
  rw [hN] at N0 N1 hk
  obtain ⟨a0, a1, a2, a3⟩ := ha
  obtain ⟨b0, b1, b2, b3⟩ := hb
  simp only at a0 a1 a2 a3 b0 b1 b2 b3
  by_cases hz : 0 < N
  · rw [lineAt_pos hN hz]
    obtain ⟨X0, X1⟩ := prod_bd (a := 2 * (k : Int)) (b := bx - ax) (by omega) (by omega) (by omega) (by omega)
    obtain ⟨Y0, Y1⟩ := prod_bd (a := 2 * (k : Int)) (b := by_ - ay) (by omega) (by omega) (by omega) (by omega)
    obtain ⟨ox0, ox1⟩ := ediv_bd (a := 2 * (k : Int) * (bx - ax) + N) (b := 2 * N) (M := 100000000000) (by omega) (by omega) (by omega) (by omega)
    obtain ⟨oy0, oy1⟩ := ediv_bd (a := 2 * (k : Int) * (by_ - ay) + N) (b := 2 * N) (M := 100000000000) (by omega) (by omega) (by omega) (by omega)
    exact ⟨⟨by show _ ≤ ax + _; omega, by show ax + _ ≤ _; omega⟩, by show _ ≤ ay + _; omega, by show ay + _ ≤ _; omega⟩
  · rw [lineAt_zero hN hz]
    exact ⟨⟨by show _ ≤ ax; omega, by show ax ≤ _; omega⟩, by show _ ≤ ay; omega, by show ay ≤ _; omega⟩
theorem line_put {s : Sh} (hs : OkS s) {p q : Spot} (hp : rightP p.1 p.2 = true) (hq : rightP q.1 q.2 = true) (id : Int) (en : List (Spot × Int)) : linePut s id en (lineL s p q) = lineE s id en (lineP (dotOf s p) (dotOf s q)) :=
  linePut_line id en (lineL_map (fun k hk => line_fit (dot_near5 hs hp) (dot_near5 hs hq) k hk) (lineN_near (dot_near5 hs hp) (dot_near5 hs hq)).1)

/-- the worlds between two ways, and between two points of a way -/
structure RO (w : World) (s : Sh) (B2 base : Nat) (v : Value) (en : List (Spot × Int)) (W : World) : Prop where
  sheet : Blk W B2 #[.int .i64 s.ax, .int .i64 s.ay, .int .i64 s.st, .int .i64 s.w, .int .i64 s.h, .int .i64 s.g] 29
  far : B2 < base
  row : W.ownsRow base 59 4 v (dotsS 2 en).length ((dotsS 2 en).flatMap encD)
  wb : w.heap.size ≤ base
  below : Below w.heap.size w W
  lb : base ≤ W.heap.size
  ent : Ent s en
section
variable {w W W' : World} {s : Sh} {B2 base Bw : Nat} {v v' : Value} {en en' : List (Spot × Int)} {c : Array Value} {lv : Value} {l : List Spot}
theorem RO.grown (h : RO w s B2 base v en W) (hg : W.grownBy W' none) : RO w s B2 base v en W' :=
  ⟨h.sheet.kept hg (by simp), h.far, row_other h.row hg (by simp), h.wb, h.below.grown hg h.below.size (fun k e => by cases e), Nat.le_trans h.lb hg.size, h.ent⟩
theorem RO.alloc (h : RO w s B2 base v en W) (o : Obj) : RO w s B2 base v en (W.alloc o) := h.grown (World.grownBy_alloc W o none)
theorem RO.put (h : RO w s B2 base v en W) (hg : W.grownBy W' v.ownBlock) (hrow : W'.ownsRow base 59 4 v' (dotsS 2 en').length ((dotsS 2 en').flatMap encD)) (he : Ent s en') : RO w s B2 base v' en' W' :=
  ⟨h.sheet.kept hg (fun e => by have := (h.row.lt _ e).1; have := h.far; omega), h.far, hrow, h.wb, h.below.grown hg h.below.size (fun k e => by have := (h.row.lt _ e).1; have := h.wb; omega), Nat.le_trans h.lb hg.size, he⟩
/-- .. inside a way: its box -/
structure RB (w : World) (s : Sh) (B2 base Bw : Nat) (c : Array Value) (v : Value) (en : List (Spot × Int)) (W : World) : Prop where
  out : RO w s B2 base v en W
  box : Blk W Bw c 62
theorem RB.grown (h : RB w s B2 base Bw c v en W) (hg : W.grownBy W' none) : RB w s B2 base Bw c v en W' := ⟨h.out.grown hg, h.box.kept hg (by simp)⟩
theorem RB.put (h : RB w s B2 base Bw c v en W) (hg : W.grownBy W' v.ownBlock) (hrow : W'.ownsRow base 59 4 v' (dotsS 2 en').length ((dotsS 2 en').flatMap encD)) (he : Ent s en') : RB w s B2 base Bw c v' en' W' :=
  ⟨h.out.put hg hrow he, h.box.kept hg (blk_apart h.out.row h.box (by decide))⟩
/-- .. inside a line: its dots -/
structure RL (w : World) (s : Sh) (B2 base Bw : Nat) (c : Array Value) (lv : Value) (l : List Spot) (v : Value) (en : List (Spot × Int)) (W : World) : Prop where
  way : RB w s B2 base Bw c v en W
  line : W.ownsRow base 25 2 lv l.length (l.flatMap encS)
theorem RL.grown (h : RL w s B2 base Bw c lv l v en W) (hg : W.grownBy W' none) : RL w s B2 base Bw c lv l v en W' := ⟨h.way.grown hg, row_other h.line hg (by simp)⟩
theorem RL.put (h : RL w s B2 base Bw c lv l v en W) (hg : W.grownBy W' v.ownBlock) (hrow : W'.ownsRow base 59 4 v' (dotsS 2 en').length ((dotsS 2 en').flatMap encD)) (he : Ent s en') : RL w s B2 base Bw c lv l v' en' W' :=
  ⟨h.way.put hg hrow he, row_other h.line hg (rows_apart h.line h.way.out.row (by decide))⟩
end
end Go.Proofs.YtjfdbigkbgolmaaGreatDoor
namespace Go.Proofs.YtjfdbigkbgolmaaGreatDoor
set_option linter.unusedVariables false
set_option linter.unusedSimpArgs false
open Go.RowKit Go.Shelf
attribute [local go_sem] Oper.semAt_some
attribute [local go_sem ↓] Go.wp_at_zero Go.wp_at_succ

theorem RO.slice {w W : World} {s : Sh} {B2 base : Nat} {v : Value} {en : List (Spot × Int)} (h : RO w s B2 base v en W) : ∃ a cap, v = .slice a (dotsS 2 en).length cap := by
  rcases h.row.2 with ⟨rfl, h0⟩ | ⟨g, cap, cur, rfl, _⟩
  · exact ⟨none, 0, by rw [h0]⟩
  · exact ⟨_, _, rfl⟩
theorem wayLine_get (s : Sh) (ps : List Spot) (k k2 : Nat) (hk : k < ps.length) (h2 : k2 < ps.length) (he : min (k + 1) (ps.length - 1) = k2) : wayLine s ps k = lineL s ps[k] ps[k2] := by
  unfold wayLine
  rw [he, List.getD_eq_getElem?_getD, List.getElem?_eq_getElem hk, List.getD_eq_getElem?_getD, List.getElem?_eq_getElem h2]
  rfl
theorem Ent.linePut {s : Sh} {en : List (Spot × Int)} (h : Ent s en) (id : Int) (ps : List Spot) : Ent s (lineE s id en ps) := by
  unfold lineE
  generalize ps.map (fun p => (p, id)) = cs
  induction cs generalizing en with
  | nil => exact h
  | cons c cs ih => exact ih (h.put c)
theorem shC8 {W : World} {B : Nat} {a b c d e f : Int} (h : Blk W B #[.int .i64 a, .int .i64 b, .int .i64 c, .int .i64 d, .int .i64 e, .int .i64 f] 29) : W.cell? ⟨B, 0, none⟩ = some (.int .i64 a) ∧ W.cell? ⟨B, 1, none⟩ = some (.int .i64 b) ∧ W.cell? ⟨B, 2, none⟩ = some (.int .i64 c) ∧ W.cell? ⟨B, 3, none⟩ = some (.int .i64 d) ∧ W.cell? ⟨B, 4, none⟩ = some (.int .i64 e) ∧ W.cell? ⟨B, 5, none⟩ = some (.int .i64 f) :=
  ⟨h.cell 0, h.cell 1, h.cell 2, h.cell 3, h.cell 4, h.cell 5⟩

theorem rline_at (ax ay bx by_ : Int) (w : World) (ha : Near5 (ax, ay)) (hb : Near5 (bx, by_)) :
    Calls Tryz.prog 51 #[.agg #[.int .i64 ax, .int .i64 ay], .agg #[.int .i64 bx, .int .i64 by_]] w fun e w' => ∃ v base, e = .returned v ∧ w.heap.size ≤ base ∧ w'.ownsRow base 25 2 v (lineP (ax, ay) (bx, by_)).length ((lineP (ax, ay) (bx, by_)).flatMap encS) ∧ Below w.heap.size w w' := rline_any (ax, ay) (bx, by_) w ha hb
theorem lineP_len {a b : Spot} (ha : Near5 a) (hb : Near5 b) : (lineP a b).length ≤ 200001 := by
  obtain ⟨h0, h1⟩ := lineN_near ha hb
  unfold lineP
  rw [upto_length]
  omega
set_option maxRecDepth 100000 in
set_option maxHeartbeats 8000000 in
theorem rways_any (s : Sh) (sv : Value) (ws : List Wy) (w : World) (hc : checkS s = 0) (hW : Wys w.heap.size w sv ws) (hlen : ws.length ≤ 8) (hpl : ∀ y ∈ ws, y.line.length ≤ 8) :
    Calls Tryz.prog 15 #[shV s, sv] w fun e w' => ∃ v base, e = .returned v ∧ w.heap.size ≤ base ∧ w'.ownsRow base 59 4 v (dotsS 2 (waysE s [] (ws.map Wy.key))).length ((dotsS 2 (waysE s [] (ws.map Wy.key))).flatMap encD) ∧ Below w.heap.size w w' := by
  have hs := okS_of hc
  obtain ⟨ax, ay, st, sw, sh, sg⟩ := s
  have hcH := Lib.hid hc
  clear hc
  have hd0 : dotsS 2 [] = [] := by simp [dotsS, keysS]
  obtain ⟨wa, wcap, rfl, hrows⟩ := hW
  go_enter Tryz.func15, Tryz.ntmps15
  go_upto_region 3 with (go_at_call 49; refine (rcheck_eq hcH.out _).mono ?_; rintro e w' ⟨rfl, hb_⟩; obtain ⟨p, rfl⟩ := grow_of_below hb_; clear hb_)
  refine wp_world (fun W0 hW0 => ?_)
  have hO0 : RO w ⟨ax, ay, st, sw, sh, sg⟩ w.heap.size (w.heap.size + 1) (.slice none 0 0) [] W0 := by
    rw [hW0]
    exact ⟨(Blk.new w _ _).grow _, by omega, by rw [hd0]; exact World.ownsRow_nil _ _ _ _, by omega, (by repeat' (first | with_reducible exact Below.refl _ _ | with_reducible exact Nat.le_refl _ | with_reducible assumption | with_reducible refine Go.below_growBy' ?_ ?_ _ | with_reducible refine Below.alloc ?_ ?_ _ | with_reducible refine Below.setCell ?_ ?_ _ | with_reducible refine Below.drew ?_ | with_reducible refine Go.le_alloc ?_ | with_reducible refine Go.le_growBy ?_ | with_reducible refine Go.le_setCell ?_ | with_reducible refine Go.le_drew ?_ | omega | (dsimp only; omega))), by simp, Ent.nil _⟩
  clear hW0
  obtain ⟨B2, hB2⟩ : ∃ b, w.heap.size = b := ⟨_, rfl⟩
  rw [hB2] at hO0 hrows ⊢
  obtain ⟨base, hbase⟩ : ∃ b, B2 + 1 = b := ⟨_, rfl⟩
  rw [hbase] at hO0
  clear hbase
  go_wp2_with fail
  go_loopw [5, 6] (fun v i wr => ∃ t : Nat, t ≤ ws.length ∧ i = .int .i64 (t : Nat) ∧ RO w ⟨ax, ay, st, sw, sh, sg⟩ B2 base v (waysE ⟨ax, ay, st, sw, sh, sg⟩ [] ((ws.map Wy.key).take t)) wr) (fun _ i _ => ws.length - (intOf i).toNat)
  case atStart => exact ⟨0, Nat.zero_le _, rfl, hO0⟩
  case round =>
    clear hO0
    obtain ⟨t, ht, rfl, hO⟩ := hrel
    by_cases hlt : t < ws.length
    · have hltI : (t : Int) < (ws.length : Int) := by omega
      obtain ⟨b, off, rfl, hb, hy⟩ := hrows t hlt
      have hbel : Below B2 w wr := hB2 ▸ hO.below
      have hy' := hy.below hbel hb
      have hply := hpl _ (List.getElem_mem hlt)
      have hnext := waysE_take ⟨ax, ay, st, sw, sh, sg⟩ (ws.map Wy.key) t (by simpa using hlt)
      rw [List.getElem_map] at hnext
      obtain ⟨y, hye⟩ : ∃ y, ws[t] = y := ⟨_, rfl⟩
      rw [hye] at hy' hply hnext
      have hrowsH := Lib.hid hrows
      have hplH := Lib.hid hpl
      clear hye hy hrows hpl
      obtain ⟨id, line, lv, lvl, cls, nm, stb, wt, di⟩ := y
      obtain ⟨c0, c1, c2, c3, c4, c5, c6, c7, hpt⟩ := hy'
      simp only at c0 c1 c2 c3 c4 c5 c6 c7 hpt hply
      simp only [Wy.key] at hnext
      obtain ⟨la, lcap, rfl, hpts⟩ := hpt
      obtain ⟨en0, hen0⟩ : ∃ en, waysE ⟨ax, ay, st, sw, sh, sg⟩ [] ((ws.map Wy.key).take t) = en := ⟨_, rfl⟩
      obtain ⟨enT, henT⟩ : ∃ en, waysE ⟨ax, ay, st, sw, sh, sg⟩ [] ((ws.map Wy.key).take (t + 1)) = en := ⟨_, rfl⟩
      rw [hen0] at hO hnext
      rw [henT] at hnext
      replace henT := Lib.hid henT
      clear hen0
      replace hnext := Lib.hid hnext
      have hplI : (line.length : Int) ≤ 8 := by omega
      have hBw : base ≤ wr.heap.size := hO.lb
      have hlast : ∀ X, Below w.heap.size w X → ∀ j, (h : j < line.length) → ∃ b off, la = some ⟨b, off, none⟩ ∧ X.cell? ⟨b, off + j * 2, none⟩ = some (.int .i64 line[j].1) ∧ X.cell? ⟨b, off + j * 2 + 1, none⟩ = some (.int .i64 line[j].2) := fun X hX j hj => by
        rw [hB2] at hX
        obtain ⟨b, off, e, hb, z0, z1⟩ := hpts j hj
        exact ⟨b, off, e, (hX.cell (p := ⟨b, off + j * 2, none⟩) hb).trans ((hbel.cell (p := ⟨b, off + j * 2, none⟩) hb).symm.trans z0), (hX.cell (p := ⟨b, off + j * 2 + 1, none⟩) hb).trans ((hbel.cell (p := ⟨b, off + j * 2 + 1, none⟩) hb).symm.trans z1)⟩
      clear hpts
      go_wp2_with fail
      have hI0 : RB w ⟨ax, ay, st, sw, sh, sg⟩ B2 base wr.heap.size #[.int .i64 id, .slice la line.length lcap, .int .i64 lvl, .string cls, .string nm, .bool stb, .int .i64 wt, .int .i64 di] u5 en0 (wr.alloc (.cells #[.int .i64 id, .slice la line.length lcap, .int .i64 lvl, .string cls, .string nm, .bool stb, .int .i64 wt, .int .i64 di] 62)) := ⟨hO.alloc _, Blk.new _ _ _⟩
      clear c0 c1 c2 c3 c4 c5 c6 c7 hbel
      obtain ⟨Bw, hBwe⟩ : ∃ b, wr.heap.size = b := ⟨_, rfl⟩
      rw [hBwe] at hI0 hBw ⊢
      obtain ⟨W1, hW1⟩ : ∃ W, wr.alloc (.cells #[.int .i64 id, .slice la line.length lcap, .int .i64 lvl, .string cls, .string nm, .bool stb, .int .i64 wt, .int .i64 di] 62) = W := ⟨_, rfl⟩
      rw [hW1] at hI0 ⊢
      clear hW1 hO
      obtain ⟨C, hC⟩ : ∃ c : Array Value, #[.int .i64 id, .slice la line.length lcap, .int .i64 lvl, .string cls, .string nm, .bool stb, .int .i64 wt, .int .i64 di] = c := ⟨_, rfl⟩
      rw [hC] at hI0
      have hC0 : ∀ W, Blk W Bw C 62 → W.cell? ⟨Bw, 0, none⟩ = some (.int .i64 id) := fun W h => by rw [h.cell 0, ← hC]; rfl
      have hC1 : ∀ W, Blk W Bw C 62 → W.cell? ⟨Bw, 1, none⟩ = some (.slice la line.length lcap) := fun W h => by rw [h.cell 1, ← hC]; rfl
      clear hC
      go_loopw [8, 9] (fun r i wx => ∃ k : Nat, k ≤ line.length ∧ i = .int .i64 (k : Nat) ∧ r = .bool (rightL (line.take k)) ∧ RB w ⟨ax, ay, st, sw, sh, sg⟩ B2 base Bw C u5 en0 wx) (fun _ i _ => line.length - (intOf i).toNat)
      case atStart => exact ⟨0, Nat.zero_le _, rfl, rfl, hI0⟩
      case round =>
        clear hI0
        obtain ⟨k, hk, rfl, rfl, hI⟩ := hrel
        have z1 := hC1 _ hI.box
        by_cases hlk : k < line.length
        · have hlkI : (k : Int) < (line.length : Int) := by omega
          obtain ⟨pb, po, rfl, p0, p1⟩ := hlast _ hI.out.below k hlk
          have htk := rightL_take line k hlk
          obtain ⟨r0, hr0⟩ : ∃ r, rightL (line.take k) = r := ⟨_, rfl⟩
          rw [hr0] at htk ⊢
          obtain ⟨⟨px, py⟩, hpe⟩ : ∃ p, line[k] = p := ⟨_, rfl⟩
          rw [hpe] at p0 p1 htk
          simp only at p0 p1 htk
          obtain ⟨r1, hr1⟩ : ∃ r, rightP px py = r := ⟨_, rfl⟩
          rw [hr1] at htk
          replace hr1 := Lib.hid hr1
          replace htk := Lib.hid htk
          clear hpe hr0
          cases r0
          all_goals
            go_wp2_with (first | (go_at_call 50; refine (rright_eq hr1.out _).mono ?_; rintro e w' ⟨rfl, hb_⟩; obtain ⟨p, rfl⟩ := grow_of_below hb_; clear hb_) | fail)
            go_roundw
            case rel => exact ⟨k + 1, by omega, by go_num, by rw [htk.out]; simp, hI.grown (grownBy_growBy _ _)⟩
            case measure => simp [intOf]; omega
        · obtain rfl : k = line.length := by omega
          rw [List.take_length]
          have hgeI : ¬ (line.length : Int) < (line.length : Int) := by omega
          obtain ⟨r, hr⟩ : ∃ r, rightL line = r := ⟨_, rfl⟩
          have hnx := hnext.out
          rw [hr] at hnx ⊢
          replace hnext := Lib.hid hnx
          clear hnx
          cases r with
          | false =>
            go_wp2_with fail
            refine wp_loop_rounds 1 ?_
            rw [rounds_succ]
            by_cases h0 : 0 < line.length
            · have h0I : (0 : Int) < (line.length : Int) := by omega
              go_wp2_with fail
              go_roundw
              case rel => exact ⟨t + 1, by omega, by go_num, by rw [henT.out, hnext.out]; exact hI.out⟩
              case measure => simp [intOf]; omega
            · have h0I : ¬ (0 : Int) < (line.length : Int) := by omega
              go_wp2_with fail
              go_roundw
              case rel => exact ⟨t + 1, by omega, by go_num, by rw [henT.out, hnext.out]; exact hI.out⟩
              case measure => simp [intOf]; omega
          | true =>
            have hrr := fun k hk => rightL_get hr k hk
            replace hr := Lib.hid hr
            go_wp2_with fail
            go_loopw [5, 11] (fun v i wx => ∃ k : Nat, k ≤ line.length ∧ i = .int .i64 (k : Nat) ∧ RB w ⟨ax, ay, st, sw, sh, sg⟩ B2 base Bw C v (wayPut ⟨ax, ay, st, sw, sh, sg⟩ id line en0 k) wx) (fun _ i _ => line.length - (intOf i).toNat)
            case atStart => exact ⟨0, Nat.zero_le _, rfl, hI⟩
            case round =>
              clear hI z1
              obtain ⟨k, hk, rfl, hI⟩ := hrel
              have z1 := hC1 _ hI.box
              by_cases hlk : k < line.length
              · have hlkI : (k : Int) < (line.length : Int) := by omega
                obtain ⟨pb, po, rfl, p0, p1⟩ := hlast _ hI.out.below k hlk
                obtain ⟨k2, hk2⟩ : ∃ k2, min (k + 1) (line.length - 1) = k2 := ⟨_, rfl⟩
                have hk2l : k2 < line.length := by omega
                have hk2I : (k2 : Int) < (line.length : Int) := by omega
                have hk2z : 0 ≤ (k2 : Int) := by omega
                have hminI : min ((k : Int) + 1) ((line.length : Int) - 1) = (k2 : Int) := by omega
                obtain ⟨pb', po', hpe', q0, q1⟩ := hlast _ hI.out.below k2 hk2l
                simp only [Option.some.injEq, Addr.mk.injEq, and_true] at hpe'
                obtain ⟨rfl, rfl⟩ := hpe'
                have hwl := wayLine_get ⟨ax, ay, st, sw, sh, sg⟩ line k k2 hlk hk2l hk2
                have hws := wayPut_succ ⟨ax, ay, st, sw, sh, sg⟩ id line en0 k
                have hrp := hrr k hlk
                have hrq := hrr k2 hk2l
                rw [hwl] at hws
                rw [line_put hs hrp hrq] at hws
                have hnp := dot_near5 hs hrp
                have hnq := dot_near5 hs hrq
                clear hwl hk2
                obtain ⟨⟨px, py⟩, hpe⟩ : ∃ p, line[k] = p := ⟨_, rfl⟩
                obtain ⟨⟨qx, qy⟩, hqe⟩ : ∃ p, line[k2] = p := ⟨_, rfl⟩
                rw [hpe] at p0 p1 hrp hws hnp
                rw [hqe] at q0 q1 hrq hws hnq
                clear hpe hqe
                obtain ⟨⟨px0, px1⟩, py0, py1⟩ := rightP_iff.1 hrp
                obtain ⟨⟨qx0, qx1⟩, qy0, qy1⟩ := rightP_iff.1 hrq
                simp only at p0 p1 q0 q1 px0 px1 py0 py1 qx0 qx1 qy0 qy1
                clear hrp hrq
                obtain ⟨i0, hi0⟩ : ∃ i, dotX ⟨ax, ay, st, sw, sh, sg⟩ px = i := ⟨_, rfl⟩
                obtain ⟨j0, hj0⟩ : ∃ i, dotY ⟨ax, ay, st, sw, sh, sg⟩ py = i := ⟨_, rfl⟩
                obtain ⟨i1, hi1⟩ : ∃ i, dotX ⟨ax, ay, st, sw, sh, sg⟩ qx = i := ⟨_, rfl⟩
                obtain ⟨j1, hj1⟩ : ∃ i, dotY ⟨ax, ay, st, sw, sh, sg⟩ qy = i := ⟨_, rfl⟩
                unfold dotOf at hnp hnq hws
                simp only at hnp hnq hws
                rw [hi0, hj0] at hnp
                rw [hi1, hj1] at hnq
                rw [hi0, hj0, hi1, hj1] at hws
                replace hi0 := Lib.hid hi0
                replace hj0 := Lib.hid hj0
                replace hi1 := Lib.hid hi1
                replace hj1 := Lib.hid hj1
                obtain ⟨en1, hen1⟩ : ∃ en, wayPut ⟨ax, ay, st, sw, sh, sg⟩ id line en0 k = en := ⟨_, rfl⟩
                rw [hen1] at hI hws
                clear hen1
                replace hws := Lib.hid hws
                have hLl := lineP_len hnp hnq
                obtain ⟨d0, d1, d2, d3, d4, d5⟩ := shC8 hI.out.sheet
                go_upto_region 18 with fail
                first | with_reducible refine wp_region_grow_tail2 14 (by kernel_rfl) (by kernel_rfl) ?_ | with_reducible refine wp_region_grow_tail 14 (by kernel_rfl) (by kernel_rfl) ?_
                simp only [List.take_succ_cons, List.take_zero, List.drop_succ_cons, List.drop_zero]
                repeat (first | go_big_quiet_step ((go_at_call 52; exact Calls.grow_of (rdot_any ⟨ax, ay, st, sw, sh, sg⟩ _ _ _ _ _ (by first | with_reducible exact hi0.out | with_reducible exact hi1.out) (by first | with_reducible exact hj0.out | with_reducible exact hj1.out) hs (by omega) (by omega) (by omega) (by omega)))) | quiet_step ((go_at_call 52; exact Calls.grow_of (rdot_any ⟨ax, ay, st, sw, sh, sg⟩ _ _ _ _ _ (by first | with_reducible exact hi0.out | with_reducible exact hi1.out) (by first | with_reducible exact hj0.out | with_reducible exact hj1.out) hs (by omega) (by omega) (by omega) (by omega)))))
                refine wpQuiet_nil ?_
                intro _ hw_
                obtain ⟨p, hw_⟩ := hw_
                subst hw_
                go_upto_region 19 with (first | (go_at_call 51; refine (rline_at i0 j0 i1 j1 _ hnp hnq).mono ?_; rintro e w3 ⟨lv3, base3, rfl, hb3, hr3, hb4⟩) | fail)
                have hR0 : RL w ⟨ax, ay, st, sw, sh, sg⟩ B2 base Bw C lv3 (lineP (i0, j0) (i1, j1)) u5 en1 w3 := ⟨(hI.grown (grownBy_growBy _ _)).grown (grownBy_of_below hb4), hr3.mono (Nat.le_trans (Nat.le_trans hI.out.lb (grownBy_growBy _ _).size) hb3)⟩
                clear hr3 hb4 hb3 hI p0 p1 q0 q1 d0 d1 d2 d3 d4 d5 z1 hi0 hj0 hi1 hj1 hnp hnq
                obtain ⟨L, hL⟩ : ∃ L, lineP (i0, j0) (i1, j1) = L := ⟨_, rfl⟩
                rw [hL] at hR0 hws hLl
                clear hL
                obtain ⟨l3, cap3, rfl⟩ : ∃ a cap, lv3 = .slice a L.length cap := by
                  rcases hR0.line.2 with ⟨rfl, h0⟩ | ⟨g, cap, cur, rfl, _⟩
                  · exact ⟨none, 0, by rw [h0]⟩
                  · exact ⟨_, _, rfl⟩
                have hLI : (L.length : Int) ≤ 200001 := by omega
                go_wp2_with fail
                go_loopw [5, 14] (fun v i wx => ∃ n : Nat, n ≤ L.length ∧ i = .int .i64 (n : Nat) ∧ RL w ⟨ax, ay, st, sw, sh, sg⟩ B2 base Bw C (.slice l3 L.length cap3) L v (lineE ⟨ax, ay, st, sw, sh, sg⟩ id en1 (L.take n)) wx) (fun _ i _ => L.length - (intOf i).toNat)
                case atStart => exact ⟨0, Nat.zero_le _, rfl, hR0⟩
                case round =>
                  clear hR0
                  obtain ⟨n, hn, rfl, hM⟩ := hrel
                  by_cases hln : n < L.length
                  · have hlnI : (n : Int) < (L.length : Int) := by omega
                    have hlt7 := lineE_take ⟨ax, ay, st, sw, sh, sg⟩ id en1 L n hln
                    obtain ⟨a', cap', e', hpt'⟩ := pts_of_row hM.line
                    simp only [Value.slice.injEq, true_and] at e'
                    obtain ⟨rfl, rfl⟩ := e'
                    obtain ⟨pb7, po7, rfl, -, y0, y1⟩ := hpt' n hln
                    obtain ⟨⟨dx, dy⟩, hde⟩ : ∃ d, L[n] = d := ⟨_, rfl⟩
                    rw [hde] at y0 y1 hlt7
                    simp only at y0 y1
                    clear hde hpt'
                    obtain ⟨en, hen⟩ : ∃ en, lineE ⟨ax, ay, st, sw, sh, sg⟩ id en1 (L.take n) = en := ⟨_, rfl⟩
                    rw [hen] at hM hlt7
                    clear hen
                    have hdots := hM.way.out.ent.dots (dx, dy) id
                    have hent := hM.way.out.ent.put ((dx, dy), id)
                    simp only at hdots
                    rw [← hlt7] at hdots hent
                    obtain ⟨en7, hen7⟩ : ∃ en, lineE ⟨ax, ay, st, sw, sh, sg⟩ id en1 (L.take (n + 1)) = en := ⟨_, rfl⟩
                    rw [hen7] at hdots hent hlt7
                    replace hen7 := Lib.hid hen7
                    obtain ⟨d0, d1, d2, d3, d4, d5⟩ := shC8 hM.way.out.sheet
                    have z0 := hC0 _ hM.way.box
                    obtain ⟨on, hon⟩ : ∃ o, onS ⟨ax, ay, st, sw, sh, sg⟩ dx dy = o := ⟨_, rfl⟩
                    rw [hon] at hdots
                    cases on with
                    | false =>
                      simp only [Bool.false_eq_true, if_false] at hdots
                      replace hdots := Lib.hid hdots
                      have hsame : putC ⟨ax, ay, st, sw, sh, sg⟩ en ((dx, dy), id) = en := by
                        unfold putC wput
                        simp [hon]
                      rw [hsame] at hlt7
                      replace hon := Lib.hid hon
                      replace hlt7 := Lib.hid hlt7
                      clear hsame
                      go_wp2_with fail
                      first | with_reducible refine wp_region_grow2 (by kernel_rfl) (by kernel_rfl) ?_ | with_reducible refine wp_region_grow (by kernel_rfl) (by kernel_rfl) ?_
                      repeat (first | go_big_quiet_step ((go_at_call 40; exact Calls.grow_of (ron_any ⟨ax, ay, st, sw, sh, sg⟩ _ _ _ _ hon.out))) | quiet_step ((go_at_call 40; exact Calls.grow_of (ron_any ⟨ax, ay, st, sw, sh, sg⟩ _ _ _ _ hon.out))))
                      refine wpQuiet_nil ?_
                      intro _ hw_
                      obtain ⟨p, hw_⟩ := hw_
                      subst hw_
                      go_wp2_with fail
                      go_roundw
                      case rel => exact ⟨n + 1, by omega, by go_num, by rw [hen7.out, hlt7.out]; exact hM.grown (grownBy_growBy _ _)⟩
                      case measure => simp [intOf]; omega
                    | true =>
                      simp only [if_true] at hdots
                      replace hdots := Lib.hid hdots
                      replace hon := Lib.hid hon
                      replace hlt7 := Lib.hid hlt7
                      go_wp2_with fail
                      first | with_reducible refine wp_region_grow2 (by kernel_rfl) (by kernel_rfl) ?_ | with_reducible refine wp_region_grow (by kernel_rfl) (by kernel_rfl) ?_
                      repeat (first | go_big_quiet_step ((go_at_call 40; exact Calls.grow_of (ron_any ⟨ax, ay, st, sw, sh, sg⟩ _ _ _ _ hon.out))) | quiet_step ((go_at_call 40; exact Calls.grow_of (ron_any ⟨ax, ay, st, sw, sh, sg⟩ _ _ _ _ hon.out))))
                      refine wpQuiet_nil ?_
                      intro _ hw_
                      obtain ⟨p, hw_⟩ := hw_
                      subst hw_
                      go_wp2_with fail
                      first | with_reducible refine wp_region_grow_tail2 14 (by kernel_rfl) (by kernel_rfl) ?_ | with_reducible refine wp_region_grow_tail 14 (by kernel_rfl) (by kernel_rfl) ?_
                      simp only [List.take_succ_cons, List.take_zero, List.drop_succ_cons, List.drop_zero]
                      repeat (first | go_big_quiet_step (fail) | quiet_step (fail))
                      refine wpQuiet_nil ?_
                      intro _ hw_
                      obtain ⟨p, hw_⟩ := hw_
                      subst hw_
                      refine (fun (h : ∀ W, W = _ → wpList _ _ _ _ _ W) => h _ rfl) (fun W9 hW9 => ?_)
                      have hM9 : RL w ⟨ax, ay, st, sw, sh, sg⟩ B2 base Bw C (.slice (some ⟨pb7, po7, none⟩) L.length cap3) L u5 en W9 := by
                        rw [hW9]
                        exact hM.grown (grownBy_growBy _ _)
                      clear hW9 hM y0 y1 d0 d1 d2 d3 d4 d5 z0
                      have hl6 := hM9.way.out.ent.len hs
                      have hff := hM9.way.out.ent.fits hs
                      go_wp2_with (first | (go_at_call 41; refine (put_any _ (dotsS 2 en) dx dy 2 id base _ hM9.way.out.row hM9.way.out.lb (by omega) hff).mono ?_; rintro e w9 ⟨v9, rfl, hrow9, hg9⟩) | fail)
                      rw [← hdots.out] at hrow9
                      go_roundw
                      case rel => exact ⟨n + 1, by omega, by go_num, by rw [hen7.out]; exact hM9.put hg9 hrow9 hent⟩
                      case measure => simp [intOf]; omega
                  · obtain rfl : n = L.length := by omega
                    have hgeI : ¬ (L.length : Int) < (L.length : Int) := by omega
                    rw [List.take_length] at hM
                    go_wp2_with fail
                    go_roundw
                    case rel => exact ⟨k + 1, by omega, by go_num, by rw [hws.out]; exact hM.way⟩
                    case measure => simp [intOf]; omega
              · obtain rfl : k = line.length := by omega
                have hgeI : ¬ (line.length : Int) < (line.length : Int) := by omega
                go_wp2_with fail
                go_roundw
                case rel => exact ⟨t + 1, by omega, by go_num, by rw [henT.out, hnext.out]; exact hI.out⟩
                case measure => simp [intOf]; omega
    · obtain rfl : t = ws.length := by omega
      rw [List.take_of_length_le (by simp)] at hO
      go_wp2_with fail
      go_ret
      exact ⟨_, base, rfl, hB2 ▸ hO.wb, hO.row, hB2 ▸ hO.below⟩
end Go.Proofs.YtjfdbigkbgolmaaGreatDoor
