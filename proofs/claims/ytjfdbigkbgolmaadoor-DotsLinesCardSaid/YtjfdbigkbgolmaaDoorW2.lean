/-
  Chapter 29: two points of a made sheet: their dots, and the dots of the way between them.
-/
import Derived.Test.YtjfdbigkbgolmaaDoorV2
import Derived.Test.YtjfdbigkbgolmaaDoorN1
import Derived.Test.YtjfdbigkbgolmaaDoorT5
import Derived.Test.YtjfdbigkbgolmaaDoorR4
namespace Go.Proofs.YtjfdbigkbgolmaaDoor
open Go.RowKit Go.Shelf Go.Deep

/-- a point of the sheet's area -/
structure InArea (s : Sh) (x y : Int) : Prop where
  x0 : s.ax ≤ x
  x1 : x < s.ax + s.w * s.st
  y0 : s.ay ≤ y
  y1 : y < s.ay + s.h * s.st

theorem MadeS.prod {s : Sh} (h : MadeS s) : (120 ≤ s.w * s.st ∧ s.w * s.st ≤ 680) ∧ (90 ≤ s.h * s.st ∧ s.h * s.st ≤ 510) := by
  have := h.t0
  have := h.w0
  have := h.h0
  have m1 := Int.mul_le_mul (a := s.w) (b := s.st) (c := 40) (d := 17) h.w1 h.t1 (by omega) (by omega)
  have m2 := Int.mul_le_mul (a := s.h) (b := s.st) (c := 30) (d := 17) h.h1 h.t1 (by omega) (by omega)
  have m3 := Int.mul_le_mul (a := 20) (b := 6) (c := s.w) (d := s.st) h.w0 h.t0 (by omega) (by omega)
  have m4 := Int.mul_le_mul (a := 15) (b := 6) (c := s.h) (d := s.st) h.h0 h.t0 (by omega) (by omega)
  exact ⟨⟨m3, m1⟩, m4, m2⟩
theorem MadeS.area {s : Sh} (h : MadeS s) {u v : Int} (hu : 0 ≤ u) (hv : 0 ≤ v) : InArea s (s.ax + u.tmod (s.w * s.st)) (s.ay + v.tmod (s.h * s.st)) := by
  obtain ⟨⟨p1, -⟩, p2, -⟩ := h.prod
  have a1 := Int.tmod_nonneg (s.w * s.st) hu
  have a2 := Int.tmod_lt_of_pos u (b := s.w * s.st) (by omega)
  have b1 := Int.tmod_nonneg (s.h * s.st) hv
  have b2 := Int.tmod_lt_of_pos v (b := s.h * s.st) (by omega)
  exact ⟨by omega, by omega, by omega, by omega⟩
theorem InArea.on {s : Sh} {x y : Int} (h : InArea s x y) (hm : MadeS s) : onS s (dotX s x) (dotY s y) = true := by
  have := hm.t0
  rw [onS_iff]
  unfold dotX dotY
  refine ⟨⟨Int.ediv_nonneg (by have := h.x0; omega) (by omega), Int.ediv_lt_of_lt_mul (by omega) (by have := h.x1; omega)⟩, Int.ediv_nonneg (by have := h.y0; omega) (by omega), Int.ediv_lt_of_lt_mul (by omega) (by have := h.y1; omega)⟩
theorem InArea.right {s : Sh} {x y : Int} (h : InArea s x y) (hm : MadeS s) : rightP x y = true := by
  obtain ⟨⟨-, p1⟩, -, p2⟩ := hm.prod
  obtain ⟨x0, x1, y0, y1⟩ := h
  obtain ⟨a0, a1, b0, b1, -⟩ := hm
  exact rightP_iff.2 (by omega)
theorem InArea.of {s : Sh} {x y : Int} (h : InArea s x y) (hm : MadeS s) : ofS s x y = (dotX s x, dotY s y, true) := by
  unfold ofS
  rw [if_pos ⟨hm.check, h.right hm, h.on hm⟩]

/-- the dots of the way between two such points -/
def lineL2 (s : Sh) (p q : Spot) : List Dt := dotsS 2 (wayE s 4 p q)
theorem lineL2_dots {s : Sh} {p q : Spot} (hm : MadeS s) (hp : InArea s p.1 p.2) (hq : InArea s q.1 q.2) : LineDots s (dotOf s p) (dotOf s q) (lineL2 s p q) :=
  lineDots s p q (hp.on hm) (hq.on hm) (okS_of hm.check)
theorem LineDots.pos {s : Sh} {A B : Spot} {L : List Dt} (h : LineDots s A B L) : 0 < L.length := by
  obtain ⟨k, hk, -⟩ := h.first
  omega
theorem LineDots.fits {s : Sh} {A B : Spot} {L : List Dt} (h : LineDots s A B L) (hs : OkS s) : ∀ d ∈ L, fits d.x ∧ fits d.y := by
  intro d hd
  obtain ⟨k, hk, rfl⟩ := List.getElem_of_mem hd
  have h1 := onS_iff.1 (h.on k hk).1
  have := hs.w1
  have := hs.h1
  exact ⟨⟨by omega, by omega⟩, by omega, by omega⟩
theorem lineN_small {s : Sh} {A B : Spot} (hA : onS s A.1 A.2 = true) (hB : onS s B.1 B.2 = true) (hs : OkS s) : lineN A B ≤ 80 := by
  have h1 := onS_iff.1 hA
  have h2 := onS_iff.1 hB
  have := hs.w1
  have := hs.h1
  have h3 := lineN_is A B
  omega
theorem max4_line (i j k n : Int) : max4 (i - k) (k - i) (j - n) (n - j) = lineN (i, j) (k, n) := by
  unfold lineN max4 mx
  simp only
  repeat' split
  all_goals omega

theorem ways_pts (X : World) {s : Sh} {p q : Spot} (hm : MadeS s) (hp : InArea s p.1 p.2) (hq : InArea s q.1 q.2) :
    Calls Tryd.prog 13 #[shV s, .slice (some ⟨X.heap.size + 1, 0, none⟩) 1 1] ((X.alloc (.cells #[.int .i64 p.1, .int .i64 p.2, .int .i64 q.1, .int .i64 q.2] 24)).alloc (.cells (wayC 4 X.heap.size) 42)) fun e w' =>
      ∃ b off cap, e = .returned (.slice (some ⟨b, off, none⟩) (lineL2 s p q).length cap) ∧ (lineL2 s p q).length ≤ cap ∧ Dts w'.heap.size w' (.slice (some ⟨b, off, none⟩) (lineL2 s p q).length cap) (lineL2 s p q) ∧ Below X.heap.size X w' := by
  have hL := lineL2_dots hm hp hq
  have hok := okS_of hm.check
  have hpos := hL.pos
  have hne : wayE s 4 p q ≠ [] := fun e => by
    have : (lineL2 s p q).length = 0 := by unfold lineL2; rw [e, dotsS_length]; rfl
    omega
  have hlen : (lineL2 s p q).length ≤ 81 := by
    have h1 := lineN_small (A := dotOf s p) (B := dotOf s q) (hp.on hm) (hq.on hm) hok
    rw [hL.len]
    omega
  have k1 := (Blk.new X #[.int .i64 p.1, .int .i64 p.2, .int .i64 q.1, .int .i64 q.2] 24).alloc (.cells (wayC 4 X.heap.size) 42)
  have k2 := Blk.new (X.alloc (.cells #[.int .i64 p.1, .int .i64 p.2, .int .i64 q.1, .int .i64 q.2] 24)) (wayC 4 X.heap.size) 42
  rw [World.size_alloc] at k2
  refine ((callsIn_wide (n := 3)).1 (ways1_in s 4 p q _ _ _ hm.check (by decide) hne (hp.right hm) (hq.right hm) k2 k1)).mono ?_
  rintro e w' ⟨v, base, rfl, -, hrow, hb⟩
  have hD : Dts w'.heap.size w' v (lineL2 s p q) := dts_of_row (l := lineL2 s p q) hrow (by omega) (hL.fits hok)
  obtain ⟨b, off, cap, rfl, -, -⟩ := hD.news (fun e => by rw [e] at hpos; simp at hpos)
  have hcap : (lineL2 s p q).length ≤ cap := by
    rcases hrow.2 with ⟨h, -⟩ | ⟨g, c, cur, h, -, -, hc, -⟩
    · simp at h
    · simp only [Value.slice.injEq] at h
      obtain ⟨-, -, rfl⟩ := h
      exact hc
  exact ⟨b, off, cap, rfl, hcap, hD, Below.trans (b := (X.alloc (.cells #[.int .i64 p.1, .int .i64 p.2, .int .i64 q.1, .int .i64 q.2] 24)).alloc (.cells (wayC 4 X.heap.size) 42)) (by repeat' (first | with_reducible exact Below.refl _ _ | with_reducible exact Nat.le_refl _ | with_reducible assumption | with_reducible refine Go.below_growBy' ?_ ?_ _ | with_reducible refine Below.alloc ?_ ?_ _ | with_reducible refine Below.setCell ?_ ?_ _ | with_reducible refine Below.drew ?_ | with_reducible refine Go.le_alloc ?_ | with_reducible refine Go.le_growBy ?_ | with_reducible refine Go.le_setCell ?_ | with_reducible refine Go.le_drew ?_ | omega | (dsimp only; omega))) (hb.mono (by simp; omega))⟩
theorem ways_pts2 {X : World} {B C : Nat} (h1 : X.heap.size = B) (h2 : B + 1 = C) {s : Sh} {p q : Spot} (hm : MadeS s) (hp : InArea s p.1 p.2) (hq : InArea s q.1 q.2) :
    Calls Tryd.prog 13 #[shV s, .slice (some ⟨C, 0, none⟩) 1 1] ((X.alloc (.cells #[.int .i64 p.1, .int .i64 p.2, .int .i64 q.1, .int .i64 q.2] 24)).alloc (.cells (wayC 4 B) 42)) fun e w' =>
      ∃ b off cap, e = .returned (.slice (some ⟨b, off, none⟩) (lineL2 s p q).length cap) ∧ (lineL2 s p q).length ≤ cap ∧ Dts w'.heap.size w' (.slice (some ⟨b, off, none⟩) (lineL2 s p q).length cap) (lineL2 s p q) ∧ Below X.heap.size X w' := by
  subst h1 h2
  exact ways_pts X hm hp hq

/-- a part of a slice of dots -/
theorem Dts.take {n : Nat} {W : World} {b off cap : Nat} {l : List Dt} (h : Dts n W (.slice (some ⟨b, off, none⟩) l.length cap) l) (k c : Nat) (hk : k ≤ l.length) : Dts n W (.slice (some ⟨b, off, none⟩) k c) (l.take k) := by
  rcases h with ⟨h1, -⟩ | ⟨b', off', cap', h1, hb, hl, hf, hc⟩
  · simp at h1
  · simp only [Value.slice.injEq, Option.some.injEq, Addr.mk.injEq, true_and, and_true] at h1
    obtain ⟨⟨rfl, rfl⟩, rfl⟩ := h1
    refine .inr ⟨b, off, c, by rw [List.length_take, Nat.min_eq_left hk], hb, by rw [List.length_take]; omega, fun d hd => hf d (List.mem_of_mem_take hd), fun j hj => ?_⟩
    rw [List.length_take] at hj
    rw [List.getElem_take]
    exact hc j (by omega)
theorem Dts.drop {n : Nat} {W : World} {b off cap : Nat} {l : List Dt} (h : Dts n W (.slice (some ⟨b, off, none⟩) l.length cap) l) (k c o2 m : Nat) (hk : k ≤ l.length) (ho : o2 = off + k * 4 ∨ k = l.length) (hm : m = l.length - k) : Dts n W (.slice (some ⟨b, o2, none⟩) m c) (l.drop k) := by
  subst hm
  rcases h with ⟨h1, -⟩ | ⟨b', off', cap', h1, hb, hl, hf, hc⟩
  · simp at h1
  · simp only [Value.slice.injEq, Option.some.injEq, Addr.mk.injEq, true_and, and_true] at h1
    obtain ⟨⟨rfl, rfl⟩, rfl⟩ := h1
    refine .inr ⟨b, o2, c, by rw [List.length_drop], hb, by rw [List.length_drop]; omega, fun d hd => hf d (List.mem_of_mem_drop hd), fun j hj => ?_⟩
    rw [List.length_drop] at hj
    rcases ho with rfl | ho
    · rw [List.getElem_drop]
      have := hc (k + j) (by omega)
      rw [show off + k * 4 + j * 4 = off + (k + j) * 4 from by omega]
      exact this
    · omega

/-- append of a part onto a row of the call's own, at a step of a region that draws -/
theorem step_append_part {ops : Array Oper} {o : Oper} {a : Act} {w : World} {K : Act → World → Prop} {Q : Exit → Act → World → Prop} {E : Prop} (hgd : o.guard = none) (s x : Operand)
    (ho : o.op = .call { callee := .builtin .append, args := #[s, x], argTypes := #[38, 38] })
    (base : Nat) (v : Value) (l1 l2 : List Dt) (hs : a.eval s = v) (hv : w.ownsRow base 45 4 v l1.length (l1.flatMap encD)) (b off m c : Nat) (hx : a.eval x = .slice (some ⟨b, off, none⟩) m c) (hD : Dts w.heap.size w (.slice (some ⟨b, off, none⟩) m c) l2)
    (hl : l1.length + l2.length ≤ 1000000) (hb : base ≤ w.heap.size)
    (h : ∀ v' w', w'.ownsRow base 45 4 v' (l1 ++ l2).length ((l1 ++ l2).flatMap encD) → w.grownBy w' v.ownBlock → K (a.put o.dst v') w') :
    if Region.wanted o (yielded ops a.tmps) = true then Oper.wp Tryd.prog o a w K Q else E := by
  have hw : Region.wanted o (yielded ops a.tmps) = true := by simp [Region.wanted, hgd]
  rw [if_pos hw]
  obtain ⟨i0, hi0, hz0, hz1, hz2⟩ := info_parts dotInfo
  have hm : m = l2.length ∧ ∀ j u, (l2.flatMap encD)[j]? = some u → w.cell? ((⟨b, off, none⟩ : Addr).add j) = some u := by
    by_cases hne : l2 = []
    · subst hne
      rcases hD with ⟨h1, -⟩ | ⟨b', off', cap', h1, -⟩
      · simp at h1
      · simp only [Value.slice.injEq] at h1
        exact ⟨h1.2.1, by simp⟩
    · obtain ⟨b', off', cap', h1, -, h2⟩ := hD.news hne
      simp only [Value.slice.injEq, Option.some.injEq, Addr.mk.injEq, and_true] at h1
      obtain ⟨⟨rfl, rfl⟩, rfl, -⟩ := h1
      exact ⟨rfl, h2⟩
  obtain ⟨rfl, hnews⟩ := hm
  obtain ⟨v', w', hr, hown, hgr, -, -⟩ := run_append_own_at (P := Tryd.prog) w base 38 o.type 45 i0 _ 4 32 Tryd.underlying38 hi0 hz0 hz1 hz2 rfl (by omega) v l1.length (l1.flatMap encD) hv ⟨b, off, none⟩ l2.length c (l2.flatMap encD) (flatD_length l2) hnews (flatD_one l2) (by unfold maxLen; omega) (by omega) hb
  unfold Oper.wp execOp
  simp only [ho, resolve, invoke, builtin, Sem.run_bind, Sem.run_pure, Result.andThen_ok, List.map_toArray, List.map_cons, List.map_nil, hs, hx, hr]
  exact h v' w' (by rw [List.length_append, List.flatMap_append]; exact hown) hgr
end Go.Proofs.YtjfdbigkbgolmaaDoor
