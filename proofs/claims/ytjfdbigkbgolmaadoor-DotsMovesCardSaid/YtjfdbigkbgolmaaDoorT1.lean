/-
  Chapter 29: how far dots are from one another (apart, Least).
-/
import Derived.Test.YtjfdbigkbgolmaaDoorK5
namespace Go.Proofs.YtjfdbigkbgolmaaDoor
set_option linter.unusedVariables false
set_option linter.unusedSimpArgs false
open Go.RowKit Go.Shelf
attribute [local go_sem] Oper.semAt_some

/-- the difference of two numbers, at most 80 -/
def apF (a b : Int) : Int := if a ≤ b then (if 80 < b - a then 80 else b - a) else (if 80 < a - b then 80 else a - b)
theorem uw_sub {x y : Int} (hx : fits x) (hy : fits y) (h : y ≤ x) : IntKind.u64.wrap (IntKind.u64.wrap x - IntKind.u64.wrap y) = x - y := by
  obtain ⟨x0, x1⟩ := hx
  obtain ⟨y0, y1⟩ := hy
  simp [IntKind.wrap, IntKind.bits, IntKind.signed]
  omega

theorem apart_any (a b : Int) (w : World) (ha : fits a) (hb : fits b) :
    Calls Tryd.prog 34 #[.int .i64 a, .int .i64 b] w fun e w' => e = .returned (.int .i64 (apF a b)) ∧ w = w' := by
  obtain ⟨r, hr⟩ : ∃ r, apF a b = r := ⟨_, rfl⟩
  rw [hr]
  have hu1 := fun h => uw_sub (x := a) (y := b) ha hb h
  have hu2 := fun h => uw_sub (x := b) (y := a) hb ha h
  obtain ⟨a0, a1⟩ := ha
  obtain ⟨b0, b1⟩ := hb
  unfold apF at hr
  by_cases h : b < a
  · have hu := hu1 (by omega)
    rw [if_neg (by omega)] at hr
    clear hu1 hu2
    by_cases h8 : 80 < a - b
    · rw [if_pos h8] at hr
      subst hr
      go_enter Tryd.func34, Tryd.ntmps34
      go_wp2_with fail
      go_ret
      exact ⟨rfl, rfl⟩
    · rw [if_neg h8] at hr
      subst hr
      go_enter Tryd.func34, Tryd.ntmps34
      go_wp2_with fail
      go_ret
      exact ⟨rfl, rfl⟩
  · have hu := hu2 (by omega)
    rw [if_pos (by omega)] at hr
    clear hu1 hu2
    by_cases h8 : 80 < b - a
    · rw [if_pos h8] at hr
      subst hr
      go_enter Tryd.func34, Tryd.ntmps34
      go_wp2_with fail
      go_ret
      exact ⟨rfl, rfl⟩
    · rw [if_neg h8] at hr
      subst hr
      go_enter Tryd.func34, Tryd.ntmps34
      go_wp2_with fail
      go_ret
      exact ⟨rfl, rfl⟩
theorem apF_in (a b : Int) : 0 ≤ apF a b ∧ apF a b ≤ 80 := by unfold apF; repeat' split; all_goals omega

/-- dots in a block below n₀; or none -/
structure DtRow (W : World) (b o : Nat) (d : Dt) : Prop where
  c0 : W.cell? ⟨b, o, none⟩ = some (.int .i64 d.x)
  c1 : W.cell? ⟨b, o + 1, none⟩ = some (.int .i64 d.y)
  c2 : W.cell? ⟨b, o + 2, none⟩ = some (.int .i64 d.k)
  c3 : W.cell? ⟨b, o + 3, none⟩ = some (.int .i64 d.i)
theorem DtRow.below {n₀ : Nat} {A B : World} (h : Below n₀ A B) {b o : Nat} {d : Dt} (hb : b < n₀) (r : DtRow A b o d) : DtRow B b o d :=
  ⟨(h.cell (p := ⟨b, o, none⟩) hb).trans r.c0, (h.cell (p := ⟨b, o + 1, none⟩) hb).trans r.c1, (h.cell (p := ⟨b, o + 2, none⟩) hb).trans r.c2, (h.cell (p := ⟨b, o + 3, none⟩) hb).trans r.c3⟩
def Dts (n₀ : Nat) (W : World) (sv : Value) (l : List Dt) : Prop :=
  (sv = .slice none 0 0 ∧ l = []) ∨ ∃ b off cap, sv = .slice (some ⟨b, off, none⟩) l.length cap ∧ b < n₀ ∧ l.length ≤ 4294967296 ∧ (∀ d ∈ l, fits d.x ∧ fits d.y) ∧ ∀ j, (h : j < l.length) → DtRow W b (off + j * 4) l[j]
theorem Dts.below {n₀ : Nat} {A B : World} (h : Below n₀ A B) {sv : Value} {l : List Dt} : Dts n₀ A sv l → Dts n₀ B sv l
  | .inl e => .inl e
  | .inr ⟨b, off, cap, e, hb, hl, hf, hc⟩ => .inr ⟨b, off, cap, e, hb, hl, hf, fun j hj => (hc j hj).below h hb⟩
theorem Dts.mono {n₀ n₁ : Nat} (h : n₀ ≤ n₁) {W : World} {sv : Value} {l : List Dt} : Dts n₀ W sv l → Dts n₁ W sv l
  | .inl e => .inl e
  | .inr ⟨b, off, cap, e, hb, r⟩ => .inr ⟨b, off, cap, e, Nat.lt_of_lt_of_le hb h, r⟩

theorem flat4 : ∀ (l : List Dt) (j : Nat) (h : j < l.length), (l.flatMap encD)[j * 4]? = some (.int .i64 l[j].x) ∧ (l.flatMap encD)[j * 4 + 1]? = some (.int .i64 l[j].y) ∧ (l.flatMap encD)[j * 4 + 2]? = some (.int .i64 l[j].k) ∧ (l.flatMap encD)[j * 4 + 3]? = some (.int .i64 l[j].i)
  | [], j, h => by simp at h
  | d :: l, 0, _ => by simp
  | d :: l, j + 1, h => by
    have ih := flat4 l j (by simpa using h)
    have e : (j + 1) * 4 = j * 4 + 1 + 1 + 1 + 1 := by omega
    rw [e]
    simpa [List.flatMap_cons, Nat.add_assoc] using ih
/-- the dots of a row of the call's own -/
theorem dts_of_row {base : Nat} {W : World} {v : Value} {l : List Dt} (h : W.ownsRow base 45 4 v l.length (l.flatMap encD)) (hl : l.length ≤ 4294967296) (hf : ∀ d ∈ l, fits d.x ∧ fits d.y) : Dts W.heap.size W v l := by
  rcases h.2 with ⟨rfl, h0⟩ | ⟨g, cap, cur, rfl, hbase, hgb, _⟩
  · exact .inl ⟨rfl, List.eq_nil_of_length_eq_zero h0⟩
  · refine .inr ⟨g, 0, cap, rfl, (Array.getElem?_eq_some_iff.1 hgb).1, hl, hf, fun j hj => ?_⟩
    obtain ⟨f0, f1, f2, f3⟩ := flat4 l j hj
    rw [Nat.zero_add]
    exact ⟨(h.cellAt _ (by omega)).trans f0, (h.cellAt _ (by omega)).trans f1, (h.cellAt _ (by omega)).trans f2, (h.cellAt _ (by omega)).trans f3⟩

def apD (d e : Dt) : Int := if apF d.y e.y > apF d.x e.x then apF d.y e.y else apF d.x e.x
def stepL (m : Int) (d e : Dt) : Int := if apD d e < m then apD d e else m
def leastI (d : Dt) (m : Int) (b : List Dt) : Int := b.foldl (fun m e => stepL m d e) m
def leastF (a b : List Dt) : Int := a.foldl (fun m d => leastI d m b) 80
theorem stepL_in {m : Int} (h : 0 ≤ m ∧ m ≤ 80) (d e : Dt) : 0 ≤ stepL m d e ∧ stepL m d e ≤ 80 := by
  have h1 := apF_in d.x e.x
  have h2 := apF_in d.y e.y
  unfold stepL apD
  repeat' split
  all_goals omega
theorem leastI_in (d : Dt) : ∀ (b : List Dt) (m : Int), 0 ≤ m ∧ m ≤ 80 → 0 ≤ leastI d m b ∧ leastI d m b ≤ 80
  | [], m, h => h
  | e :: b, m, h => by
    have := leastI_in d b (stepL m d e) (stepL_in h d e)
    simpa [leastI] using this
theorem leastI_take {d : Dt} {m : Int} {b : List Dt} {k : Nat} (h : k < b.length) : leastI d m (b.take (k + 1)) = stepL (leastI d m (b.take k)) d b[k] := by
  unfold leastI
  rw [List.take_add_one, List.getElem?_eq_getElem h, List.foldl_append]
  rfl
theorem leastF_take {a b : List Dt} {k : Nat} (h : k < a.length) : leastF (a.take (k + 1)) b = leastI a[k] (leastF (a.take k) b) b := by
  unfold leastF
  rw [List.take_add_one, List.getElem?_eq_getElem h, List.foldl_append]
  rfl
theorem leastF_in (b : List Dt) : ∀ (a : List Dt), 0 ≤ leastF a b ∧ leastF a b ≤ 80 := by
  have h : ∀ (a : List Dt) (m : Int), 0 ≤ m ∧ m ≤ 80 → 0 ≤ a.foldl (fun m d => leastI d m b) m ∧ a.foldl (fun m d => leastI d m b) m ≤ 80 := by
    intro a
    induction a with
    | nil => exact fun m h => h
    | cons d a ih => exact fun m h => ih _ (leastI_in d b m h)
  exact fun a => h a 80 ⟨by decide, by decide⟩

theorem apart_eq {a b r : Int} (hr : apF a b = r) (w : World) (ha : fits a) (hb : fits b) :
    Calls Tryd.prog 34 #[.int .i64 a, .int .i64 b] w fun e w' => e = .returned (.int .i64 r) ∧ w = w' := by
  have h := apart_any a b w ha hb
  rw [hr] at h
  exact h

/-- the slice of dots, as the walk sees it -/
theorem Dts.open_ {n₀ : Nat} {W : World} {sv : Value} {l : List Dt} (h : Dts n₀ W sv l) : l.length ≤ 4294967296 ∧ ∃ a cap, sv = .slice a l.length cap ∧ ∀ j, (h : j < l.length) → ∃ b off, a = some ⟨b, off, none⟩ ∧ b < n₀ ∧ DtRow W b (off + j * 4) l[j] ∧ fits l[j].x ∧ fits l[j].y := by
  rcases h with ⟨rfl, rfl⟩ | ⟨b, off, cap, rfl, hb, hl, hf, hc⟩
  · exact ⟨by simp, none, 0, rfl, fun j hj => by simp at hj⟩
  · exact ⟨hl, _, cap, rfl, fun j hj => ⟨b, off, rfl, hb, hc j hj, hf _ (List.getElem_mem hj)⟩⟩

set_option maxRecDepth 100000 in
set_option maxHeartbeats 4000000 in
theorem least_any (va vb : Value) (a b : List Dt) (w : World) (ha : Dts w.heap.size w va a) (hb : Dts w.heap.size w vb b) :
    Calls Tryd.prog 14 #[va, vb] w fun e w' => e = .returned (.int .i64 (leastF a b)) ∧ Below w.heap.size w w' := by
  obtain ⟨la, aa, ca, rfl, ra⟩ := ha.open_
  obtain ⟨lb, ab, cb, rfl, rb⟩ := hb.open_
  go_enter Tryd.func14, Tryd.ntmps14
  go_wp2_with fail
  go_loopw [5, 12] (fun m i wr => ∃ k : Nat, k ≤ a.length ∧ m = .int .i64 (leastF (a.take k) b) ∧ i = .int .i64 k ∧ Below w.heap.size w wr)
    (fun _ i _ => a.length - (intOf i).toNat)
  case atStart => exact ⟨0, Nat.zero_le _, rfl, rfl, Below.refl _ _⟩
  case round =>
    obtain ⟨k, hk, rfl, rfl, hB⟩ := hrel
    have hsz := hB.size
    by_cases hlt : k < a.length
    · have hltI : (k : Int) < (a.length : Int) := by omega
      obtain ⟨bl, off, rfl, hbl, hrow, f0, f1⟩ := ra k hlt
      obtain ⟨c0, c1, c2, c3⟩ := hrow.below hB hbl
      obtain ⟨m0, hm0⟩ : ∃ m, leastF (a.take k) b = m := ⟨_, rfl⟩
      have hin := leastF_in b (a.take k)
      rw [hm0] at hin
      have htk := leastF_take (a := a) (b := b) hlt
      rw [hm0] at htk ⊢
      obtain ⟨d, hd⟩ : ∃ d, a[k] = d := ⟨_, rfl⟩
      rw [hd] at c0 c1 c2 c3 f0 f1 htk
      clear hm0 hd hrow
      replace htk := Lib.hid htk
      obtain ⟨dx, dy, dk, di⟩ := d
      simp only at c0 c1 c2 c3 f0 f1
      go_wp2_with fail
      obtain ⟨W, hW⟩ : ∃ W, wr.alloc (.cells #[.int .i64 dx, .int .i64 dy, .int .i64 dk, .int .i64 di] 45) = W := ⟨_, rfl⟩
      have bX : Blk W wr.heap.size #[.int .i64 dx, .int .i64 dy, .int .i64 dk, .int .i64 di] 45 := by rw [← hW]; exact Blk.new wr _ _
      have hBW : Below w.heap.size w W := by rw [← hW]; exact hB.alloc hsz _
      rw [hW]
      clear hW
      have hBx : w.heap.size ≤ wr.heap.size := hsz
      generalize wr.heap.size = Bx at *
      go_loopw [5, 18] (fun m i wr => ∃ j : Nat, j ≤ b.length ∧ m = .int .i64 (leastI ⟨dx, dy, dk, di⟩ m0 (b.take j)) ∧ i = .int .i64 j ∧ Below w.heap.size w wr ∧ Blk wr Bx #[.int .i64 dx, .int .i64 dy, .int .i64 dk, .int .i64 di] 45)
        (fun _ i _ => b.length - (intOf i).toNat)
      case atStart => exact ⟨0, Nat.zero_le _, rfl, rfl, hBW, bX⟩
      case round =>
        obtain ⟨j, hj, rfl, rfl, hB2, bX2⟩ := hrel
        have hsz2 := hB2.size
        by_cases hlt2 : j < b.length
        · have hltI2 : (j : Int) < (b.length : Int) := by omega
          obtain ⟨bl2, off2, rfl, hbl2, hrow2, f2, f3⟩ := rb j hlt2
          obtain ⟨e0, e1, e2, e3⟩ := hrow2.below hB2 hbl2
          obtain ⟨m1, hm1⟩ : ∃ m, leastI ⟨dx, dy, dk, di⟩ m0 (b.take j) = m := ⟨_, rfl⟩
          have htk2 := leastI_take (d := ⟨dx, dy, dk, di⟩) (m := m0) hlt2
          rw [hm1] at htk2 ⊢
          obtain ⟨e, he⟩ : ∃ e, b[j] = e := ⟨_, rfl⟩
          rw [he] at e0 e1 e2 e3 f2 f3 htk2
          clear hm1 he hrow2
          obtain ⟨ex, ey, ek, ei⟩ := e
          simp only at e0 e1 e2 e3 f2 f3
          obtain ⟨r1, hr1⟩ : ∃ r, apF dx ex = r := ⟨_, rfl⟩
          obtain ⟨r2, hr2⟩ : ∃ r, apF dy ey = r := ⟨_, rfl⟩
          simp only [stepL, apD, hr1, hr2] at htk2
          replace htk2 := Lib.hid htk2
          replace hr1 := Lib.hid hr1
          replace hr2 := Lib.hid hr2
          have x0 : wr.cell? ⟨Bx, 0, none⟩ = some (.int .i64 dx) := bX2.cell 0
          have x1 : wr.cell? ⟨Bx, 1, none⟩ = some (.int .i64 dy) := bX2.cell 1
          have lX := bX2.lt
          clear ra rb ha hb c0 c1 c2 c3
          go_wp2_with fail
          first | with_reducible refine wp_region_grow2 (by kernel_rfl) (by kernel_rfl) ?_ | with_reducible refine wp_region_grow (by kernel_rfl) (by kernel_rfl) ?_
          repeat (first | go_big_quiet_step ((go_at_call 34; exact Calls.grow_of_same (apart_eq (by first | with_reducible exact hr1.out | with_reducible exact hr2.out) _ (by assumption) (by assumption)))) | quiet_step ((go_at_call 34; exact Calls.grow_of_same (apart_eq (by first | with_reducible exact hr1.out | with_reducible exact hr2.out) _ (by assumption) (by assumption)))))
          refine wpQuiet_nil ?_
          intro _ hw_
          obtain ⟨p, hw_⟩ := hw_
          subst hw_
          have hW9 : Below wr.heap.size wr ((wr.alloc (.cells #[.int .i64 ex, .int .i64 ey, .int .i64 ek, .int .i64 ei] 45)).growBy p) := (by repeat' (first | with_reducible exact Below.refl _ _ | with_reducible exact Nat.le_refl _ | with_reducible assumption | with_reducible refine Go.below_growBy' ?_ ?_ _ | with_reducible refine Below.alloc ?_ ?_ _ | with_reducible refine Below.setCell ?_ ?_ _ | with_reducible refine Below.drew ?_ | with_reducible refine Go.le_alloc ?_ | with_reducible refine Go.le_growBy ?_ | with_reducible refine Go.le_setCell ?_ | with_reducible refine Go.le_drew ?_ | omega | (dsimp only; omega)))
          go_wp2_with fail
          go_roundw
          case rel => exact ⟨j + 1, by omega, by rw [htk2.out]; congr 1; omega, by go_num, hB2.trans (hW9.mono hsz2), bX2.below hW9 lX⟩
          case measure => simp [intOf]; omega
        · obtain rfl : j = b.length := by omega
          rw [List.take_length]
          have h9 := htk.out
          go_wp2_with fail
          go_roundw
          case rel => exact ⟨k + 1, by omega, by rw [htk.out], by go_num, hB2⟩
          case measure => simp [intOf]; omega
    · obtain rfl : k = a.length := by omega
      rw [List.take_length]
      go_wp2_with fail
      go_ret
      exact ⟨rfl, hB⟩
end Go.Proofs.YtjfdbigkbgolmaaDoor
