/-
  Chapter 29: ordered, of a map that may hold nothing.
  Chapter 29: Ways of any list of ways: how ways lie in memory; the walk.
-/
import Derived.Test.YtjfdbigkbgolmaaGreatDoorZw
import Derived.Test.YtjfdbigkbgolmaaGreatDoorZj
import Derived.Shelf.SlSortCmp.NoneTotal
namespace Go.Proofs.YtjfdbigkbgolmaaGreatDoor
set_option linter.unusedVariables false
set_option linter.unusedSimpArgs false
open Go.RowKit Go.Shelf Go.Sort Go.Lib Go.Maps
attribute [local go_sem] Oper.semAt_some
attribute [local go_sem ↓] Go.wp_at_zero Go.wp_at_succ

theorem sortFunc_none (fv : Value) (w : World) : Calls Tryz.prog 107 #[.slice none 0 0, fv] w fun e w' => e = .returned (.tuple #[]) ∧ w' = w := by
  have h := AnyF.slices_SortFunc_none Go.Proofs.Tryz.sortSpot none 0 fv w
  exact h

set_option maxHeartbeats 1000000 in
theorem sortedFunc_none (Bm b nn : Nat) (w : World) (hBm : Bm < w.heap.size) (hm : w.cell? ⟨Bm, 0, none⟩ = some (.map (some b))) (hM : MapIs w b nn []) (hnn : nn ≤ 4294967296) :
    Calls Tryz.prog 77 #[.func (.func 108) #[] #[.pointer (some ⟨Bm, 0, none⟩)], .func (.func 79) #[] #[]] w fun e w' => e = .returned (.slice none 0 0) ∧ Below w.heap.size w w' := by
  have eg : ∀ args w, (callFunc 108 args).run Tryz.prog w = .ok (.enter 108 args) w := enters_of Tryz.func108 (by kernel_rfl) rfl
  have hcol := (callsIn_wide (n := 3)).1 (collect_in _ 3 trivial trivial rfl (Nat.le_refl _) 108 #[.pointer (some ⟨Bm, 0, none⟩)] trivial eg _ _ nn hnn w (keys_stops _ 1 trivial rfl (Nat.le_refl _) Bm b nn [] w hBm hm hM))
  go_enter Tryz.func77, Tryz.ntmps77
  go_wp2_with (go_at_call 106; refine hcol.mono ?_; rintro e w1 ⟨v, ss, rfl, ⟨hs1, hs2⟩, hrow, hnl, hb1⟩; obtain rfl : v = .slice none 0 0 := hnl.2 (List.eq_nil_iff_forall_not_mem.2 (fun p hp => by simpa using (hs2 p).1 hp)))
  clear hcol
  go_wp2_with (go_at_call 107; refine (sortFunc_none _ _).mono ?_; rintro e w2 ⟨rfl, rfl⟩)
  go_ret
  exact ⟨rfl, hb1⟩

set_option maxHeartbeats 1000000 in
theorem ordered_none (kind : Int) (b nn : Nat) (w : World) (hM : MapIs w b nn []) (hnn : nn ≤ 4294967296) :
    Calls Tryz.prog 34 #[.map (some b), .int .i64 kind] w fun e w' => e = .returned (.slice none 0 0) ∧ Below w.heap.size w w' := by
  have hkeys := fun mb W => (callsIn_wide (n := 1)).1 (keys_in _ 1 trivial rfl mb W)
  have hsf := sortedFunc_none w.heap.size b nn (w.alloc (.cells #[.map (some b)] 80)) (by simp) (by simp) (hM.alloc _) hnn
  simp only [World.size_alloc] at hsf
  go_enter Tryz.func34, Tryz.ntmps34
  go_wp2_with (first | (go_at_call 78; refine (hkeys _ _).mono ?_; rintro e w1 ⟨rfl, rfl⟩) | (go_at_call 77; refine hsf.mono ?_; rintro e w2 ⟨rfl, hb2⟩))
  have hB2 : RowKit.Below w.heap.size w w2 := Below.trans (b := w.alloc (.cells #[.map (some b)] 80)) (by repeat' (first | with_reducible exact Below.refl _ _ | with_reducible exact Nat.le_refl _ | with_reducible assumption | with_reducible refine Go.below_growBy' ?_ ?_ _ | with_reducible refine Below.alloc ?_ ?_ _ | with_reducible refine Below.setCell ?_ ?_ _ | with_reducible refine Below.drew ?_ | with_reducible refine Go.le_alloc ?_ | with_reducible refine Go.le_growBy ?_ | with_reducible refine Go.le_setCell ?_ | with_reducible refine Go.le_drew ?_ | omega | (dsimp only; omega))) (hb2.mono (by repeat' (first | with_reducible exact Below.refl _ _ | with_reducible exact Nat.le_refl _ | with_reducible assumption | with_reducible refine Go.below_growBy' ?_ ?_ _ | with_reducible refine Below.alloc ?_ ?_ _ | with_reducible refine Below.setCell ?_ ?_ _ | with_reducible refine Below.drew ?_ | with_reducible refine Go.le_alloc ?_ | with_reducible refine Go.le_growBy ?_ | with_reducible refine Go.le_setCell ?_ | with_reducible refine Go.le_drew ?_ | omega | (dsimp only; omega))))
  refine wp_loop_rounds 1 ?_
  rw [rounds_succ]
  go_wp2_with fail
  go_ret
  exact ⟨rfl, hB2⟩

/-- ordered, whatever the map holds -/
theorem ordered_all (kind : Int) (b nn : Nat) (en : List (Spot × Int)) (w : World) (hM : MapIs w b nn en) (hnn : nn ≤ 4294967296) (hlen : en.length ≤ 8388608) :
    Calls Tryz.prog 34 #[.map (some b), .int .i64 kind] w fun e w' => ∃ v base, e = .returned v ∧ w.heap.size ≤ base ∧ w'.ownsRow base 59 4 v (dotsS kind en).length ((dotsS kind en).flatMap encD) ∧ RowKit.Below w.heap.size w w' := by
  by_cases hne : en = []
  · subst hne
    refine (ordered_none kind b nn w hM hnn).mono ?_
    rintro e w' ⟨rfl, hb⟩
    have hl : (dotsS kind []).length = 0 := dotsS_length _ _
    have h0 : dotsS kind [] = [] := List.eq_nil_of_length_eq_zero hl
    rw [h0]
    exact ⟨_, w'.heap.size, rfl, hb.size, ⟨by simp, .inl ⟨rfl, rfl⟩⟩, hb⟩
  · exact ordered_any kind b nn en w hM hnn hne hlen
end Go.Proofs.YtjfdbigkbgolmaaGreatDoor
namespace Go.Proofs.YtjfdbigkbgolmaaGreatDoor
set_option linter.unusedVariables false
set_option linter.unusedSimpArgs false
open Go.RowKit Go.Shelf Go.Maps
attribute [local go_sem] Oper.semAt_some

/-- points in a block below n₀ -/
def Pts (n₀ : Nat) (W : World) (sv : Value) (ps : List Spot) : Prop :=
  ∃ a cap, sv = .slice a ps.length cap ∧ ∀ j, (h : j < ps.length) → ∃ b off, a = some ⟨b, off, none⟩ ∧ b < n₀ ∧ W.cell? ⟨b, off + j * 2, none⟩ = some (.int .i64 ps[j].1) ∧ W.cell? ⟨b, off + j * 2 + 1, none⟩ = some (.int .i64 ps[j].2)
theorem Pts.below {n₀ : Nat} {A B : World} (h : Below n₀ A B) {sv : Value} {ps : List Spot} : Pts n₀ A sv ps → Pts n₀ B sv ps
  | ⟨a, cap, e, f⟩ => ⟨a, cap, e, fun j hj => by
    obtain ⟨b, off, h1, h2, h3, h4⟩ := f j hj
    exact ⟨b, off, h1, h2, (h.cell (p := ⟨b, off + j * 2, none⟩) h2).trans h3, (h.cell (p := ⟨b, off + j * 2 + 1, none⟩) h2).trans h4⟩⟩
theorem Pts.mono {n₀ n₁ : Nat} (h : n₀ ≤ n₁) {W : World} {sv : Value} {ps : List Spot} : Pts n₀ W sv ps → Pts n₁ W sv ps
  | ⟨a, cap, e, f⟩ => ⟨a, cap, e, fun j hj => by
    obtain ⟨b, off, h1, h2, h3⟩ := f j hj
    exact ⟨b, off, h1, by omega, h3⟩⟩

/-- a way: its Id, its points, and the rest of its fields -/
structure Wy where
  id : Int
  line : List Spot
  lv : Value
  lvl : Int
  cls : ByteArray
  nm : ByteArray
  st : Bool
  wt : Int
  di : Int
abbrev Wy.cells (y : Wy) : Array Value := #[.int .i64 y.id, y.lv, .int .i64 y.lvl, .string y.cls, .string y.nm, .bool y.st, .int .i64 y.wt, .int .i64 y.di]
abbrev Wy.key (y : Wy) : Int × List Spot := (y.id, y.line)
structure WyAt (n₀ : Nat) (W : World) (b o : Nat) (y : Wy) : Prop where
  c0 : W.cell? ⟨b, o, none⟩ = some (.int .i64 y.id)
  c1 : W.cell? ⟨b, o + 1, none⟩ = some y.lv
  c2 : W.cell? ⟨b, o + 2, none⟩ = some (.int .i64 y.lvl)
  c3 : W.cell? ⟨b, o + 3, none⟩ = some (.string y.cls)
  c4 : W.cell? ⟨b, o + 4, none⟩ = some (.string y.nm)
  c5 : W.cell? ⟨b, o + 5, none⟩ = some (.bool y.st)
  c6 : W.cell? ⟨b, o + 6, none⟩ = some (.int .i64 y.wt)
  c7 : W.cell? ⟨b, o + 7, none⟩ = some (.int .i64 y.di)
  pts : Pts n₀ W y.lv y.line
theorem WyAt.below {n₀ : Nat} {A B : World} (h : Below n₀ A B) {b o : Nat} {y : Wy} (hb : b < n₀) (r : WyAt n₀ A b o y) : WyAt n₀ B b o y :=
  ⟨(h.cell (p := ⟨b, o, none⟩) hb).trans r.c0, (h.cell (p := ⟨b, o + 1, none⟩) hb).trans r.c1, (h.cell (p := ⟨b, o + 2, none⟩) hb).trans r.c2, (h.cell (p := ⟨b, o + 3, none⟩) hb).trans r.c3,
   (h.cell (p := ⟨b, o + 4, none⟩) hb).trans r.c4, (h.cell (p := ⟨b, o + 5, none⟩) hb).trans r.c5, (h.cell (p := ⟨b, o + 6, none⟩) hb).trans r.c6, (h.cell (p := ⟨b, o + 7, none⟩) hb).trans r.c7, r.pts.below h⟩
/-- ways in a block below n₀ -/
def Wys (n₀ : Nat) (W : World) (sv : Value) (ws : List Wy) : Prop :=
  ∃ a cap, sv = .slice a ws.length cap ∧ ∀ j, (h : j < ws.length) → ∃ b off, a = some ⟨b, off, none⟩ ∧ b < n₀ ∧ WyAt n₀ W b (off + j * 8) ws[j]
theorem Wys.below {n₀ : Nat} {A B : World} (h : Below n₀ A B) {sv : Value} {ws : List Wy} : Wys n₀ A sv ws → Wys n₀ B sv ws
  | ⟨a, cap, e, f⟩ => ⟨a, cap, e, fun j hj => by
    obtain ⟨b, off, h1, h2, h3⟩ := f j hj
    exact ⟨b, off, h1, h2, h3.below h h2⟩⟩
theorem WyAt.mono {n₀ n₁ : Nat} (h : n₀ ≤ n₁) {W : World} {b o : Nat} {y : Wy} (r : WyAt n₀ W b o y) : WyAt n₁ W b o y := ⟨r.c0, r.c1, r.c2, r.c3, r.c4, r.c5, r.c6, r.c7, r.pts.mono h⟩
theorem Wys.mono {n₀ n₁ : Nat} (h : n₀ ≤ n₁) {W : World} {sv : Value} {ws : List Wy} : Wys n₀ W sv ws → Wys n₁ W sv ws
  | ⟨a, cap, e, f⟩ => ⟨a, cap, e, fun j hj => by
    obtain ⟨b, off, h1, h2, h3⟩ := f j hj
    exact ⟨b, off, h1, by omega, h3.mono h⟩⟩
theorem Wys.up {n₀ : Nat} {A B : World} {sv : Value} {ws : List Wy} (h : Wys n₀ A sv ws) (hb : Below n₀ A B) (hn : n₀ ≤ B.heap.size) : Wys B.heap.size B sv ws := (h.below hb).mono hn

/-- ContainsFunc of a way's points that are not right -/
theorem contains_any (lv : Value) (ps : List Spot) (n₀ : Nat) (W : World) (h : Pts n₀ W lv ps) (hn : n₀ ≤ W.heap.size) (hl : ps.length ≤ 1000) :
    Calls Tryz.prog 44 #[lv, .func (.func 45) #[] #[]] W fun e w' => e = .returned (.bool (!rightL ps)) ∧ Below W.heap.size W w' := by
  have e31 : ∀ args w, (callFunc 45 args).run Tryz.prog w = .ok (.enter 45 args) w := enters_of Tryz.func45 (by kernel_rfl) rfl
  have hr : (ps.any fun x => !rightP x.1 x.2) = !rightL ps := by
    unfold rightL
    rw [List.any_eq_not_all_not]
    simp
  obtain ⟨a, cap, rfl, f⟩ := h
  by_cases h0 : ps = []
  · subst h0
    rw [← hr]
    simp only [List.any_nil]
    have hem : ∀ w, Calls Tryz.prog 89 #[.slice a 0 cap, .func (.func 45) #[] #[]] w fun e w' => e = .returned (.int .i64 (-1)) ∧ w = w' := by
      intro w
      go_enter Tryz.func89, Tryz.ntmps89
      go_wp2_with fail
      refine wp_loop_rounds 1 ?_
      rw [rounds_succ]
      go_wp2_with fail
      go_ret
      exact ⟨rfl, rfl⟩
    go_enter Tryz.func44, Tryz.ntmps44
    go_wp2_with (go_at_call 89; refine (hem _).mono ?_; rintro e w' ⟨rfl, rfl⟩)
    go_ret
    exact ⟨rfl, Below.refl _ _⟩
  · have hpos : 0 < ps.length := List.length_pos_iff.2 h0
    obtain ⟨b, off, rfl, hb, -⟩ := f 0 hpos
    have h := AnyQ.slices_ContainsFunc Go.Proofs.Tryz.pointsContains 2 Tryz.isAgg25 Tryz.sizeOf25 encS (fun _ => rfl) (fun x => !rightP x.1 x.2) 45 #[] e31 b off ps.length cap ps W
      (fun W' x hb => (waysClosure_any x.1 x.2 W').mono fun _ _ ⟨he, hb2⟩ => ⟨he, hb.trans (hb2.mono hb.size)⟩) (Nat.le_refl _) (by omega) (by omega) (fun j hj i v hi => by
        obtain ⟨b', off', e, -, c0, c1⟩ := f j hj
        simp only [Option.some.injEq, Addr.mk.injEq, and_true] at e
        obtain ⟨rfl, rfl⟩ := e
        rw [getElem!_pos ps j hj] at hi
        match i, hi with
        | 0, hi => exact c0.trans hi
        | 1, hi => exact c1.trans hi
        | i + 2, hi => simp at hi)
    rw [List.take_length, hr] at h
    exact h

def mark (D : Nat) : Deferred := { target := .collected D, args := #[] }
/-- marks of the loops that are through: each one's block is open, and lies high -/
structure Marks (Bm : Nat) (ds : List Nat) (W : World) : Prop where
  is : ∀ D ∈ ds, W.heap[D]? = some (.deferred (some []))
  high : ∀ D ∈ ds, Bm < D
  nd : ds.Nodup
theorem Marks.nil (Bm : Nat) (W : World) : Marks Bm [] W := ⟨by simp, by simp, by simp⟩
theorem Marks.kept {Bm : Nat} {ds : List Nat} {W W' : World} {row : Option Nat} (h : Marks Bm ds W) (hg : W.grownBy W' row) (hr : ∀ r, row = some r → r ≤ Bm ∨ W.heap.size ≤ r) : Marks Bm ds W' :=
  ⟨fun D hD => (hg.block D (Array.getElem?_eq_some_iff.1 (h.is D hD)).1 (fun e => by
    have h1 := (Array.getElem?_eq_some_iff.1 (h.is D hD)).1
    have h2 := h.high D hD
    rcases hr D e.symm with h3 | h3 <;> omega)).trans (h.is D hD), h.high, h.nd⟩
theorem Marks.cons {Bm D : Nat} {ds : List Nat} {W : World} (h : Marks Bm ds W) (hD : W.heap[D]? = some (.deferred (some []))) (h1 : Bm < D) (h2 : D ∉ ds) : Marks Bm (D :: ds) W :=
  ⟨fun E hE => by rcases List.mem_cons.1 hE with rfl | hE; exact hD; exact h.is E hE, fun E hE => by rcases List.mem_cons.1 hE with rfl | hE; exact h1; exact h.high E hE, List.nodup_cons.2 ⟨h2, h.nd⟩⟩
/-- leaving with marks -/
theorem leaves_marks {F : Fence} {n : Nat} {P : Program} {fn : Func} {tmps : Array Value} {R : Ending → World → Prop} {Bm : Nat} (Pr : World → Prop)
    (hPr : ∀ W D, Pr W → Bm < D → W.heap[D]? = some (.deferred (some [])) → Pr (W.putObj D (.deferred none))) (hend : ∀ W, Pr W → LeavesIn F n P fn tmps R [] .returning W) :
    ∀ (ds : List Nat) (W : World), Marks Bm ds W → Pr W → LeavesInM F n P fn tmps R (ds.map mark) .returning W
  | [], W, _, hp => hend W hp
  | D :: ds, W, hm, hp => by
    have hD := hm.is D List.mem_cons_self
    have hh := hm.high D List.mem_cons_self
    have hnd := List.nodup_cons.1 hm.nd
    refine ⟨by simp, .inl ⟨D, _, rfl, run_takeDeferred hD, ?_⟩⟩
    refine leaves_marks Pr hPr hend ds _ ⟨fun E hE => ?_, fun E hE => hm.high E (List.mem_cons_of_mem _ hE), hnd.2⟩ (hPr W D hp hh hD)
    exact (World.putObj_heap_other (o := .deferred none) (w := W) (show E ≠ D from fun e => hnd.1 (e ▸ hE))).trans (hm.is E (List.mem_cons_of_mem _ hE))
end Go.Proofs.YtjfdbigkbgolmaaGreatDoor
