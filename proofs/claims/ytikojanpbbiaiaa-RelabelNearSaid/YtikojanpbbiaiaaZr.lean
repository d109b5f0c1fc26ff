/-
  Chapter 24: relabel.New; the law's place, example, lists.
  Chapter 24: the chapter's examples, reckoned.
  Chapter 24: append onto a slice that has nothing and no room.
-/
import Derived.Test.YtikojanpbbiaiaaZq
import Derived.Deep.AppendSrc
namespace Go.Proofs.Ytikojanpbbiaiaa
set_option linter.unusedVariables false
set_option linter.unusedSimpArgs false
open Go Go.RowKit Go.Shelf Go.Lib Go.Maps
attribute [local go_sem] Oper.semAt_some
attribute [local go_sem ↓] Go.wp_at_zero Go.wp_at_succ

set_option maxRecDepth 100000 in
theorem new_any (v1 v2 v3 pv : Value) (l : List Pc) (w : World) (hL : Lst plE w.heap.size w pv l) (hf : Frm pv l.length) (hl : l.length ≤ 19) (hok : ∀ p ∈ queueL l, PcOk p) :
    Calls Try.prog 8 #[.agg #[v1, v2, v3, pv], .slice none 0 0] w fun e w' => ∃ BX, e = .returned (.pointer (some ⟨BX, 0, none⟩)) ∧ w.heap.size ≤ BX ∧ LabS w' BX (seedsL l) (chgL [] [] (seedsL l)) ∧ Below w.heap.size w w' := by
  have hch := fun W BX (hX : LabS W BX [] []) (hL : Lst plE W.heap.size W pv l) => change_any v1 v2 v3 pv l [] [] BX W hX hL hf hl hok (by simp)
  generalize seedsL l = next at *
  have hB0 : Below w.heap.size w ((w.alloc (.cells #[v1, v2, v3, pv] 29)).alloc (.cells #[.slice none 0 0, .slice none 0 0] 45)) := (by repeat' (first | with_reducible exact Below.refl _ _ | with_reducible exact Nat.le_refl _ | with_reducible assumption | with_reducible refine Go.below_growBy' ?_ ?_ _ | with_reducible refine Below.alloc ?_ ?_ _ | with_reducible refine Below.setCell ?_ ?_ _ | with_reducible refine Below.drew ?_ | with_reducible refine Go.le_alloc ?_ | with_reducible refine Go.le_growBy ?_ | with_reducible refine Go.le_setCell ?_ | with_reducible refine Go.le_drew ?_ | omega | (dsimp only; omega)))
  have kM := (Blk.new w #[v1, v2, v3, pv] 29).alloc (.cells #[.slice none 0 0, .slice none 0 0] 45)
  have kX := Blk.new (w.alloc (.cells #[v1, v2, v3, pv] 29)) #[.slice none 0 0, .slice none 0 0] 45
  simp only [World.size_alloc] at kX
  have hLu := hL.up hB0
  go_enter Try.func8, Try.ntmps8
  go_upto_region 2 with fail
  obtain ⟨W0, hW0⟩ : ∃ W, (w.alloc (.cells #[v1, v2, v3, pv] 29)).alloc (.cells #[.slice none 0 0, .slice none 0 0] 45) = W := ⟨_, rfl⟩
  rw [hW0] at hB0 kM kX hLu
  rw [hW0]
  obtain ⟨B0, hB0e⟩ : ∃ b, w.heap.size = b := ⟨_, rfl⟩
  rw [hB0e] at kM kX
  rw [hB0e]
  have m0 : W0.cell? ⟨B0, 0, none⟩ = some v1 := kM.cell 0
  have m1 : W0.cell? ⟨B0, 1, none⟩ = some v2 := kM.cell 1
  have m2 : W0.cell? ⟨B0, 2, none⟩ = some v3 := kM.cell 2
  have m3 : W0.cell? ⟨B0, 3, none⟩ = some pv := kM.cell 3
  have hX0 : LabS W0 (B0 + 1) [] [] := ⟨⟨_, _, kX, ⟨by simp, .inl ⟨rfl, rfl⟩⟩, ⟨by simp, .inl ⟨rfl, rfl⟩⟩⟩, rfl, by simp⟩
  have hc := hch W0 (B0 + 1) hX0 hLu
  clear hch hX0 hLu kM hW0 kX hL
  go_wp2_with (first
    | (go_at_call 10; (with_reducible refine hc.mono ?_); rintro e W1 ⟨rfl, hX1, hg1⟩)
    | fail)
  go_ret
  refine ⟨B0 + 1, rfl, by omega, hX1, ?_⟩
  exact hB0.trans (below_of_grown hg1 (by have := hB0.size; omega) (fun k e => by cases e; omega))
abbrev treeB : ByteArray := ⟨#[116, 114, 101, 101]⟩
theorem place_any (id wt x y : Int) (nm : ByteArray) (w : World) :
    Calls Try.prog 14 #[.int .i64 id, .string nm, .int .i64 wt, .int .i64 x, .int .i64 y] w fun e w' => e = .returned (plV ⟨id, x, y, treeB, nm, wt, 1⟩) ∧ Below w.heap.size w w' := by
  go_enter Try.func14, Try.ntmps14
  go_wp2_with fail
  exact bodyPost_ret (results_cell_row (by rfl) _ _ _ 41 _ (0, 0) _ (by rfl) (Blk.new w _ _) Try.underlying41 (by rfl) (by kernel_rfl)) rfl ⟨rfl, (by repeat' (first | with_reducible exact Below.refl _ _ | with_reducible exact Nat.le_refl _ | with_reducible assumption | with_reducible refine Go.below_growBy' ?_ ?_ _ | with_reducible refine Below.alloc ?_ ?_ _ | with_reducible refine Below.setCell ?_ ?_ _ | with_reducible refine Below.drew ?_ | with_reducible refine Go.le_alloc ?_ | with_reducible refine Go.le_growBy ?_ | with_reducible refine Go.le_setCell ?_ | with_reducible refine Go.le_drew ?_ | omega | (dsimp only; omega)))⟩
/-- the places of the chapter's examples -/
def exP : List Pc := [⟨1, 0, 0, treeB, ⟨#[69, 108, 109]⟩, 5, 1⟩, ⟨2, 180, 0, treeB, ⟨#[79, 97, 107]⟩, 9, 1⟩, ⟨3, 0, 90, treeB, ⟨#[65, 115, 104]⟩, 2, 1⟩, ⟨4, 16384, 16384, treeB, ⟨#[70, 105, 114]⟩, 1, 1⟩]
set_option maxRecDepth 100000 in
set_option maxHeartbeats 2000000 in
theorem example_any (w : World) :
    Calls Try.prog 19 #[] w fun e w' => ∃ pv, e = .returned (.agg #[.slice none 0 0, .slice none 0 0, .slice none 0 0, pv]) ∧ w'.ownsRow w.heap.size 41 7 pv exP.length (exP.flatMap plE.enc) ∧ Below w.heap.size w w' := by
  have p1 := place_any 1 5 0 0 ⟨#[69, 108, 109]⟩
  have p2 := place_any 2 9 180 0 ⟨#[79, 97, 107]⟩
  have p3 := place_any 3 2 0 90 ⟨#[65, 115, 104]⟩
  have p4 := place_any 4 1 16384 16384 ⟨#[70, 105, 114]⟩
  go_enter Try.func19, Try.ntmps19
  go_wp2_with (first
    | (go_at_call 14; (with_reducible refine (p1 _).mono ?_); rintro e w' ⟨rfl, hb_⟩; obtain ⟨p_2, rfl⟩ := grow_of_below hb_; clear hb_)
    | (go_at_call 14; (with_reducible refine (p2 _).mono ?_); rintro e w' ⟨rfl, hb_⟩; obtain ⟨p_1, rfl⟩ := grow_of_below hb_; clear hb_)
    | (go_at_call 14; (with_reducible refine (p3 _).mono ?_); rintro e w' ⟨rfl, hb_⟩; obtain ⟨p_, rfl⟩ := grow_of_below hb_; clear hb_)
    | (go_at_call 14; (with_reducible refine (p4 _).mono ?_); rintro e w' ⟨rfl, hb_⟩; obtain ⟨p, rfl⟩ := grow_of_below hb_; clear hb_)
    | fail)
  refine bodyPost_ret (results_cell_row (by rfl) _ _ _ 29 _ (0, 0) _ (by rfl) (((Blk.new w _ _).grow _).alloc _) Try.underlying29 (by rfl) (by kernel_rfl)) rfl ⟨_, rfl, ?_, (by repeat' (first | with_reducible exact Below.refl _ _ | with_reducible exact Nat.le_refl _ | with_reducible assumption | with_reducible refine Go.below_growBy' ?_ ?_ _ | with_reducible refine Below.alloc ?_ ?_ _ | with_reducible refine Below.setCell ?_ ?_ _ | with_reducible refine Below.drew ?_ | with_reducible refine Go.le_alloc ?_ | with_reducible refine Go.le_growBy ?_ | with_reducible refine Go.le_setCell ?_ | with_reducible refine Go.le_drew ?_ | omega | (dsimp only; omega)))⟩
  refine ⟨by rfl, .inr ⟨_, 4, (exP.flatMap plE.enc).toArray, rfl, by omega, ?_, by decide, by decide, ?_, ?_⟩⟩
  · have h1 := Blk.new ((w.alloc (.cells #[.slice none 0 0, .slice none 0 0, .slice none 0 0, .slice (some ⟨w.heap.size + 1 + (p_2.objs.size + (p_1.objs.size + (p_.objs.size + p.objs.size))), 0, none⟩) 4 4] 29)).growBy ⟨p_2.objs ++ (p_1.objs ++ (p_.objs ++ p.objs)), p.drawn⟩) (exP.flatMap plE.enc).toArray 41
    simp only [World.size_growBy, World.size_alloc, Array.size_append] at h1
    exact h1
  · rfl
  · rfl
theorem listsLen : ∀ l : List Lb, (l.flatMap fun x => [x.id, x.unt]).length = 2 * l.length
  | [] => rfl
  | x :: l => by rw [List.flatMap_cons, List.length_append, listsLen l]; simp; omega
theorem listsW (l : List Lb) (k : Nat) : k < l.length → ((l.flatMap fun x => [x.id, x.unt])[2 * k]? = some l[k]!.id ∧ (l.flatMap fun x => [x.id, x.unt])[2 * k + 1]? = some l[k]!.unt) := by
  induction l generalizing k with
  | nil => intro h; simp at h
  | cons x l ih =>
    intro h
    cases k with
    | zero => simp
    | succ k =>
      have := ih k (by simpa using h)
      simp only [List.flatMap_cons, List.cons_append, List.nil_append]
      rw [show 2 * (k + 1) = 2 * k + 1 + 1 from by omega, List.getElem?_cons_succ, List.getElem?_cons_succ, List.getElem?_cons_succ, List.getElem?_cons_succ]
      simpa using this
set_option maxRecDepth 100000 in
set_option maxHeartbeats 2000000 in
/-- a list of labels beside what is wanted, where both are alike -/
theorem lists_any (v u : Value) (l : List Lb) (xs : List Int) (hx : l.flatMap (fun x => [x.id, x.unt]) = xs) (w : World) (h : Lst lbE w.heap.size w v l) (hu : Lst inE w.heap.size w u xs) (hl : l.length ≤ 1000) :
    Calls Try.prog 20 #[v, u] w fun e w' => e = .returned (.bool true) ∧ Below w.heap.size w w' := by
  have hxl : xs.length = 2 * l.length := by rw [← hx]; exact listsLen l
  have hLW := listsW l
  rw [hx] at hLW
  obtain ⟨a, cap, rfl, -⟩ := h.form
  obtain ⟨a2, cap2, rfl, -⟩ := hu.form
  have hwr : IntKind.i64.wrap (2 * (l.length : Int)) = (xs.length : Int) := by rw [hxl, wrap_in7 (by omega) (by omega)]; omega
  replace hxl := Lib.hid hxl
  clear hx
  go_enter Try.func20, Try.ntmps20
  go_wp2_with fail
  go_loopw [15] (fun kk wr => ∃ k : Nat, k ≤ l.length ∧ kk = .int .i64 (k : Nat) ∧ Below w.heap.size w wr) (fun kk _ => l.length - (intOf kk).toNat)
  case atStart => exact ⟨0, Nat.zero_le _, rfl, Below.refl _ _⟩
  case round =>
    obtain ⟨k, hk, rfl, hB⟩ := hrel
    have hsz := hB.size
    by_cases hlt : k < l.length
    · have hltI : (k : Int) < (l.length : Int) := by omega
      obtain ⟨b, off, cap', i2, x2, y2, r2, t2, u2, hv, hget, hbl, hzc⟩ := h.get hlt
      simp only [Value.slice.injEq, true_and] at hv
      obtain ⟨rfl, rfl⟩ := hv
      obtain ⟨z0, z1, z2, z3, z4, z5⟩ := hzc.below hB hbl
      have hxl2 := hxl.out
      obtain ⟨b3, o3, c3, hv3, -, hb3, hc3⟩ := hu.some_ (by omega)
      simp only [Value.slice.injEq, true_and] at hv3
      obtain ⟨rfl, rfl⟩ := hv3
      have e1 := hc3 (2 * k) (by omega) 0 (by decide)
      have e2 := hc3 (2 * k + 1) (by omega) 0 (by decide)
      obtain ⟨w1, w2⟩ := hLW k hlt
      rw [List.getElem?_eq_getElem (by omega)] at w1 w2
      have hlk : l[k]! = ⟨i2, x2, y2, r2, t2, u2⟩ := by
        rw [getElem!_pos l k hlt]
        rw [List.getElem?_eq_getElem hlt] at hget
        exact Option.some.inj hget
      rw [hlk] at w1 w2
      rw [Option.some.inj w1] at e1
      rw [Option.some.inj w2] at e2
      have d1 : wr.cell? ⟨b3, o3 + 2 * k, none⟩ = some (.int .i64 i2) := (hB.cell (p := ⟨b3, o3 + 2 * k, none⟩) hb3).trans (by simpa using e1)
      have d2 : wr.cell? ⟨b3, o3 + (2 * k + 1), none⟩ = some (.int .i64 u2) := (hB.cell (p := ⟨b3, o3 + (2 * k + 1), none⟩) hb3).trans (by simpa using e2)
      obtain ⟨m, hm⟩ : ∃ m, 2 * k = m := ⟨_, rfl⟩
      rw [hm] at d1 d2
      have q0 : IntKind.i64.wrap (2 * (k : Int)) = (m : Int) := by rw [wrap_in7 (by omega) (by omega)]; omega
      have q1 : IntKind.i64.wrap ((m : Int) + 1) = (m : Int) + 1 := wrap_in7 (by omega) (by omega)
      have q2 : (m : Int) < (xs.length : Int) := by omega
      have q3 : (m : Int) + 1 < (xs.length : Int) := by omega
      have q4 : (0 : Int) ≤ (m : Int) + 1 := by omega
      have q5 : ((m : Int) + 1).toNat = m + 1 := by omega
      clear e1 e2 w1 w2 hlk hget hzc hxl2 hm
      go_wp2_with fail
      first | with_reducible refine wp_region_grow2 (by kernel_rfl) (by kernel_rfl) ?_ | with_reducible refine wp_region_grow (by kernel_rfl) (by kernel_rfl) ?_
      repeat (first | go_big_quiet_step (fail) | quiet_step (fail))
      refine wpQuiet_nil ?_
      intro _ hw_
      obtain ⟨p, hw_⟩ := hw_
      subst hw_
      go_wp2_with fail
      go_roundw
      case rel => exact ⟨k + 1, by omega, by go_num, (by repeat' (first | with_reducible exact Below.refl _ _ | with_reducible exact Nat.le_refl _ | with_reducible assumption | with_reducible refine Go.below_growBy' ?_ ?_ _ | with_reducible refine Below.alloc ?_ ?_ _ | with_reducible refine Below.setCell ?_ ?_ _ | with_reducible refine Below.drew ?_ | with_reducible refine Go.le_alloc ?_ | with_reducible refine Go.le_growBy ?_ | with_reducible refine Go.le_setCell ?_ | with_reducible refine Go.le_drew ?_ | omega | (dsimp only; omega)))⟩
      case measure => first | (simp [intOf]; done) | (simp [intOf]; omega)
    · obtain rfl : k = l.length := by omega
      have hgeI : ¬ (l.length : Int) < (l.length : Int) := by omega
      go_wp2_with fail
      go_ret
      exact ⟨rfl, hB⟩
end Go.Proofs.Ytikojanpbbiaiaa
namespace Go.Proofs.Ytikojanpbbiaiaa
set_option linter.unusedVariables false
set_option linter.unusedSimpArgs false
open Go Go.RowKit Go.Shelf Go.Lib Go.Sort

def insO (b : Nat) : Nat → Nat → Array Pc → Array Pc
  | 0, _, d => d
  | m + 1, i, d => if i < b then insO b m (i + 1) (insInner (ltOf cmpP) 0 i d) else d
theorem insO_eq (b : Nat) : ∀ (m i : Nat) (d : Array Pc), b - i ≤ m → insOuter (ltOf cmpP) 0 b i d = insO b m i d
  | 0, i, d, h => by rw [insOuter_stop _ _ _ _ _ (by omega)]; rfl
  | m + 1, i, d, h => by
    unfold insO
    split
    · rename_i hi
      rw [insOuter_go _ _ _ _ _ hi, insO_eq b m (i + 1) _ (by omega)]
    · rename_i hi
      rw [insOuter_stop _ _ _ _ _ hi]
def seedsC (l : List Pc) : List Lb := ((insO (l.filter (fun x => !noName x)).length (l.filter (fun x => !noName x)).length 1 (l.filter (fun x => !noName x)).toArray).toList).map (fun p => lbP p 1024)
theorem seedsL_C (l : List Pc) : seedsL l = seedsC l := by
  unfold seedsL queueL sortP insertionSort seedsC
  rw [insO_eq _ (l.filter (fun x => !noName x)).length 1 _ (by omega)]
/-- the chapter's examples -/
def exP2 : List Pc := exP ++ [⟨5, 1, 1, treeB, ⟨#[]⟩, 7, 1⟩]
def exP3 : List Pc := [⟨1, 0, 0, treeB, ⟨#[69, 108, 109]⟩, 5, 1⟩, ⟨2, 180, 0, treeB, ⟨#[79, 97, 107]⟩, 9, 1⟩, ⟨3, 0, 90, treeB, ⟨#[65, 115, 104]⟩, 2, 1⟩, ⟨4, 16384, 16384, treeB, ⟨#[89, 101, 119]⟩, 1, 1⟩]
def exP4 : List Pc := [⟨1, 0, 0, treeB, ⟨#[69, 108, 109]⟩, 5, 1⟩, ⟨2, 180, 0, treeB, ⟨#[79, 97, 107]⟩, 9, 1⟩, ⟨3, 0, 90, treeB, ⟨#[65, 115, 104]⟩, 7, 1⟩, ⟨4, 16384, 16384, treeB, ⟨#[70, 105, 114]⟩, 1, 1⟩]
def exP5 : List Pc := [⟨1, 0, 0, treeB, ⟨#[69, 108, 109]⟩, 5, 1⟩, ⟨3, 0, 90, treeB, ⟨#[65, 115, 104]⟩, 2, 1⟩, ⟨4, 16384, 16384, treeB, ⟨#[70, 105, 114]⟩, 1, 1⟩]
def exS : List Lb := seedsC exP
def exL : List Lb := chgL [] [] exS
abbrev flatL (l : List Lb) : List Int := l.flatMap (fun x => [x.id, x.unt])
theorem ex_1 : flatL exL = [2, 1024, 1, 10, 3, 5, 4, 1024] := by decide +kernel
theorem ex_2 : (reachI exS exS exS.length).length = 0 ∧ chgL exS exL exS = exL := by decide +kernel
theorem ex_3 : seedsC exP2 = exS := by decide +kernel
def exS3 : List Lb := seedsC exP3
def exL3 : List Lb := chgL exS exL exS3
theorem ex_4 : (reachI exS exS3 exS3.length).length = 1 ∧ flatL exL3 = [2, 1024, 1, 10, 3, 5, 4, 1024] := by decide +kernel
def exS4 : List Lb := seedsC exP4
def exL4 : List Lb := chgL exS exL exS4
theorem ex_5 : (reachI exS exS4 exS4.length).length = 2 ∧ flatL exL4 = [2, 1024, 3, 11, 1, 5, 4, 1024] := by decide +kernel
def exS5 : List Lb := seedsC exP5
theorem ex_6 : (reachI exS exS5 exS5.length).length = 2 := by decide +kernel
theorem exOk : ∀ p ∈ exP2 ++ exP3 ++ exP4 ++ exP5, PcOk p := by
  intro p hp
  have h : ∀ q ∈ exP2 ++ exP3 ++ exP4 ++ exP5, fits q.id ∧ fits q.x ∧ fits q.y ∧ fits q.wt ∧ q.nm.size ≤ 1000 := by decide +kernel
  obtain ⟨h1, h2, h3, h4, h5⟩ := h p hp
  exact ⟨h1, h2, h3, h4, h5⟩
theorem exOk1 : ∀ p ∈ exP, PcOk p := fun p hp => exOk p (by unfold exP2; simp [hp])
theorem exOk2 : ∀ p ∈ exP2, PcOk p := fun p hp => exOk p (by simp [hp])
theorem exOk3 : ∀ p ∈ exP3, PcOk p := fun p hp => exOk p (by simp [hp])
theorem exOk4 : ∀ p ∈ exP4, PcOk p := fun p hp => exOk p (by simp [hp])
theorem exOk5 : ∀ p ∈ exP5, PcOk p := fun p hp => exOk p (by simp [hp])
theorem seeds_key {l : List Pc} (h : ∀ p ∈ l, PcOk p) : ∀ x ∈ seedsL l, LbKey x := by
  intro x hx
  obtain ⟨p, hp, rfl⟩ := List.mem_map.1 hx
  exact lbKey_seed (queueL_all l PcOk h p hp)
theorem exKey : ∀ x ∈ exS, LbKey x := by
  unfold exS
  rw [← seedsL_C]
  exact seeds_key exOk1
theorem lst_ofBlk {α : Type} {E : El α} (hE : E.Ok) {W : World} {b : Nat} {l : List α} (h : Blk W b (l.flatMap E.enc).toArray E.t) (hl : l.length ≤ 1000000) : Lst E W.heap.size W (.slice (some ⟨b, 0, none⟩) l.length l.length) l := by
  refine ⟨_, _, rfl, Nat.le_refl _, hl, fun j hj => ⟨b, 0, rfl, h.lt, fun i hi => ?_⟩⟩
  rw [Nat.zero_add, h.cell, ← flat_at hE l j i hj hi]
  simp
/-- a list that came back, beside what is wanted -/
theorem listed {W : World} {base : Nat} {u : Value} {l : List Lb} (hr : W.ownsRow base 39 6 u l.length (l.flatMap lbE.enc)) (hl : l.length ≤ 19) (xs : List Int) (hx : flatL l = xs) :
    Calls Try.prog 20 #[u, .slice (some ⟨W.heap.size, 0, none⟩) xs.length xs.length] (W.alloc (.cells (xs.flatMap inE.enc).toArray 3)) fun e w' => e = .returned (.bool true) ∧ Below (W.alloc (.cells (xs.flatMap inE.enc).toArray 3)).heap.size (W.alloc (.cells (xs.flatMap inE.enc).toArray 3)) w' := by
  have hb : Below W.heap.size W (W.alloc (.cells (xs.flatMap inE.enc).toArray 3)) := (Below.refl _ _).alloc (Nat.le_refl _) _
  have hxl : xs.length = 2 * l.length := by rw [← hx]; exact listsLen l
  exact lists_any _ _ l xs hx _ ((lst_of_row lbOk hr (by omega)).up hb) (lst_ofBlk inOk (Blk.new W _ _) (by omega)) (by omega)
/-- a map's box: its places in a row -/
structure MapB (n0 : Nat) (W : World) (b : Nat) (pv : Value) (l : List Pc) : Prop where
  k : Blk W b #[.slice none 0 0, .slice none 0 0, .slice none 0 0, pv] 29
  r : W.ownsRow n0 41 7 pv l.length (l.flatMap plE.enc)
theorem MapB.up {n0 : Nat} {W W' : World} {b : Nat} {pv : Value} {l : List Pc} (h : MapB n0 W b pv l) (hb : Below W.heap.size W W') : MapB n0 W' b pv l := ⟨h.k.below hb h.k.lt, ownsRow_up h.r hb⟩
/-- a *Labels turns -/
theorem MapB.kept {n0 : Nat} {W W' : World} {b BX : Nat} {pv : Value} {l : List Pc} {c : Array Value} (h : MapB n0 W b pv l) (hg : W.grownBy W' (some BX)) (hX : Blk W BX c 45) : MapB n0 W' b pv l :=
  ⟨h.k.kept hg (fun e => by cases e; have := h.k.symm.trans hX; simp at this), h.r.kept hg (.inr (ownsRow_other h.r hX (by decide)))⟩
theorem row_blk {W : World} {base n s k : Nat} {e : TypeId} {v : Value} {xs : List Value} (h : W.ownsRow base e s v n xs) (hk : v.ownBlock = some k) : ∃ cur, Blk W k cur e := by
  rcases h.2 with ⟨rfl, -⟩ | ⟨g, cap, cur, rfl, -, hg, -⟩
  · cases hk
  · cases hk
    exact ⟨cur, hg⟩
/-- another block turns -/
theorem MapB.turn {n0 : Nat} {W W' : World} {b : Nat} {pv : Value} {l : List Pc} {o : Option Nat} (h : MapB n0 W b pv l) (hg : W.grownBy W' o) (h1 : o ≠ some b) (h2 : ∀ k, o = some k → pv.ownBlock ≠ some k) : MapB n0 W' b pv l := by
  refine ⟨h.k.kept hg h1, h.r.kept hg ?_⟩
  cases hp : pv.ownBlock with
  | none => exact .inl rfl
  | some g => exact .inr (fun e => h2 g e.symm hp)
theorem LabS.turn {W W' : World} {BX : Nat} {sd ls : List Lb} {o : Option Nat} (h : LabS W BX sd ls) (hg : W.grownBy W' o) (hk : ∀ k, o = some k → ∃ c t, Blk W k c t ∧ t ≠ 39 ∧ t ≠ 45) : LabS W' BX sd ls := by
  obtain ⟨⟨sv, lv, h1, h2, h3⟩, h6, h7⟩ := h
  have hr : ∀ {v n xs}, W.ownsRow 0 39 6 v n xs → v.ownBlock = none ∨ v.ownBlock ≠ o := fun {v n xs} hv => by
    cases hp : v.ownBlock with
    | none => exact .inl rfl
    | some g => exact .inr (fun e => by
        obtain ⟨c, t, hb, ht, -⟩ := hk g e.symm
        exact ownsRow_other hv hb ht hp)
  refine ⟨⟨sv, lv, h1.kept hg (fun e => ?_), h2.kept hg (hr h2), h3.kept hg (hr h3)⟩, h6, h7⟩
  obtain ⟨c, t, hb, -, ht⟩ := hk BX e
  have := h1.symm.trans hb
  simp at this
  exact ht this.2.symm
/-- Change, at places in a row -/
theorem change_row {n0 : Nat} {pv : Value} {l : List Pc} {sd ls next fin : List Lb} {BX n : Nat} {W : World} (hX : LabS W BX sd ls) (hr : W.ownsRow n0 41 7 pv l.length (l.flatMap plE.enc)) (hl : l.length ≤ 19) (hok : ∀ p ∈ l, PcOk p) (hks : ∀ x ∈ sd, LbKey x)
    (h1 : seedsL l = next) (h2 : (reachI sd next next.length).length = n) (h3 : chgL sd ls next = fin) (v1 v2 v3 : Value) :
    Calls Try.prog 10 #[.pointer (some ⟨BX, 0, none⟩), .agg #[v1, v2, v3, pv], .slice none 0 0] W fun e w' => e = .returned (.int .i64 (n : Nat)) ∧ LabS w' BX next fin ∧ W.grownBy w' (some BX) := by
  subst h1 h2 h3
  exact change_any v1 v2 v3 pv l sd ls BX W hX (lst_of_row plOk hr (by omega)) (frm_row hr) hl (queueL_all l PcOk hok) hks
theorem ownsRow_setCell {W : World} {base g cap n s j : Nat} {e : TypeId} {xs : List Value} (h : W.ownsRow base e s (.slice (some ⟨g, 0, none⟩) n cap) n xs) (hj : j < n * s) (v : Value) : (W.setCell ⟨g, j, none⟩ v).ownsRow base e s (.slice (some ⟨g, 0, none⟩) n cap) n (xs.set j v) := by
  rcases h.2 with ⟨e1, -⟩ | ⟨g', cap', cur, e1, hb, hg, h1, h2, h3, h4⟩
  · cases e1
  · simp only [Value.slice.injEq, Option.some.injEq, Addr.mk.injEq, and_true, true_and] at e1
    obtain ⟨rfl, rfl⟩ := e1
    refine ⟨by rw [List.length_set]; exact h.1, .inr ⟨g, cap, cur.setIfInBounds j v, rfl, hb, (show Blk W g cur e from hg).set _ _, h1, h2, by simpa using h3, ?_⟩⟩
    rw [← h4]
    simp [List.take_set]
end Go.Proofs.Ytikojanpbbiaiaa
namespace Go.Proofs.Ytikojanpbbiaiaa
set_option linter.unusedVariables false
set_option linter.unusedSimpArgs false
open Go Go.RowKit Go.Shelf

section
variable {α : Type} {E : El α} {P : Program} {st : TypeId}
theorem El.append_fresh (hE : E.Ok) (hI : E.In P st) (W : World) (base Z : Nat) (xv : Value) (l : List α) (ty : TypeId) (hZ : W.ownsRow base E.t E.s (.slice (some ⟨Z, 0, none⟩) 0 0) 0 []) {n0 : Nat} (hx : Lst E n0 W xv l) (hf : Frm xv l.length) (hl : l.length ≤ 100000) (hb : base ≤ W.heap.size) :
    ∃ v' W', (Builtin.append_ #[st, st] ty #[.slice (some ⟨Z, 0, none⟩) 0 0, xv]).run P W = .ok v' W' ∧ W'.ownsRow base E.t E.s v' l.length (l.flatMap E.enc) ∧ Below W.heap.size W W' ∧ ∃ g cap, v' = .slice (some ⟨g, 0, none⟩) l.length cap ∧ (l = [] → cap = 0) := by
  obtain ⟨i0, z, hi0, hz0, hz1, hz2, hz3⟩ := hI.info
  by_cases hne : l = []
  · subst hne
    have hs : Src P i0.size st xv 0 [] W := by
      rcases hf with rfl | ⟨b, off, cap, rfl⟩
      · exact Src.ofNil W hI.under 0
      · exact Src.ofSlice W hI.under _ 0 cap [] (by simp) (by simp) (by simp)
    have hr := run_append_room_src (P := P) W st st ty E.t i0 hI.under hi0 Z 0 0 0 xv 0 [] hs (by omega) (by simp) (by simp)
    exact ⟨_, W, hr, hZ, Below.refl _ _, Z, 0, rfl, fun _ => rfl⟩
  · have hpos : 0 < l.length := List.length_pos_iff.2 hne
    obtain ⟨b, off, cap, rfl, hcap, hbn, -⟩ := hx.some_ hpos
    have hnews : ∀ j u, (l.flatMap E.enc)[j]? = some u → W.cell? ((⟨b, off, none⟩ : Addr).add j) = some u := fun j u hj => by
      rw [Addr.add_lit]
      exact hx.flat hE j u hj
    obtain ⟨v', W', hr, hown, -, -, -⟩ := run_append_own_at (P := P) W base st ty E.t i0 _ E.s i0.bytes hI.under hi0 hz0 hz1 rfl hz3 hE.pos _ 0 [] hZ ⟨b, off, none⟩ l.length cap (l.flatMap E.enc) (flat_length hE l) hnews (flat_one hE l) (by unfold maxLen; omega) (Nat.le_trans (Nat.mul_le_mul (show 0 + l.length ≤ 100000 by omega) hz2) (by decide)) hb
    have hs : Src P i0.size st (.slice (some ⟨b, off, none⟩) l.length cap) l.length (l.flatMap E.enc) W := Src.ofSlice W hI.under _ _ cap _ (by rw [hz1]; exact flat_length hE l) hnews (flat_one hE l)
    have hold : (Builtin.firstCells i0.size 0 (.slice (some ⟨Z, 0, none⟩) 0 0)).run P W.drew = .ok (([] : List Value).toArray) W.drew := run_firstCells_some W.drew i0.size 0 ⟨Z, 0, none⟩ 0 0 [] (by simp) (by simp)
    have hcap : Builtin.nextslicecap (0 + l.length) 0 * i0.bytes ≤ 281474976710656 := growslice_fits (by omega) (Nat.le_trans (Nat.mul_le_mul (show 0 + l.length ≤ 100000 by omega) hz2) (by decide))
    have hr2 := run_append_grow_src (P := P) W st st ty E.t i0 _ hI.under hi0 hz0 (some ⟨Z, 0, none⟩) 0 0 [] hold _ l.length _ hs (by omega) (by omega) hcap
    rw [hr2] at hr
    injection hr with h1 h2
    subst h1 h2
    have hown' := hown
    rw [Nat.zero_add, List.nil_append] at hown'
    exact ⟨_, _, hr2, by simpa using hown, (Below.refl _ W).drew.alloc (Nat.le_refl _) _, W.heap.size, grownCap W (0 + l.length) 0 E.t, by rw [Nat.zero_add], fun e => absurd e hne⟩
/-- at a step of a region that draws -/
theorem El.step_fresh (hE : E.Ok) (hI : E.In P st) {o : Oper} {a : Act} {w : World} {K : Act → World → Prop} {Q : Exit → Act → World → Prop} (s x : Operand)
    (ho : o.op = .call { callee := .builtin .append, args := #[s, x], argTypes := #[st, st] })
    (base Z : Nat) (hs : a.eval s = .slice (some ⟨Z, 0, none⟩) 0 0) (hZ : w.ownsRow base E.t E.s (.slice (some ⟨Z, 0, none⟩) 0 0) 0 []) (xv : Value) (l : List α) (hxv : a.eval x = xv) {n0 : Nat} (hx : Lst E n0 w xv l) (hf : Frm xv l.length) (hl : l.length ≤ 100000) (hb : base ≤ w.heap.size)
    (h : ∀ v' w', w'.ownsRow base E.t E.s v' l.length (l.flatMap E.enc) → Below w.heap.size w w' → (∃ g cap, v' = .slice (some ⟨g, 0, none⟩) l.length cap ∧ (l = [] → cap = 0)) → K (a.put o.dst v') w') :
    Oper.wp P o a w K Q := by
  obtain ⟨v', w', hr, h2, h3, h4⟩ := El.append_fresh hE hI w base Z xv l o.type hZ hx hf hl hb
  unfold Oper.wp execOp
  simp only [ho, resolve, invoke, builtin, Sem.run_bind, Sem.run_pure, Result.andThen_ok, List.map_toArray, List.map_cons, List.map_nil, hs, hxv, hr]
  exact h v' w' h2 h3 h4
end
/-- '[]T{}': an empty block of the call's own -/
theorem fresh_row {W : World} {base Z : Nat} {t : TypeId} {s : Nat} (h : Blk W Z #[] t) (hb : base ≤ Z) : W.ownsRow base t s (.slice (some ⟨Z, 0, none⟩) 0 0) 0 [] := ⟨by simp, .inr ⟨Z, 0, #[], rfl, hb, h, Nat.le_refl _, by unfold maxLen; omega, by simp, by simp⟩⟩
theorem Lst.drop {α : Type} {E : El α} {n₀ : Nat} {W : World} {b off cap : Nat} {l : List α} (h : Lst E n₀ W (.slice (some ⟨b, off, none⟩) l.length cap) l) (k : Nat) (hk : k ≤ l.length) : Lst E n₀ W (.slice (some ⟨b, off + k * E.s, none⟩) (l.length - k) (cap - k)) (l.drop k) := by
  obtain ⟨a', cap', e, h1, h2, h3⟩ := h
  cases e
  refine ⟨_, _, by rw [List.length_drop], by rw [List.length_drop]; omega, by rw [List.length_drop]; omega, fun j hj => ?_⟩
  rw [List.length_drop] at hj
  obtain ⟨b', off', e2, hlt, hc⟩ := h3 (k + j) (by omega)
  simp only [Option.some.injEq, Addr.mk.injEq, and_true] at e2
  obtain ⟨rfl, rfl⟩ := e2
  refine ⟨b, off + k * E.s, rfl, hlt, fun i hi => ?_⟩
  rw [List.getElem_drop, ← hc i hi]
  rw [Nat.add_mul, Nat.add_assoc off, Nat.add_assoc off]
end Go.Proofs.Ytikojanpbbiaiaa
