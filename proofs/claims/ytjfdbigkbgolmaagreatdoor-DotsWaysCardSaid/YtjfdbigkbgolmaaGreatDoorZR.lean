/-
  Chapter 29: dots.Row, walked.
-/
import Derived.Test.YtjfdbigkbgolmaaGreatDoorZn
import Derived.Test.YtjfdbigkbgolmaaGreatDoorZm
import Derived.Test.YtjfdbigkbgolmaaGreatDoorZh

namespace Go.Proofs.YtjfdbigkbgolmaaGreatDoor
set_option linter.unusedVariables false
set_option linter.unusedSimpArgs false
open Go.RowKit Go.Shelf Go.Maps
attribute [local go_sem] Oper.semAt_some
attribute [local go_sem ↓] Go.wp_at_zero Go.wp_at_succ

theorem list_ndt (l : List Dt) (hf : ∀ d ∈ l, fits d.x ∧ fits d.y) : ∃ Lf : List NDt, Lf.map (·.1) = l := by
  induction l with
  | nil => exact ⟨[], rfl⟩
  | cons d l ih =>
    obtain ⟨Lf, h⟩ := ih (fun e he => hf e (List.mem_cons_of_mem _ he))
    exact ⟨⟨d, hf d List.mem_cons_self⟩ :: Lf, by rw [List.map_cons, h]⟩
/-- the worlds of Row's second half: the builder -/
structure BS (B : Nat) (bs : List UInt8) (W0 W : World) : Prop where
  bld : Lib.IsBuilderF 113 5 B B (Lib.byteCells bs) W
  below : Below B W0 W
  le : B ≤ W.heap.size
theorem BS.byte {B : Nat} {bs : List UInt8} {W0 W : World} (h : BS B bs W0 W) (u : UInt8) (c : Int) (hc : (u.toNat : Int) = c) (hl : bs.length ≤ 100000) :
    Calls Tryz.prog 54 #[.pointer (some ⟨B, 0, none⟩), .int .u8 c] W fun e W' => e = .returned .nilIface ∧ BS B (bs ++ [u]) W0 W' := by
  subst hc
  refine (writeByte_k B B _ _ W h.bld (by simp [Lib.byteCells]; omega) h.le).mono ?_
  rintro e W' ⟨rfl, h1, h2, -⟩
  refine ⟨rfl, ⟨.inr ?_, h.below.trans h2, Nat.le_trans h.le h2.size⟩⟩
  simpa [Lib.byteCells] using h1
set_option maxRecDepth 100000 in
set_option maxHeartbeats 8000000 in
theorem prow_in (l : List Dt) (v : Value) (s : Sh) (W H : Nat) (w : World) (hW : s.w = W) (hH : s.h = H) (hc : checkS s = 0) (hD : Dts w.heap.size w v l) (hl1 : l.length ≤ 100000) :
    CallsIn Fence.wide 3 Tryz.prog 16 #[v, shV s] w fun e w' => e = .returned (.string (strOf (rowTxt l W H H))) ∧ Below w.heap.size w w' := by
  have hs := okS_of hc
  obtain ⟨ax, ay, st, sw, sh, sg⟩ := s
  obtain ⟨s0, s1, u0, u1, v0, v1, a0, a1, b0, b1⟩ := hs
  simp only at hW hH u0 u1 v0 v1 a0 a1 b0 b1
  subst hW hH
  have fax : fits ax := ⟨by omega, by omega⟩
  have fay : fits ay := ⟨by omega, by omega⟩
  have hcH := Lib.hid hc
  clear hc a0 a1 b0 b1
  obtain ⟨-, a, cap, rfl, hrows⟩ := hD.open_
  obtain ⟨Lf, rfl⟩ := list_ndt l (fun d hd => by
    obtain ⟨j, hj, rfl⟩ := List.getElem_of_mem hd
    obtain ⟨b, off, -, -, -, f0, f1⟩ := hrows j hj
    exact ⟨f0, f1⟩)
  rw [List.length_map] at hl1
  obtain ⟨bb, hbb, hr⟩ : ∃ bb, bb ≤ w.heap.size ∧ ∀ j, (h : j < Lf.length) → ∃ off, a = some ⟨bb, off, none⟩ ∧ bb < w.heap.size ∧ DtRow w bb (off + j * 4) Lf[j].1 := by
    by_cases h0 : 0 < Lf.length
    · obtain ⟨b, off, rfl, hb, -⟩ := hrows 0 (by simpa using h0)
      refine ⟨b, by omega, fun j hj => ?_⟩
      obtain ⟨b', off', e, -, hr, -⟩ := hrows j (by simpa using hj)
      simp only [Option.some.injEq, Addr.mk.injEq, and_true] at e
      obtain ⟨rfl, rfl⟩ := e
      rw [List.getElem_map] at hr
      exact ⟨off, rfl, hb, hr⟩
    · exact ⟨w.heap.size, Nat.le_refl _, fun j hj => absurd hj (by omega)⟩
  clear hrows
  simp only [List.length_map]
  refine callsIn_of_wp_marks Tryz.func16 rfl trivial ?_ rfl
  simp only [Tryz.ntmps16, List.size_toArray, List.length_cons, List.length_nil, Nat.reduceAdd, Nat.reduceSub, Array.replicate_succ, Array.replicate_zero, List.push_toArray, List.append_toArray, List.nil_append, List.cons_append]
  refine wpIn_wide.2 ?_
  have hmm := @run_makeMap Tryz.prog
  go_upto_region 4 with (go_at_call 19; refine (check_eq hcH.out _ fax fay).mono ?_; rintro e w' ⟨rfl, hb_⟩; obtain ⟨p, rfl⟩ := grow_of_below hb_; clear hb_)
  clear hmm
  refine wp_world (fun W1 hW1 => ?_)
  have kS : Blk W1 w.heap.size #[.int .i64 ax, .int .i64 ay, .int .i64 st, .int .i64 (W : Nat), .int .i64 (H : Nat), .int .i64 sg] 29 := by
    rw [hW1]
    exact (((Blk.new w _ _).grow p).alloc _).alloc _
  have hsz : ((w.alloc (.cells #[.int .i64 ax, .int .i64 ay, .int .i64 st, .int .i64 (W : Nat), .int .i64 (H : Nat), .int .i64 sg] 29)).growBy p).heap.size = w.heap.size + 1 + p.objs.size := by rw [World.size_growBy, World.size_alloc]
  have kM : MapB W1 (w.heap.size + 1 + p.objs.size) 0 [] := by
    rw [hW1]
    have h := (MapB.made ((w.alloc (.cells #[.int .i64 ax, .int .i64 ay, .int .i64 st, .int .i64 (W : Nat), .int .i64 (H : Nat), .int .i64 sg] 29)).growBy p)).alloc (.cells #[.map (some (w.heap.size + 1 + p.objs.size))] 107)
    rw [hsz] at h
    exact h
  have kB : Blk W1 (w.heap.size + 1 + p.objs.size + 1) #[.map (some (w.heap.size + 1 + p.objs.size))] 107 := by
    rw [hW1]
    have h := Blk.new (((w.alloc (.cells #[.int .i64 ax, .int .i64 ay, .int .i64 st, .int .i64 (W : Nat), .int .i64 (H : Nat), .int .i64 sg] 29)).growBy p).alloc (.map #[] 0)) #[.map (some (w.heap.size + 1 + p.objs.size))] 107
    rw [World.size_alloc, hsz] at h
    exact h
  have hB1 : Below w.heap.size w W1 := by
    rw [hW1]
    exact (by repeat' (first | with_reducible exact Below.refl _ _ | with_reducible exact Nat.le_refl _ | with_reducible assumption | with_reducible refine Go.below_growBy' ?_ ?_ _ | with_reducible refine Below.alloc ?_ ?_ _ | with_reducible refine Below.setCell ?_ ?_ _ | with_reducible refine Below.drew ?_ | with_reducible refine Go.le_alloc ?_ | with_reducible refine Go.le_growBy ?_ | with_reducible refine Go.le_setCell ?_ | with_reducible refine Go.le_drew ?_ | omega | (dsimp only; omega)))
  have hMS : w.heap.size < w.heap.size + 1 + p.objs.size := by omega
  have hMB : w.heap.size + 1 + p.objs.size < w.heap.size + 1 + p.objs.size + 1 := by omega
  clear hW1 hsz
  generalize w.heap.size + 1 + p.objs.size + 1 = Bm at *
  generalize w.heap.size + 1 + p.objs.size = mb at *
  go_wp2_with (go_at_call 53; refine (back_any a _ cap _).mono ?_; rintro e w' ⟨rfl, rfl⟩)
  have kK := Blk.new W1 #[.slice a Lf.length cap] 42
  have hI0 : RI w ⟨ax, ay, st, W, H, sg⟩ w.heap.size mb Bm [] W1 := ⟨⟨0, Nat.le_refl _, kM⟩, kS, kB, hB1⟩
  replace hI0 := hI0.grown (World.grownBy_alloc W1 (.cells #[.slice a Lf.length cap] 42) none)
  have yS := kS.lt
  have yM := kM.lt
  have yB := kB.lt
  have hB12 : Below W1.heap.size W1 (W1.alloc (.cells #[.slice a Lf.length cap] 42)) := (by repeat' (first | with_reducible exact Below.refl _ _ | with_reducible exact Nat.le_refl _ | with_reducible assumption | with_reducible refine Go.below_growBy' ?_ ?_ _ | with_reducible refine Below.alloc ?_ ?_ _ | with_reducible refine Below.setCell ?_ ?_ _ | with_reducible refine Below.drew ?_ | with_reducible refine Go.le_alloc ?_ | with_reducible refine Go.le_growBy ?_ | with_reducible refine Go.le_setCell ?_ | with_reducible refine Go.le_drew ?_ | omega | (dsimp only; omega)))
  have hrY : ∀ j, (h : j < Lf.length) → ∃ off, a = some ⟨bb, off, none⟩ ∧ DtRow (W1.alloc (.cells #[.slice a Lf.length cap] 42)) bb (off + j * 4) Lf[j].1 := fun j hj => by
    obtain ⟨off, e, hb, r⟩ := hr j hj
    exact ⟨off, e, (r.below hB1 hb).below hB12 (by omega)⟩
  obtain ⟨Y, hY⟩ : ∃ Y, W1.alloc (.cells #[.slice a Lf.length cap] 42) = Y := ⟨_, rfl⟩
  have hYs : Y.heap.size = W1.heap.size + 1 := by rw [← hY, World.size_alloc]
  rw [hY] at kK hI0 hrY ⊢
  clear hY kS kM kB hB1 hB12 hr hD
  obtain ⟨Bk, hBk⟩ : ∃ b, W1.heap.size = b := ⟨_, rfl⟩
  rw [hBk] at kK yS yM yB hYs ⊢
  clear hBk
  have hKg : ∀ {A A' : World} {row : Option Nat}, A.grownBy A' row → Y.heap.size ≤ A.heap.size → (∀ r, row = some r → r = mb ∨ Y.heap.size ≤ r) → bb ≠ mb → KeepB Bk bb A A' := fun hg hA hr hne => keepB_grown hg (by omega) (by omega) (fun e => by rcases hr _ e with h | h <;> omega) (fun e => by rcases hr _ e with h | h <;> omega)
  have hne : bb ≠ mb := by omega
  refine (wpIn_wide (n := 3)).1 (wpIn_rangeFunc_box2 19 20 7 (fun x : Nat × NDt => .int .i64 (x.1 : Int)) (fun x => .agg #[.int .i64 x.2.1.x, .int .i64 x.2.1.y, .int .i64 x.2.1.k, .int .i64 x.2.1.i]) (fun x => #[.int .i64 x.2.1.x, .int .i64 x.2.1.y, .int .i64 x.2.1.k, .int .i64 x.2.1.i]) 59 rfl (by omega) rfl trivial (enters_of Tryz.func96 (by kernel_rfl) rfl)
    (back_stops 2 (by omega) Bk bb a cap Lf Y (by omega) kK hrY hl1) keepB_t (keepB_b (by omega) (by omega)) (Below.refl _ _) (fun _ => rfl)
    (fun pre X => RI w ⟨ax, ay, st, W, H, sg⟩ w.heap.size mb Bm pre X ∧ Y.heap.size ≤ X.heap.size) (fun pre A A' row h hg hr => ⟨RI.own (by omega) (by omega) (by omega) (by omega) pre A A' row h.1 hg hr, Nat.le_trans h.2 hg.size⟩) ⟨hI0, Nat.le_refl _⟩ ?assign ?body ?done)
  case assign =>
    rintro l pre x X K ⟨hI, hYW⟩ hK
    obtain ⟨xi, ⟨⟨dx, dy, dk, di⟩, hfit⟩⟩ := x
    gi_wp2
    exact hK _ _ ((KeepsOthers.alloc _ _).from _) (hKg (World.grownBy_alloc X _ none) hYW (fun r e => by cases e) hne) ⟨hI.grown (World.grownBy_alloc X _ none), by simp; omega⟩ ⟨X.heap.size, hYW, Blk.new X _ _, by first | rfl | simp⟩
  case body =>
    rintro l pre x Bx X ⟨hI, hYW⟩ hBx bX hlt
    obtain ⟨⟨n, hn, hM⟩, kS, kB, hBel⟩ := hI
    obtain ⟨D, hown, hnd, hfitE, hkeys⟩ := hM
    obtain ⟨xi, ⟨⟨dx, dy, dk, di⟩, hfit⟩⟩ := x
    have hsn := preE_snoc pre (xi, ⟨⟨dx, dy, dk, di⟩, hfit⟩)
    simp only at hfit hsn bX
    obtain ⟨en, hen⟩ : ∃ en, preE pre = en := ⟨_, rfl⟩
    rw [hen] at hsn hnd hfitE hkeys
    clear hen
    have hn2 : n ≤ 200000 := by omega
    have cB : X.cell? ⟨Bm, 0, none⟩ = some (.map (some mb)) := kB.cell 0
    have cX0 : X.cell? ⟨Bx, 0, none⟩ = some (.int .i64 dx) := bX.cell 0
    have cX1 : X.cell? ⟨Bx, 1, none⟩ = some (.int .i64 dy) := bX.cell 1
    have cX2 : X.cell? ⟨Bx, 2, none⟩ = some (.int .i64 dk) := bX.cell 2
    clear hrY kK
    by_cases h3 : dk = 3
    · subst h3
      have hch : ((chr ⟨dx, dy, 3, di⟩).toNat : Int) = 111 := rfl
      rw [hch] at hsn
      replace hsn := Lib.hid hsn
      gi_wp2_with (first | (gi_at_mapUpdate; refine wpListIn_mapUpdate_own _ (by rfl) _ _ _ 107 (by rfl) 85 5 spotLaw Tryz.underlying107 _ mb (n + 1) D9 (by rfl) hO9 (by unfold maxLen; omega) _ _ (klS (dx, dy)) (by rfl) (by rfl) (keyOf_spot hfit) _ [] (plainElem_int Tryz.underlying5 (byte_wf (n := 111) (by omega) (by omega))) ?_; intro w10 hown10 hgrow10) | (gi_at_mapUpdate; refine wpListIn_mapUpdate_own _ (by rfl) _ _ _ 107 (by rfl) 85 5 spotLaw Tryz.underlying107 _ mb n D (by rfl) hown (by unfold maxLen; omega) _ _ (klS (dx, dy)) (by rfl) (by rfl) (keyOf_spot hfit) _ [] (plainElem_int Tryz.underlying5 (byte_wf (n := 35) (by omega) (by omega))) ?_; intro w9 hown9 hgrow9; have hM9 := MapB.store (W := X) hown.isMap hnd hfitE hkeys hfit hown9; have kB9 := kB.kept hgrow9 (fun e => by cases e; omega); have bX9 := bX.kept hgrow9 (fun e => by cases e; omega); have hsz9 := hgrow9.size; obtain ⟨D9, hO9, hnd9, hf9, hk9⟩ := hM9; have cB9 : w9.cell? ⟨Bm, 0, none⟩ = some (.map (some mb)) := kB9.cell 0; have d0 : w9.cell? ⟨Bx, 0, none⟩ = some (.int .i64 dx) := bX9.cell 0; have d1 : w9.cell? ⟨Bx, 1, none⟩ = some (.int .i64 dy) := bX9.cell 1; have d2 : w9.cell? ⟨Bx, 2, none⟩ = some (.int .i64 3) := bX9.cell 2) | gi_in)
      have hM10 := MapB.store (W := w9) hO9.isMap hnd9 hf9 hk9 hfit hown10
      rw [putE_twice] at hM10
      have hgA := hgrow9
      have hsz10 := hgrow10.size
      exact ⟨(KeepsFrom.of_grownBy hgrow9 (fun j e => by cases e; omega)).trans (KeepsFrom.of_grownBy hgrow10 (fun j e => by cases e; omega)), keepB_t (hKg hgrow9 hYW (fun r e => by cases e; exact .inl rfl) hne) (hKg hgrow10 (by omega) (fun r e => by cases e; exact .inl rfl) hne),
        ⟨⟨n + 2, by rw [List.length_append]; simp; omega, by rw [hsn.out]; exact hM10⟩, (kS.kept hgrow9 (fun e => by cases e; omega)).kept hgrow10 (fun e => by cases e; omega), kB9.kept hgrow10 (fun e => by cases e; omega), (hBel.grown hgrow9 hBel.size (fun k e => by cases e; omega)).grown hgrow10 (Nat.le_trans hBel.size hsz9) (fun k e => by cases e; omega)⟩, by omega⟩
    · have h3b : (dk == 3) = false := by simpa using h3
      have hch : ((chr ⟨dx, dy, dk, di⟩).toNat : Int) = 35 := by unfold chr; rw [if_neg h3]; rfl
      rw [hch] at hsn
      replace hsn := Lib.hid hsn
      gi_wp2_with (first | (gi_at_mapUpdate; refine wpListIn_mapUpdate_own _ (by rfl) _ _ _ 107 (by rfl) 85 5 spotLaw Tryz.underlying107 _ mb n D (by rfl) hown (by unfold maxLen; omega) _ _ (klS (dx, dy)) (by rfl) (by rfl) (keyOf_spot hfit) _ [] (plainElem_int Tryz.underlying5 (byte_wf (n := 35) (by omega) (by omega))) ?_; intro w9 hown9 hgrow9; have hM9 := MapB.store (W := X) hown.isMap hnd hfitE hkeys hfit hown9; have kB9 := kB.kept hgrow9 (fun e => by cases e; omega); have bX9 := bX.kept hgrow9 (fun e => by cases e; omega); have hsz9 := hgrow9.size; obtain ⟨D9, hO9, hnd9, hf9, hk9⟩ := hM9; have cB9 : w9.cell? ⟨Bm, 0, none⟩ = some (.map (some mb)) := kB9.cell 0; have d0 : w9.cell? ⟨Bx, 0, none⟩ = some (.int .i64 dx) := bX9.cell 0; have d1 : w9.cell? ⟨Bx, 1, none⟩ = some (.int .i64 dy) := bX9.cell 1; have d2 : w9.cell? ⟨Bx, 2, none⟩ = some (.int .i64 dk) := bX9.cell 2) | gi_in)
      exact ⟨KeepsFrom.of_grownBy hgrow9 (fun j e => by cases e; omega), hKg hgrow9 hYW (fun r e => by cases e; exact .inl rfl) hne,
        ⟨⟨n + 1, by rw [List.length_append]; simp; omega, by rw [hsn.out]; exact ⟨D9, hO9, hnd9, hf9, hk9⟩⟩, kS.kept hgrow9 (fun e => by cases e; omega), kB9, hBel.grown hgrow9 hBel.size (fun k e => by cases e; omega)⟩, by omega⟩
  case done =>
    rintro D1 ys W3 hD1 rfl ⟨hI, hYW⟩ hK1
    obtain ⟨⟨n, hn, hM⟩, kS, kB, hBel⟩ := hI
    rw [preE_all] at hM
    rw [upto_length] at hn
    have hll : (Lf.map (·.1)).length = Lf.length := List.length_map ..
    obtain ⟨L, hL⟩ : ∃ L, Lf.map (·.1) = L := ⟨_, rfl⟩
    rw [hL] at hM
    replace hL := Lib.hid hL
    clear hll hrY hKg hI0 kK
    have hD3 : D1 < W3.heap.size := (Array.getElem?_eq_some_iff.1 hK1).1
    have hDB : Bm < D1 := by omega
    clear hD1
    have d2 : W3.cell? ⟨w.heap.size, 3, none⟩ = some (.int .i64 (W : Nat)) := kS.cell 3
    have d3 : W3.cell? ⟨w.heap.size, 4, none⟩ = some (.int .i64 (H : Nat)) := kS.cell 4
    go_upto_region 11 with fail
    have hS0 : BS W3.heap.size [] W3 (W3.alloc (.cells #[.pointer none, .slice none 0 0] 113)) := ⟨.inl ⟨Nat.le_refl _, .slice none 0 0, Blk.new W3 #[.pointer none, .slice none 0 0] 113, ⟨rfl, .inl ⟨rfl, rfl⟩⟩, by simp [Value.ownBlock]⟩, (Below.refl _ _).alloc (Nat.le_refl _) _, by simp⟩
    obtain ⟨W4, hW4⟩ : ∃ W, W3.alloc (.cells #[.pointer none, .slice none 0 0] 113) = W := ⟨_, rfl⟩
    rw [hW4] at hS0 ⊢
    clear hW4
    obtain ⟨Bb, hBb⟩ : ∃ b, W3.heap.size = b := ⟨_, rfl⟩
    rw [hBb] at hS0 hD3 ⊢
    clear d2 d3
    have hsz3 := hBel.size
    go_loopw [9] (fun i wr => ∃ m : Nat, m ≤ H ∧ i = .int .i64 ((m : Int) - 1) ∧ BS Bb (rowTxt L W H (H - m)) W3 wr) (fun i _ => (intOf i + 1).toNat)
    case atStart => exact ⟨H, Nat.le_refl _, rfl, by simpa [rowTxt] using hS0⟩
    case round =>
      clear hS0
      obtain ⟨m, hm, rfl, hS⟩ := hrel
      by_cases hm0 : 0 < m
      · obtain ⟨k, rfl⟩ : ∃ k, m = k + 1 := ⟨m - 1, by omega⟩
        have hyI : (((k + 1 : Nat) : Int) - 1) = (k : Nat) := by omega
        rw [hyI]
        have hk0 : 0 ≤ (k : Int) := by omega
        have hnext : rowTxt L W H (H - k) = rowTxt L W H (H - (k + 1)) ++ (rowPart L k W ++ [10]) := by
          have e1 : H - k = (H - (k + 1)) + 1 := by omega
          have e2 : (H : Int) - 1 - (H - (k + 1) : Nat) = k := by omega
          rw [e1, rowTxt, e2]
        have hTl := rowTxt_le L (W := W) (H := H) (n := H - (k + 1)) (by omega) (by omega)
        obtain ⟨T, hT⟩ : ∃ T, rowTxt L W H (H - (k + 1)) = T := ⟨_, rfl⟩
        rw [hT] at hnext hS hTl
        replace hnext := Lib.hid hnext
        replace hTl := Lib.hid hTl
        clear hT
        have kS4 := kS.below hS.below (by rw [← hBb]; exact kS.lt)
        have d2 : wr.cell? ⟨w.heap.size, 3, none⟩ = some (.int .i64 (W : Nat)) := kS4.cell 3
        go_wp2_with fail
        go_loopw [45] (fun i wx => ∃ n : Nat, n ≤ W ∧ i = .int .i64 (n : Nat) ∧ BS Bb (T ++ rowPart L k n) W3 wx) (fun i _ => W - (intOf i).toNat)
        case atStart => exact ⟨0, Nat.zero_le _, rfl, by simpa [rowPart] using hS⟩
        case round =>
          clear hS kS4 d2
          obtain ⟨q, hq, rfl, hS⟩ := hrel
          by_cases hqW : q < W
          · have hqI : (q : Int) < (W : Int) := by omega
            have hps := rowPart_succ L k q
            have hby := rowE_byte L q k
            have hfq : FitS ((q : Int), (k : Int)) := ⟨⟨by show _ ≤ (q : Int); omega, by show (q : Int) ≤ _; omega⟩, by show _ ≤ (k : Int); omega, by show (k : Int) ≤ _; omega⟩
            have hM4 := hM.below hS.below (by rw [← hBb]; exact hM.lt)
            have kB4 := kB.below hS.below (by rw [← hBb]; exact kB.lt)
            have cB : wr.cell? ⟨Bm, 0, none⟩ = some (.map (some mb)) := kB4.cell 0
            obtain ⟨D, hown, hnd, hfitE, hkeys⟩ := hM4
            obtain ⟨hk1, hk2⟩ := hkeys (q, k) hfq
            obtain ⟨b2, hb2⟩ : ∃ b, hasK (rowE L) (q, k) = b := ⟨_, rfl⟩
            obtain ⟨o, ho⟩ : ∃ o, (idOf (rowE L) (q, k)).getD 0 = o := ⟨_, rfl⟩
            rw [hb2] at hk1 hby
            rw [ho] at hk2 hby
            obtain ⟨u, hu⟩ : ∃ u, rowC L q k = u := ⟨_, rfl⟩
            rw [hu] at hby hps
            obtain ⟨T2, hT2⟩ : ∃ T2, T ++ rowPart L k q = T2 := ⟨_, rfl⟩
            have hps2 := Lib.hid (show T ++ rowPart L k (q + 1) = T2 ++ [u] by rw [hps, ← List.append_assoc, hT2])
            have hT2l : T2.length ≤ 100000 := by rw [← hT2, List.length_append, rowPart_len]; have := hTl.out; omega
            rw [hT2] at hS
            replace hk2 := Lib.hid hk2
            clear hkeys hps hT2 hb2 ho hu
            cases b2 with
            | false =>
              simp only [Bool.false_eq_true, if_false] at hby
              replace hby := Lib.hid hby
              go_wp2_with (first | (at_lookup; refine wpList_lookup_own_ok_int _ (by rfl) _ _ 107 (by rfl) 85 5 .u8 spotLaw Tryz.underlying107 Tryz.underlying5 (zeroByte _) mb n D (by rfl) hown (spotV (q, k)) (klS (q, k)) (by rfl) (keyOf_spot hfq) ?_; intro c hat hwc; obtain rfl : c = o := (by rw [hk2.out] at hat; simpa using hat.symm); clear hat hwc; go_frame) | (go_at_call 54; refine (hS.byte u 46 hby.out.symm hT2l).mono ?_; rintro e w6 ⟨rfl, hS6⟩) | fail)
              go_roundw
              case rel => exact ⟨q + 1, by omega, by go_num, by rw [hps2.out]; exact hS6⟩
              case measure => simp [intOf]; try omega
            | true =>
              simp only [if_true] at hby
              replace hby := Lib.hid hby
              go_wp2_with (first | (at_lookup; refine wpList_lookup_own_ok_int _ (by rfl) _ _ 107 (by rfl) 85 5 .u8 spotLaw Tryz.underlying107 Tryz.underlying5 (zeroByte _) mb n D (by rfl) hown (spotV (q, k)) (klS (q, k)) (by rfl) (keyOf_spot hfq) ?_; intro c hat hwc; obtain rfl : c = o := (by rw [hk2.out] at hat; simpa using hat.symm); clear hat hwc; go_frame) | (go_at_call 54; refine (hS.byte u _ hby.out.symm hT2l).mono ?_; rintro e w6 ⟨rfl, hS6⟩) | fail)
              go_roundw
              case rel => exact ⟨q + 1, by omega, by go_num, by rw [hps2.out]; exact hS6⟩
              case measure => simp [intOf]; try omega
          · obtain rfl : q = W := by omega
            have hTp : (T ++ rowPart L k q).length ≤ 100000 := by rw [List.length_append, rowPart_len]; have := hTl.out; omega
            go_wp2_with (first | (go_at_call 54; refine (hS.byte 10 10 rfl hTp).mono ?_; rintro e w6 ⟨rfl, hS6⟩) | fail)
            go_roundw
            case rel => exact ⟨k, by omega, by go_num, by rw [hnext.out, ← List.append_assoc]; exact hS6⟩
            case measure => simp [intOf]; try omega
      · obtain rfl : m = 0 := by omega
        rw [Nat.sub_zero] at hS
        go_wp2_with (first | (go_at_call 55; refine (Tryz.Builder_String_any_k Bb Bb (rowTxt L W H H) _ hS.bld hS.le).mono ?_; rintro e w7 ⟨rfl, hI7, hb7, ho7⟩) | fail)
        have hb37 : Below Bb W3 w7 := hS.below.trans hb7
        have hmk : Marks Bm [D1] w7 := ⟨fun D hD => by
          obtain rfl : D = D1 := by simpa using hD
          exact (hb37.block D hD3).trans hK1, fun D hD => by
          obtain rfl : D = D1 := by simpa using hD
          exact hDB, by simp⟩
        refine leaves_marks (Bm := Bm) (fun W => Below w.heap.size w W) ?_ ?_ [D1] w7 hmk (hBel.trans (hb37.mono (by omega)))
        · rintro X D k2 hBD hD
          exact k2.grown (grownBy_putObj' X D (.deferred none)) k2.size (fun k e => by cases e; omega)
        · rintro X k2
          exact ⟨_, results_tmp rfl _ _ _, by rw [hL.out]; rfl, k2⟩
end Go.Proofs.YtjfdbigkbgolmaaGreatDoor
