/-
  Chapter 29: slices.SortedFunc over maps.Keys; ordered: a map's dots in their order, with their numbers.
-/
import Derived.Test.YtjfdbigkbgolmaaGreatDoorZv
import Derived.Deep.RegionLaw
import Derived.Deep.DrawnRows
namespace Go.Proofs.YtjfdbigkbgolmaaGreatDoor
set_option linter.unusedVariables false
set_option linter.unusedSimpArgs false
open Go.RowKit Go.Shelf Go.Sort Go.Lib Go.Maps
attribute [local go_sem] Oper.semAt_some
attribute [local go_sem ↓] Go.wp_at_zero Go.wp_at_succ

set_option maxHeartbeats 1000000 in
theorem sortedFunc_any (Bm b nn : Nat) (en : List (Spot × Int)) (w : World) (hBm : Bm < w.heap.size) (hm : w.cell? ⟨Bm, 0, none⟩ = some (.map (some b))) (hM : MapIs w b nn en) (hnn : nn ≤ 4294967296) (hne : en ≠ []) (hlen : en.length ≤ 4294967296) :
    Calls Tryz.prog 77 #[.func (.func 108) #[] #[.pointer (some ⟨Bm, 0, none⟩)], .func (.func 79) #[] #[]] w fun e w' => ∃ v, e = .returned v ∧ RowS w.heap.size w' v (keysS en) ∧ Below w.heap.size w w' := by
  have eg : ∀ args w, (callFunc 108 args).run Tryz.prog w = .ok (.enter 108 args) w := enters_of Tryz.func108 (by kernel_rfl) rfl
  have hnd : (en.map (·.1)).Nodup := by obtain ⟨D, _, h, _⟩ := hM; exact h
  have hcol := (callsIn_wide (n := 3)).1 (collect_in _ 3 trivial trivial rfl (Nat.le_refl _) 108 #[.pointer (some ⟨Bm, 0, none⟩)] trivial eg _ _ nn hnn w (keys_stops _ 1 trivial rfl (Nat.le_refl _) Bm b nn en w hBm hm hM))
  go_enter Tryz.func77, Tryz.ntmps77
  go_wp2_with (go_at_call 106; refine hcol.mono ?_; rintro e w1 ⟨v, ss, rfl, ⟨hs1, hs2⟩, hrow, hnl, hb1⟩)
  clear hcol
  have hp := keysS_perm hnd hs1 hs2
  have hl := hp.length_eq
  rw [keysS_length] at hl
  have hss : ss ≠ [] := fun e => by
    rw [e] at hl
    exact hne (List.eq_nil_of_length_eq_zero hl.symm)
  clear hs1 hs2 hnl
  have hsf := sortFunc_any w.heap.size v ss en w1 hrow hss hp (by omega)
  go_wp2_with (go_at_call 107; refine hsf.mono ?_; rintro e w2 ⟨rfl, hr2, hb2⟩)
  go_ret
  exact ⟨v, rfl, hr2, hb1.trans hb2⟩

/-- a raised dot -/
structure Dt where
  x : Int
  y : Int
  k : Int
  i : Int
deriving DecidableEq
abbrev encD (d : Dt) : List Value := [.int .i64 d.x, .int .i64 d.y, .int .i64 d.k, .int .i64 d.i]
def dotsS (kind : Int) (en : List (Spot × Int)) : List Dt := (keysS en).map fun p => ⟨p.1, p.2, kind, (idOf en p).getD 0⟩
theorem dotsS_length (kind : Int) (en : List (Spot × Int)) : (dotsS kind en).length = en.length := by unfold dotsS; rw [List.length_map, keysS_length]
theorem dotInfo : (Tryz.prog.info? 59).map (fun i => (i.zero, i.size, i.bytes)) = some (some (.agg #[.int .i64 0, .int .i64 0, .int .i64 0, .int .i64 0]), 4, 32) := by kernel_rfl

/-- a look-up, as a run -/
theorem MapIs.look {W : World} {b n : Nat} {en : List (Spot × Int)} (h : MapIs W b n en) {p : Spot} (hp : FitS p) :
    (Instr.lookup 80 (.map (some b)) (spotV p) false).run Tryz.prog W = .ok (.int .i64 ((idOf en p).getD 0)) W := by
  obtain ⟨D, ho, -, -, hk⟩ := h
  obtain ⟨c, hrun, hat, -⟩ := ho.lookup_int spotLaw Tryz.underlying80 Tryz.underlying3 (zeroInt _) (keyOf_spot hp)
  rw [(hk p hp).2] at hat
  simp at hat
  rw [hrun, hat]
theorem MapIs.grow {W : World} {b n : Nat} {en : List (Spot × Int)} (h : MapIs W b n en) (p : Growth) : MapIs (W.growBy p) b n en := h.kept (grownBy_growBy W p) (by simp)

theorem RowS.cons {n₀ : Nat} {W : World} {v : Value} {ss : List Spot} (h : RowS n₀ W v ss) (hne : ss ≠ []) : ∃ g cap, v = .slice (some ⟨g, 0, none⟩) ss.length cap ∧ n₀ ≤ g ∧ g < W.heap.size ∧ ∀ j, (h : j < ss.length) → W.cell? ⟨g, j * 2, none⟩ = some (.int .i64 ss[j].1) ∧ W.cell? ⟨g, j * 2 + 1, none⟩ = some (.int .i64 ss[j].2) := by
  rcases h with ⟨_, h⟩ | h
  · exact absurd h hne
  · exact h
theorem keysS_ne {en : List (Spot × Int)} (h : en ≠ []) : keysS en ≠ [] := fun e => h (List.eq_nil_of_length_eq_zero (by rw [← keysS_length, e]; rfl))

set_option maxRecDepth 100000 in
set_option maxHeartbeats 4000000 in
theorem ordered_any (kind : Int) (b nn : Nat) (en : List (Spot × Int)) (w : World) (hM : MapIs w b nn en) (hnn : nn ≤ 4294967296) (hne : en ≠ []) (hlen : en.length ≤ 8388608) :
    Calls Tryz.prog 34 #[.map (some b), .int .i64 kind] w fun e w' => ∃ v base, e = .returned v ∧ w.heap.size ≤ base ∧ w'.ownsRow base 59 4 v (dotsS kind en).length ((dotsS kind en).flatMap encD) ∧ Below w.heap.size w w' := by
  obtain ⟨i0, hi0, hz0, hz1, hz2⟩ := info_parts dotInfo
  have hb := hM.lt
  have hkeys := fun mb W => (callsIn_wide (n := 1)).1 (keys_in _ 1 trivial rfl mb W)
  have hsf := sortedFunc_any w.heap.size b nn en (w.alloc (.cells #[.map (some b)] 80)) (by simp) (by simp) (hM.alloc _) hnn hne (by omega)
  simp only [World.size_alloc] at hsf
  go_enter Tryz.func34, Tryz.ntmps34
  go_wp2_with (first | (go_at_call 78; refine (hkeys _ _).mono ?_; rintro e w1 ⟨rfl, rfl⟩) | (go_at_call 77; refine hsf.mono ?_; rintro e w2 ⟨v, rfl, hr2, hb2⟩; obtain ⟨g, cap, rfl, hg0, hg1, hcs⟩ := hr2.cons (keysS_ne hne)))
  clear hsf hkeys
  have hB2 : RowKit.Below w.heap.size w w2 := Below.trans (b := w.alloc (.cells #[.map (some b)] 80)) (by repeat' (first | with_reducible exact Below.refl _ _ | with_reducible exact Nat.le_refl _ | with_reducible assumption | with_reducible refine Go.below_growBy' ?_ ?_ _ | with_reducible refine Below.alloc ?_ ?_ _ | with_reducible refine Below.setCell ?_ ?_ _ | with_reducible refine Below.drew ?_ | with_reducible refine Go.le_alloc ?_ | with_reducible refine Go.le_growBy ?_ | with_reducible refine Go.le_setCell ?_ | with_reducible refine Go.le_drew ?_ | omega | (dsimp only; omega))) (hb2.mono (by repeat' (first | with_reducible exact Below.refl _ _ | with_reducible exact Nat.le_refl _ | with_reducible assumption | with_reducible refine Go.below_growBy' ?_ ?_ _ | with_reducible refine Below.alloc ?_ ?_ _ | with_reducible refine Below.setCell ?_ ?_ _ | with_reducible refine Below.drew ?_ | with_reducible refine Go.le_alloc ?_ | with_reducible refine Go.le_growBy ?_ | with_reducible refine Go.le_setCell ?_ | with_reducible refine Go.le_drew ?_ | omega | (dsimp only; omega))))
  have hM2 := hM.below hB2 hb
  have hs2 := hB2.size
  have hfit : ∀ e ∈ en, FitS e.1 := by obtain ⟨D, _, _, h, _⟩ := hM; exact h
  have hkl := Lib.hid (keysS_length en)
  have hkb : (keysS en).length ≤ 8388608 := by rw [hkl.out]; exact hlen
  have hfk : ∀ p ∈ keysS en, FitS p := fun p hp => by
    have := (List.mergeSort_perm _ _).mem_iff.1 hp
    obtain ⟨e, he, rfl⟩ := List.mem_map.1 this
    exact hfit e he
  clear hb2 hM hfit
  go_loopw [4, 13] (fun u i wr => ∃ (k : Nat) (v : Value), k ≤ (keysS en).length ∧ u = v ∧ i = .int .i64 k ∧ wr.ownsRow w2.heap.size 59 4 v k (((dotsS kind en).take k).flatMap encD) ∧ RowKit.Below w2.heap.size w2 wr)
    (fun _ i _ => (keysS en).length - (intOf i).toNat)
  case atStart => exact ⟨0, _, Nat.zero_le _, rfl, rfl, ⟨by simp, .inl ⟨rfl, rfl⟩⟩, Below.refl _ _⟩
  case round =>
    obtain ⟨k, v, hk, rfl, rfl, hrow, hnx⟩ := hrel
    have hsw := hnx.size
    by_cases hlt : k < (keysS en).length
    · have hltI : (k : Int) < ((keysS en).length : Int) := by omega
      obtain ⟨c0, c1⟩ := hcs k hlt
      have c0 := (hnx.cell (p := ⟨g, k * 2, none⟩) hg1).trans c0
      have c1 := (hnx.cell (p := ⟨g, k * 2 + 1, none⟩) hg1).trans c1
      have hpk := hfk _ (List.getElem_mem hlt)
      have hd : (dotsS kind en)[k]? = some ⟨(keysS en)[k].1, (keysS en)[k].2, kind, (idOf en (keysS en)[k]).getD 0⟩ := by
        unfold dotsS
        rw [List.getElem?_map, List.getElem?_eq_getElem hlt]
        rfl
      generalize hp : (keysS en)[k] = p at c0 c1 hpk hd
      clear hp
      obtain ⟨px, py⟩ := p
      simp only at c0 c1 hd
      obtain ⟨id, hid⟩ : ∃ id, (idOf en (px, py)).getD 0 = id := ⟨_, rfl⟩
      rw [hid] at hd
      have hw1 := hM2.below hnx hM2.lt
      go_wp2_with fail
      obtain ⟨W, hW⟩ : ∃ W, wr.alloc (.cells #[.int .i64 px, .int .i64 py] 85) = W := ⟨_, rfl⟩
      have bX : Blk W wr.heap.size #[.int .i64 px, .int .i64 py] 85 := by rw [← hW]; exact Blk.new wr _ _
      have hrowW : W.ownsRow w2.heap.size 59 4 u4 k (((dotsS kind en).take k).flatMap encD) := by rw [← hW]; exact hrow.alloc _
      have hMW : MapIs W b nn en := by rw [← hW]; exact hw1.alloc _
      have hnW : RowKit.Below w2.heap.size w2 W := by rw [← hW]; exact hnx.alloc hsw _
      have hsW := hnW.size
      have hlk : (Instr.lookup 80 (.map (some b)) (.agg #[.int .i64 px, .int .i64 py]) false).run Tryz.prog W.drew = .ok (.int .i64 id) W.drew := by
        have := (show MapIs W.drew b nn en from hMW).look hpk
        rw [hid] at this
        exact this
      have hrowD : W.drew.ownsRow w2.heap.size 59 4 u4 k (((dotsS kind en).take k).flatMap encD) := hrowW
      have hnD : RowKit.Below w2.heap.size w2 W.drew := hnW.drew
      have hsD : W.drew.heap.size = W.heap.size := rfl
      have x0 : W.drew.cell? ⟨wr.heap.size, 0, none⟩ = some (.int .i64 px) := bX.cell 0
      have x1 : W.drew.cell? ⟨wr.heap.size, 1, none⟩ = some (.int .i64 py) := bX.cell 1
      rw [hW]
      clear hW hrow hw1 c0 c1
      generalize wr.heap.size = Bx at *
      go_region_law (refine step_append_lies _ (by rfl) _ _ _ (by rfl) w2.heap.size 59 i0 _ 4 32 Tryz.underlying42 hi0 hz0 hz1 hz2 rfl (by omega) u4 k _ (by rfl) (hrowD.alloc _) _ 1 1 _ (by rfl) ?_ (World.news_of_block (heap_alloc_new _ _)) (by simp [Value.oneCell']) (by omega) (by unfold maxLen; omega) (by omega) (by simp; omega) _ rfl ?_; rfl; intro g2 cap2 w3 hown3 hgrow3 hat3 hlt3)
      all_goals
        clear hlk hrowD x0 x1
        have hB3 : RowKit.Below w2.heap.size w2 w3 := by
          exact ((hnW.alloc hsW (.cells #[.int .i64 px, .int .i64 py, .int .i64 kind, .int .i64 id] 59)).drew).grown hgrow3 (by show w2.heap.size ≤ (W.alloc _).heap.size; simp; omega) (fun r e => (hrowW.lt r e).1)
        have htk : ((dotsS kind en).take (k + 1)).flatMap encD = ((dotsS kind en).take k).flatMap encD ++ encD ⟨px, py, kind, id⟩ := by
          rw [List.take_add_one, hd]
          simp [List.flatMap_append]
        go_wp2_with fail
        go_roundw
        case rel => exact ⟨k + 1, _, by omega, rfl, by go_num, by rw [htk]; exact hown3, hB3⟩
        case measure => simp [intOf]; omega
    · obtain rfl : k = (keysS en).length := by omega
      go_wp2_with fail
      go_ret
      refine ⟨u4, w2.heap.size, rfl, hs2, ?_, hB2.trans (hnx.mono hs2)⟩
      have hl : (dotsS kind en).length = (keysS en).length := by rw [dotsS_length, hkl.out]
      rw [hl]
      rw [← hl, List.take_length, hl] at hrow
      exact hrow
end Go.Proofs.YtjfdbigkbgolmaaGreatDoor
