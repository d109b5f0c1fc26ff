/-
  Chapter 10's made maps: Made: it returns a map that is well laid.
-/
import Derived.Test.YtjfdbigkbgolmaaGreatDoorZP
import Derived.Test.YtjfdbigkbgolmaaGreatDoorZO
import Derived.Test.YtjfdbigkbgolmaaGreatDoorZY

namespace Go.Proofs.YtjfdbigkbgolmaaGreatDoor
set_option linter.unusedVariables false
set_option linter.unusedSimpArgs false
open Go.RowKit Go.Shelf
attribute [local go_sem] Oper.semAt_some
attribute [local go_sem ↓] Go.wp_at_zero Go.wp_at_succ

theorem Mat.take {n₀ : Nat} {W : World} {a : Option Addr} {cap : Nat} {rows : List (Value × List Int)} (h : Mat n₀ W (.slice a rows.length cap) rows) (m : Nat) (hm : m ≤ rows.length) : Mat n₀ W (.slice a m cap) (rows.take m) := by
  obtain ⟨a', cap', e, hc, hr⟩ := h
  cases e
  refine ⟨a, cap, by rw [List.length_take, Nat.min_eq_left hm], by rw [List.length_take]; omega, fun j hj => ?_⟩
  rw [List.length_take] at hj
  rw [List.getElem_take]
  exact hr j (by omega)
def partV (rows : List (Value × List Int)) (k : Nat) : Value := ((rows[k]?).map (·.1)).getD (.slice none 0 0)
def partX (rows : List (Value × List Int)) (k : Nat) : List Int := ((rows[k]?).map (·.2)).getD []
theorem partV_ints {n₀ : Nat} {w : World} {lv : Value} {rows : List (Value × List Int)} (hM : Mat n₀ w lv rows) (k : Nat) : Intz n₀ w (partV rows k) (partX rows k) := by
  obtain ⟨a, cap, rfl, hc, hrow⟩ := hM
  unfold partV partX
  by_cases h : k < rows.length
  · obtain ⟨b, off, rfl, hb, c0, hi⟩ := hrow k h
    rw [List.getElem?_eq_getElem h]
    exact hi
  · rw [List.getElem?_eq_none (by omega)]
    exact Intz.nil _ _
theorem part_eq (n₀ : Nat) (w : World) (lv : Value) (rows : List (Value × List Int)) (hM : Mat n₀ w lv rows) (k : Nat) :
    Calls Tryz.prog 24 #[lv, .int .i64 (k : Nat)] w fun e w' => e = .returned (partV rows k) ∧ w = w' := by
  obtain ⟨a, cap, rfl, hc, hrow⟩ := hM
  go_enter Tryz.func24, Tryz.ntmps24
  by_cases h : k < rows.length
  · obtain ⟨b, off, rfl, hb, c0, hi⟩ := hrow k h
    have hle : ¬ (rows.length : Int) ≤ (k : Int) := by omega
    have hlt : (k : Int) < (rows.length : Int) := by omega
    have hv : partV rows k = rows[k].1 := by unfold partV; rw [List.getElem?_eq_getElem h]; rfl
    rw [hv]
    obtain ⟨row, hrw⟩ : ∃ r, rows[k].1 = r := ⟨_, rfl⟩
    rw [hrw] at c0
    rw [hrw]
    clear hrow hrw hi hv
    go_wp2_with fail
    go_ret
    exact ⟨rfl, rfl⟩
  · have hle : (rows.length : Int) ≤ (k : Int) := by omega
    have hv : partV rows k = .slice none 0 0 := by unfold partV; rw [List.getElem?_eq_none (by omega)]; rfl
    rw [hv]
    clear hrow hv
    go_wp2_with fail
    go_ret
    exact ⟨rfl, rfl⟩
theorem DY.low {D : Nat} {sv : Value} {xs : List Int} {w W : World} {S : BS} {L : OwnL} {T : SlL} (h : DY w.heap.size D sv xs noB w S W L T) : Below w.heap.size w W :=
  h.st.ev.below (fun _ h => h.elim) (fun b hb => by cases hb; exact h.td.le) (Nat.le_refl _)
abbrev mapZ : Array Value := #[.slice none 0 0, .slice none 0 0, .slice none 0 0, .slice none 0 0]
set_option maxRecDepth 100000 in
set_option maxHeartbeats 8000000 in
theorem made10_any (lv : Value) (rows : List (Value × List Int)) (w : World) (hM : Mat w.heap.size w lv rows) :
    Calls Tryz.prog 7 #[lv] w fun e w' => ∃ S' ev fv wv pv, e = .returned (.agg #[ev, fv, wv, pv]) ∧ ((∃ n, SL S' w' 156 ev n ∧ n ≤ 30) ∧ (∃ n, SL S' w' 73 fv n ∧ n ≤ 200) ∧ (∃ n, SL S' w' 62 wv n ∧ n ≤ 100) ∧ ∃ n, SL S' w' 27 pv n ∧ n ≤ 6) ∧ Ev noB noB w S' w' := by
  have hM0 := hM
  obtain ⟨la, lcap, rfl, hlc, -⟩ := hM
  obtain ⟨m, hm⟩ : ∃ m, min rows.length 3 = m := ⟨_, rfl⟩
  have hmI : min (rows.length : Int) 3 = (m : Nat) := by omega
  have hm0 : 0 ≤ (m : Int) := by omega
  have hmc : (m : Int) ≤ (lcap : Int) := by omega
  have hmn : m ≤ lcap := by omega
  have ho := ((OW.init (TW.none w)).box mapZ 39).box mapZ 39
  have hb1 := ho.low
  have hM1 := ((hM0.below hb1).mono hb1.size).take m (by omega)
  simp only [World.size_alloc] at ho
  replace hm := Lib.hid hm
  go_enter Tryz.func7, Tryz.ntmps7
  go_upto_region 2 with fail
  refine wp_world (fun W1 hW1 => ?_)
  rw [← hW1] at ho hM1
  obtain ⟨B2, hB2⟩ : ∃ b, w.heap.size = b := ⟨_, rfl⟩
  obtain ⟨B3, hB3⟩ : ∃ b, w.heap.size + 1 = b := ⟨_, rfl⟩
  rw [hB3, hB2] at ho
  rw [hB3, hB2]
  have hl2 : w.heap.size ≤ B2 := by omega
  clear hW1 hB2 hB3 hb1
  go_upto_region 3 with (first
    | (go_at_call 23; (with_reducible refine (made7_any _ _ W1 hM1).mono ?_); rintro e W2 ⟨S1, ev, fv, rfl, ⟨ne, nf, hse, hne, hsf, hnf⟩, hev2⟩; obtain ⟨ea, ec, rfl, -⟩ := hse.form; obtain ⟨fa, fc, rfl, -⟩ := hsf.form; have ho2 := ((ho.evo hev2).add hse).add hsf; obtain ⟨z0, z1, z2, z3⟩ := cellsM4 ho2.b0; have zf0 := ho2.b0.frozen 0; have zf1 := ho2.b0.frozen 1)
    | fail)
  refine wp_world (fun W3 hW3 => ?_)
  have ho3 : OW noB w S1 W3 [(B3, mapC (.slice ea ne ec) (.slice fa nf fc) (.slice none 0 0) (.slice none 0 0), 39), (B2, mapZ, 39)] [(73, .slice fa nf fc, nf), (156, .slice ea ne ec, ne)] := by
    rw [hW3]
    exact (ho2.set 0 _ rfl).set 1 _ rfl
  clear ho ho2 hW3 z0 z1 z2 z3 zf0 zf1 hM1 hev2 hse hsf
  have hi3 := partV_ints (hM0.below ho3.low) 3
  have hp3 : Calls Tryz.prog 24 #[.slice la rows.length lcap, .int .i64 3] W3 fun e w' => e = .returned (partV rows 3) ∧ W3 = w' := part_eq _ W3 _ rows (hM0.below ho3.low) 3
  obtain ⟨v3, hv3⟩ : ∃ v, partV rows 3 = v := ⟨_, rfl⟩
  obtain ⟨x3, hx3⟩ : ∃ v, partX rows 3 = v := ⟨_, rfl⟩
  rw [hv3] at hi3 hp3
  rw [hx3] at hi3
  obtain ⟨sa, sc, rfl⟩ : ∃ a c, v3 = .slice a x3.length c := by
    obtain ⟨⟨a, c, e, -⟩, -⟩ := hi3
    exact ⟨a, c, e⟩
  clear hv3 hx3
  have hd := ho3.draw ho3.lows (Nat.le_refl _) hi3
  go_upto_region 4 with (first
    | (go_at_call 24; (with_reducible refine hp3.mono ?_); rintro e W' ⟨rfl, rfl⟩)
    | fail)
  refine wp_world (fun W4 hW4 => ?_)
  rw [← hW4] at hd
  have hDl : w.heap.size ≤ W3.heap.size := ho3.low.size
  obtain ⟨D, hD⟩ : ∃ b, W3.heap.size = b := ⟨_, rfl⟩
  obtain ⟨sv, hsv⟩ : ∃ v, Value.slice sa x3.length sc = v := ⟨_, rfl⟩
  rw [hD, hsv] at hd
  rw [hD] at hDl
  rw [hD, hsv]
  clear hp3 hi3 ho3 hW4 hD hsv
  go_wp2_with fail
  go_loopw [5] (fun kk wr => ∃ k : Nat, k ≤ nf ∧ kk = .int .i64 (k : Nat) ∧ DY w.heap.size D sv x3 noB w S1 wr [(B3, mapC (.slice ea ne ec) (.slice fa nf fc) (.slice none 0 0) (.slice none 0 0), 39), (B2, mapZ, 39)] [(73, .slice fa nf fc, nf), (156, .slice ea ne ec, ne)]) (fun kk _ => nf - (intOf kk).toNat)
  case atStart => exact ⟨0, Nat.zero_le _, rfl, hd⟩
  case round =>
    clear hd
    obtain ⟨k, hk, rfl, hd⟩ := hrel
    by_cases hlt : k < nf
    · have hltI : (k : Int) < (nf : Int) := by omega
      obtain ⟨b, off, cap', hab, -, -⟩ := hd.s0.some_ (by omega)
      simp only [Value.slice.injEq, true_and] at hab
      obtain ⟨rfl, rfl⟩ := hab
      obtain ⟨m0, m1, m2, m3⟩ := cellsM4 hd.b0
      go_upto_region 8 with fail
      clear m0 m1 m2 m3
      have st1 : Strs #[.string ⟨#[102, 105, 101, 108, 100]⟩, .string ⟨#[119, 111, 111, 100]⟩, .string ⟨#[108, 97, 107, 101]⟩] := strs_of [⟨#[102, 105, 101, 108, 100]⟩, ⟨#[119, 111, 111, 100]⟩, ⟨#[108, 97, 107, 101]⟩] (by decide)
      go_upto_region 9 with (first
        | (go_at_call 22; (with_reducible refine ((hd.box _ _).call 3 (by omega) (by omega)).mono ?_); rintro e Wb ⟨q, rfl, q0, q1, hb⟩; obtain ⟨q, rfl⟩ := Int.eq_ofNat_of_zero_le q0; obtain ⟨s1, cs1, hs1⟩ := st1.at_ hb.b0 (q := q) (by simp; omega); have hdB := hb.tail; obtain ⟨u, cu, -⟩ := SL.cell hdB.tw et_face hdB.s0 hlt 1 .str rfl; obtain ⟨hst, zf⟩ := SL.store (X := noB) hdB.tw et_face hdB.s0 k 1 .str rfl (.string s1) (CT.ok_str hs1))
        | fail)
      refine wp_world (fun WC hWC => ?_)
      have hdC := hdB.evo hst
      rw [← hWC] at hdC
      clear hd hdB hb hWC zf cs1 st1 cu hst
      have st2 : Strs #[.string ⟨#[]⟩, .string ⟨#[]⟩, .string ⟨#[]⟩, .string ⟨#[77, 111, 111, 114]⟩, .string ⟨#[72, 111, 108, 109]⟩, .string ⟨#[78, 111, 114, 116, 104, 32, 77, 111, 111, 114]⟩] := strs_of [⟨#[]⟩, ⟨#[]⟩, ⟨#[]⟩, ⟨#[77, 111, 111, 114]⟩, ⟨#[72, 111, 108, 109]⟩, ⟨#[78, 111, 114, 116, 104, 32, 77, 111, 111, 114]⟩] (by decide)
      go_upto_region 10 with (first
        | (go_at_call 22; (with_reducible refine ((hdC.box _ _).call 6 (by omega) (by omega)).mono ?_); rintro e Wd ⟨q', rfl, q'0, q'1, hb⟩; obtain ⟨q', rfl⟩ := Int.eq_ofNat_of_zero_le q'0; obtain ⟨s2, cs2, hs2⟩ := st2.at_ hb.b0 (q := q') (by simp; omega); have hdD := hb.tail; obtain ⟨u', cu, -⟩ := SL.cell hdD.tw et_face hdD.s0 hlt 2 .str rfl; obtain ⟨hst, zf⟩ := SL.store (X := noB) hdD.tw et_face hdD.s0 k 2 .str rfl (.string s2) (CT.ok_str hs2))
        | fail)
      refine wp_world (fun WE hWE => ?_)
      have hdE := hdD.evo hst
      rw [← hWE] at hdE
      clear hdC hdD hb hWE zf cs2 st2 cu hst
      go_upto_region 11 with (first
        | (go_at_call 22; (with_reducible refine (hdE.call 60 (by omega) (by omega)).mono ?_); rintro e Wf ⟨t, rfl, t0, t1, hdF⟩; obtain ⟨u2, cu, -⟩ := SL.cell hdF.tw et_face hdF.s0 hlt 3 .int rfl; obtain ⟨hst, zf⟩ := SL.store (X := noB) hdF.tw et_face hdF.s0 k 3 .int rfl (.int .i64 (1 + t)) (CT.ok_int ⟨by omega, by omega⟩))
        | fail)
      refine wp_world (fun WG hWG => ?_)
      have hdG := hdF.evo hst
      rw [← hWG] at hdG
      clear hdE hdF hWG zf cu hst
      go_upto_region 6 with (first
        | (go_at_call 22; (with_reducible refine (hdG.call 4 (by omega) (by omega)).mono ?_); rintro e Wh ⟨x, rfl, x0, x1, hdH⟩)
        | (go_at_call 22; (with_reducible refine (hdH.call 2 (by omega) (by omega)).mono ?_); rintro e Wi ⟨y, rfl, y0, y1, hdI⟩; obtain ⟨u3, cu, -⟩ := SL.cell hdI.tw et_face hdI.s0 hlt 4 .int rfl; obtain ⟨-, zf⟩ := SL.store (X := noB) hdI.tw et_face hdI.s0 k 4 .int rfl (.int .i64 0) (CT.ok_int ⟨by decide, by decide⟩))
        | fail)
      refine wp_world (fun WJ hWJ => ?_)
      have hdJ : DY w.heap.size D sv x3 noB w S1 WJ [(B3, mapC (.slice ea ne ec) (.slice (some ⟨b, off, none⟩) nf fc) (.slice none 0 0) (.slice none 0 0), 39), (B2, mapZ, 39)] [(73, .slice (some ⟨b, off, none⟩) nf fc, nf), (156, .slice ea ne ec, ne)] := by
        rw [hWJ]
        exact hdI.evo (SL.store (X := noB) hdI.tw et_face hdI.s0 k 4 .int rfl _ (CT.ok_int (by first | with_reducible exact fits_w64 _ | with_reducible exact fits_wrap _ | with_reducible assumption | exact ⟨by omega, by omega⟩))).1
      clear hdG hdH hdI hWJ zf cu
      go_wp2_with fail
      go_roundw
      case rel => exact ⟨k + 1, by omega, by go_num, hdJ⟩
      case measure => simp [intOf]; omega
    · have hge : ¬ (k : Int) < (nf : Int) := by omega
      obtain ⟨m0, m1, m2, m3⟩ := cellsM4 hd.b0
      have ho := hd.ow (TW.none w) hDl
      go_upto_region 12 with fail
      clear hd m0 m1 m2 m3 hlt hge
      have hi4 := partV_ints (hM0.below ho.low) 4
      have hp4 : Calls Tryz.prog 24 #[.slice la rows.length lcap, .int .i64 4] wr fun e w' => e = .returned (partV rows 4) ∧ wr = w' := part_eq _ wr _ rows (hM0.below ho.low) 4
      go_upto_region 13 with (first
        | (go_at_call 24; (with_reducible refine hp4.mono ?_); rintro e W' ⟨rfl, rfl⟩)
        | (go_at_call 25; (with_reducible refine (ways10_any _ S1 wr ho.tw ho.lows ho.low.size _ _ hi4).mono ?_); rintro e W5 ⟨S5, wv, rfl, ⟨nw, hsw, hnw⟩, hev5⟩; obtain ⟨wa, wc, rfl, -⟩ := hsw.form; have ho5 := (ho.evo hev5).add hsw; obtain ⟨z0, z1, z2, z3⟩ := cellsM4 ho5.b0; have zf := ho5.b0.frozen 2)
        | fail)
      refine wp_world (fun W6 hW6 => ?_)
      have ho6 := ho5.put hW6 (c' := mapC (.slice ea ne ec) (.slice fa nf fc) (.slice wa nw wc) (.slice none 0 0)) rfl
      clear ho ho5 hev5 hsw hW6 hi4 hp4 z0 z1 z2 z3 zf
      have hM6 := hM0.below ho6.low
      have hle6 := ho6.low.size
      obtain ⟨m0, m1, m2, m3⟩ := cellsM4 ho6.b0
      first | with_reducible refine wp_region_grow_tail2 3 (by kernel_rfl) (by kernel_rfl) ?_ | with_reducible refine wp_region_grow_tail 3 (by kernel_rfl) (by kernel_rfl) ?_
      simp only [List.take_succ_cons, List.take_zero, List.drop_succ_cons, List.drop_zero]
      repeat (first | go_big_quiet_step ((go_at_call 24; exact Calls.grow_of_same (part_eq w.heap.size _ _ rows (hM6.below ((Go.below_growBy _ _).mono hle6)) 5))) | quiet_step ((go_at_call 24; exact Calls.grow_of_same (part_eq w.heap.size _ _ rows (hM6.below ((Go.below_growBy _ _).mono hle6)) 5))))
      refine wpQuiet_nil ?_
      intro _ hw_
      obtain ⟨p, hw_⟩ := hw_
      subst hw_
      have ho7 := ho6.up (Go.below_growBy W6 p)
      have hi5 := partV_ints (hM0.below ho7.low) 5
      clear m0 m1 m2 m3 ho6 hM6
      go_upto_region 14 with (first
        | (go_at_call 26; (with_reducible refine (places10_any w.heap.size S5 _ ho7.tw ho7.lows ho7.low.size _ _ hi5 _ _ ne nf ho7.s2 (Nat.le_trans hne (by decide)) ho7.s1 hnf _ _ _ _ _ _).mono ?_); rintro e W8 ⟨S8, pv, rfl, ⟨np, hsp, hnp⟩, hev8⟩; obtain ⟨pa, pc, rfl, -⟩ := hsp.form; have ho8 := (ho7.evo hev8).add hsp; obtain ⟨z0, z1, z2, z3⟩ := cellsM4 ho8.b0; have zf := ho8.b0.frozen 3)
        | fail)
      refine wp_world (fun W9 hW9 => ?_)
      have ho9 := ho8.put hW9 (c' := mapC (.slice ea ne ec) (.slice fa nf fc) (.slice wa nw wc) (.slice pa np pc)) rfl
      clear ho7 ho8 hev8 hsp hW9 hi5 z0 z1 z2 z3 zf
      obtain ⟨z0, z1, z2, z3⟩ := cellsM4 ho9.b0
      obtain ⟨y0, y1, y2, y3⟩ := cellsM4 ho9.b1
      have f0 := ho9.b1.frozen 0
      have f1 := ho9.b1.frozen 1
      have f2 := ho9.b1.frozen 2
      have f3 := ho9.b1.frozen 3
      have hoX := (((ho9.swap.set 0 (.slice ea ne ec) rfl).set 1 (.slice fa nf fc) rfl).set 2 (.slice wa nw wc) rfl).set 3 (.slice pa np pc) (c' := mapC (.slice ea ne ec) (.slice fa nf fc) (.slice wa nw wc) (.slice pa np pc)) rfl
      clear ho9
      go_wp2_with fail
      exact bodyPost_ret (results_cell_row (by rfl) _ _ B2 39 _ (0, 0) _ (by rfl) hoX.b0 Tryz.underlying39 (by rfl) (by kernel_rfl)) rfl ⟨S8, _, _, _, _, rfl, ⟨⟨ne, hoX.s3, hne⟩, ⟨nf, hoX.s2, hnf⟩, ⟨nw, hoX.s1, hnw⟩, ⟨np, hoX.s0, hnp⟩⟩, hoX.ev⟩
end Go.Proofs.YtjfdbigkbgolmaaGreatDoor
