/-
  Chapter 10's made maps: places.
-/
import Derived.Test.YtjfdbigkbgolmaaGreatDoorZO

namespace Go.Proofs.YtjfdbigkbgolmaaGreatDoor
set_option linter.unusedVariables false
set_option linter.unusedSimpArgs false
open Go.RowKit Go.Shelf
attribute [local go_sem] Oper.semAt_some
attribute [local go_sem ↓] Go.wp_at_zero Go.wp_at_succ

def PlR (n₀ D : Nat) (sv : Value) (xs : List Int) (S : BS) (w : World) (M B2 : Nat) (ev fv wv pv : Value) (ne nf : Nat) (ov kk : Value) (wr : World) : Prop :=
  ∃ (k : Nat) (S' : BS) (n : Nat), k ≤ M ∧ kk = .int .i64 (k : Nat) ∧ n ≤ k ∧ DY n₀ D sv xs S w S' wr [(B2, mapC ev fv wv pv, 39)] [(27, ov, n), (156, ev, ne), (73, fv, nf)]
theorem DY.pd {n₀ D : Nat} {sv : Value} {xs : List Int} {S0 S : BS} {W0 W W' : World} {L : OwnL} {T : SlL} {B : Nat} {id x y wt d : Int} {cs ns : ByteArray} {t : TypeId} (h : DY n₀ D sv xs S0 W0 S W ((B, plC7 id x y cs ns wt 0, t) :: L) T) (hW : W' = W.setCell ⟨B, 6, none⟩ (.int .i64 d)) : DY n₀ D sv xs S0 W0 S W' ((B, plC7 id x y cs ns wt d, t) :: L) T := h.put hW rfl

set_option maxRecDepth 100000 in
set_option maxHeartbeats 8000000 in
theorem places10_any (n₀ : Nat) (S : BS) (w : World) (hT : TW S w) (hlow : ∀ b, S b → n₀ ≤ b) (hn0 : n₀ ≤ w.heap.size) (sv : Value) (xs : List Int) (hI : Intz n₀ w sv xs)
    (ev fv : Value) (ne nf : Nat) (hse : SL S w 156 ev ne) (hne : ne ≤ 100) (hsf : SL S w 73 fv nf) (hnf : nf ≤ 200) (wa pa : Option Addr) (wn wc pn pc : Nat) :
    Calls Tryz.prog 26 #[.agg (mapC ev fv (.slice wa wn wc) (.slice pa pn pc)), sv] w fun e w' => ∃ S' v, e = .returned v ∧ (∃ n, SL S' w' 27 v n ∧ n ≤ 6) ∧ Ev noB S w S' w' := by
  obtain ⟨ea, ec, rfl, -⟩ := hse.form
  obtain ⟨fa, fc, rfl, -⟩ := hsf.form
  obtain ⟨sa, sc, rfl⟩ : ∃ a c, sv = .slice a xs.length c := by
    obtain ⟨⟨a, c, e, -⟩, -⟩ := hI
    exact ⟨a, c, e⟩
  have hb1 : Below w.heap.size w (w.alloc (.cells (mapC (.slice ea ne ec) (.slice fa nf fc) (.slice wa wn wc) (.slice pa pn pc)) 39)) := (by repeat' (first | with_reducible exact Below.refl _ _ | with_reducible exact Nat.le_refl _ | with_reducible assumption | with_reducible refine Go.below_growBy' ?_ ?_ _ | with_reducible refine Below.alloc ?_ ?_ _ | with_reducible refine Below.setCell ?_ ?_ _ | with_reducible refine Below.drew ?_ | with_reducible refine Go.le_alloc ?_ | with_reducible refine Go.le_growBy ?_ | with_reducible refine Go.le_setCell ?_ | with_reducible refine Go.le_drew ?_ | omega | (dsimp only; omega)))
  have htd := TD.new (Ev.of_below (X := noB) hT hb1).ok hlow (Nat.le_trans hn0 hb1.size) (hI.below (hb1.mono hn0))
  have hb2 : Below w.heap.size w ((w.alloc (.cells (mapC (.slice ea ne ec) (.slice fa nf fc) (.slice wa wn wc) (.slice pa pn pc)) 39)).alloc (.cells #[.slice sa xs.length sc, .int .i64 0] 66)) := (by repeat' (first | with_reducible exact Below.refl _ _ | with_reducible exact Nat.le_refl _ | with_reducible assumption | with_reducible refine Go.below_growBy' ?_ ?_ _ | with_reducible refine Below.alloc ?_ ?_ _ | with_reducible refine Below.setCell ?_ ?_ _ | with_reducible refine Below.drew ?_ | with_reducible refine Go.le_alloc ?_ | with_reducible refine Go.le_growBy ?_ | with_reducible refine Go.le_setCell ?_ | with_reducible refine Go.le_drew ?_ | omega | (dsimp only; omega)))
  have hB := (Blk.new w (mapC (.slice ea ne ec) (.slice fa nf fc) (.slice wa wn wc) (.slice pa pn pc)) 39).alloc (.cells #[.slice sa xs.length sc, .int .i64 0] 66)
  simp only [World.size_alloc] at htd
  go_enter Tryz.func26, Tryz.ntmps26
  go_upto_region 3 with fail
  refine wp_world (fun W1 hW1 => ?_)
  rw [← hW1] at htd hb2 hB
  have hnS : ¬ S w.heap.size := fun h => Nat.lt_irrefl _ (hT.lt h)
  obtain ⟨B2, hB2⟩ : ∃ b, w.heap.size = b := ⟨_, rfl⟩
  obtain ⟨D, hD⟩ : ∃ b, w.heap.size + 1 = b := ⟨_, rfl⟩
  obtain ⟨sv, hsv⟩ : ∃ v, Value.slice sa xs.length sc = v := ⟨_, rfl⟩
  have hDw : w.heap.size ≤ D := by omega
  have hd1 : DY n₀ D sv xs S w S W1 [(B2, mapC (.slice ea ne ec) (.slice fa nf fc) (.slice wa wn wc) (.slice pa pn pc), 39)] [(27, .slice none 0 0, 0), (156, .slice ea ne ec, ne), (73, .slice fa nf fc, nf)] := by
    have hE := Ev.of_below (X := oneB D) hT hb2
    rw [hD, hsv] at htd
    refine ⟨⟨htd, hE, hn0⟩, fun p hp => ?_, by simp, fun q hq => ?_⟩
    · simp only [List.mem_cons, List.not_mem_nil, or_false] at hp
      subst hp
      exact ⟨by rw [← hB2]; exact hB, by rw [← hB2]; exact hnS, by show B2 ≠ D; omega, by show w.heap.size ≤ B2; omega⟩
    · simp only [List.mem_cons, List.not_mem_nil, or_false] at hq
      rcases hq with rfl | rfl | rfl
      · exact SL.nil _ _ _
      · exact hE.sl hse
      · exact hE.sl hsf
  rw [hD, hB2, hsv]
  clear htd hb1 hb2 hB hW1 hD hsv hI hnS hB2 hlow hn0
  go_wp2_with (first
    | (go_at_call 22; (with_reducible refine (hd1.call 7 (by omega) (by omega)).mono ?_); rintro e W2 ⟨many, rfl, m0, m1, hd2⟩)
    | fail)
  obtain ⟨M, rfl⟩ : ∃ M : Nat, many = M := ⟨many.toNat, by omega⟩
  have hM6 : M ≤ 6 := by omega
  obtain ⟨ev, hev⟩ : ∃ v, Value.slice ea ne ec = v := ⟨_, rfl⟩
  obtain ⟨fv, hfv⟩ : ∃ v, Value.slice fa nf fc = v := ⟨_, rfl⟩
  obtain ⟨wv, hwv⟩ : ∃ v, Value.slice wa wn wc = v := ⟨_, rfl⟩
  obtain ⟨pv, hpv⟩ : ∃ v, Value.slice pa pn pc = v := ⟨_, rfl⟩
  rw [hev, hfv, hwv, hpv] at hd2
  rw [hev, hfv, hwv, hpv]
  have hFD : ∀ (S : BS) (W : World), TW S W → SL S W 73 fv nf → ∀ id, Calls Tryz.prog 68 #[.agg (mapC ev fv wv pv), .int .i64 id] W fun e w' => (∃ x, e = .returned (.int .i64 x) ∧ fits x) ∧ Below W.heap.size W w' := fun S W h1 h2 id => by
    rw [← hev, ← hfv, ← hwv, ← hpv]
    rw [← hfv] at h2
    exact faceDistrict_any S W h1 _ _ _ _ _ _ _ _ _ _ _ nf h2 hnf id
  clear hev hfv hwv hpv
  go_loopw [6, 8] (fun ov kk wr => PlR n₀ D sv xs S w M B2 ev fv wv pv ne nf ov kk wr) (fun _ kk _ => M - (intOf kk).toNat)
  case atStart => exact ⟨0, S, 0, by omega, rfl, by omega, hd2⟩
  case round =>
    clear hd1 hd2
    obtain ⟨k, S', n, hk, rfl, hn, hd⟩ := hrel
    by_cases hlt : k < M
    · have hltI : (k : Int) < (M : Int) := by omega
      obtain ⟨oa, oc, rfl, -⟩ := hd.s0.form
      go_upto_if 28 with (first
        | (go_at_call 22; (with_reducible refine (hd.call 10 (by omega) (by omega)).mono ?_); rintro e W2 ⟨s, rfl, s0, s1, hd2⟩)
        | (go_at_call 22; (with_reducible refine (hd2.call 2 (by omega) (by omega)).mono ?_); rintro e W3 ⟨q, rfl, q0, q1, hd3⟩)
        | fail)
      by_cases hq : q = 1
      · subst hq
        clear hd hd2
        go_upto_region 11 with (first
          | (go_at_call 22; (with_reducible refine (hd3.call 3 (by omega) (by omega)).mono ?_); rintro e W4 ⟨a, rfl, a0, a1, hd4⟩)
          | (go_at_call 22; (with_reducible refine (hd4.call 2 (by omega) (by omega)).mono ?_); rintro e W5 ⟨b, rfl, b0, b1, hd5⟩)
          | (go_at_call 22; (with_reducible refine (hd5.call 51 (by omega) (by omega)).mono ?_); rintro e W6 ⟨c, rfl, c0, c1, hd6⟩)
          | (go_at_call 22; (with_reducible refine (hd6.call 60 (by omega) (by omega)).mono ?_); rintro e W7 ⟨t, rfl, t0, t1, hd7⟩)
          | fail)
        have f0 : fits (61 + (n : Int)) := ⟨by omega, by omega⟩
        have f5 : fits (1 + t) := ⟨by omega, by omega⟩
        refine wp_world (fun W8 hW8 => ?_)
        obtain ⟨X, Y, fX, fY, hd8⟩ : ∃ X Y, fits X ∧ fits Y ∧ DY n₀ D sv xs S w S' W8 [(W7.heap.size, plC7 (61 + n) X Y ⟨#[]⟩ ⟨#[]⟩ (1 + t) 0, 27), (B2, mapC ev fv wv pv, 39)] [(27, .slice oa n oc, n), (156, ev, ne), (73, fv, nf)] := by
          rw [hW8]
          refine ⟨_, _, ?_, ?_, hd7.box _ _⟩
          · exact ⟨by omega, by omega⟩
          · exact ⟨by omega, by omega⟩
        obtain ⟨BP, hBP⟩ : ∃ b, W7.heap.size = b := ⟨_, rfl⟩
        rw [hBP] at hd8
        rw [hBP]
        clear hW8 hBP hd3 hd4 hd5 hd6 hd7
        have st1 : Strs #[.string ⟨#[116, 114, 101, 101]⟩, .string ⟨#[116, 114, 101, 101]⟩, .string ⟨#[115, 104, 111, 112]⟩] := strs_of [⟨#[116, 114, 101, 101]⟩, ⟨#[116, 114, 101, 101]⟩, ⟨#[115, 104, 111, 112]⟩] (by decide)
        go_upto_region 12 with (first
          | (go_at_call 22; (with_reducible refine ((hd8.box _ _).call 3 (by omega) (by omega)).mono ?_); rintro e Wb ⟨q, rfl, q0, q1, hb⟩; obtain ⟨q, rfl⟩ := Int.eq_ofNat_of_zero_le q0; obtain ⟨s1, cs1, hs1⟩ := st1.at_ hb.b0 (q := q) (by simp; omega); have hdB := hb.tail; obtain ⟨z0, z1, z2, z3, z4, z5, z6⟩ := cells7 hdB.b0; have zf := hdB.b0.frozen 3)
          | fail)
        refine wp_world (fun WC hWC => ?_)
        have hdC := hdB.put hWC (c' := plC7 (61 + n) X Y s1 ⟨#[]⟩ (1 + t) 0) rfl
        clear hd8 hdB hb hWC z0 z1 z2 z3 z4 z5 z6 zf cs1 st1
        have st2 : Strs #[.string ⟨#[]⟩, .string ⟨#[]⟩, .string ⟨#[71, 97, 116, 101]⟩, .string ⟨#[79, 97, 107]⟩, .string ⟨#[84, 104, 101, 32, 87, 101, 108, 108]⟩] := strs_of [⟨#[]⟩, ⟨#[]⟩, ⟨#[71, 97, 116, 101]⟩, ⟨#[79, 97, 107]⟩, ⟨#[84, 104, 101, 32, 87, 101, 108, 108]⟩] (by decide)
        go_upto_region 13 with (first
          | (go_at_call 22; (with_reducible refine ((hdC.box _ _).call 5 (by omega) (by omega)).mono ?_); rintro e Wd ⟨q', rfl, q'0, q'1, hd⟩; obtain ⟨q', rfl⟩ := Int.eq_ofNat_of_zero_le q'0; obtain ⟨s2, cs2, hs2⟩ := st2.at_ hd.b0 (q := q') (by simp; omega); have hdD := hd.tail; obtain ⟨z0, z1, z2, z3, z4, z5, z6⟩ := cells7 hdD.b0; have zf := hdD.b0.frozen 4)
          | fail)
        refine wp_world (fun WE hWE => ?_)
        have hdE := hdD.put hWE (c' := plC7 (61 + n) X Y s1 s2 (1 + t) 0) rfl
        clear hdC hdD hd hWE z0 z1 z2 z3 z4 z5 z6 zf cs2 st2
        obtain ⟨z0, z1, z2, z3, z4, z5, z6⟩ := cells7 hdE.b0
        obtain ⟨m0, m1, m2, m3⟩ := cellsM4 hdE.b1
        go_upto_region 14 with (first
          | (go_at_call 67; (with_reducible refine (at7_any S' WE hdE.tw ev ne hdE.s1 hne X Y fX fY).mono ?_); rintro e WA ⟨⟨x, bo, rfl⟩, hbA⟩)
          | fail)
        have hdA := hdE.up hbA
        clear hdE hbA z0 z1 z2 z3 z4 z5 z6 m0 m1 m2 m3
        obtain ⟨m0, m1, m2, m3⟩ := cellsM4 hdA.b1
        go_upto_region 15 with (first
          | (go_at_call 68; (with_reducible refine (hFD S' WA hdA.tw hdA.s2 x).mono ?_); rintro e WF ⟨⟨d, rfl, fd⟩, hbF⟩; have hdF := hdA.up hbF; obtain ⟨z0, z1, z2, z3, z4, z5, z6⟩ := cells7 hdF.b0; have zf := hdF.b0.frozen 6)
          | fail)
        refine wp_world (fun WG hWG => ?_)
        have hdG := hdF.pd hWG
        clear hdA hbF hdF hWG m0 m1 m2 m3 z0 z1 z2 z3 z4 z5 z6 zf
        obtain ⟨z0, z1, z2, z3, z4, z5, z6⟩ := cells7 hdG.b0
        cases bo
        · go_wp2_with fail
          go_roundw
          case rel => exact ⟨k + 1, S', n, by omega, by go_num, by omega, hdG.tail⟩
          case measure => simp [intOf]; omega
        · by_cases hd0 : 0 < d
          · go_wp2_with (first
              | (at_builtin; refine wpList_append_new hdG.tw (by rfl) _ _ 37 (by rfl) Tryz.underlying37 et_place (by rfl) hdG.s0 (by rfl) rfl (tb_place f0 fX fY hs1 f5 fd) rfl (by omega) ?_; intro v9 S9 w9 hsl9 he9)
              | fail)
            go_roundw
            case rel => exact ⟨k + 1, S9, n + 1, by omega, by go_num, by omega, ((hdG.evo he9).tail.tailT.add hsl9)⟩
            case measure => simp [intOf]; omega
          · go_wp2_with fail
            go_roundw
            case rel => exact ⟨k + 1, S', n, by omega, by go_num, by omega, hdG.tail⟩
            case measure => simp [intOf]; omega
      · have hqb : (q == 1) = false := by simpa using hq
        clear hd hd2
        go_upto_region 11 with (first
          | (go_at_call 22; (with_reducible refine (hd3.call 3 (by omega) (by omega)).mono ?_); rintro e W4 ⟨a, rfl, a0, a1, hd4⟩)
          | (go_at_call 22; (with_reducible refine (hd4.call 2 (by omega) (by omega)).mono ?_); rintro e W5 ⟨b, rfl, b0, b1, hd5⟩)
          | (go_at_call 22; (with_reducible refine (hd5.call 51 (by omega) (by omega)).mono ?_); rintro e W6 ⟨c, rfl, c0, c1, hd6⟩)
          | (go_at_call 22; (with_reducible refine (hd6.call 60 (by omega) (by omega)).mono ?_); rintro e W7 ⟨t, rfl, t0, t1, hd7⟩)
          | fail)
        have f0 : fits (61 + (n : Int)) := ⟨by omega, by omega⟩
        have f5 : fits (1 + t) := ⟨by omega, by omega⟩
        refine wp_world (fun W8 hW8 => ?_)
        obtain ⟨X, Y, fX, fY, hd8⟩ : ∃ X Y, fits X ∧ fits Y ∧ DY n₀ D sv xs S w S' W8 [(W7.heap.size, plC7 (61 + n) X Y ⟨#[]⟩ ⟨#[]⟩ (1 + t) 0, 27), (B2, mapC ev fv wv pv, 39)] [(27, .slice oa n oc, n), (156, ev, ne), (73, fv, nf)] := by
          rw [hW8]
          refine ⟨_, _, ?_, ?_, hd7.box _ _⟩
          · exact ⟨by omega, by omega⟩
          · exact ⟨by omega, by omega⟩
        obtain ⟨BP, hBP⟩ : ∃ b, W7.heap.size = b := ⟨_, rfl⟩
        rw [hBP] at hd8
        rw [hBP]
        clear hW8 hBP hd3 hd4 hd5 hd6 hd7
        have st1 : Strs #[.string ⟨#[116, 114, 101, 101]⟩, .string ⟨#[116, 114, 101, 101]⟩, .string ⟨#[115, 104, 111, 112]⟩] := strs_of [⟨#[116, 114, 101, 101]⟩, ⟨#[116, 114, 101, 101]⟩, ⟨#[115, 104, 111, 112]⟩] (by decide)
        go_upto_region 12 with (first
          | (go_at_call 22; (with_reducible refine ((hd8.box _ _).call 3 (by omega) (by omega)).mono ?_); rintro e Wb ⟨q, rfl, q0, q1, hb⟩; obtain ⟨q, rfl⟩ := Int.eq_ofNat_of_zero_le q0; obtain ⟨s1, cs1, hs1⟩ := st1.at_ hb.b0 (q := q) (by simp; omega); have hdB := hb.tail; obtain ⟨z0, z1, z2, z3, z4, z5, z6⟩ := cells7 hdB.b0; have zf := hdB.b0.frozen 3)
          | fail)
        refine wp_world (fun WC hWC => ?_)
        have hdC := hdB.put hWC (c' := plC7 (61 + n) X Y s1 ⟨#[]⟩ (1 + t) 0) rfl
        clear hd8 hdB hb hWC z0 z1 z2 z3 z4 z5 z6 zf cs1 st1
        have st2 : Strs #[.string ⟨#[]⟩, .string ⟨#[]⟩, .string ⟨#[71, 97, 116, 101]⟩, .string ⟨#[79, 97, 107]⟩, .string ⟨#[84, 104, 101, 32, 87, 101, 108, 108]⟩] := strs_of [⟨#[]⟩, ⟨#[]⟩, ⟨#[71, 97, 116, 101]⟩, ⟨#[79, 97, 107]⟩, ⟨#[84, 104, 101, 32, 87, 101, 108, 108]⟩] (by decide)
        go_upto_region 13 with (first
          | (go_at_call 22; (with_reducible refine ((hdC.box _ _).call 5 (by omega) (by omega)).mono ?_); rintro e Wd ⟨q', rfl, q'0, q'1, hd⟩; obtain ⟨q', rfl⟩ := Int.eq_ofNat_of_zero_le q'0; obtain ⟨s2, cs2, hs2⟩ := st2.at_ hd.b0 (q := q') (by simp; omega); have hdD := hd.tail; obtain ⟨z0, z1, z2, z3, z4, z5, z6⟩ := cells7 hdD.b0; have zf := hdD.b0.frozen 4)
          | fail)
        refine wp_world (fun WE hWE => ?_)
        have hdE := hdD.put hWE (c' := plC7 (61 + n) X Y s1 s2 (1 + t) 0) rfl
        clear hdC hdD hd hWE z0 z1 z2 z3 z4 z5 z6 zf cs2 st2
        obtain ⟨z0, z1, z2, z3, z4, z5, z6⟩ := cells7 hdE.b0
        obtain ⟨m0, m1, m2, m3⟩ := cellsM4 hdE.b1
        go_upto_region 14 with (first
          | (go_at_call 67; (with_reducible refine (at7_any S' WE hdE.tw ev ne hdE.s1 hne X Y fX fY).mono ?_); rintro e WA ⟨⟨x, bo, rfl⟩, hbA⟩)
          | fail)
        have hdA := hdE.up hbA
        clear hdE hbA z0 z1 z2 z3 z4 z5 z6 m0 m1 m2 m3
        obtain ⟨m0, m1, m2, m3⟩ := cellsM4 hdA.b1
        go_upto_region 15 with (first
          | (go_at_call 68; (with_reducible refine (hFD S' WA hdA.tw hdA.s2 x).mono ?_); rintro e WF ⟨⟨d, rfl, fd⟩, hbF⟩; have hdF := hdA.up hbF; obtain ⟨z0, z1, z2, z3, z4, z5, z6⟩ := cells7 hdF.b0; have zf := hdF.b0.frozen 6)
          | fail)
        refine wp_world (fun WG hWG => ?_)
        have hdG := hdF.pd hWG
        clear hdA hbF hdF hWG m0 m1 m2 m3 z0 z1 z2 z3 z4 z5 z6 zf
        obtain ⟨z0, z1, z2, z3, z4, z5, z6⟩ := cells7 hdG.b0
        cases bo
        · go_wp2_with fail
          go_roundw
          case rel => exact ⟨k + 1, S', n, by omega, by go_num, by omega, hdG.tail⟩
          case measure => simp [intOf]; omega
        · by_cases hd0 : 0 < d
          · go_wp2_with (first
              | (at_builtin; refine wpList_append_new hdG.tw (by rfl) _ _ 37 (by rfl) Tryz.underlying37 et_place (by rfl) hdG.s0 (by rfl) rfl (tb_place f0 fX fY hs1 f5 fd) rfl (by omega) ?_; intro v9 S9 w9 hsl9 he9)
              | fail)
            go_roundw
            case rel => exact ⟨k + 1, S9, n + 1, by omega, by go_num, by omega, ((hdG.evo he9).tail.tailT.add hsl9)⟩
            case measure => simp [intOf]; omega
          · go_wp2_with fail
            go_roundw
            case rel => exact ⟨k + 1, S', n, by omega, by go_num, by omega, hdG.tail⟩
            case measure => simp [intOf]; omega
    · have hge : ¬ (k : Int) < (M : Int) := by omega
      go_wp2_with fail
      go_ret
      exact ⟨S', _, rfl, ⟨n, hd.s0, by omega⟩, hd.fin (Ev.refl hT) hDw⟩
end Go.Proofs.YtjfdbigkbgolmaaGreatDoor
