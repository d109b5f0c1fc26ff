/-
  Chapter 24: RelabelNothing walked.
-/
import Derived.Test.YtikojanpbbiaiaaNl

namespace Go.Proofs.Ytikojanpbbiaiaa
set_option linter.unusedVariables false
set_option linter.unusedSimpArgs false
open Go Go.RowKit Go.Shelf Go.Lib
attribute [local go_sem] Oper.semAt_some
attribute [local go_sem ↓] Go.wp_at_zero Go.wp_at_succ

/-- one element in a block of the call's own -/
theorem single_row {α : Type} {E : El α} (hE : E.Ok) {W : World} {base L : Nat} {x : α} (h : Blk W L (E.enc x).toArray E.t) (hb : base ≤ L) : W.ownsRow base E.t E.s (.slice (some ⟨L, 0, none⟩) 1 1) [x].length ([x].flatMap E.enc) := by
  refine ⟨by simp [hE.len x], .inr ⟨L, 1, (E.enc x).toArray, rfl, hb, h, Nat.le_refl _, by unfold maxLen; simp, by simp [hE.len x], ?_⟩⟩
  simp
  exact List.take_of_length_le (by rw [hE.len x]; exact Nat.le_refl _)
theorem Ev.lowN {S' : BS} {W W' : World} (h : Ev noB noB W S' W') : Below W.heap.size W W' := h.below (fun _ h => h.elim) (fun _ h => h.elim) (Nat.le_refl _)
/-- a map's box, whatever its other lists are: its places in a row -/
structure MapV (n0 : Nat) (W : World) (b : Nat) (v1 v2 v3 pv : Value) (l : List Pc) : Prop where
  k : Blk W b #[v1, v2, v3, pv] 29
  r : W.ownsRow n0 41 7 pv l.length (l.flatMap plE.enc)
section
variable {n0 b BX : Nat} {W W' : World} {v1 v2 v3 pv : Value} {l : List Pc} {c : Array Value}
theorem MapV.up (h : MapV n0 W b v1 v2 v3 pv l) (hb : Below W.heap.size W W') : MapV n0 W' b v1 v2 v3 pv l := ⟨h.k.below hb h.k.lt, ownsRow_up h.r hb⟩
theorem MapV.kept (h : MapV n0 W b v1 v2 v3 pv l) (hg : W.grownBy W' (some BX)) (hX : Blk W BX c 45) : MapV n0 W' b v1 v2 v3 pv l :=
  ⟨h.k.kept hg (fun e => by cases e; have := h.k.symm.trans hX; simp at this), h.r.kept hg (.inr (ownsRow_other h.r hX (by decide)))⟩
end
theorem blk_of {W : World} {BX : Nat} {sd ls : List Lb} (h : LabS W BX sd ls) : ∃ c, Blk W BX c 45 := h.blk
/-- Change, of labels that have nothing -/
theorem change_first {n0 : Nat} {pv : Value} {l : List Pc} {BX : Nat} {W : World} (hX : LabS W BX [] []) (hr : W.ownsRow n0 41 7 pv l.length (l.flatMap plE.enc)) (hl : l.length ≤ 19) (hok : ∀ p ∈ l, PcOk p) (v1 v2 v3 : Value) :
    Calls Try.prog 10 #[.pointer (some ⟨BX, 0, none⟩), .agg #[v1, v2, v3, pv], .slice none 0 0] W fun e w' => e = .returned (.int .i64 ((makeL (queueL l)).length : Nat)) ∧ LabS w' BX (seedsL l) (makeL (queueL l)) ∧ W.grownBy w' (some BX) :=
  change_row hX hr hl hok (by simp) rfl (by rw [count_nil, makeL_len]; unfold seedsL; rw [List.length_map]) (chgL_nil l) v1 v2 v3
/-- Change, where nothing changes -/
theorem change_same {n0 : Nat} {pv : Value} {l : List Pc} {sd ls : List Lb} {BX : Nat} {W : World} (hX : LabS W BX sd ls) (hr : W.ownsRow n0 41 7 pv l.length (l.flatMap plE.enc)) (hl : l.length ≤ 19) (hok : ∀ p ∈ l, PcOk p) (hks : ∀ x ∈ sd, LbKey x) (hs : seedsL l = sd) (hn : (sd.map Lb.id).Nodup) (v1 v2 v3 : Value) :
    Calls Try.prog 10 #[.pointer (some ⟨BX, 0, none⟩), .agg #[v1, v2, v3, pv], .slice none 0 0] W fun e w' => e = .returned (.int .i64 0) ∧ LabS w' BX sd (chgL sd ls sd) ∧ W.grownBy w' (some BX) :=
  change_row (n := 0) hX hr hl hok hks hs (by rw [reachI_self sd hn]; rfl) rfl v1 v2 v3
theorem make_row {n0 : Nat} {pv : Value} {l : List Pc} {W : World} (hr : W.ownsRow n0 41 7 pv l.length (l.flatMap plE.enc)) (hl : l.length ≤ 19) (hok : ∀ p ∈ l, PcOk p) (v1 v2 v3 : Value) :
    Calls Try.prog 12 #[.agg #[v1, v2, v3, pv], .slice none 0 0] W fun e w' => ∃ u, e = .returned u ∧ w'.ownsRow W.heap.size 39 6 u (makeL (queueL l)).length ((makeL (queueL l)).flatMap lbE.enc) ∧ Below W.heap.size W w' :=
  make_any v1 v2 v3 pv l W (lst_of_row plOk hr (by omega)) (frm_row hr) hl (queueL_all l PcOk hok)
theorem lab_zero {W : World} {BX : Nat} (k : Blk W BX #[.slice none 0 0, .slice none 0 0] 45) : LabS W BX [] [] := ⟨⟨_, _, k, ⟨by simp, .inl ⟨rfl, rfl⟩⟩, ⟨by simp, .inl ⟨rfl, rfl⟩⟩⟩, rfl, by simp⟩
abbrev p90 : Pc := ⟨90, 5, 5, treeB, ⟨#[]⟩, 250, 1⟩
theorem p90_ok {l : List Pc} (h : ∀ p ∈ l, PcOk p) : ∀ p ∈ p90 :: l, PcOk p := by
  intro p hp
  rcases List.mem_cons.1 hp with rfl | hp
  · exact ⟨by decide, by decide, by decide, by decide, by decide⟩
  · exact h p hp
theorem p90_seeds (l : List Pc) : seedsL (p90 :: l) = seedsL l := by
  unfold seedsL
  rw [queueL_unnamed p90 l (by decide +kernel)]

def FUn (wr : World) (B4 pc n : Nat) (pa : Option Addr) (i : Nat) (v : Value) (w : World) : Prop :=
  match i with
  | 0 => v = .agg #[.int .i64 90, .int .i64 5, .int .i64 5, .string treeB, .string ⟨#[]⟩, .int .i64 250, .int .i64 1]
  | 1 => ∃ L, v = .slice (some ⟨L, 0, none⟩) 1 1 ∧ wr.heap.size ≤ L ∧ Blk w L #[.int .i64 90, .int .i64 5, .int .i64 5, .string treeB, .string ⟨#[]⟩, .int .i64 250, .int .i64 1] 41
  | 2 => v = .pointer (some ⟨B4, 3, none⟩)
  | 3 => v = .slice pa n pc
  | _ => False
theorem FUn.kept {wr : World} {B4 pc n : Nat} {pa : Option Addr} {i : Nat} {v : Value} {w w' : World} (h : FUn wr B4 pc n pa i v w) (hg : Below w.heap.size w w') : FUn wr B4 pc n pa i v w' := by
  unfold FUn at *
  split at h
  all_goals first | exact h | (obtain ⟨L, h1, h2, h3⟩ := h; exact ⟨L, h1, h2, h3.below hg h3.lt⟩)
set_option maxRecDepth 100000 in
set_option maxHeartbeats 16000000 in
theorem nothing_law (la : Option Addr) (lcap : Nat) (rows : List (Value × List Int)) (w : World) (hM : Mat w.heap.size w (.slice la rows.length lcap) rows) :
    Calls Try.prog 4 #[.slice la rows.length lcap] w fun e w' => e = .returned (.bool true) ∧ Below w.heap.size w w' := by
  obtain ⟨_, _, e_, hlc, -⟩ := id hM
  cases e_
  obtain ⟨m, hm⟩ : ∃ m, min rows.length 8 = m := ⟨_, rfl⟩
  have hmI : min (rows.length : Int) 8 = (m : Nat) := by omega
  have hm0 : 0 ≤ (m : Int) := by omega
  have hmc : (m : Int) ≤ (lcap : Int) := by omega
  have hmn : m ≤ lcap := by omega
  have hml : m ≤ rows.length := by omega
  replace hm := Lib.hid hm
  go_enter Try.func4, Try.ntmps4
  go_upto_region 3 with (first
    | (go_at_call 6; (with_reducible refine (sanity_any _).mono ?_); rintro e w1 ⟨rfl, hb1⟩; have hM1 := ((hM.below hb1).mono hb1.size).take m hml)
    | (go_at_call 7; (with_reducible refine (made10v_any _ _ _ hM1).mono ?_); rintro e w2 ⟨S2, ev, fv, wv, pv, l, rfl, ⟨⟨ne, hse, -⟩, ⟨nf, hsf, -⟩, nw, hsw, -⟩, hl6, hok, hr2, -, hev2⟩; have hb2 := hev2.lowN; obtain ⟨ea, ec, rfl, -⟩ := hse.form; obtain ⟨fa, fc, rfl, -⟩ := hsf.form; obtain ⟨wa, wc, rfl, -⟩ := hsw.form; have hfp := frm_row hr2; obtain ⟨pa, pc, rfl, -⟩ := (lst_of_row plOk hr2 (by omega)).form; clear hse hsf hsw hev2)
    | fail)
  have hbel := hb1.trans (hb2.mono hb1.size)
  have kB := Blk.new w2 #[.slice ea ne ec, .slice fa nf fc, .slice wa nw wc, .slice pa l.length pc] 29
  have hb3 : Below w2.heap.size w2 (w2.alloc (.cells #[.slice ea ne ec, .slice fa nf fc, .slice wa nw wc, .slice pa l.length pc] 29)) := (Below.refl _ _).alloc (Nat.le_refl _) _
  have hm3 : MapV w.heap.size _ _ _ _ _ _ l := ⟨kB, ownsRow_base (ownsRow_up hr2 hb3) hb1.size⟩
  have hbel3 := hbel.trans (hb3.mono hbel.size)
  obtain ⟨B4, hB4⟩ : ∃ b, w2.heap.size = b := ⟨_, rfl⟩
  obtain ⟨w3, hw3⟩ : ∃ W, w2.alloc (.cells #[.slice ea ne ec, .slice fa nf fc, .slice wa nw wc, .slice pa l.length pc] 29) = W := ⟨_, rfl⟩
  rw [hw3] at hm3 hbel3
  rw [hB4] at hm3
  rw [hw3, hB4]
  clear hw3 hB4 hb1 hb2 hb3 hr2 hM hM1 hbel kB
  have hl19 : l.length ≤ 19 := by omega
  have hnd := PlsOk.nodup hok.id
  -- labels that have nothing
  go_upto_region 5 with fail
  have kX := Blk.new w3 #[.slice none 0 0, .slice none 0 0] 45
  have hb4 : Below w3.heap.size w3 (w3.alloc (.cells #[.slice none 0 0, .slice none 0 0] 45)) := (Below.refl _ _).alloc (Nat.le_refl _) _
  have hX4 := lab_zero kX
  have hm4 := hm3.up hb4
  have hbel4 := hbel3.trans (hb4.mono hbel3.size)
  have hBX : w.heap.size ≤ w3.heap.size := hbel3.size
  obtain ⟨BX, hBXe⟩ : ∃ b, w3.heap.size = b := ⟨_, rfl⟩
  obtain ⟨w4, hw4⟩ : ∃ W, w3.alloc (.cells #[.slice none 0 0, .slice none 0 0] 45) = W := ⟨_, rfl⟩
  rw [hw4] at hX4 hm4 hbel4
  rw [hBXe] at hX4 hBX
  rw [hw4, hBXe]
  clear hw4 hBXe hm3 hbel3 hb4 kX
  have m0 : w4.cell? ⟨B4, 0, none⟩ = some (.slice ea ne ec) := hm4.k.cell 0
  have m1 : w4.cell? ⟨B4, 1, none⟩ = some (.slice fa nf fc) := hm4.k.cell 1
  have m2 : w4.cell? ⟨B4, 2, none⟩ = some (.slice wa nw wc) := hm4.k.cell 2
  have m3 : w4.cell? ⟨B4, 3, none⟩ = some (.slice pa l.length pc) := hm4.k.cell 3
  go_upto_region 7 with (first
    | (go_at_call 10; (with_reducible refine (change_none _ _ _ #[.slice ea ne ec, .slice fa nf fc, .slice wa nw wc, .slice pa l.length pc] rfl).mono ?_); rintro e w5 ⟨rfl, hb5⟩)
    | (go_at_call 9; (with_reducible refine (listNil_any _).mono ?_); rintro e w6 ⟨rfl, rfl⟩; have hX5 := hX4.below hb5)
    | (go_at_call 9; (with_reducible refine (list_any BX [] [] _ hX5).mono ?_); rintro e w7 ⟨u7, rfl, hr7, hb7⟩; obtain ⟨a7, c7, rfl, -⟩ := (lst_of_row lbOk hr7 (by simp)).form; rw [show ([] : List Lb).length = 0 from rfl])
    | fail)
  have hb57 := hb5.trans (hb7.mono hb5.size)
  have hX7 := hX4.below hb57
  have hm7 := hm4.up hb57
  have hbel7 := hbel4.trans (hb57.mono hbel4.size)
  clear hr7 hb5 hb7 hX5 hX4 hm4 hbel4 hb57 m0 m1 m2 m3
  have hmk := make_row hm7.r hl19 hok.ok (.slice ea ne ec) (.slice fa nf fc) (.slice wa nw wc)
  have hch := fun W (hX : LabS W BX [] []) (hm : MapV w.heap.size W B4 (.slice ea ne ec) (.slice fa nf fc) (.slice wa nw wc) (.slice pa l.length pc) l) => change_first hX hm.r hl19 hok.ok (.slice ea ne ec) (.slice fa nf fc) (.slice wa nw wc)
  have hsk : ∀ x ∈ seedsL l, LbKey x := seeds_key hok.ok
  have hsn : ((seedsL l).map Lb.id).Nodup := hnd.seeds
  have hls19 : (makeL (queueL l)).length ≤ 19 := by rw [makeL_len]; exact Nat.le_trans (queueL_len l) hl19
  obtain ⟨ls, hls⟩ : ∃ x, makeL (queueL l) = x := ⟨_, rfl⟩
  obtain ⟨sd, hsd⟩ : ∃ x, seedsL l = x := ⟨_, rfl⟩
  rw [hls] at hmk hch hls19
  rw [hsd] at hch hsk hsn
  replace hsd := Lib.hid hsd
  clear hls
  -- label.Make
  have m0 : w7.cell? ⟨B4, 0, none⟩ = some (.slice ea ne ec) := hm7.k.cell 0
  have m1 : w7.cell? ⟨B4, 1, none⟩ = some (.slice fa nf fc) := hm7.k.cell 1
  have m2 : w7.cell? ⟨B4, 2, none⟩ = some (.slice wa nw wc) := hm7.k.cell 2
  have m3 : w7.cell? ⟨B4, 3, none⟩ = some (.slice pa l.length pc) := hm7.k.cell 3
  go_upto_region 8 with (first
    | (go_at_call 12; (with_reducible refine hmk.mono ?_); rintro e w8 ⟨u8, rfl, hr8, hb8⟩; obtain ⟨a8, c8, rfl, -⟩ := (lst_of_row lbOk hr8 (by omega)).form)
    | fail)
  have hX8 := hX7.below hb8
  have hm8 := hm7.up hb8
  have hbel8 := hbel7.trans (hb8.mono hbel7.size)
  obtain ⟨cX, kX8⟩ := hX8.blk
  clear hX7 hm7 hbel7 hb8 hmk m0 m1 m2 m3
  have hch8 := hch w8 hX8 hm8
  have m0 : w8.cell? ⟨B4, 0, none⟩ = some (.slice ea ne ec) := hm8.k.cell 0
  have m1 : w8.cell? ⟨B4, 1, none⟩ = some (.slice fa nf fc) := hm8.k.cell 1
  have m2 : w8.cell? ⟨B4, 2, none⟩ = some (.slice wa nw wc) := hm8.k.cell 2
  have m3 : w8.cell? ⟨B4, 3, none⟩ = some (.slice pa l.length pc) := hm8.k.cell 3
  -- zero labels can be changed
  go_upto_region 10 with (first
    | (go_at_call 10; (with_reducible refine hch8.mono ?_); rintro e w9 ⟨rfl, hX9, hg9⟩; have hm9 := hm8.kept hg9 kX8; have hr9 := hr8.kept hg9 (.inr (ownsRow_other hr8 kX8 (by decide))); have hbel9 := turn_below hbel8 hg9 hBX)
    | (go_at_call 9; (with_reducible refine (list_any BX sd ls _ hX9).mono ?_); rintro e w10 ⟨u10, rfl, hr10, hb10⟩; obtain ⟨a10, c10, rfl, -⟩ := (lst_of_row lbOk hr10 (by omega)).form; have hr9' := ownsRow_up hr9 hb10; have hsame := sameAll_eq _ _ ls _ _ w10 (lst_of_row lbOk hr10 (by omega)) (lst_of_row lbOk hr9' (by omega)) (Nat.le_refl _) (Nat.le_refl _))
    | (go_at_call 13; (with_reducible refine hsame.mono ?_); rintro e w11 ⟨rfl, hb11⟩)
    | fail)
  have hb911 := hb10.trans (hb11.mono hb10.size)
  have hX11 := hX9.below hb911
  have hm11 := hm9.up hb911
  have hr11 := ownsRow_up hr9 hb911
  have hbel11 := hbel9.trans (hb911.mono hbel9.size)
  clear hX8 hm8 hbel8 hr8 hch hch8 m0 m1 m2 m3 hX9 hg9 hm9 hr9 hbel9 hr10 hb10 hr9' hsame hb11 hb911 kX8
  -- own
  go_upto_region 11 with (first
    | (go_at_call 9; (with_reducible refine (list_any BX sd ls _ hX11).mono ?_); rintro e w12 ⟨u12, rfl, hr12, hb12⟩; obtain ⟨a12, c12, rfl, -⟩ := (lst_of_row lbOk hr12 (by omega)).form)
    | fail)
  go_wp2_with fail
  go_loopw [55] (fun kk wr => ∃ (k : Nat) (xs : List Value), k ≤ ls.length ∧ kk = .int .i64 (k : Nat) ∧ wr.ownsRow w11.heap.size 39 6 (.slice a12 ls.length c12) ls.length xs ∧ Below w11.heap.size w11 wr) (fun kk _ => ls.length - (intOf kk).toNat)
  case atStart => exact ⟨0, _, Nat.zero_le _, rfl, hr12, hb12⟩
  case round =>
    clear hr12 hb12
    obtain ⟨k, xs, hk, rfl, hr13, hb13⟩ := hrel
    by_cases hlt : k < ls.length
    · have hltI : (k : Int) < (ls.length : Int) := by omega
      obtain ⟨g, rfl, hgl⟩ := ownsRow_pos hr13 (by omega)
      obtain ⟨⟨v5, s5⟩, f5⟩ := ownsRow_cellF hr13 (j := k * 6 + 5) (by omega)
      have hr14 := ownsRow_setCell hr13 (j := k * 6 + 5) (by omega) (.int .i64 (-1))
      have hb14 : Below w11.heap.size w11 (wr.setCell ⟨g, k * 6 + 5, none⟩ (.int .i64 (-1))) := hb13.grown (grown_setCell wr g (k * 6 + 5) (.int .i64 (-1))) hb13.size (fun q e => by cases e; exact hgl)
      go_wp2_with fail
      go_roundw
      case rel => exact ⟨k + 1, _, by omega, by go_num, hr14, hb14⟩
      case measure => simp [intOf]; omega
    · obtain rfl : k = ls.length := by omega
      have hge : ¬ (ls.length : Int) < (ls.length : Int) := by omega
      have hX13 := hX11.below hb13
      have hm13 := hm11.up hb13
      have hr13' := ownsRow_up hr11 hb13
      have hbel13 := hbel11.trans (hb13.mono hbel11.size)
      clear hX11 hm11 hr11 hbel11 hb13 hr13
      have m0 : wr.cell? ⟨B4, 0, none⟩ = some (.slice ea ne ec) := hm13.k.cell 0
      have m1 : wr.cell? ⟨B4, 1, none⟩ = some (.slice fa nf fc) := hm13.k.cell 1
      have m2 : wr.cell? ⟨B4, 2, none⟩ = some (.slice wa nw wc) := hm13.k.cell 2
      have m3 : wr.cell? ⟨B4, 3, none⟩ = some (.slice pa l.length pc) := hm13.k.cell 3
      have kN := Blk.new wr #[.slice ea ne ec, .slice fa nf fc, .slice wa nw wc, .slice pa l.length pc] 29
      have hbN : Below wr.heap.size wr (wr.alloc (.cells #[.slice ea ne ec, .slice fa nf fc, .slice wa nw wc, .slice pa l.length pc] 29)) := (Below.refl _ _).alloc (Nat.le_refl _) _
      have hX14 := hX13.below hbN
      have hm14 := hm13.up hbN
      have hr14 := ownsRow_up hr13' hbN
      have hbel14 := hbel13.trans (hbN.mono hbel13.size)
      replace hbel13 := hbel13.size
      go_upto_region 17 with fail
      obtain ⟨BN, hBN⟩ : ∃ b, wr.heap.size = b := ⟨_, rfl⟩
      obtain ⟨w14, hw14⟩ : ∃ W, wr.alloc (.cells #[.slice ea ne ec, .slice fa nf fc, .slice wa nw wc, .slice pa l.length pc] 29) = W := ⟨_, rfl⟩
      rw [hw14] at kN hX14 hm14 hr14 hbel14
      rw [hBN] at kN
      rw [hw14, hBN]
      clear hw14 hbN hX13 hm13 hr13' m0 m1 m2 m3 hk hlt hge
      refine Go.wp_region_rel 4 (by kernel_rfl) (by kernel_rfl) (fun _ W => SmR w14 B4 (.slice pa l.length pc) W) (fun w w' => Below w.heap.size w w') (FUn w14 B4 pc l.length pa) (fun _ _ _ _ h g => h.kept g) ⟨(Below.refl _ _).drew, hm14.k.cell 3⟩ ?step17 ?tail17
      case step17 =>
        obtain ⟨n, hn⟩ : ∃ n, l.length = n := ⟨_, rfl⟩
        rw [hn]
        clear hX14 hm14 hr14 hbel14 kN
        intro i o hi ho c bb W hc hM hA hD K hK
        match i, hi, ho with
        | 0, _, ho =>
          cases ho
          go_simp
          refine (place_any 90 250 5 5 ⟨#[]⟩ W).mono ?_
          rintro e W' ⟨rfl, hb⟩
          go_simp
          exact hK _ W' rfl hb (hM.up hb)
        | 1, _, ho =>
          cases ho
          have f64 : bb.tmps[64]?.getD undef = .agg #[.int .i64 90, .int .i64 5, .int .i64 5, .string treeB, .string ⟨#[]⟩, .int .i64 250, .int .i64 1] := evalAt (v := .agg #[.int .i64 90, .int .i64 5, .int .i64 5, .string treeB, .string ⟨#[]⟩, .int .i64 250, .int .i64 1]) (dep_at hD 0 64 (by kernel_rfl) rfl rfl)
          go_simp
          exact hK (.slice (some ⟨W.heap.size, 0, none⟩) 1 1) _ ⟨_, rfl, hM.bel.size, Blk.new _ _ _⟩ ((Below.refl _ _).alloc (Nat.le_refl _) _) (hM.up ((Below.refl _ _).alloc (Nat.le_refl _) _))
        | 2, _, ho =>
          cases ho
          have f4 : bb.tmps[4]?.getD undef = .pointer (some ⟨B4, 0, none⟩) := evalAt (v := .pointer (some ⟨B4, 0, none⟩)) (hA.at_ (k := 4) (by kernel_rfl))
          go_simp
          exact hK (.pointer (some ⟨B4, 3, none⟩)) W rfl (Below.refl _ _) hM
        | 3, _, ho =>
          cases ho
          have f66 : bb.tmps[66]?.getD undef = .pointer (some ⟨B4, 3, none⟩) := evalAt (v := .pointer (some ⟨B4, 3, none⟩)) (dep_at hD 2 66 (by kernel_rfl) rfl rfl)
          have z0 : W.cell? ⟨B4, 3, none⟩ = some (.slice pa n pc) := hM.c
          go_simp
          exact hK (.slice pa n pc) W rfl (Below.refl _ _) hM
        | i + 4, hi, _ => exact absurd hi (by omega)
      case tail17 =>
        intro bb W' hM hA hall
        obtain ⟨L, h65, hLl, kL⟩ := (show ∃ L, bb.eval (.tmp 65) = .slice (some ⟨L, 0, none⟩) 1 1 ∧ w14.heap.size ≤ L ∧ Blk W' L #[.int .i64 90, .int .i64 5, .int .i64 5, .string treeB, .string ⟨#[]⟩, .int .i64 250, .int .i64 1] 41 from hall 1 (by omega) _ _ rfl rfl)
        have h67 : bb.eval (.tmp 67) = .slice pa l.length pc := hall 3 (by omega) _ _ rfl rfl
        have hfr := hA.frame [true, true, true, true, true, true, true, true, true, true, true, true, true, true, true, true, true, true, true, true, true, true, true, true, true, true, true, true, true, true, true, true, true, true, true, true, true, true, true, true, true, true, true, true, true, true, true, true, true, true, true, true, true, true, true, true, true, true, true, true, true, true, true, true, false, false, false, false, true, true, true, true, true, true, true, true, true, true, true, true, true, true, true] _ rfl (by kernel_rfl)
        clear hall hA
        obtain ⟨f, hf⟩ : ∃ f : Nat → Value, (fun k => bb.tmps.getD k undef) = f := ⟨_, rfl⟩
        have g65 : f 65 = .slice (some ⟨L, 0, none⟩) 1 1 := by rw [← hf, ← h65]; rfl
        have g67 : f 67 = .slice pa l.length pc := by rw [← hf, ← h67]; rfl
        rw [hf] at hfr
        clear hf h65 h67
        subst hfr
        simp only [pickL, g65, g67, Nat.reduceAdd]
        clear g65 g67
        simp only [List.drop_succ_cons, List.drop_zero]
        have hbx := hM.bel
        have hm15 := hm14.up hbx
        have hNl := kN.lt
        have hsl := hm15.r
        clear hM
        refine El.join plOk plIn (by rfl) _ _ (by rfl) w14.heap.size (by rfl) [p90] (single_row plOk kL hLl) ⟨_, _, rfl⟩ l (by rfl) (lst_of_row plOk hsl (by omega)) hfp (by simp; omega) hbx.size ?_
        rintro v16 w16 hr16 hg16 hb16 ⟨g16, c16, rfl⟩
        have hb146 := hbx.trans hb16
        have hX16 := hX14.below hb146
        have hrw16 := ownsRow_up hr14 hb146
        have hbel16 := hbel14.trans (hb146.mono hbel14.size)
        have kN16 := kN.below hb146 hNl
        have q3 : w16.cell? ⟨BN, 3, none⟩ = some (.slice pa l.length pc) := kN16.cell 3
        have f3 := kN16.frozen 3
        replace hr16 : w16.ownsRow w14.heap.size 41 7 (.slice (some ⟨g16, 0, none⟩) (l.length + 1) c16) (p90 :: l).length ((p90 :: l).flatMap plE.enc) := hr16
        have hg17 := grown_setCell w16 BN 3 (.slice (some ⟨g16, 0, none⟩) (l.length + 1) c16)
        have hX17 := hX16.turn hg17 (fun k e => by cases e; exact ⟨_, _, kN16, by decide, by decide⟩)
        have hrw17 := hrw16.kept hg17 (.inr (ownsRow_other hrw16 kN16 (by decide)))
        have hm17 : MapV w14.heap.size (w16.setCell ⟨BN, 3, none⟩ (.slice (some ⟨g16, 0, none⟩) (l.length + 1) c16)) BN (.slice ea ne ec) (.slice fa nf fc) (.slice wa nw wc) (.slice (some ⟨g16, 0, none⟩) (l.length + 1) c16) (p90 :: l) := ⟨by simpa using kN16.set 3 (.slice (some ⟨g16, 0, none⟩) (l.length + 1) c16), hr16.kept hg17 (.inr (ownsRow_other hr16 kN16 (by decide)))⟩
        have hBNw : w.heap.size ≤ BN := by rw [← hBN]; exact hbel13
        have hbel17 := hbel16.grown hg17 hbel16.size (fun k e => by cases e; exact hBNw)
        clear hm15 hsl hX14 hm14 hr14 hbel14 kN hbx hb16 hb146 hr16 hg16 hX16 hrw16 hbel16 kL hg17
        go_upto_region 18 with fail
        obtain ⟨w17, hw17⟩ : ∃ W, w16.setCell ⟨BN, 3, none⟩ (.slice (some ⟨g16, 0, none⟩) (l.length + 1) c16) = W := ⟨_, rfl⟩
        rw [hw17] at hX17 hrw17 hm17 hbel17
        rw [hw17]
        clear hw17 kN16 q3 f3
        obtain ⟨cX, kX17⟩ := hX17.blk
        go_wp2_with (first
          | (go_at_call 9; (with_reducible refine (list_any BX sd ls _ hX17).mono ?_); rintro e w18 ⟨u18, rfl, hr18, hb18⟩; obtain ⟨a18, c18, rfl, -⟩ := (lst_of_row lbOk hr18 (by omega)).form; have hrw18 := ownsRow_up hrw17 hb18; have hsame := sameAll_eq _ _ ls _ _ w18 (lst_of_row lbOk hr18 (by omega)) (lst_of_row lbOk hrw18 (by omega)) (Nat.le_refl _) (Nat.le_refl _))
          | (go_at_call 13; (with_reducible refine hsame.mono ?_); rintro e w19 ⟨rfl, hb19⟩; have hb1719 := hb18.trans (hb19.mono hb18.size); have hX19 := hX17.below hb1719; have hm19 := hm17.up hb1719; have hbel19 := hbel17.trans (hb1719.mono hbel17.size); have n0 : w19.cell? ⟨BN, 0, none⟩ = some (.slice ea ne ec) := hm19.k.cell 0; have n1 : w19.cell? ⟨BN, 1, none⟩ = some (.slice fa nf fc) := hm19.k.cell 1; have n2 : w19.cell? ⟨BN, 2, none⟩ = some (.slice wa nw wc) := hm19.k.cell 2; have n3 : w19.cell? ⟨BN, 3, none⟩ = some (.slice (some ⟨g16, 0, none⟩) (l.length + 1) c16) := hm19.k.cell 3; have hch19 := change_same hX19 hm19.r (by simp; omega) (p90_ok hok.ok) hsk ((p90_seeds l).trans hsd.out) hsn (.slice ea ne ec) (.slice fa nf fc) (.slice wa nw wc))
          | (go_at_call 10; (with_reducible refine hch19.mono ?_); rintro e w20 ⟨rfl, hX20, hg20⟩; have hbel20 := turn_below hbel19 hg20 hBX)
          | fail)
        go_ret
        exact ⟨rfl, hbel20⟩
end Go.Proofs.Ytikojanpbbiaiaa
