/-
  DotsPlaces answers true for every argument: the walk.
-/
import Derived.Test.YtjfdbigkbgolmaaGreatDoorZQ
import Derived.Test.YtjfdbigkbgolmaaGreatDoorZy
import Derived.Test.YtjfdbigkbgolmaaGreatDoorZp
import Derived.Test.YtjfdbigkbgolmaaGreatDoorZl
import Derived.Test.YtjfdbigkbgolmaaGreatDoorZe

namespace Go.Proofs.YtjfdbigkbgolmaaGreatDoor
set_option linter.unusedVariables false
set_option linter.unusedSimpArgs false
open Go.RowKit Go.Shelf
attribute [local go_sem] Oper.semAt_some
attribute [local go_sem ↓] Go.wp_at_zero Go.wp_at_succ

theorem run_field_places (ea fa wa pa : Option Addr) (en ec fn fc wn wc pn pc : Nat) (W : World) : (Instr.field 39 (.agg #[.slice ea en ec, .slice fa fn fc, .slice wa wn wc, .slice pa pn pc]) 3).run Tryz.prog W = .ok (.slice pa pn pc) W := by kernel_rfl
attribute [local go_sem] run_field_places
theorem SL.place {S : BS} {W : World} {b off n cap : Nat} (hT : TW S W) (h : SL S W 27 (.slice (some ⟨b, off, none⟩) n cap) n) {k : Nat} (hk : k < n) : ∃ id x y cs ns wt ds, (W.cell? ⟨b, off + k * 7, none⟩ = some (.int .i64 id) ∧ W.cell? ⟨b, off + k * 7 + 1, none⟩ = some (.int .i64 x) ∧ W.cell? ⟨b, off + k * 7 + 2, none⟩ = some (.int .i64 y) ∧ W.cell? ⟨b, off + k * 7 + 3, none⟩ = some (.string cs) ∧ W.cell? ⟨b, off + k * 7 + 4, none⟩ = some (.string ns) ∧ W.cell? ⟨b, off + k * 7 + 5, none⟩ = some (.int .i64 wt) ∧ W.cell? ⟨b, off + k * 7 + 6, none⟩ = some (.int .i64 ds)) ∧ fits id ∧ fits x ∧ fits y ∧ cs.size ≤ 30 := by
  obtain ⟨u0, c0, h0⟩ := h.cell hT et_place hk 0 .int rfl
  obtain ⟨u1, c1, h1⟩ := h.cell hT et_place hk 1 .int rfl
  obtain ⟨u2, c2, h2⟩ := h.cell hT et_place hk 2 .int rfl
  obtain ⟨u3, c3, h3⟩ := h.cell hT et_place hk 3 .str rfl
  obtain ⟨u4, c4, h4⟩ := h.cell hT et_place hk 4 .any rfl
  obtain ⟨u5, c5, h5⟩ := h.cell hT et_place hk 5 .int rfl
  obtain ⟨u6, c6, h6⟩ := h.cell hT et_place hk 6 .int rfl
  obtain ⟨id, rfl, f0⟩ := h0.i rfl
  obtain ⟨x, rfl, f1⟩ := h1.i rfl
  obtain ⟨y, rfl, f2⟩ := h2.i rfl
  obtain ⟨cs, rfl, f3⟩ := h3.s rfl
  obtain ⟨ns, rfl⟩ := h4.a rfl
  obtain ⟨wt, rfl, f5⟩ := h5.i rfl
  obtain ⟨ds, rfl, f6⟩ := h6.i rfl
  exact ⟨id, x, y, cs, ns, wt, ds, ⟨c0, c1, c2, c3, c4, c5, c6⟩, f0, f1, f2, f3⟩

def FPl (pa : Option Addr) (np pc B10 B11 : Nat) (id x y x3 y3 wt ds : Int) (cl ns : ByteArray) (i : Nat) (v : Value) (g : BS) (w : World) : Prop :=
  match i with
  | 0 => SL g w 27 v 0
  | 1 => v = .slice pa np pc
  | 2 => v = .slice pa np pc
  | 3 => v = .int .i64 (np : Nat)
  | 4 => v = .int .i64 (np : Nat)
  | 5 => SL g w 27 v np
  | 6 => SL g w 27 v (0 + np)
  | 7 => v = .agg #[.int .i64 id, .int .i64 x, .int .i64 y, .string cl, .string ns, .int .i64 wt, .int .i64 ds]
  | 8 => v = .agg #[.int .i64 id, .int .i64 x3, .int .i64 y3, .string cl, .string ns, .int .i64 wt, .int .i64 ds]
  | 9 => SL g w 27 v 2
  | _ => False
theorem FPl.kept {pa : Option Addr} {np pc B10 B11 : Nat} {id x y x3 y3 wt ds : Int} {cl ns : ByteArray} {i : Nat} {v : Value} {g g' : BS} {w w' : World} (h : FPl pa np pc B10 B11 id x y x3 y3 wt ds cl ns i v g w) (hg : Ev noB g w g' w') : FPl pa np pc B10 B11 id x y x3 y3 wt ds cl ns i v g' w' := by
  unfold FPl at *
  split at h
  all_goals first | exact h | (exact hg.sl h)

def FPa (B8 b9 o9 n9 c9 ci B12 k : Nat) (sx sy ss sW sH sG pid px py pwt pds nk : Int) (pcs pns : ByteArray) (bo : Bool) (L : List Dt) (i : Nat) (v : Value) (w : World) : Prop :=
  match i with
  | 0 => v = .agg #[.int .i64 sx, .int .i64 sy, .int .i64 ss, .int .i64 sW, .int .i64 sH, .int .i64 sG]
  | 1 => v = .slice (some ⟨b9, o9, none⟩) n9 c9
  | 2 => v = .int .i64 (ci : Nat)
  | 3 => v = .pointer (some ⟨b9, o9 + ci * 7, none⟩)
  | 4 => v = .agg #[.int .i64 pid, .int .i64 px, .int .i64 py, .string pcs, .string pns, .int .i64 pwt, .int .i64 pds]
  | 5 => v = .int .i64 (k : Nat)
  | 6 => v = .pointer (some ⟨B12, k, none⟩)
  | 7 => v = .int .i64 nk
  | 8 => ∃ u, v = .tuple #[u, .bool bo] ∧ Dts w.heap.size w u L
  | 9 => ∃ u, v = .tuple #[u, .bool bo] ∧ Dts w.heap.size w u L
  | 10 => Dts w.heap.size w v L
  | 11 => v = .bool bo
  | 12 => Dts w.heap.size w v L
  | _ => False
theorem FPa.kept {B8 b9 o9 n9 c9 ci B12 k : Nat} {sx sy ss sW sH sG pid px py pwt pds nk : Int} {pcs pns : ByteArray} {bo : Bool} {L : List Dt} {i : Nat} {v : Value} {w w' : World} (h : FPa B8 b9 o9 n9 c9 ci B12 k sx sy ss sW sH sG pid px py pwt pds nk pcs pns bo L i v w) (hg : Below w.heap.size w w') : FPa B8 b9 o9 n9 c9 ci B12 k sx sy ss sW sH sG pid px py pwt pds nk pcs pns bo L i v w' := by
  unfold FPa at *
  split at h
  all_goals first | exact h | (obtain ⟨u, h1, h2⟩ := h; exact ⟨u, h1, h2.up hg hg.size⟩) | (exact h.up hg hg.size) | (exact h)

def FPb (B8 b9 o9 n9 c9 ci B12 k : Nat) (sx sy ss sW sH sG pid px py pwt pds nk : Int) (pcs pns : ByteArray) (bo : Bool) (L : List Dt) (i : Nat) (v : Value) (w : World) : Prop :=
  match i with
  | 0 => v = .agg #[.int .i64 sx, .int .i64 sy, .int .i64 ss, .int .i64 sW, .int .i64 sH, .int .i64 sG]
  | 1 => v = .slice (some ⟨b9, o9, none⟩) n9 c9
  | 2 => v = .int .i64 (ci : Nat)
  | 3 => v = .pointer (some ⟨b9, o9 + ci * 7, none⟩)
  | 4 => v = .agg #[.int .i64 pid, .int .i64 px, .int .i64 py, .string pcs, .string pns, .int .i64 pwt, .int .i64 pds]
  | 5 => v = .int .i64 (k : Nat)
  | 6 => v = .pointer (some ⟨B12, k, none⟩)
  | 7 => v = .int .i64 nk
  | 8 => ∃ u, v = .tuple #[u, .bool bo] ∧ Dts w.heap.size w u L
  | 9 => ∃ u, v = .tuple #[u, .bool bo] ∧ Dts w.heap.size w u L
  | 10 => Dts w.heap.size w v L
  | 11 => v = .bool bo
  | 12 => Dts w.heap.size w v L
  | _ => False
theorem FPb.kept {B8 b9 o9 n9 c9 ci B12 k : Nat} {sx sy ss sW sH sG pid px py pwt pds nk : Int} {pcs pns : ByteArray} {bo : Bool} {L : List Dt} {i : Nat} {v : Value} {w w' : World} (h : FPb B8 b9 o9 n9 c9 ci B12 k sx sy ss sW sH sG pid px py pwt pds nk pcs pns bo L i v w) (hg : Below w.heap.size w w') : FPb B8 b9 o9 n9 c9 ci B12 k sx sy ss sW sH sG pid px py pwt pds nk pcs pns bo L i v w' := by
  unfold FPb at *
  split at h
  all_goals first | exact h | (obtain ⟨u, h1, h2⟩ := h; exact ⟨u, h1, h2.up hg hg.size⟩) | (exact h.up hg hg.size) | (exact h)
theorem tb_two {S : BS} {W : World} {e : TypeId} {c1 c2 : Array Value} (h1 : TB S W e c1) (h2 : TB S W e c2) (hs : c1.size = sizeT e) : TB S W e (c1 ++ c2) := fun i u ct k1 k2 => by
  rw [Array.getElem?_append] at k1
  split at k1
  · exact h1 i u ct k1 k2
  · rename_i hlt
    refine h2 (i - c1.size) u ct k1 ?_
    have hm : (i - c1.size) % sizeT e = i % sizeT e := by
      rw [hs]
      rw [hs] at hlt
      conv => rhs; rw [show i = (i - sizeT e) + sizeT e from by omega]
      rw [Nat.add_mod_right]
    rw [hm]
    exact k2
theorem fits_tmod (x : Int) : fits (x.tmod 300) := by
  have h1 := Int.tmod_lt_of_pos x (show (0 : Int) < 300 by decide)
  have h2 := Int.lt_tmod_of_pos x (show (0 : Int) < 300 by decide)
  exact ⟨by omega, by omega⟩
theorem cells14 {W : World} {B : Nat} {a b c d e f g h i j k l m n : Value} {t : TypeId} (hb : Blk W B #[a, b, c, d, e, f, g, h, i, j, k, l, m, n] t) : W.cell? ⟨B, 0, none⟩ = some a ∧ W.cell? ⟨B, 1, none⟩ = some b ∧ W.cell? ⟨B, 2, none⟩ = some c ∧ W.cell? ⟨B, 3, none⟩ = some d ∧ W.cell? ⟨B, 4, none⟩ = some e ∧ W.cell? ⟨B, 5, none⟩ = some f ∧ W.cell? ⟨B, 6, none⟩ = some g ∧ W.cell? ⟨B, 7, none⟩ = some h ∧ W.cell? ⟨B, 8, none⟩ = some i ∧ W.cell? ⟨B, 9, none⟩ = some j ∧ W.cell? ⟨B, 10, none⟩ = some k ∧ W.cell? ⟨B, 11, none⟩ = some l ∧ W.cell? ⟨B, 12, none⟩ = some m ∧ W.cell? ⟨B, 13, none⟩ = some n :=
  ⟨hb.cell 0, hb.cell 1, hb.cell 2, hb.cell 3, hb.cell 4, hb.cell 5, hb.cell 6, hb.cell 7, hb.cell 8, hb.cell 9, hb.cell 10, hb.cell 11, hb.cell 12, hb.cell 13⟩
set_option maxRecDepth 100000 in
set_option maxHeartbeats 8000000 in
theorem dotsPlaces_any (lv mv : Value) (xs : List Int) (rows : List (Value × List Int)) (id x y : Int) (cs ns : ByteArray) (wt ds num ax ay st sw sh sg : Int) (w : World) (hI : Ints w.heap.size w lv xs) (hM : Mat w.heap.size w mv rows) (hr : LenOk rows.length)
    (f0 : fits id) (f1 : fits x) (f2 : fits y) (fwt : fits wt) (fds : fits ds) (f7 : fits num) (f8 : fits ax) (f9 : fits ay) (hcs : LenOk cs.size) (hP : Pow w) :
    Calls Tryz.prog 3 #[lv, mv, .agg (rawC id x y cs ns wt ds num ax ay st sw sh sg)] w fun e w' => e = .returned (.bool true) ∧ Below w.heap.size w w' := by
  have hm := madeF_made xs
  have hmade := fun W (h : Ints W.heap.size W lv xs) => made_any lv xs W h
  obtain ⟨s, hse⟩ : ∃ s, madeF xs = s := ⟨_, rfl⟩
  rw [hse] at hm hmade
  clear hse
  have hfs : fits s.ax ∧ fits s.ay := by
    obtain ⟨x0, x1, y0, y1, -⟩ := hm
    exact ⟨⟨by omega, by omega⟩, by omega, by omega⟩
  clear hm
  have hM0 := hM
  obtain ⟨la, lcap, rfl, hlc, -⟩ := hM
  obtain ⟨m, hm⟩ : ∃ m, min rows.length 10 = m := ⟨_, rfl⟩
  have hmI : min (rows.length : Int) 10 = (m : Nat) := by omega
  have hm0 : 0 ≤ (m : Int) := by omega
  have hmc : (m : Int) ≤ (lcap : Int) := by omega
  have hmn : m ≤ lcap := by omega
  have hmr : m ≤ rows.length := by omega
  replace hm := Lib.hid hm
  have ho := (OW.init (TW.none w)).box (rawC id x y cs ns wt ds num ax ay st sw sh sg) 31
  obtain ⟨B5, hB5⟩ : ∃ b, w.heap.size = b := ⟨_, rfl⟩
  rw [hB5] at ho
  go_enter Tryz.func3, Tryz.ntmps3
  go_upto_region 3 with (first
    | (go_at_call 5; refine (sanity_any _).mono ?_; rintro e w1 ⟨rfl, hb1⟩; have ho1 := ho.up hb1)
    | (go_at_call 6; with_reducible refine (hmade _ ?_).mono ?_; exact hI.up ho1.low ho1.low.size; rintro e w2 ⟨rfl, hb2⟩; have ho2 := ho1.up hb2)
    | fail)
  clear hb1 hb2 hB5 ho ho1
  obtain ⟨sx, sy, ss, sW, sH, sG⟩ := s
  simp only at hfs
  refine wp_world (fun W3 hW3 => ?_)
  obtain ⟨B8, hB8⟩ : ∃ b, w2.heap.size = b := ⟨_, rfl⟩
  have ho3 : OW noB w noB W3 [(B8, #[.int .i64 sx, .int .i64 sy, .int .i64 ss, .int .i64 sW, .int .i64 sH, .int .i64 sG], 29), (B5, rawC id x y cs ns wt ds num ax ay st sw sh sg, 31)] [] := by
    rw [hW3, ← hB8]
    exact ho2.box _ _
  rw [hB8]
  clear ho2 hW3 hB8
  have hM3 := ((hM0.take m hmr).below ho3.low).mono ho3.low.size
  go_upto_region 4 with (first
    | (go_at_call 7; (with_reducible refine (made10_any _ _ W3 hM3).mono ?_); rintro e W4 ⟨S4, ev, fv, wv, pv, rfl, ⟨⟨ne, hse, -⟩, ⟨nf, hsf, -⟩, ⟨nw, hsw, -⟩, np, hsp, hnp⟩, hev4⟩; have ho4 := (ho3.evo hev4).add hsp; obtain ⟨ea, ec, rfl, -⟩ := hse.form; obtain ⟨fa, fc, rfl, -⟩ := hsf.form; obtain ⟨wa, wc, rfl, -⟩ := hsw.form; clear hse hsf hsw)
    | fail)
  obtain ⟨pa, pc, rfl, hpc⟩ := hsp.form
  rw [run_field_places]
  go_upto_region 4 with fail
  clear ho3 hM3 hev4 hsp hmI hm0 hmc hmn hmr hm hM0 hlc hmade hI
  obtain ⟨r0, r1, r2, r3, r4, r5, r6, r7, r8, r9, r10, r11, r12, r13⟩ := cells14 ho4.b1
  go_upto_region 5 with fail
  refine wp_world (fun W5 hW5 => ?_)
  obtain ⟨B10, hB10⟩ : ∃ b, W4.heap.size = b := ⟨_, rfl⟩
  have ho5 := ho4.box (plC7 id x y cs ns wt ds) 27
  rw [← hW5, hB10] at ho5
  rw [hB10]
  clear ho4 hW5 hB10 r0 r1 r2 r3 r4 r5 r6 r7 r8 r9 r10 r11 r12 r13
  obtain ⟨q0, q1, q2, q3, q4, q5, q6⟩ := cells7 ho5.b0
  have qf := ho5.b0.frozen 3
  obtain ⟨c, hc⟩ : ∃ c, min cs.size 30 = c := ⟨_, rfl⟩
  have hcI : min (cs.size : Int) 30 = (c : Nat) := by omega
  have hc0 : 0 ≤ (c : Int) := by omega
  have hcc : (c : Int) ≤ (cs.size : Int) := by omega
  have hcn : c ≤ cs.size := by omega
  have hc30 : c ≤ 30 := by omega
  replace hc := Lib.hid hc
  go_upto_region 6 with fail
  have h30 : (cs.extract 0 c).size ≤ 30 := by rw [ByteArray.size_extract]; omega
  refine wp_world (fun W6 hW6 => ?_)
  have ho6 := ho5.put hW6 (c' := plC7 id x y (cs.extract 0 c) ns wt ds) rfl
  obtain ⟨cl, hcl⟩ : ∃ s, cs.extract 0 c = s := ⟨_, rfl⟩
  rw [hcl] at ho6 h30
  clear ho5 hW6 q0 q1 q2 q3 q4 q5 q6 qf hcI hc0 hcc hcn hc30 hc
  rw [hcl]
  clear hcl
  obtain ⟨q0, q1, q2, q3, q4, q5, q6⟩ := cells7 ho6.b0
  go_upto_region 7 with fail
  refine wp_world (fun W7 hW7 => ?_)
  obtain ⟨B11, hB11⟩ : ∃ b, W6.heap.size = b := ⟨_, rfl⟩
  have ho7 := ho6.box (plC7 id x y cl ns wt ds) 27
  rw [← hW7, hB11] at ho7
  rw [hB11]
  clear ho6 hW7 hB11 q0 q1 q2 q3 q4 q5 q6
  obtain ⟨q0, q1, q2, q3, q4, q5, q6⟩ := cells7 ho7.b1
  obtain ⟨p0, p1, p2, p3, p4, p5, p6⟩ := cells7 ho7.b0
  have pf1 := ho7.b0.frozen 1
  have pf2 := ho7.b0.frozen 2
  go_upto_region 8 with fail
  refine wp_world (fun W8 hW8 => ?_)
  have ho8 : OW noB w S4 W8 [(B11, plC7 id (x.tmod 300) (y.tmod 300) cl ns wt ds, 27), (B10, plC7 id x y cl ns wt ds, 27), (B8, #[.int .i64 sx, .int .i64 sy, .int .i64 ss, .int .i64 sW, .int .i64 sH, .int .i64 sG], 29), (B5, rawC id x y cs ns wt ds num ax ay st sw sh sg, 31)] [(27, .slice pa np pc, np)] := by
    rw [hW8]
    exact (ho7.set 1 _ rfl).set 2 _ rfl
  clear ho7 hW8 q0 q1 q2 q3 q4 q5 q6 p0 p1 p2 p3 p4 p5 p6 pf1 pf2
  have g1 : fits (x.tmod 300) := fits_tmod x
  have g2 : fits (y.tmod 300) := fits_tmod y
  obtain ⟨x3, hx3⟩ : ∃ z, x.tmod 300 = z := ⟨_, rfl⟩
  obtain ⟨y3, hy3⟩ : ∃ z, y.tmod 300 = z := ⟨_, rfl⟩
  rw [hx3] at ho8 g1
  rw [hy3] at ho8 g2
  rw [hx3, hy3]
  clear hx3 hy3
  have hnI : min (np : Int) 6 = (np : Nat) := by omega
  have hLL : (np : Int) ≤ 6 := by omega
  refine Go.wp_region_reln 10 (by kernel_rfl) (by kernel_rfl) (fun _ g W => OW noB w g W [(B11, plC7 id x3 y3 cl ns wt ds, 27), (B10, plC7 id x y cl ns wt ds, 27), (B8, #[.int .i64 sx, .int .i64 sy, .int .i64 ss, .int .i64 sW, .int .i64 sH, .int .i64 sG], 29), (B5, rawC id x y cs ns wt ds num ax ay st sw sh sg, 31)] [(27, .slice pa np pc, np)]) (fun g W g' W' => Ev noB g W g' W') (FPl pa np pc B10 B11 id x y x3 y3 wt ds cl ns) (fun _ _ _ _ _ _ h g => h.kept g) S4 ho8.drew ?_ ?_
  · clear ho8 hP hr hcs f7 f8 f9 hfs
    intro i o hi ho c bb g W hc hM hA hD K hK
    match i, hi, ho with
    | 0, _, ho =>
      cases ho
      have hE := Ev.alloc (X := noB) hM.tw (tb_nil (S := g) (W := W) (e := 27))
      go_simp
      exact hK (.slice (some ⟨W.heap.size, 0, none⟩) 0 0) _ _ (SL.blk (.inr rfl) (Blk.new _ _ _) (by simp)) hE (hM.evo hE)
    | 1, _, ho =>
      cases ho
      have f9 : bb.tmps[9]?.getD undef = .slice pa np pc := evalAt (v := .slice pa np pc) (hA.at_ (k := 9) (by kernel_rfl))
      go_simp
      exact hK (.slice pa np pc) g W rfl (Ev.refl hM.tw) hM
    | 2, _, ho =>
      cases ho
      have f9 : bb.tmps[9]?.getD undef = .slice pa np pc := evalAt (v := .slice pa np pc) (hA.at_ (k := 9) (by kernel_rfl))
      go_simp
      exact hK (.slice pa np pc) g W rfl (Ev.refl hM.tw) hM
    | 3, _, ho =>
      cases ho
      have f56 : bb.tmps[56]?.getD undef = .slice pa np pc := evalAt (v := .slice pa np pc) (dep_atN hD 2 56 (by kernel_rfl) rfl rfl)
      go_simp
      exact hK (.int .i64 (np : Nat)) g W rfl (Ev.refl hM.tw) hM
    | 4, _, ho =>
      cases ho
      have f57 : bb.tmps[57]?.getD undef = .int .i64 (np : Nat) := evalAt (v := .int .i64 (np : Nat)) (dep_atN hD 3 57 (by kernel_rfl) rfl rfl)
      go_simp
      exact hK (.int .i64 (np : Nat)) g W rfl (Ev.refl hM.tw) hM
    | 5, _, ho =>
      cases ho
      have f55 : bb.tmps[55]?.getD undef = .slice pa np pc := evalAt (v := .slice pa np pc) (dep_atN hD 1 55 (by kernel_rfl) rfl rfl)
      have f58 : bb.tmps[58]?.getD undef = .int .i64 (np : Nat) := evalAt (v := .int .i64 (np : Nat)) (dep_atN hD 4 58 (by kernel_rfl) rfl rfl)
      have e55 : bb.eval (.tmp 55) = .slice pa np pc := dep_atN hD 1 55 (by kernel_rfl) rfl rfl
      have e58 : bb.eval (.tmp 58) = .int .i64 (np : Nat) := dep_atN hD 4 58 (by kernel_rfl) rfl rfl
      rw [if_pos (by simp [Region.wanted])]
      exact wp_slice_high 37 _ _ rfl Tryz.underlying37 et_place e55 e58 hM.s0 (Nat.le_refl _) (fun v h1 => hK v g W h1 (Ev.refl hM.tw) hM)
    | 6, _, ho =>
      cases ho
      have f54 := dep_atN hD 0 54 (by kernel_rfl) rfl rfl
      have f59 := dep_atN hD 5 59 (by kernel_rfl) rfl rfl
      exact step_append_tw hM.tw rfl _ _ 37 rfl Tryz.underlying37 et_place rfl f54 rfl f59 (by omega) (fun v' S' w' h1 h2 => hK v' S' w' h1 h2 (hM.evo h2))
    | 7, _, ho =>
      cases ho
      have f10 : bb.tmps[10]?.getD undef = .pointer (some ⟨B10, 0, none⟩) := evalAt (v := .pointer (some ⟨B10, 0, none⟩)) (hA.at_ (k := 10) (by kernel_rfl))
      have z0 : W.cell? ⟨B10, 0, none⟩ = some (.int .i64 id) := hM.b1.cell 0
      have z1 : W.cell? ⟨B10, 1, none⟩ = some (.int .i64 x) := hM.b1.cell 1
      have z2 : W.cell? ⟨B10, 2, none⟩ = some (.int .i64 y) := hM.b1.cell 2
      have z3 : W.cell? ⟨B10, 3, none⟩ = some (.string cl) := hM.b1.cell 3
      have z4 : W.cell? ⟨B10, 4, none⟩ = some (.string ns) := hM.b1.cell 4
      have z5 : W.cell? ⟨B10, 5, none⟩ = some (.int .i64 wt) := hM.b1.cell 5
      have z6 : W.cell? ⟨B10, 6, none⟩ = some (.int .i64 ds) := hM.b1.cell 6
      go_simp
      exact hK (.agg #[.int .i64 id, .int .i64 x, .int .i64 y, .string cl, .string ns, .int .i64 wt, .int .i64 ds]) g W rfl (Ev.refl hM.tw) hM
    | 8, _, ho =>
      cases ho
      have f11 : bb.tmps[11]?.getD undef = .pointer (some ⟨B11, 0, none⟩) := evalAt (v := .pointer (some ⟨B11, 0, none⟩)) (hA.at_ (k := 11) (by kernel_rfl))
      have z0 : W.cell? ⟨B11, 0, none⟩ = some (.int .i64 id) := hM.b0.cell 0
      have z1 : W.cell? ⟨B11, 1, none⟩ = some (.int .i64 x3) := hM.b0.cell 1
      have z2 : W.cell? ⟨B11, 2, none⟩ = some (.int .i64 y3) := hM.b0.cell 2
      have z3 : W.cell? ⟨B11, 3, none⟩ = some (.string cl) := hM.b0.cell 3
      have z4 : W.cell? ⟨B11, 4, none⟩ = some (.string ns) := hM.b0.cell 4
      have z5 : W.cell? ⟨B11, 5, none⟩ = some (.int .i64 wt) := hM.b0.cell 5
      have z6 : W.cell? ⟨B11, 6, none⟩ = some (.int .i64 ds) := hM.b0.cell 6
      go_simp
      exact hK (.agg #[.int .i64 id, .int .i64 x3, .int .i64 y3, .string cl, .string ns, .int .i64 wt, .int .i64 ds]) g W rfl (Ev.refl hM.tw) hM
    | 9, _, ho =>
      cases ho
      have f61 : bb.tmps[61]?.getD undef = .agg #[.int .i64 id, .int .i64 x, .int .i64 y, .string cl, .string ns, .int .i64 wt, .int .i64 ds] := evalAt (v := .agg #[.int .i64 id, .int .i64 x, .int .i64 y, .string cl, .string ns, .int .i64 wt, .int .i64 ds]) (dep_atN hD 7 61 (by kernel_rfl) rfl rfl)
      have f62 : bb.tmps[62]?.getD undef = .agg #[.int .i64 id, .int .i64 x3, .int .i64 y3, .string cl, .string ns, .int .i64 wt, .int .i64 ds] := evalAt (v := .agg #[.int .i64 id, .int .i64 x3, .int .i64 y3, .string cl, .string ns, .int .i64 wt, .int .i64 ds]) (dep_atN hD 8 62 (by kernel_rfl) rfl rfl)
      have hTB : TB g W 27 #[.int .i64 id, .int .i64 x, .int .i64 y, .string cl, .string ns, .int .i64 wt, .int .i64 ds, .int .i64 id, .int .i64 x3, .int .i64 y3, .string cl, .string ns, .int .i64 wt, .int .i64 ds] := tb_two (tb_place f0 f1 f2 h30 fwt fds) (tb_place f0 g1 g2 h30 fwt fds) rfl
      have hE := Ev.alloc (X := noB) hM.tw hTB
      go_simp
      exact hK (.slice (some ⟨W.heap.size, 0, none⟩) 2 2) _ _ (SL.blk (.inr rfl) (Blk.new _ _ _) (by show 2 * 7 ≤ 14; omega)) hE (hM.evo hE)
    | i + 10, hi, _ => exact absurd hi (by omega)
  · intro bb g W hM hA hall
    have h6 : SL g W 27 (bb.eval (.tmp 60)) (0 + np) := hall 6 (by omega) _ _ rfl rfl
    have h9 : SL g W 27 (bb.eval (.tmp 63)) 2 := hall 9 (by omega) _ _ rfl rfl
    obtain ⟨va, hva⟩ : ∃ v, bb.eval (.tmp 60) = v := ⟨_, rfl⟩
    obtain ⟨vb, hvb⟩ : ∃ v, bb.eval (.tmp 63) = v := ⟨_, rfl⟩
    rw [hva] at h6
    rw [hvb] at h9
    have hfr := hA.frame [true, true, true, true, true, true, true, true, true, true, true, true, true, true, true, true, true, true, true, true, true, true, true, true, true, true, true, true, true, true, true, true, true, true, true, true, true, true, true, true, true, true, true, true, true, true, true, true, true, true, true, true, true, true, false, false, false, false, false, false, false, false, false, false, true, true, true, true, true, true, true, true, true, true, true, true, true, true, true, true, true, true, true, true, true, true, true, true, true, true, true, true, true, true, true, true, true, true, true, true, true, true, true, true, true, true, true, true, true, true, true, true, true, true, true, true, true, true, true, true, true, true, true, true, true, true, true, true, true, true, true, true, true, true, true, true, true] _ rfl (by kernel_rfl)
    clear hall hA
    obtain ⟨f, hf⟩ : ∃ f : Nat → Value, (fun k => bb.tmps.getD k undef) = f := ⟨_, rfl⟩
    have g60 : f 60 = va := by rw [← hf, ← hva]; rfl
    have g63 : f 63 = vb := by rw [← hf, ← hvb]; rfl
    rw [hf] at hfr
    clear hf hva hvb
    subst hfr
    simp only [pickL, g60, g63, Nat.reduceAdd]
    clear g60 g63
    simp only [List.drop_succ_cons, List.drop_zero]
    clear ho8
    go_upto_region 9 with (first
      | (at_builtin; refine wpList_append_tw (X := noB) hM.tw (by rfl) _ _ 37 (by rfl) Tryz.underlying37 et_place (by rfl) h6 (by rfl) h9 (by omega) ?_; intro v9 S9 W9 hsl9 he9)
      | fail)
    have ho9 := (hM.evo he9).tailT.add hsl9
    clear hM he9 hsl9 h6 h9
    obtain ⟨r0, r1, r2, r3, r4, r5, r6, r7, r8, r9, r10, r11, r12, r13⟩ := cells14 ho9.tail.tail.tail.b0
    go_upto_region 10 with fail
    refine wp_world (fun WB hWB => ?_)
    have hoB := ho9.box #[.int .i64 num, .int .i64 (num.tmod 1000), .int .i64 (num.tmod 12)] 41
    obtain ⟨B12, hB12⟩ : ∃ b, W9.heap.size = b := ⟨_, rfl⟩
    rw [← hWB, hB12] at hoB
    rw [hB12]
    clear ho9 hWB hB12 r0 r1 r2 r3 r4 r5 r6 r7 r8 r9 r10 r11 r12 r13
    have hBw := hoB.low
    have hTB := hoB.tw
    have hsl := hoB.s0
    have kN := hoB.b0
    have kA := hoB.tail.b0
    have kS := hoB.tail.tail.tail.b0
    have kR := hoB.tail.tail.tail.tail.b0
    have hPB := hP.below hBw
    obtain ⟨n9, hn9⟩ : ∃ n, 0 + np + 2 = n := ⟨_, rfl⟩
    rw [hn9] at hsl
    have hn8 : n9 ≤ 8 := by omega
    obtain ⟨b9, o9, c9, rfl, hc9, -⟩ := hsl.some_ (by omega)
    have hnum : ∀ k, k < 3 → ∃ z, ∀ X, Below WB.heap.size WB X → X.cell? ⟨B12, k, none⟩ = some (.int .i64 z) := fun k hk => by
      match k, hk with
      | 0, _ => exact ⟨_, fun X hX => (kN.below hX kN.lt).cell 0⟩
      | 1, _ => exact ⟨_, fun X hX => (kN.below hX kN.lt).cell 1⟩
      | 2, _ => exact ⟨_, fun X hX => (kN.below hX kN.lt).cell 2⟩
    have hkS : ∀ X, Below WB.heap.size WB X → Blk X B8 #[.int .i64 sx, .int .i64 sy, .int .i64 ss, .int .i64 sW, .int .i64 sH, .int .i64 sG] 29 := fun X hX => kS.below hX kS.lt
    have hpl : ∀ i, i < n9 → ∃ id x y cs ns wt ds, (∀ X, Below WB.heap.size WB X → X.cell? ⟨b9, o9 + i * 7, none⟩ = some (.int .i64 id) ∧ X.cell? ⟨b9, o9 + i * 7 + 1, none⟩ = some (.int .i64 x) ∧ X.cell? ⟨b9, o9 + i * 7 + 2, none⟩ = some (.int .i64 y) ∧ X.cell? ⟨b9, o9 + i * 7 + 3, none⟩ = some (.string cs) ∧ X.cell? ⟨b9, o9 + i * 7 + 4, none⟩ = some (.string ns) ∧ X.cell? ⟨b9, o9 + i * 7 + 5, none⟩ = some (.int .i64 wt) ∧ X.cell? ⟨b9, o9 + i * 7 + 6, none⟩ = some (.int .i64 ds)) ∧ fits id ∧ cs.size ≤ 1000 := fun i hi => by
      obtain ⟨id, x, y, cs, ns, wt, ds, ⟨c0, c1, c2, c3, c4, c5, c6⟩, g0, -, -, hs⟩ := SL.place hTB hsl hi
      have lt : b9 < WB.heap.size := World.block_lt_of_cell? _ _ c0
      exact ⟨id, x, y, cs, ns, wt, ds, fun X hX => ⟨(hX.cell (p := ⟨b9, _, none⟩) lt).trans c0, (hX.cell (p := ⟨b9, _, none⟩) lt).trans c1, (hX.cell (p := ⟨b9, _, none⟩) lt).trans c2, (hX.cell (p := ⟨b9, _, none⟩) lt).trans c3, (hX.cell (p := ⟨b9, _, none⟩) lt).trans c4, (hX.cell (p := ⟨b9, _, none⟩) lt).trans c5, (hX.cell (p := ⟨b9, _, none⟩) lt).trans c6⟩, g0, by omega⟩
    clear hoB hTB hsl kN kS hP
    go_wp2_with fail
    go_loopw [13] (fun t wr => ∃ i : Nat, i ≤ n9 ∧ t = .int .i64 (i : Nat) ∧ Below WB.heap.size WB wr) (fun t _ => n9 - (intOf t).toNat)
    case atStart => exact ⟨0, Nat.zero_le _, rfl, Below.refl _ _⟩
    case round =>
      obtain ⟨ci, hi, rfl, hB⟩ := hrel
      by_cases hlt : ci < n9
      · have hltI : (ci : Int) < (n9 : Int) := by omega
        obtain ⟨pid, px, py, pcs, pns, pwt, pds, hcells, fpid, hpcs⟩ := hpl ci hlt
        go_wp2_with fail
        go_loopw [14] (fun t wr => ∃ k : Nat, k ≤ 3 ∧ t = .int .i64 (k : Nat) ∧ Below WB.heap.size WB wr) (fun t _ => 3 - (intOf t).toNat)
        case atStart => exact ⟨0, Nat.zero_le _, rfl, hB⟩
        case round =>
          clear hB
          obtain ⟨k, hk, rfl, hB⟩ := hrel
          by_cases hltk : k < 3
          · have hltkI : (k : Int) < 3 := by omega
            obtain ⟨nk, hnk⟩ := hnum k hltk
            have hcA := fun X (hX : Below WB.heap.size WB X) => place_dts ⟨sx, sy, ss, sW, sH, sG⟩ pid px py pwt pds nk pcs pns X hfs.1 hfs.2 fpid hpcs (hPB.below hX)
            have hcB := fun X (hX : Below WB.heap.size WB X) => rplace_dts ⟨sx, sy, ss, sW, sH, sG⟩ pid px py pwt pds nk pcs pns X fpid hpcs
            obtain ⟨⟨bo, L⟩, hpf⟩ : ∃ p, plF ⟨sx, sy, ss, sW, sH, sG⟩ px py pid pcs nk = p := ⟨_, rfl⟩
            rw [hpf] at hcA hcB
            simp only at hcA hcB
            clear hpf
            go_upto_region 16 with fail
            refine Go.wp_region_rel 13 (by kernel_rfl) (by kernel_rfl) (fun _ W => Below WB.heap.size WB W) (fun w w' => Below w.heap.size w w') (FPa B8 b9 o9 n9 c9 ci B12 k sx sy ss sW sH sG pid px py pwt pds nk pcs pns bo L) (fun _ _ _ _ h g => h.kept g) hB.drew ?_ ?_
            · clear hB hpl kA kR hnum hcB hPB
              intro j o hj ho c bb W hc hM hA hD K hK
              match j, hj, ho with
              | 0, _, ho =>
                cases ho
                have f8 : bb.tmps[8]?.getD undef = .pointer (some ⟨B8, 0, none⟩) := evalAt (v := .pointer (some ⟨B8, 0, none⟩)) (hA.at_ (k := 8) (by kernel_rfl))
                have z0 : W.cell? ⟨B8, 0, none⟩ = some (.int .i64 sx) := (hkS W hM).cell 0
                have z1 : W.cell? ⟨B8, 1, none⟩ = some (.int .i64 sy) := (hkS W hM).cell 1
                have z2 : W.cell? ⟨B8, 2, none⟩ = some (.int .i64 ss) := (hkS W hM).cell 2
                have z3 : W.cell? ⟨B8, 3, none⟩ = some (.int .i64 sW) := (hkS W hM).cell 3
                have z4 : W.cell? ⟨B8, 4, none⟩ = some (.int .i64 sH) := (hkS W hM).cell 4
                have z5 : W.cell? ⟨B8, 5, none⟩ = some (.int .i64 sG) := (hkS W hM).cell 5
                go_simp
                exact hK (.agg #[.int .i64 sx, .int .i64 sy, .int .i64 ss, .int .i64 sW, .int .i64 sH, .int .i64 sG]) W rfl (Below.refl _ _) hM
              | 1, _, ho =>
                cases ho
                have f9 : bb.tmps[9]?.getD undef = .slice (some ⟨b9, o9, none⟩) n9 c9 := evalAt (v := .slice (some ⟨b9, o9, none⟩) n9 c9) (hA.at_ (k := 9) (by kernel_rfl))
                go_simp
                exact hK (.slice (some ⟨b9, o9, none⟩) n9 c9) W rfl (Below.refl _ _) hM
              | 2, _, ho =>
                cases ho
                have f13 : bb.tmps[13]?.getD undef = .int .i64 (ci : Nat) := evalAt (v := .int .i64 (ci : Nat)) (hA.at_ (k := 13) (by kernel_rfl))
                go_simp
                exact hK (.int .i64 (ci : Nat)) W rfl (Below.refl _ _) hM
              | 3, _, ho =>
                cases ho
                have f86 : bb.tmps[86]?.getD undef = .slice (some ⟨b9, o9, none⟩) n9 c9 := evalAt (v := .slice (some ⟨b9, o9, none⟩) n9 c9) (dep_at hD 1 86 (by kernel_rfl) rfl rfl)
                have f87 : bb.tmps[87]?.getD undef = .int .i64 (ci : Nat) := evalAt (v := .int .i64 (ci : Nat)) (dep_at hD 2 87 (by kernel_rfl) rfl rfl)
                go_simp
                exact hK (.pointer (some ⟨b9, o9 + ci * 7, none⟩)) W rfl (Below.refl _ _) hM
              | 4, _, ho =>
                cases ho
                have f88 : bb.tmps[88]?.getD undef = .pointer (some ⟨b9, o9 + ci * 7, none⟩) := evalAt (v := .pointer (some ⟨b9, o9 + ci * 7, none⟩)) (dep_at hD 3 88 (by kernel_rfl) rfl rfl)
                have z0 : W.cell? ⟨b9, o9 + ci * 7, none⟩ = some (.int .i64 pid) := (hcells W hM).1
                have z1 : W.cell? ⟨b9, o9 + ci * 7 + 1, none⟩ = some (.int .i64 px) := (hcells W hM).2.1
                have z2 : W.cell? ⟨b9, o9 + ci * 7 + 2, none⟩ = some (.int .i64 py) := (hcells W hM).2.2.1
                have z3 : W.cell? ⟨b9, o9 + ci * 7 + 3, none⟩ = some (.string pcs) := (hcells W hM).2.2.2.1
                have z4 : W.cell? ⟨b9, o9 + ci * 7 + 4, none⟩ = some (.string pns) := (hcells W hM).2.2.2.2.1
                have z5 : W.cell? ⟨b9, o9 + ci * 7 + 5, none⟩ = some (.int .i64 pwt) := (hcells W hM).2.2.2.2.2.1
                have z6 : W.cell? ⟨b9, o9 + ci * 7 + 6, none⟩ = some (.int .i64 pds) := (hcells W hM).2.2.2.2.2.2
                go_simp
                exact hK (.agg #[.int .i64 pid, .int .i64 px, .int .i64 py, .string pcs, .string pns, .int .i64 pwt, .int .i64 pds]) W rfl (Below.refl _ _) hM
              | 5, _, ho =>
                cases ho
                have f14 : bb.tmps[14]?.getD undef = .int .i64 (k : Nat) := evalAt (v := .int .i64 (k : Nat)) (hA.at_ (k := 14) (by kernel_rfl))
                go_simp
                exact hK (.int .i64 (k : Nat)) W rfl (Below.refl _ _) hM
              | 6, _, ho =>
                cases ho
                have f12 : bb.tmps[12]?.getD undef = .pointer (some ⟨B12, 0, none⟩) := evalAt (v := .pointer (some ⟨B12, 0, none⟩)) (hA.at_ (k := 12) (by kernel_rfl))
                have f90 : bb.tmps[90]?.getD undef = .int .i64 (k : Nat) := evalAt (v := .int .i64 (k : Nat)) (dep_at hD 5 90 (by kernel_rfl) rfl rfl)
                go_simp
                exact hK (.pointer (some ⟨B12, k, none⟩)) W rfl (Below.refl _ _) hM
              | 7, _, ho =>
                cases ho
                have f91 : bb.tmps[91]?.getD undef = .pointer (some ⟨B12, k, none⟩) := evalAt (v := .pointer (some ⟨B12, k, none⟩)) (dep_at hD 6 91 (by kernel_rfl) rfl rfl)
                have z0 : W.cell? ⟨B12, k, none⟩ = some (.int .i64 nk) := hnk W hM
                go_simp
                exact hK (.int .i64 nk) W rfl (Below.refl _ _) hM
              | 8, _, ho =>
                cases ho
                have f85 : bb.tmps[85]?.getD undef = .agg #[.int .i64 sx, .int .i64 sy, .int .i64 ss, .int .i64 sW, .int .i64 sH, .int .i64 sG] := evalAt (v := .agg #[.int .i64 sx, .int .i64 sy, .int .i64 ss, .int .i64 sW, .int .i64 sH, .int .i64 sG]) (dep_at hD 0 85 (by kernel_rfl) rfl rfl)
                have f89 : bb.tmps[89]?.getD undef = .agg #[.int .i64 pid, .int .i64 px, .int .i64 py, .string pcs, .string pns, .int .i64 pwt, .int .i64 pds] := evalAt (v := .agg #[.int .i64 pid, .int .i64 px, .int .i64 py, .string pcs, .string pns, .int .i64 pwt, .int .i64 pds]) (dep_at hD 4 89 (by kernel_rfl) rfl rfl)
                have f92 : bb.tmps[92]?.getD undef = .int .i64 nk := evalAt (v := .int .i64 nk) (dep_at hD 7 92 (by kernel_rfl) rfl rfl)
                go_simp
                refine (hcA W hM).mono ?_
                rintro e W' ⟨u, rfl, hd9, hb9⟩
                go_simp
                exact hK (.tuple #[u, .bool bo]) W' ⟨u, rfl, hd9⟩ hb9 (hM.trans (hb9.mono hM.size))
              | 9, _, ho =>
                cases ho
                have f93 := dep_at hD 8 93 (by kernel_rfl) rfl rfl
                obtain ⟨u, e93, hd9⟩ := f93
                have f93 := evalAt e93
                go_simp
                exact hK (.tuple #[u, .bool bo]) W ⟨u, rfl, hd9⟩ (Below.refl _ _) hM
              | 10, _, ho =>
                cases ho
                have f84 := dep_at hD 9 84 (by kernel_rfl) rfl rfl
                obtain ⟨u, e84, hd9⟩ := f84
                have f84 := evalAt e84
                go_simp
                exact hK u W hd9 (Below.refl _ _) hM
              | 11, _, ho =>
                cases ho
                have f84 := dep_at hD 9 84 (by kernel_rfl) rfl rfl
                obtain ⟨u, e84, hd9⟩ := f84
                have f84 := evalAt e84
                go_simp
                exact hK (.bool bo) W rfl (Below.refl _ _) hM
              | 12, _, ho =>
                cases ho
                have f94 := dep_at hD 10 94 (by kernel_rfl) rfl rfl
                obtain ⟨uv, e94⟩ : ∃ v, bb.eval (.tmp 94) = v := ⟨_, rfl⟩
                rw [e94] at f94
                have hd9 : Dts W.heap.size W uv L := f94
                have f94 := evalAt e94
                go_simp
                exact hK uv W hd9 (Below.refl _ _) hM
              | i + 13, hi, _ => exact absurd hi (by omega)
            · intro bb WA hMA hA hall
              have hda : Dts WA.heap.size WA (bb.eval (.tmp 15)) L := hall 12 (by omega) _ _ rfl rfl
              have hP11 : bb.eval (.tmp 95) = .bool bo := hall 11 (by omega) _ _ rfl rfl
              obtain ⟨va, hva⟩ : ∃ v, bb.eval (.tmp 15) = v := ⟨_, rfl⟩
              rw [hva] at hda
              have hfr := hA.frame [true, true, true, true, true, true, true, true, true, true, true, true, true, true, true, false, true, true, true, true, true, true, true, true, true, true, true, true, true, true, true, true, true, true, true, true, true, true, true, true, true, true, true, true, true, true, true, true, true, true, true, true, true, true, true, true, true, true, true, true, true, true, true, true, true, true, true, true, true, true, true, true, true, true, true, true, true, true, true, true, true, true, true, true, false, false, false, false, false, false, false, false, false, false, false, false, true, true, true, true, true, true, true, true, true, true, true, true, true, true, true, true, true, true, true, true, true, true, true, true, true, true, true, true, true, true, true, true, true, true, true, true, true, true, true, true, true] _ rfl (by kernel_rfl)
              clear hall hA
              obtain ⟨f, hf⟩ : ∃ f : Nat → Value, (fun k => bb.tmps.getD k undef) = f := ⟨_, rfl⟩
              have g15 : f 15 = va := by rw [← hf, ← hva]; rfl
              have g95 : f 95 = .bool bo := by rw [← hf, ← hP11]; rfl
              rw [hf] at hfr
              clear hf hva hP11
              subst hfr
              simp only [pickL, g15, g95, Nat.reduceAdd]
              clear g15 g95
              simp only [List.drop_succ_cons, List.drop_zero]
              clear hB hcA
              go_upto_region 17 with fail
              refine Go.wp_region_rel 13 (by kernel_rfl) (by kernel_rfl) (fun _ X => Below WA.heap.size WA X) (fun w w' => Below w.heap.size w w') (FPb B8 b9 o9 n9 c9 ci B12 k sx sy ss sW sH sG pid px py pwt pds nk pcs pns bo L) (fun _ _ _ _ h g => h.kept g) (Below.refl _ _).drew ?_ ?_
              · clear hpl kA kR hnum hPB hda
                intro j o hj ho c bb W hc hM2 hA hD K hK
                have hM := hMA.trans (hM2.mono hMA.size)
                match j, hj, ho with
                | 0, _, ho =>
                  cases ho
                  have f8 : bb.tmps[8]?.getD undef = .pointer (some ⟨B8, 0, none⟩) := evalAt (v := .pointer (some ⟨B8, 0, none⟩)) (hA.at_ (k := 8) (by kernel_rfl))
                  have z0 : W.cell? ⟨B8, 0, none⟩ = some (.int .i64 sx) := (hkS W hM).cell 0
                  have z1 : W.cell? ⟨B8, 1, none⟩ = some (.int .i64 sy) := (hkS W hM).cell 1
                  have z2 : W.cell? ⟨B8, 2, none⟩ = some (.int .i64 ss) := (hkS W hM).cell 2
                  have z3 : W.cell? ⟨B8, 3, none⟩ = some (.int .i64 sW) := (hkS W hM).cell 3
                  have z4 : W.cell? ⟨B8, 4, none⟩ = some (.int .i64 sH) := (hkS W hM).cell 4
                  have z5 : W.cell? ⟨B8, 5, none⟩ = some (.int .i64 sG) := (hkS W hM).cell 5
                  go_simp
                  exact hK (.agg #[.int .i64 sx, .int .i64 sy, .int .i64 ss, .int .i64 sW, .int .i64 sH, .int .i64 sG]) W rfl (Below.refl _ _) hM2
                | 1, _, ho =>
                  cases ho
                  have f9 : bb.tmps[9]?.getD undef = .slice (some ⟨b9, o9, none⟩) n9 c9 := evalAt (v := .slice (some ⟨b9, o9, none⟩) n9 c9) (hA.at_ (k := 9) (by kernel_rfl))
                  go_simp
                  exact hK (.slice (some ⟨b9, o9, none⟩) n9 c9) W rfl (Below.refl _ _) hM2
                | 2, _, ho =>
                  cases ho
                  have f13 : bb.tmps[13]?.getD undef = .int .i64 (ci : Nat) := evalAt (v := .int .i64 (ci : Nat)) (hA.at_ (k := 13) (by kernel_rfl))
                  go_simp
                  exact hK (.int .i64 (ci : Nat)) W rfl (Below.refl _ _) hM2
                | 3, _, ho =>
                  cases ho
                  have f98 : bb.tmps[98]?.getD undef = .slice (some ⟨b9, o9, none⟩) n9 c9 := evalAt (v := .slice (some ⟨b9, o9, none⟩) n9 c9) (dep_at hD 1 98 (by kernel_rfl) rfl rfl)
                  have f99 : bb.tmps[99]?.getD undef = .int .i64 (ci : Nat) := evalAt (v := .int .i64 (ci : Nat)) (dep_at hD 2 99 (by kernel_rfl) rfl rfl)
                  go_simp
                  exact hK (.pointer (some ⟨b9, o9 + ci * 7, none⟩)) W rfl (Below.refl _ _) hM2
                | 4, _, ho =>
                  cases ho
                  have f100 : bb.tmps[100]?.getD undef = .pointer (some ⟨b9, o9 + ci * 7, none⟩) := evalAt (v := .pointer (some ⟨b9, o9 + ci * 7, none⟩)) (dep_at hD 3 100 (by kernel_rfl) rfl rfl)
                  have z0 : W.cell? ⟨b9, o9 + ci * 7, none⟩ = some (.int .i64 pid) := (hcells W hM).1
                  have z1 : W.cell? ⟨b9, o9 + ci * 7 + 1, none⟩ = some (.int .i64 px) := (hcells W hM).2.1
                  have z2 : W.cell? ⟨b9, o9 + ci * 7 + 2, none⟩ = some (.int .i64 py) := (hcells W hM).2.2.1
                  have z3 : W.cell? ⟨b9, o9 + ci * 7 + 3, none⟩ = some (.string pcs) := (hcells W hM).2.2.2.1
                  have z4 : W.cell? ⟨b9, o9 + ci * 7 + 4, none⟩ = some (.string pns) := (hcells W hM).2.2.2.2.1
                  have z5 : W.cell? ⟨b9, o9 + ci * 7 + 5, none⟩ = some (.int .i64 pwt) := (hcells W hM).2.2.2.2.2.1
                  have z6 : W.cell? ⟨b9, o9 + ci * 7 + 6, none⟩ = some (.int .i64 pds) := (hcells W hM).2.2.2.2.2.2
                  go_simp
                  exact hK (.agg #[.int .i64 pid, .int .i64 px, .int .i64 py, .string pcs, .string pns, .int .i64 pwt, .int .i64 pds]) W rfl (Below.refl _ _) hM2
                | 5, _, ho =>
                  cases ho
                  have f14 : bb.tmps[14]?.getD undef = .int .i64 (k : Nat) := evalAt (v := .int .i64 (k : Nat)) (hA.at_ (k := 14) (by kernel_rfl))
                  go_simp
                  exact hK (.int .i64 (k : Nat)) W rfl (Below.refl _ _) hM2
                | 6, _, ho =>
                  cases ho
                  have f12 : bb.tmps[12]?.getD undef = .pointer (some ⟨B12, 0, none⟩) := evalAt (v := .pointer (some ⟨B12, 0, none⟩)) (hA.at_ (k := 12) (by kernel_rfl))
                  have f102 : bb.tmps[102]?.getD undef = .int .i64 (k : Nat) := evalAt (v := .int .i64 (k : Nat)) (dep_at hD 5 102 (by kernel_rfl) rfl rfl)
                  go_simp
                  exact hK (.pointer (some ⟨B12, k, none⟩)) W rfl (Below.refl _ _) hM2
                | 7, _, ho =>
                  cases ho
                  have f103 : bb.tmps[103]?.getD undef = .pointer (some ⟨B12, k, none⟩) := evalAt (v := .pointer (some ⟨B12, k, none⟩)) (dep_at hD 6 103 (by kernel_rfl) rfl rfl)
                  have z0 : W.cell? ⟨B12, k, none⟩ = some (.int .i64 nk) := hnk W hM
                  go_simp
                  exact hK (.int .i64 nk) W rfl (Below.refl _ _) hM2
                | 8, _, ho =>
                  cases ho
                  have f97 : bb.tmps[97]?.getD undef = .agg #[.int .i64 sx, .int .i64 sy, .int .i64 ss, .int .i64 sW, .int .i64 sH, .int .i64 sG] := evalAt (v := .agg #[.int .i64 sx, .int .i64 sy, .int .i64 ss, .int .i64 sW, .int .i64 sH, .int .i64 sG]) (dep_at hD 0 97 (by kernel_rfl) rfl rfl)
                  have f101 : bb.tmps[101]?.getD undef = .agg #[.int .i64 pid, .int .i64 px, .int .i64 py, .string pcs, .string pns, .int .i64 pwt, .int .i64 pds] := evalAt (v := .agg #[.int .i64 pid, .int .i64 px, .int .i64 py, .string pcs, .string pns, .int .i64 pwt, .int .i64 pds]) (dep_at hD 4 101 (by kernel_rfl) rfl rfl)
                  have f104 : bb.tmps[104]?.getD undef = .int .i64 nk := evalAt (v := .int .i64 nk) (dep_at hD 7 104 (by kernel_rfl) rfl rfl)
                  go_simp
                  refine (hcB W hM).mono ?_
                  rintro e W' ⟨u, rfl, hd9, hb9⟩
                  go_simp
                  exact hK (.tuple #[u, .bool bo]) W' ⟨u, rfl, hd9⟩ hb9 (hM2.trans (hb9.mono hM2.size))
                | 9, _, ho =>
                  cases ho
                  have f105 := dep_at hD 8 105 (by kernel_rfl) rfl rfl
                  obtain ⟨u, e105, hd9⟩ := f105
                  have f105 := evalAt e105
                  go_simp
                  exact hK (.tuple #[u, .bool bo]) W ⟨u, rfl, hd9⟩ (Below.refl _ _) hM2
                | 10, _, ho =>
                  cases ho
                  have f96 := dep_at hD 9 96 (by kernel_rfl) rfl rfl
                  obtain ⟨u, e96, hd9⟩ := f96
                  have f96 := evalAt e96
                  go_simp
                  exact hK u W hd9 (Below.refl _ _) hM2
                | 11, _, ho =>
                  cases ho
                  have f96 := dep_at hD 9 96 (by kernel_rfl) rfl rfl
                  obtain ⟨u, e96, hd9⟩ := f96
                  have f96 := evalAt e96
                  go_simp
                  exact hK (.bool bo) W rfl (Below.refl _ _) hM2
                | 12, _, ho =>
                  cases ho
                  have f106 := dep_at hD 10 106 (by kernel_rfl) rfl rfl
                  obtain ⟨uv, e106⟩ : ∃ v, bb.eval (.tmp 106) = v := ⟨_, rfl⟩
                  rw [e106] at f106
                  have hd9 : Dts W.heap.size W uv L := f106
                  have f106 := evalAt e106
                  go_simp
                  exact hK uv W hd9 (Below.refl _ _) hM2
                | i + 13, hi, _ => exact absurd hi (by omega)
              · intro bb W2 hM2 hA hall
                have hdb : Dts W2.heap.size W2 (bb.eval (.tmp 17)) L := hall 12 (by omega) _ _ rfl rfl
                have hP11 : bb.eval (.tmp 107) = .bool bo := hall 11 (by omega) _ _ rfl rfl
                obtain ⟨vb, hvb⟩ : ∃ v, bb.eval (.tmp 17) = v := ⟨_, rfl⟩
                rw [hvb] at hdb
                have hfr := hA.frame [true, true, true, true, true, true, true, true, true, true, true, true, true, true, true, true, true, false, true, true, true, true, true, true, true, true, true, true, true, true, true, true, true, true, true, true, true, true, true, true, true, true, true, true, true, true, true, true, true, true, true, true, true, true, true, true, true, true, true, true, true, true, true, true, true, true, true, true, true, true, true, true, true, true, true, true, true, true, true, true, true, true, true, true, true, true, true, true, true, true, true, true, true, true, true, true, false, false, false, false, false, false, false, false, false, false, false, false, true, true, true, true, true, true, true, true, true, true, true, true, true, true, true, true, true, true, true, true, true, true, true, true, true, true, true, true, true] _ rfl (by kernel_rfl)
                clear hall hA
                obtain ⟨f2, hf⟩ : ∃ f : Nat → Value, (fun k => bb.tmps.getD k undef) = f := ⟨_, rfl⟩
                have g17 : f2 17 = vb := by rw [← hf, ← hvb]; rfl
                have g107 : f2 107 = .bool bo := by rw [← hf, ← hP11]; rfl
                rw [hf] at hfr
                clear hf hvb hP11
                subst hfr
                simp only [pickL, g17, g107, Nat.reduceAdd]
                clear g17 g107
                simp only [List.drop_succ_cons, List.drop_zero]
                have hB2 := hMA.trans (hM2.mono hMA.size)
                have hsm := same_yes W2 (hda.up hM2 hM2.size) hdb
                clear hda hdb hM2 hMA hcells hnk hcB hpl hnum hkS
                cases bo
                all_goals
                  go_wp2_with (first
                    | (go_at_call 10; (with_reducible refine hsm.mono ?_); rintro e W3 ⟨rfl, hb3⟩)
                    | fail)
                  go_roundw
                  case rel => exact ⟨k + 1, by omega, by go_num, hB2.trans (hb3.mono hB2.size)⟩
                  case measure => simp [intOf]; try omega
          · obtain rfl : k = 3 := by omega
            go_wp2_with fail
            go_roundw
            case rel => exact ⟨ci + 1, by omega, by go_num, hB⟩
            case measure => simp [intOf]; try omega
      · have hge : ¬ (ci : Int) < (n9 : Int) := by omega
        have kA1 := kA.below hB kA.lt
        have kR1 := kR.below hB kR.lt
        obtain ⟨p0, p1, p2, p3, p4, p5, p6⟩ := cells7 kA1
        obtain ⟨r0, r1, r2, r3, r4, r5, r6, r7, r8, r9, r10, r11, r12, r13⟩ := cells14 kR1
        have hcA := place_dts ⟨ax, ay, st, sw, sh, sg⟩ id x3 y3 wt ds 1 cl ns wr f8 f9 f0 (by omega) (hPB.below hB)
        have hcB := fun X => rplace_dts ⟨ax, ay, st, sw, sh, sg⟩ id x3 y3 wt ds 1 cl ns X f0 (by omega)
        obtain ⟨⟨bo, L⟩, hpf⟩ : ∃ p, plF ⟨ax, ay, st, sw, sh, sg⟩ x3 y3 id cl 1 = p := ⟨_, rfl⟩
        rw [hpf] at hcA hcB
        simp only at hcA hcB
        clear hpf hnum hkS hpl
        go_upto_region 21 with (first
          | (go_at_call 8; (with_reducible refine hcA.mono ?_); rintro e W3 ⟨u, rfl, -, hb3⟩)
          | fail)
        clear p0 p1 p2 p3 p4 p5 p6 r0 r1 r2 r3 r4 r5 r6 r7 r8 r9 r10 r11 r12 r13
        have hB3 := hB.trans (hb3.mono hB.size)
        have kA3 := kA.below hB3 kA.lt
        have kR3 := kR.below hB3 kR.lt
        obtain ⟨p0, p1, p2, p3, p4, p5, p6⟩ := cells7 kA3
        obtain ⟨r0, r1, r2, r3, r4, r5, r6, r7, r8, r9, r10, r11, r12, r13⟩ := cells14 kR3
        cases bo
        all_goals
          go_wp2_with (first
            | (go_at_call 9; (with_reducible refine (hcB W3).mono ?_); rintro e W4 ⟨u2, rfl, -, hb4⟩)
            | fail)
          go_ret
          exact ⟨rfl, hBw.trans ((hB3.trans (hb4.mono hB3.size)).mono hBw.size)⟩
end Go.Proofs.YtjfdbigkbgolmaaGreatDoor
