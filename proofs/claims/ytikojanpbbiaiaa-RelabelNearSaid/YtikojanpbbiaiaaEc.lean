/-
  Chapter 24: RelabelNear walked.
-/
import Derived.Test.YtikojanpbbiaiaaNm
import Derived.Test.YtikojanpbbiaiaaEb

namespace Go.Proofs.Ytikojanpbbiaiaa
set_option linter.unusedVariables false
set_option linter.unusedSimpArgs false
open Go Go.RowKit Go.Shelf Go.Lib
attribute [local go_sem] Oper.semAt_some
attribute [local go_sem ↓] Go.wp_at_zero Go.wp_at_succ

section
variable {α : Type} {E : El α} {W : World} {n0 : Nat} {a : Option Addr} {cap k : Nat} {l : List α}
theorem elst_head (hL : Lst E n0 W (.slice a l.length cap) l) (hF : Frm (.slice a l.length cap) l.length) (hk : k ≤ l.length) : Lst E n0 W (.slice a k cap) (l.take k) ∧ Frm (.slice a k cap) (l.take k).length := by
  refine ⟨hL.take k hk, ?_⟩
  rw [List.length_take, Nat.min_eq_left hk]
  rcases hF.or with ⟨rfl, h0, rfl⟩ | ⟨b, o, rfl⟩
  · obtain rfl : k = 0 := by omega
    exact .inl rfl
  · exact .inr ⟨b, o, cap, rfl⟩
theorem elst_tail (hL : Lst E n0 W (.slice a l.length cap) l) (hF : Frm (.slice a l.length cap) l.length) (hk : k ≤ l.length) : Lst E n0 W (.slice (if cap = k then a else a.map (·.add (k * E.s))) (l.length - k) (cap - k)) (l.drop k) ∧ Frm (.slice (if cap = k then a else a.map (·.add (k * E.s))) (l.length - k) (cap - k)) (l.drop k).length := by
  rw [List.length_drop]
  have hc : l.length ≤ cap := by
    obtain ⟨a0, c0, e, hc⟩ := hL.form
    simp only [Value.slice.injEq] at e
    omega
  split
  · rename_i he
    subst he
    have h0 : l.drop cap = [] := List.drop_eq_nil_of_le hc
    have h1 : l.length - cap = 0 := by omega
    rw [h0, h1, Nat.sub_self]
    rcases hF.or with ⟨rfl, -, -⟩ | ⟨b, o, rfl⟩
    · exact ⟨Lst.nil _ _ _, .inl rfl⟩
    · exact ⟨⟨_, _, rfl, Nat.le_refl _, by simp, fun j hj => by simp at hj⟩, .inr ⟨_, _, _, rfl⟩⟩
  · rename_i he
    rcases hF.or with ⟨rfl, h0, rfl⟩ | ⟨b, o, rfl⟩
    · omega
    · have h1 := Lst.drop hL k hk
      have e : (Option.map (fun x : Addr => x.add (k * E.s)) (some ⟨b, o, none⟩)) = some ⟨b, o + k * E.s, none⟩ := by rw [Option.map_some, Addr.add_lit]
      rw [e]
      exact ⟨h1, .inr ⟨b, o + k * E.s, cap - k, rfl⟩⟩
end
/-- what the region that leaves a place out reads -/
structure NeR (wr : World) (B6 : Nat) (v : Value) (l : List Pc) (W : World) : Prop where
  bel : Below wr.heap.size wr W
  c : W.cell? ⟨B6, 3, none⟩ = some v
  v : Lst plE W.heap.size W v l
theorem NeR.up {wr W W' : World} {B6 : Nat} {v : Value} {l : List Pc} (h : NeR wr B6 v l W) (hb : Below W.heap.size W W') : NeR wr B6 v l W' := ⟨h.bel.trans (hb.mono h.bel.size), cell_below hb h.c, h.v.up hb⟩
theorem nRun_len (pid : Int) (ys : List Lb) : ∀ k, k ≤ ys.length → (nRun pid (ys.take k)).C.length ≤ k ∧ (nRun pid (ys.take k)).m ≤ k
  | 0, _ => by rw [List.take_zero]; exact ⟨Nat.le_refl _, Nat.le_refl _⟩
  | k + 1, h => by
    obtain ⟨h1, h2⟩ := nRun_len pid ys k (by omega)
    rw [nRun_succ (List.getElem?_eq_getElem (by omega))]
    unfold nStep
    split
    · exact ⟨by simp; omega, by simp; omega⟩
    · split
      · exact ⟨by simp; omega, by simp; omega⟩
      · omega
/-- what the law's loop carries -/
def NeI (w0 : World) (pid : Int) (ls : List Lb) (cv bv mv kk : Value) (wr : World) : Prop :=
  ∃ i : Nat, i ≤ ls.length ∧ kk = .int .i64 (i : Nat) ∧ wr.ownsRow w0.heap.size 39 6 cv (nRun pid (ls.take i)).C.length ((nRun pid (ls.take i)).C.flatMap lbE.enc) ∧ bv = .bool (nRun pid (ls.take i)).bh ∧ mv = .int .i64 ((nRun pid (ls.take i)).m : Nat) ∧ Below w0.heap.size w0 wr

def FNe (wr : World) (l : List Pc) (pa : Option Addr) (B6 pc k : Nat) (i : Nat) (v : Value) (w : World) : Prop :=
  match i with
  | 0 => ∃ Z, v = .slice (some ⟨Z, 0, none⟩) 0 0 ∧ wr.heap.size ≤ Z ∧ Blk w Z #[] 41
  | 1 => v = .pointer (some ⟨B6, 3, none⟩)
  | 2 => v = .slice pa l.length pc
  | 3 => v = .int .i64 (k : Nat)
  | 4 => v = .slice pa k pc
  | 5 => ∃ g c, v = .slice (some ⟨g, 0, none⟩) (l.take k).length c ∧ w.ownsRow wr.heap.size 41 7 v (l.take k).length ((l.take k).flatMap plE.enc)
  | 6 => v = .pointer (some ⟨B6, 3, none⟩)
  | 7 => v = .slice pa l.length pc
  | 8 => v = .int .i64 (k : Nat)
  | 9 => v = .int .i64 ((k : Nat) + 1)
  | 10 => Lst plE w.heap.size w v (l.drop (k + 1)) ∧ Frm v (l.drop (k + 1)).length
  | _ => False
theorem FNe.kept {wr : World} {l : List Pc} {pa : Option Addr} {B6 pc k : Nat} {i : Nat} {v : Value} {w w' : World} (h : FNe wr l pa B6 pc k i v w) (hg : Below w.heap.size w w') : FNe wr l pa B6 pc k i v w' := by
  unfold FNe at *
  split at h
  all_goals first | exact h | (obtain ⟨Z, h1, h2, h3⟩ := h; exact ⟨Z, h1, h2, h3.below hg h3.lt⟩) | (obtain ⟨g, c, h1, h2⟩ := h; exact ⟨g, c, h1, ownsRow_up h2 hg⟩) | (exact ⟨h.1.up hg, h.2⟩)

set_option maxRecDepth 100000 in
set_option maxHeartbeats 16000000 in
theorem near_law (la : Option Addr) (lcap : Nat) (rows : List (Value × List Int)) (x0 : Int) (p0 : 0 ≤ x0) (p1 : x0 ≤ 255) (w : World) (hM : Mat w.heap.size w (.slice la rows.length lcap) rows) :
    Calls Try.prog 3 #[.slice la rows.length lcap, .int .u8 x0] w fun e w' => e = .returned (.bool true) ∧ Below w.heap.size w w' := by
  obtain ⟨_, _, e_, hlc, -⟩ := id hM
  cases e_
  obtain ⟨m, hm⟩ : ∃ m, min rows.length 8 = m := ⟨_, rfl⟩
  have hmI : min (rows.length : Int) 8 = (m : Nat) := by omega
  have hm0 : 0 ≤ (m : Int) := by omega
  have hmc : (m : Int) ≤ (lcap : Int) := by omega
  have hmn : m ≤ lcap := by omega
  have hml : m ≤ rows.length := by omega
  replace hm := Lib.hid hm
  go_enter Try.func3, Try.ntmps3
  go_upto_region 3 with (first
    | (go_at_call 6; (with_reducible refine (sanity_any _).mono ?_); rintro e w1 ⟨rfl, hb1⟩; have hM1 := ((hM.below hb1).mono hb1.size).take m hml)
    | (go_at_call 7; (with_reducible refine (made10v_any _ _ _ hM1).mono ?_); rintro e w2 ⟨S2, ev, fv, wv, pv, l, rfl, ⟨⟨ne, hse, -⟩, ⟨nf, hsf, -⟩, nw, hsw, -⟩, hl6, hok, hr2, -, hev2⟩; have hb2 := hev2.lowN; obtain ⟨ea, ec, rfl, -⟩ := hse.form; obtain ⟨fa, fc, rfl, -⟩ := hsf.form; obtain ⟨wa, wc, rfl, -⟩ := hsw.form; have hfp := frm_row hr2; obtain ⟨pa, pc, rfl, hpc⟩ := (lst_of_row plOk hr2 (by omega)).form; clear hse hsf hsw hev2)
    | fail)
  have hbel := hb1.trans (hb2.mono hb1.size)
  have kB := Blk.new w2 #[.slice ea ne ec, .slice fa nf fc, .slice wa nw wc, .slice pa l.length pc] 29
  have hb3 : Below w2.heap.size w2 (w2.alloc (.cells #[.slice ea ne ec, .slice fa nf fc, .slice wa nw wc, .slice pa l.length pc] 29)) := (Below.refl _ _).alloc (Nat.le_refl _) _
  have hm3 : MapV w.heap.size _ _ _ _ _ _ l := ⟨kB, ownsRow_base (ownsRow_up hr2 hb3) hb1.size⟩
  have hbel3 := hbel.trans (hb3.mono hbel.size)
  obtain ⟨B6, hB6⟩ : ∃ b, w2.heap.size = b := ⟨_, rfl⟩
  obtain ⟨w3, hw3⟩ : ∃ W, w2.alloc (.cells #[.slice ea ne ec, .slice fa nf fc, .slice wa nw wc, .slice pa l.length pc] 29) = W := ⟨_, rfl⟩
  rw [hw3] at hm3 hbel3
  rw [hB6] at hm3
  rw [hw3, hB6]
  clear hw3 hB6 hb1 hb2 hb3 hr2 hM hM1 hbel kB
  have hl19 : l.length ≤ 19 := by omega
  have hnd := PlsOk.nodup hok.id
  have m0 : w3.cell? ⟨B6, 0, none⟩ = some (.slice ea ne ec) := hm3.k.cell 0
  have m1 : w3.cell? ⟨B6, 1, none⟩ = some (.slice fa nf fc) := hm3.k.cell 1
  have m2 : w3.cell? ⟨B6, 2, none⟩ = some (.slice wa nw wc) := hm3.k.cell 2
  have m3 : w3.cell? ⟨B6, 3, none⟩ = some (.slice pa l.length pc) := hm3.k.cell 3
  by_cases hl0 : 0 < l.length
  · have hl0I : ¬ (l.length : Int) = 0 := by omega
    have hx0 : wrap64 x0 = x0 := IntWalk.wrap64_in _ (by omega)
    have kN := Blk.new w3 #[.slice ea ne ec, .slice fa nf fc, .slice wa nw wc, .slice pa l.length pc] 29
    have hbN : Below w3.heap.size w3 (w3.alloc (.cells #[.slice ea ne ec, .slice fa nf fc, .slice wa nw wc, .slice pa l.length pc] 29)) := (Below.refl _ _).alloc (Nat.le_refl _) _
    have hm4 := hm3.up hbN
    have hbel4 := hbel3.trans (hbN.mono hbel3.size)
    go_upto_region 7 with fail
    obtain ⟨k, hk, hkl⟩ : ∃ k : Nat, x0 % (l.length : Int) = (k : Int) ∧ k < l.length := ⟨(x0 % (l.length : Int)).toNat, by have := Int.emod_nonneg x0 hl0I; omega, by have h2 := Int.emod_nonneg x0 hl0I; have := Int.emod_lt_of_pos x0 (show (0 : Int) < (l.length : Int) by omega); omega⟩
    rw [hk]
    have hk1 : (k : Int) + 1 ≤ (l.length : Int) := by omega
    have hk0 : (k : Int) ≤ (pc : Int) := by omega
    have hk2 : (0 : Int) ≤ (k : Int) + 1 := by omega
    have hk3 : ((k : Int) + 1).toNat = k + 1 := by omega
    have hwk : IntKind.i64.wrap ((k : Int) + 1) = (k : Int) + 1 := wrap_in7 (by omega) (by omega)
    have hB8 : w.heap.size ≤ w3.heap.size := hbel3.size
    obtain ⟨B8, hB8e⟩ : ∃ b, w3.heap.size = b := ⟨_, rfl⟩
    obtain ⟨w4, hw4⟩ : ∃ W, w3.alloc (.cells #[.slice ea ne ec, .slice fa nf fc, .slice wa nw wc, .slice pa l.length pc] 29) = W := ⟨_, rfl⟩
    have h68 : B6 ≠ w3.heap.size := by have := hm3.k.lt; omega
    rw [hw4] at kN hm4 hbel4
    rw [hB8e] at kN hB8 h68
    rw [hw4, hB8e]
    clear hw4 hB8e hbN hm3 hbel3 m0 m1 m2 m3
    refine Go.wp_region_rel 11 (by kernel_rfl) (by kernel_rfl) (fun _ W => NeR w4 B6 (.slice pa l.length pc) l W) (fun w w' => Below w.heap.size w w') (FNe w4 l pa B6 pc k) (fun _ _ _ _ h g => h.kept g) ⟨(Below.refl _ _).drew, hm4.k.cell 3, (lst_of_row plOk hm4.r (by omega)).up (Below.refl _ _).drew⟩ ?step7 ?tail7
    case step7 =>
      clear hm4 hbel4 kN hok hnd
      intro i o hi ho c bb W hc hM hA hD K hK
      match i, hi, ho with
      | 0, _, ho =>
        cases ho
        go_simp
        exact hK (.slice (some ⟨W.heap.size, 0, none⟩) 0 0) _ ⟨_, rfl, hM.bel.size, Blk.new _ _ _⟩ ((Below.refl _ _).alloc (Nat.le_refl _) _) (hM.up ((Below.refl _ _).alloc (Nat.le_refl _) _))
      | 1, _, ho =>
        cases ho
        have f6 : bb.tmps[6]?.getD undef = .pointer (some ⟨B6, 0, none⟩) := evalAt (v := .pointer (some ⟨B6, 0, none⟩)) (hA.at_ (k := 6) (by kernel_rfl))
        go_simp
        exact hK (.pointer (some ⟨B6, 3, none⟩)) W rfl (Below.refl _ _) hM
      | 2, _, ho =>
        cases ho
        have f44 : bb.tmps[44]?.getD undef = .pointer (some ⟨B6, 3, none⟩) := evalAt (v := .pointer (some ⟨B6, 3, none⟩)) (dep_at hD 1 44 (by kernel_rfl) rfl rfl)
        have z0 : W.cell? ⟨B6, 3, none⟩ = some (.slice pa l.length pc) := hM.c
        go_simp
        exact hK (.slice pa l.length pc) W rfl (Below.refl _ _) hM
      | 3, _, ho =>
        cases ho
        have f7 : bb.tmps[7]?.getD undef = .int .i64 (k : Nat) := evalAt (v := .int .i64 (k : Nat)) (hA.at_ (k := 7) (by kernel_rfl))
        go_simp
        exact hK (.int .i64 (k : Nat)) W rfl (Below.refl _ _) hM
      | 4, _, ho =>
        cases ho
        have f45 : bb.tmps[45]?.getD undef = .slice pa l.length pc := evalAt (v := .slice pa l.length pc) (dep_at hD 2 45 (by kernel_rfl) rfl rfl)
        have f46 : bb.tmps[46]?.getD undef = .int .i64 (k : Nat) := evalAt (v := .int .i64 (k : Nat)) (dep_at hD 3 46 (by kernel_rfl) rfl rfl)
        go_simp
        exact hK (.slice pa k pc) W rfl (Below.refl _ _) hM
      | 5, _, ho =>
        cases ho
        have f43 := dep_at hD 0 43 (by kernel_rfl) rfl rfl
        have f47 : bb.tmps[47]?.getD undef = .slice pa k pc := evalAt (v := .slice pa k pc) (dep_at hD 4 47 (by kernel_rfl) rfl rfl)
        obtain ⟨Z, h1, h2, h3⟩ := f43
        obtain ⟨hL, hF⟩ := elst_head (k := k) hM.v hfp (by omega)
        refine El.step_fresh plOk plIn _ _ (by rfl) _ Z h1 (fresh_row h3 h2) _ (l.take k) (evalEq f47) hL hF (by rw [List.length_take]; omega) hM.bel.size ?_
        rintro v9 w9 hr9 hb9 ⟨g, c, e9, -⟩
        exact hK v9 w9 ⟨g, c, e9, hr9⟩ hb9 (hM.up hb9)
      | 6, _, ho =>
        cases ho
        have f6 : bb.tmps[6]?.getD undef = .pointer (some ⟨B6, 0, none⟩) := evalAt (v := .pointer (some ⟨B6, 0, none⟩)) (hA.at_ (k := 6) (by kernel_rfl))
        go_simp
        exact hK (.pointer (some ⟨B6, 3, none⟩)) W rfl (Below.refl _ _) hM
      | 7, _, ho =>
        cases ho
        have f49 : bb.tmps[49]?.getD undef = .pointer (some ⟨B6, 3, none⟩) := evalAt (v := .pointer (some ⟨B6, 3, none⟩)) (dep_at hD 6 49 (by kernel_rfl) rfl rfl)
        have z0 : W.cell? ⟨B6, 3, none⟩ = some (.slice pa l.length pc) := hM.c
        go_simp
        exact hK (.slice pa l.length pc) W rfl (Below.refl _ _) hM
      | 8, _, ho =>
        cases ho
        have f7 : bb.tmps[7]?.getD undef = .int .i64 (k : Nat) := evalAt (v := .int .i64 (k : Nat)) (hA.at_ (k := 7) (by kernel_rfl))
        go_simp
        exact hK (.int .i64 (k : Nat)) W rfl (Below.refl _ _) hM
      | 9, _, ho =>
        cases ho
        have f51 : bb.tmps[51]?.getD undef = .int .i64 (k : Nat) := evalAt (v := .int .i64 (k : Nat)) (dep_at hD 8 51 (by kernel_rfl) rfl rfl)
        go_simp
        exact hK (.int .i64 ((k : Nat) + 1)) W rfl (Below.refl _ _) hM
      | 10, _, ho =>
        cases ho
        have f50 : bb.tmps[50]?.getD undef = .slice pa l.length pc := evalAt (v := .slice pa l.length pc) (dep_at hD 7 50 (by kernel_rfl) rfl rfl)
        have f52 : bb.tmps[52]?.getD undef = .int .i64 ((k : Nat) + 1) := evalAt (v := .int .i64 ((k : Nat) + 1)) (dep_at hD 9 52 (by kernel_rfl) rfl rfl)
        have hT := elst_tail (k := k + 1) hM.v hfp (by omega)
        go_simp
        exact hK _ W hT (Below.refl _ _) hM
      | i + 11, hi, _ => exact absurd hi (by omega)
    case tail7 =>
      intro bb W' hM hA hall
      obtain ⟨g, c, h48, hr48⟩ := (show ∃ g c, bb.eval (.tmp 48) = .slice (some ⟨g, 0, none⟩) (l.take k).length c ∧ W'.ownsRow w4.heap.size 41 7 (bb.eval (.tmp 48)) (l.take k).length ((l.take k).flatMap plE.enc) from hall 5 (by omega) _ _ rfl rfl)
      obtain ⟨hL53, hF53⟩ := (show Lst plE W'.heap.size W' (bb.eval (.tmp 53)) (l.drop (k + 1)) ∧ Frm (bb.eval (.tmp 53)) (l.drop (k + 1)).length from hall 10 (by omega) _ _ rfl rfl)
      obtain ⟨v53, hv53⟩ : ∃ v, bb.eval (.tmp 53) = v := ⟨_, rfl⟩
      rw [h48] at hr48
      rw [hv53] at hL53 hF53
      have hfr := hA.frame [true, true, true, true, true, true, true, true, true, true, true, true, true, true, true, true, true, true, true, true, true, true, true, true, true, true, true, true, true, true, true, true, true, true, true, true, true, true, true, true, true, true, true, false, false, false, false, false, false, false, false, false, false, false, true, true, true, true, true, true, true, true, true, true, true, true, true, true, true, true, true, true, true, true, true, true, true, true, true, true, true, true, true, true, true, true, true, true, true, true, true, true, true, true, true, true, true, true, true, true, true, true, true, true, true, true, true, true, true, true, true, true, true, true, true, true, true, true, true, true, true, true, true, true, true, true, true, true, true, true, true, true, true, true, true] _ rfl (by kernel_rfl)
      clear hall hA
      obtain ⟨f, hf⟩ : ∃ f : Nat → Value, (fun k => bb.tmps.getD k undef) = f := ⟨_, rfl⟩
      have g48 : f 48 = .slice (some ⟨g, 0, none⟩) (l.take k).length c := by rw [← hf, ← h48]; rfl
      have g53 : f 53 = v53 := by rw [← hf, ← hv53]; rfl
      rw [hf] at hfr
      clear hf h48 hv53
      subst hfr
      simp only [pickL, g48, g53, Nat.reduceAdd]
      clear g48 g53
      simp only [List.drop_succ_cons, List.drop_zero]
      have hbx := hM.bel
      have hsum : (l.take k).length + (l.drop (k + 1)).length ≤ 100000 := by rw [List.length_take, List.length_drop]; omega
      have hNl := kN.lt
      clear hM
      refine El.join plOk plIn (by rfl) _ _ (by rfl) w4.heap.size (by rfl) (l.take k) hr48 ⟨_, _, rfl⟩ (l.drop (k + 1)) (by rfl) hL53 hF53 hsum hbx.size ?_
      rintro v9 w9 hr9 hg9 hb9 ⟨g9, c9, rfl⟩
      have hb49 := hbx.trans hb9
      have kN9 := kN.below hb49 hNl
      have hsplit : l = l.take k ++ l[k] :: l.drop (k + 1) := by
        conv => lhs; rw [← List.take_append_drop k l]
        rw [List.drop_eq_getElem_cons hkl]
      have hgk : l[k]? = some l[k] := List.getElem?_eq_getElem hkl
      obtain ⟨p, hp⟩ : ∃ p, l[k] = p := ⟨_, rfl⟩
      rw [hp] at hsplit hgk
      have hplain := near_plain (l1 := l.take k) (l2 := l.drop (k + 1)) (p := p) (by rw [← hsplit]; exact hnd)
      rw [← hsplit] at hplain
      have hok' : ∀ x ∈ l.take k ++ l.drop (k + 1), PcOk x := fun x hx => by
        rcases List.mem_append.1 hx with h | h
        · exact hok.ok x (List.mem_of_mem_take h)
        · exact hok.ok x (List.mem_of_mem_drop h)
      have hl'6 : (l.take k ++ l.drop (k + 1)).length ≤ 19 := by rw [List.length_append, List.length_take, List.length_drop]; omega
      obtain ⟨l', hl'⟩ : ∃ l', l.take k ++ l.drop (k + 1) = l' := ⟨_, rfl⟩
      rw [hl'] at hr9 hplain hok' hl'6
      rw [hl']
      have hg10 := grown_setCell w9 B8 3 (.slice (some ⟨g9, 0, none⟩) l'.length c9)
      have q3 : w9.cell? ⟨B8, 3, none⟩ = some (.slice pa l.length pc) := kN9.cell 3
      have f3 := kN9.frozen 3
      have hm9 := hm4.up hb49
      have hm10 : MapV w.heap.size (w9.setCell ⟨B8, 3, none⟩ (.slice (some ⟨g9, 0, none⟩) l'.length c9)) B6 (.slice ea ne ec) (.slice fa nf fc) (.slice wa nw wc) (.slice pa l.length pc) l := ⟨hm9.k.kept hg10 (by simpa using fun e => h68 e.symm), hm9.r.kept hg10 (.inr (ownsRow_other hm9.r kN9 (by decide)))⟩
      have hx10 : MapV w4.heap.size (w9.setCell ⟨B8, 3, none⟩ (.slice (some ⟨g9, 0, none⟩) l'.length c9)) B8 (.slice ea ne ec) (.slice fa nf fc) (.slice wa nw wc) (.slice (some ⟨g9, 0, none⟩) l'.length c9) l' := ⟨by simpa using kN9.set 3 (.slice (some ⟨g9, 0, none⟩) l'.length c9), hr9.kept hg10 (.inr (ownsRow_other hr9 kN9 (by decide)))⟩
      have hbel9 := hbel4.trans (hb49.mono hbel4.size)
      have hbel10 := hbel9.grown hg10 hbel9.size (fun q e => by cases e; exact hB8)
      clear hr9 hg9 hb9 hb49 kN kN9 hm4 hm9 hbel4 hbel9 hg10 hl' hr48 hL53 hF53 hbx hsum hsplit
      go_upto_region 8 with fail
      obtain ⟨w10, hw10⟩ : ∃ W, w9.setCell ⟨B8, 3, none⟩ (.slice (some ⟨g9, 0, none⟩) l'.length c9) = W := ⟨_, rfl⟩
      rw [hw10] at hm10 hx10 hbel10
      rw [hw10]
      clear hw10 q3 f3
      -- New, List, Change, List
      have hsk := seeds_key hok.ok
      have hnew := new_row hm10.r hl19 hok.ok rfl (chgL_nil l) (.slice ea ne ec) (.slice fa nf fc) (.slice wa nw wc)
      have hls19 : (makeL (queueL l)).length ≤ 19 := by rw [makeL_len]; exact Nat.le_trans (queueL_len l) hl19
      obtain ⟨ls, hls⟩ : ∃ x, makeL (queueL l) = x := ⟨_, rfl⟩
      obtain ⟨sd, hsd⟩ : ∃ x, seedsL l = x := ⟨_, rfl⟩
      obtain ⟨nx, hnx⟩ : ∃ x, seedsL l' = x := ⟨_, rfl⟩
      rw [hls] at hnew hls19 hplain
      rw [hsd] at hsk hnew hplain
      rw [hnx] at hplain
      have hnx19 : nx.length ≤ 19 := by rw [← hnx]; unfold seedsL; rw [List.length_map]; exact Nat.le_trans (queueL_len l') hl'6
      obtain ⟨now, hnow⟩ : ∃ x, chgL sd ls nx = x := ⟨_, rfl⟩
      obtain ⟨nn, hnn⟩ : ∃ x, (reachI sd nx nx.length).length = x := ⟨_, rfl⟩
      have hnow19 : now.length ≤ 19 := by rw [← hnow, chgL_len]; exact hnx19
      rw [hnow, hnn] at hplain
      obtain ⟨hpl1, hpl2⟩ := hplain
      replace hpl1 := Lib.hid hpl1
      replace hpl2 := Lib.hid hpl2
      clear hls hsd
      have m0 : w10.cell? ⟨B6, 0, none⟩ = some (.slice ea ne ec) := hm10.k.cell 0
      have m1 : w10.cell? ⟨B6, 1, none⟩ = some (.slice fa nf fc) := hm10.k.cell 1
      have m2 : w10.cell? ⟨B6, 2, none⟩ = some (.slice wa nw wc) := hm10.k.cell 2
      have m3 : w10.cell? ⟨B6, 3, none⟩ = some (.slice pa l.length pc) := hm10.k.cell 3
      go_upto_region 10 with (first
        | (go_at_call 8; (with_reducible refine hnew.mono ?_); rintro e w11 ⟨BX, rfl, hBX, hX11, hb11⟩; have hBXw : w.heap.size ≤ BX := Nat.le_trans hbel10.size hBX)
        | (go_at_call 9; (with_reducible refine (list_any BX sd ls _ hX11).mono ?_); rintro e w12 ⟨u12, rfl, hr12, hb12⟩; obtain ⟨ao, co, rfl, -⟩ := (lst_of_row lbOk hr12 (by omega)).form)
        | fail)
      have hb1012 := hb11.trans (hb12.mono hb11.size)
      have hX12 := hX11.below hb12
      have hm12 := hm10.up hb1012
      have hx12 := hx10.up hb1012
      have hbel12 := hbel10.trans (hb1012.mono hbel10.size)
      obtain ⟨cX, kX12⟩ := hX12.blk
      clear hnew hX11 hm10 hx10 hbel10 hb11 hb12 hb1012 m0 m1 m2 m3 hBX
      have hch := change_row hX12 hx12.r hl'6 hok' hsk hnx hnn hnow (.slice ea ne ec) (.slice fa nf fc) (.slice wa nw wc)
      have m0 : w12.cell? ⟨B8, 0, none⟩ = some (.slice ea ne ec) := hx12.k.cell 0
      have m1 : w12.cell? ⟨B8, 1, none⟩ = some (.slice fa nf fc) := hx12.k.cell 1
      have m2 : w12.cell? ⟨B8, 2, none⟩ = some (.slice wa nw wc) := hx12.k.cell 2
      have m3 : w12.cell? ⟨B8, 3, none⟩ = some (.slice (some ⟨g9, 0, none⟩) l'.length c9) := hx12.k.cell 3
      go_upto_region 12 with (first
        | (go_at_call 10; (with_reducible refine hch.mono ?_); rintro e w13 ⟨rfl, hX13, hg13⟩; have hm13 := hm12.kept hg13 kX12; have hr13 := hr12.kept hg13 (.inr (ownsRow_other hr12 kX12 (by decide))); have hbel13 := turn_below hbel12 hg13 hBXw)
        | (go_at_call 9; (with_reducible refine (list_any BX nx now _ hX13).mono ?_); rintro e w14 ⟨u14, rfl, hr14, hb14⟩; obtain ⟨an, cn, rfl, -⟩ := (lst_of_row lbOk hr14 (by omega)).form)
        | fail)
      have hm14 := hm13.up hb14
      have hro14 := lst_of_row lbOk (ownsRow_up hr13 hb14) (by omega)
      have hrn14 := lst_of_row lbOk hr14 (by omega)
      have hpl14 := lst_of_row plOk hm14.r (by omega)
      have k14 := hm14.k
      have hbel14 := hbel13.trans (hb14.mono hbel13.size)
      clear hch hX12 hm12 hx12 hbel12 kX12 hr12 hX13 hg13 hm13 hr13 hbel13 hr14 hb14 hm14 m0 m1 m2 m3 hnx hnn hnow hsk hok' hl'6 hnx19
      obtain ⟨pb, po, pcap, hv, -, hpb, hcc⟩ := hpl14.some_ hl0
      simp only [Value.slice.injEq, true_and] at hv
      obtain ⟨rfl, rfl⟩ := hv
      have hpc0 := hcc k hkl 0 (by decide)
      rw [hp] at hpc0
      replace hpc0 : w14.cell? ⟨pb, po + k * 7, none⟩ = some (.int .i64 p.id) := hpc0
      have h63 : w14.cell? ⟨B6, 3, none⟩ = some (.slice (some ⟨pb, po, none⟩) l.length pc) := k14.cell 3
      obtain ⟨pid, hpid⟩ : ∃ x, p.id = x := ⟨_, rfl⟩
      rw [hpid] at hpl1 hpl2 hpc0
      have hkI : (k : Int) < (l.length : Int) := by omega
      clear hcc hpl14 k14 hpid hgk hp hok hnd hx0 hk hk1 hk0 hk2 hk3 hwk h68
      go_wp2_with fail
      go_loopw [13, 14, 15, 67] (fun cv bv mv kk wr => NeI w14 pid ls cv bv mv kk wr) (fun _ _ _ kk _ => ls.length - (intOf kk).toNat)
      case atStart => exact ⟨0, Nat.zero_le _, rfl, ⟨by simp [nRun], .inl ⟨rfl, by simp [nRun]⟩⟩, rfl, rfl, Below.refl _ _⟩
      case round =>
        obtain ⟨i, hi, rfl, hrow, rfl, rfl, hB⟩ := hrel
        have hsz := hB.size
        by_cases hlt : i < ls.length
        · have hltI : (i : Int) < (ls.length : Int) := by omega
          obtain ⟨ob, oo, ocap, i2, x2, y2, r2, t2, u2, hv, hget, hobl, hzc⟩ := hro14.get hlt
          simp only [Value.slice.injEq, true_and] at hv
          obtain ⟨rfl, rfl⟩ := hv
          have hstep := nRun_succ (pid := pid) hget
          have hcond := hpl1.out i _ hget
          obtain ⟨hCl, hml⟩ := nRun_len pid ls i hi
          obtain ⟨t, ht⟩ : ∃ t, nRun pid (ls.take i) = t := ⟨_, rfl⟩
          rw [ht] at hrow hstep hcond hCl hml
          rw [ht]
          obtain ⟨C, bh, m2⟩ := t
          simp only at hrow hcond hCl hml
          simp only
          have hfr := (lst_of_row lbOk hrow (by omega)).form
          obtain ⟨ca, cc, rfl, hcc⟩ := hfr
          replace hstep := Lib.hid hstep
          replace hcond := Lib.hid hcond
          obtain ⟨z0, z1, z2, z3, z4, z5⟩ := hzc.below hB hobl
          have hbY : Below wr.heap.size wr (wr.alloc (.cells #[.int .i64 i2, .int .i64 x2, .int .i64 y2, .int .i64 r2, .string t2, .int .i64 u2] 39)) := (Below.refl _ _).alloc (Nat.le_refl _) _
          have kY := Blk.new wr #[.int .i64 i2, .int .i64 x2, .int .i64 y2, .int .i64 r2, .string t2, .int .i64 u2] 39
          have hrowY := ownsRow_up hrow hbY
          have hcB : ∀ g, (Value.slice ca C.length cc).ownBlock = some g → g < wr.heap.size := fun g e => (hrow.lt g e).2
          have hBY := hB.trans (hbY.mono hsz)
          go_upto_region 18 with fail
          obtain ⟨WY, hWY⟩ : ∃ W, wr.alloc (.cells #[.int .i64 i2, .int .i64 x2, .int .i64 y2, .int .i64 r2, .string t2, .int .i64 u2] 39) = W := ⟨_, rfl⟩
          obtain ⟨BY, hBYe⟩ : ∃ b, wr.heap.size = b := ⟨_, rfl⟩
          rw [hWY] at kY hrowY hBY
          rw [hBYe] at kY hcB hsz
          rw [hWY, hBYe]
          clear hWY hBYe hbY hB hrow z0 z1 z2 z3 z4 z5 hget hzc ht
          have y0 : WY.cell? ⟨BY, 0, none⟩ = some (.int .i64 i2) := kY.cell 0
          have y1 : WY.cell? ⟨BY, 1, none⟩ = some (.int .i64 x2) := kY.cell 1
          have y2' : WY.cell? ⟨BY, 2, none⟩ = some (.int .i64 y2) := kY.cell 2
          have y3 : WY.cell? ⟨BY, 3, none⟩ = some (.int .i64 r2) := kY.cell 3
          have y4 : WY.cell? ⟨BY, 4, none⟩ = some (.string t2) := kY.cell 4
          have y5 : WY.cell? ⟨BY, 5, none⟩ = some (.int .i64 u2) := kY.cell 5
          have p6 := cell_below hBY h63
          have pk := cell_below hBY hpc0
          by_cases hid : i2 = pid
          · subst hid
            have hst : nRun i2 (ls.take (i + 1)) = ⟨C ++ [⟨i2, x2, y2, r2, t2, u2⟩], true, m2⟩ := by rw [hstep.out]; unfold nStep; rw [if_pos rfl]
            have hszY := hBY.size
            have hC1 : C.length ≤ 100000 := by omega
            first | with_reducible refine wp_region_grow2 (by kernel_rfl) (by kernel_rfl) ?_ | with_reducible refine wp_region_grow (by kernel_rfl) (by kernel_rfl) ?_
            repeat (first | go_big_quiet_step (fail) | quiet_step (fail))
            refine wpQuiet_nil ?_
            intro _ hw_
            obtain ⟨p, hw_⟩ := hw_
            subst hw_
            have hbp := Go.below_growBy WY p
            have hrow2 := ownsRow_up hrowY hbp
            have hB2 := hBY.trans (hbp.mono hszY)
            have q0 := cell_below hbp y0
            have q1 := cell_below hbp y1
            have q2 := cell_below hbp y2'
            have q3 := cell_below hbp y3
            have q4 := cell_below hbp y4
            have q5 := cell_below hbp y5
            obtain ⟨W2, hW2⟩ : ∃ W, WY.growBy p = W := ⟨_, rfl⟩
            rw [hW2] at hrow2 hB2 q0 q1 q2 q3 q4 q5
            rw [hW2]
            have hsz2 := hB2.size
            clear hW2 hbp hrowY hBY y0 y1 y2' y3 y4 y5 p6 pk hstep hcond hszY
            go_wp2_with (first
              | (at_builtin; refine El.push lbOk lbIn (by rfl) _ _ (by rfl) (by rfl) hrow2 ⟨i2, x2, y2, r2, t2, u2⟩ (by rfl) rfl hsz2 hC1 ?_; intro v9 w9 hrow9 hf9 hg9 hb9)
              | fail)
            go_roundw
            case rel => exact ⟨i + 1, by omega, by go_num, by rw [hst]; exact hrow9, by rw [hst], by rw [hst], hB2.trans hb9⟩
            case measure => simp [intOf]; omega
          · have hszY := hBY.size
            have hidb : (i2 == pid) = false := by simpa using hid
            first | with_reducible refine wp_region_grow2 (by kernel_rfl) (by kernel_rfl) ?_ | with_reducible refine wp_region_grow (by kernel_rfl) (by kernel_rfl) ?_
            repeat (first | go_big_quiet_step (fail) | quiet_step (fail))
            refine wpQuiet_nil ?_
            intro _ hw_
            obtain ⟨p, hw_⟩ := hw_
            subst hw_
            have hbp := Go.below_growBy WY p
            have hrow2 := ownsRow_up hrowY hbp
            have hB2 := hBY.trans (hbp.mono hszY)
            have kY2 := kY.below hbp kY.lt
            have hBYl : BY < (WY.growBy p).heap.size := kY2.lt
            obtain ⟨W2, hW2⟩ : ∃ W, WY.growBy p = W := ⟨_, rfl⟩
            rw [hW2] at hrow2 hB2 kY2 hBYl
            rw [hW2]
            have hsz2 := hB2.size
            clear hW2 hbp hrowY hBY y0 y1 y2' y3 y4 y5 p6 pk hszY kY
            have hLC := lst_of_row lbOk hrow2 (by omega)
            go_wp2_with fail
            go_loopw [18, 86] (fun rv jj wr_ => ∃ j : Nat, j ≤ C.length ∧ jj = .int .i64 (j : Nat) ∧ rv = .bool ((C.take j).any fun c => nearL c ⟨i2, x2, y2, r2, t2, u2⟩) ∧ Below W2.heap.size W2 wr_) (fun _ jj _ => C.length - (intOf jj).toNat)
            case atStart => exact ⟨0, Nat.zero_le _, rfl, rfl, Below.refl _ _⟩
            case round =>
              obtain ⟨j, hj, rfl, rfl, hB3⟩ := hrel
              have hsz3 := hB3.size
              by_cases hltj : j < C.length
              · have hltjI : (j : Int) < (C.length : Int) := by omega
                obtain ⟨cb, co2, ccap, i3, x3, y3, r3, t3, u3, hv, hgetc, hcbl, hcz⟩ := hLC.get hltj
                simp only [Value.slice.injEq, true_and] at hv
                obtain ⟨rfl, rfl⟩ := hv
                obtain ⟨c0, c1, c2, c3, c4, c5⟩ := hcz.below hB3 hcbl
                have hat := any_take (x := ⟨i2, x2, y2, r2, t2, u2⟩) hgetc
                obtain ⟨cur, hcur⟩ : ∃ b, ((C.take j).any fun c => nearL c ⟨i2, x2, y2, r2, t2, u2⟩) = b := ⟨_, rfl⟩
                rw [hcur] at hat
                rw [hcur]
                have hlim := limit_any ⟨i3, x3, y3, r3, t3, u3⟩ ⟨i2, x2, y2, r2, t2, u2⟩
                have hnear : nearL ⟨i3, x3, y3, r3, t3, u3⟩ ⟨i2, x2, y2, r2, t2, u2⟩ = decide (limL ⟨i3, x3, y3, r3, t3, u3⟩ ⟨i2, x2, y2, r2, t2, u2⟩ < 1024) := rfl
                obtain ⟨z, hz⟩ : ∃ z, limL ⟨i3, x3, y3, r3, t3, u3⟩ ⟨i2, x2, y2, r2, t2, u2⟩ = z := ⟨_, rfl⟩
                rw [hz] at hlim hnear
                rw [hnear] at hat
                replace hat := Lib.hid hat
                have kY3 := kY2.below hB3 hBYl
                have hbZ : Below wr.heap.size wr (wr.alloc (.cells #[.int .i64 i3, .int .i64 x3, .int .i64 y3, .int .i64 r3, .string t3, .int .i64 u3] 39)) := (Below.refl _ _).alloc (Nat.le_refl _) _
                have kZ := Blk.new wr #[.int .i64 i3, .int .i64 x3, .int .i64 y3, .int .i64 r3, .string t3, .int .i64 u3] 39
                have kY4 := kY3.below hbZ kY3.lt
                have hB4 := hB3.trans (hbZ.mono hsz3)
                clear hz hnear hcur hgetc hcz
                go_upto_region 24 with fail
                obtain ⟨WZ, hWZ⟩ : ∃ W, wr.alloc (.cells #[.int .i64 i3, .int .i64 x3, .int .i64 y3, .int .i64 r3, .string t3, .int .i64 u3] 39) = W := ⟨_, rfl⟩
                obtain ⟨BZ, hBZe⟩ : ∃ b, wr.heap.size = b := ⟨_, rfl⟩
                rw [hWZ] at kZ kY4 hB4
                rw [hBZe] at kZ
                rw [hWZ, hBZe]
                clear hWZ hBZe hbZ hB3 kY3 c0 c1 c2 c3 c4 c5
                have y0 : WZ.cell? ⟨BY, 0, none⟩ = some (.int .i64 i2) := kY4.cell 0
                have y1 : WZ.cell? ⟨BY, 1, none⟩ = some (.int .i64 x2) := kY4.cell 1
                have y2' : WZ.cell? ⟨BY, 2, none⟩ = some (.int .i64 y2) := kY4.cell 2
                have y3' : WZ.cell? ⟨BY, 3, none⟩ = some (.int .i64 r2) := kY4.cell 3
                have y4 : WZ.cell? ⟨BY, 4, none⟩ = some (.string t2) := kY4.cell 4
                have y5 : WZ.cell? ⟨BY, 5, none⟩ = some (.int .i64 u2) := kY4.cell 5
                have z0 : WZ.cell? ⟨BZ, 0, none⟩ = some (.int .i64 i3) := kZ.cell 0
                have z1 : WZ.cell? ⟨BZ, 1, none⟩ = some (.int .i64 x3) := kZ.cell 1
                have z2 : WZ.cell? ⟨BZ, 2, none⟩ = some (.int .i64 y3) := kZ.cell 2
                have z3 : WZ.cell? ⟨BZ, 3, none⟩ = some (.int .i64 r3) := kZ.cell 3
                have z4 : WZ.cell? ⟨BZ, 4, none⟩ = some (.string t3) := kZ.cell 4
                have z5 : WZ.cell? ⟨BZ, 5, none⟩ = some (.int .i64 u3) := kZ.cell 5
                cases cur
                · by_cases hz1 : z < 1024
                  · have hz2 : (z : Int) < 1024 := by omega
                    have hnx1 : ((C.take (j + 1)).any fun c => nearL c ⟨i2, x2, y2, r2, t2, u2⟩) = true := by rw [hat.out, decide_eq_true hz1]; rfl
                    go_wp2_with (first
                      | (go_at_call 11; (with_reducible refine (hlim WZ).mono ?_); rintro e W5 ⟨rfl, hb5⟩)
                      | fail)
                    go_roundw
                    case rel => exact ⟨j + 1, by omega, by go_num, by rw [hnx1], hB4.trans (hb5.mono hB4.size)⟩
                    case measure => simp [intOf]; omega
                  · have hz2 : ¬ (z : Int) < 1024 := by omega
                    have hnx1 : ((C.take (j + 1)).any fun c => nearL c ⟨i2, x2, y2, r2, t2, u2⟩) = false := by rw [hat.out, decide_eq_false hz1]; rfl
                    go_wp2_with (first
                      | (go_at_call 11; (with_reducible refine (hlim WZ).mono ?_); rintro e W5 ⟨rfl, hb5⟩)
                      | fail)
                    go_roundw
                    case rel => exact ⟨j + 1, by omega, by go_num, by rw [hnx1, decide_eq_false (show ¬ (z : Int) < 1024 by omega)], hB4.trans (hb5.mono hB4.size)⟩
                    case measure => simp [intOf]; omega
                · have hnx1 : ((C.take (j + 1)).any fun c => nearL c ⟨i2, x2, y2, r2, t2, u2⟩) = true := by rw [hat.out]; rfl
                  go_wp2_with fail
                  go_roundw
                  case rel => exact ⟨j + 1, by omega, by go_num, by rw [hnx1], hB4⟩
                  case measure => simp [intOf]; omega
              · obtain rfl : j = C.length := by omega
                have hgej : ¬ (C.length : Int) < (C.length : Int) := by omega
                rw [List.take_length]
                have kY3 := kY2.below hB3 hBYl
                have hrow3 := ownsRow_up hrow2 hB3
                have hB5 := hB2.trans (hB3.mono hsz2)
                have hsz5 := hB5.size
                obtain ⟨r, hr⟩ : ∃ r, (C.any fun c => nearL c ⟨i2, x2, y2, r2, t2, u2⟩) = r := ⟨_, rfl⟩
                rw [hr] at hcond
                have hst : nRun pid (ls.take (i + 1)) = if r = true then ⟨C ++ [⟨i2, x2, y2, r2, t2, u2⟩], bh, m2 + 1⟩ else ⟨C, bh, m2⟩ := by
                  rw [hstep.out]
                  unfold nStep
                  rw [if_neg hid]
                  simp only [hr]
                rw [hr]
                replace hcond := hcond.out
                have y0 : wr.cell? ⟨BY, 0, none⟩ = some (.int .i64 i2) := kY3.cell 0
                have y1 : wr.cell? ⟨BY, 1, none⟩ = some (.int .i64 x2) := kY3.cell 1
                have y2' : wr.cell? ⟨BY, 2, none⟩ = some (.int .i64 y2) := kY3.cell 2
                have y3' : wr.cell? ⟨BY, 3, none⟩ = some (.int .i64 r2) := kY3.cell 3
                have y4 : wr.cell? ⟨BY, 4, none⟩ = some (.string t2) := kY3.cell 4
                have y5 : wr.cell? ⟨BY, 5, none⟩ = some (.int .i64 u2) := kY3.cell 5
                clear hr hB3 hsz3 hltj hj hLC hrow2 kY2 hB2 hsz2 hstep
                cases r
                · rw [if_neg (by decide)] at hst
                  replace hst := Lib.hid hst
                  obtain ⟨W5, hW5⟩ : ∃ W, wr = W := ⟨_, rfl⟩
                  have kY5 := kY3
                  have hrow5 := hrow3
                  have hB6 := hB5
                  have hsz6 := hsz5
                  rw [hW5] at kY5 hrow5 hB6 hsz6
                  clear y0 y1 y2' y3' y4 y5
                  go_wp2_with fail
                  try rw [hW5]
                  clear hW5 kY3 hrow3 hB5 hsz5
                  go_loopw [21, 107] (fun kv jj wr_ => ∃ j : Nat, j ≤ now.length ∧ jj = .int .i64 (j : Nat) ∧ kv = .bool (decide ((⟨i2, x2, y2, r2, t2, u2⟩ : Lb) ∈ now.take j)) ∧ Below W5.heap.size W5 wr_) (fun _ jj _ => now.length - (intOf jj).toNat)
                  case atStart => exact ⟨0, Nat.zero_le _, rfl, by simp, Below.refl _ _⟩
                  case round =>
                    obtain ⟨j, hj, rfl, rfl, hB7⟩ := hrel
                    have hB8' := hB6.trans (hB7.mono hsz6)
                    by_cases hltj : j < now.length
                    · have hltjI : (j : Int) < (now.length : Int) := by omega
                      obtain ⟨nb, no, ncap, i3, x3, y3, r3, t3, u3, hv, hgetn, hnbl, hnz⟩ := hrn14.get hltj
                      simp only [Value.slice.injEq, true_and] at hv
                      obtain ⟨rfl, rfl⟩ := hv
                      obtain ⟨c0, c1, c2, c3, c4, c5⟩ := hnz.below hB8' hnbl
                      have hmem := mem_take_succ (x := (⟨i2, x2, y2, r2, t2, u2⟩ : Lb)) hgetn
                      obtain ⟨cur, hcur⟩ : ∃ b, decide ((⟨i2, x2, y2, r2, t2, u2⟩ : Lb) ∈ now.take j) = b := ⟨_, rfl⟩
                      have hnext : decide ((⟨i2, x2, y2, r2, t2, u2⟩ : Lb) ∈ now.take (j + 1)) = (cur || decide ((⟨i3, x3, y3, r3, t3, u3⟩ : Lb) = ⟨i2, x2, y2, r2, t2, u2⟩)) := by
                        rw [decide_eq_decide.2 hmem, Bool.decide_or, hcur]
                        congr 1
                        exact decide_eq_decide.2 ⟨Eq.symm, Eq.symm⟩
                      rw [hcur]
                      have kY6 := kY5.below hB7 kY5.lt
                      have hbZ : Below wr.heap.size wr (wr.alloc (.cells #[.int .i64 i3, .int .i64 x3, .int .i64 y3, .int .i64 r3, .string t3, .int .i64 u3] 39)) := (Below.refl _ _).alloc (Nat.le_refl _) _
                      have kZ := Blk.new wr #[.int .i64 i3, .int .i64 x3, .int .i64 y3, .int .i64 r3, .string t3, .int .i64 u3] 39
                      have kY7 := kY6.below hbZ kY6.lt
                      have hB9 := hB7.trans (hbZ.mono hB7.size)
                      have hg := guardLb
                      have hn := eqlLb i3 x3 y3 r3 u3 i2 x2 y2 r2 u2 t3 t2
                      clear hcur hmem hgetn hnz
                      go_upto_region 33 with fail
                      obtain ⟨WZ, hWZ⟩ : ∃ W, wr.alloc (.cells #[.int .i64 i3, .int .i64 x3, .int .i64 y3, .int .i64 r3, .string t3, .int .i64 u3] 39) = W := ⟨_, rfl⟩
                      obtain ⟨BZ, hBZe⟩ : ∃ b, wr.heap.size = b := ⟨_, rfl⟩
                      rw [hWZ] at kZ kY7 hB9
                      rw [hBZe] at kZ
                      rw [hWZ, hBZe]
                      clear hWZ hBZe hbZ hB7 hB8' kY6 c0 c1 c2 c3 c4 c5
                      have y0 : WZ.cell? ⟨BY, 0, none⟩ = some (.int .i64 i2) := kY7.cell 0
                      have y1 : WZ.cell? ⟨BY, 1, none⟩ = some (.int .i64 x2) := kY7.cell 1
                      have y2' : WZ.cell? ⟨BY, 2, none⟩ = some (.int .i64 y2) := kY7.cell 2
                      have y3' : WZ.cell? ⟨BY, 3, none⟩ = some (.int .i64 r2) := kY7.cell 3
                      have y4 : WZ.cell? ⟨BY, 4, none⟩ = some (.string t2) := kY7.cell 4
                      have y5 : WZ.cell? ⟨BY, 5, none⟩ = some (.int .i64 u2) := kY7.cell 5
                      have z0 : WZ.cell? ⟨BZ, 0, none⟩ = some (.int .i64 i3) := kZ.cell 0
                      have z1 : WZ.cell? ⟨BZ, 1, none⟩ = some (.int .i64 x3) := kZ.cell 1
                      have z2 : WZ.cell? ⟨BZ, 2, none⟩ = some (.int .i64 y3) := kZ.cell 2
                      have z3 : WZ.cell? ⟨BZ, 3, none⟩ = some (.int .i64 r3) := kZ.cell 3
                      have z4 : WZ.cell? ⟨BZ, 4, none⟩ = some (.string t3) := kZ.cell 4
                      have z5 : WZ.cell? ⟨BZ, 5, none⟩ = some (.int .i64 u3) := kZ.cell 5
                      cases cur
                      · by_cases hde : (⟨i3, x3, y3, r3, t3, u3⟩ : Lb) = ⟨i2, x2, y2, r2, t2, u2⟩
                        · rw [decide_eq_true hde] at hn hnext
                          replace hnext := Lib.hid hnext
                          clear hde
                          go_wp2_with fail
                          go_roundw
                          case rel => exact ⟨j + 1, by omega, by go_num, by rw [hnext.out]; rfl, hB9⟩
                          case measure => simp [intOf]; omega
                        · rw [decide_eq_false hde] at hn hnext
                          replace hnext := Lib.hid hnext
                          clear hde
                          go_wp2_with fail
                          go_roundw
                          case rel => exact ⟨j + 1, by omega, by go_num, by rw [hnext.out]; rfl, hB9⟩
                          case measure => simp [intOf]; omega
                      · replace hnext := Lib.hid hnext
                        go_wp2_with fail
                        go_roundw
                        case rel => exact ⟨j + 1, by omega, by go_num, by rw [hnext.out]; rfl, hB9⟩
                        case measure => simp [intOf]; omega
                    · obtain rfl : j = now.length := by omega
                      have hgej : ¬ (now.length : Int) < (now.length : Int) := by omega
                      have hrow8 := ownsRow_up hrow5 hB7
                      rw [List.take_length]
                      obtain ⟨kq, hkq⟩ : ∃ b, decide ((⟨i2, x2, y2, r2, t2, u2⟩ : Lb) ∈ now) = b := ⟨_, rfl⟩
                      rw [hkq]
                      cases kq
                      · rcases hcond with h | h | ⟨hbh, hr1⟩
                        · exact absurd h hid
                        · exact absurd h (of_decide_eq_false hkq)
                        · clear hkq
                          subst hbh
                          cases hr1 <;> (
                            go_wp2_with fail
                            go_roundw
                            case rel => exact ⟨i + 1, by omega, by go_num, by rw [hst.out]; exact hrow8, by rw [hst.out], by rw [hst.out]; try rfl, hB8'⟩
                            case measure => simp [intOf]; omega)
                      · clear hkq
                        go_wp2_with fail
                        go_roundw
                        case rel => exact ⟨i + 1, by omega, by go_num, by rw [hst.out]; exact hrow8, by rw [hst.out], by rw [hst.out]; try rfl, hB8'⟩
                        case measure => simp [intOf]; omega
                · rw [if_pos rfl] at hst
                  replace hst := Lib.hid hst
                  have hC1 : C.length ≤ 100000 := by omega
                  have hwm : IntKind.i64.wrap ((m2 : Int) + 1) = (m2 : Int) + 1 := wrap_in7 (by omega) (by omega)
                  go_wp2_with (first
                    | (at_builtin; refine El.push lbOk lbIn (by rfl) _ _ (by rfl) (by rfl) hrow3 ⟨i2, x2, y2, r2, t2, u2⟩ (by rfl) rfl hsz5 hC1 ?_; intro v9 W5 hrow5 hf9 hg9 hb9)
                    | fail)
                  have hB6 := hB5.trans hb9
                  have hsz6 := hB6.size
                  have kY5 := kY3.kept hg9 (fun e => by have := hcB _ e; omega)
                  clear y0 y1 y2' y3' y4 y5 hg9 hb9 kY3 hrow3 hB5 hsz5
                  go_loopw [21, 107] (fun kv jj wr_ => ∃ j : Nat, j ≤ now.length ∧ jj = .int .i64 (j : Nat) ∧ kv = .bool (decide ((⟨i2, x2, y2, r2, t2, u2⟩ : Lb) ∈ now.take j)) ∧ Below W5.heap.size W5 wr_) (fun _ jj _ => now.length - (intOf jj).toNat)
                  case atStart => exact ⟨0, Nat.zero_le _, rfl, by simp, Below.refl _ _⟩
                  case round =>
                    obtain ⟨j, hj, rfl, rfl, hB7⟩ := hrel
                    have hB8' := hB6.trans (hB7.mono hsz6)
                    by_cases hltj : j < now.length
                    · have hltjI : (j : Int) < (now.length : Int) := by omega
                      obtain ⟨nb, no, ncap, i3, x3, y3, r3, t3, u3, hv, hgetn, hnbl, hnz⟩ := hrn14.get hltj
                      simp only [Value.slice.injEq, true_and] at hv
                      obtain ⟨rfl, rfl⟩ := hv
                      obtain ⟨c0, c1, c2, c3, c4, c5⟩ := hnz.below hB8' hnbl
                      have hmem := mem_take_succ (x := (⟨i2, x2, y2, r2, t2, u2⟩ : Lb)) hgetn
                      obtain ⟨cur, hcur⟩ : ∃ b, decide ((⟨i2, x2, y2, r2, t2, u2⟩ : Lb) ∈ now.take j) = b := ⟨_, rfl⟩
                      have hnext : decide ((⟨i2, x2, y2, r2, t2, u2⟩ : Lb) ∈ now.take (j + 1)) = (cur || decide ((⟨i3, x3, y3, r3, t3, u3⟩ : Lb) = ⟨i2, x2, y2, r2, t2, u2⟩)) := by
                        rw [decide_eq_decide.2 hmem, Bool.decide_or, hcur]
                        congr 1
                        exact decide_eq_decide.2 ⟨Eq.symm, Eq.symm⟩
                      rw [hcur]
                      have kY6 := kY5.below hB7 kY5.lt
                      have hbZ : Below wr.heap.size wr (wr.alloc (.cells #[.int .i64 i3, .int .i64 x3, .int .i64 y3, .int .i64 r3, .string t3, .int .i64 u3] 39)) := (Below.refl _ _).alloc (Nat.le_refl _) _
                      have kZ := Blk.new wr #[.int .i64 i3, .int .i64 x3, .int .i64 y3, .int .i64 r3, .string t3, .int .i64 u3] 39
                      have kY7 := kY6.below hbZ kY6.lt
                      have hB9 := hB7.trans (hbZ.mono hB7.size)
                      have hg := guardLb
                      have hn := eqlLb i3 x3 y3 r3 u3 i2 x2 y2 r2 u2 t3 t2
                      clear hcur hmem hgetn hnz
                      go_upto_region 33 with fail
                      obtain ⟨WZ, hWZ⟩ : ∃ W, wr.alloc (.cells #[.int .i64 i3, .int .i64 x3, .int .i64 y3, .int .i64 r3, .string t3, .int .i64 u3] 39) = W := ⟨_, rfl⟩
                      obtain ⟨BZ, hBZe⟩ : ∃ b, wr.heap.size = b := ⟨_, rfl⟩
                      rw [hWZ] at kZ kY7 hB9
                      rw [hBZe] at kZ
                      rw [hWZ, hBZe]
                      clear hWZ hBZe hbZ hB7 hB8' kY6 c0 c1 c2 c3 c4 c5
                      have y0 : WZ.cell? ⟨BY, 0, none⟩ = some (.int .i64 i2) := kY7.cell 0
                      have y1 : WZ.cell? ⟨BY, 1, none⟩ = some (.int .i64 x2) := kY7.cell 1
                      have y2' : WZ.cell? ⟨BY, 2, none⟩ = some (.int .i64 y2) := kY7.cell 2
                      have y3' : WZ.cell? ⟨BY, 3, none⟩ = some (.int .i64 r2) := kY7.cell 3
                      have y4 : WZ.cell? ⟨BY, 4, none⟩ = some (.string t2) := kY7.cell 4
                      have y5 : WZ.cell? ⟨BY, 5, none⟩ = some (.int .i64 u2) := kY7.cell 5
                      have z0 : WZ.cell? ⟨BZ, 0, none⟩ = some (.int .i64 i3) := kZ.cell 0
                      have z1 : WZ.cell? ⟨BZ, 1, none⟩ = some (.int .i64 x3) := kZ.cell 1
                      have z2 : WZ.cell? ⟨BZ, 2, none⟩ = some (.int .i64 y3) := kZ.cell 2
                      have z3 : WZ.cell? ⟨BZ, 3, none⟩ = some (.int .i64 r3) := kZ.cell 3
                      have z4 : WZ.cell? ⟨BZ, 4, none⟩ = some (.string t3) := kZ.cell 4
                      have z5 : WZ.cell? ⟨BZ, 5, none⟩ = some (.int .i64 u3) := kZ.cell 5
                      cases cur
                      · by_cases hde : (⟨i3, x3, y3, r3, t3, u3⟩ : Lb) = ⟨i2, x2, y2, r2, t2, u2⟩
                        · rw [decide_eq_true hde] at hn hnext
                          replace hnext := Lib.hid hnext
                          clear hde
                          go_wp2_with fail
                          go_roundw
                          case rel => exact ⟨j + 1, by omega, by go_num, by rw [hnext.out]; rfl, hB9⟩
                          case measure => simp [intOf]; omega
                        · rw [decide_eq_false hde] at hn hnext
                          replace hnext := Lib.hid hnext
                          clear hde
                          go_wp2_with fail
                          go_roundw
                          case rel => exact ⟨j + 1, by omega, by go_num, by rw [hnext.out]; rfl, hB9⟩
                          case measure => simp [intOf]; omega
                      · replace hnext := Lib.hid hnext
                        go_wp2_with fail
                        go_roundw
                        case rel => exact ⟨j + 1, by omega, by go_num, by rw [hnext.out]; rfl, hB9⟩
                        case measure => simp [intOf]; omega
                    · obtain rfl : j = now.length := by omega
                      have hgej : ¬ (now.length : Int) < (now.length : Int) := by omega
                      have hrow8 := ownsRow_up hrow5 hB7
                      rw [List.take_length]
                      obtain ⟨kq, hkq⟩ : ∃ b, decide ((⟨i2, x2, y2, r2, t2, u2⟩ : Lb) ∈ now) = b := ⟨_, rfl⟩
                      rw [hkq]
                      cases kq
                      · rcases hcond with h | h | ⟨hbh, hr1⟩
                        · exact absurd h hid
                        · exact absurd h (of_decide_eq_false hkq)
                        · clear hkq
                          subst hbh
                          cases hr1 <;> (
                            go_wp2_with fail
                            go_roundw
                            case rel => exact ⟨i + 1, by omega, by go_num, by rw [hst.out]; exact hrow8, by rw [hst.out], by rw [hst.out]; try rfl, hB8'⟩
                            case measure => simp [intOf]; omega)
                      · clear hkq
                        go_wp2_with fail
                        go_roundw
                        case rel => exact ⟨i + 1, by omega, by go_num, by rw [hst.out]; exact hrow8, by rw [hst.out], by rw [hst.out]; try rfl, hB8'⟩
                        case measure => simp [intOf]; omega
        · obtain rfl : i = ls.length := by omega
          have hge : ¬ (ls.length : Int) < (ls.length : Int) := by omega
          rw [List.take_length, hpl2.out]
          have hbelF := hbel14.trans (hB.mono hbel14.size)
          go_wp2_with fail
          go_ret
          exact ⟨rfl, hbelF⟩
  · have hl0I : (l.length : Int) = 0 := by omega
    go_wp2_with fail
    go_ret
    exact ⟨rfl, hbel3⟩
end Go.Proofs.Ytikojanpbbiaiaa
