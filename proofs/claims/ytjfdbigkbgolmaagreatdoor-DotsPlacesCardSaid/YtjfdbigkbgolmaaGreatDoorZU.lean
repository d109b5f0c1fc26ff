/-
  Chapter 29: hachureref28.Write at texts of digits.
  Chapter 29: hachureref29.decimal, symbol.
-/
import Derived.Test.YtjfdbigkbgolmaaGreatDoorZT
import Derived.Test.YtjfdbigkbgolmaaGreatDoorZh
import Derived.Deep.AppendLies
namespace Go.Proofs.YtjfdbigkbgolmaaGreatDoor
set_option linter.unusedVariables false
set_option linter.unusedSimpArgs false
open Go.RowKit Go.Shelf
attribute [local go_sem] Oper.semAt_some

abbrev encB (l : List UInt8) : List Value := l.map fun b => .int .u8 (b.toNat : Int)
/-- the worlds of Write's walk -/
structure OB (w : World) (B : Nat) (v : Value) (l : List UInt8) (W : World) : Prop where
  row : W.ownsRow B 5 1 v l.length (encB l)
  below : Below w.heap.size w W
  lb : B ≤ W.heap.size
  wb : w.heap.size ≤ B
section
variable {w W W' : World} {B : Nat} {v : Value} {l : List UInt8}
theorem OB.grown (h : OB w B v l W) (hg : W.grownBy W' none) : OB w B v l W' :=
  ⟨by
    refine h.row.kept hg ?_
    rcases h.row.2 with ⟨rfl, _⟩ | ⟨g, cap, cur, rfl, _⟩
    · exact .inl rfl
    · exact .inr (fun e => by cases e), h.below.grown hg h.below.size (fun k e => by cases e), Nat.le_trans h.lb hg.size, h.wb⟩
theorem OB.alloc (h : OB w B v l W) (o : Obj) : OB w B v l (W.alloc o) := h.grown (World.grownBy_alloc W o none)
theorem OB.up (h : OB w B v l W) (hb : Below W.heap.size W W') : OB w B v l W' := h.grown (grownBy_of_below hb)
theorem OB.appended {g cap : Nat} {b : UInt8} (h : OB w B v l W) (hg : W.grownBy W' v.ownBlock) (hown : W'.ownsRow B 5 1 (.slice (some ⟨g, 0, none⟩) (l.length + 1) cap) (l.length + 1) (encB l ++ [.int .u8 (b.toNat : Int)])) :
    OB w B (.slice (some ⟨g, 0, none⟩) (l.length + 1) cap) (l ++ [b]) W' := by
  refine ⟨?_, h.below.grown hg h.below.size (fun r e => by have := (h.row.lt _ e).1; have := h.wb; omega), Nat.le_trans h.lb hg.size, h.wb⟩
  rw [List.length_append]
  simpa [encB] using hown
end
theorem one_news {X : World} {P : Nat} {c : Value} (h : Blk X P #[c] 5) : ∀ j u, [c][j]? = some u → X.cell? ((⟨P, 0, none⟩ : Addr).add j) = some u := fun j u hj => by
  rw [Go.WideShapes.add_plain, Nat.zero_add]
  match j, hj with
  | 0, hj => exact (h.cell 0).trans hj
  | j + 1, hj => simp at hj
theorem outB_size (s : ByteArray) : ∀ n, 0 < n → (outB s n).length = n + 1
  | 1, _ => rfl
  | n + 2, _ => by
    unfold outB
    rw [if_neg (by omega), List.length_append, outB_size s (n + 1) (by omega)]
    rfl

set_option maxRecDepth 100000 in
set_option maxHeartbeats 800000 in
theorem write28_digs (s : ByteArray) (hd : Digs s) (hl : s.size ≤ 1000) (hz : 0 < s.size) (w : World) : Calls Tryz.prog 37 #[.string s] w fun e w' => e = .returned (.tuple #[.string ⟨(outB s s.size).toArray⟩, .int .i64 0]) ∧ Below w.heap.size w w' := by
  obtain ⟨i0, hi0, hz0, hz1, hz2⟩ := infoByte_parts
  go_enter Tryz.func37, Tryz.ntmps37
  go_wp2_with (first
    | (go_at_call 82; refine (right28_digs s hd (by omega) _).mono ?_; rintro e w' ⟨rfl, hb_⟩; obtain ⟨p, rfl⟩ := grow_of_below hb_; clear hb_)
    | fail)
  have hO : OB w w.heap.size (.slice none 0 0) (outB s 0) (w.growBy p) := ⟨World.ownsRow_nil _ _ _ _, (by repeat' (first | with_reducible exact Below.refl _ _ | with_reducible exact Nat.le_refl _ | with_reducible assumption | with_reducible refine Go.below_growBy' ?_ ?_ _ | with_reducible refine Below.alloc ?_ ?_ _ | with_reducible refine Below.setCell ?_ ?_ _ | with_reducible refine Below.drew ?_ | with_reducible refine Go.le_alloc ?_ | with_reducible refine Go.le_growBy ?_ | with_reducible refine Go.le_setCell ?_ | with_reducible refine Go.le_drew ?_ | omega | (dsimp only; omega))), by simp, Nat.le_refl _⟩
  obtain ⟨W, hW⟩ : ∃ W, w.growBy p = W := ⟨_, rfl⟩
  rw [hW] at hO ⊢
  clear hW
  obtain ⟨B, hB⟩ : ∃ B, w.heap.size = B := ⟨_, rfl⟩
  rw [hB] at hO
  replace hB := Lib.hid hB
  go_loopw [5, 6] (fun v k wr => ∃ n : Nat, n ≤ s.size ∧ k = .int .i64 n ∧ OB w B v (outB s n) wr) (fun _ k _ => s.size - (intOf k).toNat)
  case atStart => exact ⟨0, Nat.zero_le _, rfl, hO⟩
  case round =>
    clear hO
    obtain ⟨n, hn, rfl, hO⟩ := hrel
    have hol := outB_len s n
    by_cases hlt : n < s.size
    · have hltI : (n : Int) < (s.size : Int) := by omega
      have hleI : (n : Int) ≤ (s.size : Int) := by omega
      obtain ⟨d0, d1⟩ := hd n hlt
      have hout : outB s (n + 1) = (if n = 0 then [60] else outB s n) ++ [(letB (s[n]'hlt).toNat).toUInt8] := by
        show (if n = 0 then [60] else outB s n) ++ [(letB (s[n]!).toNat).toUInt8] = _
        rw [getElem!_pos s n hlt]
      have hxs : (s.extract n s.size).size = s.size - n := by rw [ByteArray.size_extract]; omega
      have hx0 : 0 < (s.extract n s.size).size := by omega
      have hxc : ((s.extract n s.size)[0]'hx0).toNat ≤ 57 := by
        rw [ByteArray.getElem_extract]
        exact d1
      have hcon : ∀ X, Calls Tryz.prog 83 #[.string (s.extract n s.size)] X fun e w' => e = .returned (.int .i64 (-1)) ∧ Below X.heap.size X w' := fun X => contr28_digs _ hx0 hxc (by omega) X
      clear hxc hx0 hxs
      obtain ⟨c, hc⟩ : ∃ c, (s[n]'hlt).toNat = c := ⟨_, rfl⟩
      rw [hc] at d0 d1 hout
      have hlb := letB_lt c
      have hub : ((letB c).toUInt8.toNat : Int) = (letB c : Nat) := by simp; omega
      have hwb : IntKind.u8.wrap ((letB c : Nat) : Int) = (letB c : Nat) := by
        simp [IntKind.wrap, IntKind.bits, IntKind.signed]
        omega
      by_cases hn0 : n = 0
      · subst hn0
        simp only [if_true] at hout
        replace hout := Lib.hid hout
        have hcon0 : ∀ X, Calls Tryz.prog 83 #[.string s] X fun e w' => e = .returned (.int .i64 (-1)) ∧ Below X.heap.size X w' := fun X => contr28_digs s hlt (by omega) hl X
        have hcel := fun X => cells28_zero s hlt c hc d0 d1 hl X
        replace hc := Lib.hid hc
        go_wp2_with (first
          | (go_at_call 83; first | (with_reducible refine (hcon _).mono ?_) | (with_reducible refine (hcon0 _).mono ?_); rintro e w1 ⟨rfl, hb1⟩)
          | (go_at_call 86; with_reducible refine (hcel _).mono ?_; rintro e w2 ⟨B8, rfl, hb2, k8⟩; have e60 := k8.cell 0; have ec := k8.cell 1)
          | fail)
        have hO2 := ((hO.up hb1).up hb2).alloc (.cells #[.int .u8 60] 5)
        have kP := Blk.new w2 #[.int .u8 60] 5
        have k82 := k8.alloc (.cells #[.int .u8 60] 5)
        have hrow := hO2.row
        have hle := hO2.lb
        obtain ⟨P, hP⟩ : ∃ P, w2.heap.size = P := ⟨_, rfl⟩
        rw [hP] at kP
        have hh0 : (outB s 0).length = 0 := rfl
        rw [hh0] at hrow
        refine wp_loop_rounds 3 ?_
        rw [rounds_succ]
        go_wp2_with (first | (at_builtin; refine wpList_append_lies _ (by rfl) _ _ _ (by rfl) B 5 i0 _ 1 1 Tryz.underlying79 hi0 hz0 hz1 hz2 (by rfl) (by omega) u5 0 _ (by rfl) hrow ⟨P, 0, none⟩ 1 1 [.int .u8 60] (by rfl) (by rfl) (one_news kP) (by simp [Value.oneCell']) (by omega) (by unfold maxLen; omega) (by omega) hle _ rfl ?_; intro g cap W4 hown hgrow hat hltg) | fail)
        have hO4 : OB w B (.slice (some ⟨g, 0, none⟩) 1 cap) [60] W4 := hO2.appended (b := 60) hgrow hown
        have k84 := k82.kept hgrow (ownsRow_other hO2.row k82 (by decide))
        have ec4 := k84.cell 1
        clear hown hgrow hat hltg hrow hle hO2 kP k82 hP
        have hO5 := hO4.alloc (.cells #[.int .u8 (letB c : Nat)] 5)
        have kP := Blk.new W4 #[.int .u8 (letB c : Nat)] 5
        have hrow := hO5.row
        have hle := hO5.lb
        obtain ⟨P5, hP⟩ : ∃ P, W4.heap.size = P := ⟨_, rfl⟩
        rw [hP] at kP
        rw [rounds_succ]
        go_wp2_with (first | (at_builtin; refine wpList_append_lies _ (by rfl) _ _ _ (by rfl) B 5 i0 _ 1 1 Tryz.underlying79 hi0 hz0 hz1 hz2 (by rfl) (by omega) (.slice (some ⟨g, 0, none⟩) 1 cap) 1 _ (by rfl) hrow ⟨P5, 0, none⟩ 1 1 [.int .u8 (letB c : Nat)] (by rfl) (by rfl) (one_news kP) (by simp [Value.oneCell']) (by omega) (by unfold maxLen; omega) (by omega) hle _ rfl ?_; intro g6 cap6 W6 hown hgrow hat hltg) | fail)
        have hO6 : OB w B (.slice (some ⟨g6, 0, none⟩) 2 cap6) ([60] ++ [(letB c).toUInt8]) W6 := hO5.appended (b := (letB c).toUInt8) hgrow (by rw [hub]; exact hown)
        clear hown hgrow hat hltg hrow hle hO5 kP hP
        rw [rounds_succ]
        go_wp2_with fail
        refine ⟨⟨1, by omega, rfl, ?_⟩, ?_⟩
        · rw [hout.out]
          exact hO6
        · simp [intOf]
          omega
      · have hn1 : 0 < n := by omega
        rw [if_neg hn0] at hout
        replace hout := Lib.hid hout
        obtain ⟨e0, e1⟩ := hd (n - 1) (by omega)
        have hcel := fun X => cells28_pos s n hn1 hlt c hc d0 d1 _ rfl e0 e1 hl X
        clear e0 e1
        replace hc := Lib.hid hc
        obtain ⟨l, hlE⟩ : ∃ l, outB s n = l := ⟨_, rfl⟩
        rw [hlE] at hO hol hout
        clear hlE
        go_wp2_with (first
          | (go_at_call 83; with_reducible refine (hcon _).mono ?_; rintro e w1 ⟨rfl, hb1⟩)
          | (go_at_call 86; with_reducible refine (hcel _).mono ?_; rintro e w2 ⟨B8, rfl, hb2, k8⟩; have ec := k8.cell 0)
          | fail)
        have hO2 := ((hO.up hb1).up hb2).alloc (.cells #[.int .u8 (letB c : Nat)] 5)
        have kP := Blk.new w2 #[.int .u8 (letB c : Nat)] 5
        have hrow := hO2.row
        have hle := hO2.lb
        obtain ⟨P, hP⟩ : ∃ P, w2.heap.size = P := ⟨_, rfl⟩
        rw [hP] at kP
        refine wp_loop_rounds 2 ?_
        rw [rounds_succ]
        go_wp2_with (first | (at_builtin; refine wpList_append_lies _ (by rfl) _ _ _ (by rfl) B 5 i0 _ 1 1 Tryz.underlying79 hi0 hz0 hz1 hz2 (by rfl) (by omega) u5 l.length _ (by rfl) hrow ⟨P, 0, none⟩ 1 1 [.int .u8 (letB c : Nat)] (by rfl) (by rfl) (one_news kP) (by simp [Value.oneCell']) (by omega) (by unfold maxLen; omega) (by omega) hle _ rfl ?_; intro g6 cap6 W6 hown hgrow hat hltg) | fail)
        have hO6 : OB w B (.slice (some ⟨g6, 0, none⟩) (l.length + 1) cap6) (l ++ [(letB c).toUInt8]) W6 := hO2.appended (b := (letB c).toUInt8) hgrow (by rw [hub]; exact hown)
        clear hown hgrow hat hltg hrow hle hO2 kP hP
        rw [rounds_succ]
        go_wp2_with fail
        refine ⟨⟨n + 1, by omega, by go_num, ?_⟩, ?_⟩
        · rw [hout.out]
          exact hO6
        · simp [intOf]
          omega
    · obtain rfl : n = s.size := by omega
      have hln := outB_size s s.size hz
      obtain ⟨l, hlE⟩ : ∃ l, outB s s.size = l := ⟨_, rfl⟩
      rw [hlE] at hO hol hln
      replace hlE := Lib.hid hlE
      have hrow := hO.row
      obtain ⟨g, cap, rfl, _, _⟩ := hrow.form (by omega)
      have hcv := fun src dst e h1 h2 h3 => run_convert_bytes_back (P := Tryz.prog) wr src dst e ⟨g, 0, none⟩ cap l h1 h2 h3 (fun j hj => by
        have h5 := hrow.cells (g := g) rfl j (.int .u8 (l[j].toNat : Int)) (by simp [encB, hj])
        exact h5)
      have hcv2 := hcv 79 9 5 Tryz.underlying79 Tryz.underlying5 Tryz.underlying9
      clear hcv hrow
      rw [hln] at hcv2
      have hb := hO.below
      clear hO
      go_wp2_with fail
      go_ret2
      rw [hlE.out]
      exact ⟨rfl, hb⟩
end Go.Proofs.YtjfdbigkbgolmaaGreatDoor
namespace Go.Proofs.YtjfdbigkbgolmaaGreatDoor
set_option linter.unusedVariables false
set_option linter.unusedSimpArgs false
open Go.RowKit Go.Shelf
attribute [local go_sem] Oper.semAt_some
attribute [local go_sem ↓] Go.wp_at_zero Go.wp_at_succ

def digB (n : Nat) : UInt8 := (48 + n % 10).toUInt8
set_option maxRecDepth 100000 in
set_option maxHeartbeats 800000 in
theorem decimal1 (n : Nat) (h : n < 10) (w : World) : Calls Tryz.prog 38 #[.int .i64 n] w fun e w' => e = .returned (.string ⟨#[digB n]⟩) ∧ Below w.heap.size w w' := by
  have hI : (n : Int) < 10 := by omega
  have h1 : IntKind.i64.wrap (48 + (n : Int)) = 48 + n := wrap_in7 (by omega) (by omega)
  have h2 : IntKind.u8.wrap (48 + (n : Int)) = 48 + n := by
    simp [IntKind.wrap, IntKind.bits, IntKind.signed]
    omega
  have hcv := fun (X : World) src dst e h1 h2 h3 hc => run_convert_bytes_back (P := Tryz.prog) (X.alloc (.cells #[.int .u8 (48 + (n : Int))] 5)) src dst e ⟨X.heap.size, 0, none⟩ 1 [digB n] h1 h2 h3 hc
  have hcv2 := fun (X : World) => hcv X 79 9 5 Tryz.underlying79 Tryz.underlying5 Tryz.underlying9 (fun j hj => by
    have : j = 0 := by simp at hj; omega
    subst this
    have h9 : ((digB n).toNat : Int) = 48 + n := by unfold digB; simp; omega
    show _ = some (Value.int .u8 ((digB n).toNat : Int))
    rw [h9]
    exact (Blk.new X #[.int .u8 (48 + (n : Int))] 5).cell 0)
  clear hcv
  simp only [List.length_cons, List.length_nil, Nat.zero_add] at hcv2
  go_enter Tryz.func38, Tryz.ntmps38
  go_wp2_with fail
  go_ret
  exact ⟨rfl, (by repeat' (first | with_reducible exact Below.refl _ _ | with_reducible exact Nat.le_refl _ | with_reducible assumption | with_reducible refine Go.below_growBy' ?_ ?_ _ | with_reducible refine Below.alloc ?_ ?_ _ | with_reducible refine Below.setCell ?_ ?_ _ | with_reducible refine Below.drew ?_ | with_reducible refine Go.le_alloc ?_ | with_reducible refine Go.le_growBy ?_ | with_reducible refine Go.le_setCell ?_ | with_reducible refine Go.le_drew ?_ | omega | (dsimp only; omega)))⟩


def FDec (n m r : Nat) (txt : ByteArray) (i : Nat) (v : Value) (w : World) : Prop :=
  match i with
  | 0 => v = .int .i64 (n : Nat)
  | 1 => v = .int .i64 (m : Nat)
  | 2 => v = .string txt
  | 3 => v = .int .i64 (n : Nat)
  | 4 => v = .int .i64 (r : Nat)
  | 5 => v = .int .i64 (48 + (r : Nat))
  | 6 => v = .int .u8 (48 + (r : Nat))
  | 7 => ∃ L, v = .slice (some ⟨L, 0, none⟩) 1 1 ∧ Blk w L #[.int .u8 (48 + (r : Nat))] 5
  | 8 => v = .string ⟨#[digB n]⟩
  | _ => False
theorem FDec.kept {n m r : Nat} {txt : ByteArray} {i : Nat} {v : Value} {w w' : World} (h : FDec n m r txt i v w) (hg : Below w.heap.size w w') : FDec n m r txt i v w' := by
  unfold FDec at *
  split at h
  all_goals first | exact h | (obtain ⟨L, h1, h2⟩ := h; exact ⟨L, h1, h2.below hg h2.lt⟩)
set_option maxRecDepth 100000 in
set_option maxHeartbeats 800000 in
theorem decimal_step (n m : Nat) (txt : ByteArray) (h0 : 10 ≤ n) (h : n ≤ 999) (hm : n / 10 = m) (hsz : txt.size ≤ 10) (w : World)
    (hrec : ∀ X, Calls Tryz.prog 38 #[.int .i64 m] X fun e w' => e = .returned (.string txt) ∧ Below X.heap.size X w') :
    Calls Tryz.prog 38 #[.int .i64 n] w fun e w' => e = .returned (.string (txt ++ ⟨#[digB n]⟩)) ∧ Below w.heap.size w w' := by
  have hI : ¬ (n : Int) < 10 := by omega
  obtain ⟨r, hr⟩ : ∃ r : Nat, n % 10 = r := ⟨_, rfl⟩
  have hr9 : r < 10 := by omega
  have hdv : (n : Int).tdiv 10 = (m : Nat) := by rw [Int.tdiv_eq_ediv_of_nonneg (by omega)]; omega
  have hrm : (n : Int).tmod 10 = (r : Nat) := by rw [Int.tmod_eq_emod_of_nonneg (by omega)]; omega
  have hrm2 : (n : Int) % 10 = (r : Nat) := by omega
  have h1 : IntKind.i64.wrap (48 + (r : Int)) = 48 + r := wrap_in7 (by omega) (by omega)
  have h1b : IntKind.i64.wrap (m : Int) = m := wrap_in7 (by omega) (by omega)
  have h2 : IntKind.u8.wrap (48 + (r : Int)) = 48 + r := by
    simp [IntKind.wrap, IntKind.bits, IntKind.signed]
    omega
  have hcv2 : ∀ (X : World) (L : Nat), Blk X L #[.int .u8 (48 + (r : Int))] 5 → (convert 79 9 (.slice (some ⟨L, 0, none⟩) 1 1)).run Tryz.prog X = .ok (.string ⟨#[digB n]⟩) X := fun X L hL =>
    run_convert_bytes_back (P := Tryz.prog) X 79 9 5 ⟨L, 0, none⟩ 1 [digB n] Tryz.underlying79 Tryz.underlying5 Tryz.underlying9 (fun j hj => by
      have : j = 0 := by simp at hj; omega
      subst this
      have h9 : ((digB n).toNat : Int) = 48 + r := by unfold digB; rw [hr]; simp; omega
      show _ = some (Value.int .u8 ((digB n).toNat : Int))
      rw [h9]
      exact hL.cell 0)
  have hcat : ¬ 9223372036854775807 < txt.size + (⟨#[digB n]⟩ : ByteArray).size := by show ¬ _ < txt.size + 1; omega
  go_enter Tryz.func38, Tryz.ntmps38
  go_upto_region 3 with fail
  refine Go.wp_region_rel 9 (by kernel_rfl) (by kernel_rfl) (fun _ W => Below w.heap.size w W) (fun w w' => Below w.heap.size w w') (FDec n m r txt) (fun _ _ _ _ h g => h.kept g) (Below.refl _ _).drew ?_ ?_
  · clear hcat hm hr
    intro i o hi ho c bb W hc hM hA hD K hK
    match i, hi, ho with
    | 0, _, ho =>
      cases ho
      have f0 : bb.tmps[0]?.getD undef = .int .i64 (n : Nat) := evalAt (v := .int .i64 (n : Nat)) (hA.at_ (k := 0) (by kernel_rfl))
      go_simp
      exact hK (.int .i64 (n : Nat)) W rfl (Below.refl _ _) hM
    | 1, _, ho =>
      cases ho
      have f10 : bb.tmps[10]?.getD undef = .int .i64 (n : Nat) := evalAt (v := .int .i64 (n : Nat)) (dep_at hD 0 10 (by kernel_rfl) rfl rfl)
      go_simp
      exact hK (.int .i64 (m : Nat)) W rfl (Below.refl _ _) hM
    | 2, _, ho =>
      cases ho
      have f11 : bb.tmps[11]?.getD undef = .int .i64 (m : Nat) := evalAt (v := .int .i64 (m : Nat)) (dep_at hD 1 11 (by kernel_rfl) rfl rfl)
      go_simp
      refine (hrec W).mono ?_
      rintro e W' ⟨rfl, hb⟩
      go_simp
      exact hK (.string txt) W' rfl hb (hM.trans (hb.mono hM.size))
    | 3, _, ho =>
      cases ho
      have f0 : bb.tmps[0]?.getD undef = .int .i64 (n : Nat) := evalAt (v := .int .i64 (n : Nat)) (hA.at_ (k := 0) (by kernel_rfl))
      go_simp
      exact hK (.int .i64 (n : Nat)) W rfl (Below.refl _ _) hM
    | 4, _, ho =>
      cases ho
      have f13 : bb.tmps[13]?.getD undef = .int .i64 (n : Nat) := evalAt (v := .int .i64 (n : Nat)) (dep_at hD 3 13 (by kernel_rfl) rfl rfl)
      go_simp
      exact hK (.int .i64 (r : Nat)) W rfl (Below.refl _ _) hM
    | 5, _, ho =>
      cases ho
      have f14 : bb.tmps[14]?.getD undef = .int .i64 (r : Nat) := evalAt (v := .int .i64 (r : Nat)) (dep_at hD 4 14 (by kernel_rfl) rfl rfl)
      go_simp
      exact hK (.int .i64 (48 + (r : Nat))) W rfl (Below.refl _ _) hM
    | 6, _, ho =>
      cases ho
      have f15 : bb.tmps[15]?.getD undef = .int .i64 (48 + (r : Nat)) := evalAt (v := .int .i64 (48 + (r : Nat))) (dep_at hD 5 15 (by kernel_rfl) rfl rfl)
      go_simp
      exact hK (.int .u8 (48 + (r : Nat))) W rfl (Below.refl _ _) hM
    | 7, _, ho =>
      cases ho
      have f16 : bb.tmps[16]?.getD undef = .int .u8 (48 + (r : Nat)) := evalAt (v := .int .u8 (48 + (r : Nat))) (dep_at hD 6 16 (by kernel_rfl) rfl rfl)
      go_simp
      exact hK (.slice (some ⟨W.heap.size, 0, none⟩) 1 1) _ ⟨_, rfl, Blk.new _ _ _⟩ ((Below.refl _ _).alloc (Nat.le_refl _) _) (hM.alloc hM.size _)
    | 8, _, ho =>
      cases ho
      have f17 := dep_at hD 7 17 (by kernel_rfl) rfl rfl
      obtain ⟨L, h1, h2⟩ := f17
      have f17 := evalAt h1
      have hcv := hcv2 W L h2
      go_simp
      exact hK _ W rfl (Below.refl _ _) hM
    | i + 9, hi, _ => exact absurd hi (by omega)
  · intro bb W hM hA hall
    have hP2 : bb.eval (.tmp 12) = .string txt := hall 2 (by omega) _ _ rfl rfl
    have hP8 : bb.eval (.tmp 18) = .string ⟨#[digB n]⟩ := hall 8 (by omega) _ _ rfl rfl
    have hfr := hA.frame [true, true, true, true, true, true, true, true, true, true, false, false, false, false, false, false, false, false, false, true] _ rfl (by kernel_rfl)
    clear hall hA
    obtain ⟨f, hf⟩ : ∃ f : Nat → Value, (fun k => bb.tmps.getD k undef) = f := ⟨_, rfl⟩
    have g2 : f 12 = .string txt := by rw [← hf, ← hP2]; rfl
    have g8 : f 18 = .string ⟨#[digB n]⟩ := by rw [← hf, ← hP8]; rfl
    rw [hf] at hfr
    clear hf hP2 hP8
    subst hfr
    simp only [pickL, g2, g8, Nat.reduceAdd]
    clear g2 g8
    simp only [List.drop_succ_cons, List.drop_zero]
    go_wp2_with fail
    go_ret
    exact ⟨rfl, hM⟩

theorem decDigits_len : ∀ (k n : Nat), n < 10 ^ (k + 1) → (Lib.decDigits n).length ≤ k + 1
  | 0, n, h => by
    rw [Lib.decDigits, dif_pos (by simpa using h)]
    simp
  | k + 1, n, h => by
    rw [Lib.decDigits]
    split
    · simp
    · have h2 := decDigits_len k (n / 10) (by rw [Nat.pow_succ] at h; omega)
      rw [List.length_append]
      simp
      omega
def txtN (n : Nat) : ByteArray := ⟨(Lib.decDigits n).toArray⟩
theorem txtN_size (n : Nat) : (txtN n).size = (Lib.decDigits n).length := by
  show (Lib.decDigits n).toArray.size = _
  simp
theorem txtN_small (n : Nat) (h : n < 10) : txtN n = ⟨#[digB n]⟩ := by
  unfold txtN
  rw [Lib.decDigits, dif_pos h]
  unfold digB
  rw [Nat.mod_eq_of_lt h]
theorem txtN_step (n : Nat) (h : ¬ n < 10) : txtN n = txtN (n / 10) ++ ⟨#[digB n]⟩ := by
  apply ByteArray.ext
  rw [ByteArray.data_append]
  unfold txtN
  rw [Lib.decDigits, dif_neg h]
  unfold digB
  simp
theorem decimal_any : ∀ (k n : Nat), n < k → n ≤ 999 → ∀ w, Calls Tryz.prog 38 #[.int .i64 n] w fun e w' => e = .returned (.string (txtN n)) ∧ Below w.heap.size w w'
  | 0, n, h, _ => by omega
  | k + 1, n, h, h9 => fun w => by
    by_cases hn : n < 10
    · rw [txtN_small n hn]
      exact decimal1 n hn w
    · rw [txtN_step n hn]
      have hl := decDigits_len 2 (n / 10) (by omega)
      exact decimal_step n (n / 10) (txtN (n / 10)) (by omega) h9 rfl (by rw [txtN_size]; omega) w (decimal_any k (n / 10) (by omega) (by omega))
theorem txtN_digs (n : Nat) : Digs (txtN n) := by
  have h : ∀ k n, n < k → ∀ c ∈ Lib.decDigits n, 48 ≤ c.toNat ∧ c.toNat ≤ 57 := by
    intro k
    induction k with
    | zero => intro n h; omega
    | succ k ih =>
      intro n h c hc
      rw [Lib.decDigits] at hc
      have hd : ∀ m, m < 10 → 48 ≤ (UInt8.ofNat (48 + m)).toNat ∧ (UInt8.ofNat (48 + m)).toNat ≤ 57 := fun m hm => by
        rw [UInt8.toNat_ofNat']
        omega
      split at hc
      · rename_i hn
        rw [List.mem_singleton.1 hc]
        exact hd n hn
      · rcases List.mem_append.1 hc with hc | hc
        · exact ih (n / 10) (by omega) c hc
        · rw [List.mem_singleton.1 hc]
          exact hd _ (Nat.mod_lt _ (by omega))
  intro i hi
  have hl : i < (Lib.decDigits n).length := by rw [← txtN_size]; exact hi
  exact h (n + 1) n (by omega) _ (List.getElem_mem hl)

/-- the symbol of a class, at a dot -/
def symF (m : Nat) (x y : Int) : Bool :=
  match m with
  | 0 => !(decide (x = 0) && decide (y = 0))
  | 1 => !(!decide (x = 0) && !decide (y = 0))
  | 2 => (decide (x = 0) && decide (y = 0)) || (!decide (x = 0) && !decide (y = 0))
  | 3 => true
  | 4 => decide (y = 0)
  | 5 => decide (x = 0)
  | _ => !decide (x = 0) && !decide (y = 0)
theorem symF_symB (m t u : Nat) (hm : m < 7) (ht : t < 3) (hu : u < 3) : symF m ((u : Int) - 1) ((t : Int) - 1) = symB m (3 * t + u) := by
  have h : ∀ m : Nat, m < 7 → ∀ t : Nat, t < 3 → ∀ u : Nat, u < 3 → symF m ((u : Int) - 1) ((t : Int) - 1) = symB m (3 * t + u) := by decide +kernel
  exact h m hm t ht u hu
set_option maxRecDepth 100000 in
set_option maxHeartbeats 4000000 in
theorem symbol_any (cls : ByteArray) (x y : Int) (m : Nat) (hm : m < 7) (hsum : (sumB cls.data.toList).tmod 7 = m) (hcl : cls.size ≤ 1048576) (w : World) :
    Calls Tryz.prog 36 #[.string cls, .int .i64 x, .int .i64 y] w fun e w' => e = .returned (.bool (symF m x y)) ∧ w = w' := by
  go_enter Tryz.func36, Tryz.ntmps36
  go_wp2_with fail
  go_loop [7, 8] (fun s i => ∃ n : Nat, n ≤ cls.size ∧ i = .int .i64 (n : Nat) ∧ s = .int .i64 (sumB (cls.data.toList.take n))) (fun _ i => cls.size - (intOf i).toNat)
  case atStart => exact ⟨0, Nat.zero_le _, rfl, rfl⟩
  case round =>
    obtain ⟨n, hn, rfl, rfl⟩ := hrel
    by_cases hlt : n < cls.size
    · have hltI : (n : Int) < (cls.size : Int) := by omega
      have hs := sumB_le (cls.data.toList.take n)
      have hsn := sumB_snoc (cls.data.toList.take n) (cls[n]'hlt)
      rw [← take_snocB cls n hlt] at hsn
      have h255 := (cls[n]'hlt).toNat_lt
      obtain ⟨c, hc⟩ : ∃ c, (cls[n]'hlt).toNat = c := ⟨_, rfl⟩
      rw [hc] at hsn h255
      obtain ⟨S, hS⟩ : ∃ S, sumB (cls.data.toList.take n) = S := ⟨_, rfl⟩
      rw [hS] at hsn hs
      rw [hS]
      have hll : (cls.data.toList.take n).length ≤ n := by simp; omega
      have hw1 : IntKind.i64.wrap (S + (c : Int)) = S + c := wrap_in7 (by omega) (by omega)
      have hw2 : IntKind.i64.wrap (c : Int) = c := wrap_in7 (by omega) (by omega)
      replace hsn := Lib.hid hsn
      clear hS hs hll hsum
      go_wp2_with (first | (refine wpList_index_as (by rfl) 9 _ _ (by rfl) cls .i64 (n : Nat) (by rfl) (by rfl) Tryz.underlying9 c (by omega) (by omega) (by rw [← hc]; rfl) ?_) | fail)
      go_round
      case rel => exact ⟨n + 1, by omega, by go_num, by rw [hsn.out]⟩
      case measure => simp [intOf]; omega
    · obtain rfl : n = cls.size := by omega
      have hge : ¬ (cls.size : Int) < (cls.size : Int) := by omega
      have htk : cls.data.toList.take cls.size = cls.data.toList := List.take_of_length_le (Nat.le_refl _)
      rw [htk]
      obtain ⟨S, hS⟩ : ∃ S, sumB cls.data.toList = S := ⟨_, rfl⟩
      rw [hS] at hsum ⊢
      clear hS htk
      rcases (show m = 0 ∨ m = 1 ∨ m = 2 ∨ m = 3 ∨ m = 4 ∨ m = 5 ∨ m = 6 from by omega) with rfl | rfl | rfl | rfl | rfl | rfl | rfl
      all_goals
        by_cases hx : x = 0
        all_goals
          by_cases hy : y = 0
          all_goals
            go_wp2_with fail
            go_ret
            exact ⟨by simp [symF, hx, hy], rfl⟩
end Go.Proofs.YtjfdbigkbgolmaaGreatDoor
