/-
  Chapter 24: the places of a map that have names, in their order.
  Chapter 24: the limits of a label, and the least of them.
  A drawn region whose operations leave values of which only something is known (calls that write, allocs, loads of what was made): each operation of the head is looked at once, in a frame of which only its own operands are known, whatever came before it; the last operations come in one forced order.
  A drawn region's frame behind its head: what the head does not write is as it was.
-/
import Derived.Test.YtikojanpbbiaiaaZk
import Derived.Test.YtikojanpbbiaiaaZb

namespace Go.Proofs.Ytikojanpbbiaiaa
set_option linter.unusedVariables false
set_option linter.unusedSimpArgs false
open Go.RowKit Go.Shelf Go.Lib Go.Sort
attribute [local go_sem] Oper.semAt_some
attribute [local go_sem ↓] Go.wp_at_zero Go.wp_at_succ

theorem ownsRow_base {W : World} {b b' : Nat} {e : TypeId} {s : Nat} {v : Value} {n : Nat} {xs : List Value} (h : W.ownsRow b e s v n xs) (hb : b' ≤ b) : W.ownsRow b' e s v n xs := by
  refine ⟨h.1, h.2.imp id ?_⟩
  rintro ⟨g, cap, cur, h1, h2, h3⟩
  exact ⟨g, cap, cur, h1, by omega, h3⟩
theorem below_of_grown {n : Nat} {w w' : World} {o : Option Nat} (hg : w.grownBy w' o) (hn : n ≤ w.heap.size) (h : ∀ k, o = some k → n ≤ k) : Below n w w' :=
  ⟨hg.os, hg.tape, hg.output, hg.size, fun k hk => hg.block k (Nat.lt_of_lt_of_le hk hn) (fun e => by have := h k e.symm; omega)⟩
/-- the places that have names, in their order -/
def queueL (l : List Pc) : List Pc := sortP (l.filter (fun x => !noName x))
theorem sortP_len (l : List Pc) : (sortP l).length = l.length := by
  unfold sortP
  have h : ∀ (b i : Nat) (d : Array Pc), (insOuter (ltOf cmpP) 0 b i d).size = d.size := by
    have hin : ∀ (j : Nat) (d : Array Pc), (insInner (ltOf cmpP) 0 j d).size = d.size := by
      intro j
      induction j with
      | zero => intro d; rfl
      | succ j ih =>
        intro d
        unfold insInner
        split
        · rw [ih, size_swp]
        · rfl
    intro b i d
    obtain ⟨m, hm⟩ : ∃ m, b - i = m := ⟨_, rfl⟩
    induction m generalizing i d with
    | zero => rw [insOuter_stop _ _ _ _ _ (by omega)]
    | succ m ih => rw [insOuter_go _ _ _ _ _ (by omega), ih (i + 1) _ (by omega), hin]
  rw [Array.length_toList]
  unfold insertionSort
  rw [h]
  simp
theorem queueL_len (l : List Pc) : (queueL l).length ≤ l.length := by
  unfold queueL
  rw [sortP_len]
  exact List.length_filter_le _ _
set_option maxRecDepth 100000 in
theorem queued_any (v1 v2 v3 pv : Value) (l : List Pc) (w : World) (h : Lst plE w.heap.size w pv l) (hf : Frm pv l.length) (hl : l.length ≤ 19) :
    Calls Try.prog 34 #[.agg #[v1, v2, v3, pv]] w fun e w' => ∃ u, e = .returned u ∧ w'.ownsRow w.heap.size 41 7 u (queueL l).length ((queueL l).flatMap plE.enc) ∧ Below w.heap.size w w' := by
  have hB0 : Below w.heap.size w (w.alloc (.cells #[v1, v2, v3, pv] 29)) := (Below.refl _ _).alloc (Nat.le_refl _) _
  have kM := Blk.new w #[v1, v2, v3, pv] 29
  have c3 : (w.alloc (.cells #[v1, v2, v3, pv] 29)).cell? ⟨w.heap.size, 3, none⟩ = some pv := kM.cell 3
  have hL := h.up hB0
  go_enter Try.func34, Try.ntmps34
  go_upto_region 1 with fail
  obtain ⟨W0, hW0⟩ : ∃ W, w.alloc (.cells #[v1, v2, v3, pv] 29) = W := ⟨_, rfl⟩
  obtain ⟨B0, hB0e⟩ : ∃ b, w.heap.size = b := ⟨_, rfl⟩
  rw [hW0] at hB0 c3 hL
  rw [hW0]
  rw [hB0e] at c3
  rw [hB0e]
  clear hW0 kM
  go_upto_region 2 with (first
    | (go_at_call 55; (with_reducible refine (clonePl_any _ l _ hL hf (by omega)).mono ?_); rintro e w1 ⟨u1, rfl, hr1, hb1⟩)
    | (go_at_call 54; (with_reducible refine (deleteQ_any _ _ l _ (by omega) hr1).mono ?_); rintro e w2 ⟨u2, rfl, hr2, hg2, ho2⟩)
    | fail)
  have hsz := hB0.size
  have hbb1 : Below B0 w w1 := (hB0e ▸ hB0).trans (hb1.mono (by omega))
  have hbb2 : Below B0 w w2 := hbb1.trans (below_of_grown hg2 (by have := hbb1.size; omega) (fun k hk => by have := (hr1.lt k hk).1; omega))
  have hlf : (l.filter (fun x => !noName x)).length ≤ 19 := Nat.le_trans (List.length_filter_le _ _) hl
  replace hbb2 := Lib.hid hbb2
  replace hr2 := Lib.hid hr2
  clear hr1 hg2 hbb1 hb1 hL h hB0 c3
  go_wp2_with (first
    | (go_at_call 71; (with_reducible refine (sortStable_Q _ _ _ (l.filter (fun x => !noName x)) _ hlf hr2.out).mono ?_); rintro e w3 ⟨rfl, hr3, hg3⟩)
    | fail)
  go_ret
  have hlen : (queueL l).length = (l.filter (fun x => !noName x)).length := sortP_len _
  refine ⟨_, rfl, ?_, ?_⟩
  · rw [hlen]
    exact ownsRow_base hr3 (by omega)
  · rw [hB0e]
    exact hbb2.out.trans (below_of_grown hg3 (by have := hbb2.out.size; omega) (fun k hk => by have := (hr3.lt k hk).1; omega))
end Go.Proofs.Ytikojanpbbiaiaa
namespace Go.Proofs.Ytikojanpbbiaiaa
set_option linter.unusedVariables false
set_option linter.unusedSimpArgs false
open Go.RowKit Go.Shelf Go.Lib Go.Sort
attribute [local go_sem] Oper.semAt_some
attribute [local go_sem ↓] Go.wp_at_zero Go.wp_at_succ

/-- the limit that a label sets another one -/
def limV (x y : Lb) : Int := if (limL x y : Int) < y.unt then (limL x y : Int) else 1024
def leastF (x : Lb) (ys : List Lb) : Int := ys.foldl (fun n y => min n (limV x y)) 1024
abbrev lbC (x : Lb) : Array Value := #[.int .i64 x.id, .int .i64 x.x, .int .i64 x.y, .int .i64 x.r, .string x.txt, .int .i64 x.unt]
/-- closures over the label in block BX and another one -/
abbrev fnE (BX : Nat) : El Nat := ⟨90, 1, fun b => [.func (.func 38) #[] #[.pointer (some ⟨BX, 0, none⟩), .pointer (some ⟨b, 0, none⟩)]]⟩
theorem fnOk (BX : Nat) : (fnE BX).Ok := ⟨fun _ => rfl, Nat.one_pos, fun x u hu => by
  simp at hu
  subst hu
  rfl⟩
theorem fnIn (BX : Nat) : (fnE BX).In Try.prog 83 := ⟨Try.underlying83, by
  obtain ⟨i, hi, h1, h2, h3⟩ := info_parts (P := Try.prog) (e := 90) (z := .nilFunc) (size := 1) (bytes := 8) (by kernel_rfl)
  exact ⟨i, _, hi, h1, h2, by omega, rfl⟩⟩
set_option maxRecDepth 100000 in
theorem make2_any (x y : Lb) (BX BY : Nat) (w : World) (hx : Blk w BX (lbC x) 39) (hy : Blk w BY (lbC y) 39) :
    Calls Try.prog 38 #[.pointer (some ⟨BX, 0, none⟩), .pointer (some ⟨BY, 0, none⟩)] w fun e w' => e = .returned (.int .i64 (limV x y)) ∧ Below w.heap.size w w' := by
  have c1 := limit_any x y
  obtain ⟨v, hv⟩ : ∃ v, limV x y = v := ⟨_, rfl⟩
  rw [hv]
  unfold limV at hv
  generalize limL x y = z at *
  obtain ⟨i, xx, xy, r, t, u⟩ := x
  obtain ⟨i2, x2, y2, r2, t2, u2⟩ := y
  have a0 : w.cell? ⟨BX, 0, none⟩ = some (.int .i64 i) := hx.cell 0
  have a1 : w.cell? ⟨BX, 1, none⟩ = some (.int .i64 xx) := hx.cell 1
  have a2 : w.cell? ⟨BX, 2, none⟩ = some (.int .i64 xy) := hx.cell 2
  have a3 : w.cell? ⟨BX, 3, none⟩ = some (.int .i64 r) := hx.cell 3
  have a4 : w.cell? ⟨BX, 4, none⟩ = some (.string t) := hx.cell 4
  have a5 : w.cell? ⟨BX, 5, none⟩ = some (.int .i64 u) := hx.cell 5
  have b0 : w.cell? ⟨BY, 0, none⟩ = some (.int .i64 i2) := hy.cell 0
  have b1 : w.cell? ⟨BY, 1, none⟩ = some (.int .i64 x2) := hy.cell 1
  have b2 : w.cell? ⟨BY, 2, none⟩ = some (.int .i64 y2) := hy.cell 2
  have b3 : w.cell? ⟨BY, 3, none⟩ = some (.int .i64 r2) := hy.cell 3
  have b4 : w.cell? ⟨BY, 4, none⟩ = some (.string t2) := hy.cell 4
  have b5 : w.cell? ⟨BY, 5, none⟩ = some (.int .i64 u2) := hy.cell 5
  simp only at hv
  by_cases h : (z : Int) < u2
  · rw [if_pos h] at hv
    subst hv
    clear hx hy
    go_enter Try.func38, Try.ntmps38
    go_wp2_with (first
      | (go_at_call 11; (with_reducible refine (c1 _).mono ?_); rintro e w' ⟨rfl, hb_⟩; obtain ⟨p1, rfl⟩ := grow_of_below hb_; clear hb_)
      | fail)
    go_ret
    exact ⟨rfl, (by repeat' (first | with_reducible exact Below.refl _ _ | with_reducible exact Nat.le_refl _ | with_reducible assumption | with_reducible refine Go.below_growBy' ?_ ?_ _ | with_reducible refine Below.alloc ?_ ?_ _ | with_reducible refine Below.setCell ?_ ?_ _ | with_reducible refine Below.drew ?_ | with_reducible refine Go.le_alloc ?_ | with_reducible refine Go.le_growBy ?_ | with_reducible refine Go.le_setCell ?_ | with_reducible refine Go.le_drew ?_ | omega | (dsimp only; omega)))⟩
  · rw [if_neg h] at hv
    subst hv
    clear hx hy
    go_enter Try.func38, Try.ntmps38
    go_wp2_with (first
      | (go_at_call 11; (with_reducible refine (c1 _).mono ?_); rintro e w' ⟨rfl, hb_⟩; obtain ⟨p1, rfl⟩ := grow_of_below hb_; clear hb_)
      | fail)
    go_ret
    exact ⟨rfl, (by repeat' (first | with_reducible exact Below.refl _ _ | with_reducible exact Nat.le_refl _ | with_reducible assumption | with_reducible refine Go.below_growBy' ?_ ?_ _ | with_reducible refine Below.alloc ?_ ?_ _ | with_reducible refine Below.setCell ?_ ?_ _ | with_reducible refine Below.drew ?_ | with_reducible refine Go.le_alloc ?_ | with_reducible refine Go.le_growBy ?_ | with_reducible refine Go.le_setCell ?_ | with_reducible refine Go.le_drew ?_ | omega | (dsimp only; omega)))⟩
/-- the boxes of labels -/
def Boxes (w : World) (bs : List Nat) (ys : List Lb) : Prop := bs.length = ys.length ∧ ∀ (k b : Nat) (y : Lb), bs[k]? = some b → ys[k]? = some y → Blk w b (lbC y) 39
theorem Boxes.below {w w' : World} {bs : List Nat} {ys : List Lb} (h : Boxes w bs ys) (hb : Below w.heap.size w w') : Boxes w' bs ys :=
  ⟨h.1, fun k b y h1 h2 => (h.2 k b y h1 h2).below hb (h.2 k b y h1 h2).lt⟩
set_option maxRecDepth 100000 in
set_option maxHeartbeats 2000000 in
theorem least_any (v : Value) (x : Lb) (BX : Nat) (bs : List Nat) (ys : List Lb) (w : World) (hv : Lst (fnE BX) w.heap.size w v bs) (hx : Blk w BX (lbC x) 39) (hy : Boxes w bs ys) :
    Calls Try.prog 39 #[v] w fun e w' => e = .returned (.int .i64 (leastF x ys)) ∧ Below w.heap.size w w' := by
  have hlen := hv.len
  have HBL := Lib.hid hy.1
  obtain ⟨a, cap, rfl, -⟩ := hv.form
  obtain ⟨res, hres⟩ : ∃ r, leastF x ys = r := ⟨_, rfl⟩
  rw [hres]
  replace hres := Lib.hid hres
  go_enter Try.func39, Try.ntmps39
  go_wp2_with fail
  go_loopw [3, 8] (fun nn kk wr => ∃ k : Nat, k ≤ bs.length ∧ kk = .int .i64 (k : Nat) ∧ nn = .int .i64 (leastF x (ys.take k)) ∧ Below w.heap.size w wr) (fun _ kk _ => bs.length - (intOf kk).toNat)
  case atStart => exact ⟨0, Nat.zero_le _, rfl, rfl, Below.refl _ _⟩
  case round =>
    obtain ⟨k, hk, rfl, rfl, hB⟩ := hrel
    by_cases hlt : k < bs.length
    · have hltI : (k : Int) < (bs.length : Int) := by omega
      obtain ⟨b, off, cap', e, hcap, hbn, hc⟩ := hv.some_ (by omega)
      simp only [Value.slice.injEq, true_and] at e
      obtain ⟨rfl, rfl⟩ := e
      obtain ⟨bk, hbk⟩ : ∃ b, bs[k]? = some b := ⟨_, List.getElem?_eq_getElem hlt⟩
      obtain ⟨yk, hyk⟩ : ∃ y, ys[k]? = some y := ⟨_, List.getElem?_eq_getElem (by have := HBL.out; omega)⟩
      have hcl := hc k hlt 0 Nat.one_pos
      have hbk2 : bs[k] = bk := by rw [List.getElem?_eq_getElem hlt] at hbk; exact Option.some.inj hbk
      rw [hbk2] at hcl
      have hf : wr.cell? ⟨b, off + k, none⟩ = some (.func (.func 38) #[] #[.pointer (some ⟨BX, 0, none⟩), .pointer (some ⟨bk, 0, none⟩)]) := by
        refine (hB.cell (p := ⟨b, off + k, none⟩) hbn).trans ?_
        simpa using hcl
      have hcall := make2_any x yk BX bk wr (hx.below hB hx.lt) ((hy.below hB).2 k bk yk hbk hyk)
      have hn : leastF x (ys.take (k + 1)) = min (leastF x (ys.take k)) (limV x yk) := by
        unfold leastF
        rw [List.take_add_one, hyk, List.foldl_append]
        rfl
      generalize leastF x (ys.take k) = n0 at *
      generalize limV x yk = n1 at *
      clear hcl hc hbk2 hbk hyk hv
      go_wp2_with (first
        | (go_at_call 38; (with_reducible refine hcall.mono ?_); rintro e w2 ⟨rfl, hb2⟩; have hB2 := hB.trans (hb2.mono hB.size); clear hb2)
        | fail)
      go_roundw
      case rel => exact ⟨k + 1, by omega, by go_num, by rw [hn], hB2⟩
      case measure => first | (simp [intOf]; done) | (simp [intOf]; omega)
    · obtain rfl : k = bs.length := by omega
      have hge : ¬ (bs.length : Int) < (bs.length : Int) := by omega
      have hl2 : leastF x (ys.take bs.length) = res := by rw [HBL.out, List.take_length]; exact hres.out
      rw [hl2]
      clear hl2
      go_wp2_with fail
      go_ret
      exact ⟨rfl, hB⟩
end Go.Proofs.Ytikojanpbbiaiaa
namespace Go
set_option linter.unusedVariables false
set_option linter.unusedSimpArgs false
open Go.RowKit

section
variable {P : Program} {ops : Array Oper}

theorem Act.eval_put_same {a : Act} {d : Nat} {v : Value} (h : d < a.tmps.size) : (a.put (some d) v).eval (.tmp d) = v := by
  simp [Act.put, Act.eval, h]
theorem Act.put_size {a : Act} {d : Option Tmp} {v : Value} : (a.put d v).tmps.size = a.tmps.size := by
  cases d <;> simp [Act.put]
theorem Act.put_defers' {a : Act} {d : Option Tmp} {v : Value} : (a.put d v).defers = a.defers := by
  cases d <;> rfl

/-- the frames that agree but for the slots that the head writes -/
structure Agree (ops : Array Oper) (n : Nat) (a b : Act) : Prop where
  defers : b.defers = a.defers
  size : b.tmps.size = a.tmps.size
  same : ∀ k, (∀ i o, i < n → ops[i]? = some o → o.dst ≠ some k) → b.eval (.tmp k) = a.eval (.tmp k)
theorem Agree.refl (ops : Array Oper) (n : Nat) (a : Act) : Agree ops n a a := ⟨rfl, rfl, fun _ _ => rfl⟩
/-- operation i has left a value of which F i holds -/
def LeftAt (ops : Array Oper) (F : Nat → Value → World → Prop) (i : Nat) (b : Act) (w : World) : Prop := ∀ o d, ops[i]? = some o → o.dst = some d → F i (b.eval (.tmp d)) w

def Region.headB (ops : Array Oper) (n sz i : Nat) : Bool :=
  match ops[i]? with
  | none => false
  | some o => o.guard.isNone && (match o.dst with | none => false | some d => decide (d < sz)) && o.after.all (fun e => !Region.binds .any e || decide (e.on < i)) &&
    (List.range n).all (fun j => j == i || (match ops[j]? with | none => true | some o' => o.dst != o'.dst))
def Region.relB (ops : Array Oper) (n sz : Nat) : Bool :=
  decide (n < ops.size) && Region.sinkB .any ops n && Region.chainB .any ops n && (List.range n).all (Region.headB ops n sz) &&
  Region.seqB .any ops (ops.size - n) n (Array.replicate n true ++ Array.replicate (ops.size - n) false)

structure HeadOk (ops : Array Oper) (n sz i : Nat) (o : Oper) (d : Nat) : Prop where
  op : ops[i]? = some o
  guard : o.guard = none
  dst : o.dst = some d
  lt : d < sz
  after : ∀ e ∈ o.after, Region.binds .any e = true → e.on < i
  other : ∀ j o', j < n → j ≠ i → ops[j]? = some o' → o'.dst ≠ some d
theorem Region.headB_spec {ops : Array Oper} {n sz i : Nat} (h : Region.headB ops n sz i = true) : ∃ o d, HeadOk ops n sz i o d := by
  unfold Region.headB at h
  cases ho : ops[i]? with
  | none => rw [ho] at h; cases h
  | some o =>
    rw [ho] at h
    simp only [Bool.and_eq_true] at h
    obtain ⟨⟨⟨h1, h2⟩, h3⟩, h4⟩ := h
    cases hd : o.dst with
    | none => rw [hd] at h2; cases h2
    | some d =>
      rw [hd] at h2 h4
      simp only [decide_eq_true_eq] at h2
      refine ⟨o, d, ho, by simpa using h1, hd, h2, fun e he hb => ?_, fun j o' hj hne ho' e => ?_⟩
      · obtain ⟨k, hk, rfl⟩ := Array.getElem_of_mem he
        have := (Array.all_eq_true.1 h3) k hk
        simpa [hb] using this
      · have := List.all_eq_true.1 h4 j (List.mem_range.2 hj)
        rw [ho'] at this
        simp [hne, e] at this

/-- how many of the head are listed -/
def cntL (s : Array Bool) : Nat → Nat
  | 0 => 0
  | n + 1 => cntL s n + (if s.getD n false then 1 else 0)
theorem cntL_le (s : Array Bool) : ∀ n, cntL s n ≤ n
  | 0 => Nat.le_refl _
  | n + 1 => by unfold cntL; have := cntL_le s n; split <;> omega
theorem cntL_all {s : Array Bool} : ∀ {n}, cntL s n = n → ∀ i, i < n → s.getD i false = true
  | 0, _, i, h => by omega
  | n + 1, h, i, hi => by
    unfold cntL at h
    have h1 := cntL_le s n
    split at h
    · rename_i hs
      by_cases e : i = n
      · subst e; exact hs
      · exact cntL_all (n := n) (by omega) i (by omega)
    · omega
theorem cntL_some {s : Array Bool} : ∀ {n}, cntL s n < n → ∃ i, i < n ∧ s.getD i false = false
  | 0, h => by omega
  | n + 1, h => by
    unfold cntL at h
    cases hs : s.getD n false with
    | false => exact ⟨n, by omega, hs⟩
    | true =>
      simp only [hs, if_true] at h
      obtain ⟨i, h1, h2⟩ := cntL_some (s := s) (n := n) (by omega)
      exact ⟨i, by omega, h2⟩
theorem cntL_other {s : Array Bool} {i : Nat} : ∀ {n}, n ≤ i → cntL (s.setIfInBounds i true) n = cntL s n
  | 0, _ => rfl
  | n + 1, h => by
    unfold cntL
    rw [cntL_other (n := n) (by omega), getD_set_ne false (by omega)]
theorem cntL_set {s : Array Bool} {i : Nat} (hs : i < s.size) (hf : s.getD i false = false) : ∀ {n}, i < n → cntL (s.setIfInBounds i true) n = cntL s n + 1
  | 0, h => by omega
  | n + 1, h => by
    unfold cntL
    by_cases e : i = n
    · subst e
      have h1 : (s.setIfInBounds i true).getD i false = true := by simp [hs]
      rw [cntL_other (Nat.le_refl _), h1, hf]
      simp
    · rw [cntL_set hs hf (n := n) (by omega), getD_set_ne false e]
      omega
theorem cntL_none {m : Nat} : ∀ n, cntL (Array.replicate m false) n = 0
  | 0 => rfl
  | n + 1 => by
    unfold cntL
    rw [cntL_none n, getD_replicate_false]
    rfl

theorem rel_ready {n : Nat} {s : Array Bool} {sz : Nat} (hh : ∀ i, i < n → ∃ o d, HeadOk ops n sz i o d) (inv : HeadInv .any ops n s) : ∀ k i, i < k → i < n → s.getD i false = false → Region.ready .any ops s ≠ [] := by
  intro k
  induction k with
  | zero => intro i h; omega
  | succ k ih =>
    intro i hik hin hf
    obtain ⟨o, d, ho⟩ := hh i hin
    by_cases hall : ∀ e ∈ o.after, Region.binds .any e = true → s.getD e.on false = true
    · have hlt : i < s.size := by rw [inv.size]; exact (Array.getElem?_eq_some_iff.1 ho.op).1
      exact List.ne_nil_of_mem (mem_ready.2 ⟨getD_in hlt hf, o, ho.op, hall⟩)
    · obtain ⟨e, he⟩ := Classical.not_forall.1 hall
      simp only [Classical.not_imp] at he
      obtain ⟨h1, h2, h3⟩ := he
      have h4 := ho.after e h1 h2
      exact ih e.on (by omega) (by omega) (by simpa using h3)

theorem wp_rel_go {Q : Exit → Act → World → Prop} {a : Act} {l : List Oper} {n : Nat} (hn : n < l.toArray.size) (hs : Region.sinkB .any l.toArray n = true) (hc : Region.chainB .any l.toArray n = true)
    (hh : ∀ i, i < n → ∃ o d, HeadOk l.toArray n a.tmps.size i o d) (hseq : Region.seqB .any l.toArray (l.toArray.size - n) n (Array.replicate n true ++ Array.replicate (l.toArray.size - n) false) = true)
    (I : Nat → World → Prop) (G : World → World → Prop) (F : Nat → Value → World → Prop) (hF : ∀ i v w w', F i v w → G w w' → F i v w')
    (hstep : ∀ i o, i < n → l.toArray[i]? = some o → ∀ c b w', c < n → I c w' → Agree l.toArray n a b → (∀ e ∈ o.after, Region.binds .any e = true → LeftAt l.toArray F e.on b w') →
      ∀ K : Act → World → Prop, (∀ v w'', F i v w'' → G w' w'' → I (c + 1) w'' → K (b.put o.dst v) w'') → Oper.wp P o b w' K Q)
    (htail : ∀ b w', I n w' → Agree l.toArray n a b → (∀ i, i < n → LeftAt l.toArray F i b w') → wpList P l.toArray Q (l.drop n) b w') :
    ∀ (f c : Nat) (s : Array Bool) (b : Act) (w' : World), c + f = n → cntL s n = c → HeadInv .any l.toArray n s → I c w' → Agree l.toArray n a b → (∀ j, j < n → s.getD j false = true → LeftAt l.toArray F j b w') →
      wpAny P .any l.toArray Q (f + (l.toArray.size - n)) s b w' := by
  intro f
  induction f with
  | zero =>
    intro c s b w' hcf hcnt inv hI hA hL
    obtain rfl : c = n := by omega
    have hall := cntL_all hcnt
    have hsl : s = Array.replicate c true ++ Array.replicate (l.toArray.size - c) false := by
      apply Array.ext
      · rw [inv.size]; simp; simp at hn; omega
      · intro i h1 h2
        by_cases hi : i < c
        · have := hall i hi
          rw [Array.getElem_append_left (by simpa using hi)]
          simpa [Array.getD, h1] using this
        · have := inv.tail i (by omega) (by rw [← inv.size]; exact h1)
          rw [Array.getElem_append_right (by simp; omega)]
          simpa [Array.getD, h1] using this
    rw [Nat.zero_add, hsl]
    have h := wpAny_of_seq (P := P) (md := .any) (Q' := Q) (ops := l.toArray) (l.drop c) c (Array.replicate c true ++ Array.replicate (l.toArray.size - c) false) b w' (fun j => by simp [List.getElem?_drop])
      (by rw [List.length_drop, show l.length = l.toArray.size from by simp]; exact hseq) (htail b w' hI hA (fun i hi => hL i hi (hall i hi)))
    rw [List.length_drop, show l.length = l.toArray.size from by simp] at h
    exact h
  | succ f ih =>
    intro c s b w' hcf hcnt inv hI hA hL
    obtain ⟨i0, hi0, hf0⟩ := cntL_some (s := s) (n := n) (by omega)
    have hne := rel_ready hh inv (i0 + 1) i0 (by omega) hi0 hf0
    rw [show f + 1 + (l.toArray.size - n) = f + (l.toArray.size - n) + 1 from by omega]
    refine ⟨fun h => absurd h hne, fun i hi => ?_⟩
    have hlt0 : i0 < s.size := by rw [inv.size]; omega
    have hin : i < n := head_only hs hc hn inv hi0 (getD_in hlt0 hf0) i hi
    obtain ⟨hun, oi, hoi, haf⟩ := mem_ready.1 hi
    obtain ⟨o, d, ho⟩ := hh i hin
    obtain rfl : oi = o := Option.some.inj (hoi.symm.trans ho.op)
    have hlt : i < s.size := by rw [inv.size]; omega
    have hd : d < b.tmps.size := by rw [hA.size]; exact ho.lt
    unfold wpOp
    simp only [hoi]
    rw [if_pos (by simp [Region.wanted, ho.guard])]
    refine .inl (hstep i oi hin hoi c b w' (by omega) hI hA (fun e he hb => hL e.on (by have := ho.after e he hb; omega) (haf e he hb)) _ ?_)
    intro v w'' h1 h2 h3
    rw [ho.dst]
    have hoth : ∀ k, k ≠ d → (b.put (some d) v).eval (.tmp k) = b.eval (.tmp k) := fun k hk => Act.eval_put (fun d' e => by cases e; intro e2; cases e2; exact hk rfl)
    refine ih (c + 1) _ _ _ (by omega) ?_ (inv.set hi hin) h3 ⟨by rw [Act.put_defers', hA.defers], by rw [Act.put_size, hA.size], fun k hk => ?_⟩ ?_
    · rw [cntL_set hlt (getD_both hun) hin, hcnt]
    · rw [hoth k (fun e => hk i oi hin hoi (by rw [ho.dst, e]))]
      exact hA.same k hk
    · intro j hj hlj o' d' ho' hd'
      by_cases hji : j = i
      · subst hji
        obtain rfl : o' = oi := Option.some.inj (ho'.symm.trans hoi)
        obtain rfl : d' = d := Option.some.inj (hd'.symm.trans ho.dst)
        rw [Act.eval_put_same hd]
        exact h1
      · have hne' : d' ≠ d := fun e => ho.other j o' hj hji ho' (by rw [hd', e])
        rw [hoth d' hne']
        rw [getD_set_ne false (fun e => hji e.symm)] at hlj
        exact hF j _ _ _ (hL j hj hlj o' d' ho' hd') h2

/-- **A drawn region, each operation of its head looked at once.** -/
theorem wp_region_rel {id : Nat} {Q : Exit → Act → World → Prop} {a : Act} {w : World} {l : List Oper} (n : Nat) (hm : P.follows .mixedOrders = true) (hB : Region.relB l.toArray n a.tmps.size = true)
    (I : Nat → World → Prop) (G : World → World → Prop) (F : Nat → Value → World → Prop) (hF : ∀ i v w w', F i v w → G w w' → F i v w') (h0 : I 0 w.drew)
    (hstep : ∀ i o, i < n → l.toArray[i]? = some o → ∀ c b w', c < n → I c w' → Agree l.toArray n a b → (∀ e ∈ o.after, Region.binds .any e = true → LeftAt l.toArray F e.on b w') →
      ∀ K : Act → World → Prop, (∀ v w'', F i v w'' → G w' w'' → I (c + 1) w'' → K (b.put o.dst v) w'') → Oper.wp P o b w' K Q)
    (htail : ∀ b w', I n w' → Agree l.toArray n a b → (∀ i, i < n → LeftAt l.toArray F i b w') → wpList P l.toArray Q (l.drop n) b w') :
    (Code.region id l.toArray true).wp P Q a w := by
  simp only [Region.relB, Bool.and_eq_true, decide_eq_true_eq] at hB
  obtain ⟨⟨⟨⟨hn, hs⟩, hc⟩, hh⟩, hseq⟩ := hB
  have hh' : ∀ i, i < n → ∃ o d, HeadOk l.toArray n a.tmps.size i o d := fun i hi => Region.headB_spec (List.all_eq_true.1 hh i (List.mem_range.2 hi))
  have inv0 : HeadInv .any l.toArray n (Array.replicate l.toArray.size false) :=
    ⟨by simp, fun j oj _ hl => (by rw [getD_replicate_false] at hl; cases hl), fun t _ ht => getD_in (by simpa using ht) (getD_replicate_false _ _)⟩
  refine wp_region_any hm ?_
  have h := wp_rel_go (P := P) (Q := Q) (a := a) hn hs hc hh' hseq I G F hF hstep htail n 0 _ a w.drew (by omega) (cntL_none n) inv0 h0 (Agree.refl _ _ _) (fun j hj hl => by rw [getD_replicate_false] at hl; cases hl)
  rw [show n + (l.toArray.size - n) = l.toArray.size from by omega] at h
  exact h

def Region.notDst (ops : Array Oper) (n k : Nat) : Bool := (List.range n).all fun i => match ops[i]? with | some o => o.dst != some k | none => true
theorem Agree.at_ {n k : Nat} {a b : Act} (h : Agree ops n a b) (hk : Region.notDst ops n k = true) : b.eval (.tmp k) = a.eval (.tmp k) :=
  h.same k fun i o hi ho e => by
    have := List.all_eq_true.1 hk i (List.mem_range.2 hi)
    rw [ho] at this
    simp [e] at this
theorem dep_at {F : Nat → Value → World → Prop} {o : Oper} {b : Act} {w : World} (h : ∀ e ∈ o.after, Region.binds .any e = true → LeftAt ops F e.on b w) (j d : Nat) {oj : Oper}
    (h1 : (o.after.any fun e => Region.binds .any e && e.on == j) = true) (h2 : ops[j]? = some oj) (h3 : oj.dst = some d) : F j (b.eval (.tmp d)) w := by
  obtain ⟨i, hi, h4⟩ := Array.any_eq_true.1 h1
  simp only [Bool.and_eq_true, beq_iff_eq] at h4
  have := h o.after[i] (Array.getElem_mem hi) h4.1
  rw [h4.2] at this
  exact this oj d h2 h3

/-- an array, written out -/
theorem array_out (t : Array Value) (n : Nat) (h : t.size = n) : t = ((List.range n).map fun i => t.getD i undef).toArray := by
  subst h
  apply Array.ext
  · simp
  · intro i h1 h2
    simp [Array.getD, h1]
end
end Go
namespace Go
set_option linter.unusedVariables false
set_option linter.unusedSimpArgs false
open Go.RowKit

def pickL : List Bool → List Value → (Nat → Value) → Nat → List Value
  | true :: bs, x :: xs, f, k => x :: pickL bs xs f (k + 1)
  | false :: bs, _ :: xs, f, k => f k :: pickL bs xs f (k + 1)
  | _, _, _, _ => []
theorem pickL_get : ∀ (bs : List Bool) (xs : List Value) (f : Nat → Value) (k j : Nat), bs.length = xs.length → (pickL bs xs f k)[j]? = (if j < xs.length then some (if bs.getD j false then xs.getD j undef else f (k + j)) else none)
  | [], [], _, _, _, _ => by simp [pickL]
  | true :: bs, x :: xs, f, k, 0, _ => by simp [pickL]
  | false :: bs, x :: xs, f, k, 0, _ => by simp [pickL]
  | true :: bs, x :: xs, f, k, j + 1, h => by
    have ih := pickL_get bs xs f (k + 1) j (by simpa using h)
    rw [show pickL (true :: bs) (x :: xs) f k = x :: pickL bs xs f (k + 1) from rfl, List.getElem?_cons_succ, ih]
    simp [Nat.add_assoc, Nat.add_comm 1 j]
  | false :: bs, x :: xs, f, k, j + 1, h => by
    have ih := pickL_get bs xs f (k + 1) j (by simpa using h)
    rw [show pickL (false :: bs) (x :: xs) f k = f k :: pickL bs xs f (k + 1) from rfl, List.getElem?_cons_succ, ih]
    simp [Nat.add_assoc, Nat.add_comm 1 j]
theorem Agree.frame {ops : Array Oper} {n : Nat} {a b : Act} (h : Agree ops n a b) (bs : List Bool) (xs : List Value) (ha : a.tmps = xs.toArray) (hb : (List.range xs.length).map (Region.notDst ops n) = bs) :
    b = ⟨(pickL bs xs (fun k => b.tmps.getD k undef) 0).toArray, a.defers⟩ := by
  have hl : bs.length = xs.length := by rw [← hb]; simp
  have hs := h.size
  have hd := h.defers
  obtain ⟨bt, bd⟩ := b
  simp only at hs hd
  subst hd
  congr 1
  apply Array.ext'
  apply List.ext_getElem?
  intro j
  rw [List.toList_toArray, pickL_get bs xs _ 0 j hl]
  have hsz : bt.toList.length = xs.length := by rw [ha] at hs; simpa using hs
  split
  · rename_i hj
    have hj2 : j < bt.toList.length := by omega
    rw [List.getElem?_eq_getElem hj2]
    congr 1
    split
    · rename_i hbj
      have hn : Region.notDst ops n j = true := by
        rw [← hb, List.getD_eq_getElem?_getD, List.getElem?_map, List.getElem?_range (by omega)] at hbj
        simpa using hbj
      have := h.at_ hn
      simp only [Act.eval, ha] at this
      have hj3 : j < bt.size := by simpa using hj2
      simpa [Array.getD, hj3, hj, List.getD_eq_getElem?_getD] using this
    · simp [Array.getD, show j < bt.size from by simpa using hj2]
  · rename_i hj
    rw [List.getElem?_eq_none (by omega)]
end Go
