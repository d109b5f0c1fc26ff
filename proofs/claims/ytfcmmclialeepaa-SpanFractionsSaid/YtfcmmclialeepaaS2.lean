/-
  span.Done: how many events are done: the range over the iterator.
-/
import Derived.Test.YtfcmmclialeepaaS1
namespace Go.Proofs.Ytfcmmclialeepaa
open Go.RowKit Go.Shelf
attribute [local go_sem] Oper.semAt_some

/-- block B holds these cells, none frozen -/
def Blk (W : World) (B : Nat) (c : Array Value) (t : TypeId) : Prop := W.heap[B]? = some (.cells c t (0, 0))
theorem Blk.kept {W W' : World} {B : Nat} {c : Array Value} {t : TypeId} {row : Option Nat} (h : Blk W B c t) (hg : W.grownBy W' row) (hr : row ≠ some B) : Blk W' B c t := by
  exact (hg.block B (Array.getElem?_eq_some_iff.1 h).1 (fun e => hr e.symm)).trans h
theorem Blk.new (W : World) (c : Array Value) (t : TypeId) : Blk (W.alloc (.cells c t)) W.heap.size c t := by unfold Blk World.alloc; simp
theorem Blk.alloc {W : World} {B : Nat} {c : Array Value} {t : TypeId} (h : Blk W B c t) (o : Obj) : Blk (W.alloc o) B c t := h.kept (World.grownBy_alloc W o none) (by simp)
theorem Blk.lt {W : World} {B : Nat} {c : Array Value} {t : TypeId} (h : Blk W B c t) : B < W.heap.size := (Array.getElem?_eq_some_iff.1 h).1
theorem Blk.cell {W : World} {B : Nat} {c : Array Value} {t : TypeId} (h : Blk W B c t) (i : Nat) : W.cell? ⟨B, i, none⟩ = c[i]? := cell_of_block h i
theorem Blk.frozen {W : World} {B : Nat} {c : Array Value} {t : TypeId} (h : Blk W B c t) (i : Nat) : W.frozen? ⟨B, i, none⟩ = false := by
  unfold World.frozen?; rw [show W.heap[B]? = _ from h]; simp
theorem Blk.below {W W' : World} {B n₀ : Nat} {c : Array Value} {t : TypeId} (h : Blk W B c t) (hb : Below n₀ W W') (hB : B < n₀) : Blk W' B c t := (hb.block B hB).trans h
theorem Blk.set {W : World} {B : Nat} {c : Array Value} {t : TypeId} (h : Blk W B c t) (i : Nat) (v : Value) : Blk (W.setCell ⟨B, i, none⟩ v) B (c.setIfInBounds i v) t := by
  unfold Blk at *
  unfold World.setCell
  simp [Array.getElem?_modify, h]
theorem Blk.other {W : World} {B B' : Nat} {c : Array Value} {t : TypeId} (h : Blk W B c t) (hne : B ≠ B') (i : Nat) (v : Value) : Blk (W.setCell ⟨B', i, none⟩ v) B c t := by
  unfold Blk at *
  rw [Below.heap_setCell _ _ _ _ (by simpa using hne)]
  exact h
theorem Blk.grow {W : World} {B : Nat} {c : Array Value} {t : TypeId} (h : Blk W B c t) (p : Growth) : Blk (W.growBy p) B c t := h.kept (grownBy_growBy W p) (by simp)
theorem Blk.drew {W : World} {B : Nat} {c : Array Value} {t : TypeId} (h : Blk W B c t) : Blk W.drew B c t := h
theorem blk_own {β : Type} (B : Nat) (t : TypeId) (f : β → Array Value) : Own (fun s W => Blk W B (f s) t) := fun s X Y row hs hg hrow =>
  hs.kept hg (fun e' => by obtain ⟨o, ho, hc⟩ := hrow B e'; rw [show X.heap[B]? = _ from hs] at ho; cases ho; cases hc)

theorem Evs.len {n₀ : Nat} {W : World} {sv : Value} {l : List Ev} : Evs n₀ W sv l → l.length ≤ 4294967296
  | .inl ⟨_, e⟩ => by rw [e]; simp
  | .inr ⟨_, _, _, _, _, h, _⟩ => h

/-- all that has come ends at most at the square -/
def AllDone (sq : Int) (pre : List Turn) : Prop := ∀ x ∈ pre, x.1.2.2 ≤ sq

/-- Done's last steps, behind the loop -/
theorem done_end {F : Fence} {n D : Nat} {W w : World} {v : Int} {t : Array Value} (ht : t[4]? = some (.pointer (some ⟨w.heap.size + 1 + 1, 0, none⟩))) (hK : W.heap[D]? = some (.deferred (some []))) (bN1 : Blk W (w.heap.size + 1 + 1) #[.int .i64 v] 3) (hB1 : Below w.heap.size w W) (hD : w.heap.size ≤ D) :
    bodyPostM F n Try.prog Try.f13 (fun e W' => e = .returned (.int .i64 v) ∧ Below w.heap.size w W') Exit.ret { tmps := t, defers := [{ target := Target.collected D, args := #[] }] } (W.setCell ⟨w.heap.size + 1 + 1, 0, none⟩ (.int .i64 v)) := by
  have hK' := (KeepsOthers.setCell W ⟨w.heap.size + 1 + 1, 0, none⟩ (.int .i64 v)).same D _ hK rfl
  have hb : Blk (W.setCell ⟨w.heap.size + 1 + 1, 0, none⟩ (.int .i64 v)) (w.heap.size + 1 + 1) #[.int .i64 v] 3 := by
    have := bN1.set 0 (.int .i64 v); simpa using this
  refine ⟨by simp, .inl ⟨_, _, rfl, run_takeDeferred hK', .int .i64 v, ?_, rfl, (hB1.setCell (p := ⟨w.heap.size + 1 + 1, 0, none⟩) (by simp; omega) _).trans (belowK_b (w := w) (Nat.le_refl _) _ D _ _ hD hK' rfl rfl)⟩⟩
  have hc5 := (hb.kept (grownBy_putObj' _ D (.deferred none)) (fun e => by cases e; rw [show (W.setCell ⟨w.heap.size + 1 + 1, 0, none⟩ (.int .i64 v)).heap[_]? = _ from hb] at hK'; cases hK')).cell 0
  simp [results, Try.f13, go_sem, hc5, ht]

set_option maxRecDepth 100000 in
set_option maxHeartbeats 4000000 in
theorem done_in (F : Fence) (n : Nat) (hf : F.fn 13) (hg : F.fn 19) (hg1 : F.fn 26) (hro : F.round = none) (hn : 3 ≤ n) (d sq : Int) (a : Option Addr) (len cap : Nat) (evs : List Ev) (w : World)
    (hE : Evs w.heap.size w (.slice a len cap) evs) :
    CallsIn F n Try.prog 13 #[.agg #[.int .i64 d, .slice a len cap], .int .i64 sq] w fun e W' => e = .returned (.int .i64 (doneN sq evs)) ∧ Below w.heap.size w W' := by
  have h1 : 1 ≤ n := by omega
  refine callsIn_of_wp_marks Try.func13 rfl hf ?_ hro
  simp only [Try.ntmps13, List.size_toArray, List.length_cons, List.length_nil, Nat.reduceAdd, Nat.reduceSub, Array.replicate_succ, Array.replicate_zero, List.push_toArray, List.append_toArray, List.nil_append, List.cons_append]
  gi_wp2_with (gi_at_call 19; refine (ends_in F (n - 1) hg hro _ _ _ _ _).mono ?_; rintro e w' ⟨rfl, rfl⟩)
  have bS := ((Blk.new (w.alloc (.cells #[.int .i64 d, .slice a len cap] 32)) #[.int .i64 sq] 3).alloc (.cells #[.int .i64 0] 3)).alloc (.cells #[.int .i64 d, .slice a len cap] 32)
  have bN := (Blk.new ((w.alloc (.cells #[.int .i64 d, .slice a len cap] 32)).alloc (.cells #[.int .i64 sq] 3)) #[.int .i64 0] 3).alloc (.cells #[.int .i64 d, .slice a len cap] 32)
  have bE := Blk.new (((w.alloc (.cells #[.int .i64 d, .slice a len cap] 32)).alloc (.cells #[.int .i64 sq] 3)).alloc (.cells #[.int .i64 0] 3)) #[.int .i64 d, .slice a len cap] 32
  simp only [World.size_alloc] at bS bN bE
  obtain ⟨W0, hW0⟩ : ∃ W0, (((w.alloc (.cells #[.int .i64 d, .slice a len cap] 32)).alloc (.cells #[.int .i64 sq] 3)).alloc (.cells #[.int .i64 0] 3)).alloc (.cells #[.int .i64 d, .slice a len cap] 32) = W0 := ⟨_, rfl⟩
  have hB0 : Below w.heap.size w W0 := by rw [← hW0]; exact (by repeat' (first | with_reducible exact Below.refl _ _ | with_reducible exact Nat.le_refl _ | with_reducible assumption | with_reducible refine Go.below_growBy' ?_ ?_ _ | with_reducible refine Below.alloc ?_ ?_ _ | with_reducible refine Below.setCell ?_ ?_ _ | with_reducible refine Below.drew ?_ | with_reducible refine Go.le_alloc ?_ | with_reducible refine Go.le_growBy ?_ | with_reducible refine Go.le_setCell ?_ | with_reducible refine Go.le_drew ?_ | omega | (dsimp only; omega)))
  have hsz : W0.heap.size = w.heap.size + 4 := by rw [← hW0]; simp
  rw [hW0] at bS bN bE ⊢
  clear hW0
  refine wpIn_rangeFunc_ownH hro h1 (gf := 26) (lb := #[.pointer (some ⟨w.heap.size + 1 + 1 + 1, 0, none⟩)]) rfl hg1 (enters_of Try.func26 (by kernel_rfl) rfl)
    (ends_stops F (n - 1) hg1 hro (by omega) (w.heap.size + 1 + 1 + 1) w.heap.size d _ evs W0 (by omega) (by omega) (bE.cell 0) (bE.cell 1) (hE.below hB0)) belowK_t (belowK_b (by omega)) (Below.refl _ _) (fun _ => rfl)
    (fun pre W => ((Blk W (w.heap.size + 1 + 1) #[.int .i64 (pre.length : Int)] 3 ∧ Blk W (w.heap.size + 1) #[.int .i64 sq] 3) ∧ Below w.heap.size w W) ∧ AllDone sq pre)
    (fun c pre W => ((Blk W (w.heap.size + 1 + 1) #[.int .i64 ((pre.length : Int) - 1)] 3) ∧ Below w.heap.size w W) ∧ c = .exit 0 ∧ ∃ ini last, pre = ini ++ [last] ∧ AllDone sq ini ∧ sq < last.1.2.2)
    (OwnFrom.and (OwnFrom.and (OwnFrom.and (Own.from (blk_own _ _ _) _) (Own.from (blk_own _ _ _) _)) (ownFrom_below (Nat.le_refl _) (by omega))) (ownFrom_pure _ _))
    (fun c => OwnFrom.and (OwnFrom.and (Own.from (blk_own _ _ _) _) (ownFrom_below (Nat.le_refl _) (by omega))) (ownFrom_pure _ _))
    ⟨⟨⟨bN, bS⟩, hB0⟩, fun x h => by cases h⟩
    (fun x a' W => ∃ Bx, w.heap.size + 1 + 1 < Bx ∧ Blk W Bx #[.int .i64 x.1.2.1, .int .i64 x.1.2.2] 55 ∧ a' = { tmps := #[.agg #[.int .i64 d, .slice a len cap], .int .i64 sq, .pointer (some ⟨w.heap.size, 0, none⟩), .pointer (some ⟨w.heap.size + 1, 0, none⟩), .pointer (some ⟨w.heap.size + 1 + 1, 0, none⟩), undef, .pointer (some ⟨Bx, 0, none⟩), .agg #[.int .i64 d, .slice a len cap], .func (.func 26) #[] #[.pointer (some ⟨w.heap.size + 1 + 1 + 1, 0, none⟩)], .int .i64 x.1.1, .agg #[.int .i64 x.1.2.1, .int .i64 x.1.2.2], undef, undef, undef, undef, undef, undef, undef], defers := [] })
    (fun x a' _ X Y row hs hg hr => by obtain ⟨Bx, h1, h2, h3⟩ := hs; exact ⟨Bx, h1, blk_own Bx 55 (fun (_ : Unit) => #[Value.int .i64 x.1.2.1, Value.int .i64 x.1.2.2]) () X Y row h2 hg (fun r e => (hr r e).2), h3⟩)
    ?assign ?body ?done ?stop
  case assign =>
    rintro l pre x W K ⟨⟨⟨bN1, bS1⟩, hB1⟩, hA⟩ hK
    gi_wp2
    exact hK _ _ ((KeepsOthers.alloc _ _).from _) ((Below.refl _ W).alloc hB1.size _) ⟨⟨⟨bN1.alloc _, bS1.alloc _⟩, hB1.alloc hB1.size _⟩, hA⟩ ⟨W.heap.size, bN1.lt, Blk.new W _ _, rfl⟩
  case body =>
    rintro l pre x a' W hl ⟨r, hr⟩ ⟨⟨⟨bN1, bS1⟩, hB1⟩, hA⟩ ⟨Bx, hBx, bX, rfl⟩ hlt
    have hlt2 : pre.length ≤ 4294967296 := by have := lead_le evs; have := Evs.len hE; omega
    have cN : W.cell? ⟨w.heap.size + 1 + 1, 0, none⟩ = some (.int .i64 (pre.length : Int)) := bN1.cell 0
    have fN := bN1.frozen 0
    have cS : W.cell? ⟨w.heap.size + 1, 0, none⟩ = some (.int .i64 sq) := bS1.cell 0
    have cX0 : W.cell? ⟨Bx, 0, none⟩ = some (.int .i64 x.1.2.1) := bX.cell 0
    have cX1 : W.cell? ⟨Bx, 1, none⟩ = some (.int .i64 x.1.2.2) := bX.cell 1
    by_cases hx : sq < x.1.2.2
    · gi_wp2
      exact ⟨KeepsFrom.refl _ _, ⟨by rw [List.length_append]; simpa using bN1, hB1⟩, rfl, pre, x, rfl, hA, hx⟩
    · gi_wp2
      refine ⟨(KeepsOthers.setCell _ _ _).from _, (Below.refl w.heap.size W).setCell (p := ⟨w.heap.size + 1 + 1, 0, none⟩) (by simp; omega) _, ⟨⟨?_, bS1.other (by omega) _ _⟩, hB1.setCell (p := ⟨w.heap.size + 1 + 1, 0, none⟩) (by simp; omega) _⟩, ?_⟩
      · have := bN1.set 0 (.int .i64 ((pre.length : Int) + 1))
        simpa using this
      · intro y hy
        rcases List.mem_append.1 hy with h | h
        · exact hA y h
        · obtain rfl : y = x := by simpa using h
          omega
  case done =>
    rintro D ys W hD rfl ⟨⟨⟨bN1, bS1⟩, hB1⟩, hA⟩ hK
    have cN : W.cell? ⟨w.heap.size + 1 + 1, 0, none⟩ = some (.int .i64 ((upto (turnS evs) (lead evs)).length : Int)) := bN1.cell 0
    have fN := bN1.frozen 0
    have hfin : Hid (((upto (turnS evs) (lead evs)).length : Int) = doneN sq evs) := by
      rw [upto_length, doneN_of (k := lead evs) (lead_le evs)]
      · exact rfl
      · exact fun j hj => ⟨lead_in evs j hj, by have := hA _ (List.mem_map.2 ⟨j, List.mem_range.2 hj, rfl⟩); rw [turnS_val hj] at this; exact this⟩
      · exact fun h hh => lead_out evs h hh.1
    rw [hfin.out] at bN1 cN
    clear hfin
    gi_wp2
    exact done_end rfl hK bN1 hB1 (by omega)
  case stop =>
    rintro D c pre W hD ⟨k, hk, rfl⟩ ⟨⟨bN1, hB1⟩, rfl, ini, last, e1, hA, hlast⟩ hK
    obtain ⟨k', rfl⟩ : ∃ k', k = k' + 1 := by
      cases k with
      | zero => simp [upto] at e1
      | succ k' => exact ⟨k', rfl⟩
    rw [upto_succ] at e1
    obtain ⟨rfl, e5⟩ := List.append_inj' e1 rfl
    obtain rfl : turnS evs k' = last := by simpa using e5
    have hfin : ((upto (turnS evs) (k' + 1)).length : Int) - 1 = (doneN sq evs : Int) := by
      rw [upto_length, doneN_of (k := k') (by have := lead_le evs; omega)]
      · omega
      · exact fun j hj => ⟨lead_in evs j (by omega), by have := hA _ (List.mem_map.2 ⟨j, List.mem_range.2 hj, rfl⟩); rw [turnS_val (by omega)] at this; exact this⟩
      · intro _ hh
        have : sq < atE evs k' * atE evs k' := by rw [turnS_val (by omega)] at hlast; exact hlast
        omega
    rw [hfin] at bN1
    clear hfin hlast e1 e5 hA
    have cN : W.cell? ⟨w.heap.size + 1 + 1, 0, none⟩ = some (.int .i64 (doneN sq evs : Int)) := bN1.cell 0
    have fN := bN1.frozen 0
    gi_wp2
    exact done_end rfl hK bN1 hB1 (by omega)

theorem done_any (d sq : Int) (a : Option Addr) (len cap : Nat) (evs : List Ev) (w : World) (hE : Evs w.heap.size w (.slice a len cap) evs) :
    Calls Try.prog 13 #[.agg #[.int .i64 d, .slice a len cap], .int .i64 sq] w fun e W' => e = .returned (.int .i64 (doneN sq evs)) ∧ Below w.heap.size w W' :=
  (callsIn_wide (n := 3)).1 (done_in _ 3 trivial trivial trivial rfl (Nat.le_refl _) d sq a len cap evs w hE)
end Go.Proofs.Ytfcmmclialeepaa
