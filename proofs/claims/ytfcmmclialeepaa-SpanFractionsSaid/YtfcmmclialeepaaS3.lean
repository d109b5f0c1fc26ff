/-
  span.Doing: the event in progress, and how far it is: the range over the iterator, left by a label.
-/
import Derived.Test.YtfcmmclialeepaaS2
import Derived.Test.YtfcmmclialeepaaE2
import Derived.Scope
import Derived.WalkMore
namespace Go.Proofs.Ytfcmmclialeepaa
open Go.RowKit Go.Shelf
attribute [local go_sem] Oper.semAt_some

/-- what Doing returns -/
structure Doing where
  n : Int
  up : Int
  down : Int
  ok : Bool
def doingF (sq : Int) (l : List Ev) : Doing :=
  if doingAt sq l then { n := doneN sq l, up := lowN (sq - begE l (doneN sq l)) (atE l (doneN sq l) * atE l (doneN sq l) - begE l (doneN sq l)), down := lowD (sq - begE l (doneN sq l)) (atE l (doneN sq l) * atE l (doneN sq l) - begE l (doneN sq l)), ok := true }
  else { n := 0, up := 0, down := 0, ok := false }
/-- the same of one turn -/
def doingT (sq : Int) (x : Turn) : Doing :=
  if x.1.2.1 < sq then { n := x.1.1, up := lowN (sq - x.1.2.1) (x.1.2.2 - x.1.2.1), down := lowD (sq - x.1.2.1) (x.1.2.2 - x.1.2.1), ok := true }
  else { n := 0, up := 0, down := 0, ok := false }

/-- the three results' boxes -/
def Res3 (W : World) (B : Nat) (r : Doing) : Prop := Blk W B #[.int .i64 r.n] 3 ∧ Blk W (B + 1) #[.int .i64 r.up, .int .i64 r.down] 37 ∧ Blk W (B + 1 + 1) #[.bool r.ok] 4
theorem res3_own {β : Type} (B : Nat) (f : β → Doing) : Own (fun s W => Res3 W B (f s)) := fun s X Y row hs hg hr =>
  ⟨blk_own B 3 (fun s => #[Value.int .i64 (f s).n]) s X Y row hs.1 hg hr, blk_own (B + 1) 37 (fun s => #[Value.int .i64 (f s).up, Value.int .i64 (f s).down]) s X Y row hs.2.1 hg hr, blk_own (B + 1 + 1) 4 (fun s => #[Value.bool (f s).ok]) s X Y row hs.2.2 hg hr⟩

/-- Doing's last steps, behind the loop -/
theorem doing_end {F : Fence} {n D : Nat} {W w : World} {n' up' down' : Int} {ok' : Bool} {t : Array Value} (h4 : t[4]? = some (.pointer (some ⟨w.heap.size + 1 + 1, 0, none⟩))) (h5 : t[5]? = some (.pointer (some ⟨w.heap.size + 1 + 1 + 1, 0, none⟩))) (h6 : t[6]? = some (.pointer (some ⟨w.heap.size + 1 + 1 + 1 + 1, 0, none⟩)))
    (hR : Res3 W (w.heap.size + 1 + 1) { n := n', up := up', down := down', ok := ok' }) (hB1 : Below w.heap.size w W) (hD : w.heap.size ≤ D) (hK : W.heap[D]? = some (.deferred (some []))) :
    bodyPostM F n Try.prog Try.f11 (fun e W' => e = .returned (.tuple #[.int .i64 n', .agg #[.int .i64 up', .int .i64 down'], .bool ok']) ∧ Below w.heap.size w W') Exit.ret { tmps := t, defers := [{ target := Target.collected D, args := #[] }] } ((((W.setCell ⟨w.heap.size + 1 + 1, 0, none⟩ (.int .i64 n')).setCell ⟨w.heap.size + 1 + 1 + 1, 0, none⟩ (.int .i64 up')).setCell ⟨w.heap.size + 1 + 1 + 1, 1, none⟩ (.int .i64 down')).setCell ⟨w.heap.size + 1 + 1 + 1 + 1, 0, none⟩ (.bool ok')).drew := by
  obtain ⟨bN1, bF1, bO1⟩ := hR
  have k0 := (KeepsOthers.setCell W ⟨w.heap.size + 1 + 1, 0, none⟩ (.int .i64 n')).trans ((KeepsOthers.setCell _ ⟨w.heap.size + 1 + 1 + 1, 0, none⟩ (.int .i64 up')).trans ((KeepsOthers.setCell _ ⟨w.heap.size + 1 + 1 + 1, 1, none⟩ (.int .i64 down')).trans ((KeepsOthers.setCell _ ⟨w.heap.size + 1 + 1 + 1 + 1, 0, none⟩ (.bool ok')).trans (KeepsOthers.drew _))))
  have hK' := k0.same D _ hK rfl
  have b0 := ((((bN1.set 0 (.int .i64 n')).other (B' := w.heap.size + 1 + 1 + 1) (by omega) 0 (.int .i64 up')).other (B' := w.heap.size + 1 + 1 + 1) (by omega) 1 (.int .i64 down')).other (B' := w.heap.size + 1 + 1 + 1 + 1) (by omega) 0 (.bool ok')).drew
  have b1 := ((((bF1.other (B' := w.heap.size + 1 + 1) (by omega) 0 (.int .i64 n')).set 0 (.int .i64 up')).set 1 (.int .i64 down')).other (B' := w.heap.size + 1 + 1 + 1 + 1) (by omega) 0 (.bool ok')).drew
  have b2 := ((((bO1.other (B' := w.heap.size + 1 + 1) (by omega) 0 (.int .i64 n')).other (B' := w.heap.size + 1 + 1 + 1) (by omega) 0 (.int .i64 up')).other (B' := w.heap.size + 1 + 1 + 1) (by omega) 1 (.int .i64 down')).set 0 (.bool ok')).drew
  have hsW := hB1.size
  have hBW : Below w.heap.size w ((((W.setCell ⟨w.heap.size + 1 + 1, 0, none⟩ (.int .i64 n')).setCell ⟨w.heap.size + 1 + 1 + 1, 0, none⟩ (.int .i64 up')).setCell ⟨w.heap.size + 1 + 1 + 1, 1, none⟩ (.int .i64 down')).setCell ⟨w.heap.size + 1 + 1 + 1 + 1, 0, none⟩ (.bool ok')).drew := (by repeat' (first | with_reducible exact Below.refl _ _ | with_reducible exact Nat.le_refl _ | with_reducible assumption | with_reducible refine Go.below_growBy' ?_ ?_ _ | with_reducible refine Below.alloc ?_ ?_ _ | with_reducible refine Below.setCell ?_ ?_ _ | with_reducible refine Below.drew ?_ | with_reducible refine Go.le_alloc ?_ | with_reducible refine Go.le_growBy ?_ | with_reducible refine Go.le_setCell ?_ | with_reducible refine Go.le_drew ?_ | omega | (dsimp only; omega)))
  generalize ((((W.setCell ⟨w.heap.size + 1 + 1, 0, none⟩ (.int .i64 n')).setCell ⟨w.heap.size + 1 + 1 + 1, 0, none⟩ (.int .i64 up')).setCell ⟨w.heap.size + 1 + 1 + 1, 1, none⟩ (.int .i64 down')).setCell ⟨w.heap.size + 1 + 1 + 1 + 1, 0, none⟩ (.bool ok')).drew = X at *
  have hne : ∀ {b : Nat} {c : Array Value} {ty : TypeId}, Blk X b c ty → some D ≠ some b := fun hb e => by cases e; rw [show X.heap[D]? = _ from hb] at hK'; cases hK'
  refine ⟨by simp, .inl ⟨_, _, rfl, run_takeDeferred hK', .tuple #[.int .i64 n', .agg #[.int .i64 up', .int .i64 down'], .bool ok'], ?_, rfl, hBW.trans (belowK_b (w := w) (Nat.le_refl _) _ D _ _ hD hK' rfl rfl)⟩⟩
  have c0 := (b0.kept (grownBy_putObj' _ D (.deferred none)) (hne b0)).cell 0
  have c1 := (b1.kept (grownBy_putObj' _ D (.deferred none)) (hne b1)).cell 0
  have c2 := (b1.kept (grownBy_putObj' _ D (.deferred none)) (hne b1)).cell 1
  have c3 := (b2.kept (grownBy_putObj' _ D (.deferred none)) (hne b2)).cell 0
  simp at c0 c1 c2 c3
  simp [results, Try.f11, go_sem, c0, c1, c2, c3, h4, h5, h6]

/-- how the loop was left: at a turn that is not done -/
def StopD (w : World) (sq : Int) (c : Code) (pre : List Turn) (W : World) : Prop :=
  ∃ ini last, (Res3 W (w.heap.size + 1 + 1) (doingT sq last) ∧ Below w.heap.size w W) ∧ c = .exit 0 ∧ pre = ini ++ [last] ∧ AllDone sq ini ∧ sq < last.1.2.2

set_option maxRecDepth 100000 in
set_option maxHeartbeats 4000000 in
theorem doing_in (n : Nat) (hn : 3 ≤ n) (d sq : Int) (fsq : fits sq) (a : Option Addr) (len cap : Nat) (evs : List Ev) (w : World)
    (hE : Evs w.heap.size w (.slice a len cap) evs) (n' up' down' : Int) (ok' : Bool) (hres : Hid (doingF sq evs = { n := n', up := up', down := down', ok := ok' })) :
    CallsIn Fence.wide n Try.prog 11 #[.agg #[.int .i64 d, .slice a len cap], .int .i64 sq] w fun e W' =>
      e = .returned (.tuple #[.int .i64 n', .agg #[.int .i64 up', .int .i64 down'], .bool ok']) ∧ Below w.heap.size w W' := by
  have h1 : 1 ≤ n := by omega
  refine callsIn_of_wp_marks Try.func11 rfl trivial ?_ rfl
  simp only [Try.ntmps11, List.size_toArray, List.length_cons, List.length_nil, Nat.reduceAdd, Nat.reduceSub, Array.replicate_succ, Array.replicate_zero, List.push_toArray, List.append_toArray, List.nil_append, List.cons_append]
  gi_wp2
  refine wpIn_wide.2 (wp_scope_straight ((wpIn_wide (n := n)).1 (wpIn_seq (wpIn_label ?_))))
  gi_wp2_with (refine ⟨trivial, ?_⟩; gi_at_call 19; refine (ends_in _ (n - 1) trivial rfl _ _ _ _ _).mono ?_; rintro e w' ⟨rfl, rfl⟩)
  have bS := ((((Blk.new (w.alloc (.cells #[.int .i64 d, .slice a len cap] 32)) #[.int .i64 sq] 3).alloc (.cells #[.int .i64 0] 3)).alloc (.cells #[.int .i64 0, .int .i64 0] 37)).alloc (.cells #[.bool false] 4)).alloc (.cells #[.int .i64 d, .slice a len cap] 32)
  have bN := (((Blk.new ((w.alloc (.cells #[.int .i64 d, .slice a len cap] 32)).alloc (.cells #[.int .i64 sq] 3)) #[.int .i64 0] 3).alloc (.cells #[.int .i64 0, .int .i64 0] 37)).alloc (.cells #[.bool false] 4)).alloc (.cells #[.int .i64 d, .slice a len cap] 32)
  have bF := ((Blk.new (((w.alloc (.cells #[.int .i64 d, .slice a len cap] 32)).alloc (.cells #[.int .i64 sq] 3)).alloc (.cells #[.int .i64 0] 3)) #[.int .i64 0, .int .i64 0] 37).alloc (.cells #[.bool false] 4)).alloc (.cells #[.int .i64 d, .slice a len cap] 32)
  have bO := (Blk.new ((((w.alloc (.cells #[.int .i64 d, .slice a len cap] 32)).alloc (.cells #[.int .i64 sq] 3)).alloc (.cells #[.int .i64 0] 3)).alloc (.cells #[.int .i64 0, .int .i64 0] 37)) #[.bool false] 4).alloc (.cells #[.int .i64 d, .slice a len cap] 32)
  have bE := Blk.new (((((w.alloc (.cells #[.int .i64 d, .slice a len cap] 32)).alloc (.cells #[.int .i64 sq] 3)).alloc (.cells #[.int .i64 0] 3)).alloc (.cells #[.int .i64 0, .int .i64 0] 37)).alloc (.cells #[.bool false] 4)) #[.int .i64 d, .slice a len cap] 32
  simp only [World.size_alloc] at bS bN bF bO bE
  obtain ⟨W0, hW0⟩ : ∃ W0, ((((((w.alloc (.cells #[.int .i64 d, .slice a len cap] 32)).alloc (.cells #[.int .i64 sq] 3)).alloc (.cells #[.int .i64 0] 3)).alloc (.cells #[.int .i64 0, .int .i64 0] 37)).alloc (.cells #[.bool false] 4)).alloc (.cells #[.int .i64 d, .slice a len cap] 32)) = W0 := ⟨_, rfl⟩
  have hB0 : Below w.heap.size w W0 := by rw [← hW0]; exact (by repeat' (first | with_reducible exact Below.refl _ _ | with_reducible exact Nat.le_refl _ | with_reducible assumption | with_reducible refine Go.below_growBy' ?_ ?_ _ | with_reducible refine Below.alloc ?_ ?_ _ | with_reducible refine Below.setCell ?_ ?_ _ | with_reducible refine Below.drew ?_ | with_reducible refine Go.le_alloc ?_ | with_reducible refine Go.le_growBy ?_ | with_reducible refine Go.le_setCell ?_ | with_reducible refine Go.le_drew ?_ | omega | (dsimp only; omega)))
  have hsz : W0.heap.size = w.heap.size + 6 := by rw [← hW0]; simp
  rw [hW0] at bS bN bF bO bE ⊢
  clear hW0
  refine wpIn_rangeFunc_ownH rfl h1 (gf := 26) (lb := #[.pointer (some ⟨w.heap.size + 1 + 1 + 1 + 1 + 1, 0, none⟩)]) rfl trivial (enters_of Try.func26 (by kernel_rfl) rfl)
    (ends_stops _ (n - 1) trivial rfl (by omega) (w.heap.size + 1 + 1 + 1 + 1 + 1) w.heap.size d _ evs W0 (by omega) (by omega) (bE.cell 0) (bE.cell 1) (hE.below hB0)) belowK_t (belowK_b (by omega)) (Below.refl _ _) (fun _ => rfl)
    (fun pre W => ((Res3 W (w.heap.size + 1 + 1) { n := 0, up := 0, down := 0, ok := false } ∧ Blk W (w.heap.size + 1) #[.int .i64 sq] 3) ∧ Below w.heap.size w W) ∧ AllDone sq pre)
    (fun c pre W => StopD w sq c pre W)
    (OwnFrom.and (OwnFrom.and (OwnFrom.and (Own.from (res3_own _ _) _) (Own.from (blk_own _ _ _) _)) (ownFrom_below (Nat.le_refl _) (by omega))) (ownFrom_pure _ _))
    (fun c pre X Y row hs hg hr => by
      obtain ⟨ini, last, ⟨h1, h2⟩, h3⟩ := hs
      exact ⟨ini, last, ⟨(OwnFrom.and (Own.from (res3_own (w.heap.size + 1 + 1) (fun (_ : Unit) => doingT sq last)) _) (ownFrom_below (Nat.le_refl _) (by omega))) () X Y row ⟨h1, h2⟩ hg hr, h3⟩⟩)
    ⟨⟨⟨⟨bN, bF, bO⟩, bS⟩, hB0⟩, fun x h => by cases h⟩
    (fun x a' W => ∃ Bx, w.heap.size + 1 + 1 + 1 + 1 < Bx ∧ Blk W Bx #[.int .i64 x.1.2.1, .int .i64 x.1.2.2] 55 ∧ a' = { tmps := #[.agg #[.int .i64 d, .slice a len cap], .int .i64 sq, .pointer (some ⟨w.heap.size, 0, none⟩), .pointer (some ⟨w.heap.size + 1, 0, none⟩), .pointer (some ⟨w.heap.size + 1 + 1, 0, none⟩), .pointer (some ⟨w.heap.size + 1 + 1 + 1, 0, none⟩), .pointer (some ⟨w.heap.size + 1 + 1 + 1 + 1, 0, none⟩), .int .i64 x.1.1, .pointer (some ⟨Bx, 0, none⟩), .agg #[.int .i64 d, .slice a len cap], .func (.func 26) #[] #[.pointer (some ⟨w.heap.size + 1 + 1 + 1 + 1 + 1, 0, none⟩)], .int .i64 x.1.1, .agg #[.int .i64 x.1.2.1, .int .i64 x.1.2.2], undef, undef, undef, undef, undef, undef, undef, undef, undef, undef, undef, undef, undef, undef, undef, undef, undef, undef, undef, undef, undef, undef, undef, undef, undef, undef, undef, undef], defers := [] })
    (fun x a' _ X Y row hs hg hr => by obtain ⟨Bx, h1, h2, h3⟩ := hs; exact ⟨Bx, h1, blk_own Bx 55 (fun (_ : Unit) => #[Value.int .i64 x.1.2.1, Value.int .i64 x.1.2.2]) () X Y row h2 hg (fun r e => (hr r e).2), h3⟩)
    ?assign ?body ?done ?stop
  case assign =>
    rintro l pre x W K ⟨⟨⟨⟨bN1, bF1, bO1⟩, bS1⟩, hB1⟩, hA⟩ hK
    gi_wp2
    exact hK _ _ ((KeepsOthers.alloc _ _).from _) ((Below.refl _ W).alloc hB1.size _) ⟨⟨⟨⟨bN1.alloc _, bF1.alloc _, bO1.alloc _⟩, bS1.alloc _⟩, hB1.alloc hB1.size _⟩, hA⟩ ⟨W.heap.size, bO1.lt, Blk.new W _ _, rfl⟩
  case body =>
    rintro l pre x a' W hl ⟨r, hr⟩ ⟨⟨⟨⟨bN1, bF1, bO1⟩, bS1⟩, hB1⟩, hA⟩ ⟨Bx, hBx, bX, rfl⟩ hlt
    obtain ⟨x, x0, x1, x2, x3⟩ := x
    dsimp only at *
    have cS : W.cell? ⟨w.heap.size + 1, 0, none⟩ = some (.int .i64 sq) := bS1.cell 0
    have cX0 : W.cell? ⟨Bx, 0, none⟩ = some (.int .i64 x.2.1) := bX.cell 0
    have cX1 : W.cell? ⟨Bx, 1, none⟩ = some (.int .i64 x.2.2) := bX.cell 1
    by_cases hx : x.2.2 ≤ sq
    · gi_wp2
      refine ⟨KeepsFrom.refl _ _, Below.refl _ _, ⟨⟨⟨bN1, bF1, bO1⟩, bS1⟩, hB1⟩, ?_⟩
      intro y hy
      rcases List.mem_append.1 hy with h | h
      · exact hA y h
      · obtain rfl := List.mem_singleton.1 h
        exact hx
    · by_cases hb : sq ≤ x.2.1
      · gi_wp2
        refine ⟨KeepsFrom.refl _ _, pre, ⟨x, x0, x1, x2, x3⟩, ⟨?_, hB1⟩, rfl, rfl, hA, by show sq < x.2.2; omega⟩
        unfold doingT
        rw [if_neg (by show ¬ x.2.1 < sq; omega)]
        exact ⟨bN1, bF1, bO1⟩
      · have hsl : 1 ≤ n - 1 - 1 := by omega
        obtain ⟨sq0, sq1⟩ := fsq
        have cN : W.cell? ⟨w.heap.size + 1 + 1, 0, none⟩ = some (.int .i64 0) := bN1.cell 0
        have fN := bN1.frozen 0
        have cF0 : W.cell? ⟨w.heap.size + 1 + 1 + 1, 0, none⟩ = some (.int .i64 0) := bF1.cell 0
        have cF1 : W.cell? ⟨w.heap.size + 1 + 1 + 1, 1, none⟩ = some (.int .i64 0) := bF1.cell 1
        have fF0 := bF1.frozen 0
        have fF1 := bF1.frozen 1
        have cO : W.cell? ⟨w.heap.size + 1 + 1 + 1 + 1, 0, none⟩ = some (.bool false) := bO1.cell 0
        have fO := bO1.frozen 0
        gi_wp2_with (refine ⟨trivial, ?_⟩; gi_at_call 20; refine (CallsIn.inRound l (callsIn_wide.2 (lowest_yes (sq - x.2.1) (x.2.2 - x.2.1) _ ⟨by omega, by omega⟩ ⟨by omega, by omega⟩ (by omega)))).mono ?_; rintro e w' ⟨rfl, hb_⟩; obtain ⟨p, rfl⟩ := grow_of_below hb_; clear hb_)
        refine ⟨?_, pre, ⟨x, x0, x1, x2, x3⟩, ⟨?_, ?_⟩, rfl, rfl, hA, by show sq < x.2.2; omega⟩
        · repeat' first | exact KeepsFrom.refl _ _ | refine KeepsFrom.trans ?_ ((KeepsOthers.setCell _ _ _).from _) | refine KeepsFrom.trans ?_ (KeepsFrom.of_grownBy (grownBy_growBy _ _) (by simp))
        · unfold doingT
          rw [if_pos (by show x.2.1 < sq; omega)]
          have b0 := ((((bN1.other (B' := w.heap.size + 1 + 1 + 1) (by omega) 0 (.int .i64 (lowN (sq - x.2.1) (x.2.2 - x.2.1)))).other (B' := w.heap.size + 1 + 1 + 1) (by omega) 1 (.int .i64 (lowD (sq - x.2.1) (x.2.2 - x.2.1)))).set 0 (.int .i64 (x.1 : Int))).other (B' := w.heap.size + 1 + 1 + 1 + 1) (by omega) 0 (.bool true)).grow p
          have b1 := ((((bF1.set 0 (.int .i64 (lowN (sq - x.2.1) (x.2.2 - x.2.1)))).set 1 (.int .i64 (lowD (sq - x.2.1) (x.2.2 - x.2.1)))).other (B' := w.heap.size + 1 + 1) (by omega) 0 (.int .i64 (x.1 : Int))).other (B' := w.heap.size + 1 + 1 + 1 + 1) (by omega) 0 (.bool true)).grow p
          have b2 := ((((bO1.other (B' := w.heap.size + 1 + 1 + 1) (by omega) 0 (.int .i64 (lowN (sq - x.2.1) (x.2.2 - x.2.1)))).other (B' := w.heap.size + 1 + 1 + 1) (by omega) 1 (.int .i64 (lowD (sq - x.2.1) (x.2.2 - x.2.1)))).other (B' := w.heap.size + 1 + 1) (by omega) 0 (.int .i64 (x.1 : Int))).set 0 (.bool true)).grow p
          exact ⟨by simpa using b0, by simpa using b1, by simpa using b2⟩
        · have hsW := hB1.size
          exact (by repeat' (first | with_reducible exact Below.refl _ _ | with_reducible exact Nat.le_refl _ | with_reducible assumption | with_reducible refine Go.below_growBy' ?_ ?_ _ | with_reducible refine Below.alloc ?_ ?_ _ | with_reducible refine Below.setCell ?_ ?_ _ | with_reducible refine Below.drew ?_ | with_reducible refine Go.le_alloc ?_ | with_reducible refine Go.le_growBy ?_ | with_reducible refine Go.le_setCell ?_ | with_reducible refine Go.le_drew ?_ | omega | (dsimp only; omega)))
  case done =>
    rintro D ys W hD rfl ⟨⟨⟨hR, bS1⟩, hB1⟩, hA⟩ hK
    have hfin : doingF sq evs = { n := 0, up := 0, down := 0, ok := false } := by
      have hd : doneN sq evs = lead evs := by
        rw [doneN_of (k := lead evs) (lead_le evs)]
        · exact fun j hj => ⟨lead_in evs j hj, by have := hA _ (List.mem_map.2 ⟨j, List.mem_range.2 hj, rfl⟩); rw [turnS_val hj] at this; exact this⟩
        · exact fun h hh => lead_out evs h hh.1
      unfold doingF
      rw [if_neg]
      unfold doingAt
      rw [hd]
      by_cases h : lead evs < evs.length
      · have := lead_out evs h
        simp [this]
      · simp [h]
    rw [← hfin, hres.out] at hR
    clear hfin hA bS1
    obtain ⟨bN1, bF1, bO1⟩ := hR
    have cN : W.cell? ⟨w.heap.size + 1 + 1, 0, none⟩ = some (.int .i64 n') := bN1.cell 0
    have fN := bN1.frozen 0
    have cF0 : W.cell? ⟨w.heap.size + 1 + 1 + 1, 0, none⟩ = some (.int .i64 up') := bF1.cell 0
    have cF1 : W.cell? ⟨w.heap.size + 1 + 1 + 1, 1, none⟩ = some (.int .i64 down') := bF1.cell 1
    have fF0 := bF1.frozen 0
    have fF1 := bF1.frozen 1
    have cO : W.cell? ⟨w.heap.size + 1 + 1 + 1 + 1, 0, none⟩ = some (.bool ok') := bO1.cell 0
    have fO := bO1.frozen 0
    gi_wp2
    refine wpIn_wide.2 ?_
    go_region
    all_goals
      gi_wp2
      try rw [Exit.noGoto_ret]
      exact doing_end rfl rfl rfl ⟨bN1, bF1, bO1⟩ hB1 (by omega) hK
  case stop =>
    rintro D c pre W hD ⟨k, hk, rfl⟩ ⟨ini, last, ⟨hR, hB1⟩, rfl, e1, hA, hlast⟩ hK
    obtain ⟨k', rfl⟩ : ∃ k', k = k' + 1 := by
      cases k with
      | zero => simp [upto] at e1
      | succ k' => exact ⟨k', rfl⟩
    rw [upto_succ] at e1
    obtain ⟨rfl, e5⟩ := List.append_inj' e1 rfl
    obtain rfl : turnS evs k' = last := by simpa using e5
    have hv := turnS_val (l := evs) (k := k') (by omega)
    rw [hv] at hlast
    have hd : doneN sq evs = k' := by
      refine doneN_of (by have := lead_le evs; omega) ?_ ?_
      · exact fun j hj => ⟨lead_in evs j (by omega), by have := hA _ (List.mem_map.2 ⟨j, List.mem_range.2 hj, rfl⟩); rw [turnS_val (by omega)] at this; exact this⟩
      · intro _ hh
        have : sq < atE evs k' * atE evs k' := hlast
        omega
    have hfin : doingF sq evs = doingT sq (turnS evs k') := by
      unfold doingF doingAt doingT
      rw [hd, hv]
      have h1 : k' < evs.length := by have := lead_le evs; omega
      have h2 := lead_in evs k' (by omega)
      by_cases h3 : begE evs k' < sq
      · rw [if_pos (by simp [h1, h2, h3])]; exact (if_pos h3).symm
      · rw [if_neg (by simp [h3])]; exact (if_neg h3).symm
    rw [← hfin, hres.out] at hR
    clear hfin hA
    obtain ⟨bN1, bF1, bO1⟩ := hR
    have cN : W.cell? ⟨w.heap.size + 1 + 1, 0, none⟩ = some (.int .i64 n') := bN1.cell 0
    have fN := bN1.frozen 0
    have cF0 : W.cell? ⟨w.heap.size + 1 + 1 + 1, 0, none⟩ = some (.int .i64 up') := bF1.cell 0
    have cF1 : W.cell? ⟨w.heap.size + 1 + 1 + 1, 1, none⟩ = some (.int .i64 down') := bF1.cell 1
    have fF0 := bF1.frozen 0
    have fF1 := bF1.frozen 1
    have cO : W.cell? ⟨w.heap.size + 1 + 1 + 1 + 1, 0, none⟩ = some (.bool ok') := bO1.cell 0
    have fO := bO1.frozen 0
    gi_wp2
    refine wpIn_wide.2 ?_
    go_region
    all_goals
      gi_wp2
      try rw [Exit.noGoto_ret]
      exact doing_end rfl rfl rfl ⟨bN1, bF1, bO1⟩ hB1 (by omega) hK

theorem doing_any (d sq : Int) (fsq : fits sq) (a : Option Addr) (len cap : Nat) (evs : List Ev) (w : World) (hE : Evs w.heap.size w (.slice a len cap) evs) :
    Calls Try.prog 11 #[.agg #[.int .i64 d, .slice a len cap], .int .i64 sq] w fun e W' =>
      e = .returned (.tuple #[.int .i64 (doingF sq evs).n, .agg #[.int .i64 (doingF sq evs).up, .int .i64 (doingF sq evs).down], .bool (doingF sq evs).ok]) ∧ Below w.heap.size w W' :=
  (callsIn_wide (n := 3)).1 (doing_in 3 (Nat.le_refl _) d sq fsq a len cap evs w hE _ _ _ _ rfl)
end Go.Proofs.Ytfcmmclialeepaa
