/-
  Chapter 29: Ways of one way with two right points.
-/
import Derived.Test.YtjfdbigkbgolmaaGreatDoorZh
import Derived.Test.YtjfdbigkbgolmaaGreatDoorZw
import Derived.Maps.OwnIn
namespace Go.Proofs.YtjfdbigkbgolmaaGreatDoor
set_option linter.unusedVariables false
set_option linter.unusedSimpArgs false
open Go.RowKit Go.Shelf Go.Maps
attribute [local go_sem] Oper.semAt_some

/-- the entries behind a dot of a way -/
def wput (s : Sh) (id : Int) (en : List (Spot × Int)) (d : Spot) : List (Spot × Int) :=
  if onS s d.1 d.2 && (!hasK en d || decide (id < (idOf en d).getD 0)) then putE en d id else en
def dotOf (s : Sh) (p : Spot) : Spot := (dotX s p.1, dotY s p.2)
def lineL (s : Sh) (p q : Spot) : List NSpot := upto (lineS (dotOf s p) (dotOf s q)) (lineN (dotOf s p) (dotOf s q) + 1).toNat
def linePut (s : Sh) (id : Int) (en : List (Spot × Int)) (l : List NSpot) : List (Spot × Int) := l.foldl (fun en d => wput s id en d.1) en

/-- what the inner loop carries -/
structure WI (s : Sh) (id : Int) (w : World) (Bs mb Bm Bw n0 : Nat) (way : Array Value) (en0 : List (Spot × Int)) (pre : List NSpot) (W : World) : Prop where
  map : ∃ n, n ≤ n0 + pre.length ∧ MapIs W mb n (linePut s id en0 pre)
  sheet : Blk W Bs #[.int .i64 s.ax, .int .i64 s.ay, .int .i64 s.st, .int .i64 s.w, .int .i64 s.h, .int .i64 s.g] 29
  box : Blk W Bm #[.map (some mb)] 80
  way : Blk W Bw way 62
  below : Below w.heap.size w W

theorem WI.own {s : Sh} {id : Int} {w : World} {Bs mb Bm Bw n0 B : Nat} {way : Array Value} {en0 : List (Spot × Int)} (hs : Bs < B) (hm : mb < B) (hb : Bm < B) (hw : Bw < B) (hB : w.heap.size ≤ B) : OwnFrom B (WI s id w Bs mb Bm Bw n0 way en0) := fun pre X Y row h hg hr => by
  have hne : ∀ b, b < B → row ≠ some b := fun b hb e => by have := (hr b e).1; omega
  obtain ⟨⟨n, hn, hM⟩, h1, h2, h3, h4⟩ := h
  exact ⟨⟨n, hn, hM.kept hg (hne _ hm)⟩, h1.kept hg (hne _ hs), h2.kept hg (hne _ hb), h3.kept hg (hne _ hw), h4.grown hg h4.size (fun k e => Nat.le_trans hB (hr k e).1)⟩
theorem WI.grown {s : Sh} {id : Int} {w W W' : World} {Bs mb Bm Bw n0 : Nat} {way : Array Value} {en0 : List (Spot × Int)} {pre : List NSpot} (h : WI s id w Bs mb Bm Bw n0 way en0 pre W) (hg : W.grownBy W' none) : WI s id w Bs mb Bm Bw n0 way en0 pre W' := by
  obtain ⟨⟨n, hn, hM⟩, h1, h2, h3, h4⟩ := h
  exact ⟨⟨n, hn, hM.kept hg (by simp)⟩, h1.kept hg (by simp), h2.kept hg (by simp), h3.kept hg (by simp), h4.grown hg h4.size (fun k e => by cases e)⟩

theorem near_dot {s : Sh} {x y i j : Int} (hs : OkS s) (x0 : -16384 ≤ x) (x1 : x ≤ 16384) (y0 : -16384 ≤ y) (y1 : y ≤ 16384) (hi : dotX s x = i) (hj : dotY s y = j) : Near (i, j) := by
  have h1 := tdiv_ge (a := x - s.ax) (b := s.st) (m := 32768) (by have := hs.st0; omega) (by have := hs.x1; omega) (by have := hs.x0; omega)
  have h2 := tdiv_ge (a := y - s.ay) (b := s.st) (m := 32768) (by have := hs.st0; omega) (by have := hs.y1; omega) (by have := hs.y0; omega)
  unfold dotX at hi
  unfold dotY at hj
  exact ⟨by show _ ≤ i; omega, by show i ≤ _; omega, by show _ ≤ j; omega, by show j ≤ _; omega⟩
/-- the law of a range over a function whose loop variable is boxed: what the assign code leaves is said of the activation at the loop -/
theorem wpIn_rangeFunc_box {F : Fence} {n : Nat} {P : Program} {α : Type} {g : Operand} {ps : Array Tmp} {assign body : Code} {Q : Exit → Act → World → Prop} {a : Act} {w : World} (slot sbox : Nat) (encV : α → Value) (encC : α → Array Value) (ty : TypeId)
    (hro : F.round = none) (h1 : 1 ≤ n) {gf : Nat} {lb : Array Value} (hg : a.eval g = .func (.func gf) #[] lb) (hFg : F.fn gf) (eg : ∀ args w, (callFunc gf args).run P w = .ok (.enter gf args) w)
    {encs : α → Array Value} {Kp : World → World → Prop} {S Sp : List α → Prop} {N : Nat} {w0 : World} (hseq : SeqStopsK F (n - 1) P gf lb encs Kp S Sp N w0)
    (hKt : ∀ {A B C : World}, Kp A B → Kp B C → Kp A C) (hKb : ∀ (W : World) (l : Nat) (o o' : Obj), w.heap.size ≤ l → W.heap[l]? = some o → o.isCells = false → o.isWalk = false → Kp W (W.putObj l o')) (hb0 : Below w0.heap.size w0 w) (hps : ∀ x, (encs x).size = ps.size)
    (I : List α → World → Prop) (hI : OwnFrom w.heap.size I) (h0 : I [] w)
    (hassign : ∀ (l : Nat) (pre : List α) (x : α) (W : World) (K : Act → World → Prop), I pre W → (∀ a' W', KeepsFrom w.heap.size W W' → Kp W W' → I pre W' → (∃ Bx, w.heap.size ≤ Bx ∧ Blk W' Bx (encC x) ty ∧ a' = { tmps := (a.tmps.setIfInBounds slot (encV x)).setIfInBounds sbox (.pointer (some ⟨Bx, 0, none⟩)), defers := [] }) → K a' W') →
      assign.wpIn (F.inRound l) (n - 1 - 1) P (Exit.then K (fun _ _ _ => False)) { tmps := (ps.zip (encs x)).foldl (fun t (p, v) => t.setIfInBounds p v) a.tmps, defers := [] } W)
    (hbody : ∀ (l : Nat) (pre : List α) (x : α) (Bx : Nat) (W : World), I pre W → w.heap.size ≤ Bx → Blk W Bx (encC x) ty → pre.length < N → body.wpIn (F.inRound l) (n - 1 - 1) P (ownPostG w.heap.size Kp I (fun _ _ _ => False) (pre ++ [x]) W) { tmps := (a.tmps.setIfInBounds slot (encV x)).setIfInBounds sbox (.pointer (some ⟨Bx, 0, none⟩)), defers := [] } W)
    (hdone : ∀ (D : Nat) (xs : List α) (W : World), w.heap.size ≤ D → S xs → I xs W → W.heap[D]? = some (.deferred (some [])) → Q .normal { a with defers := { target := .collected D, args := #[] } :: a.defers } W) :
    (Code.rangeFunc g ps assign body).wpIn F n P Q a w :=
  wpIn_rangeFunc_ownH hro h1 hg hFg eg hseq hKt hKb hb0 hps I (fun _ _ _ => False) hI (fun _ => ownFrom_pure _ _) h0
    (fun x a' W => ∃ Bx, w.heap.size ≤ Bx ∧ Blk W Bx (encC x) ty ∧ a' = { tmps := (a.tmps.setIfInBounds slot (encV x)).setIfInBounds sbox (.pointer (some ⟨Bx, 0, none⟩)), defers := [] })
    (fun x a' _ X Y row hs hg hr => by obtain ⟨Bx, k1, k2, k3⟩ := hs; exact ⟨Bx, k1, blk_own Bx ty (fun (_ : Unit) => encC x) () X Y row k2 hg (fun r e => (hr r e).2), k3⟩)
    hassign (fun l pre x a' W _ _ hi hax hl => by obtain ⟨Bx, k1, k2, rfl⟩ := hax; exact hbody l pre x Bx W hi k1 k2 hl) hdone (fun _ _ _ _ _ _ hF _ => hF.elim)

theorem keepB_grown {Ba Bb : Nat} {W W' : World} {row : Option Nat} (hg : W.grownBy W' row) (ha : Ba < W.heap.size) (hb : Bb < W.heap.size) (hra : row ≠ some Ba) (hrb : row ≠ some Bb) : KeepB Ba Bb W W' :=
  ⟨hg.block Ba ha (fun e => hra e.symm), hg.block Bb hb (fun e => hrb e.symm)⟩
theorem linePut_snoc (s : Sh) (id : Int) (en : List (Spot × Int)) (pre : List NSpot) (x : NSpot) : linePut s id en (pre ++ [x]) = wput s id (linePut s id en pre) x.1 := by simp [linePut]
theorem WI.sized {s : Sh} {id : Int} {w : World} {Bs mb Bm Bw n0 B Z : Nat} {way : Array Value} {en0 : List (Spot × Int)} (hs : Bs < B) (hm : mb < B) (hb : Bm < B) (hw : Bw < B) (hB : w.heap.size ≤ B) : OwnFrom B (fun pre W => WI s id w Bs mb Bm Bw n0 way en0 pre W ∧ Z ≤ W.heap.size) := fun pre X Y row h hg hr =>
  ⟨WI.own hs hm hb hw hB pre X Y row h.1 hg hr, Nat.le_trans h.2 hg.size⟩
theorem lineN_le {a b : Spot} (ha : Near a) (hb : Near b) : (lineN a b + 1).toNat ≤ 2097153 := by
  have h := max4_le (a := b.1 - a.1) (b := -(b.1 - a.1)) (c := b.2 - a.2) (d := -(b.2 - a.2)) (m := 2097152) (by have := ha.x0; have := hb.x1; omega) (by have := ha.x1; have := hb.x0; omega) (by have := ha.y0; have := hb.y1; omega) (by have := ha.y1; have := hb.y0; omega)
  have h2 : lineN a b ≤ 2097152 := h
  omega
theorem putE_length (l : List (Spot × Int)) (p : Spot) (x : Int) : (putE l p x).length ≤ l.length + 1 := by unfold putE; split <;> simp
theorem wput_length (s : Sh) (id : Int) (en : List (Spot × Int)) (d : Spot) : (wput s id en d).length ≤ en.length + 1 := by
  unfold wput
  split
  · exact putE_length _ _ _
  · omega
theorem linePut_length (s : Sh) (id : Int) : ∀ (l : List NSpot) (en : List (Spot × Int)), (linePut s id en l).length ≤ en.length + l.length
  | [], en => by simp [linePut]
  | x :: l, en => by
    have h := linePut_length s id l (wput s id en x.1)
    have h2 := wput_length s id en x.1
    simp only [linePut, List.foldl_cons, List.length_cons] at h ⊢
    omega
/-- the entries of a way with two points -/
def wayE (s : Sh) (id : Int) (p q : Spot) : List (Spot × Int) := linePut s id (linePut s id [] (lineL s p q)) (lineL s q q)
abbrev wayC (id : Int) (bl : Nat) : Array Value := #[.int .i64 id, .slice (some ⟨bl, 0, none⟩) 2 2, .int .i64 0, .string ⟨#[]⟩, .string ⟨#[]⟩, .bool false, .int .i64 0, .int .i64 0]

set_option maxRecDepth 100000 in
set_option maxHeartbeats 8000000 in
theorem ways1_in (s : Sh) (id : Int) (p q : Spot) (bw bl : Nat) (w : World) (hc : checkS s = 0) (hid : fits id) (hne : wayE s id p q ≠ []) (hp : rightP p.1 p.2 = true) (hq : rightP q.1 q.2 = true)
    (kW : Blk w bw (wayC id bl) 62) (kL : Blk w bl #[.int .i64 p.1, .int .i64 p.2, .int .i64 q.1, .int .i64 q.2] 25) :
    CallsIn Fence.wide 3 Tryz.prog 14 #[shV s, .slice (some ⟨bw, 0, none⟩) 1 1] w fun e w' => ∃ v base, e = .returned v ∧ w.heap.size ≤ base ∧ w'.ownsRow base 59 4 v (dotsS 2 (wayE s id p q)).length ((dotsS 2 (wayE s id p q)).flatMap encD) ∧ Below w.heap.size w w' := by
  obtain ⟨ax, ay, st, sw, sh, sg⟩ := s
  obtain ⟨px, py⟩ := p
  obtain ⟨qx, qy⟩ := q
  have hs := okS_of hc
  have hs' := hs
  obtain ⟨s0, s1, u0, u1, v0, v1, a0, a1, b0, b1⟩ := hs'
  simp only at s0 s1 u0 u1 v0 v1 a0 a1 b0 b1
  obtain ⟨⟨p0, p1⟩, p2, p3⟩ := rightP_iff.1 hp
  obtain ⟨⟨q0, q1⟩, q2, q3⟩ := rightP_iff.1 hq
  simp only at p0 p1 p2 p3 q0 q1 q2 q3
  have fax : fits ax := ⟨by omega, by omega⟩
  have fay : fits ay := ⟨by omega, by omega⟩
  have hcH := Lib.hid hc
  clear hc
  have lW := kW.lt
  have lL := kL.lt
  have w0 : w.cell? ⟨bw, 0, none⟩ = some (.int .i64 id) := kW.cell 0
  have w1 : w.cell? ⟨bw, 1, none⟩ = some (.slice (some ⟨bl, 0, none⟩) 2 2) := kW.cell 1
  have w2 : w.cell? ⟨bw, 2, none⟩ = some (.int .i64 0) := kW.cell 2
  have w3 : w.cell? ⟨bw, 3, none⟩ = some (.string ⟨#[]⟩) := kW.cell 3
  have w4 : w.cell? ⟨bw, 4, none⟩ = some (.string ⟨#[]⟩) := kW.cell 4
  have w5 : w.cell? ⟨bw, 5, none⟩ = some (.bool false) := kW.cell 5
  have w6 : w.cell? ⟨bw, 6, none⟩ = some (.int .i64 0) := kW.cell 6
  have w7 : w.cell? ⟨bw, 7, none⟩ = some (.int .i64 0) := kW.cell 7
  have l0 : w.cell? ⟨bl, 0, none⟩ = some (.int .i64 px) := kL.cell 0
  have l1 : w.cell? ⟨bl, 1, none⟩ = some (.int .i64 py) := kL.cell 1
  have l2 : w.cell? ⟨bl, 2, none⟩ = some (.int .i64 qx) := kL.cell 2
  have l3 : w.cell? ⟨bl, 3, none⟩ = some (.int .i64 qy) := kL.cell 3
  have e31 : ∀ args w, (callFunc 45 args).run Tryz.prog w = .ok (.enter 45 args) w := enters_of Tryz.func45 (by kernel_rfl) rfl
  have hcon : ∀ W : World, Below w.heap.size w W →
      Calls Tryz.prog 44 #[.slice (some ⟨bl, 0, none⟩) 2 2, .func (.func 45) #[] #[]] W fun e w' => e = .returned (.bool false) ∧ Below W.heap.size W w' := fun W hBW => by
    have kL2 := kL.below hBW lL
    have c0 := kL2.cell 0
    have c1 := kL2.cell 1
    have c2 := kL2.cell 2
    have c3 := kL2.cell 3
    have hl := kL2.lt
    have h := AnyQ.slices_ContainsFunc Go.Proofs.Tryz.pointsContains 2 Tryz.isAgg25 Tryz.sizeOf25 encS (fun _ => rfl) (fun x => !rightP x.1 x.2) 45 #[] e31 bl 0 2 2 [(px, py), (qx, qy)] W
      (fun W' x hb => (waysClosure_any x.1 x.2 W').mono fun _ _ ⟨he, hb2⟩ => ⟨he, hb.trans (hb2.mono hb.size)⟩) (Nat.le_refl 2) (by omega) hl (fun j hj i v hi => by
        match j, hj, i, hi with
        | 0, _, 0, hi => exact c0.trans hi
        | 0, _, 1, hi => exact c1.trans hi
        | 1, _, 0, hi => exact c2.trans hi
        | 1, _, 1, hi => exact c3.trans hi
        | 0, _, i + 2, hi => simp at hi
        | 1, _, i + 2, hi => simp at hi)
    have hr : (([(px, py), (qx, qy)].take 2).any fun x => !rightP x.1 x.2) = false := by
      simp only at hp hq
      simp [hp, hq]
    rw [hr] at h
    exact h
  replace hp := Lib.hid hp
  replace hq := Lib.hid hq
  obtain ⟨i0, hi0⟩ : ∃ i, dotX ⟨ax, ay, st, sw, sh, sg⟩ px = i := ⟨_, rfl⟩
  obtain ⟨j0, hj0⟩ : ∃ i, dotY ⟨ax, ay, st, sw, sh, sg⟩ py = i := ⟨_, rfl⟩
  obtain ⟨i1, hi1⟩ : ∃ i, dotX ⟨ax, ay, st, sw, sh, sg⟩ qx = i := ⟨_, rfl⟩
  obtain ⟨j1, hj1⟩ : ∃ i, dotY ⟨ax, ay, st, sw, sh, sg⟩ qy = i := ⟨_, rfl⟩
  have n0 : Near (i0, j0) := near_dot hs (by omega) (by omega) (by omega) (by omega) hi0 hj0
  have n1 : Near (i1, j1) := near_dot hs (by omega) (by omega) (by omega) (by omega) hi1 hj1
  replace hi0 := Lib.hid hi0
  replace hj0 := Lib.hid hj0
  replace hi1 := Lib.hid hi1
  replace hj1 := Lib.hid hj1
  refine callsIn_of_wp_marks Tryz.func14 rfl trivial ?_ rfl
  simp only [Tryz.ntmps14, List.size_toArray, List.length_cons, List.length_nil, Nat.reduceAdd, Nat.reduceSub, Array.replicate_succ, Array.replicate_zero, List.push_toArray, List.append_toArray, List.nil_append, List.cons_append]
  refine wpIn_wide.2 ?_
  have hmm := @run_makeMap Tryz.prog
  go_wp2_with (go_at_call 19; refine (check_eq hcH.out _ fax fay).mono ?_; rintro e w' ⟨rfl, hb_⟩; obtain ⟨p, rfl⟩ := grow_of_below hb_; clear hb_)
  clear hmm
  have hB1 : Below w.heap.size w ((((w.alloc (.cells #[.int .i64 ax, .int .i64 ay, .int .i64 st, .int .i64 sw, .int .i64 sh, .int .i64 sg] 29)).growBy p).alloc (.map #[] 0)).alloc (.cells #[.map (some (w.heap.size + 1 + p.objs.size))] 80)) := (by repeat' (first | with_reducible exact Below.refl _ _ | with_reducible exact Nat.le_refl _ | with_reducible assumption | with_reducible refine Go.below_growBy' ?_ ?_ _ | with_reducible refine Below.alloc ?_ ?_ _ | with_reducible refine Below.setCell ?_ ?_ _ | with_reducible refine Below.drew ?_ | with_reducible refine Go.le_alloc ?_ | with_reducible refine Go.le_growBy ?_ | with_reducible refine Go.le_setCell ?_ | with_reducible refine Go.le_drew ?_ | omega | (dsimp only; omega)))
  have kS := ((((Blk.new w #[.int .i64 ax, .int .i64 ay, .int .i64 st, .int .i64 sw, .int .i64 sh, .int .i64 sg] 29).grow p).alloc (.map #[] 0)).alloc (.cells #[.map (some (w.heap.size + 1 + p.objs.size))] 80))
  have kM := (MapIs.made ((w.alloc (.cells #[.int .i64 ax, .int .i64 ay, .int .i64 st, .int .i64 sw, .int .i64 sh, .int .i64 sg] 29)).growBy p)).alloc (.cells #[.map (some (w.heap.size + 1 + p.objs.size))] 80)
  have kB := Blk.new (((w.alloc (.cells #[.int .i64 ax, .int .i64 ay, .int .i64 st, .int .i64 sw, .int .i64 sh, .int .i64 sg] 29)).growBy p).alloc (.map #[] 0)) #[.map (some (w.heap.size + 1 + p.objs.size))] 80
  obtain ⟨W1, hW1⟩ : ∃ W1, ((((w.alloc (.cells #[.int .i64 ax, .int .i64 ay, .int .i64 st, .int .i64 sw, .int .i64 sh, .int .i64 sg] 29)).growBy p).alloc (.map #[] 0)).alloc (.cells #[.map (some (w.heap.size + 1 + p.objs.size))] 80)) = W1 := ⟨_, rfl⟩
  rw [hW1] at hB1 kS kM kB ⊢
  have hsz : ((w.alloc (.cells #[.int .i64 ax, .int .i64 ay, .int .i64 st, .int .i64 sw, .int .i64 sh, .int .i64 sg] 29)).growBy p).heap.size = w.heap.size + 1 + p.objs.size := by show ((w.alloc _).heap ++ p.objs).size = _; rw [Array.size_append, World.size_alloc]
  rw [World.size_alloc, hsz] at kB
  rw [hsz] at kM
  have lS := kS.lt
  have lM := kM.lt
  have lB := kB.lt
  have hMge : w.heap.size ≤ w.heap.size + 1 + p.objs.size := by omega
  have hBge : w.heap.size ≤ w.heap.size + 1 + p.objs.size + 1 := by omega
  have hMs0 : w.heap.size + 1 + p.objs.size ≠ w.heap.size := by omega
  have hMB0 : w.heap.size + 1 + p.objs.size ≠ w.heap.size + 1 + p.objs.size + 1 := by omega
  clear hW1 hsz
  generalize w.heap.size + 1 + p.objs.size + 1 = Bm at *
  generalize w.heap.size + 1 + p.objs.size = mb at *
  have kW1 := kW.below hB1 lW
  have kL1 := kL.below hB1 lL
  have w0 : W1.cell? ⟨bw, 0, none⟩ = some (.int .i64 id) := kW1.cell 0
  have w1 : W1.cell? ⟨bw, 1, none⟩ = some (.slice (some ⟨bl, 0, none⟩) 2 2) := kW1.cell 1
  have w2 : W1.cell? ⟨bw, 2, none⟩ = some (.int .i64 0) := kW1.cell 2
  have w3 : W1.cell? ⟨bw, 3, none⟩ = some (.string ⟨#[]⟩) := kW1.cell 3
  have w4 : W1.cell? ⟨bw, 4, none⟩ = some (.string ⟨#[]⟩) := kW1.cell 4
  have w5 : W1.cell? ⟨bw, 5, none⟩ = some (.bool false) := kW1.cell 5
  have w6 : W1.cell? ⟨bw, 6, none⟩ = some (.int .i64 0) := kW1.cell 6
  have w7 : W1.cell? ⟨bw, 7, none⟩ = some (.int .i64 0) := kW1.cell 7
  have l0 : W1.cell? ⟨bl, 0, none⟩ = some (.int .i64 px) := kL1.cell 0
  have l1 : W1.cell? ⟨bl, 1, none⟩ = some (.int .i64 py) := kL1.cell 1
  have l2 : W1.cell? ⟨bl, 2, none⟩ = some (.int .i64 qx) := kL1.cell 2
  have l3 : W1.cell? ⟨bl, 3, none⟩ = some (.int .i64 qy) := kL1.cell 3
  have s0' : W1.cell? ⟨w.heap.size, 0, none⟩ = some (.int .i64 ax) := kS.cell 0
  have s1' : W1.cell? ⟨w.heap.size, 1, none⟩ = some (.int .i64 ay) := kS.cell 1
  have s2' : W1.cell? ⟨w.heap.size, 2, none⟩ = some (.int .i64 st) := kS.cell 2
  have s3' : W1.cell? ⟨w.heap.size, 3, none⟩ = some (.int .i64 sw) := kS.cell 3
  have s4' : W1.cell? ⟨w.heap.size, 4, none⟩ = some (.int .i64 sh) := kS.cell 4
  have s5' : W1.cell? ⟨w.heap.size, 5, none⟩ = some (.int .i64 sg) := kS.cell 5
  have hs1 := hB1.size
  refine wp_loop_rounds 2 ?_
  rw [rounds_succ]
  go_wp2_with (go_at_call 44; refine (hcon _ (by repeat' (first | with_reducible exact Below.refl _ _ | with_reducible exact Nat.le_refl _ | with_reducible assumption | with_reducible refine Go.below_growBy' ?_ ?_ _ | with_reducible refine Below.alloc ?_ ?_ _ | with_reducible refine Below.setCell ?_ ?_ _ | with_reducible refine Below.drew ?_ | with_reducible refine Go.le_alloc ?_ | with_reducible refine Go.le_growBy ?_ | with_reducible refine Go.le_setCell ?_ | with_reducible refine Go.le_drew ?_ | omega | (dsimp only; omega)))).mono ?_; rintro e w' ⟨rfl, hb_⟩; obtain ⟨p, rfl⟩ := grow_of_below hb_; clear hb_)
  refine wp_loop_rounds 3 ?_
  rw [rounds_succ]
  go_wp2_with fail

  have kI : WI ⟨ax, ay, st, sw, sh, sg⟩ id w w.heap.size mb Bm W1.heap.size 0 (wayC id bl) [] [] ((W1.alloc (.cells (wayC id bl) 62)).growBy p) :=
    WI.grown (W := W1.alloc (.cells (wayC id bl) 62)) ⟨⟨0, Nat.le_refl _, kM.alloc _⟩, kS.alloc _, kB.alloc _, Blk.new _ _ _, hB1.alloc hs1 _⟩ (grownBy_growBy _ _)
  have hB2 : Below w.heap.size w ((W1.alloc (.cells #[.int .i64 id, .slice (some ⟨bl, 0, none⟩) 2 2, .int .i64 0, .string ⟨#[]⟩, .string ⟨#[]⟩, .bool false, .int .i64 0, .int .i64 0] 62)).growBy p) := (by repeat' (first | with_reducible exact Below.refl _ _ | with_reducible exact Nat.le_refl _ | with_reducible assumption | with_reducible refine Go.below_growBy' ?_ ?_ _ | with_reducible refine Below.alloc ?_ ?_ _ | with_reducible refine Below.setCell ?_ ?_ _ | with_reducible refine Below.drew ?_ | with_reducible refine Go.le_alloc ?_ | with_reducible refine Go.le_growBy ?_ | with_reducible refine Go.le_setCell ?_ | with_reducible refine Go.le_drew ?_ | omega | (dsimp only; omega)))
  obtain ⟨W2, hW2⟩ : ∃ W2, (W1.alloc (.cells #[.int .i64 id, .slice (some ⟨bl, 0, none⟩) 2 2, .int .i64 0, .string ⟨#[]⟩, .string ⟨#[]⟩, .bool false, .int .i64 0, .int .i64 0] 62)).growBy p = W2 := ⟨_, rfl⟩
  replace kI : WI ⟨ax, ay, st, sw, sh, sg⟩ id w w.heap.size mb Bm W1.heap.size 0 (wayC id bl) [] [] W2 := by rw [← hW2]; exact kI
  have hsz2 : W1.heap.size + 1 + p.objs.size = W2.heap.size := by rw [← hW2]; show _ = ((W1.alloc _).heap ++ p.objs).size; rw [Array.size_append, World.size_alloc]
  rw [hW2] at hB2 ⊢
  rw [hsz2]
  clear hsz2
  clear hW2 w0 w1 w2 w3 w4 w5 w6 w7 l0 l1 l2 l3 s0' s1' s2' s3' s4' s5' kW1 kL1 kS kM kB hcon e31
  have hBw : w.heap.size ≤ W1.heap.size := hs1
  generalize W1.heap.size = Bw at *
  have kL2 := kL.below hB2 lL
  have l0 : W2.cell? ⟨bl, 0, none⟩ = some (.int .i64 px) := kL2.cell 0
  have l1 : W2.cell? ⟨bl, 1, none⟩ = some (.int .i64 py) := kL2.cell 1
  have l2 : W2.cell? ⟨bl, 2, none⟩ = some (.int .i64 qx) := kL2.cell 2
  have l3 : W2.cell? ⟨bl, 3, none⟩ = some (.int .i64 qy) := kL2.cell 3
  have s0' : W2.cell? ⟨w.heap.size, 0, none⟩ = some (.int .i64 ax) := kI.sheet.cell 0
  have s1' : W2.cell? ⟨w.heap.size, 1, none⟩ = some (.int .i64 ay) := kI.sheet.cell 1
  have s2' : W2.cell? ⟨w.heap.size, 2, none⟩ = some (.int .i64 st) := kI.sheet.cell 2
  have s3' : W2.cell? ⟨w.heap.size, 3, none⟩ = some (.int .i64 sw) := kI.sheet.cell 3
  have s4' : W2.cell? ⟨w.heap.size, 4, none⟩ = some (.int .i64 sh) := kI.sheet.cell 4
  have s5' : W2.cell? ⟨w.heap.size, 5, none⟩ = some (.int .i64 sg) := kI.sheet.cell 5
  have w1 : W2.cell? ⟨Bw, 1, none⟩ = some (.slice (some ⟨bl, 0, none⟩) 2 2) := kI.way.cell 1
  first | with_reducible refine wp_region_grow_tail2 16 (by kernel_rfl) (by kernel_rfl) ?_ | with_reducible refine wp_region_grow_tail 16 (by kernel_rfl) (by kernel_rfl) ?_
  simp only [List.take_succ_cons, List.take_zero, List.drop_succ_cons, List.drop_zero]
  repeat (first | go_big_quiet_step ((go_at_call 48; exact Calls.grow_of (of_any ⟨ax, ay, st, sw, sh, sg⟩ _ _ _ _ _ (by first | with_reducible exact hi0.out | with_reducible exact hi1.out) (by first | with_reducible exact hj0.out | with_reducible exact hj1.out) hs (by omega) (by omega) (by omega) (by omega)))) | quiet_step ((go_at_call 48; exact Calls.grow_of (of_any ⟨ax, ay, st, sw, sh, sg⟩ _ _ _ _ _ (by first | with_reducible exact hi0.out | with_reducible exact hi1.out) (by first | with_reducible exact hj0.out | with_reducible exact hj1.out) hs (by omega) (by omega) (by omega) (by omega)))))
  refine wpQuiet_nil ?_
  intro _ hw_
  obtain ⟨p, hw_⟩ := hw_
  subst hw_
  have kIX := WI.grown (WI.grown kI (World.grownBy_alloc W2 (.cells #[.int .i64 px, .int .i64 py] 25) none)) (grownBy_growBy _ p)
  obtain ⟨X, hX⟩ : ∃ X, (W2.alloc (.cells #[.int .i64 px, .int .i64 py] 25)).growBy p = X := ⟨_, rfl⟩
  rw [hX] at kIX ⊢
  clear hX kI l0 l1 l2 l3 s0' s1' s2' s3' s4' s5' w1 kL2
  go_wp2_with (go_at_call 47; refine (line_any _ _ _ _ _).mono ?_; rintro e w' ⟨rfl, rfl⟩)
  have kA := (Blk.new X #[.int .i64 i0, .int .i64 j0] 85).alloc (.cells #[.int .i64 i1, .int .i64 j1] 85)
  have kBb := Blk.new (X.alloc (.cells #[.int .i64 i0, .int .i64 j0] 85)) #[.int .i64 i1, .int .i64 j1] 85
  have kIY := WI.grown (WI.grown kIX (World.grownBy_alloc X (.cells #[.int .i64 i0, .int .i64 j0] 85) none)) (World.grownBy_alloc _ (.cells #[.int .i64 i1, .int .i64 j1] 85) none)
  rw [World.size_alloc] at kBb
  have hY : ((X.alloc (.cells #[.int .i64 i0, .int .i64 j0] 85)).alloc (.cells #[.int .i64 i1, .int .i64 j1] 85)).heap.size = X.heap.size + 2 := by simp
  obtain ⟨Y, hYe⟩ : ∃ Y, (X.alloc (.cells #[.int .i64 i0, .int .i64 j0] 85)).alloc (.cells #[.int .i64 i1, .int .i64 j1] 85) = Y := ⟨_, rfl⟩
  rw [hYe] at kA kBb kIY hY ⊢
  have xM : mb < X.heap.size := by obtain ⟨n, _, h⟩ := kIX.map; exact h.lt
  clear hYe kIX
  have yS := kIY.sheet.lt
  have yB := kIY.box.lt
  have yW := kIY.way.lt
  have yM : mb < Y.heap.size := by obtain ⟨n, _, h⟩ := kIY.map; exact h.lt
  have hYs := kIY.below.size
  have hMs : mb ≠ w.heap.size := hMs0
  have hMB : mb ≠ Bm := hMB0
  obtain ⟨EXF, hEF⟩ : ∃ f : World → Prop, f = fun _ => True := ⟨_, rfl⟩
  have hEx0 : EXF Y := by rw [hEF]; trivial
  have hExG : ∀ A A' row, EXF A → A.grownBy A' row → (∀ r, row = some r → r = mb ∨ Y.heap.size ≤ r) → EXF A' := by rw [hEF]; intro _ _ _ _ _ _; trivial
  refine (wpIn_wide (n := 3)).1 (wpIn_rangeFunc_box 51 10 (fun x : NSpot => spotV x.1) (fun x => #[.int .i64 x.1.1, .int .i64 x.1.2]) 85 rfl (by omega) rfl trivial (enters_of Tryz.func91 (by kernel_rfl) rfl)
    (line_stops 2 (by omega) X.heap.size (X.heap.size + 1) (i0, j0) (i1, j1) n0 n1 Y kA kBb) keepB_t (keepB_b kA.lt kBb.lt) (Below.refl _ _) (fun _ => rfl)
    (fun pre W => (WI ⟨ax, ay, st, sw, sh, sg⟩ id w w.heap.size mb Bm Bw (0) (wayC id bl) ([]) pre W ∧ Y.heap.size ≤ W.heap.size) ∧ EXF W) (OwnFrom.and (WI.sized yS yM yB yW hYs) (fun _ A A' row h hg hr => hExG A A' row h hg (fun r e => .inr (hr r e).1))) ⟨⟨kIY, Nat.le_refl _⟩, hEx0⟩ ?assign ?body ?done)
  case assign =>
    rintro l pre x W K ⟨⟨hI, hYW⟩, hEx⟩ hK
    obtain ⟨⟨x0, x1⟩, hx⟩ := x
    gi_wp2
    exact hK _ _ ((KeepsOthers.alloc _ _).from _) (keepB_grown (World.grownBy_alloc W _ none) (by omega) (by omega) (by simp) (by simp)) ⟨⟨WI.grown hI (World.grownBy_alloc W _ none), by simp; omega⟩, hExG _ _ none hEx (World.grownBy_alloc W _ none) (fun r e => by cases e)⟩ ⟨W.heap.size, hYW, Blk.new W _ _, by first | rfl | simp⟩
  case body =>
    rintro l pre x Bx W ⟨⟨hI, hYW⟩, hEx⟩ hBx bX hlt
    obtain ⟨⟨n, hn, hM⟩, kS, kB, kW', hBel⟩ := hI
    obtain ⟨D, hown, hnd, hfit, hkeys⟩ := hM
    obtain ⟨⟨x0, x1⟩, hx⟩ := x
    have hlt2 : pre.length < 4194304 := by have := lineN_le n0 n1; omega
    have h11 : 1 ≤ 3 - 1 - 1 := by omega
    have hfn27 : Fence.wide.fn 33 := trivial
    have hsn := linePut_snoc ⟨ax, ay, st, sw, sh, sg⟩ id ([]) pre ⟨(x0, x1), hx⟩
    obtain ⟨en, hen⟩ : ∃ en, linePut ⟨ax, ay, st, sw, sh, sg⟩ id ([]) pre = en := ⟨_, rfl⟩
    rw [hen] at hnd hfit hkeys hsn
    obtain ⟨hk1, hk2⟩ := hkeys (x0, x1) hx
    obtain ⟨b2, hb2⟩ : ∃ b, hasK en (x0, x1) = b := ⟨_, rfl⟩
    obtain ⟨o, ho⟩ : ∃ o, (idOf en (x0, x1)).getD 0 = o := ⟨_, rfl⟩
    obtain ⟨b1, hb1⟩ : ∃ b, onS ⟨ax, ay, st, sw, sh, sg⟩ x0 x1 = b := ⟨_, rfl⟩
    rw [hb2] at hk1
    rw [ho] at hk2
    replace hk2 := Lib.hid hk2
    simp only [wput, hb1, hb2, ho] at hsn
    replace hb1 := Lib.hid hb1
    have hMH := Lib.hid (show MapIs W mb n en from ⟨D, hown, hnd, hfit, hkeys⟩)
    have hkH := Lib.hid hkeys
    clear hkeys hen hb2 ho
    have cB : W.cell? ⟨Bm, 0, none⟩ = some (.map (some mb)) := kB.cell 0
    have cW : W.cell? ⟨Bw, 0, none⟩ = some (.int .i64 id) := kW'.cell 0
    have cX0 : W.cell? ⟨Bx, 0, none⟩ = some (.int .i64 x0) := bX.cell 0
    have cX1 : W.cell? ⟨Bx, 1, none⟩ = some (.int .i64 x1) := bX.cell 1
    have c0 : W.cell? ⟨w.heap.size, 0, none⟩ = some (.int .i64 ax) := kS.cell 0
    have c1 : W.cell? ⟨w.heap.size, 1, none⟩ = some (.int .i64 ay) := kS.cell 1
    have c2 : W.cell? ⟨w.heap.size, 2, none⟩ = some (.int .i64 st) := kS.cell 2
    have c3 : W.cell? ⟨w.heap.size, 3, none⟩ = some (.int .i64 sw) := kS.cell 3
    have c4 : W.cell? ⟨w.heap.size, 4, none⟩ = some (.int .i64 sh) := kS.cell 4
    have c5 : W.cell? ⟨w.heap.size, 5, none⟩ = some (.int .i64 sg) := kS.cell 5
    have hend0 : ∀ (a9 : Act) p en2, linePut ⟨ax, ay, st, sw, sh, sg⟩ id ([]) (pre ++ [⟨(x0, x1), hx⟩]) = en2 → en = en2 → ownPostG Y.heap.size (KeepB X.heap.size (X.heap.size + 1)) (fun pre W => (WI ⟨ax, ay, st, sw, sh, sg⟩ id w w.heap.size mb Bm Bw (0) (wayC id bl) ([]) pre W ∧ Y.heap.size ≤ W.heap.size) ∧ EXF W) (fun _ _ _ => False) (pre ++ [⟨(x0, x1), hx⟩]) W Exit.normal a9 (W.growBy p) := by
      rintro a9 p en2 e1 rfl
      have hg := grownBy_growBy W p
      exact ⟨KeepsFrom.of_grownBy hg (fun j e => by cases e), keepB_grown hg (by omega) (by omega) (by simp) (by simp), ⟨⟨⟨n, by simp; omega, by rw [e1]; exact hMH.out.kept hg (by simp)⟩, kS.kept hg (by simp), kB.kept hg (by simp), kW'.kept hg (by simp), hBel.grown hg hBel.size (fun k e => by cases e)⟩, Nat.le_trans hYW hg.size⟩, hExG _ _ none hEx hg (fun r e => by cases e)⟩
    have hend1 : ∀ (a9 : Act) p w9, w9.ownsMap Tryz.prog 85 (plainElem Tryz.prog 3) mb (n + 1) (D.put (klS (x0, x1)) (.lit (.int .i64 id))) → (W.growBy p).grownBy w9 (some mb) → linePut ⟨ax, ay, st, sw, sh, sg⟩ id ([]) (pre ++ [⟨(x0, x1), hx⟩]) = putE en (x0, x1) id → ownPostG Y.heap.size (KeepB X.heap.size (X.heap.size + 1)) (fun pre W => (WI ⟨ax, ay, st, sw, sh, sg⟩ id w w.heap.size mb Bm Bw (0) (wayC id bl) ([]) pre W ∧ Y.heap.size ≤ W.heap.size) ∧ EXF W) (fun _ _ _ => False) (pre ++ [⟨(x0, x1), hx⟩]) W Exit.normal a9 w9 := by
      intro a9 p w9 hown9 hg9 e1
      have hg := grownBy_growBy W p
      have hne : ∀ b, mb ≠ b → (some mb : Option Nat) ≠ some b := fun b h e => h (by cases e; rfl)
      have hsz : W.heap.size ≤ (W.growBy p).heap.size := hg.size
      exact ⟨(KeepsFrom.of_grownBy hg (fun j e => by cases e)).trans (KeepsFrom.of_grownBy hg9 (fun j e => by cases e; exact yM)),
        keepB_t (keepB_grown hg (by omega) (by omega) (by simp) (by simp)) (keepB_grown hg9 (by omega) (by omega) (hne _ (by omega)) (hne _ (by omega))),
        ⟨⟨⟨n + 1, by simp; omega, by rw [e1]; exact MapIs.store (W := W) hown.isMap hnd hfit hkH.out hx hown9⟩, (kS.kept hg (by simp)).kept hg9 (hne _ hMs), (kB.kept hg (by simp)).kept hg9 (hne _ hMB), (kW'.kept hg (by simp)).kept hg9 (hne _ (by omega)), (hBel.grown hg hBel.size (fun k e => by cases e)).grown hg9 (Nat.le_trans hBel.size hsz) (fun k e => by cases e; exact hMge)⟩, Nat.le_trans (Nat.le_trans hYW hsz) hg9.size⟩, hExG _ _ _ (hExG _ _ none hEx hg (fun r e => by cases e)) hg9 (fun r e => by cases e; exact .inl rfl)⟩
    cases b1 with
    | false =>
      simp only [Bool.false_and, Bool.false_eq_true, if_false] at hsn
      replace hsn := Lib.hid hsn
      cases b2 <;>
      · gi_wp2_with (first | (gi_at_lookup; refine wpListIn_lookup_own_ok_int _ (by rfl) _ _ 80 (by rfl) 85 3 .i64 spotLaw Tryz.underlying80 Tryz.underlying3 (zeroInt _) mb n D (by rfl) hown (spotV (x0, x1)) (klS (x0, x1)) (by rfl) (keyOf_spot hx) ?_; intro c hat hwc; obtain rfl : c = o := (by rw [hk2.out] at hat; simpa using hat.symm); clear hat hwc; go_frame) | (gi_at_call 33; refine (CallsIn.inRound l ((callsIn_wide (n := 3 - 1 - 1 - 1)).2 (on_any ⟨ax, ay, st, sw, sh, sg⟩ x0 x1 _ _ hb1.out hs))).mono ?_; rintro e w' ⟨rfl, hb_⟩; obtain ⟨p, rfl⟩ := grow_of_below hb_; clear hb_) | gi_in)
        exact hend0 _ _ _ hsn.out rfl
    | true =>
      cases b2 with
      | false =>
        simp at hsn
        replace hsn := Lib.hid hsn
        gi_wp2_with (first | (gi_at_lookup; refine wpListIn_lookup_own_ok_int _ (by rfl) _ _ 80 (by rfl) 85 3 .i64 spotLaw Tryz.underlying80 Tryz.underlying3 (zeroInt _) mb n D (by rfl) hown (spotV (x0, x1)) (klS (x0, x1)) (by rfl) (keyOf_spot hx) ?_; intro c hat hwc; obtain rfl : c = o := (by rw [hk2.out] at hat; simpa using hat.symm); clear hat hwc; go_frame) | (gi_at_call 33; refine (CallsIn.inRound l ((callsIn_wide (n := 3 - 1 - 1 - 1)).2 (on_any ⟨ax, ay, st, sw, sh, sg⟩ x0 x1 _ _ hb1.out hs))).mono ?_; rintro e w' ⟨rfl, hb_⟩; obtain ⟨p, rfl⟩ := grow_of_below hb_; clear hb_) | (gi_at_mapUpdate; refine wpListIn_mapUpdate_own _ (by rfl) _ _ _ 80 (by rfl) 85 3 spotLaw Tryz.underlying80 _ mb n D (by rfl) (hown.kept (grownBy_growBy W p) (by simp)) (by unfold maxLen; omega) _ _ (klS (x0, x1)) (by rfl) (by rfl) (keyOf_spot hx) _ [] (plainElem_int Tryz.underlying3 (lit_wf hid)) ?_; intro w9 hown9 hgrow9) | gi_in)
        exact hend1 _ _ _ (by assumption) (by assumption) hsn.out
      | true =>
        by_cases hio : id < o
        · simp [hio] at hsn
          replace hsn := Lib.hid hsn
          gi_wp2_with (first | (gi_at_lookup; refine wpListIn_lookup_own_ok_int _ (by rfl) _ _ 80 (by rfl) 85 3 .i64 spotLaw Tryz.underlying80 Tryz.underlying3 (zeroInt _) mb n D (by rfl) hown (spotV (x0, x1)) (klS (x0, x1)) (by rfl) (keyOf_spot hx) ?_; intro c hat hwc; obtain rfl : c = o := (by rw [hk2.out] at hat; simpa using hat.symm); clear hat hwc; go_frame) | (gi_at_call 33; refine (CallsIn.inRound l ((callsIn_wide (n := 3 - 1 - 1 - 1)).2 (on_any ⟨ax, ay, st, sw, sh, sg⟩ x0 x1 _ _ hb1.out hs))).mono ?_; rintro e w' ⟨rfl, hb_⟩; obtain ⟨p, rfl⟩ := grow_of_below hb_; clear hb_) | (gi_at_mapUpdate; refine wpListIn_mapUpdate_own _ (by rfl) _ _ _ 80 (by rfl) 85 3 spotLaw Tryz.underlying80 _ mb n D (by rfl) (hown.kept (grownBy_growBy W p) (by simp)) (by unfold maxLen; omega) _ _ (klS (x0, x1)) (by rfl) (by rfl) (keyOf_spot hx) _ [] (plainElem_int Tryz.underlying3 (lit_wf hid)) ?_; intro w9 hown9 hgrow9) | gi_in)
          exact hend1 _ _ _ (by assumption) (by assumption) hsn.out
        · simp [hio] at hsn
          replace hsn := Lib.hid hsn
          gi_wp2_with (first | (gi_at_lookup; refine wpListIn_lookup_own_ok_int _ (by rfl) _ _ 80 (by rfl) 85 3 .i64 spotLaw Tryz.underlying80 Tryz.underlying3 (zeroInt _) mb n D (by rfl) hown (spotV (x0, x1)) (klS (x0, x1)) (by rfl) (keyOf_spot hx) ?_; intro c hat hwc; obtain rfl : c = o := (by rw [hk2.out] at hat; simpa using hat.symm); clear hat hwc; go_frame) | (gi_at_call 33; refine (CallsIn.inRound l ((callsIn_wide (n := 3 - 1 - 1 - 1)).2 (on_any ⟨ax, ay, st, sw, sh, sg⟩ x0 x1 _ _ hb1.out hs))).mono ?_; rintro e w' ⟨rfl, hb_⟩; obtain ⟨p, rfl⟩ := grow_of_below hb_; clear hb_) | gi_in)
          exact hend0 _ _ _ hsn.out rfl
  case done =>
    rintro D1 ys W3 hD1 rfl ⟨⟨hI, hYW⟩, -⟩ hK1
    clear hExG hEx0 hEF kIY kA kBb
    have hys : (upto (lineS (i0, j0) (i1, j1)) (lineN (i0, j0) (i1, j1) + 1).toNat).length ≤ 2097153 := by rw [upto_length]; exact lineN_le n0 n1
    obtain ⟨en1, hen1⟩ : ∃ en, linePut ⟨ax, ay, st, sw, sh, sg⟩ id [] (upto (lineS (i0, j0) (i1, j1)) (lineN (i0, j0) (i1, j1) + 1).toNat) = en := ⟨_, rfl⟩
    have hl1 : en1.length ≤ 2097153 := by rw [← hen1]; exact Nat.le_trans (linePut_length _ _ _ _) (by simpa using hys)
    have kI : WI ⟨ax, ay, st, sw, sh, sg⟩ id w w.heap.size mb Bm Bw 2097153 (wayC id bl) en1 [] W3 := by
      obtain ⟨⟨n, hn, hM⟩, h1, h2, h3, h4⟩ := hI
      rw [hen1] at hM
      exact ⟨⟨n, by simp only [List.length_nil]; omega, hM⟩, h1, h2, h3, h4⟩
    clear hI
    have hB3 := kI.below
    have kL3 := kL.below hB3 lL
    have l2 : W3.cell? ⟨bl, 2, none⟩ = some (.int .i64 qx) := kL3.cell 2
    have l3 : W3.cell? ⟨bl, 3, none⟩ = some (.int .i64 qy) := kL3.cell 3
    have s0' : W3.cell? ⟨w.heap.size, 0, none⟩ = some (.int .i64 ax) := kI.sheet.cell 0
    have s1' : W3.cell? ⟨w.heap.size, 1, none⟩ = some (.int .i64 ay) := kI.sheet.cell 1
    have s2' : W3.cell? ⟨w.heap.size, 2, none⟩ = some (.int .i64 st) := kI.sheet.cell 2
    have s3' : W3.cell? ⟨w.heap.size, 3, none⟩ = some (.int .i64 sw) := kI.sheet.cell 3
    have s4' : W3.cell? ⟨w.heap.size, 4, none⟩ = some (.int .i64 sh) := kI.sheet.cell 4
    have s5' : W3.cell? ⟨w.heap.size, 5, none⟩ = some (.int .i64 sg) := kI.sheet.cell 5
    have w1 : W3.cell? ⟨Bw, 1, none⟩ = some (.slice (some ⟨bl, 0, none⟩) 2 2) := kI.way.cell 1
    have lD1 : D1 < W3.heap.size := (Array.getElem?_eq_some_iff.1 hK1).1
    have hD1m : D1 ≠ mb := by omega
    have hD1w : w.heap.size ≤ D1 := Nat.le_trans hYs hD1
    have hmin : min (2 : Int) 1 = 1 := by decide
    go_wp2_with fail
    rw [rounds_succ]
    go_wp2_with fail
    first | with_reducible refine wp_region_grow_tail2 16 (by kernel_rfl) (by kernel_rfl) ?_ | with_reducible refine wp_region_grow_tail 16 (by kernel_rfl) (by kernel_rfl) ?_
    simp only [List.take_succ_cons, List.take_zero, List.drop_succ_cons, List.drop_zero]
    repeat (first | go_big_quiet_step ((go_at_call 48; exact Calls.grow_of (of_any ⟨ax, ay, st, sw, sh, sg⟩ _ _ _ _ _ (by first | with_reducible exact hi0.out | with_reducible exact hi1.out) (by first | with_reducible exact hj0.out | with_reducible exact hj1.out) hs (by omega) (by omega) (by omega) (by omega)))) | quiet_step ((go_at_call 48; exact Calls.grow_of (of_any ⟨ax, ay, st, sw, sh, sg⟩ _ _ _ _ _ (by first | with_reducible exact hi0.out | with_reducible exact hi1.out) (by first | with_reducible exact hj0.out | with_reducible exact hj1.out) hs (by omega) (by omega) (by omega) (by omega)))))
    refine wpQuiet_nil ?_
    intro _ hw_
    obtain ⟨p, hw_⟩ := hw_
    subst hw_
    have kIX := WI.grown (WI.grown kI (World.grownBy_alloc W3 (.cells #[.int .i64 qx, .int .i64 qy] 25) none)) (grownBy_growBy _ p)
    have kX : ((W3.alloc (.cells #[.int .i64 qx, .int .i64 qy] 25)).growBy p).heap[D1]? = some (.deferred (some [])) := (grownBy_growBy _ p |>.block D1 (by simp; omega) (by simp)).trans (((World.grownBy_alloc W3 _ none).block D1 lD1 (by simp)).trans hK1)
    obtain ⟨X2, hX⟩ : ∃ X, (W3.alloc (.cells #[.int .i64 qx, .int .i64 qy] 25)).growBy p = X := ⟨_, rfl⟩
    rw [hX] at kIX kX ⊢
    clear hX kI l2 l3 s0' s1' s2' s3' s4' s5' w1 kL3 hY xM
    generalize X.heap.size = xold at *
    clear yS yB yW yM hYs
    go_wp2_with (go_at_call 47; refine (line_any _ _ _ _ _).mono ?_; rintro e w' ⟨rfl, rfl⟩)
    obtain ⟨X, rfl⟩ : ∃ X, X = X2 := ⟨_, rfl⟩
    have kA := (Blk.new X #[.int .i64 i1, .int .i64 j1] 85).alloc (.cells #[.int .i64 i1, .int .i64 j1] 85)
    have kBb := Blk.new (X.alloc (.cells #[.int .i64 i1, .int .i64 j1] 85)) #[.int .i64 i1, .int .i64 j1] 85
    have kIY := WI.grown (WI.grown kIX (World.grownBy_alloc X (.cells #[.int .i64 i1, .int .i64 j1] 85) none)) (World.grownBy_alloc _ (.cells #[.int .i64 i1, .int .i64 j1] 85) none)
    have lX1 : D1 < X.heap.size := (Array.getElem?_eq_some_iff.1 kX).1
    have kY1 : ((X.alloc (.cells #[.int .i64 i1, .int .i64 j1] 85)).alloc (.cells #[.int .i64 i1, .int .i64 j1] 85)).heap[D1]? = some (.deferred (some [])) := ((World.grownBy_alloc (X.alloc _) _ none).block D1 (by simp; omega) (by simp)).trans (((World.grownBy_alloc X _ none).block D1 lX1 (by simp)).trans kX)
    rw [World.size_alloc] at kBb
    have hY2 : ((X.alloc (.cells #[.int .i64 i1, .int .i64 j1] 85)).alloc (.cells #[.int .i64 i1, .int .i64 j1] 85)).heap.size = X.heap.size + 2 := by simp
    obtain ⟨Y2, hYe⟩ : ∃ Y, (X.alloc (.cells #[.int .i64 i1, .int .i64 j1] 85)).alloc (.cells #[.int .i64 i1, .int .i64 j1] 85) = Y := ⟨_, rfl⟩
    rw [hYe] at kA kBb kIY hY2 kY1 ⊢
    have xM : mb < X.heap.size := by obtain ⟨n, _, h⟩ := kIX.map; exact h.lt
    clear hYe kIX kX
    have hD1Y : D1 < Y2.heap.size := by omega
    clear hYW hD1
    obtain ⟨Y, rfl⟩ : ∃ Y, Y = Y2 := ⟨_, rfl⟩
    have yS := kIY.sheet.lt
    have yB := kIY.box.lt
    have yW := kIY.way.lt
    have yM : mb < Y.heap.size := by omega
    have hYs := kIY.below.size
    obtain ⟨EXF, hEF⟩ : ∃ f : World → Prop, f = fun W => W.heap[D1]? = some (.deferred (some [])) := ⟨_, rfl⟩
    have hEx0 : EXF Y := by rw [hEF]; exact kY1
    have hExG : ∀ A A' row, EXF A → A.grownBy A' row → (∀ r, row = some r → r = mb ∨ Y.heap.size ≤ r) → EXF A' := by
      rw [hEF]
      intro A A' row h hg hr
      exact (hg.block D1 (Array.getElem?_eq_some_iff.1 h).1 (fun e => by rcases hr D1 e.symm with h1 | h1 <;> omega)).trans h
    refine (wpIn_wide (n := 3)).1 (wpIn_rangeFunc_box 51 10 (fun x : NSpot => spotV x.1) (fun x => #[.int .i64 x.1.1, .int .i64 x.1.2]) 85 rfl (by omega) rfl trivial (enters_of Tryz.func91 (by kernel_rfl) rfl)
      (line_stops 2 (by omega) X.heap.size (X.heap.size + 1) (i1, j1) (i1, j1) n1 n1 Y kA kBb) keepB_t (keepB_b kA.lt kBb.lt) (Below.refl _ _) (fun _ => rfl)
      (fun pre W => (WI ⟨ax, ay, st, sw, sh, sg⟩ id w w.heap.size mb Bm Bw (2097153) (wayC id bl) (en1) pre W ∧ Y.heap.size ≤ W.heap.size) ∧ EXF W) (OwnFrom.and (WI.sized yS yM yB yW hYs) (fun _ A A' row h hg hr => hExG A A' row h hg (fun r e => .inr (hr r e).1))) ⟨⟨kIY, Nat.le_refl _⟩, hEx0⟩ ?assign ?body ?done)
    case assign =>
      rintro l pre x W K ⟨⟨hI, hYW⟩, hEx⟩ hK
      obtain ⟨⟨x0, x1⟩, hx⟩ := x
      gi_wp2
      exact hK _ _ ((KeepsOthers.alloc _ _).from _) (keepB_grown (World.grownBy_alloc W _ none) (by omega) (by omega) (by simp) (by simp)) ⟨⟨WI.grown hI (World.grownBy_alloc W _ none), by simp; omega⟩, hExG _ _ none hEx (World.grownBy_alloc W _ none) (fun r e => by cases e)⟩ ⟨W.heap.size, hYW, Blk.new W _ _, by first | rfl | simp⟩
    case body =>
      rintro l pre x Bx W ⟨⟨hI, hYW⟩, hEx⟩ hBx bX hlt
      obtain ⟨⟨n, hn, hM⟩, kS, kB, kW', hBel⟩ := hI
      obtain ⟨D, hown, hnd, hfit, hkeys⟩ := hM
      obtain ⟨⟨x0, x1⟩, hx⟩ := x
      have hlt2 : pre.length < 4194304 := by have := lineN_le n1 n1; omega
      have h11 : 1 ≤ 3 - 1 - 1 := by omega
      have hfn27 : Fence.wide.fn 33 := trivial
      have hsn := linePut_snoc ⟨ax, ay, st, sw, sh, sg⟩ id (en1) pre ⟨(x0, x1), hx⟩
      obtain ⟨en, hen⟩ : ∃ en, linePut ⟨ax, ay, st, sw, sh, sg⟩ id (en1) pre = en := ⟨_, rfl⟩
      rw [hen] at hnd hfit hkeys hsn
      obtain ⟨hk1, hk2⟩ := hkeys (x0, x1) hx
      obtain ⟨b2, hb2⟩ : ∃ b, hasK en (x0, x1) = b := ⟨_, rfl⟩
      obtain ⟨o, ho⟩ : ∃ o, (idOf en (x0, x1)).getD 0 = o := ⟨_, rfl⟩
      obtain ⟨b1, hb1⟩ : ∃ b, onS ⟨ax, ay, st, sw, sh, sg⟩ x0 x1 = b := ⟨_, rfl⟩
      rw [hb2] at hk1
      rw [ho] at hk2
      replace hk2 := Lib.hid hk2
      simp only [wput, hb1, hb2, ho] at hsn
      replace hb1 := Lib.hid hb1
      have hMH := Lib.hid (show MapIs W mb n en from ⟨D, hown, hnd, hfit, hkeys⟩)
      have hkH := Lib.hid hkeys
      clear hkeys hen hb2 ho
      have cB : W.cell? ⟨Bm, 0, none⟩ = some (.map (some mb)) := kB.cell 0
      have cW : W.cell? ⟨Bw, 0, none⟩ = some (.int .i64 id) := kW'.cell 0
      have cX0 : W.cell? ⟨Bx, 0, none⟩ = some (.int .i64 x0) := bX.cell 0
      have cX1 : W.cell? ⟨Bx, 1, none⟩ = some (.int .i64 x1) := bX.cell 1
      have c0 : W.cell? ⟨w.heap.size, 0, none⟩ = some (.int .i64 ax) := kS.cell 0
      have c1 : W.cell? ⟨w.heap.size, 1, none⟩ = some (.int .i64 ay) := kS.cell 1
      have c2 : W.cell? ⟨w.heap.size, 2, none⟩ = some (.int .i64 st) := kS.cell 2
      have c3 : W.cell? ⟨w.heap.size, 3, none⟩ = some (.int .i64 sw) := kS.cell 3
      have c4 : W.cell? ⟨w.heap.size, 4, none⟩ = some (.int .i64 sh) := kS.cell 4
      have c5 : W.cell? ⟨w.heap.size, 5, none⟩ = some (.int .i64 sg) := kS.cell 5
      have hend0 : ∀ (a9 : Act) p en2, linePut ⟨ax, ay, st, sw, sh, sg⟩ id (en1) (pre ++ [⟨(x0, x1), hx⟩]) = en2 → en = en2 → ownPostG Y.heap.size (KeepB X.heap.size (X.heap.size + 1)) (fun pre W => (WI ⟨ax, ay, st, sw, sh, sg⟩ id w w.heap.size mb Bm Bw (2097153) (wayC id bl) (en1) pre W ∧ Y.heap.size ≤ W.heap.size) ∧ EXF W) (fun _ _ _ => False) (pre ++ [⟨(x0, x1), hx⟩]) W Exit.normal a9 (W.growBy p) := by
        rintro a9 p en2 e1 rfl
        have hg := grownBy_growBy W p
        exact ⟨KeepsFrom.of_grownBy hg (fun j e => by cases e), keepB_grown hg (by omega) (by omega) (by simp) (by simp), ⟨⟨⟨n, by simp; omega, by rw [e1]; exact hMH.out.kept hg (by simp)⟩, kS.kept hg (by simp), kB.kept hg (by simp), kW'.kept hg (by simp), hBel.grown hg hBel.size (fun k e => by cases e)⟩, Nat.le_trans hYW hg.size⟩, hExG _ _ none hEx hg (fun r e => by cases e)⟩
      have hend1 : ∀ (a9 : Act) p w9, w9.ownsMap Tryz.prog 85 (plainElem Tryz.prog 3) mb (n + 1) (D.put (klS (x0, x1)) (.lit (.int .i64 id))) → (W.growBy p).grownBy w9 (some mb) → linePut ⟨ax, ay, st, sw, sh, sg⟩ id (en1) (pre ++ [⟨(x0, x1), hx⟩]) = putE en (x0, x1) id → ownPostG Y.heap.size (KeepB X.heap.size (X.heap.size + 1)) (fun pre W => (WI ⟨ax, ay, st, sw, sh, sg⟩ id w w.heap.size mb Bm Bw (2097153) (wayC id bl) (en1) pre W ∧ Y.heap.size ≤ W.heap.size) ∧ EXF W) (fun _ _ _ => False) (pre ++ [⟨(x0, x1), hx⟩]) W Exit.normal a9 w9 := by
        intro a9 p w9 hown9 hg9 e1
        have hg := grownBy_growBy W p
        have hne : ∀ b, mb ≠ b → (some mb : Option Nat) ≠ some b := fun b h e => h (by cases e; rfl)
        have hsz : W.heap.size ≤ (W.growBy p).heap.size := hg.size
        exact ⟨(KeepsFrom.of_grownBy hg (fun j e => by cases e)).trans (KeepsFrom.of_grownBy hg9 (fun j e => by cases e; exact yM)),
          keepB_t (keepB_grown hg (by omega) (by omega) (by simp) (by simp)) (keepB_grown hg9 (by omega) (by omega) (hne _ (by omega)) (hne _ (by omega))),
          ⟨⟨⟨n + 1, by simp; omega, by rw [e1]; exact MapIs.store (W := W) hown.isMap hnd hfit hkH.out hx hown9⟩, (kS.kept hg (by simp)).kept hg9 (hne _ hMs), (kB.kept hg (by simp)).kept hg9 (hne _ hMB), (kW'.kept hg (by simp)).kept hg9 (hne _ (by omega)), (hBel.grown hg hBel.size (fun k e => by cases e)).grown hg9 (Nat.le_trans hBel.size hsz) (fun k e => by cases e; exact hMge)⟩, Nat.le_trans (Nat.le_trans hYW hsz) hg9.size⟩, hExG _ _ _ (hExG _ _ none hEx hg (fun r e => by cases e)) hg9 (fun r e => by cases e; exact .inl rfl)⟩
      cases b1 with
      | false =>
        simp only [Bool.false_and, Bool.false_eq_true, if_false] at hsn
        replace hsn := Lib.hid hsn
        cases b2 <;>
        · gi_wp2_with (first | (gi_at_lookup; refine wpListIn_lookup_own_ok_int _ (by rfl) _ _ 80 (by rfl) 85 3 .i64 spotLaw Tryz.underlying80 Tryz.underlying3 (zeroInt _) mb n D (by rfl) hown (spotV (x0, x1)) (klS (x0, x1)) (by rfl) (keyOf_spot hx) ?_; intro c hat hwc; obtain rfl : c = o := (by rw [hk2.out] at hat; simpa using hat.symm); clear hat hwc; go_frame) | (gi_at_call 33; refine (CallsIn.inRound l ((callsIn_wide (n := 3 - 1 - 1 - 1)).2 (on_any ⟨ax, ay, st, sw, sh, sg⟩ x0 x1 _ _ hb1.out hs))).mono ?_; rintro e w' ⟨rfl, hb_⟩; obtain ⟨p, rfl⟩ := grow_of_below hb_; clear hb_) | gi_in)
          exact hend0 _ _ _ hsn.out rfl
      | true =>
        cases b2 with
        | false =>
          simp at hsn
          replace hsn := Lib.hid hsn
          gi_wp2_with (first | (gi_at_lookup; refine wpListIn_lookup_own_ok_int _ (by rfl) _ _ 80 (by rfl) 85 3 .i64 spotLaw Tryz.underlying80 Tryz.underlying3 (zeroInt _) mb n D (by rfl) hown (spotV (x0, x1)) (klS (x0, x1)) (by rfl) (keyOf_spot hx) ?_; intro c hat hwc; obtain rfl : c = o := (by rw [hk2.out] at hat; simpa using hat.symm); clear hat hwc; go_frame) | (gi_at_call 33; refine (CallsIn.inRound l ((callsIn_wide (n := 3 - 1 - 1 - 1)).2 (on_any ⟨ax, ay, st, sw, sh, sg⟩ x0 x1 _ _ hb1.out hs))).mono ?_; rintro e w' ⟨rfl, hb_⟩; obtain ⟨p, rfl⟩ := grow_of_below hb_; clear hb_) | (gi_at_mapUpdate; refine wpListIn_mapUpdate_own _ (by rfl) _ _ _ 80 (by rfl) 85 3 spotLaw Tryz.underlying80 _ mb n D (by rfl) (hown.kept (grownBy_growBy W p) (by simp)) (by unfold maxLen; omega) _ _ (klS (x0, x1)) (by rfl) (by rfl) (keyOf_spot hx) _ [] (plainElem_int Tryz.underlying3 (lit_wf hid)) ?_; intro w9 hown9 hgrow9) | gi_in)
          exact hend1 _ _ _ (by assumption) (by assumption) hsn.out
        | true =>
          by_cases hio : id < o
          · simp [hio] at hsn
            replace hsn := Lib.hid hsn
            gi_wp2_with (first | (gi_at_lookup; refine wpListIn_lookup_own_ok_int _ (by rfl) _ _ 80 (by rfl) 85 3 .i64 spotLaw Tryz.underlying80 Tryz.underlying3 (zeroInt _) mb n D (by rfl) hown (spotV (x0, x1)) (klS (x0, x1)) (by rfl) (keyOf_spot hx) ?_; intro c hat hwc; obtain rfl : c = o := (by rw [hk2.out] at hat; simpa using hat.symm); clear hat hwc; go_frame) | (gi_at_call 33; refine (CallsIn.inRound l ((callsIn_wide (n := 3 - 1 - 1 - 1)).2 (on_any ⟨ax, ay, st, sw, sh, sg⟩ x0 x1 _ _ hb1.out hs))).mono ?_; rintro e w' ⟨rfl, hb_⟩; obtain ⟨p, rfl⟩ := grow_of_below hb_; clear hb_) | (gi_at_mapUpdate; refine wpListIn_mapUpdate_own _ (by rfl) _ _ _ 80 (by rfl) 85 3 spotLaw Tryz.underlying80 _ mb n D (by rfl) (hown.kept (grownBy_growBy W p) (by simp)) (by unfold maxLen; omega) _ _ (klS (x0, x1)) (by rfl) (by rfl) (keyOf_spot hx) _ [] (plainElem_int Tryz.underlying3 (lit_wf hid)) ?_; intro w9 hown9 hgrow9) | gi_in)
            exact hend1 _ _ _ (by assumption) (by assumption) hsn.out
          · simp [hio] at hsn
            replace hsn := Lib.hid hsn
            gi_wp2_with (first | (gi_at_lookup; refine wpListIn_lookup_own_ok_int _ (by rfl) _ _ 80 (by rfl) 85 3 .i64 spotLaw Tryz.underlying80 Tryz.underlying3 (zeroInt _) mb n D (by rfl) hown (spotV (x0, x1)) (klS (x0, x1)) (by rfl) (keyOf_spot hx) ?_; intro c hat hwc; obtain rfl : c = o := (by rw [hk2.out] at hat; simpa using hat.symm); clear hat hwc; go_frame) | (gi_at_call 33; refine (CallsIn.inRound l ((callsIn_wide (n := 3 - 1 - 1 - 1)).2 (on_any ⟨ax, ay, st, sw, sh, sg⟩ x0 x1 _ _ hb1.out hs))).mono ?_; rintro e w' ⟨rfl, hb_⟩; obtain ⟨p, rfl⟩ := grow_of_below hb_; clear hb_) | gi_in)
            exact hend0 _ _ _ hsn.out rfl
    case done =>
      rintro D2 ys W4 hD2 rfl ⟨⟨hI, hYW⟩, hEx⟩ hK2
      rw [hEF] at hEx
      obtain ⟨en2, hen2⟩ : ∃ en, linePut ⟨ax, ay, st, sw, sh, sg⟩ id en1 (upto (lineS (i1, j1) (i1, j1)) (lineN (i1, j1) (i1, j1) + 1).toNat) = en := ⟨_, rfl⟩
      have hys2 : (upto (lineS (i1, j1) (i1, j1)) (lineN (i1, j1) (i1, j1) + 1).toNat).length ≤ 2097153 := by rw [upto_length]; exact lineN_le n1 n1
      have hl2 : en2.length ≤ 4194306 := by rw [← hen2]; have := linePut_length ⟨ax, ay, st, sw, sh, sg⟩ id (upto (lineS (i1, j1) (i1, j1)) (lineN (i1, j1) (i1, j1) + 1).toNat) en1; omega
      obtain ⟨⟨n, hn, hM⟩, h1, h2, h3, h4⟩ := hI
      rw [hen2] at hM
      have cB : W4.cell? ⟨Bm, 0, none⟩ = some (.map (some mb)) := h2.cell 0
      have hfin : wayE ⟨ax, ay, st, sw, sh, sg⟩ id (px, py) (qx, qy) = en2 := by
        unfold wayE lineL dotOf
        simp only
        rw [hi0.out, hj0.out, hi1.out, hj1.out, hen1, hen2]
      have hord := ordered_any 2 mb n en2 W4 hM (by omega) (by rw [← hfin]; exact hne) (by omega)
      have lD2 : D2 < W4.heap.size := (Array.getElem?_eq_some_iff.1 hK2).1
      have hDD : D1 ≠ D2 := by omega
      replace hfin := Lib.hid hfin
      clear hExG hEx0 hEF kIY kA kBb
      go_wp2_with fail
      rw [rounds_succ]
      go_wp2_with fail
      rw [rounds_succ]
      go_wp2_with (go_at_call 34; refine hord.mono ?_; rintro e w9 ⟨v, base, rfl, hbase, hrow, hb9⟩)
      have hK2' := (hb9.block D2 lD2).trans hK2
      have hK1' := (hb9.block D1 (Array.getElem?_eq_some_iff.1 hEx).1).trans hEx
      have hK1'' := (World.putObj_heap_other (o := .deferred none) (w := w9) hDD).trans hK1'
      have hB9 : Below w.heap.size w w9 := h4.trans (hb9.mono h4.size)
      have hg1 := grownBy_putObj' w9 D2 (.deferred none)
      have hr1 := ownsRow_turn hrow hg1 (fun r e => by cases e; exact ⟨_, hK2', fun cur e => by cases e⟩)
      have hg2 := grownBy_putObj' (w9.putObj D2 (.deferred none)) D1 (.deferred none)
      have hr2 := ownsRow_turn hr1 hg2 (fun r e => by cases e; exact ⟨_, hK1'', fun cur e => by cases e⟩)
      have hB10 := (hB9.grown hg1 hB9.size (fun k e => by cases e; omega)).grown hg2 (Nat.le_trans hB9.size hg1.size) (fun k e => by cases e; omega)
      refine ⟨by simp, .inl ⟨_, _, rfl, run_takeDeferred hK2', ?_⟩⟩
      refine ⟨by simp, .inl ⟨_, _, rfl, run_takeDeferred hK1'', ?_⟩⟩
      rw [hfin.out]
      exact ⟨_, results_tmp rfl _ _ _, v, base, rfl, Nat.le_trans h4.size hbase, hr2, hB10⟩
end Go.Proofs.YtjfdbigkbgolmaaGreatDoor
