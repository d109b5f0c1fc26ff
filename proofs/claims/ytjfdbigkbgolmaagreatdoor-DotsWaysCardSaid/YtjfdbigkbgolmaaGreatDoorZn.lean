/-
  Maps keyed by dots whose values are bytes (as K0's, whose values are ints).
  slices.Backward over dots: the iterator's contract.
  Chapter 29: the worlds of the walk of dots.Row: the map of bytes.
-/
import Derived.Test.YtjfdbigkbgolmaaGreatDoorZc
import Derived.Test.YtjfdbigkbgolmaaGreatDoorZe
import Derived.Test.YtjfdbigkbgolmaaGreatDoorZS
import Derived.Test.YtjfdbigkbgolmaaGreatDoorZh
import Derived.Test.YtjfdbigkbgolmaaGreatDoorZx
import Derived.Test.YtjfdbigkbgolmaaGreatDoorZg

namespace Go.Proofs.YtjfdbigkbgolmaaGreatDoor
set_option linter.unusedVariables false
set_option linter.unusedSimpArgs false
open Go.RowKit Go.Maps
/-- block b of W is a map of at most n entries that holds just the entries l -/
def MapB (W : World) (b n : Nat) (l : List (Spot × Int)) : Prop :=
  ∃ (D : DataW Unit), W.ownsMap Tryz.prog 85 (plainElem Tryz.prog 5) b n D ∧ (l.map (·.1)).Nodup ∧ (∀ e ∈ l, FitS e.1) ∧
    ∀ p, FitS p → has D (klS p) = hasK l p ∧ D.atKey (klS p) (.lit (.int .u8 0)) = .lit (.int .u8 ((idOf l p).getD 0))

theorem MapB.kept {W W' : World} {b n : Nat} {l : List (Spot × Int)} {row : Option Nat} (h : MapB W b n l) (hg : W.grownBy W' row) (hr : row ≠ some b) : MapB W' b n l := by
  obtain ⟨D, ho, h1, h2, h3⟩ := h
  exact ⟨D, ho.kept hg (fun e => hr e.symm), h1, h2, h3⟩
theorem MapB.lt {W : World} {b n : Nat} {l : List (Spot × Int)} (h : MapB W b n l) : b < W.heap.size := by
  obtain ⟨D, ho, -⟩ := h
  exact ho.lt
theorem MapB.alloc {W : World} {b n : Nat} {l : List (Spot × Int)} (h : MapB W b n l) (o : Obj) : MapB (W.alloc o) b n l := h.kept (World.grownBy_alloc W o none) (by simp)
theorem MapB.below {W W' : World} {b n n₀ : Nat} {l : List (Spot × Int)} (h : MapB W b n l) (hb : Below n₀ W W') (hB : b < n₀) : MapB W' b n l := by
  obtain ⟨D, ⟨es, clock, he, r⟩, h1, h2, h3⟩ := h
  exact ⟨D, ⟨es, clock, (hb.block b hB).trans he, r⟩, h1, h2, h3⟩
theorem MapB.made (W : World) : MapB (W.alloc (.map #[] 0)) W.heap.size 0 [] :=
  ⟨.map [], World.ownsMap_made W _ _ _, by simp, by simp, fun p _ => ⟨rfl, rfl⟩⟩

/-- a store -/
theorem MapB.store {W W' : World} {b n : Nat} {l : List (Spot × Int)} {D : DataW Unit} {p : Spot} {x : Int} (hD : IsMap D) (h1 : (l.map (·.1)).Nodup) (h2 : ∀ e ∈ l, FitS e.1)
    (h3 : ∀ p, FitS p → has D (klS p) = hasK l p ∧ D.atKey (klS p) (.lit (.int .u8 0)) = .lit (.int .u8 ((idOf l p).getD 0))) (hp : FitS p)
    (ho : W'.ownsMap Tryz.prog 85 (plainElem Tryz.prog 5) b n (D.put (klS p) (.lit (.int .u8 x)))) : MapB W' b n (putE l p x) := by
  refine ⟨_, ho, ?_, ?_, fun q hq => ?_⟩
  · rw [putE_keys]
    split
    · exact h1
    · rename_i h
      rw [List.nodup_append]
      refine ⟨h1, by simp, fun a ha c hc => ?_⟩
      obtain rfl : c = p := by simpa using hc
      exact fun e => h (hasK_iff.2 (e ▸ ha))
  · intro e he
    have : e.1 ∈ (putE l p x).map (·.1) := List.mem_map.2 ⟨e, he, rfl⟩
    rw [putE_keys] at this
    split at this
    · obtain ⟨e', he', h⟩ := List.mem_map.1 this
      rw [← h]; exact h2 e' he'
    · rcases List.mem_append.1 this with h | h
      · obtain ⟨e', he', h⟩ := List.mem_map.1 h
        rw [← h]; exact h2 e' he'
      · rw [show e.1 = p by simpa using h]; exact hp
  · have hk := spotLaw.key (keyOf_spot hp)
    rw [hasK_put, idOf_put]
    by_cases hqp : q = p
    · subst hqp
      simp [has_put_same hD hk, atKey_put_same hD hk]
    · have hne : klS q ≠ klS p := fun e => hqp (klS_inj hq hp e)
      simp [has_put_other hne, atKey_put_other hne, hqp, h3 q hq]

theorem zeroByte (w : World) : (zeroValue 5).run Tryz.prog w = .ok (.int .u8 0) w := by kernel_rfl
theorem byte_wf {n : Int} (h0 : 0 ≤ n) (h1 : n ≤ 255) : (Lit.int .u8 n).wf = true := by
  simp [Lit.wf, IntKind.min, IntKind.max, IntKind.signed, IntKind.bits]
  omega
/-- what Row's map holds behind the dots of a list, the last one first -/
def rowE : List Dt → List (Spot × Int)
  | [] => []
  | d :: l => putE (rowE l) (d.x, d.y) ((chr d).toNat : Int)
theorem rowE_idOf (x y : Int) : ∀ l : List Dt, idOf (rowE l) (x, y) = (l.find? (fun d => d.x == x && d.y == y)).map (fun d => ((chr d).toNat : Int))
  | [] => rfl
  | d :: l => by
    rw [rowE, idOf_put, rowE_idOf x y l, List.find?_cons]
    by_cases h : d.x = x ∧ d.y = y
    · simp [h]
    · have h2 : (d.x == x && d.y == y) = false := by
        simp only [Bool.and_eq_false_iff, beq_eq_false_iff_ne]
        by_cases h3 : d.x = x
        · exact .inr fun e => h ⟨h3, e⟩
        · exact .inl h3
      have h4 : ¬ ((x, y) = (d.x, d.y)) := fun e => h ⟨(congrArg Prod.fst e).symm, (congrArg Prod.snd e).symm⟩
      rw [if_neg h4]
      simp only [h2]
theorem hasK_idOf8 (en : List (Spot × Int)) (p : Spot) : hasK en p = (idOf en p).isSome := by
  unfold hasK idOf
  rw [Option.isSome_map, Bool.eq_iff_iff, List.find?_isSome, List.any_eq_true]
/-- the byte that Row writes at a dot -/
theorem rowE_byte (l : List Dt) (x y : Int) : (if hasK (rowE l) (x, y) then (idOf (rowE l) (x, y)).getD 0 else 46) = ((rowC l x y).toNat : Int) := by
  rw [hasK_idOf8, rowE_idOf]
  unfold rowC
  cases l.find? (fun d => d.x == x && d.y == y) <;> simp
theorem putE_twice (l : List (Spot × Int)) (p : Spot) (x y : Int) : putE (putE l p x) p y = putE l p y := by
  have h1 : hasK (putE l p x) p = true := by rw [hasK_put]; simp
  show (if hasK (putE l p x) p = true then (putE l p x).map (fun e => if e.1 == p then (p, y) else e) else putE l p x ++ [(p, y)]) = putE l p y
  rw [if_pos h1]
  unfold putE
  split
  · rw [List.map_map]
    refine List.map_congr_left fun e _ => ?_
    simp only [Function.comp]
    split
    · simp
    · first | rfl | (rename_i h; rw [if_neg h])
  · rename_i h
    rw [List.map_append]
    congr 1
    · conv => rhs; rw [← List.map_id l]
      refine List.map_congr_left fun e he => ?_
      rw [if_neg (fun e' => h (hasK_iff.2 (List.mem_map.2 ⟨e, he, by simpa using e'⟩)))]
      rfl
    · simp
theorem putE_length8 (l : List (Spot × Int)) (p : Spot) (x : Int) : (putE l p x).length ≤ l.length + 1 := by unfold putE; split <;> simp
end Go.Proofs.YtjfdbigkbgolmaaGreatDoor
namespace Go.Proofs.YtjfdbigkbgolmaaGreatDoor
set_option linter.unusedVariables false
set_option linter.unusedSimpArgs false
open Go.RowKit Go.Shelf
attribute [local go_sem] Oper.semAt_some

abbrev NDt := { d : Dt // FitS (d.x, d.y) }
instance : Inhabited NDt := ⟨⟨⟨0, 0, 0, 0⟩, by constructor <;> constructor <;> decide⟩⟩
abbrev encB (x : Nat × NDt) : Array Value := #[.int .i64 (x.1 : Int), .agg #[.int .i64 x.2.1.x, .int .i64 x.2.1.y, .int .i64 x.2.1.k, .int .i64 x.2.1.i]]
def backS (Lf : List NDt) (t : Nat) : Nat × NDt := (Lf.length - 1 - t, Lf.getD (Lf.length - 1 - t) default)
theorem DtRow.same {W W' : World} {b o : Nat} {d : Dt} (h : W'.heap[b]? = W.heap[b]?) (r : DtRow W b o d) : DtRow W' b o d :=
  ⟨(World.cell?_of_block (a := ⟨b, o, none⟩) h).trans r.c0, (World.cell?_of_block (a := ⟨b, o + 1, none⟩) h).trans r.c1, (World.cell?_of_block (a := ⟨b, o + 2, none⟩) h).trans r.c2, (World.cell?_of_block (a := ⟨b, o + 3, none⟩) h).trans r.c3⟩

set_option maxRecDepth 100000 in
set_option maxHeartbeats 4000000 in
theorem back1_in (n : Nat) (hn : 1 ≤ n) (l Bs bb : Nat) (a : Option Addr) (cap : Nat) (Lf : List NDt) (J Jx : List (Nat × NDt) → World → Prop)
    (hY : ∀ pre (x : Nat × NDt) W, J pre W → pre.length < Lf.length → YieldAt Fence.wide (n - 1) Tryz.prog l (encB x) W fun e W' =>
      (e = .returned (.bool true) ∧ J (pre ++ [x]) W' ∧ (W'.heap[Bs]? = W.heap[Bs]? ∧ W'.heap[bb]? = W.heap[bb]?)) ∨ (e = .returned (.bool false) ∧ Jx (pre ++ [x]) W'))
    (W : World) (kS : Blk W Bs #[.slice a Lf.length cap] 42) (hrows : ∀ j, (h : j < Lf.length) → ∃ off, a = some ⟨bb, off, none⟩ ∧ DtRow W bb (off + j * 4) Lf[j].1) (hl : Lf.length ≤ 100000) (h0 : J [] W) :
    CallsIn Fence.wide n Tryz.prog 96 #[.func (.yield l) #[] #[], .pointer (some ⟨Bs, 0, none⟩)] W fun e W' => (∃ v, e = .returned v) ∧
      ((∃ ys, ys = upto (backS Lf) Lf.length ∧ J ys W') ∨ (∃ pre, True ∧ Jx pre W')) := by
  have c0 : W.cell? ⟨Bs, 0, none⟩ = some (.slice a Lf.length cap) := kS.cell 0
  have hlI : (Lf.length : Int) ≤ 100000 := by omega
  refine callsIn_of_wp Tryz.func96 rfl trivial ?_ rfl
  simp only [Tryz.ntmps96, List.size_toArray, List.length_cons, List.length_nil, Nat.reduceAdd, Nat.reduceSub, Array.replicate_succ, Array.replicate_zero, List.push_toArray, List.append_toArray, List.nil_append, List.cons_append]
  gi_wp2
  gi_loopw [3] (fun i wr => ∃ t : Nat, t ≤ Lf.length ∧ i = .int .i64 ((Lf.length : Int) - 1 - t) ∧ J (upto (backS Lf) t) wr ∧ Blk wr Bs #[.slice a Lf.length cap] 42 ∧ ∀ j, (h : j < Lf.length) → ∃ off, a = some ⟨bb, off, none⟩ ∧ DtRow wr bb (off + j * 4) Lf[j].1)
    (fun i _ => (intOf i + 1).toNat)
  case atStart => exact ⟨0, by omega, by simp, h0, kS, hrows⟩
  case round =>
    clear hrows
    obtain ⟨t, ht, rfl, hJs, kS2, hrows⟩ := hrel
    have c0 : wr.cell? ⟨Bs, 0, none⟩ = some (.slice a Lf.length cap) := kS2.cell 0
    by_cases hlt : t < Lf.length
    · obtain ⟨j, hj⟩ : ∃ j : Nat, Lf.length - 1 - t = j := ⟨_, rfl⟩
      have hjI : (Lf.length : Int) - 1 - t = (j : Nat) := by omega
      have hjl : j < Lf.length := by omega
      have hjlI : (j : Int) < (Lf.length : Int) := by omega
      have hj0 : 0 ≤ (j : Int) := by omega
      rw [hjI]
      obtain ⟨off, rfl, r0, r1, r2, r3⟩ := hrows j hjl
      have hb : backS Lf t = (j, Lf[j]) := by
        unfold backS
        rw [hj, List.getD_eq_getElem?_getD, List.getElem?_eq_getElem hjl]
        rfl
      obtain ⟨fn, tmps, assign, body, hy, hR⟩ := hY _ (backS Lf t) wr hJs (by rw [upto_length]; exact hlt)
      rw [hb] at hy hR
      have hsn := upto_succ (backS Lf) t
      rw [hb] at hsn
      obtain ⟨x, hx⟩ : ∃ x, Lf[j] = x := ⟨_, rfl⟩
      rw [hx] at r0 r1 r2 r3 hy hR hsn
      obtain ⟨⟨dx, dy, dk, di⟩, hfit⟩ := x
      simp only [encB] at r0 r1 r2 r3 hy hR
      replace hsn := Lib.hid hsn
      replace hrows := Lib.hid hrows
      clear hx hb hj
      gi_wp2
      refine hR.mono ?_
      rintro e W4 (⟨rfl, hJ4, e5, e6⟩ | ⟨rfl, hJx⟩)
      · gi_wp2
        go_roundw
        case rel => exact ⟨t + 1, by omega, by congr 1; omega, by rw [hsn.out]; exact hJ4, e5.trans kS2, fun j hj => by
          obtain ⟨off, e, r⟩ := hrows.out j hj
          exact ⟨off, e, r.same e6⟩⟩
        case measure => simp [intOf]; try omega
      · gi_wp2
        refine bodyPost_ret (results_none rfl _ _ _) rfl ?_
        exact ⟨⟨_, rfl⟩, .inr ⟨_, trivial, hJx⟩⟩
    · obtain rfl : t = Lf.length := by omega
      have hneg : (Lf.length : Int) - 1 - (Lf.length : Nat) = -1 := by omega
      rw [hneg]
      gi_wp2
      go_end0
      exact ⟨⟨_, rfl⟩, .inl ⟨_, rfl, hJs⟩⟩
theorem back_stops (n : Nat) (hn : 1 ≤ n) (Bs bb : Nat) (a : Option Addr) (cap : Nat) (Lf : List NDt) (w : World) (hbb : bb < w.heap.size)
    (kS : Blk w Bs #[.slice a Lf.length cap] 42) (hrows : ∀ j, (h : j < Lf.length) → ∃ off, a = some ⟨bb, off, none⟩ ∧ DtRow w bb (off + j * 4) Lf[j].1) (hl : Lf.length ≤ 100000) :
    SeqStopsK Fence.wide n Tryz.prog 96 #[.pointer (some ⟨Bs, 0, none⟩)] encB (KeepB Bs bb) (fun ys => ys = upto (backS Lf) Lf.length) (fun _ => True) Lf.length w := fun l J Jx W hW hJ _ hY h0 =>
  back1_in n hn l Bs bb a cap Lf J Jx hY W (kS.below hW kS.lt) (fun j hj => by
    obtain ⟨off, e, r⟩ := hrows j hj
    exact ⟨off, e, r.same (hW.block bb hbb)⟩) hl h0
theorem back_any (a : Option Addr) (len cap : Nat) (w : World) :
    Calls Tryz.prog 53 #[.slice a len cap] w fun e w' => e = .returned (.func (.func 96) #[] #[.pointer (some ⟨w.heap.size, 0, none⟩)]) ∧
      w' = w.alloc (.cells #[.slice a len cap] 42) := by
  go_enter Tryz.func53, Tryz.ntmps53
  go_wp2_with fail
  go_ret
  exact ⟨rfl, rfl⟩
end Go.Proofs.YtjfdbigkbgolmaaGreatDoor
namespace Go.Proofs.YtjfdbigkbgolmaaGreatDoor
set_option linter.unusedVariables false
set_option linter.unusedSimpArgs false
open Go.RowKit Go.Shelf Go.Maps

/-- wpIn_rangeFunc_box for a sequence of pairs, the second of which is boxed -/
theorem wpIn_rangeFunc_box2 {F : Fence} {n : Nat} {P : Program} {α : Type} {g : Operand} {ps : Array Tmp} {assign body : Code} {Q : Exit → Act → World → Prop} {a : Act} {w : World} (s1 s2 sbox : Nat) (e1 e2 : α → Value) (encC : α → Array Value) (ty : TypeId)
    (hro : F.round = none) (h1 : 1 ≤ n) {gf : Nat} {lb : Array Value} (hg : a.eval g = .func (.func gf) #[] lb) (hFg : F.fn gf) (eg : ∀ args w, (callFunc gf args).run P w = .ok (.enter gf args) w)
    {encs : α → Array Value} {Kp : World → World → Prop} {S Sp : List α → Prop} {N : Nat} {w0 : World} (hseq : SeqStopsK F (n - 1) P gf lb encs Kp S Sp N w0)
    (hKt : ∀ {A B C : World}, Kp A B → Kp B C → Kp A C) (hKb : ∀ (W : World) (l : Nat) (o o' : Obj), w.heap.size ≤ l → W.heap[l]? = some o → o.isCells = false → o.isWalk = false → Kp W (W.putObj l o')) (hb0 : Below w0.heap.size w0 w) (hps : ∀ x, (encs x).size = ps.size)
    (I : List α → World → Prop) (hI : OwnFrom w.heap.size I) (h0 : I [] w)
    (hassign : ∀ (l : Nat) (pre : List α) (x : α) (W : World) (K : Act → World → Prop), I pre W → (∀ a' W', KeepsFrom w.heap.size W W' → Kp W W' → I pre W' → (∃ Bx, w.heap.size ≤ Bx ∧ Blk W' Bx (encC x) ty ∧ a' = { tmps := ((a.tmps.setIfInBounds s1 (e1 x)).setIfInBounds s2 (e2 x)).setIfInBounds sbox (.pointer (some ⟨Bx, 0, none⟩)), defers := [] }) → K a' W') →
      assign.wpIn (F.inRound l) (n - 1 - 1) P (Exit.then K (fun _ _ _ => False)) { tmps := (ps.zip (encs x)).foldl (fun t (p, v) => t.setIfInBounds p v) a.tmps, defers := [] } W)
    (hbody : ∀ (l : Nat) (pre : List α) (x : α) (Bx : Nat) (W : World), I pre W → w.heap.size ≤ Bx → Blk W Bx (encC x) ty → pre.length < N → body.wpIn (F.inRound l) (n - 1 - 1) P (ownPostG w.heap.size Kp I (fun _ _ _ => False) (pre ++ [x]) W) { tmps := ((a.tmps.setIfInBounds s1 (e1 x)).setIfInBounds s2 (e2 x)).setIfInBounds sbox (.pointer (some ⟨Bx, 0, none⟩)), defers := [] } W)
    (hdone : ∀ (D : Nat) (xs : List α) (W : World), w.heap.size ≤ D → S xs → I xs W → W.heap[D]? = some (.deferred (some [])) → Q .normal { a with defers := { target := .collected D, args := #[] } :: a.defers } W) :
    (Code.rangeFunc g ps assign body).wpIn F n P Q a w :=
  wpIn_rangeFunc_ownH hro h1 hg hFg eg hseq hKt hKb hb0 hps I (fun _ _ _ => False) hI (fun _ => ownFrom_pure _ _) h0
    (fun x a' W => ∃ Bx, w.heap.size ≤ Bx ∧ Blk W Bx (encC x) ty ∧ a' = { tmps := ((a.tmps.setIfInBounds s1 (e1 x)).setIfInBounds s2 (e2 x)).setIfInBounds sbox (.pointer (some ⟨Bx, 0, none⟩)), defers := [] })
    (fun x a' _ X Y row hs hg hr => by obtain ⟨Bx, k1, k2, k3⟩ := hs; exact ⟨Bx, k1, blk_own Bx ty (fun (_ : Unit) => encC x) () X Y row k2 hg (fun r e => (hr r e).2), k3⟩)
    hassign (fun l pre x a' W _ _ hi hax hl => by obtain ⟨Bx, k1, k2, rfl⟩ := hax; exact hbody l pre x Bx W hi k1 k2 hl) hdone (fun _ _ _ _ _ _ hF _ => hF.elim)

/-- the entries behind what has come -/
def preE (pre : List (Nat × NDt)) : List (Spot × Int) := pre.foldl (fun en x => putE en (x.2.1.x, x.2.1.y) ((chr x.2.1).toNat : Int)) []
theorem preE_snoc (pre : List (Nat × NDt)) (x : Nat × NDt) : preE (pre ++ [x]) = putE (preE pre) (x.2.1.x, x.2.1.y) ((chr x.2.1).toNat : Int) := by
  unfold preE
  rw [List.foldl_append]
  rfl
theorem preE_upto (Lf : List NDt) : ∀ t, t ≤ Lf.length → preE (upto (backS Lf) t) = rowE ((Lf.map (·.1)).drop (Lf.length - t))
  | 0, _ => by simp [upto, preE, rowE, List.drop_of_length_le]
  | t + 1, h => by
    have hj : Lf.length - (t + 1) < Lf.length := by omega
    rw [upto_succ, preE_snoc, preE_upto Lf t (by omega)]
    have e1 : backS Lf t = (Lf.length - (t + 1), Lf[Lf.length - (t + 1)]) := by
      unfold backS
      rw [show Lf.length - 1 - t = Lf.length - (t + 1) from by omega, List.getD_eq_getElem?_getD, List.getElem?_eq_getElem hj]
      rfl
    rw [e1, List.drop_eq_getElem_cons (i := Lf.length - (t + 1)) (by rw [List.length_map]; exact hj), show Lf.length - (t + 1) + 1 = Lf.length - t from by omega, rowE]
    simp
theorem preE_all (Lf : List NDt) : preE (upto (backS Lf) Lf.length) = rowE (Lf.map (·.1)) := by
  rw [preE_upto Lf _ (Nat.le_refl _), Nat.sub_self, List.drop_zero]

/-- the worlds of the loop over the dots -/
structure RI (w : World) (s : Sh) (Bs mb Bm : Nat) (pre : List (Nat × NDt)) (W : World) : Prop where
  map : ∃ n, n ≤ pre.length * 2 ∧ MapB W mb n (preE pre)
  sheet : Blk W Bs #[.int .i64 s.ax, .int .i64 s.ay, .int .i64 s.st, .int .i64 s.w, .int .i64 s.h, .int .i64 s.g] 29
  box : Blk W Bm #[.map (some mb)] 107
  below : Below w.heap.size w W
theorem RI.own {w : World} {s : Sh} {Bs mb Bm B : Nat} (hs : Bs < B) (hm : mb < B) (hb : Bm < B) (hB : w.heap.size ≤ B) : OwnFrom B (RI w s Bs mb Bm) := fun pre X Y row h hg hr => by
  have hne : ∀ b, b < B → row ≠ some b := fun b hb e => by have := (hr b e).1; omega
  obtain ⟨⟨n, hn, hM⟩, h1, h2, h4⟩ := h
  exact ⟨⟨n, hn, hM.kept hg (hne _ hm)⟩, h1.kept hg (hne _ hs), h2.kept hg (hne _ hb), h4.grown hg h4.size (fun k e => Nat.le_trans hB (hr k e).1)⟩
theorem RI.grown {w W W' : World} {s : Sh} {Bs mb Bm : Nat} {pre : List (Nat × NDt)} (h : RI w s Bs mb Bm pre W) (hg : W.grownBy W' none) : RI w s Bs mb Bm pre W' := by
  obtain ⟨⟨n, hn, hM⟩, h1, h2, h4⟩ := h
  exact ⟨⟨n, hn, hM.kept hg (by simp)⟩, h1.kept hg (by simp), h2.kept hg (by simp), h4.grown hg h4.size (fun k e => by cases e)⟩
end Go.Proofs.YtjfdbigkbgolmaaGreatDoor
