/-
  Chapter 24: the iterator of relabel.reached, walked.
  Chapter 24: the blocks that the body of relabel.Reach's loop may turn, and what it carries.
-/
import Derived.Test.YtikojanpbbiaiaaZi
import Derived.WalkKit
import Derived.OwnWalkIn
import Derived.TacticsInMore
import Derived.RegionIn
import Derived.LoopNIn
import Derived.LoopIn
namespace Go.Proofs.Ytikojanpbbiaiaa
set_option linter.unusedVariables false
set_option linter.unusedSimpArgs false
open Go.RowKit Go.Shelf Go.Maps
attribute [local go_sem] Oper.semAt_some
attribute [local go_sem ↓] Go.wp_at_zero Go.wp_at_succ

theorem places_eq {v : Value} {l : List Lb} {n0 : Nat} (w : World) (h : Lst lbE n0 w v l) (hn : n0 ≤ w.heap.size) (hl : l.length ≤ 100000) (hok : ∀ x ∈ l, LbKey x) : Calls Try.prog 62 #[v] w fun e w' => PlR w l e w' := places_any v l w (h.mono hn) hl hok
theorem mk_bools (n : Nat) (hn : n ≤ 1000) (W : World) : ∃ an : Array Value, (Instr.makeSlice 119 (.int .i64 (n : Int)) (.int .i64 (n : Int))).run Try.prog W = .ok (.slice (some ⟨W.heap.size, 0, none⟩) n n) (W.alloc (.cells an 4)) ∧ an.size = n ∧ ∀ i, i < n → an[i]? = some (.bool false) := by
  obtain ⟨i, z, hi, hz, hsz, hby, hzs⟩ : ∃ i z, Try.prog.info? 4 = some i ∧ i.zero = some z ∧ i.size = 1 ∧ i.bytes ≤ 1000 ∧ z = .bool false := by
    obtain ⟨i, hi, h1, h2, h3⟩ := info_parts (P := Try.prog) (e := 4) (z := .bool false) (size := 1) (bytes := 1) (by kernel_rfl)
    exact ⟨i, _, hi, h1, h2, by omega, rfl⟩
  subst hzs
  have hb : (i.bytes : Int) * (n : Int) ≤ 281474976710656 := by
    have : i.bytes * n ≤ 1000 * 1000 := Nat.mul_le_mul hby hn
    have h2 : ((i.bytes * n : Nat) : Int) ≤ 1000000 := by omega
    rw [Int.natCast_mul] at h2
    omega
  have hr := run_make (P := Try.prog) W 119 4 i (.bool false) Try.underlying119 hi hz .i64 .i64 n n (by omega) (Int.le_refl _) hb (by omega)
  refine ⟨_, by simpa using hr, ?_, fun j hj => ?_⟩
  · rw [size_madeCells, hsz]
    simp
  · rw [hsz]
    simp [madeCells, hj, Value.cells, Nat.mod_one]
set_option maxRecDepth 100000 in
set_option maxHeartbeats 4000000 in
theorem reached1_in (n : Nat) (hn1 : 1 ≤ n) (l n0 B1 B2 : Nat) (vo vn : Value) (old next : List Lb) (C : World → Nat → Prop) (J : List Nat → World → Prop) (W : World)
    (hCb : ∀ s A A' row k, J s A → A.grownBy A' row → (∀ r, row = some r → ¬ C A r) → C A' k → C A k)
    (hY : ∀ pre (x : Nat) W, J pre W → pre.length < next.length → x < next.length → YieldAt Fence.wide (n - 1) Try.prog l #[.int .i64 (x : Nat)] W fun e W' => e = .returned (.bool true) ∧ J (pre ++ [x]) W' ∧ KeepC C W W')
    (hJ : ∀ s A A' row, J s A → A.grownBy A' row → (∀ r, row = some r → W.heap.size ≤ r ∧ ¬ C A r) → J s A')
    (k1 : Blk W B1 #[vo] 33) (k2 : Blk W B2 #[vn] 33) (ho : Lst lbE n0 W vo old) (hn : Lst lbE n0 W vn next) (hnc : ∀ k, k < n0 ∨ k = B1 ∨ k = B2 → ¬ C W k) (hn0 : n0 ≤ W.heap.size) (hC0 : ∀ k, C W k → k < W.heap.size)
    (hol : old.length ≤ 1000) (hnl : next.length ≤ 1000) (hok : ∀ x ∈ old, LbKey x) (hnk : ∀ x ∈ next, LbKey x) (h0 : J [] W) :
    CallsIn Fence.wide n Try.prog 61 #[.func (.yield l) #[] #[], .pointer (some ⟨B1, 0, none⟩), .pointer (some ⟨B2, 0, none⟩)] W fun e W' => (∃ v, e = .returned v) ∧ ∃ xs, xs = reachI old next next.length ∧ J xs W' := by
  obtain ⟨ao, co, rfl, -⟩ := ho.form
  obtain ⟨an0, cn, rfl, -⟩ := hn.form
  have c1 : W.cell? ⟨B1, 0, none⟩ = some (.slice ao old.length co) := k1.cell 0
  refine callsIn_of_wp Try.func61 rfl trivial ?_ rfl
  simp only [Try.ntmps61, List.size_toArray, List.length_cons, List.length_nil, Nat.reduceAdd, Nat.reduceSub, Array.replicate_succ, Array.replicate_zero, List.push_toArray, List.append_toArray, List.nil_append, List.cons_append]
  refine wpIn_wide.2 ?_
  have cP1 := places_eq W ho hn0 (by omega) hok
  go_upto_region 1 with (first
    | (go_at_call 62; (with_reducible refine cP1.mono ?_); rintro e w5 ⟨ma, nn, en, rfl, hma, hM5, hA, hb5⟩)
    | fail)
  have hz5 := hb5.size
  obtain ⟨o, ho_⟩ : ∃ o, decide (old.map Lb.id).Nodup = o := ⟨_, rfl⟩
  rw [ho_]
  have hoe : o = !twiceL old := by rw [← ho_]; unfold twiceL; simp
  have k4 := (Blk.new w5 #[.map (some ma)] 116).alloc (.cells #[.bool o] 4)
  have k5 := Blk.new (w5.alloc (.cells #[.map (some ma)] 116)) #[.bool o] 4
  have hM6 := (hM5.alloc (.cells #[.map (some ma)] 116)).alloc (.cells #[.bool o] 4)
  have hb6 : Below W.heap.size W ((w5.alloc (.cells #[.map (some ma)] 116)).alloc (.cells #[.bool o] 4)) := (by repeat' (first | with_reducible exact Below.refl _ _ | with_reducible exact Nat.le_refl _ | with_reducible assumption | with_reducible refine Go.below_growBy' ?_ ?_ _ | with_reducible refine Below.alloc ?_ ?_ _ | with_reducible refine Below.setCell ?_ ?_ _ | with_reducible refine Below.drew ?_ | with_reducible refine Go.le_alloc ?_ | with_reducible refine Go.le_growBy ?_ | with_reducible refine Go.le_setCell ?_ | with_reducible refine Go.le_drew ?_ | omega | (dsimp only; omega)))
  have hma5 := hM5.lt
  simp only [World.size_alloc] at k5
  obtain ⟨W6, hW6⟩ : ∃ W6, (w5.alloc (.cells #[.map (some ma)] 116)).alloc (.cells #[.bool o] 4) = W6 := ⟨_, rfl⟩
  obtain ⟨A4, hA4⟩ : ∃ A, w5.heap.size = A := ⟨_, rfl⟩
  obtain ⟨A5, hA5⟩ : ∃ A, A4 + 1 = A := ⟨_, rfl⟩
  rw [hW6] at k4 k5 hM6 hb6
  rw [hW6]
  rw [hA4] at k4 k5 hz5 hma5
  rw [hA4]
  rw [hA5] at k5
  rw [hA5]
  clear hW6 hM5 hb5 ho_ cP1 c1
  have hz6 := hb6.size
  have k4l := k4.lt
  have k5l := k5.lt
  have c2 : W6.cell? ⟨B2, 0, none⟩ = some (.slice an0 next.length cn) := (k2.below hb6 k2.lt).cell 0
  have cP2 := places_eq W6 (hn.below (hb6.mono hn0)) (Nat.le_trans hn0 hz6) (by omega) hnk
  go_upto_region 2 with (first
    | (go_at_call 62; (with_reducible refine cP2.mono ?_); rintro e w7 ⟨mx, nx, ex, rfl, hmx, hM7, hA7, hb7⟩)
    | fail)
  clear hM7 hA7 cP2
  obtain ⟨t, ht_⟩ : ∃ o, decide (next.map Lb.id).Nodup = o := ⟨_, rfl⟩
  rw [ht_]
  have hte : t = !twiceL next := by rw [← ht_]; unfold twiceL; simp
  clear ht_
  have hz7 := hb7.size
  have k7 := Blk.new w7 #[.bool t] 4
  have hb8 : Below W6.heap.size W6 (w7.alloc (.cells #[.bool t] 4)) := (by repeat' (first | with_reducible exact Below.refl _ _ | with_reducible exact Nat.le_refl _ | with_reducible assumption | with_reducible refine Go.below_growBy' ?_ ?_ _ | with_reducible refine Below.alloc ?_ ?_ _ | with_reducible refine Below.setCell ?_ ?_ _ | with_reducible refine Below.drew ?_ | with_reducible refine Go.le_alloc ?_ | with_reducible refine Go.le_growBy ?_ | with_reducible refine Go.le_setCell ?_ | with_reducible refine Go.le_drew ?_ | omega | (dsimp only; omega)))
  obtain ⟨W8, hW8⟩ : ∃ W8, w7.alloc (.cells #[.bool t] 4) = W8 := ⟨_, rfl⟩
  obtain ⟨A7, hA7⟩ : ∃ A, w7.heap.size = A := ⟨_, rfl⟩
  rw [hW8] at k7 hb8
  rw [hW8]
  rw [hA7] at k7 hz7
  rw [hA7]
  clear hW8 hb7
  have hz8 := hb8.size
  have k7l := k7.lt
  have hM8 := hM6.below hb8 hM6.lt
  have k48 := k4.below hb8 k4l
  have k58 := k5.below hb8 k5l
  have hB8 := hb6.trans (hb8.mono hz6)
  clear hM6 k4 k5 hb6 hb8 c2
  have c2 : W8.cell? ⟨B2, 0, none⟩ = some (.slice an0 next.length cn) := (k2.below hB8 k2.lt).cell 0
  obtain ⟨an, hmk, hans, han0⟩ := mk_bools next.length hnl W8
  go_upto_region 3 with fail
  have kN := Blk.new W8 an 4
  have hB9 : Below W.heap.size W (W8.alloc (.cells an 4)) := hB8.alloc hB8.size _
  have hM9 := hM8.alloc (.cells an 4)
  have k49 := k48.alloc (.cells an 4)
  have k59 := k58.alloc (.cells an 4)
  have k79 := k7.alloc (.cells an 4)
  obtain ⟨W9, hW9⟩ : ∃ W9, W8.alloc (.cells an 4) = W9 := ⟨_, rfl⟩
  obtain ⟨AN, hAN⟩ : ∃ A, W8.heap.size = A := ⟨_, rfl⟩
  rw [hW9] at kN hB9 hM9 k49 k59 k79
  rw [hW9]
  rw [hAN] at kN k7l hz8
  rw [hAN]
  clear hW9 hAN hM8 k48 k58 k7 hB8 c2 hmk
  have k1l := k1.lt
  have k2l := k2.lt
  have hd : ∀ k, k < n0 ∨ k = B1 ∨ k = B2 ∨ k = A4 ∨ k = A5 ∨ k = A7 ∨ k = ma → k ≠ AN := by
    rintro k (h | rfl | rfl | rfl | rfl | rfl | rfl) <;> omega
  have hg9 : W.grownBy W9 none := grownBy_of_below hB9
  have hCW : ∀ k, C W9 k → C W k := fun k => hCb _ W W9 none k h0 hg9 (by simp)
  have hR9 : RIt C n0 B1 B2 A4 A5 A7 AN ma nn (.slice ao old.length co) (.slice an0 next.length cn) o t old next en an W9 :=
    ⟨k1.below hB9 k1l, k2.below hB9 k2l, k49, k59, k79, kN, hM9, ho.below (hB9.mono hn0), hn.below (hB9.mono hn0), fun k hk hC => by
      have hc := hCW k hC
      have hlt := hC0 k hc
      rcases hk with h | h | h | h | h | h | h | h
      · exact hnc k (.inl h) hc
      · exact hnc k (.inr (.inl h)) hc
      · exact hnc k (.inr (.inr h)) hc
      all_goals omega, Nat.le_trans hn0 hB9.size⟩
  have hJ9 : J [] W9 := hJ [] W W9 none h0 hg9 (by simp)
  have hz9 := hB9.size
  have hA4W : W.heap.size ≤ AN := by omega
  replace hoe := Lib.hid hoe
  replace hte := Lib.hid hte
  clear hB9 kN k49 k59 k79 hM9 k1 k2 ho hn hg9 hCW k4l k5l k7l hz5 hz6 hz7 hz8 hA4 hA5 hA7 hma5 hmx hnc h0 hC0
  go_upto_region 4 with fail
  have c2 : W9.cell? ⟨B2, 0, none⟩ = some (.slice an0 next.length cn) := hR9.bn.cell 0
  go_wp2_with fail
  clear c2
  go_loopw [28] (fun kk wr => ∃ (k : Nat) (ann : Array Value), k ≤ next.length ∧ kk = .int .i64 (k : Nat) ∧ RIt C n0 B1 B2 A4 A5 A7 AN ma nn (.slice ao old.length co) (.slice an0 next.length cn) o t old next en ann wr ∧ ann.size = next.length ∧ (∀ i, i < k → ann[i]? = some (.bool (decide (i ∈ reachI old next k)))) ∧ J (reachI old next k) wr ∧ W.heap.size ≤ wr.heap.size) (fun kk _ => next.length - (intOf kk).toNat)
  case atStart => exact ⟨0, an, Nat.zero_le _, rfl, hR9, hans, fun i hi => absurd hi (by omega), hJ9, hz9⟩
  case round =>
    clear hR9 hJ9 hans han0
    obtain ⟨k, ann, hk, rfl, hR, has, hai, hJk, hzr⟩ := hrel
    by_cases hlt : k < next.length
    · obtain ⟨b, off, cap', i2, x2, y2, r2, t2, u2, hv, hget, hbl, hzc⟩ := hR.ln.get hlt
      simp only [Value.slice.injEq, true_and] at hv
      obtain ⟨rfl, rfl⟩ := hv
      have hltI : (k : Int) < (next.length : Int) := by omega
      obtain ⟨q, hq⟩ : ∃ q, sameL old next k ⟨i2, x2, y2, r2, t2, u2⟩ = q := ⟨_, rfl⟩
      have hcs : Calls Try.prog 63 #[.int .i64 (k : Nat), .pointer (some ⟨A4, 0, none⟩), .pointer (some ⟨B2, 0, none⟩), .pointer (some ⟨A5, 0, none⟩), .pointer (some ⟨A7, 0, none⟩), .pointer (some ⟨B1, 0, none⟩)] wr fun e w' => e = .returned (.bool q) ∧ Below wr.heap.size wr w' := by
        have := same1_any A4 B2 A5 A7 B1 ma nn en _ _ old next k _ o t wr ⟨hR.at_.cell 0, hR.bn.cell 0, hR.one.cell 0, hR.two.cell 0, hR.bo.cell 0⟩ hR.map hA (hR.lo.mono hR.sz) (hR.ln.mono hR.sz) hget hol hnl hok hnk hoe.out hte.out
        rw [hq] at this
        exact this
      obtain ⟨v0, hv0⟩ : ∃ v, ann[k]? = some v := ⟨_, Array.getElem?_eq_getElem (by omega)⟩
      replace hget := Lib.hid hget
      replace hq := Lib.hid hq
      clear hzc
      go_upto_region 8 with (first
        | (go_at_call 63; (with_reducible refine hcs.mono ?_); rintro e w1 ⟨rfl, hb1⟩; have hR1 := hR.below hb1 (fun k => hCb _ wr w1 none k hJk (grownBy_of_below hb1) (by simp)); have cN : w1.cell? ⟨AN, k, none⟩ = some v0 := (hR1.an.cell k).trans hv0; have fN := hR1.an.frozen k)
        | fail)
      have hz1 := hb1.size
      have hJ1 := hJ _ wr w1 none hJk (grownBy_of_below hb1) (by simp)
      have hncN : ¬ C w1 AN := hR1.nc AN (by simp)
      have hgA := grown_setCell w1 AN k (.bool (!q))
      have hCA : ∀ c, C (w1.setCell ⟨AN, k, none⟩ (.bool (!q))) c → C w1 c := fun c => hCb _ w1 _ (some AN) c hJ1 hgA (fun r e => by cases e; exact hncN)
      have hRA := hR1.set hd k (.bool (!q)) hCA
      have hJA := hJ _ w1 _ (some AN) hJ1 hgA (fun r e => by cases e; exact ⟨hA4W, hncN⟩)
      have hzA := hgA.size
      obtain ⟨WA, hWA⟩ : ∃ WA, w1.setCell ⟨AN, k, none⟩ (.bool (!q)) = WA := ⟨_, rfl⟩
      rw [hWA] at hRA hJA hzA
      rw [hWA]
      clear hWA hgA hCA hJ1 hncN cN fN hR1 hb1 hR hJk hcs hv0
      have hzA2 : W.heap.size ≤ WA.heap.size := by omega
      go_wp2_with fail
      go_loopw [39] (fun jj wi => ∃ i : Nat, i ≤ k ∧ jj = .int .i64 (i : Nat) ∧ RIt C n0 B1 B2 A4 A5 A7 AN ma nn (.slice ao old.length co) (.slice (some ⟨b, off, none⟩) next.length cn) o t old next en (ann.setIfInBounds k (.bool (!q || anyNear old next k i ⟨i2, x2, y2, r2, t2, u2⟩))) wi ∧ J (reachI old next k) wi ∧ W.heap.size ≤ wi.heap.size) (fun jj _ => k - (intOf jj).toNat)
      case atStart => exact ⟨0, Nat.zero_le _, rfl, by simpa [anyNear] using hRA, hJA, hzA2⟩
      case round =>
        clear hRA hJA hzA2
        obtain ⟨i, hi, rfl, hR, hJi, hzi⟩ := hrel
        have hks : k < ann.size := by omega
        have c2 : wr.cell? ⟨B2, 0, none⟩ = some (.slice (some ⟨b, off, none⟩) next.length cn) := hR.bn.cell 0
        by_cases hlti : i < k
        · have hltiI : (i : Int) < (k : Int) := by omega
          have hltJ : (i : Int) < (next.length : Int) := by omega
          obtain ⟨i3, x3, y3, r3, t3, u3, hget3, hc3⟩ := hR.ln.get2 (k := i) (by omega)
          obtain ⟨c0, c1, c2_, c3, c4, c5⟩ := hc3
          obtain ⟨_, _, _, _, _, _, hgetk, hzc⟩ := hR.ln.get2 hlt
          obtain ⟨rfl, rfl, rfl, rfl, rfl, rfl⟩ : _ ∧ _ ∧ _ ∧ _ ∧ _ ∧ _ := by
            have := Option.some.inj (hget.out.symm.trans hgetk)
            simpa using this
          obtain ⟨z0, z1, z2, z3, z4, z5⟩ := hzc
          have hs := anyNear_succ old next k i ⟨i2, x2, y2, r2, t2, u2⟩ _ hget3
          obtain ⟨an1, han1⟩ : ∃ c, anyNear old next k i ⟨i2, x2, y2, r2, t2, u2⟩ = c := ⟨_, rfl⟩
          obtain ⟨cur, hcur⟩ : ∃ c, (!q || an1) = c := ⟨_, rfl⟩
          obtain ⟨m, hm⟩ : ∃ c, decide (i ∈ reachI old next k) = c := ⟨_, rfl⟩
          obtain ⟨nq, hnq⟩ : ∃ c, nearL ⟨i3, x3, y3, r3, t3, u3⟩ ⟨i2, x2, y2, r2, t2, u2⟩ = c := ⟨_, rfl⟩
          rw [han1] at hR hs
          rw [hcur] at hR
          have hnew : Hid ((!q || anyNear old next k (i + 1) ⟨i2, x2, y2, r2, t2, u2⟩) = (cur || (m && nq))) := Lib.hid (by rw [hs, hm, hnq, ← Bool.or_assoc, hcur])
          have cK : wr.cell? ⟨AN, k, none⟩ = some (.bool cur) := (hR.an.cell k).trans (by simp [hks])
          have cI : wr.cell? ⟨AN, i, none⟩ = some (.bool m) := (hR.an.cell i).trans (by rw [Array.getElem?_setIfInBounds_ne (by omega), ← hm]; exact hai i hlti)
          have fK := hR.an.frozen k
          have hstep : ∀ v p, RIt C n0 B1 B2 A4 A5 A7 AN ma nn (.slice ao old.length co) (.slice (some ⟨b, off, none⟩) next.length cn) o t old next en (ann.setIfInBounds k v) ((wr.setCell ⟨AN, k, none⟩ v).growBy p) ∧ J (reachI old next k) ((wr.setCell ⟨AN, k, none⟩ v).growBy p) ∧ W.heap.size ≤ ((wr.setCell ⟨AN, k, none⟩ v).growBy p).heap.size := fun v p => by
            have hncN : ¬ C wr AN := hR.nc AN (by simp)
            have hgA := grown_setCell wr AN k v
            have hCA : ∀ c, C (wr.setCell ⟨AN, k, none⟩ v) c → C wr c := fun c => hCb _ wr _ (some AN) c hJi hgA (fun r e => by cases e; exact hncN)
            have hR1 := hR.set hd k v hCA
            have hJ1 := hJ _ wr _ (some AN) hJi hgA (fun r e => by cases e; exact ⟨hA4W, hncN⟩)
            have hgB := grownBy_growBy (wr.setCell ⟨AN, k, none⟩ v) p
            have hzB := hgA.size
            have hR2 := hR1.below (below_growBy _ p) (fun c => hCb _ _ _ none c hJ1 hgB (by simp))
            have hJ2 := hJ _ _ _ none hJ1 hgB (by simp)
            rw [Array.setIfInBounds_setIfInBounds] at hR2
            exact ⟨hR2, hJ2, Nat.le_trans hzi (Nat.le_trans hzB hgB.size)⟩
          replace hnq := Lib.hid hnq
          clear hs han1 hcur hm hgetk hget3 hR hJi hai
          cases cur
          · cases m
            · go_wp2_with fail
              first | with_reducible refine wp_region_grow_tail2 23 (by kernel_rfl) (by kernel_rfl) ?_ | with_reducible refine wp_region_grow_tail 23 (by kernel_rfl) (by kernel_rfl) ?_
              simp only [List.take_succ_cons, List.take_zero, List.drop_succ_cons, List.drop_zero]
              repeat (first | go_big_quiet_step ((go_at_call 65; exact Calls.grow_of (nearI_eq hnq.out _))) | quiet_step ((go_at_call 65; exact Calls.grow_of (nearI_eq hnq.out _))))
              refine wpQuiet_nil ?_
              intro _ hw_
              obtain ⟨p, hw_⟩ := hw_
              subst hw_
              go_wp2_with fail
              go_roundw
              case rel => exact ⟨i + 1, by omega, by go_num, by rw [hnew.out]; simpa using (hstep _ p).1, (hstep _ p).2.1, (hstep _ p).2.2⟩
              case measure => simp [intOf]; omega
            · go_wp2_with fail
              first | with_reducible refine wp_region_grow_tail2 23 (by kernel_rfl) (by kernel_rfl) ?_ | with_reducible refine wp_region_grow_tail 23 (by kernel_rfl) (by kernel_rfl) ?_
              simp only [List.take_succ_cons, List.take_zero, List.drop_succ_cons, List.drop_zero]
              repeat (first | go_big_quiet_step ((go_at_call 65; exact Calls.grow_of (nearI_eq hnq.out _))) | quiet_step ((go_at_call 65; exact Calls.grow_of (nearI_eq hnq.out _))))
              refine wpQuiet_nil ?_
              intro _ hw_
              obtain ⟨p, hw_⟩ := hw_
              subst hw_
              go_wp2_with fail
              go_roundw
              case rel => exact ⟨i + 1, by omega, by go_num, by rw [hnew.out]; simpa using (hstep _ p).1, (hstep _ p).2.1, (hstep _ p).2.2⟩
              case measure => simp [intOf]; omega
          · go_wp2_with fail
            first | with_reducible refine wp_region_grow_tail2 23 (by kernel_rfl) (by kernel_rfl) ?_ | with_reducible refine wp_region_grow_tail 23 (by kernel_rfl) (by kernel_rfl) ?_
            simp only [List.take_succ_cons, List.take_zero, List.drop_succ_cons, List.drop_zero]
            repeat (first | go_big_quiet_step ((go_at_call 65; exact Calls.grow_of (nearI_eq hnq.out _))) | quiet_step ((go_at_call 65; exact Calls.grow_of (nearI_eq hnq.out _))))
            refine wpQuiet_nil ?_
            intro _ hw_
            obtain ⟨p, hw_⟩ := hw_
            subst hw_
            go_wp2_with fail
            go_roundw
            case rel => exact ⟨i + 1, by omega, by go_num, by rw [hnew.out]; simpa using (hstep _ p).1, (hstep _ p).2.1, (hstep _ p).2.2⟩
            case measure => simp [intOf]; omega
        · obtain rfl : k = i := by omega
          have hge : ¬ (k : Int) < (k : Int) := by omega
          obtain ⟨fin, hfin⟩ : ∃ c, (!q || anyNear old next k k ⟨i2, x2, y2, r2, t2, u2⟩) = c := ⟨_, rfl⟩
          rw [hfin] at hR
          rw [← hq.out] at hfin
          have hsucc := reachI_succ old next k _ hget.out hfin
          have hself := reachI_mem_self old next k _ hget.out hfin
          have hai2 : ∀ i, i < k + 1 → (ann.setIfInBounds k (.bool fin))[i]? = some (.bool (decide (i ∈ reachI old next (k + 1)))) := fun i hi => by
            by_cases hik : i = k
            · subst hik
              rw [hself]
              simp [hks]
            · rw [Array.getElem?_setIfInBounds_ne (by omega), reachI_mem_succ old next k i (by omega)]
              exact hai i (by omega)
          have has2 : (ann.setIfInBounds k (.bool fin)).size = next.length := by simpa using has
          have cK : wr.cell? ⟨AN, k, none⟩ = some (.bool fin) := (hR.an.cell k).trans (by simp [hks])
          replace hsucc := Lib.hid hsucc
          clear hself hai hfin hget hq
          cases fin
          · go_wp2_with fail
            go_roundw
            case rel => exact ⟨k + 1, _, by omega, by go_num, hR, has2, hai2, by rw [hsucc.out]; exact hJi, hzi⟩
            case measure => simp [intOf]; omega
          · obtain ⟨fn, tmps, assign, body, hy, hRd⟩ := hY (reachI old next k) k wr hJi (by have := reachI_len old next k; omega) hlt
            go_upto_region 13 with fail
            refine (wpIn_wide (n := n)).1 ?_
            gi_wp2
            refine hRd.mono ?_
            rintro e W4 ⟨rfl, hJ4, hk4⟩
            gi_wp2
            go_wp2_with fail
            go_roundw
            case rel => exact ⟨k + 1, _, by omega, by go_num, hR.keepC hk4, has2, hai2, by rw [hsucc.out]; exact hJ4, Nat.le_trans hzi hk4.size⟩
            case measure => simp [intOf]; omega
    · obtain rfl : k = next.length := by omega
      have hge : ¬ (next.length : Int) < (next.length : Int) := by omega
      go_wp2_with fail
      go_end0
      exact ⟨⟨_, rfl⟩, hJk⟩
end Go.Proofs.Ytikojanpbbiaiaa
namespace Go.Proofs.Ytikojanpbbiaiaa
set_option linter.unusedVariables false
set_option linter.unusedSimpArgs false
open Go.RowKit Go.Shelf Go.Maps

/-- the box of the slice and the slice's own block, both of cells -/
def outC (Bo : Nat) (W : World) (k : Nat) : Prop := (∃ o, W.heap[k]? = some o ∧ o.isCells = true) ∧ (k = Bo ∨ ∃ off len cap, W.cell? ⟨Bo, 0, none⟩ = some (.slice (some ⟨k, off, none⟩) len cap))
theorem outC_lt {Bo : Nat} {W : World} {k : Nat} (h : outC Bo W k) : k < W.heap.size := by
  obtain ⟨⟨o, ho, -⟩, -⟩ := h
  exact (Array.getElem?_eq_some_iff.1 ho).1
theorem outC_cl (Bo : Nat) (W : World) (l : Nat) (o : Obj) (h : W.heap[l]? = some o) (ho : o.isCells = false) : ¬ outC Bo W l := by
  rintro ⟨⟨o', h', hc⟩, -⟩
  rw [h] at h'
  cases h'
  rw [ho] at hc
  cases hc
theorem cell_none {W : World} {b : Nat} {o : Obj} (h : W.heap[b]? = some o) (ho : o.isCells = false) : W.cell? ⟨b, 0, none⟩ = none := by
  cases hc : W.cell? ⟨b, 0, none⟩ with
  | none => rfl
  | some v =>
    obtain ⟨o', h', hc'⟩ := cells_of_cell hc
    rw [show W.heap[b]? = some o from h] at h'
    cases h'
    rw [ho] at hc'
    cases hc'
theorem outC_put (Bo : Nat) (W : World) (l k : Nat) (o o' : Obj) (h : W.heap[l]? = some o) (ho : o.isCells = false) (ho' : o'.isCells = false) : outC Bo (W.putObj l o') k ↔ outC Bo W k := by
  have hlt : l < W.heap.size := (Array.getElem?_eq_some_iff.1 h).1
  have hl' : (W.putObj l o').heap[l]? = some o' := World.putObj_heap_same hlt
  by_cases hk : k = l
  · subst hk
    exact ⟨fun hc => absurd hc (outC_cl Bo _ k o' hl' ho'), fun hc => absurd hc (outC_cl Bo W k o h ho)⟩
  · have e1 : (W.putObj l o').heap[k]? = W.heap[k]? := World.putObj_heap_other hk
    unfold outC
    rw [e1]
    by_cases hb : Bo = l
    · subst hb
      rw [cell_none hl' ho', cell_none h ho]
    · rw [cell_same (World.putObj_heap_other hb)]
theorem outC_alloc (Bo : Nat) (W : World) (k : Nat) (o : Obj) (h : outC Bo (W.alloc o) k) (ho : o.isCells = false) : outC Bo W k := by
  have hnew : (W.alloc o).heap[W.heap.size]? = some o := World.alloc_heap_new W o
  have hk : k ≠ W.heap.size := fun e => outC_cl Bo _ k o (by rw [e]; exact hnew) ho h
  have hlt := outC_lt h
  rw [World.size_alloc] at hlt
  have e1 : (W.alloc o).heap[k]? = W.heap[k]? := Below.heap_alloc W o k (by omega)
  obtain ⟨⟨o', h1, h2⟩, h3⟩ := h
  refine ⟨⟨o', e1.symm.trans h1, h2⟩, h3.imp id ?_⟩
  rintro ⟨off, len, cap, hc⟩
  have hb : Bo < (W.alloc o).heap.size := World.block_lt_of_cell? _ _ hc
  rw [World.size_alloc] at hb
  by_cases hbo : Bo = W.heap.size
  · rw [hbo, cell_none hnew ho] at hc
    cases hc
  · exact ⟨off, len, cap, by rw [← cell_same (Below.heap_alloc W o Bo (by omega))]; exact hc⟩

abbrev idsOf (next : List Lb) (pre : List (Fin next.length)) : List Int := pre.map fun k => next[k].id
/-- what Reach's loop carries -/
structure RI (w0 : World) (Bo B3 : Nat) (vn : Value) (next : List Lb) (pre : List (Fin next.length)) (W : World) : Prop where
  out : ∃ v, Blk W Bo #[v] 55 ∧ W.ownsRow w0.heap.size 3 1 v (idsOf next pre).length ((idsOf next pre).flatMap inE.enc)
  box : Blk W B3 #[vn] 33
  ln : Lst lbE w0.heap.size W vn next
  below : Below w0.heap.size w0 W
theorem row_cells {W : World} {base : Nat} {e : TypeId} {s : Nat} {v : Value} {n : Nat} {xs : List Value} (h : W.ownsRow base e s v n xs) {k off len cap : Nat} (hv : v = .slice (some ⟨k, off, none⟩) len cap) : ∃ o, W.heap[k]? = some o ∧ o.isCells = true := by
  subst hv
  rcases h.2 with ⟨e1, _⟩ | ⟨g, cap', cur, e1, _, hg, _⟩
  · cases e1
  · simp only [Value.slice.injEq, Option.some.injEq, Addr.mk.injEq] at e1
    obtain ⟨⟨rfl, -⟩, -⟩ := e1
    exact ⟨_, hg, rfl⟩
theorem RI.outC_of {w0 : World} {Bo B3 : Nat} {vn : Value} {next : List Lb} {pre : List (Fin next.length)} {A : World} (h : RI w0 Bo B3 vn next pre A) : outC Bo A Bo := by
  obtain ⟨v, hb, -⟩ := h.out
  exact ⟨⟨.cells #[v] 55 (0, 0), hb, rfl⟩, .inl rfl⟩
/-- a turn of a block that is not the body's -/
theorem RI.turn {w0 : World} {Bo B3 Z : Nat} {vn : Value} {next : List Lb} {pre : List (Fin next.length)} {A A' : World} {row : Option Nat} (h : RI w0 Bo B3 vn next pre A) (hz : w0.heap.size ≤ Z) (hb : B3 < Z) (hg : A.grownBy A' row) (hr : ∀ r, row = some r → Z ≤ r ∧ ¬ outC Bo A r) : RI w0 Bo B3 vn next pre A' := by
  have hCo := h.outC_of
  obtain ⟨⟨v, kb, hrow⟩, h2, h3, h4⟩ := h
  refine ⟨⟨v, kb.kept hg (fun e => (hr Bo e).2 hCo), hrow.kept hg ?_⟩, h2.kept hg (fun e => by have := (hr B3 e).1; omega), h3.same (fun b hb => hg.block b (Nat.lt_of_lt_of_le hb h4.size) (fun e => by have := (hr b e.symm).1; omega)), h4.grown hg h4.size (fun k e => Nat.le_trans hz (hr k e).1)⟩
  rcases hrow.2 with ⟨e1, _⟩ | ⟨g, cap', cur, e1, _, hgb, _⟩
  · exact .inl (by rw [e1]; rfl)
  · refine .inr fun e => ?_
    rw [e1] at e
    exact (hr g e.symm).2 ⟨⟨_, hgb, rfl⟩, .inr ⟨0, _, cap', by rw [kb.cell 0, e1]; rfl⟩⟩
/-- .. lets no block become the body's -/
theorem RI.mine {w0 : World} {Bo B3 : Nat} {vn : Value} {next : List Lb} {pre : List (Fin next.length)} {A A' : World} {row : Option Nat} {k : Nat} (h : RI w0 Bo B3 vn next pre A) (hg : A.grownBy A' row) (hr : ∀ r, row = some r → ¬ outC Bo A r) (hc : outC Bo A' k) : outC Bo A k := by
  have hCo := h.outC_of
  obtain ⟨⟨v, kb, hrow⟩, -, -, -⟩ := h
  obtain ⟨-, hk | ⟨off, len, cap, hcell⟩⟩ := hc
  · rw [hk]
    exact hCo
  · rw [cell_same (hg.block Bo kb.lt (fun e => hr Bo e.symm hCo)), kb.cell 0] at hcell
    have hv : v = .slice (some ⟨k, off, none⟩) len cap := by simpa using hcell
    exact ⟨row_cells hrow hv, .inr ⟨off, len, cap, by rw [kb.cell 0, hv]; rfl⟩⟩
end Go.Proofs.Ytikojanpbbiaiaa
