/-
  Chapter 29: a sheet's rows of bytes, in plain Lean; the reference's Row, walked.
-/
import Derived.Test.YtjfdbigkbgolmaaGreatDoorZe
import Derived.Test.YtjfdbigkbgolmaaGreatDoorZb
import Derived.Test.YtjfdbigkbgolmaaGreatDoorZh

namespace Go.Proofs.YtjfdbigkbgolmaaGreatDoor
set_option linter.unusedVariables false
set_option linter.unusedSimpArgs false
open Go.RowKit Go.Shelf
attribute [local go_sem] Oper.semAt_some
attribute [local go_sem ↓] Go.wp_at_zero Go.wp_at_succ

structure SameW (a b : World) : Prop where
  eq : a = b
def chr (d : Dt) : UInt8 := if d.k = 3 then 111 else 35
/-- the byte of a dot: that of the first thing there -/
def rowC (l : List Dt) (x y : Int) : UInt8 := match l.find? (fun d => d.x == x && d.y == y) with | none => 46 | some d => chr d
theorem rowC_drop (l : List Dt) (x y : Int) (k : Nat) (h : k < l.length) : rowC (l.drop k) x y = if l[k].x = x ∧ l[k].y = y then chr l[k] else rowC (l.drop (k + 1)) x y := by
  unfold rowC
  rw [List.drop_eq_getElem_cons h, List.find?_cons]
  by_cases h1 : l[k].x = x ∧ l[k].y = y
  · simp [h1]
  · rw [if_neg h1]
    have h2 : (l[k].x == x && l[k].y == y) = false := by
      simp only [Bool.and_eq_false_iff, beq_eq_false_iff_ne]
      by_cases h3 : l[k].x = x
      · exact .inr fun e => h1 ⟨h3, e⟩
      · exact .inl h3
    simp only [h2]
def rowPart (l : List Dt) (y : Int) (n : Nat) : List UInt8 := (List.range n).map (fun (i : Nat) => rowC l i y)
theorem rowPart_succ (l : List Dt) (y : Int) (n : Nat) : rowPart l y (n + 1) = rowPart l y n ++ [rowC l n y] := by simp [rowPart, List.range_succ]
/-- the rows from the top, n of them -/
def rowTxt (l : List Dt) (W H : Nat) : Nat → List UInt8
  | 0 => []
  | n + 1 => rowTxt l W H n ++ (rowPart l ((H : Int) - 1 - n) W ++ [10])
def strOf (bs : List UInt8) : ByteArray := ⟨bs.toArray⟩
theorem strOf_append (a b : List UInt8) : strOf a ++ strOf b = strOf (a ++ b) := by
  unfold strOf
  apply ByteArray.ext
  simp
theorem strOf_one (a : List UInt8) (c : UInt8) : strOf a ++ (⟨#[c]⟩ : ByteArray) = strOf (a ++ [c]) := strOf_append a [c]

theorem strOf_size (a : List UInt8) : (strOf a).size = a.length := by
  show a.toArray.size = a.length
  simp
theorem rowTxt_len (l : List Dt) (W H : Nat) : ∀ n, (rowTxt l W H n).length = n * (W + 1)
  | 0 => by simp [rowTxt]
  | n + 1 => by rw [rowTxt, List.length_append, rowTxt_len l W H n, Nat.add_mul, List.length_append]; simp [rowPart]
theorem rowTxt_le (l : List Dt) {W H n : Nat} (hW : W ≤ 80) (hn : n ≤ 80) : (rowTxt l W H n).length ≤ 6480 := by
  rw [rowTxt_len]
  exact Nat.mul_le_mul hn (Nat.succ_le_succ hW)
theorem rowPart_len (l : List Dt) (y : Int) (n : Nat) : (rowPart l y n).length = n := by simp [rowPart]
theorem no_big {a b : List UInt8} (ha : a.length ≤ 10000) (hb : b.length ≤ 10) : ¬ 9223372036854775807 < (strOf a).size + (strOf b).size := by
  rw [strOf_size, strOf_size]
  omega
set_option maxRecDepth 100000 in
set_option maxHeartbeats 4000000 in
theorem rrow_any (l : List Dt) (v : Value) (s : Sh) (W H : Nat) (w : World) (hW : s.w = W) (hH : s.h = H) (hc : checkS s = 0) (hD : Dts w.heap.size w v l) :
    Calls Tryz.prog 17 #[v, shV s] w fun e w' => e = .returned (.string (strOf (rowTxt l W H H))) ∧ Below w.heap.size w w' := by
  have hs := okS_of hc
  obtain ⟨ax, ay, st, sw, sh, sg⟩ := s
  obtain ⟨s0, s1, u0, u1, v0, v1, -⟩ := hs
  simp only at hW hH u0 u1 v0 v1
  subst hW hH
  have hcH := Lib.hid hc
  clear hc
  go_enter Tryz.func17, Tryz.ntmps17
  go_upto_region 3 with (go_at_call 49; refine (rcheck_eq hcH.out _).mono ?_; rintro e w' ⟨rfl, hb_⟩; obtain ⟨p, rfl⟩ := grow_of_below hb_; clear hb_)
  refine wp_world (fun W0 hW0 => ?_)
  have hB : Below w.heap.size w W0 := by
    rw [hW0]
    exact (by repeat' (first | with_reducible exact Below.refl _ _ | with_reducible exact Nat.le_refl _ | with_reducible assumption | with_reducible refine Go.below_growBy' ?_ ?_ _ | with_reducible refine Below.alloc ?_ ?_ _ | with_reducible refine Below.setCell ?_ ?_ _ | with_reducible refine Below.drew ?_ | with_reducible refine Go.le_alloc ?_ | with_reducible refine Go.le_growBy ?_ | with_reducible refine Go.le_setCell ?_ | with_reducible refine Go.le_drew ?_ | omega | (dsimp only; omega)))
  have kS : Blk W0 w.heap.size #[.int .i64 ax, .int .i64 ay, .int .i64 st, .int .i64 (W : Nat), .int .i64 (H : Nat), .int .i64 sg] 29 := by
    rw [hW0]
    exact (Blk.new w _ _).grow _
  clear hW0
  have d2 : W0.cell? ⟨w.heap.size, 3, none⟩ = some (.int .i64 (W : Nat)) := kS.cell 3
  have d3 : W0.cell? ⟨w.heap.size, 4, none⟩ = some (.int .i64 (H : Nat)) := kS.cell 4
  have hD0 := (Dts.below hB hD).mono hB.size
  obtain ⟨hll, a, cap, rfl, hrows⟩ := hD0.open_
  have hllI : (l.length : Int) ≤ 4294967296 := by omega
  clear hD hD0 kS
  obtain ⟨B2, hB2⟩ : ∃ b, w.heap.size = b := ⟨_, rfl⟩
  rw [hB2] at d2 d3 hB ⊢
  replace hB2 := Lib.hid hB2
  go_wp2_with fail
  go_loopw [5, 6] (fun o i wr => ∃ m : Nat, m ≤ H ∧ i = .int .i64 ((m : Int) - 1) ∧ o = .string (strOf (rowTxt l W H (H - m))) ∧ SameW W0 wr) (fun _ i _ => (intOf i + 1).toNat)
  case atStart => exact ⟨H, Nat.le_refl _, rfl, by simp [rowTxt, strOf], ⟨rfl⟩⟩
  case round =>
    obtain ⟨m, hm, rfl, rfl, ⟨rfl⟩⟩ := hrel
    by_cases hm0 : 0 < m
    · obtain ⟨k, rfl⟩ : ∃ k, m = k + 1 := ⟨m - 1, by omega⟩
      have hyI : (((k + 1 : Nat) : Int) - 1) = (k : Nat) := by omega
      rw [hyI]
      have hk0 : 0 ≤ (k : Int) := by omega
      have hnext : rowTxt l W H (H - k) = rowTxt l W H (H - (k + 1)) ++ (rowPart l k W ++ [10]) := by
        have e1 : H - k = (H - (k + 1)) + 1 := by omega
        have e2 : (H : Int) - 1 - (H - (k + 1) : Nat) = k := by omega
        rw [e1, rowTxt, e2]
      obtain ⟨T, hT⟩ : ∃ T, rowTxt l W H (H - (k + 1)) = T := ⟨_, rfl⟩
      have hTl := Lib.hid (rowTxt_le l (W := W) (H := H) (n := H - (k + 1)) (by omega) (by omega))
      rw [hT] at hnext hTl ⊢
      replace hnext := Lib.hid hnext
      clear hT
      go_wp2_with fail
      go_loopw [5, 7] (fun o i wr => ∃ n : Nat, n ≤ W ∧ i = .int .i64 (n : Nat) ∧ o = .string (strOf (T ++ rowPart l k n)) ∧ SameW W0 wr) (fun _ i _ => W - (intOf i).toNat)
      case atStart => exact ⟨0, Nat.zero_le _, rfl, by simp [rowPart], ⟨rfl⟩⟩
      case round =>
        obtain ⟨n, hn, rfl, rfl, ⟨rfl⟩⟩ := hrel
        by_cases hnl : n < W
        · have hnlI : (n : Int) < (W : Int) := by omega
          have hps := rowPart_succ l k n
          obtain ⟨T2, hT2⟩ : ∃ T2, T ++ rowPart l k n = T2 := ⟨_, rfl⟩
          have hps2 := Lib.hid (show T ++ rowPart l k (n + 1) = T2 ++ [rowC l n k] by rw [hps, ← List.append_assoc, hT2])
          rw [hT2]
          have hbig := no_big (a := T2) (b := [rowC l n k]) (by rw [← hT2, List.length_append, rowPart_len]; have := hTl.out; omega) (by simp)
          clear hps hT2
          go_wp2_with fail
          go_loopw [8, 9] (fun c i wr => ∃ q : Nat, q ≤ l.length ∧ i = .int .i64 ((q : Int) - 1) ∧ c = .string (strOf [rowC (l.drop q) n k]) ∧ SameW W0 wr) (fun _ i _ => (intOf i + 1).toNat)
          case atStart => exact ⟨l.length, Nat.le_refl _, rfl, by simp [rowC, strOf], ⟨rfl⟩⟩
          case round =>
            obtain ⟨q, hq, rfl, rfl, ⟨rfl⟩⟩ := hrel
            by_cases hq0 : 0 < q
            · obtain ⟨j, rfl⟩ : ∃ j, q = j + 1 := ⟨q - 1, by omega⟩
              have hjI : (((j + 1 : Nat) : Int) - 1) = (j : Nat) := by omega
              rw [hjI]
              have hj0 : 0 ≤ (j : Int) := by omega
              have hjl : j < l.length := by omega
              have hjlI : (j : Int) < (l.length : Int) := by omega
              obtain ⟨b, off, rfl, -, hr, -⟩ := hrows j hjl
              obtain ⟨c0, c1, c2, c3⟩ := hr
              have hdr := rowC_drop l n k j hjl
              obtain ⟨d, hd⟩ : ∃ d, l[j] = d := ⟨_, rfl⟩
              rw [hd] at c0 c1 c2 c3 hdr
              obtain ⟨dx, dy, dk, di⟩ := d
              obtain ⟨C, hC⟩ : ∃ C, rowC (l.drop (j + 1)) n k = C := ⟨_, rfl⟩
              rw [hC] at hdr ⊢
              simp only at c0 c1 c2 c3 hdr
              clear hd hC
              by_cases h1 : dx = n
              · by_cases h2 : dy = k
                · rw [if_pos ⟨h1, h2⟩] at hdr
                  subst h1 h2
                  by_cases h3 : dk = 3
                  · subst h3
                    replace hdr := Lib.hid hdr
                    go_wp2_with fail
                    go_roundw
                    case rel => exact ⟨j, by omega, by go_num, by rw [hdr.out]; rfl, ⟨rfl⟩⟩
                    case measure => simp [intOf]; try omega
                  · have h3b : (dk == 3) = false := by simpa using h3
                    have hch : chr ⟨(n : Nat), (k : Nat), dk, di⟩ = 35 := by unfold chr; rw [if_neg h3]
                    rw [hch] at hdr
                    replace hdr := Lib.hid hdr
                    clear hch
                    go_wp2_with fail
                    go_roundw
                    case rel => exact ⟨j, by omega, by go_num, by rw [hdr.out]; rfl, ⟨rfl⟩⟩
                    case measure => simp [intOf]; try omega
                · have h2b : (dy == (k : Int)) = false := by simpa using h2
                  rw [if_neg (fun e => h2 e.2)] at hdr
                  subst h1
                  replace hdr := Lib.hid hdr
                  go_wp2_with fail
                  go_roundw
                  case rel => exact ⟨j, by omega, by go_num, by rw [hdr.out], ⟨rfl⟩⟩
                  case measure => simp [intOf]; try omega
              · have h1b : (dx == (n : Int)) = false := by simpa using h1
                rw [if_neg (fun e => h1 e.1)] at hdr
                replace hdr := Lib.hid hdr
                go_wp2_with fail
                go_roundw
                case rel => exact ⟨j, by omega, by go_num, by rw [hdr.out], ⟨rfl⟩⟩
                case measure => simp [intOf]; try omega
            · obtain rfl : q = 0 := by omega
              rw [List.drop_zero]
              go_wp2_with fail
              go_roundw
              case rel => exact ⟨n + 1, by omega, by go_num, by rw [hps2.out, strOf_append], ⟨rfl⟩⟩
              case measure => simp [intOf]; try omega
        · obtain rfl : n = W := by omega
          have hbig : ¬ 9223372036854775807 < (strOf (T ++ rowPart l k n)).size + (⟨#[10]⟩ : ByteArray).size := no_big (a := T ++ rowPart l k n) (b := [10]) (by rw [List.length_append, rowPart_len]; have := hTl.out; omega) (by simp)
          go_wp2_with fail
          go_roundw
          case rel => exact ⟨k, by omega, by go_num, by rw [hnext.out, strOf_one, List.append_assoc], ⟨rfl⟩⟩
          case measure => simp [intOf]; try omega
    · obtain rfl : m = 0 := by omega
      go_wp2_with fail
      go_ret
      exact ⟨rfl, (by first | exact hB | exact hB2.out ▸ hB)⟩
end Go.Proofs.YtjfdbigkbgolmaaGreatDoor
