/-
  Chapter 29: small: at most 30 dots, with small numbers.
-/
import Derived.Test.YtjfdbigkbgolmaaDoorO2
import Derived.Test.YtjfdbigkbgolmaaDoorT3
import Derived.Test.YtjfdbigkbgolmaaDoorTail
import Derived.Deep.AppendLies
import Derived.Deep.RegionLaw
import Derived.Deep.DrawnRows
import Derived.Laws.Rows
namespace Go.Proofs.YtjfdbigkbgolmaaDoor
set_option linter.unusedVariables false
set_option linter.unusedSimpArgs false
open Go.RowKit Go.Shelf
attribute [local go_sem] Oper.semAt_some
attribute [local go_sem ↓] Go.wp_at_zero Go.wp_at_succ

def smallD (d : Dt) : Dt := ⟨d.x.tmod 20, d.y.tmod 20, d.k, d.i⟩
def smallL (l : List Dt) : List Dt := (l.take 30).map smallD
theorem smallL_length (l : List Dt) : (smallL l).length = min 30 l.length := by simp [smallL]
theorem smallL_fits (l : List Dt) : ∀ d ∈ smallL l, fits d.x ∧ fits d.y := by
  intro d hd
  obtain ⟨e, -, rfl⟩ := List.mem_map.1 hd
  have h1 := Int.tmod_lt_of_pos e.x (b := 20) (by omega)
  have h2 := Int.lt_tmod_of_pos e.x (b := 20) (by omega)
  have h3 := Int.tmod_lt_of_pos e.y (b := 20) (by omega)
  have h4 := Int.lt_tmod_of_pos e.y (b := 20) (by omega)
  exact ⟨⟨by simp only [smallD]; omega, by simp only [smallD]; omega⟩, by simp only [smallD]; omega, by simp only [smallD]; omega⟩
theorem smallL_get {l : List Dt} {k : Nat} (h1 : k < l.length) (h2 : k < 30) : (smallL l)[k]? = some (smallD l[k]) := by
  unfold smallL
  rw [List.getElem?_map, List.getElem?_take, if_pos h2, List.getElem?_eq_getElem h1]
  rfl

set_option maxRecDepth 100000 in
set_option maxHeartbeats 4000000 in
theorem small_any (a : Option Addr) (cap : Nat) (l : List Dt) (w : World) (hA : DtsA w.heap.size w a l) :
    Calls Tryd.prog 18 #[.slice a l.length cap] w fun e w' => ∃ v, e = .returned v ∧ w'.ownsRow w.heap.size 45 4 v (smallL l).length ((smallL l).flatMap encD) ∧ Below w.heap.size w w' := by
  obtain ⟨i0, hi0, hz0, hz1, hz2⟩ := info_parts dotInfo
  have hlen := smallL_length l
  go_enter Tryd.func18, Tryd.ntmps18
  go_wp2_with fail
  go_loopw [3, 4] (fun u i wr => ∃ (k : Nat) (v : Value), k ≤ (smallL l).length ∧ u = v ∧ i = .int .i64 k ∧ wr.ownsRow w.heap.size 45 4 v k (((smallL l).take k).flatMap encD) ∧ Below w.heap.size w wr)
    (fun _ i _ => (smallL l).length - (intOf i).toNat)
  case atStart => exact ⟨0, _, Nat.zero_le _, rfl, rfl, ⟨by simp, .inl ⟨rfl, rfl⟩⟩, Below.refl _ _⟩
  case round =>
    obtain ⟨k, v, hk, rfl, rfl, hrow, hB⟩ := hrel
    have hsz := hB.size
    have hk30 : k ≤ 30 := by omega
    by_cases hlt : k < l.length
    · have hltI : (k : Int) < (l.length : Int) := by omega
      by_cases h30 : k < 30
      · have h30I : (k : Int) < 30 := by omega
        have hget := smallL_get hlt h30
        obtain ⟨b, off, rfl, hb, hr, -⟩ := hA k hlt
        obtain ⟨c0, c1, c2, c3⟩ := hr.below hB hb
        obtain ⟨d, hd⟩ : ∃ d, l[k] = d := ⟨_, rfl⟩
        rw [hd] at c0 c1 c2 c3 hget
        clear hd hr hA
        obtain ⟨dx, dy, dk, di⟩ := d
        simp only at c0 c1 c2 c3
        simp only [smallD] at hget
        have htk : ((smallL l).take (k + 1)).flatMap encD = ((smallL l).take k).flatMap encD ++ encD ⟨dx.tmod 20, dy.tmod 20, dk, di⟩ := by
          rw [List.take_add_one, hget]
          simp [List.flatMap_append]
        replace htk := Lib.hid htk
        clear hget
        go_wp2_with fail
        have hrowD : wr.drew.ownsRow w.heap.size 45 4 u3 k (((smallL l).take k).flatMap encD) := hrow
        go_region_law (refine step_append_lies _ (by rfl) _ _ _ (by rfl) w.heap.size 45 i0 _ 4 32 Tryd.underlying38 hi0 hz0 hz1 hz2 rfl (by omega) u3 k _ (by rfl) (hrowD.alloc _) _ 1 1 _ (by rfl) ?_ (World.news_of_block (heap_alloc_new _ _)) (by simp [Value.oneCell']) (by omega) (by unfold maxLen; omega) (by omega) (by simp; omega) _ rfl ?_; rfl; intro g2 cap2 w3 hown3 hgrow3 hat3 hlt3)
        all_goals
          clear c0 c1 c2 c3 hrowD
          have hB3 : Below w.heap.size w w3 := ((hB.alloc hsz (.cells #[.int .i64 (dx.tmod 20), .int .i64 (dy.tmod 20), .int .i64 dk, .int .i64 di] 45)).drew).grown hgrow3 (by show w.heap.size ≤ (wr.alloc _).heap.size; simp; omega) (fun r e => (hrow.lt r e).1)
          go_wp2_with fail
          go_roundw
          case rel => exact ⟨k + 1, _, by omega, rfl, by go_num, by rw [htk.out]; exact hown3, hB3⟩
          case measure => simp [intOf]; omega
      · obtain rfl : k = 30 := by omega
        have hend : (smallL l).length = 30 := by omega
        rw [List.take_of_length_le (by omega)] at hrow
        have hrow : wr.ownsRow w.heap.size 45 4 u3 (smallL l).length ((smallL l).flatMap encD) := by rw [hend]; exact hrow
        clear hlen
        go_wp2_with fail
        go_ret
        exact ⟨_, rfl, by first | exact hrow | (rw [← hend]; exact hrow), hB⟩
    · have hend : (smallL l).length = k := by omega
      rw [List.take_of_length_le (by omega)] at hrow
      have hrow : wr.ownsRow w.heap.size 45 4 u3 (smallL l).length ((smallL l).flatMap encD) := by rw [hend]; exact hrow
      clear hlen
      have hge : ¬ (k : Int) < (l.length : Int) := by omega
      go_wp2_with fail
      go_ret
      exact ⟨_, rfl, by first | exact hrow | (rw [← hend]; exact hrow), hB⟩
end Go.Proofs.YtjfdbigkbgolmaaDoor
