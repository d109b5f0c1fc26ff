/-
  Chapter 29: slices.SortedFunc over maps.Keys: the dots of a map in their order.
-/
import Derived.Test.YtjfdbigkbgolmaaGreatDoorZc
import Derived.Test.YtjfdbigkbgolmaaGreatDoorZs
import Derived.Deep.AppendLies
namespace Go.Proofs.YtjfdbigkbgolmaaGreatDoor
set_option linter.unusedVariables false
set_option linter.unusedSimpArgs false
open Go.RowKit Go.Shelf Go.Sort Go.Lib
attribute [local go_sem] Oper.semAt_some

theorem flat2 : ∀ (ss : List Spot) (j : Nat), j < ss.length * 2 → (ss.flatMap encS)[j]? = some ((encS ss.toArray[j / 2]!)[j % 2]!)
  | [], j, h => by simp at h
  | p :: ss, 0, _ => by simp
  | p :: ss, 1, _ => by simp
  | p :: ss, j + 2, h => by
    have ih := flat2 ss j (by simp at h; omega)
    have e1 : (j + 2) / 2 = j / 2 + 1 := by omega
    have e2 : (j + 2) % 2 = j % 2 := by omega
    rw [e1, e2]
    have hl : j / 2 < ss.length := by simp at h; omega
    have e3 : (p :: ss).toArray[j / 2 + 1]! = ss.toArray[j / 2]! := by
      rw [getElem!_pos _ _ (by simpa using hl), getElem!_pos _ _ (by simpa using hl)]
      simp
    rw [e3, ← ih]
    simp [List.flatMap_cons]

/-- the dots of a row of the call's own -/
def RowS (n₀ : Nat) (W : World) (v : Value) (ss : List Spot) : Prop :=
  (v = .slice none 0 0 ∧ ss = []) ∨ ∃ g cap, v = .slice (some ⟨g, 0, none⟩) ss.length cap ∧ n₀ ≤ g ∧ g < W.heap.size ∧ ∀ j, (h : j < ss.length) → W.cell? ⟨g, j * 2, none⟩ = some (.int .i64 ss[j].1) ∧ W.cell? ⟨g, j * 2 + 1, none⟩ = some (.int .i64 ss[j].2)

/-- the dots of a map, in order -/
def leS (x y : Spot) : Bool := !ltS y x
def keysS (en : List (Spot × Int)) : List Spot := (en.map (·.1)).mergeSort leS
theorem keysS_perm {en : List (Spot × Int)} {ss : List Spot} (hn : (en.map (·.1)).Nodup) (h1 : ss.Nodup) (h2 : ∀ p, p ∈ ss ↔ p ∈ en.map (·.1)) : ss.Perm (keysS en) :=
  ((List.perm_ext_iff_of_nodup h1 hn).2 h2).trans (List.mergeSort_perm _ _).symm
theorem leS_trans (a b c : Spot) (h1 : leS a b = true) (h2 : leS b c = true) : leS a c = true := by simp [leS, ltS] at *; omega
theorem leS_total (a b : Spot) : (leS a b || leS b a) = true := by simp [leS, ltS]; omega
theorem leS_anti (a b : Spot) (h1 : leS a b = true) (h2 : leS b a = true) : a = b := by
  simp [leS, ltS] at h1 h2
  exact Prod.ext (by omega) (by omega)
theorem keysS_uniq {en : List (Spot × Int)} {d : List Spot} (hp : d.Perm (keysS en)) (hs : d.Pairwise (fun a b => leS a b = true)) : d = keysS en :=
  List.Perm.eq_of_pairwise (le := fun a b => leS a b = true) (fun a b _ _ => leS_anti a b) hs (List.pairwise_mergeSort leS_trans leS_total _) hp
theorem keysS_length (en : List (Spot × Int)) : (keysS en).length = en.length := by unfold keysS; rw [List.length_mergeSort, List.length_map]

set_option maxHeartbeats 1000000 in
/-- slices.SortFunc at a row of dots of the call's own -/
theorem sortFunc_any (base : Nat) (v : Value) (ss : List Spot) (en : List (Spot × Int)) (w : World) (hrow : w.ownsRow base 85 2 v ss.length (ss.flatMap encS)) (hnn : ss ≠ []) (hp : ss.Perm (keysS en)) (hlen : ss.length ≤ 4294967296) :
    Calls Tryz.prog 107 #[v, .func (.func 79) #[] #[]] w fun e w' => e = .returned (.tuple #[]) ∧ RowS base w' v (keysS en) ∧ Below base w w' := by
  have hl0 : 0 < ss.length := List.length_pos_iff.2 hnn
  rcases hrow.2 with ⟨_, h0⟩ | ⟨g, cap, cur, rfl, hbase, hgb, hr1, hr2, hr3, hr4⟩
  · omega
  have hg : g < w.heap.size := (Array.getElem?_eq_some_iff.1 hgb).1
  have hH : HoldsK encS 2 w g 0 ss.toArray := by
    intro j hj
    rw [size_flatK, List.size_toArray] at hj
    refine ⟨?_, hrow.frozenAt (0 + j)⟩
    rw [get_flatK _ _ _ _ (by simpa using hj), Nat.zero_add]
    exact (hrow.cellAt j (by omega)).trans (flat2 ss j hj)
  have eg : ∀ args w, (callFunc 79 args).run Tryz.prog w = .ok (.enter 79 args) w := enters_of Tryz.func79 (by kernel_rfl) rfl
  have hcon := AnyQ.slices_SortFunc Go.Proofs.Tryz.sortSpot 2 Tryz.isAgg85 Tryz.sizeOf85 encS (fun _ => rfl) (fun x v hv => by simp at hv; rcases hv with rfl | rfl <;> rfl) cmpS swoS 79 #[] g 0 cap ss.toArray w eg (cmpLaysS g 0 ss.toArray.size w) hH hg (by simp; omega)
  change Calls Tryz.prog 107 _ _ _ at hcon
  rw [List.size_toArray] at hcon
  refine hcon.mono ?_
  rintro e w' ⟨rfl, d', n, os, hperm, hsort, rfl⟩
  obtain ⟨hsz, -, hpm⟩ := hperm
  have hd : d'.toList = keysS en := by
    refine keysS_uniq ?_ ?_
    · have h1 : d'.extract 0 ss.length = d' := by
        have : d'.size = ss.length := by rw [hsz]; simp
        rw [← this]; exact Array.extract_size
      have h2 : ss.toArray.extract 0 ss.length = ss.toArray := by
        have : ss.toArray.size = ss.length := by simp
        rw [← this]; exact Array.extract_size
      rw [h1, h2] at hpm
      exact hpm.trans hp
    · rw [List.pairwise_iff_getElem]
      intro i j hi hj hij
      have hj' : j < d'.size := by simpa using hj
      have hs := hsort i j (Nat.zero_le _) hij (by rw [hsz] at hj'; simpa using hj')
      rw [getElem!_pos d' j hj', getElem!_pos d' i (by omega), ltOf_cmpS] at hs
      simp [leS, hs]
  have hH2 := holdsK_sortWorldK_c encS 2 w g 0 ss.toArray d' n os hH hg (by rw [hsz])
  refine ⟨rfl, .inr ⟨g, cap, ?_, hbase, ?_, ?_⟩, ?_⟩
  · rw [keysS_length]
    have := hp.length_eq
    rw [keysS_length] at this
    rw [this]
  · exact Nat.lt_of_lt_of_le hg (size_sortWorldK_c encS 2 w g 0 n d' os)
  · intro j hj
    have hjd : j < d'.size := by rw [← Array.length_toList, hd]; exact hj
    have c0 := (hH2.cell hjd (c := 0) (by omega)).1
    have c1 := (hH2.cell hjd (c := 1) (by omega)).1
    have he : d'[j]! = (keysS en)[j] := by
      rw [getElem!_pos d' j hjd]
      simp only [← hd]
      rfl
    rw [he] at c0 c1
    simp only [Nat.zero_add, Nat.add_zero] at c0 c1
    exact ⟨c0, c1⟩
  · refine (Below.refl base w).grown (row := some g) ⟨rfl, rfl, rfl, size_sortWorldK_c encS 2 w g 0 n d' os, fun k hk hne => ?_⟩ ?_ (fun k e => by cases e; exact hbase)
    · unfold sortWorldK
      rw [heap_grow_old _ _ (by rw [size_putRowK]; exact hk)]
      have : g ≠ k := fun e => hne (by rw [e])
      simp [putRowK, putRow, mapBlock, Sort.ahead, Array.getElem?_modify, this]
    · exact Nat.le_trans hbase (Nat.le_of_lt hg)
end Go.Proofs.YtjfdbigkbgolmaaGreatDoor
