/-
  Chapter 29: strings.Builder's WriteByte at a builder that the call itself has made.
  Chapter 29: braille.Right, words and the closure of Write, at the text "1".
  Chapter 29: braille.Write at the text "1".
-/
import Derived.Test.YtjfdbigkbgolmaaGreatDoorZf
import Derived.Lib.FrozenHead2
import Derived.Lib.OthersKept
import Derived.Laws.RangeString
import Derived.Deep.WholeRow
namespace Go.Proofs.YtjfdbigkbgolmaaGreatDoor
set_option linter.unusedVariables false
set_option linter.unusedSimpArgs false
open Go.RowKit Go.Shelf
attribute [local go_sem] Oper.semAt_some

theorem infoByte : (Tryz.prog.info? 5).map (fun i => (i.zero, i.size, i.bytes)) = some (some (.int .u8 0), 1, 1) := by kernel_rfl
theorem infoByte_parts : ∃ i, Tryz.prog.info? 5 = some i ∧ i.zero = some (.int .u8 0) ∧ i.size = 1 ∧ i.bytes = 1 := by
  obtain ⟨i, hi, h⟩ := Option.map_eq_some_iff.1 infoByte
  simp only [Prod.mk.injEq] at h
  exact ⟨i, hi, h.1, h.2.1, h.2.2⟩

theorem copyCheck_k (B b : Nat) (bs : List Value) (w : World) (h : Lib.IsBuilderF 113 5 B b bs w) :
    Calls Tryz.prog 97 #[.pointer (some ⟨b, 0, none⟩)] w fun e w' => e = .returned (.tuple #[]) ∧ (Lib.BuilderAtF 113 5 B b (.pointer (some ⟨b, 0, none⟩)) bs w' ∧ Below B w w' ∧ Lib.OthersKept 5 (some b) w w') := by
  rcases h with h | h
  · refine (copyCheck_fresh b w h.cell0 h.shape h.frozen0).mono ?_
    rintro e w' ⟨rfl, rfl⟩
    exact ⟨rfl, h.used _, (Below.refl B w).setCell (p := ⟨b, 0, none⟩) h.1 _, (Lib.OthersKept.refl _ _ w).setCell ⟨b, 0, none⟩ rfl _⟩
  · refine (copyCheck_used b w h.cell0).mono ?_
    rintro e w' ⟨rfl, rfl⟩
    exact ⟨rfl, h, Below.refl B _, Lib.OthersKept.refl _ _ _⟩

set_option maxHeartbeats 2000000 in
set_option maxRecDepth 100000 in
theorem writeByte_k (B b : Nat) (bs : List Value) (c : Int) (w : World) (h : Lib.IsBuilderF 113 5 B b bs w) (hlen : bs.length + 1 ≤ 140737488355328) (hBw : B ≤ w.heap.size) :
    Calls Tryz.prog 54 #[.pointer (some ⟨b, 0, none⟩), .int .u8 c] w fun e w' => e = .returned .nilIface ∧ (Lib.BuilderAtF 113 5 B b (.pointer (some ⟨b, 0, none⟩)) (bs ++ [.int .u8 c]) w' ∧ Below B w w' ∧ Lib.OthersKept 5 (some b) w w') := by
  obtain ⟨i0, hi, hz0, hz1, hz2⟩ := infoByte_parts
  go_enter Tryz.func54, Tryz.ntmps54
  go_wp2_with (go_at_call 97; refine (copyCheck_k B b bs _ h).mono ?_)
  rintro e w1 ⟨rfl, h1, hb1, hk1⟩
  obtain ⟨hB, v, hbk, hown, hne⟩ := h1
  have c0 : w1.cell? ⟨b, 0, none⟩ = some (.pointer (some ⟨b, 0, none⟩)) := by rw [Lib.cell_of_heap hbk]; rfl
  have c1 : w1.cell? ⟨b, 1, none⟩ = some v := by rw [Lib.cell_of_heap hbk]; rfl
  go_wp2_with (at_builtin; refine wpList_append_ownF _ rfl _ _ 79 rfl B 5 i0 (.int .u8 0) 1 1 Tryz.underlying79 hi hz0 hz1 hz2 rfl (by decide) _ _ _ rfl (hown.alloc _) ⟨w1.heap.size, 0, none⟩ 1 1 [.int .u8 c] rfl rfl ?c1 ?c2 ?c3 ?c4 ?c5 ?_)
  case c1 =>
    intro j u hj
    match j, hj with
    | 0, hj => simp at hj; subst hj; simp [Addr.add]
  case c2 => intro u hu; simp at hu; subst hu; rfl
  case c3 => unfold maxLen; omega
  case c4 => omega
  case c5 => have := hb1.size; simp; omega
  intro v' w2 hown' hgrow _
  have hlt : b < w1.heap.size := by
    rcases Nat.lt_or_ge b w1.heap.size with h' | h'
    · exact h'
    · simp [Array.getElem?_eq_none h'] at hbk
  have hb2 : w2.heap[b]? = some (.cells #[.pointer (some ⟨b, 0, none⟩), v] 113 (0, 0)) := by
    rw [hgrow.block b (by simp; omega) (fun e => hne e.symm), Lib.alloc_old w1 _ b hlt]
    exact hbk
  have d0 : w2.cell? ⟨b, 0, none⟩ = some (.pointer (some ⟨b, 0, none⟩)) := by rw [Lib.cell_of_heap hb2]; rfl
  have d1 : w2.cell? ⟨b, 1, none⟩ = some v := by rw [Lib.cell_of_heap hb2]; rfl
  have f1 : w2.frozen? ⟨b, 1, none⟩ = false := Lib.frozen_of_heap hb2 1
  obtain ⟨g, cap, rfl⟩ : ∃ g cap, v' = .slice (some ⟨g, 0, none⟩) (bs.length + 1) cap := by
    rcases hown'.2 with ⟨_, h0⟩ | ⟨g, cap, cur, fz, hv, _⟩
    · omega
    · exact ⟨g, cap, hv⟩
  go_wp2
  go_ret
  refine ⟨rfl, ?_, ?_, ((hk1.alloc _).grown hgrow (Lib.ownsRowF_kind (hown.alloc _))).setCell ⟨b, 1, none⟩ rfl _⟩
  · exact Lib.BuilderAtF.put (T := 113) (e := 5) hB hb2 (bs' := bs ++ [.int .u8 c]) (by simpa using hown') (by decide)
  · exact ((hb1.alloc (by have := hb1.size; omega) _).grown hgrow (by have := hb1.size; simp; omega) (fun k hk => (hown.lt k hk).1)).setCell (p := ⟨b, 1, none⟩) hB _
end Go.Proofs.YtjfdbigkbgolmaaGreatDoor
namespace Go.Proofs.YtjfdbigkbgolmaaGreatDoor
set_option linter.unusedVariables false
set_option linter.unusedSimpArgs false
open Go.RowKit Go.Shelf
attribute [local go_sem] Oper.semAt_some

def one : ByteArray := ⟨#[49]⟩

set_option maxRecDepth 100000 in
set_option maxHeartbeats 2000000 in
theorem right_one (w : World) : Calls Tryz.prog 69 #[.string one] w fun e w' => e = .returned (.bool true) ∧ Below w.heap.size w w' := by
  have h0 : ∀ (v : World) ty, (Instr.next (.pointer (some ⟨v.heap.size, 0, none⟩)) true ty).run Tryz.prog (v.iter one 0) = .ok (.tuple #[.bool true, .int .i64 0, .int .i32 49]) (v.iter one 1) := fun v ty => run_next_ascii v one 0 ty (by decide) (by decide)
  have h1 : ∀ (v : World) ty, (Instr.next (.pointer (some ⟨v.heap.size, 0, none⟩)) true ty).run Tryz.prog (v.iter one 1) = .ok (.tuple #[.bool false]) (v.iter one 1) := fun v ty => run_next_end v one 1 ty (by decide)
  go_enter Tryz.func69, Tryz.ntmps69
  go_wp2_with fail
  refine wp_loop_rounds 3 ?_
  rw [rounds_succ]
  go_wp2_with fail
  rw [rounds_succ]
  go_wp2_with fail
  go_ret
  exact ⟨rfl, (Below.refl _ _).alloc (Nat.le_refl _) _⟩

def wordsC : Array Value := #[.string ⟨#[119, 105, 116, 104]⟩, .string ⟨#[116, 104, 101]⟩, .string ⟨#[97, 110, 100]⟩, .string ⟨#[102, 111, 114]⟩, .string ⟨#[105, 110, 103]⟩, .string ⟨#[111, 102]⟩, .string ⟨#[99, 104]⟩, .string ⟨#[115, 104]⟩, .string ⟨#[116, 104]⟩, .string ⟨#[115, 116]⟩, .string ⟨#[101, 114]⟩]
def wordsL : List ByteArray := [⟨#[119, 105, 116, 104]⟩, ⟨#[116, 104, 101]⟩, ⟨#[97, 110, 100]⟩, ⟨#[102, 111, 114]⟩, ⟨#[105, 110, 103]⟩, ⟨#[111, 102]⟩, ⟨#[99, 104]⟩, ⟨#[115, 104]⟩, ⟨#[116, 104]⟩, ⟨#[115, 116]⟩, ⟨#[101, 114]⟩]

set_option maxRecDepth 100000 in
set_option maxHeartbeats 2000000 in
theorem words_any (w : World) : Calls Tryz.prog 71 #[] w fun e w' => e = .returned (.slice (some ⟨w.heap.size, 0, none⟩) 11 11) ∧ w' = w.alloc (.cells wordsC 9) := by
  go_enter Tryz.func71, Tryz.ntmps71
  go_wp2_with fail
  go_ret
  exact ⟨rfl, rfl⟩

set_option maxRecDepth 100000 in
set_option maxHeartbeats 2000000 in
theorem write1_one (x : ByteArray) (sb kb : Nat) (w : World) (hs : w.cell? ⟨sb, 0, none⟩ = some (.string one)) (hk : w.cell? ⟨kb, 0, none⟩ = some (.int .i64 0)) :
    Calls Tryz.prog 72 #[.string x, .pointer (some ⟨sb, 0, none⟩), .pointer (some ⟨kb, 0, none⟩)] w fun e w' => e = .returned (.bool (Lib.hasPrefix [49] x.data.toList)) ∧ w' = w := by
  go_enter Tryz.func72, Tryz.ntmps72
  go_wp2_with (go_at_call 73; refine (Tryz.strings_HasPrefix _ _ _).mono ?_; rintro e w' ⟨rfl, rfl⟩)
  go_ret
  exact ⟨rfl, rfl⟩
end Go.Proofs.YtjfdbigkbgolmaaGreatDoor
namespace Go.Proofs.YtjfdbigkbgolmaaGreatDoor
set_option linter.unusedVariables false
set_option linter.unusedSimpArgs false
open Go.RowKit Go.Shelf
attribute [local go_sem] Oper.semAt_some

/-- what lies in memory while Write writes: the text, the place in it, and the builder -/
structure BW (B sb b kb : Nat) (s : ByteArray) (k : Int) (l : List UInt8) (w0 w : World) : Prop where
  below : Below B w0 w
  sbk : w.heap[sb]? = some (.cells #[.string s] 9 (0, 0))
  kbk : w.heap[kb]? = some (.cells #[.int .i64 k] 3 (0, 0))
  bld : Lib.IsBuilderF 113 5 B b (Lib.byteCells l) w
  kB : B ≤ kb
  neb : kb ≠ b
  nes : sb ≠ b
  nek : sb ≠ kb
theorem lt_of_heap {w : World} {k : Nat} {o : Obj} (h : w.heap[k]? = some o) : k < w.heap.size := (Array.getElem?_eq_some_iff.1 h).1

section
variable {B sb b kb : Nat} {s : ByteArray} {k : Int} {l : List UInt8} {w0 w : World}
theorem BW.le (h : BW B sb b kb s k l w0 w) : B ≤ w.heap.size := Nat.le_of_lt (Nat.lt_of_le_of_lt h.kB (lt_of_heap h.kbk))
theorem BW.alloc (h : BW B sb b kb s k l w0 w) (o : Obj) : BW B sb b kb s k l w0 (w.alloc o) where
  below := h.below.alloc h.le o
  sbk := by rw [Lib.alloc_old w o sb (lt_of_heap h.sbk)]; exact h.sbk
  kbk := by rw [Lib.alloc_old w o kb (lt_of_heap h.kbk)]; exact h.kbk
  bld := h.bld.alloc o
  kB := h.kB
  neb := h.neb
  nes := h.nes
  nek := h.nek
theorem BW.drewN (h : BW B sb b kb s k l w0 w) (n : Nat) : BW B sb b kb s k l w0 (w.drewN n) where
  below := below_drewN' h.below n
  sbk := h.sbk
  kbk := h.kbk
  bld := h.bld
  kB := h.kB
  neb := h.neb
  nes := h.nes
  nek := h.nek
theorem BW.cs (h : BW B sb b kb s k l w0 w) : w.cell? ⟨sb, 0, none⟩ = some (.string s) := by rw [Lib.cell_of_heap h.sbk]; rfl
theorem BW.ck (h : BW B sb b kb s k l w0 w) : w.cell? ⟨kb, 0, none⟩ = some (.int .i64 k) := by rw [Lib.cell_of_heap h.kbk]; rfl
theorem BW.fk (h : BW B sb b kb s k l w0 w) : w.frozen? ⟨kb, 0, none⟩ = false := Lib.frozen_of_heap h.kbk 0
theorem BW.byte (h : BW B sb b kb s k l w0 w) (c : UInt8) (hl : l.length + 1 ≤ 140737488355328) :
    Calls Tryz.prog 54 #[.pointer (some ⟨b, 0, none⟩), .int .u8 c.toNat] w fun e w' => e = .returned .nilIface ∧ BW B sb b kb s k (l ++ [c]) w0 w' := by
  refine (writeByte_k B b (Lib.byteCells l) c.toNat w h.bld (by rw [Lib.byteCells_length]; exact hl) h.le).mono ?_
  rintro e w' ⟨rfl, h1, h2, h3⟩
  refine ⟨rfl, h.below.trans h2, h3 sb _ h.sbk (fun e => h.nes (Option.some.inj e)) (fun c fz e => by cases e), h3 kb _ h.kbk (fun e => h.neb (Option.some.inj e)) (fun c fz e => by cases e), ?_, h.kB, h.neb, h.nes, h.nek⟩
  rw [show Lib.byteCells (l ++ [c]) = Lib.byteCells l ++ [.int .u8 c.toNat] from by simp [Lib.byteCells]]
  exact .inr h1
theorem BW.setk (h : BW B sb b kb s k l w0 w) (k' : Int) : BW B sb b kb s k' l w0 (w.setCell ⟨kb, 0, none⟩ (.int .i64 k')) where
  below := h.below.setCell (p := ⟨kb, 0, none⟩) h.kB _
  sbk := by rw [Below.heap_setCell _ _ _ _ h.nek]; exact h.sbk
  kbk := by
    unfold World.setCell
    simp [Array.getElem?_modify, h.kbk]
  bld := by
    have key : ∀ p, Lib.BuilderAtF 113 5 B b p (Lib.byteCells l) w → Lib.BuilderAtF 113 5 B b p (Lib.byteCells l) (w.setCell ⟨kb, 0, none⟩ (.int .i64 k')) := by
      rintro p ⟨hB, v, hb, hown, hne⟩
      refine ⟨hB, v, by rw [Below.heap_setCell _ _ _ _ (fun e => h.neb e.symm)]; exact hb, ?_, hne⟩
      refine ⟨hown.1, hown.2.imp id ?_⟩
      rintro ⟨g, cap, cur, fz, rfl, h1, h2, h3⟩
      refine ⟨g, cap, cur, fz, rfl, h1, ?_, h3⟩
      rw [Below.heap_setCell _ _ _ _ (fun e => by subst e; rw [h.kbk] at h2; cases h2)]
      exact h2
    exact h.bld.imp (key _) (key _)
  kB := h.kB
  neb := h.neb
  nes := h.nes
  nek := h.nek
/-- a new place in the text, in a block of its own -/
theorem BW.newk (h : BW B sb b kb s k l w0 w) (k' : Int) : BW B sb b w.heap.size s k' l w0 (w.alloc (.cells #[.int .i64 k'] 3)) where
  below := h.below.alloc h.le _
  sbk := by rw [Lib.alloc_old w _ sb (lt_of_heap h.sbk)]; exact h.sbk
  kbk := heap_alloc_last w _
  bld := h.bld.alloc _
  kB := h.le
  neb := by
    have hb : b < w.heap.size := by rcases h.bld with h1 | h1 <;> exact h1.lt
    omega
  nes := h.nes
  nek := Nat.ne_of_lt (lt_of_heap h.sbk)
end

theorem idx_none {p : ByteArray → Bool} : ∀ (zs : List ByteArray) (i : Nat), (∀ x ∈ zs, p x = false) → Lib.idxByFrom (fun _ y => p y) default zs i = -1
  | [], _, _ => rfl
  | y :: r, i, h => by
    unfold Lib.idxByFrom
    rw [h y (List.mem_cons_self ..)]
    exact idx_none r (i + 1) (fun x hx => h x (List.mem_cons_of_mem _ hx))

theorem wpList_index_as {P : Program} {ops : Array Oper} {rest : List Oper} {o : Oper} {a : Act} {w : World} {Q : Exit → Act → World → Prop} (hg : o.guard = none) (t : TypeId) (x y : Operand) (ho : o.op = .index t x y) (s : ByteArray) (k : IntKind) (i : Int) (hx : a.eval x = .string s) (hy : a.eval y = .int k i)
    (hu : P.underlying t = some .string) (c : Int) (h0 : 0 ≤ i) (h1 : i < s.size) (hc : ((s[i.toNat]'(by omega)).toNat : Int) = c) (h : wpList P ops Q rest (a.put o.dst (.int .u8 c)) w) : wpList P ops Q (o :: rest) a w := by
  refine wpList_plain hg fun K hK => ?_
  unfold Oper.wp execOp
  simp only [ho, hx, hy, Sem.run_bind, run_index_string w t s k i hu]
  rw [dif_pos ⟨h0, h1⟩]
  simp only [Result.andThen_ok, Sem.run_pure]
  subst hc
  exact hK _ _ h

/-- no word stands at the head of "1" -/
theorem index_one (sb kb : Nat) (w : World) (hs : w.cell? ⟨sb, 0, none⟩ = some (.string one)) (hk : w.cell? ⟨kb, 0, none⟩ = some (.int .i64 0)) :
    Calls Tryz.prog 70 #[.slice (some ⟨w.heap.size, 0, none⟩) 11 11, .func (.func 72) #[] #[.pointer (some ⟨sb, 0, none⟩), .pointer (some ⟨kb, 0, none⟩)]] (w.alloc (.cells wordsC 9)) fun e w' => e = .returned (.int .i64 (-1)) ∧ ∃ q, w' = (w.alloc (.cells wordsC 9)).drewN q := by
  have hc : ∀ j, j < wordsL.length → (w.alloc (.cells wordsC 9)).cell? ⟨w.heap.size, 0 + j, none⟩ = some (Value.string wordsL[j]!) := by
    intro j hj
    refine (cell_of_block (heap_alloc_last w _) (0 + j)).trans ?_
    match j, hj with
    | 0, _ => rfl
    | 1, _ => rfl
    | 2, _ => rfl
    | 3, _ => rfl
    | 4, _ => rfl
    | 5, _ => rfl
    | 6, _ => rfl
    | 7, _ => rfl
    | 8, _ => rfl
    | 9, _ => rfl
    | 10, _ => rfl
    | j + 11, h => exact absurd h (by simp [wordsL])
  have hp : PredAt Tryz.prog 72 #[.pointer (some ⟨sb, 0, none⟩), .pointer (some ⟨kb, 0, none⟩)] Value.string (fun x => Lib.hasPrefix [49] x.data.toList) (w.alloc (.cells wordsC 9)) := by
    intro W x hb
    have lt1 : sb < w.heap.size := World.block_lt_of_cell? _ _ hs
    have lt2 : kb < w.heap.size := World.block_lt_of_cell? _ _ hk
    refine (write1_one x sb kb W ?_ ?_).mono ?_
    · rw [hb.cell (p := ⟨sb, 0, none⟩) (by rw [World.size_alloc]; simp only; omega), World.cell?_alloc_lt w _ _ lt1]; exact hs
    · rw [hb.cell (p := ⟨kb, 0, none⟩) (by rw [World.size_alloc]; simp only; omega), World.cell?_alloc_lt w _ _ lt2]; exact hk
    · rintro e w' ⟨rfl, rfl⟩
      exact ⟨rfl, 0, rfl⟩
  refine (Tryz.slices_IndexFunc_f70 Value.string (fun x => Lib.hasPrefix [49] x.data.toList) 72 _ (enters_of Tryz.func72 (by kernel_rfl) rfl) w.heap.size 0 11 11 wordsL _ hp (by decide) (by decide) hc).mono ?_
  rintro e w' ⟨rfl, h⟩
  refine ⟨?_, h⟩
  have : Lib.idxBy (fun _ y => Lib.hasPrefix [49] y.data.toList) (wordsL.take 11) default = -1 := idx_none _ 0 (by decide +kernel)
  rw [this]

theorem BW.start (w : World) (s : ByteArray) (p : Growth) :
    BW w.heap.size w.heap.size (w.heap.size + 1 + p.objs.size) (w.heap.size + 1 + p.objs.size + 1) s 0 [] w
      ((((w.alloc (.cells #[.string s] 9)).growBy p).alloc (.cells #[.pointer none, .slice none 0 0] 113)).alloc (.cells #[.int .i64 0] 3)) := by
  obtain ⟨W, hW⟩ : ∃ W, (w.alloc (.cells #[.string s] 9)).growBy p = W := ⟨_, rfl⟩
  have hs : W.heap.size = w.heap.size + 1 + p.objs.size := by rw [← hW]; simp
  have hh : W.heap[w.heap.size]? = some (.cells #[.string s] 9 (0, 0)) := by
    rw [← hW, World.heap_growBy _ _ (by simp)]
    exact heap_alloc_last w _
  have hbl : Below w.heap.size w W := by rw [← hW]; exact (by repeat' (first | with_reducible exact Below.refl _ _ | with_reducible exact Nat.le_refl _ | with_reducible assumption | with_reducible refine Go.below_growBy' ?_ ?_ _ | with_reducible refine Below.alloc ?_ ?_ _ | with_reducible refine Below.setCell ?_ ?_ _ | with_reducible refine Below.drew ?_ | with_reducible refine Go.le_alloc ?_ | with_reducible refine Go.le_growBy ?_ | with_reducible refine Go.le_setCell ?_ | with_reducible refine Go.le_drew ?_ | omega | (dsimp only; omega)))
  rw [hW, ← hs]
  have hs2 : (W.alloc (.cells #[.pointer none, .slice none 0 0] 113)).heap.size = W.heap.size + 1 := by simp
  refine ⟨(hbl.alloc (by omega) _).alloc (by rw [hs2]; omega) _, ?_, ?_, ?_, by omega, by omega, by omega, by omega⟩
  · rw [Lib.alloc_old _ _ _ (by rw [hs2]; omega), Lib.alloc_old _ _ _ (by omega)]; exact hh
  · rw [← hs2]; exact heap_alloc_last _ _
  · refine Lib.IsBuilderF.alloc (.inl ⟨by omega, .slice none 0 0, heap_alloc_last _ _, ⟨rfl, .inl ⟨rfl, rfl⟩⟩, by simp [Value.ownBlock]⟩) _

theorem sign_one (w : World) : Calls Tryz.prog 75 #[.string ⟨#[32, 44, 39, 45, 46]⟩, .int .u8 49] w fun e w' => e = .returned (.int .i64 (-1)) ∧ w' = w := by
  refine (Tryz.strings_IndexByte _ _ _).mono ?_
  rintro e w' ⟨rfl, rfl⟩
  have : Lib.indexByte (⟨#[32, 44, 39, 45, 46]⟩ : ByteArray).data.toList (49 : Int).toNat.toUInt8 = -1 := by decide +kernel
  exact ⟨by rw [this], rfl⟩
theorem BW.byte' {B sb b kb : Nat} {s : ByteArray} {k : Int} {l : List UInt8} {w0 w : World} (h : BW B sb b kb s k l w0 w) (u : UInt8) (c : Int) (hc : (u.toNat : Int) = c) (hl : l.length + 1 ≤ 140737488355328) :
    Calls Tryz.prog 54 #[.pointer (some ⟨b, 0, none⟩), .int .u8 c] w fun e w' => e = .returned .nilIface ∧ BW B sb b kb s k (l ++ [u]) w0 w' := by
  subst hc
  exact h.byte u hl

set_option maxRecDepth 100000 in
set_option maxHeartbeats 4000000 in
theorem write_one (w : World) : Calls Tryz.prog 30 #[.string one] w fun e w' => e = .returned (.tuple #[.string ⟨#[60, 1]⟩, .int .i64 0]) ∧ Below w.heap.size w w' := by
  go_enter Tryz.func30, Tryz.ntmps30
  go_wp2_with (first
    | (go_at_call 69; refine (right_one _).mono ?_; rintro e w' ⟨rfl, hb_⟩; obtain ⟨p, rfl⟩ := grow_of_below hb_; clear hb_)
    | fail)
  have hB := BW.start w one p
  obtain ⟨W, hW⟩ : ∃ W, ((((w.alloc (.cells #[.string one] 9)).growBy p).alloc (.cells #[.pointer none, .slice none 0 0] 113)).alloc (.cells #[.int .i64 0] 3)) = W := ⟨_, rfl⟩
  obtain ⟨b, hb⟩ : ∃ b, w.heap.size + 1 + p.objs.size = b := ⟨_, rfl⟩
  rw [hW] at hB ⊢
  rw [hb] at hB ⊢
  obtain ⟨kb, hkb⟩ : ∃ kb, b + 1 = kb := ⟨_, rfl⟩
  obtain ⟨sb, hsb⟩ : ∃ sb, w.heap.size = sb := ⟨_, rfl⟩
  rw [hkb] at hB ⊢
  rw [hsb] at hB ⊢
  have hcs := hB.cs
  have hck := hB.ck
  have hfk := hB.fk
  have hsb' := Lib.hid hsb
  clear hkb hsb hb hW
  have hsz : one.size = 1 := by decide +kernel
  have hch : (one[0]'(by decide)).toNat = 49 := by decide +kernel
  have hw60 : ∀ q, Calls Tryz.prog 54 #[.pointer (some ⟨b, 0, none⟩), .int .u8 60] ((W.alloc (.cells wordsC 9)).drewN q) fun e w' => e = .returned .nilIface ∧ BW sb sb b kb one 0 [60] w w' := fun q => ((hB.alloc _).drewN q).byte' 60 60 rfl (by simp)
  have hw1 : ∀ w1, BW sb sb b kb one 0 [60] w w1 → Calls Tryz.prog 54 #[.pointer (some ⟨b, 0, none⟩), .int .u8 1] w1 fun e w' => e = .returned .nilIface ∧ BW sb sb b kb one 0 [60, 1] w w' := fun w1 h => h.byte' 1 1 rfl (by simp)
  clear hB
  replace hw60 := Lib.hid hw60
  replace hw1 := Lib.hid hw1
  refine wp_loop_rounds 2 ?_
  rw [rounds_succ]
  go_wp2_with (first
    | (refine wpList_index_as (by rfl) 9 _ _ (by rfl) ⟨#[1, 3, 9, 25, 17, 11, 27, 19, 10, 26, 5, 7, 13, 29, 21, 15, 31, 23, 14, 30, 37, 39, 58, 45, 61, 53]⟩ .u8 0 (by rfl) (by rfl) Tryz.underlying9 1 (by decide) (by decide) (by decide +kernel) ?_)
    | (go_at_call 71; refine (words_any _).mono ?_; rintro e w' ⟨rfl, rfl⟩)
    | (go_at_call 70; refine (index_one sb kb _ hcs hck).mono ?_; rintro e w' ⟨rfl, q, rfl⟩)
    | (go_at_call 75; refine (sign_one _).mono ?_; rintro e w' ⟨rfl, rfl⟩)
    | (go_at_call 74; refine (digit_any _ true (by decide) _).mono ?_; rintro e w' ⟨rfl, rfl⟩)
    | (go_at_call 54; refine (hw1.out _ hB1).mono ?_; rintro e w2 ⟨rfl, hB2⟩; have cs2 := hB2.cs; have ck2 := hB2.ck; have fk2 := hB2.fk)
    | (go_at_call 54; refine (hw60.out _).mono ?_; rintro e w1 ⟨rfl, hB1⟩; have cs1 := hB1.cs; have ck1 := hB1.ck; have fk1 := hB1.fk)
    | fail)
  rw [rounds_succ]
  go_wp2_with (first
    | (go_at_call 55; refine (Tryz.Builder_String_any_k sb b [60, 1] _ (hB2.alloc _).bld (hB2.alloc _).le).mono ?_; rintro e w3 ⟨rfl, hI3, hb3, ho3⟩)
    | fail)
  go_ret2
  exact ⟨rfl, by rw [hsb'.out]; exact (hB2.below.alloc hB2.le _).trans hb3⟩
end Go.Proofs.YtjfdbigkbgolmaaGreatDoor
