/-
  A whole value stored into a block that is known whole, at a step of a region that draws its order, and in a plain region.
-/
import Derived.Test.YtjfdbigkbgolmaaDoorB0
import Derived.Laws.Tables
import Derived.Laws.Rows
namespace Go.Proofs.YtjfdbigkbgolmaaDoor
open Go.RowKit Go.Shelf

section
variable {P : Program}
theorem setRow_grown {W : World} {B : Nat} {c : Array Value} {t : TypeId} (h : Blk W B c t) (cs : Array Value) : Blk (W.setRow B cs) B cs t ∧ W.grownBy (W.setRow B cs) (some B) :=
  ⟨setRow_heap W B c cs t (0, 0) h, rfl, rfl, rfl, by simp [World.setRow], fun k _ hk => setRow_other W B k _ (fun e => hk (by rw [e]))⟩
theorem step_store_blk {ops : Array Oper} {o : Oper} {a : Act} {w : World} {K : Act → World → Prop} {Q : Exit → Act → World → Prop} {E : Prop} (hgd : o.guard = none) (ty : TypeId) (x y : Operand) (ho : o.op = .store ty x y)
    (B : Nat) (cs : Array Value) (hx : a.eval x = .pointer (some ⟨B, 0, none⟩)) (hy : a.eval y = .agg cs) (t : TypeId) (old : Array Value) (hB : Blk w B old t) (hi : (P.info? ty).map (·.size) = some cs.size)
    (hold : old.size = cs.size) (h1 : cs.all (·.oneCell') = true) (h : ∀ w', Blk w' B cs t → w.grownBy w' (some B) → K (a.put o.dst undef) w') :
    if Region.wanted o (yielded ops a.tmps) = true then Oper.wp P o a w K Q else E := by
  have hw : Region.wanted o (yielded ops a.tmps) = true := by simp [Region.wanted, hgd]
  rw [if_pos hw]
  obtain ⟨k1, k2⟩ := setRow_grown hB cs
  exact wp_store_row ty x y ho B cs hx hy t old hB hi hold h1 (h _ k1 k2)
theorem wpList_store_blk {ops : Array Oper} {rest : List Oper} {o : Oper} {a : Act} {w : World} {Q : Exit → Act → World → Prop} (hgd : o.guard = none) (ty : TypeId) (x y : Operand) (ho : o.op = .store ty x y)
    (B : Nat) (cs : Array Value) (hx : a.eval x = .pointer (some ⟨B, 0, none⟩)) (hy : a.eval y = .agg cs) (t : TypeId) (old : Array Value) (hB : Blk w B old t) (hi : (P.info? ty).map (·.size) = some cs.size)
    (hold : old.size = cs.size) (h1 : cs.all (·.oneCell') = true) (h : ∀ w', Blk w' B cs t → w.grownBy w' (some B) → wpList P ops Q rest (a.put o.dst undef) w') : wpList P ops Q (o :: rest) a w :=
  wpList_plain hgd fun _ hK => by
    obtain ⟨k1, k2⟩ := setRow_grown hB cs
    exact wp_store_row ty x y ho B cs hx hy t old hB hi hold h1 (hK _ _ (h _ k1 k2))
end
end Go.Proofs.YtjfdbigkbgolmaaDoor
