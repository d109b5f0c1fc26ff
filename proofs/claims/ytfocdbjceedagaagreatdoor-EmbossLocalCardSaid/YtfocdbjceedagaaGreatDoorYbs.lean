/-
  Parts.
-/
import Derived.Test.YtfocdbjceedagaaGreatDoorYbr
set_option linter.unusedVariables false
set_option linter.unusedSimpArgs false
namespace Go.Proofs.YtfocdbjceedagaaGreatDoor
section
open Go Go.RowKit Go.Shelf Go.Lib
attribute [local go_sem] Oper.semAt_some
attribute [local go_sem ↓] Go.wp_at_zero Go.wp_at_succ
structure GWd (bm bs bp:Nat)(ev fv wv pv:Value)(s:Sh)(dv kv lv:Value)(l:List Pc)(ws:List Wy)(pl:Pn)(W:World):Prop where
 m:Blk W bm #[ev,fv,wv,pv] 37
 s:Blk W bs #[.int .i64 s.ax,.int .i64 s.ay,.int .i64 s.st,.int .i64 s.w,.int .i64 s.h,.int .i64 s.g] 28
 p:Blk W bp #[dv,kv,lv] 45
 M:MapOk W wv pv l ws
 P:PlanIn W (a4t dv kv lv) pl
section
variable {bm bs bp:Nat}{ev fv wv pv:Value}{s:Sh}{dv kv lv:Value}{l:List Pc}{ws:List Wy}{pl:Pn}{W W':World}
theorem GWd.up (h:GWd bm bs bp ev fv wv pv s dv kv lv l ws pl W)(hb:Below W.heap.size W W'):GWd bm bs bp ev fv wv pv s dv kv lv l ws pl W' :=
 ⟨h.m.below hb h.m.lt,h.s.below hb h.s.lt,h.p.below hb h.p.lt,h.M.up hb,h.P.up hb⟩
theorem GWd.cells (h:GWd bm bs bp ev fv wv pv s dv kv lv l ws pl W):(W.cell? ⟨bm,0,none⟩=some ev∧W.cell? ⟨bm,1,none⟩=some fv∧W.cell? ⟨bm,2,none⟩=some wv∧W.cell? ⟨bm,3,none⟩=some pv)∧(W.cell? ⟨bs,0,none⟩=some (.int .i64 s.ax)∧W.cell? ⟨bs,1,none⟩=some (.int .i64 s.ay)∧W.cell? ⟨bs,2,none⟩=some (.int .i64 s.st)∧W.cell? ⟨bs,3,none⟩=some (.int .i64 s.w)∧W.cell? ⟨bs,4,none⟩=some (.int .i64 s.h)∧W.cell? ⟨bs,5,none⟩=some (.int .i64 s.g))∧(W.cell? ⟨bp,0,none⟩=some dv∧W.cell? ⟨bp,1,none⟩=some kv∧W.cell? ⟨bp,2,none⟩=some lv) :=
 ⟨⟨h.m.cell 0,h.m.cell 1,h.m.cell 2,h.m.cell 3⟩,⟨h.s.cell 0,h.s.cell 1,h.s.cell 2,h.s.cell 3,h.s.cell 4,h.s.cell 5⟩,⟨h.p.cell 0,h.p.cell 1,h.p.cell 2⟩⟩
theorem GWd.parts (h:GWd bm bs bp ev fv wv pv s dv kv lv l ws pl W):(Lst dtE W.heap.size W dv pl.dots∧Frm dv pl.dots.length)∧(Lst keE W.heap.size W kv pl.keys∧Frm kv pl.keys.length)∧Lst lfE W.heap.size W lv pl.left∧Frm lv pl.left.length:=by
 obtain⟨d,k,x,hpv,h1,h2,h3⟩:=h.P.ex;simp only[Value.agg.injEq,Array.mk.injEq,List.cons.injEq,and_true] at hpv;obtain⟨rfl,rfl,rfl⟩:=hpv;exact⟨h1,h2,h3⟩
end
end
end Go.Proofs.YtfocdbjceedagaaGreatDoor
