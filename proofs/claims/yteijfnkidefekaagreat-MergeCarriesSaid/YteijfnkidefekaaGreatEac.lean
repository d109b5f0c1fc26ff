/-
  Parts.
-/
import Derived.WalkKit
import Derived.WalkSpells
import Derived.WalkLawsBesides
import Derived.Deep.Quiet
import Derived.Deep.QuietTactic
import Derived.BigQuiet
import Derived.Lib.Hide
import Derived.StillTail
import Derived.ProofKit
import Derived.OpenShut
import Derived.Deep.AppendLies
import Derived.Deep.AppendSrc
import Derived.Deep.RegionLaw
import Derived.Deep.CutBlock
import Derived.Deep.DeepCutAuto
import Derived.Deep.DrawnRows
import Ieee.Arith
import GoSem.Core.Float
import Derived.Lib.SliceRun
import Derived.Maps.OwnSet
import Derived.Maps.OwnIn
import Derived.DeepKeys4
import Derived.Sort.MapsRangeIn
import Derived.Sort.KeysCollected
import Derived.Maps.RangeWalk
import Derived.Laws.FloatArith
import Derived.RangeFuncOwn
import Derived.RangeFuncBox
import Derived.RangeFuncLeaves
import Derived.RangeFuncNested
import Derived.RangeFuncBound
import Derived.RangeFuncCalls
import Derived.RangeFuncSeq
import Derived.Laws.MakeOwn
import Derived.OwnWalkIn
import Derived.TacticsInMore
import Derived.RegionIn
import Derived.LoopNIn
import Derived.LoopIn
import Derived.OrdersIn
import Derived.RangeFuncWrites
import Derived.RangeFuncFrom
import Derived.Deep.WholeRow
import Derived.Laws.Rows
import Derived.Lib.FrozenHead2
import Derived.Lib.OthersKept
import Derived.Laws.RangeString
import Derived.Laws.IdiomStrings
import Derived.Deep.Slices
import Derived.Lib.Mul64
import Derived.Laws.Bits64b
import Derived.IntWalk
import Derived.Deep.Onto
import Derived.Laws.Tables
import Derived.Laws.EntriesVeiled
import Derived.ChangeSlices
import Derived.Lib.LaidTab
import Derived.Sort.QuietThIn
import Derived.BigFrameIn
import Derived.Deep.MidRow
import Derived.Great.BuildSlice
import Derived.Deep.RegionWith
import Derived.Lib.OwnBridge
set_option linter.unusedVariables false
set_option linter.unusedSimpArgs false
set_option linter.unusedSectionVars false
namespace Go
abbrev Wd:=World
abbrev Vu:=Value
abbrev Td:=TypeId
abbrev Bw:=ByteArray
section
open Go.RowKit
abbrev zR := @Below.refl
abbrev yR := @Nat.le_refl
structure Growth where
 objs:Array Obj
 drawn:Nat
instance : Nonempty Growth:=⟨⟨#[],0⟩⟩
def World.growBy (w:Wd)(p:Growth):World:={ w with heap:=w.heap++p.objs,drawn:=p.drawn }
section
variable (w:Wd)(p q:Growth)
theorem World.heap_growBy {n:Nat}(h:n<w.heap.size):(w.growBy p).heap[n]? =w.heap[n]? :=by
 show(w.heap++p.objs)[n]? =_;rw[Array.getElem?_append_left h]
theorem World.lt_of_isSome {w:Wd}{a:Addr}(h:(w.cell? a).isSome=true):a.block<w.heap.size:=by
 obtain⟨v,hv⟩:=Option.isSome_iff_exists.1 h;exact World.block_lt_of_cell? _ _ hv
def World.cellOf (w:Wd)(a:Addr):Option Value:=w.cell? a
def World.frozenOf (w:Wd)(a:Addr):Bool:=w.frozen? a
def World.setCellOf (w:Wd)(a:Addr)(v:Vu):World:=w.setCell a v
theorem World.cell?_growBy' {a:Addr}(h:a.block<w.heap.size):(w.growBy p).cell? a=w.cell? a:=by
 have h1:=w.heap_growBy p h;unfold World.cell?;rw[h1]
theorem World.frozen?_growBy' {a:Addr}(h:a.block<w.heap.size):(w.growBy p).frozen? a=w.frozen? a:=by
 have h1:=w.heap_growBy p h;unfold World.frozen?;rw[h1]
theorem World.frozen?_high {w:Wd}{a:Addr}(h:w.heap.size<=a.block):w.frozen? a=false:=by
 unfold World.frozen?;rw[Array.getElem?_eq_none h]
@[go_sem] theorem World.cell?_growBy (n i:Nat):(w.growBy p).cell? ⟨n,i,none⟩=(w.cell? ⟨n,i,none⟩).or ((w.growBy p).cellOf ⟨n,i,none⟩):=by
 cases h:w.cell? ⟨n,i,none⟩with
 |none=>rfl
 |some v=>rw[World.cell?_growBy' w p (World.block_lt_of_cell? _ _ h),h];rfl
@[go_sem 50] theorem World.cell?_alloc_or (o:Obj) (n i:Nat):(w.alloc o).cell? ⟨n,i,none⟩=(w.cell? ⟨n,i,none⟩).or ((w.alloc o).cellOf ⟨n,i,none⟩):=by
 cases h:w.cell? ⟨n,i,none⟩with
 |none=>rfl
 |some v=>rw[World.cell?_alloc_lt w o _ (World.block_lt_of_cell? _ _ h),h];rfl
@[go_sem] theorem World.frozen?_growBy (n i:Nat):(w.growBy p).frozen? ⟨n,i,none⟩=(w.frozen? ⟨n,i,none⟩||((w.cell? ⟨n,i,none⟩).isNone&&(w.growBy p).frozenOf ⟨n,i,none⟩)):=by
 by_cases hb:n<w.heap.size
 ·rw[World.frozen?_growBy' w p (a:=⟨n,i,none⟩) hb]
  unfold World.frozenOf;rw[World.frozen?_growBy' w p (a:=⟨n,i,none⟩) hb]
  cases w.frozen? ⟨n,i,none⟩ <;> simp
 ·rw[World.frozen?_high (w:=w) (a:=⟨n,i,none⟩) (by simpa using hb)]
  cases h:w.cell? ⟨n,i,none⟩with
  |none=>simp[World.frozenOf]
  |some v=>exact absurd (World.block_lt_of_cell? _ _ h) hb
@[go_sem 50] theorem World.frozen?_alloc_or (o:Obj) (n i:Nat):(w.alloc o).frozen? ⟨n,i,none⟩=(w.frozen? ⟨n,i,none⟩||((w.cell? ⟨n,i,none⟩).isNone&&(w.alloc o).frozenOf ⟨n,i,none⟩)):=by
 by_cases hb:n<w.heap.size
 ·rw[World.frozen?_alloc_old w o ⟨n,i,none⟩ (Nat.ne_of_lt hb)]
  unfold World.frozenOf;rw[World.frozen?_alloc_old w o ⟨n,i,none⟩ (Nat.ne_of_lt hb)]
  cases w.frozen? ⟨n,i,none⟩ <;> simp
 ·rw[World.frozen?_high (w:=w) (a:=⟨n,i,none⟩) (by simpa using hb)]
  cases h:w.cell? ⟨n,i,none⟩with
  |none=>simp[World.frozenOf]
  |some v=>exact absurd (World.block_lt_of_cell? _ _ h) hb
theorem World.setCell_growBy' (n i:Nat)(v:Vu)(h1:n<w.heap.size):(w.growBy p).setCell ⟨n,i,none⟩ v=(w.setCell ⟨n,i,none⟩ v).growBy p:=by
 unfold World.growBy World.setCell;simp only[World.mk.injEq,and_true];apply Array.ext_getElem?;intro k;rw[Array.getElem?_modify,Array.getElem?_append,Array.getElem?_append,Array.size_modify,Array.getElem?_modify];by_cases hk:n=k
 ·subst hk;simp only[if_true];rw[if_pos h1,if_pos h1]
 ·simp only[hk,if_false]
@[go_sem] theorem World.setCell_growBy (n i:Nat) (v:Vu):(w.growBy p).setCell ⟨n,i,none⟩ v=if(w.cell? ⟨n,i,none⟩).isSome then(w.setCell ⟨n,i,none⟩ v).growBy p else(w.growBy p).setCellOf ⟨n,i,none⟩ v:=by
 split
 ·rename_i h;exact World.setCell_growBy' w p n i v (World.lt_of_isSome h)
 ·rfl
@[go_sem 50] theorem World.setCell_alloc_or (o:Obj) (n i:Nat) (v:Vu):(w.alloc o).setCell ⟨n,i,none⟩ v=if(w.cell? ⟨n,i,none⟩).isSome then(w.setCell ⟨n,i,none⟩ v).alloc o else(w.alloc o).setCellOf ⟨n,i,none⟩ v:=by
 split
 ·rename_i h;exact World.setCell_alloc_past (w:=w) o n i v (World.lt_of_isSome h)
 ·rfl
@[simp,go_sem] theorem World.size_growBy:(w.growBy p).heap.size=w.heap.size+p.objs.size:=Array.size_append
@[simp,go_sem] theorem World.tape_growBy:(w.growBy p).tape=w.tape:=rfl
@[simp,go_sem] theorem World.os_growBy:(w.growBy p).os=w.os:=rfl
@[simp,go_sem] theorem World.drew_growBy:(w.growBy p).drew=w.growBy ⟨p.objs,p.drawn+1⟩:=rfl
@[simp,go_sem] theorem World.drewN_growBy (n:Nat):(w.growBy p).drewN n=w.growBy ⟨p.objs,p.drawn+n⟩:=rfl
@[simp,go_sem] theorem World.growBy_growBy:(w.growBy p).growBy q=w.growBy ⟨p.objs++q.objs,q.drawn⟩:=by
 unfold World.growBy;simp[Array.append_assoc]
@[simp,go_sem] theorem World.growBy_drew:w.drew.growBy p=w.growBy p:=rfl
@[simp,go_sem] theorem World.growBy_drewN (n:Nat):(w.drewN n).growBy p=w.growBy p:=rfl
theorem c2z {B:Nat}{w:Wd}{o:Obj}(h:B<=w.heap.size):B<=(w.alloc o).heap.size:=by rw[World.size_alloc];omega
theorem b9n {B:Nat}{w:Wd}{p:Growth}(h:B<=w.heap.size):B<=(w.growBy p).heap.size:=by rw[World.size_growBy];omega
theorem b7s {B:Nat}{w:Wd}{a:Addr}{v:Vu}(h:B<=w.heap.size):B<=(w.setCell a v).heap.size:=by rw[World.size_setCell];omega
theorem c5g {B:Nat}{w:Wd}(h:B<=w.heap.size):B<=w.drew.heap.size:=h
theorem below_growBy :Below w.heap.size w (w.growBy p) :=
 ⟨rfl,rfl,rfl,by simp,λ_ h=>w.heap_growBy p h⟩
theorem a1k {B:Nat}{a w:Wd}(h:Below B a w)(hB:B<=w.heap.size)(p:Growth):Below B a (w.growBy p) :=
 h.trans ((below_growBy w p).mono hB)
abbrev zG := @a1k
abbrev zA := @Below.alloc
abbrev zS := @Below.setCell
abbrev zD := @Below.drew
theorem a1n :w.grownBy (w.growBy p) none:=⟨rfl,rfl,rfl,by simp,λk hk _=>w.heap_growBy p hk⟩
theorem a0j {w w':Wd}(h:Below w.heap.size w w'):∃p,w'=w.growBy p:=by
 refine⟨⟨w'.heap.extract w.heap.size w'.heap.size,w'.drawn⟩,?_⟩;obtain⟨h1,h2,h3,h4,h5⟩:=h
 cases w' with
 |mk heap' tape' drawn' os' output' =>
  simp only at h1 h2 h3 h4 h5;unfold World.growBy;simp only[World.mk.injEq];refine⟨?_,h2,trivial,h1,h3⟩;apply Array.ext_getElem?;intro k;by_cases hk:k<w.heap.size
  ·rw[Array.getElem?_append_left hk];exact h5 k hk
  ·rw[Array.getElem?_append_right (by omega),Array.getElem?_extract]
   by_cases cW:k<heap'.size
   ·rw[if_pos (by omega),show w.heap.size+(k-w.heap.size)=k from by omega]
   ·rw[if_neg (by omega)]
    exact Array.getElem?_eq_none (by omega)
end
section
variable {P:Program}
theorem Calls.grow_of {f:FuncId}{args:Array Value}{w:Wd}{p:Growth}{v:Vu}
 (h:Calls P f args (w.growBy p) λe w'=>e= .returned v/\Below (w.growBy p).heap.size (w.growBy p) w') :
 Calls P f args (w.growBy p) λe w'=>e= .returned v/\∃q,w'=w.growBy q :=
 h.mono λ_ _ ⟨he,hb⟩=>⟨he,by obtain⟨q,rfl⟩:=a0j hb;exact⟨_,World.growBy_growBy w p q⟩⟩
theorem Calls.grow_of_same {f:FuncId}{args:Array Value}{w:Wd}{p:Growth}{v:Vu}
 (h:Calls P f args (w.growBy p) λe w'=>e= .returned v/\w.growBy p=w') :
 Calls P f args (w.growBy p) λe w'=>e= .returned v/\∃q,w'=w.growBy q :=
 h.mono λ_ _ ⟨he,hb⟩=>⟨he,p,hb.symm⟩
theorem a0v {id:Nat}{Q:Exit->Act->World->Prop}{a:Act}{w:Wd}{l:List Oper}(hm:P.follows .mixedOrders=true)(hB:Region.lexB .any l.toArray=true)
 (h:wpQuiet P l.toArray (λw'=>∃p,w'=w.growBy p) (λa'=>∀w',(∃p,w'=w.growBy p)->Q .normal a' w') l a):(Code.region id l.toArray true).wp P Q a w :=
 wp_region_quiet (C:=λw'=>∃p,w'=w.growBy p) hm hB ⟨⟨#[],w.drawn+1⟩,by unfold World.growBy;simp⟩ (by simpa using h)
theorem a0q {id:Nat}{Q:Exit->Act->World->Prop}{a:Act}{w:Wd}{p:Growth}{l:List Oper}(hm:P.follows .mixedOrders=true)(hB:Region.lexB .any l.toArray=true)
 (h:wpQuiet P l.toArray (λw'=>∃p,w'=w.growBy p) (λa'=>∀w',(∃p,w'=w.growBy p)->Q .normal a' w') l a):(Code.region id l.toArray true).wp P Q a (w.growBy p) :=
 wp_region_quiet (C:=λw'=>∃p,w'=w.growBy p) hm hB ⟨⟨p.objs,p.drawn+1⟩,rfl⟩ (by simpa using h)
theorem b0d {W:Wd}{b:Nat}{c:Array Value}{t:Td}{f:Nat×Nat}(h:W.heap[b]? =some (.cells c t f))(i:Nat):W.cell? ⟨b,i,none⟩=c[i]? :=by
 unfold World.cell?;rw[h];rfl
theorem a0n {c:Code}{Q:Exit->Act->World->Prop}{a:Act}{w:Wd}(h:∀W,W=w->c.wp P Q a W):c.wp P Q a w:=h w rfl
abbrev yA := @c2z
abbrev yG := @b9n
abbrev yS := @b7s
abbrev yD := @c5g
end
attribute [go_sem] Oper.semAt_some
attribute [go_sem ↓] Go.wp_at_zero Go.wp_at_succ
theorem zWq {P:Prop}(h:P:=by
 refine wpQuiet_nil ?_;intro _ bI;obtain⟨p,bI⟩:=bI;subst bI;exact iX p):P:=h
theorem zR0 {P:Prop}{R:Growth->Prop}(k:∀p,R p)(h:(∀p,R p)->P:=by
 intro iX;first|with_reducible refine a0q zM zM ?_|with_reducible refine a0v zM zM ?_
 repeat(first|go_big_quiet_step (fail)|quiet_step (fail))
 exact zWq):P:=h k
theorem zR1 {P:Prop}{R:Growth->Prop}(k:∀p,R p)(h:(∀p,R p)->P:=by
 intro iX;first|with_reducible refine a0q zM zM ?_|with_reducible refine a0v zM zM ?_
 repeat(first|go_big_quiet_step ((go_at_call 85;exact Calls.grow_of_same (a3w _ _ _ fx dy b8)))|quiet_step ((go_at_call 85;exact Calls.grow_of_same (a3w _ _ _ fx dy b8))))
 exact zWq):P:=h k
theorem zR2 {P:Prop}{R:Growth->Prop}(k:∀p,R p)(h:(∀p,R p)->P:=by
 intro iX;first|with_reducible refine a0q zM zM ?_|with_reducible refine a0v zM zM ?_
 repeat(first|go_big_quiet_step ((go_at_call 57;exact Calls.grow_of (aS _ (HS.out.grow _))))|quiet_step ((go_at_call 57;exact Calls.grow_of (aS _ (HS.out.grow _)))))
 exact zWq):P:=h k
theorem zR3 {P:Prop}{R:Growth->Prop}(k:∀p,R p)(h:(∀p,R p)->P:=by
 intro iX;first|with_reducible refine a0q zM zM ?_|with_reducible refine a0v zM zM ?_
 repeat(first|go_big_quiet_step ((go_at_call 57;exact Calls.grow_of (aS _ (HJ.out.grow _))))|quiet_step ((go_at_call 57;exact Calls.grow_of (aS _ (HJ.out.grow _)))))
 exact zWq):P:=h k
theorem zR4 {P:Prop}{R:Growth->Prop}(k:∀p,R p)(h:(∀p,R p)->P:=by
 intro iX;first|with_reducible refine a0q zM zM ?_|with_reducible refine a0v zM zM ?_
 repeat(first|go_big_quiet_step ((go_at_call 62;exact Calls.grow_of (aS _ (HS.out.grow _))))|quiet_step ((go_at_call 62;exact Calls.grow_of (aS _ (HS.out.grow _)))))
 exact zWq):P:=h k
theorem zR5 {P:Prop}{R:Growth->Prop}(k:∀p,R p)(h:(∀p,R p)->P:=by
 intro iX;first|with_reducible refine a0q zM zM ?_|with_reducible refine a0v zM zM ?_
 repeat(first|go_big_quiet_step ((go_at_call 62;exact Calls.grow_of (aS _ (HJ.out.grow _))))|quiet_step ((go_at_call 62;exact Calls.grow_of (aS _ (HJ.out.grow _)))))
 exact zWq):P:=h k
theorem zR6 {P:Prop}{R:Growth->Prop}(k:∀p,R p)(h:(∀p,R p)->P:=by
 intro iX;first|with_reducible refine a0q zM zM ?_|with_reducible refine a0v zM zM ?_
 repeat(first|go_big_quiet_step ((go_at_call 66;exact Calls.grow_of (aS _ (HS.out.grow _))))|quiet_step ((go_at_call 66;exact Calls.grow_of (aS _ (HS.out.grow _)))))
 exact zWq):P:=h k
theorem zR7 {P:Prop}{R:Growth->Prop}(k:∀p,R p)(h:(∀p,R p)->P:=by
 intro iX;first|with_reducible refine a0q zM zM ?_|with_reducible refine a0v zM zM ?_
 repeat(first|go_big_quiet_step ((go_at_call 66;exact Calls.grow_of (aS _ (HJ.out.grow _))))|quiet_step ((go_at_call 66;exact Calls.grow_of (aS _ (HJ.out.grow _)))))
 exact zWq):P:=h k
theorem zR8 {P:Prop}{R:Growth->Prop}(k:∀p,R p)(h:(∀p,R p)->P:=by
 intro iX;first|with_reducible refine a0q zM zM ?_|with_reducible refine a0v zM zM ?_
 repeat(first|go_big_quiet_step ((go_at_call 70;exact Calls.grow_of (aS _ (HS.out.grow _))))|quiet_step ((go_at_call 70;exact Calls.grow_of (aS _ (HS.out.grow _)))))
 exact zWq):P:=h k
theorem zR9 {P:Prop}{R:Growth->Prop}(k:∀p,R p)(h:(∀p,R p)->P:=by
 intro iX;first|with_reducible refine a0q zM zM ?_|with_reducible refine a0v zM zM ?_
 repeat(first|go_big_quiet_step ((go_at_call 70;exact Calls.grow_of (aS _ (HJ.out.grow _))))|quiet_step ((go_at_call 70;exact Calls.grow_of (aS _ (HJ.out.grow _)))))
 exact zWq):P:=h k
theorem c8j {P:Prop}{R:Growth->Prop}(k:∀p,R p)(h:(∀p,R p)->P:=by
 intro iX;first|with_reducible refine a0k 12 zM zM ?_|with_reducible refine a0m 12 zM zM ?_
 simp only[List.take_succ_cons,List.take_zero,List.drop_succ_cons,List.drop_zero];repeat(first|go_big_quiet_step (fail)|quiet_step (fail))
 exact zWq):P:=h k
theorem c9n {P:Prop}{R:Growth->Prop}(k:∀p,R p)(h:(∀p,R p)->P:=by
 intro iX;first|with_reducible refine a0k 7 zM zM ?_|with_reducible refine a0m 7 zM zM ?_
 simp only[List.take_succ_cons,List.take_zero,List.drop_succ_cons,List.drop_zero];repeat(first|go_big_quiet_step (fail)|quiet_step (fail))
 exact zWq):P:=h k
theorem c9o {P:Prop}{R:Growth->Prop}(k:∀p,R p)(h:(∀p,R p)->P:=by
 intro iX;first|with_reducible refine a0k 9 zM zM ?_|with_reducible refine a0m 9 zM zM ?_
 simp only[List.take_succ_cons,List.take_zero,List.drop_succ_cons,List.drop_zero];repeat(first|go_big_quiet_step ((go_at_call 92;exact Calls.grow_of (vr _)))|quiet_step ((go_at_call 92;exact Calls.grow_of (vr _))))
 exact zWq):P:=h k
theorem c5h {P:Prop}{R:Growth->Prop}(k:∀p,R p)(h:(∀p,R p)->P:=by
 intro iX;first|with_reducible refine a0k 9 zM zM ?_|with_reducible refine a0m 9 zM zM ?_
 simp only[List.take_succ_cons,List.take_zero,List.drop_succ_cons,List.drop_zero];repeat(first|go_big_quiet_step (fail)|quiet_step (fail))
 exact zWq):P:=h k
theorem c9p {P:Prop}{R:Growth->Prop}(k:∀p,R p)(h:(∀p,R p)->P:=by
 intro iX;first|with_reducible refine a0k 10 zM zM ?_|with_reducible refine a0m 10 zM zM ?_
 simp only[List.take_succ_cons,List.take_zero,List.drop_succ_cons,List.drop_zero];repeat(first|go_big_quiet_step (fail)|quiet_step (fail))
 exact zWq):P:=h k
theorem c9q {P:Prop}{R:Growth->Prop}(k:∀p,R p)(h:(∀p,R p)->P:=by
 intro iX;first|with_reducible refine a0k 17 zM zM ?_|with_reducible refine a0m 17 zM zM ?_
 simp only[List.take_succ_cons,List.take_zero,List.drop_succ_cons,List.drop_zero];repeat(first|go_big_quiet_step (fail)|quiet_step (fail))
 exact zWq):P:=h k
theorem c9r {P:Prop}{R:Growth->Prop}(k:∀p,R p)(h:(∀p,R p)->P:=by
 intro iX;first|with_reducible refine a0k 18 zM zM ?_|with_reducible refine a0m 18 zM zM ?_
 simp only[List.take_succ_cons,List.take_zero,List.drop_succ_cons,List.drop_zero];repeat(first|go_big_quiet_step (fail)|quiet_step (fail))
 exact zWq):P:=h k
theorem zDt (b:Act):∃f:Nat->Value,(λk=>b.tmps.getD k undef)=f:=⟨_,rfl⟩
abbrev Zc (P:Program)(k:Nat)(a:Array Value)(w:Wd)(v:Vu):Prop:=Calls P k a w λe w'=>e= .returned v/\Below w.heap.size w w'
theorem c6r {W:Wd}{b o:Nat}{v0 v1:Vu}{l:List Value}(h:∀i,i<2->W.cell? ⟨b,o+i,none⟩=(v0::v1::l)[i]?):W.cell? ⟨b,o,none⟩=some v0/\W.cell? ⟨b,o+1,none⟩=some v1:=⟨h 0 (by decide),h 1 (by decide)⟩
theorem c8o {W:Wd}{b o:Nat}{v0 v1 v2 v3:Vu}{l:List Value}(h:∀i,i<4->W.cell? ⟨b,o+i,none⟩=(v0::v1::v2::v3::l)[i]?):W.cell? ⟨b,o,none⟩=some v0/\W.cell? ⟨b,o+1,none⟩=some v1/\W.cell? ⟨b,o+2,none⟩=some v2/\W.cell? ⟨b,o+3,none⟩=some v3:=⟨h 0 (by decide),h 1 (by decide),h 2 (by decide),h 3 (by decide)⟩
theorem c8p {W:Wd}{b o:Nat}{v0 v1 v2 v3 v4:Vu}{l:List Value}(h:∀i,i<5->W.cell? ⟨b,o+i,none⟩=(v0::v1::v2::v3::v4::l)[i]?):W.cell? ⟨b,o,none⟩=some v0/\W.cell? ⟨b,o+1,none⟩=some v1/\W.cell? ⟨b,o+2,none⟩=some v2/\W.cell? ⟨b,o+3,none⟩=some v3/\W.cell? ⟨b,o+4,none⟩=some v4:=⟨h 0 (by decide),h 1 (by decide),h 2 (by decide),h 3 (by decide),h 4 (by decide)⟩
theorem b0e {W:Wd}{b o:Nat}{v0 v1 v2 v3 v4 v5 v6:Vu}{l:List Value}(h:∀i,i<7->W.cell? ⟨b,o+i,none⟩=(v0::v1::v2::v3::v4::v5::v6::l)[i]?):W.cell? ⟨b,o,none⟩=some v0/\W.cell? ⟨b,o+1,none⟩=some v1/\W.cell? ⟨b,o+2,none⟩=some v2/\W.cell? ⟨b,o+3,none⟩=some v3/\W.cell? ⟨b,o+4,none⟩=some v4/\W.cell? ⟨b,o+5,none⟩=some v5/\W.cell? ⟨b,o+6,none⟩=some v6:=⟨h 0 (by decide),h 1 (by decide),h 2 (by decide),h 3 (by decide),h 4 (by decide),h 5 (by decide),h 6 (by decide)⟩
theorem b4h {W:Wd}{b o:Nat}{v0 v1 v2 v3 v4 v5 v6 v7:Vu}{l:List Value}(h:∀i,i<8->W.cell? ⟨b,o+i,none⟩=(v0::v1::v2::v3::v4::v5::v6::v7::l)[i]?):W.cell? ⟨b,o,none⟩=some v0/\W.cell? ⟨b,o+1,none⟩=some v1/\W.cell? ⟨b,o+2,none⟩=some v2/\W.cell? ⟨b,o+3,none⟩=some v3/\W.cell? ⟨b,o+4,none⟩=some v4/\W.cell? ⟨b,o+5,none⟩=some v5/\W.cell? ⟨b,o+6,none⟩=some v6/\W.cell? ⟨b,o+7,none⟩=some v7:=⟨h 0 (by decide),h 1 (by decide),h 2 (by decide),h 3 (by decide),h 4 (by decide),h 5 (by decide),h 6 (by decide),h 7 (by decide)⟩
theorem zF {P:Prop}(h:P:=by first|with_reducible (first|exact a1a _|exact a2a _|assumption|exact b8n (by omega))|exact⟨by omega,by omega⟩):P:=h
theorem zI {p m:Nat}(h:p<m):(p:Int)<(m:Int)/\(0:Int)<(m:Int)/\((m:Int)==0)=false:=⟨by omega,by omega,by simp;omega⟩
theorem zIx (k:Nat){m:Nat}(hm:0<m):∃p:Nat,Int.tmod (k:Int) (m:Int)=(p:Int)/\p<m:=⟨k % m,by rw[Int.tmod_eq_emod_of_nonneg (by omega)];omega,Nat.mod_lt _ hm⟩
theorem zE {α:Type}(a:α):∃x,a=x:=⟨_,rfl⟩
theorem zU :(∀ {α:Type} (a:α) (l:List α) (n:Nat),List.drop (n+1) (a::l)=List.drop n l)/\(∀ {α:Type} (l:List α),List.drop 0 l=l):=⟨λ_ _ _=>rfl,λ_=>rfl⟩
theorem zT :(∀ {α:Type} (a:α) (l:List α) (n:Nat),List.drop (n+1) (a::l)=List.drop n l)/\(∀ {α:Type} (l:List α),List.drop 0 l=l)/\(∀ {α:Type} (a:α) (l:List α) (n:Nat),List.take (n+1) (a::l)=a::List.take n l)/\(∀ {α:Type} (l:List α),List.take 0 l=[]):=⟨λ_ _ _=>rfl,λ_=>rfl,λ_ _ _=>rfl,λ_=>rfl⟩
theorem xM {P:Prop}(h:P:=by omega):P:=h
theorem zM {P:Prop}(h:P:=by kernel_rfl):P:=h
theorem qM {P:Prop}(h:P:=by rfl):P:=h
theorem jM {P:Prop}(h:P:=by decide):P:=h
theorem vM {P:Prop}(h:P:=by simp):P:=h
theorem uM {P:Prop}(h:P:=by simp;omega):P:=h
theorem yM {P:Prop}(h:P:=by assumption):P:=h
theorem gM {P:Prop}(h:P:=by unfold maxLen;omega):P:=h
theorem zC {P:Prop}(h:P:=by repeat' (first|with_reducible (first|exact zR _ _|exact yR _|assumption|refine zG ?_ ?_ _|refine zA ?_ ?_ _|refine zS ?_ ?_ _|refine zD ?_|refine yA ?_|refine yG ?_|refine yS ?_|refine yD ?_)|omega|(dsimp only;omega))):P:=h
section
variable {P:Prop}
theorem yaa (h:P:=by
  have hA1:=Ev.alloc (X:=noB) lC.ok (b6s (S:=S) (W:=wr) (e:=3));have wR:SL (λb=>S b\/b=wr.heap.size) (wr.alloc (.cells #[] 3)) 3 (.slice (some ⟨wr.heap.size,0,none⟩) 0 0) 0:=SL.blk (.inr rfl) (Blk.new _ _ _) vM;have mM:=(lC.trans hA1).sl cf;go_upto_region 7 with(first
   |(refine a3q qM 100 _ _ qM underlying100 a4y qM qM mM ht ?_;intro Lm h38)
   |(at_builtin;refine a1h (X:=noB) hA1.ok qM _ _ 100 qM underlying100 a4y qM wR qM h38 xM ?_;intro v6 S6 W6 gR iA))
  have sB:=(lC.trans hA1).trans iA;have sC:=sB.sl cf;rw[Nat.zero_add]at gR;refine Go.wp_region_reln 7 zM zM (λ_ g W=>Ev noB S6 W6 g W) (λg W g' W'=>Ev noB g W g' W') (FPu (Value.slice (some ⟨b,off,none⟩) n cap) v6 n t x) (λ_ _ _ _ _ _ h g=>h.kept g) S6 (Ev.drew sB.ok) ?_ ?_
  ·clear mM wR hA1 iA lC
   intro i o hi ho c bb g W hc hM hA hD K hK;match i,hi,ho with
   |0,_,ho =>
    exact yhe
   |1,_,ho =>
    exact ygj
   |2,_,ho =>
    exact ydj
   |3,_,ho =>
    exact ydv
   |4,_,ho =>
    cases ho;have f0:bb.tmps[0]?.getD undef=(Value.slice (some ⟨b,off,none⟩) n cap):=a0a (v:=(Value.slice (some ⟨b,off,none⟩) n cap)) (hA.at_ (k:=0) zM);go_simp;exact hK (Value.slice (some ⟨b,off,none⟩) n cap) g W rfl (Ev.refl hM.ok) hM
   |5,_,ho =>
    cases ho;have f5:bb.tmps[5]?.getD undef= .int .i64 (t:Nat):=a0a (v:= .int .i64 (t:Nat)) (hA.at_ (k:=5) zM);go_simp;exact hK (.int .i64 (t:Nat)) g W rfl (Ev.refl hM.ok) hM
   |6,_,ho =>
    cases ho;have f44:bb.eval (.tmp 44)=(Value.slice (some ⟨b,off,none⟩) n cap):=a0e hD 4 44 zM rfl rfl;have f45:bb.eval (.tmp 45)= .int .i64 (t:Nat):=a0e hD 5 45 zM rfl rfl;rw[if_pos (by simp[Region.wanted])];exact a7j 100 _ _ rfl underlying100 a4y f44 f45 (hM.sl sC) ht (λv' h1=>hK v' g W h1 (Ev.refl hM.ok) hM)
   |i+7,hi,_=>exact absurd hi xM
  ·intro bb g W hM hA aa
   have h3:SL g W 3 (bb.eval (.tmp 43)) (t+1):=aa 3 xM _ _ rfl rfl;have h6:SL g W 3 (bb.eval (.tmp 46)) (n-t):=aa 6 xM _ _ rfl rfl;obtain⟨va,iY⟩:=zE (bb.eval (.tmp 43));obtain⟨vb,pL⟩:=zE (bb.eval (.tmp 46));rw[iY]at h3;rw[pL]at h6;have az:=hA.frame (rT 40 (rF 7 (rT 1 ([])))) _ rfl zM;clear aa hA;obtain⟨f,hf⟩:=zDt bb;have vt:f 43=va:=by rw[<-hf,<-iY];rfl
   have qT:f 46=vb:=by rw[<-hf,<-pL];rfl
   rw[hf]at az;clear hf iY pL;subst az;simp only[rT,rF,a1j,vt,qT,Nat.reduceAdd];clear vt qT;simp only[zU];go_wp2_with (first
    |(at_builtin;refine a1h (X:=noB) hM.ok qM _ _ 100 qM underlying100 a4y qM h3 qM h6 xM ?_;intro v9 S9 w9 aQ cg))
   go_ret;exact⟨S9,_,rfl,⟨t+1+(n-t),aQ,xM⟩,(sB.trans hM).trans cg⟩):P:=h
theorem yab (h:P:=by
  clear hd bM;go_upto_region 11 with(first
   |(go_at_call 43;(with_reducible refine(lD.call 3 xM xM).mono ?_);rintro e W4⟨a,rfl,a0,a1,sD⟩)
   |(go_at_call 43;(with_reducible refine(sD.call 2 xM xM).mono ?_);rintro e W5⟨b,rfl,b0,b1,wS⟩)
   |(go_at_call 43;(with_reducible refine(wS.call 51 xM xM).mono ?_);rintro e W6⟨c,rfl,c0,c1,jL⟩)
   |(go_at_call 43;(with_reducible refine(jL.call 60 xM xM).mono ?_);rintro e W7⟨t,rfl,t0,t1,ju⟩))
  have PH:l.length<=6:=xM;have f0:a0l (61+(l.length:Int)):=⟨xM,xM⟩;have f5:a0l (1+t):=⟨xM,xM⟩;refine a0n (λW8 jN=> ?_);obtain⟨X,Y,fX,fY,eR⟩:∃X Y,a0l X/\a0l Y/\DP n₀ D sv xs S w S' W8 [(W7.heap.size,c7r (61+l.length) X Y ⟨#[]⟩ ⟨#[]⟩ (1+t) 0,48),(B2,b1u ev fv wv pv,32)] [(71,ev,ne),(43,fv,nf)] (.slice oa l.length oc) l:=by
   rw[jN];refine⟨_,_,?_,?_,ju.box _ _⟩
   ·exact⟨xM,xM⟩
   ·exact⟨xM,xM⟩
  obtain⟨BP,gS⟩:=zE W7.heap.size;rw[gS]at eR;rw[gS];clear jN gS lD sD wS jL ju;have qU:Strs #[.string ⟨#[116,114,101,101]⟩,.string ⟨#[116,114,101,101]⟩,.string ⟨#[115,104,111,112]⟩]:=a6i [⟨#[116,114,101,101]⟩,⟨#[116,114,101,101]⟩,⟨#[115,104,111,112]⟩] jM;go_upto_region 12 with(first
   |(go_at_call 43;(with_reducible refine((eR.box _ _).call 3 xM xM).mono ?_);rintro e Wb⟨q,rfl,q0,q1,hb⟩;obtain⟨q,rfl⟩:=Int.eq_ofNat_of_zero_le q0;obtain⟨s1,wT,bU⟩:=qU.at_ hb.d.b0 (q:=q) uM;have jv:=hb.tail;obtain⟨z0,z1,z2,z3,z4,z5,z6⟩:=b3v jv.d.b0;have zf:=jv.d.b0.frozen 3))
  refine a0n (λWC qV=> ?_);have pM:=jv.put qV (c':=c7r (61+l.length) X Y s1 ⟨#[]⟩ (1+t) 0) rfl;clear eR jv hb qV z0 z1 z2 z3 z4 z5 z6 zf wT qU;have qW:Strs #[.string ⟨#[]⟩,.string ⟨#[]⟩,.string ⟨#[71,97,116,101]⟩,.string ⟨#[79,97,107]⟩,.string ⟨#[84,104,101,32,87,101,108,108]⟩]:=a6i [⟨#[]⟩,⟨#[]⟩,⟨#[71,97,116,101]⟩,⟨#[79,97,107]⟩,⟨#[84,104,101,32,87,101,108,108]⟩] jM;go_upto_region 13 with(first
   |(go_at_call 43;(with_reducible refine((pM.box _ _).call 5 xM xM).mono ?_);rintro e Wd⟨q',rfl,wU,HP,hd⟩;obtain⟨q',rfl⟩:=Int.eq_ofNat_of_zero_le wU;obtain⟨s2,wV,cX⟩:=qW.at_ hd.d.b0 (q:=q') uM;have jw:=hd.tail;obtain⟨z0,z1,z2,z3,z4,z5,z6⟩:=b3v jw.d.b0;have zf:=jw.d.b0.frozen 4))
  refine a0n (λWE gD=> ?_);have lE:=jw.put gD (c':=c7r (61+l.length) X Y s1 s2 (1+t) 0) rfl;clear pM jw hd gD z0 z1 z2 z3 z4 z5 z6 zf wV qW;obtain⟨z0,z1,z2,z3,z4,z5,z6⟩:=b3v lE.d.b0;obtain⟨m0,m1,m2,m3⟩:=a1o lE.d.b1;go_upto_region 14 with(first
   |(go_at_call 88;(with_reducible refine(c5y S' WE lE.d.tw ev ne lE.d.s0 an X Y fX fY).mono ?_);rintro e WA⟨⟨x,bo,rfl⟩,bT⟩))
  have qX:=lE.up bT;clear lE bT z0 z1 z2 z3 z4 z5 z6 m0 m1 m2 m3;obtain⟨m0,m1,m2,m3⟩:=a1o qX.d.b1;go_upto_region 15 with(first
   |(go_at_call 89;(with_reducible refine(Lo S' WA qX.d.tw qX.d.s1 x).mono ?_);rintro e WF⟨⟨d,rfl,fd⟩,pN⟩;have jx:=qX.up pN;obtain⟨z0,z1,z2,z3,z4,z5,z6⟩:=b3v jx.d.b0;have zf:=jx.d.b0.frozen 6))
  refine a0n (λWG qY=> ?_);have lF:=jx.pd qY;clear qX pN jx qY m0 m1 m2 m3 z0 z1 z2 z3 z4 z5 z6 zf;obtain⟨z0,z1,z2,z3,z4,z5,z6⟩:=b3v lF.d.b0
  cases bo
  ·exact yhu
  ·by_cases wW:0<d
   ·go_wp2_with (first
     |(at_builtin;refine El.pushO a2n b9t qM _ _ qM qM lF.row ⟨61+(l.length:Int),X,Y,s1,s2,1+t,d⟩ qM rfl (lF.d.st.ev.size) xM ?_;intro v9 w9 bG kJ aU eS))
    go_roundw
    case rel=>exact⟨k+1,S',l++[⟨61+(l.length:Int),X,Y,s1,s2,1+t,d⟩],xM,by go_num,by rw[List.length_append];simp;omega,iZ.push ⟨f0,fX,fY,f5,show s2.size<=1000 from by omega⟩ (show s1.size<=1000 from xM) rfl,(lF.more bG aU kJ).tail⟩
    case measure=>simp[intOf];omega
   ·exact yhu):P:=h
theorem yac (h:P:=by
  have gT:Src prog i.size t (.slice xa m xc) m news W:=by
   exact ydw
  have jO:=hv;obtain⟨a,cap,olds,rfl,CM,oR,kV,HQ,Lp,oS⟩:=hv.cells hT he;by_cases gE:n+m<=cap
  ·obtain⟨a2,mN,h2,-,h3⟩:=jO
   cases h2;rcases h3 with⟨rfl,rfl⟩|⟨b,o,c,rfl,hb,hc,bO⟩
   ·obtain rfl:n=0:=xM
    obtain rfl:m=0:=xM;refine⟨.slice none 0 0,S,W,?_,⟨none,0,rfl,yR _,.inl ⟨rfl,rfl⟩⟩,Ev.refl hT,zR _ _,b0o _⟩;simp[Builtin.append_,run_underlying ht,sizeOf,typeInfo,hi,gT.len,gT.cells]
   ·have AO:base<=b:=aA _ _ _ rfl
    rw[jP]at bO ⊢;have hmul:(n+m)*s<=cap*s:=Nat.mul_le_mul_right s gE;rw[Nat.add_mul]at hmul bO;have cC:∀j,j<news.length->(W.cell? ⟨b,o*s+n*i.size+j,none⟩).isSome=true:=λj hj=>by
     rw[hc.cell,aM,Array.getElem?_eq_getElem xM];rfl
    have hr:=run_append_room_src (P:=prog) W t t ty e i ht hi b (o*s) n cap (.slice xa m xc) m news gT gE cC (λj hj=>hc.frozen _);refine⟨_,S,_,hr,?_,?_,a4z AO news _ W dz,λa' k' c' e'=>by cases e';exact AO⟩
    ·exact yeb
    ·exact ygl
  ·have hold:(Builtin.firstCells i.size n (.slice a n cap)).run prog W.drew= .ok olds.toArray W.drew:=by
    exact ydi
   have aT:=grownCap_ge W (n+m) cap e;have dq:Builtin.nextslicecap (n+m) cap*i.bytes<=281474976710656:=growslice_fits xM (Nat.le_trans (Nat.mul_le_mul hl mq) jM);have hr:=run_append_grow_src (P:=prog) W t t ty e i z ht hi hz a n cap olds hold (.slice xa m xc) m news gT xM xM dq;have CN:=(Ev.drew (X:=X) hT).ok;have wX:=Ev.drew (X:=X) hT;have hB:TB S W.drew e ((olds++news).toArray++Builtin.zeroCells z.cells (grownCap W (n+m) cap e-(n+m))):=by
    exact yap
   have hA:=Ev.alloc (X:=X) CN hB;refine⟨_,_,_,hr,?_,wX.trans hA,(zR _ W).drew.alloc dz _,λa' k' c' e'=>by cases e';exact dz⟩;exact yec):P:=h
theorem yad (h:P:=by
  cases ho;have f1:=a0a (v:= .pointer (some ⟨BM,0,none⟩)) (hA.at_ (k:=1) zM);have z0:W.cell? ⟨BM,0,none⟩=some (.slice x0 k0 c0):=e0▸hM.b.cell 0;have z1:W.cell? ⟨BM,1,none⟩=some (.slice x1 k1 c1):=e1▸hM.b.cell 1;have z2:W.cell? ⟨BM,2,none⟩=some (.slice x2 k2 c2):=e2▸hM.b.cell 2;have z3:W.cell? ⟨BM,3,none⟩=some (.slice x3 k3 c3):=e3▸hM.b.cell 3;go_simp;exact hK (.agg #[.slice x0 k0 c0,.slice x1 k1 c1,.slice x2 k2 c2,.slice x3 k3 c3]) W rfl (zR _ _) hM):P:=h
theorem yae (h:P:=by
  first|(simp[intOf];done)|(simp[intOf];omega)):P:=h
theorem yaf (h:P:=by
  go_upto_region 16 with fail;go_upto_if 53 with(first
   |(go_at_call 43;(with_reducible refine(hd.call 3 xM xM).mono ?_);rintro e W2⟨q,rfl,q0,q1,bM⟩))
  by_cases hq:q=0
  ·subst hq
   go_upto_region 18 with(first
    |(go_at_call 87;(with_reducible refine(a4v 0 0 W2).mono ?_);rintro e W3⟨⟨x1,y1,rfl,CO,vu⟩,b9⟩)
    |(go_at_call 43;(with_reducible refine((bM.up b9).call 2 xM xM).mono ?_);rintro e W4⟨r,rfl,r0,r1,sD⟩)
    |(go_at_call 87;(with_reducible refine(a4v _ 1 W4).mono ?_);rintro e W5⟨⟨x2,y2,rfl,CP,CQ⟩,aI⟩)
    |(go_at_call 86;(with_reducible refine(b5q n₀ D sv xs _ W5 (sD.up aI).td _ _ (sD.up aI).s0 xM _ _ _ _ _ CO vu CP CQ (by first|exact CR|exact vw|exact CS)).mono ?_);rintro e W6⟨S6,v6,rfl,gR,mO,iA⟩))
   have jL:=((sD.up aI).then_ mO iA).tailT.add gR;clear hd bM b9 sD aI mO iA gR;exact yax
  ·have wY:(q==0)=false:=by simpa using hq
   go_upto_region 18 with fail;have jL:=bM;clear hd bM;exact yax):P:=h
theorem yag (h:P:=by
  by_cases kY:j=0
  ·have Lr:¬(0:Int)<(j:Int):=xM
   clear kY;go_wp2_with fail;go_roundw
   case rel=>exact⟨j+1,xM,by go_num,hm⟩
   case measure=>simp[intOf];omega
  ·obtain rfl:j=1:=xM
   have Lr:(0:Int)<((1:Nat):Int):=xM;go_upto_if 93 with(first
    |(go_at_call 43;refine(hm.next 5 xM xM).mono ?_;rintro e W9⟨v2,rfl,v20,v21,cD,aU,cg⟩))
   clear hm aU cg;by_cases qZ:v2=0
   ·subst qZ
    obtain⟨y0,HT,CU⟩:=cD.ob.at_ (q:=i*2) xM;obtain⟨y1,HU,vu⟩:=cD.ob.at_ (q:=i*2+1) xM;have fz:=cD.ob.frozen (i*2+1);go_upto_region 24 with fail;refine c5h λp=> ?_
    have vx:=(cD.set (i*2+1) CU).up (below_growBy _ p);go_wp2_with fail;go_roundw
    case rel=>exact⟨1+1,xM,by go_num,by first|exact vx|simpa using vx⟩
    case measure=>simp[intOf];omega
   ·have pL:(v2==0)=false:=by simpa using qZ
    go_wp2_with fail;go_roundw
    case rel=>exact⟨1+1,xM,by go_num,cD⟩
    case measure=>simp[intOf];omega):P:=h
theorem yah (h:P:=by
  obtain⟨⟨r0,r1,r2,r3,r4,r5,r6⟩,-⟩:=b9y mP;obtain⟨z0,z1,z2,z3,z4,z5,z6,k9,vw,HV⟩:=hq.q;obtain⟨⟨s0,s1,s2,s3,s4,s5,s6⟩,t0,t1,t2,t3,t4,t5,t6⟩:=b9y k9;by_cases vy:x=0
  ·have HY:(x != 0)=false:=by simp[vy]
   go_wp2_with fail;go_roundw
   case rel=>exact⟨i+1,fb,xM,by go_num,rfl,hq⟩
   case measure=>simp[intOf];omega
  ·have HY:(x != 0)=true:=by simp[vy]
   cases fb
   ·exact ydy
   ·clear t0 t1 t2 t3 t4 t5 t6 k9
    go_upto_if 116 with(first
     |(go_at_call 142;refine(b7z _ _ _ _ _ _ _ _ _ _ _ _ _ _ _ vw HV g1 g2).mono ?_;rintro e WB⟨⟨bo,rfl⟩,vz⟩))
    clear r0 r1 r2 r3 r4 r5 r6 s0 s1 s2 s3 s4 s5 s6;have mP:=mP.below vz mP.lt;have hq:=hq.up vz
    cases bo
    ·go_wp2_with fail
     go_roundw
     case rel=>exact⟨i+1,true,xM,by go_num,rfl,hq⟩
     case measure=>simp[intOf];omega
    ·obtain⟨⟨r0,r1,r2,r3,r4,r5,r6⟩,-⟩:=b9y mP
     obtain⟨z0,z1,z2,z3,z4,z5,z6,k9,-,-⟩:=hq.q;obtain⟨⟨s0,s1,s2,s3,s4,s5,s6⟩,t0,t1,t2,t3,t4,t5,t6⟩:=b9y k9;exact ydy):P:=h
theorem yai (h:P:=by
  by_cases hx:ax=bx
  ·subst hx
   obtain⟨p0,p1,pO,pP⟩:=pt2 eR.b0;obtain⟨a0,a1,-,-⟩:=pt2 eR.b2;obtain⟨b0,b1,-,-⟩:=pt2 eR.b3;go_upto_region 12 with fail;refine a0n (λW9 iB=> ?_);obtain⟨X7,HZ,ju⟩:=eR.pt0 (a1a (X+(dr-8)));rw[<-iB]at ju;clear iB p0 p1 pO pP a0 a1 b0 b1 eR;exact ybl
  ·have HY:(ax==bx)=false:=by simpa using hx
   obtain⟨a0,a1,-,-⟩:=pt2 eR.b2;obtain⟨b0,b1,-,-⟩:=pt2 eR.b3;go_upto_region 12 with fail;clear a0 a1 b0 b1;have ju:=eR;have HZ:=fX;clear eR;exact ybl):P:=h
theorem yaj (h:P:=by
  have sE:∀i v,wr.cell? ⟨BM,i,none⟩=some v->w9.cell? ⟨BM,i,none⟩=some v:=λi v h=>by
   have h1:=(below_growBy wr p).cell (p:=⟨BM,i,none⟩) (World.block_lt_of_cell? _ _ h);have CV:=World.block_lt_of_cell? _ _ (h1.trans h);exact(a1r (aU.block BM CV uM)).trans (h1.trans h)
  have oU:Below BM w w9:=jy.trans (a0f aU (bu▸jy.size) (λq e=>by cases e;omega));go_roundw
  case rel=>exact⟨k+1,by go_num,xM,Lib.hid ⟨by rw[gj.out];exact sF,oU⟩,sE _ _ kx.out.1,sE _ _ kx.out.2.1,sE _ _ kx.out.2.2.1,sE _ _ kx.out.2.2.2⟩
  case measure=>exact yae):P:=h
theorem yak (h:P:=by
  obtain⟨i0,z,bV,dm,aH,bn,gm⟩:=hI.info;rcases hf with rfl|⟨b,off,cap,rfl⟩
  ·obtain rfl:l2=[]:=by
    obtain⟨a,c,h,-⟩:=hx.form;simp only[Value.slice.injEq]at h;exact List.eq_nil_of_length_eq_zero h.2.1.symm
   by_cases hn:v= .slice none 0 0
   ·subst hn
    exact⟨_,W,b1p W st ty E.t i0 hI.under bV,by rw[List.append_nil];exact hv,⟨rfl,rfl,rfl,yR _,λ_ _ _=>rfl⟩,⟨rfl,rfl,rfl,yR _,λ_ _=>rfl⟩,.inl rfl⟩
   ·have iC:∃g c,v= .slice (some ⟨g,0,none⟩) l.length c:=by
     rcases hv.2 with⟨e,-⟩|⟨g,c,cur,e,-⟩
     ·exact absurd e hn
     ·exact⟨g,c,e⟩
    obtain⟨v',W',hr,h2,h3,h4,-⟩:=El.append_join hE hI W base v (.slice none 0 0) l [] ty hv iC hx (.inl rfl) hl hb;obtain⟨g,c,rfl⟩:=iC;have hs:Src P i0.size st (.slice none 0 0) 0 [] W:=Src.ofNil W hI.under 0;have dZ:l.length+0<=c:=by
     exact yej
    have aL:=run_append_room_src (P:=P) W st st ty E.t i0 hI.under bV g 0 l.length c (.slice none 0 0) 0 [] hs dZ vM vM;rw[hr]at aL;simp only[Result.ok.injEq]at aL;exact⟨v',W',hr,h2,h3,h4,.inl (by rw[aL.1];rfl)⟩
  ·have eM:∀j u,(l2.flatMap E.enc)[j]? =some u->W.cell? ((⟨b,off,none⟩:Addr).add j)=some u:=λj u hj=>by
    exact yij
   obtain⟨v',W',hr,aA,hg,-,h5⟩:=run_append_own_at (P:=P) W base st ty E.t i0 _ E.s i0.bytes hI.under bV dm aH rfl gm hE.pos _ l.length _ hv ⟨b,off,none⟩ l2.length cap (l2.flatMap E.enc) (a0t hE l2) eM (a2q hE l2) gM (Nat.le_trans (Nat.mul_le_mul (show l.length+l2.length<=100000 by omega) bn) jM) hb;refine⟨v',W',hr,?_,hg,a0f hg hb (λk e=>(hv.lt k e).1),h5⟩;exact yiw):P:=h
theorem yal (h:P:=by
  cases ho;have f10:=a0a (v:= .pointer (some ⟨BO,0,none⟩)) (hA.at_ (k:=10) zM);obtain⟨y0,c0,q0⟩:=hM.1.m7.ob.at_ (q:=0) xM;obtain⟨y1,c1,q1⟩:=hM.1.m7.ob.at_ (q:=1) xM;obtain⟨y2,c2,q2⟩:=hM.1.m7.ob.at_ (q:=2) xM;obtain⟨y3,c3,q3⟩:=hM.1.m7.ob.at_ (q:=3) xM;obtain⟨y4,c4,q4⟩:=hM.1.m7.ob.at_ (q:=4) xM;obtain⟨y5,c5,q5⟩:=hM.1.m7.ob.at_ (q:=5) xM;go_simp;exact hK _ g W ⟨_,_,_,_,_,_,rfl,q0,q1,q2,q3,q4,q5⟩ (Ev.refl hM.1.te.tw) hM):P:=h
theorem yam (h:P:=by
  go_wp2_with fail;go_meet;exact⟨by simp[g1,g2],rfl⟩):P:=h
theorem yan (h:P:=by
  rintro e W'⟨rfl,hb⟩;go_simp;exact hK _ W' rfl hb (hM.up hb)):P:=h
theorem yao (h:P:=by
  by_cases oV:mid<m
  ·have oW:(mid:Int)<(m:Int):=xM
   have AP:IntKind.i64.wrap ((mid:Int)+(m:Int)-(b:Int))=((mid+m-b:Nat):Int):=by rw[IntKind.wrap_i64];omega
   go_wp2_with fail;go_meet;exact⟨mid+m-b,mid,by go_num,by go_num,⟨xM,xM,xM,xM,xM,.inr xM,.inr rfl⟩,rfl⟩
  ·have oW:¬(mid:Int)<(m:Int):=xM
   go_wp2_with fail;go_meet;exact⟨a,m,by go_num,by go_num,⟨xM,xM,xM,xM,xM,.inl rfl,.inl rfl⟩,rfl⟩):P:=h
theorem yap (h:P:=by
  intro j u ct h1 h2;rw[jP]at h2;rw[Array.getElem?_append]at h1;split at h1
  ·rw[List.getElem?_toArray,List.getElem?_append]at h1
   split at h1
   ·exact wX.ct (HQ j u ct h1 h2)
   ·rename_i h3 h4
    refine wX.ct (sG _ u ct h1 ?_);rw[oR]at h4 ⊢;have:(j-n*s) % s=j % s:=by
     conv=>rhs;rw[show j=(j-n*s)+s*n from by rw[Nat.mul_comm s n];omega]
     rw[Nat.add_mul_mod_self_left]
    rw[this];exact h2
  ·rename_i h3
   simp only[List.size_toArray,List.length_append,oR,pQ,<-Nat.add_mul]at h1 h3;unfold Builtin.zeroCells at h1;rw[Array.getElem?_map]at h1;obtain⟨k,hk,rfl⟩:=Option.map_eq_some_iff.1 h1;obtain⟨CW,cW⟩:=Array.getElem?_eq_some_iff.1 hk;simp only[Array.getElem_range]at cW;have hm:(j-(n+m)*s) % s=j % s:=by
    conv=>rhs;rw[show j=(j-(n+m)*s)+s*(n+m)from by rw[Nat.mul_comm s];omega]
    rw[Nat.add_mul_mod_self_left]
   rw[<-cW,fI,hm];have ab:j % s<z.cells.size:=by rw[fI];exact Nat.mod_lt _ hp
   refine CX S _ (j % s) _ ct ?_ h2;rw[getElem!_pos z.cells (j % s) ab,Array.getElem?_eq_getElem ab]):P:=h
theorem yaq (h:P:=by
  have f2:=a0a (v:= .pointer (some ⟨B2,0,none⟩)) (hA.at_ (k:=2) zM);have z0:W.cell? ⟨B2,0,none⟩=some (.slice none 0 0):=hM.t2.k.cell 0;have z1:W.cell? ⟨B2,1,none⟩=some (.slice none 0 0):=hM.t2.k.cell 1;have z2:W.cell? ⟨B2,2,none⟩=some (.slice none 0 0):=hM.t2.k.cell 2;have z3:W.cell? ⟨B2,3,none⟩=some (.slice (some ⟨Z2,0,none⟩) 2 2):=hM.t2.k.cell 3;go_simp;exact hK (.agg #[.slice none 0 0,.slice none 0 0,.slice none 0 0,.slice (some ⟨Z2,0,none⟩) 2 2]) W rfl (zR _ _) hM):P:=h
theorem yar (h:P:=by
  have f1:=a0a (v:= .pointer (some ⟨B1,0,none⟩)) (hA.at_ (k:=1) zM);have z0:W.cell? ⟨B1,0,none⟩=some (.slice none 0 0):=hM.t1.k.cell 0;have z1:W.cell? ⟨B1,1,none⟩=some (.slice none 0 0):=hM.t1.k.cell 1;have z2:W.cell? ⟨B1,2,none⟩=some (.slice none 0 0):=hM.t1.k.cell 2;have z3:W.cell? ⟨B1,3,none⟩=some (.slice (some ⟨Z1,0,none⟩) 2 2):=hM.t1.k.cell 3;go_simp;exact hK (.agg #[.slice none 0 0,.slice none 0 0,.slice none 0 0,.slice (some ⟨Z1,0,none⟩) 2 2]) W rfl (zR _ _) hM):P:=h
theorem yas (h:P:=by
  have aT:¬(k:Int)<(N:Int):=xM;obtain rfl:k=N:=xM;have cK:Hid (R=true):=by
   show R=true;rw[<-hR.out];exact a5u hc.out λj g1 g2=>aa.out j g1 g2 (by rw[<-hN.out];exact g1)
  replace al:=al.out;have vB:=al.size;go_wp2_with fail;go_ret;exact⟨by rw[cK.out];rfl,al⟩):P:=h
theorem yat (h:P:=by
  clear hd;by_cases hq:q=0
  ·subst hq
   go_wp2_with (first
    |(go_at_call 87;(with_reducible refine(a4v _ _ W2).mono ?_);rintro e W3⟨⟨x1,y1,rfl,CO,vu⟩,b9⟩)
    |(go_at_call 87;(with_reducible refine(a4v _ _ W3).mono ?_);rintro e W5⟨⟨x2,y2,rfl,CP,CQ⟩,aI⟩)
    |(go_at_call 86;(with_reducible refine(b5q n₀ D sv xs _ W5 ((bM.up b9).up aI).td _ _ ((bM.up b9).up aI).s0 xM _ _ _ _ _ CO vu CP CQ (by first|exact CR|exact vw|exact CS)).mono ?_);rintro e W6⟨S6,v6,rfl,gR,mO,iA⟩))
   have jL:=(((bM.up b9).up aI).then_ mO iA).tailT.add gR;go_roundw
   case rel=>exact⟨i+1,S6,n+1,xM,by go_num,xM,jL⟩
   case measure=>simp[intOf];omega
  ·have wY:(q==0)=false:=by simpa using hq
   go_wp2_with fail;go_roundw
   case rel=>exact⟨i+1,S2,n,xM,by go_num,xM,bM⟩
   case measure=>simp[intOf];omega):P:=h
theorem yau (h:P:=by
  cases ho;have f5:=a0a (v:= .pointer (some ⟨BM,0,none⟩)) (hA.at_ (k:=5) zM);have z0:W.cell? ⟨BM,0,none⟩=some (.slice a1 m1 c1):=hM.b.cell 0;have z1:W.cell? ⟨BM,1,none⟩=some (.slice a2 m2 c2):=hM.b.cell 1;have z2:W.cell? ⟨BM,2,none⟩=some (.slice a3 m3 c3):=hM.b.cell 2;have z3:W.cell? ⟨BM,3,none⟩=some (.slice a4 m4 c4):=hM.b.cell 3;exact yih):P:=h
theorem yav (h:P:=by
  go_simp;exact hK (.int .i64 (k:Nat)) W rfl (zR _ _) hM):P:=h
theorem yaw (h:P:=by
  cases ho;have f6:=a0a (v:= .int .i64 (n:Nat)) (hA.at_ (k:=6) zM);go_simp;exact hK (.int .i64 (n:Nat)) g W rfl (Ev.refl hM.b.tw) hM):P:=h
theorem yax (h:P:=by
  go_upto_if 64 with(first
   |(go_at_call 43;(with_reducible refine(jL.call 4 xM xM).mono ?_);rintro e W7⟨q2,rfl,PI,PJ,ju⟩))
  by_cases oX:q2=0
  ·subst oX
   go_wp2_with (first
    |(go_at_call 87;(with_reducible refine(a4v 1 1 W7).mono ?_);rintro e W8⟨⟨x3,y3,rfl,Ls,Lt⟩,iD⟩)
    |(go_at_call 87;(with_reducible refine(a4v 3 0 W8).mono ?_);rintro e W9⟨⟨x4,y4,rfl,Lu,Lv⟩,eS⟩)
    |(go_at_call 86;(with_reducible refine(b5q n₀ D sv xs _ W9 ((ju.up iD).up eS).td _ _ ((ju.up iD).up eS).s0 xM _ _ _ _ _ Ls Lt Lu Lv (by first|exact CR|exact vw|exact CS)).mono ?_);rintro e CY⟨Lw,v10,rfl,wZ,pR,CZ⟩))
   go_ret;exact⟨Lw,v10,rfl,⟨_,wZ,xM⟩,(((ju.up iD).up eS).then_ pR CZ).fin sH vC⟩
  ·have Lx:(q2==0)=false:=by simpa using oX
   go_wp2_with fail;go_ret;exact⟨_,_,rfl,⟨_,ju.s0,xM⟩,ju.fin sH vC⟩):P:=h
theorem yay (h:P:=by
  by_cases g1:a<i
  ·have w5:(a:Int)<(i:Int):=xM
   by_cases g2:i<mid
   ·have w6:(i:Int)<(mid:Int):=xM
    exact yam
   ·have w6:¬(i:Int)<(mid:Int):=xM
    exact yam
  ·have w5:¬(a:Int)<(i:Int):=xM
   exact yis):P:=h
theorem yaz (h:P:=by
  by_cases g1:mid<e
  ·have w5:(mid:Int)<(e:Int):=xM
   by_cases g2:e<b
   ·have w6:(e:Int)<(b:Int):=xM
    exact yam
   ·have w6:¬(e:Int)<(b:Int):=xM
    exact yam
  ·have w5:¬(mid:Int)<(e:Int):=xM
   exact yis):P:=h
theorem yba (h:P:=by
  by_cases g1:i<m
  ·have w5:(i:Int)<(m:Int):=xM
   by_cases g2:m<e
   ·have w6:(m:Int)<(e:Int):=xM
    exact yam
   ·have w6:¬(m:Int)<(e:Int):=xM
    exact yam
  ·have w5:¬(i:Int)<(m:Int):=xM
   exact yis):P:=h
theorem ybb (h:P:=by
  go_wp2_with fail;go_meet;refine⟨rfl,.mk eA.out (a1v ?_)⟩;have fp:i=a\/i=mid:=by
   simp at aR;omega
  rcases fp with h|h
  ·have:=s2.out
   rw[h]at this;exact this
  ·have:=s1.out
   rw[h]at this;exact this):P:=h
theorem ybc (h:P:=by
  go_wp2_with fail;go_meet;exact⟨_,_,_,_,_,_,_,_,_,hO,OddR.refl _ _ _ _⟩):P:=h
theorem ybd (h:P:=by
  go_wp2_with fail;go_ret;exact⟨rfl,zC⟩):P:=h
theorem ybe (h:P:=by
  obtain⟨S,a1,m1,c1,a2,m2,c2,a3,m3,c3,a4,m4,c4,l3,kB,mQ,kZ,al⟩:=hR;obtain⟨o0,o1,o2,o3⟩:=zN4 kB;obtain⟨e0,e1,e2,e3⟩:=zN4 kZ;have fe:=kZ.frozen;have kF:=kZ.set39 (.slice a1 m1 c1) (.slice a2 m2 c2) (.slice a3 m3 c3) (.slice a4 m4 c4);have pN:=b8q al (B:=X+1) xM (.slice a1 m1 c1) (.slice a2 m2 c2) (.slice a3 m3 c3) (.slice a4 m4 c4);have vD:=((mQ.more AQ).same (W':=a3r wr (X+1) (.slice a1 m1 c1) (.slice a2 m2 c2) (.slice a3 m3 c3) (.slice a4 m4 c4)) λb hb _=>a9w (H0 b hb).2 _ _ _ _).weak (D':=λb=>n1<=b) λb hb _=>C0 b hb
  clear kB kZ al mQ;go_wp2_with fail;exact bodyPost_ret (results_cell_row qM _ _ _ 32 _ (0,0) _ qM kF underlying32 qM zM) rfl ⟨_,_,_,_,_,_,_,_,_,_,_,_,_,rfl,⟨_,vD⟩,hX▸pN⟩):P:=h
theorem ybf (h:P:=by
  go_wp2_with fail;go_roundw
  case rel=>exact⟨i+1,dj,by go_num,xM,xM,HJ.out.below (below_growBy _ _),out.out (.inr (by show decide _=false;rw[HX.out.1,show jp+1-1=jp from rfl,HX.out.2,HC.out];exact decide_eq_false xM))⟩
  case measure=>exact yae):P:=h
theorem ybg (h:P:=by
  have oW:¬(a:Int)+(s:Int)<(n:Int):=xM;go_wp2_with fail;go_roundw
  case rel =>
   obtain⟨-,k2,k3⟩:=HM.out.last0 xM eT xM;exact⟨2*s,dk,by go_num,xM,xM,HK,Lib.hid k2,Lib.hid k3⟩
  case measure=>exact yae):P:=h
theorem ybh (h:P:=by
  go_wp2_with fail;refine bodyPost_ret (results_none rfl _ _ _) rfl ?_;exact⟨rfl,.mk HK.out cK.out⟩):P:=h
theorem ybi (h:P:=by
  rintro e W'⟨v,rfl,hp,h1,h2⟩;go_simp;exact hK v g W' hp h2 ⟨h1,hM.2.trans h2⟩):P:=h
theorem ybj (h:P:=by
  go_simp;exact hK _ g W ⟨_,rfl,zF⟩ (Ev.refl hM.b.tw) hM):P:=h
theorem ybk (h:P:=by
  cases ho;have f7:=a0a (v:= .int .i64 (k:Nat)) (hA.at_ (k:=7) zM);go_simp;exact hK (.int .i64 (k:Nat)) g W rfl (Ev.refl hM.b.tw) hM):P:=h
theorem ybl (h:P:=by
  obtain⟨p0,p1,-,-⟩:=pt2 ju.b0;obtain⟨y0,y1,y2,y3,y4,y5,y6,y7⟩:=a4h ju.b1;go_wp2_with (first
   |(at_builtin;refine a0x ju.tw qM _ _ 44 qM underlying44 a1l qM ju.s0 qM rfl (a3x HZ C1) rfl xM ?_;intro v9 S9 w9 aQ cg;obtain⟨a9,c9,rfl,-⟩:=aQ.form;have eR:=(ju.evo cg).tail;obtain⟨z0,z1,z2,z3,z4,z5,z6,z7⟩:=a4h eR.b0;have zf:=eR.b0.frozen 1))
  have Ly:=((eR.tailT.add aQ).set 1 (.slice a9 (n+1) c9) (c':=b6u (41+m) (.slice a9 (n+1) c9) cF ⟨#[]⟩ ⟨#[]⟩ false 0 0) vM);go_roundw
  case rel=>exact⟨k+1,S9,_,n+1,xM,xM,by go_num,xM,Ly⟩
  case measure=>simp[intOf];omega):P:=h
theorem ybm (h:P:=by
  obtain rfl:k=l.length:=xM;have aT:¬(l.length:Int)<(l.length:Int):=xM;rw[List.take_length]at ag;go_wp2_with fail;go_ret;rw[hX]at hb;rw[List.length_map]at ag;exact⟨_,rfl,ag,hb.trans bW.out⟩):P:=h
theorem ybn (h:P:=by
  go_wp2_with fail;go_roundw
  case rel=>exact⟨i,h,rfl,by go_num,xM,xM,xM,HS.out.below (below_growBy _ _),HL,Lib.hid (.inr (by rw[hp.out,HX.out.1,HX.out.2];exact a5a HC.out aC))⟩
  case measure=>exact yae):P:=h
theorem ybo (h:P:=by
  cases ho;have re:bb.tmps[49]? =some (.bool true):=a1y (v:= .bool true) (a0b hD 5 49 zM rfl rfl) (by rw[hA.size];exact Nat.le_of_ble_eq_true zM);exact yep):P:=h
theorem ybp (h:P:=by
  go_wp2_with fail;go_ret;exact⟨a5c (by have h1:=HE.out;rw[HF.out]at h1;omega),by first|exact c4x ah aq _|exact a5f (c4x ah aq _) _⟩):P:=h
theorem ybq (h:P:=by
  go_wp2_with fail;go_roundw
  case rel=>exact⟨i,h,rfl,by go_num,xM,xM,xM,HS.out.below (below_growBy _ _),HL,Lib.hid (.inr (by rw[HX.out.1,HX.out.2];exact a5t HC.out aC))⟩
  case measure=>exact yae):P:=h
theorem ybr (h:P:=by
  go_wp2_with fail;go_roundw
  case rel=>exact⟨i,h,rfl,by go_num,xM,xM,xM,HS.out.below (below_growBy _ _),HL,Lib.hid (.inr (by rw[HX.out.1,HX.out.2];exact a5a HC.out aC))⟩
  case measure=>exact yae):P:=h
theorem ybs (h:P:=by
  rw[hf]at az;clear hf jz pS pT pU mR;subst az;simp only[rT,rF,a1j,g0,g1,g2,g3,g4,Nat.reduceAdd];clear g0 g1 g2 g3 g4;simp only[zU];have cT:=hM.2.sl cf;go_wp2_with (first
   |(go_at_call 79;refine(hM.1.add ev n cT xM pv q jQ xM l r fl fr).mono ?_;rintro e W9⟨S9,v9,rfl,⟨m9,aQ,AR⟩,oY,cg⟩))
  go_roundw
  case rel=>exact⟨ci+1,m9,S9,xM,by go_num,xM,aQ,oY⟩
  case measure=>simp[intOf];omega):P:=h
theorem ybt (h:P:=by
  cases ho;have f13:=a0a (v:= .pointer (some ⟨E,0,none⟩)) (hA.at_ (k:=13) zM);go_simp;exact hK (.pointer (some ⟨E,0,none⟩)) g W rfl (Ev.refl hM.1.te.tw) hM):P:=h
theorem ybu (h:P:=by
  refine this.mono ?_;rintro e w'⟨rfl,hb⟩;refine⟨?_,hb⟩;by_cases he:l1.length=l2.length
  ·have h0:=hc.resolve_left (by simpa using he)
   obtain rfl:=List.eq_nil_of_length_eq_zero h0;obtain rfl:=List.eq_nil_of_length_eq_zero (he▸h0);rfl
  ·rw[b3d he,decide_eq_false he]):P:=h
theorem ybv (h:P:=by
  go_roundw
  case rel =>
   obtain⟨-,k2,k3⟩:=HM.out.last xM eT xM r3;exact⟨2*s,d3,by go_num,xM,xM,Lib.hid h3,Lib.hid k2,Lib.hid k3⟩
  case measure=>exact yae):P:=h
theorem ybw (h:P:=by
  rintro e W'⟨u,rfl,hr,hb⟩;go_simp;exact hK _ W' (a3n hr hM.z) hb (hM.up hb)):P:=h
theorem ybx (h:P:=by
  have cL:¬(i:Int)<(b:Int):=xM;go_wp2_with fail;go_end0;have h5:=HO.out;rw[insOuter_stop _ _ _ _ _ ab]at h5;refine⟨rfl,?_⟩;unfold insertionSort;rw[<-h5];exact HR.out):P:=h
theorem yby (h:P:=by
  go_simp;exact hK _ W ⟨_,rfl,zF⟩ (zR _ _) hM):P:=h
theorem ybz (h:P:=by
  go_simp;refine(a3j _ _ _ W).mono ?_;rintro e W'⟨rfl,hb⟩;go_simp;exact hK _ W' ⟨Z,rfl,kz.below hb kz.lt⟩ hb (hM.up hb)):P:=h
theorem yca (h:P:=by
  cases ho;have f8:=a0a (v:= .int .i64 (1+(N:Nat))) (hA.at_ (k:=8) zM);go_simp;exact hK (.int .i64 (1+(N:Nat))) g W rfl (Ev.refl hM.1.te.tw) hM):P:=h
theorem ycb (h:P:=by
  cases ho;have f18:=a0a (v:= .int .i64 (ci:Nat)) (hA.at_ (k:=18) zM);go_simp;exact hK (.int .i64 (ci:Nat)) g W rfl (Ev.refl hM.1.te.tw) hM):P:=h
theorem ycc (h:P:=by
  cases ho;have f17:=a0a (v:= .int .i64 (j:Nat)) (hA.at_ (k:=17) zM);go_simp;exact hK (.int .i64 (j:Nat)) g W rfl (Ev.refl hM.1.te.tw) hM):P:=h
theorem ycd (h:P:=by
  cases ho;have f0:=a0a (v:= .slice (some ⟨b,off,none⟩) m cap) (hA.at_ (k:=0) zM);go_simp;exact hK (.slice (some ⟨b,off,none⟩) m cap) W rfl (zR _ _) hM):P:=h
theorem yce (h:P:=by
  have f5:=a0a (v:= .pointer (some ⟨B5,0,none⟩)) (hA.at_ (k:=5) zM);have z0:W.cell? ⟨B5,0,none⟩=some (.slice none 0 0):=hM.t3.k.cell 0;have z1:W.cell? ⟨B5,1,none⟩=some (.slice none 0 0):=hM.t3.k.cell 1;have z2:W.cell? ⟨B5,2,none⟩=some (.slice none 0 0):=hM.t3.k.cell 2;have z3:W.cell? ⟨B5,3,none⟩=some (.slice (some ⟨Z5,0,none⟩) 1 1):=hM.t3.k.cell 3;go_simp;exact hK (.agg #[.slice none 0 0,.slice none 0 0,.slice none 0 0,.slice (some ⟨Z5,0,none⟩) 1 1]) W rfl (zR _ _) hM):P:=h
theorem ycf (h:P:=by
  go_roundw
  case rel=>exact⟨k+1,xM,by go_num,by rw[rh];simpa using ee,Lib.hid ((pV.trans (aJ.mono xM)).trans fJ),oZ.kept bl fK⟩
  case measure=>simp[intOf];omega):P:=h
theorem ycg (h:P:=by
  cases ho;have f16:=a0a (v:= .int .i64 (ci:Nat)) (hA.at_ (k:=16) zM);go_simp;exact hK (.int .i64 (ci:Nat)) g W rfl (Ev.refl hM.1.te.tw) hM):P:=h
theorem ych (h:P:=by
  cases ho;have f9:=a0a (v:= .int .i64 (H:Nat)) (hA.at_ (k:=9) zM);go_simp;exact hK (.int .i64 (H:Nat)) g W rfl (Ev.refl hM.1.te.tw) hM):P:=h
theorem yci (h:P:=by
  split at h
  all_goals first|exact h|(obtain⟨Z,h1,h2,h3⟩:=h;exact⟨Z,h1,h2,h3.below hg h3.lt⟩)|(exact⟨a0c h.1 hg,h.2⟩)):P:=h
theorem ycj (h:P:=by
  cases ho;have f15:=a0a (v:= .int .i64 (j:Nat)) (hA.at_ (k:=15) zM);go_simp;exact hK (.int .i64 (j:Nat)) g W rfl (Ev.refl hM.1.te.tw) hM):P:=h
theorem yck (h:P:=by
  go_ret;have hh:=ab.out;refine⟨_,rfl,a3n aL xM,?_⟩;rw[jA];exact eH.out.trans (a0f fM (by have:=eH.out.size;omega) λk hk=>by have:=hh k hk;omega)):P:=h
theorem ycl (h:P:=by
  cases ho;have f13:=a0a (v:= .pointer (some ⟨Q,0,none⟩)) (hA.at_ (k:=13) zM);have z0:W.cell? ⟨Q,0,none⟩=some (.int .i64 bx):=hM.q.cell 0;have z1:W.cell? ⟨Q,1,none⟩=some (.int .i64 by_):=hM.q.cell 1;have z2:W.cell? ⟨Q,2,none⟩=some (.int .i64 bd):=hM.q.cell 2;exact yjx):P:=h
theorem ycm (h:P:=by
  cases ho;have f12:=a0a (v:= .pointer (some ⟨P,0,none⟩)) (hA.at_ (k:=12) zM);have z0:W.cell? ⟨P,0,none⟩=some (.int .i64 ax):=hM.p.cell 0;have z1:W.cell? ⟨P,1,none⟩=some (.int .i64 ay):=hM.p.cell 1;have z2:W.cell? ⟨P,2,none⟩=some (.int .i64 ad):=hM.p.cell 2;exact yjy):P:=h
theorem ycn (h:P:=by
  have hg:=a0d W1 g i (.slice a n c);refine⟨λj hj gq=> ?_,λj hj gq=> ?_,λx hx=> ?_⟩
  ·rw[List.length_set]at hj
   by_cases e:k=j
   ·subst e
    rw[List.getElem_set_self];exact a0i hr hg kg jM
   ·rw[List.getElem_set_ne e]
    exact a0i (a0c (h.new j hj xM) hb) hg kg jM
  ·rw[List.length_set]at hj
   rw[List.getElem_set_ne xM];exact h.old j hj xM
  ·rcases List.mem_or_eq_of_mem_set hx with h1|rfl
   ·exact h.len x h1
   ·exact h.len E[k] (List.getElem_mem hk)):P:=h
theorem yco (h:P:=by
  have h0:=World.grownBy_alloc w (.cells (E.enc x).toArray E.t) none;refine⟨hg.os.trans h0.os,hg.tape.trans h0.tape,hg.output.trans h0.output,Nat.le_trans h0.size hg.size,λk hk an=> ?_⟩;exact(hg.block k uM an).trans (h0.block k hk vM)):P:=h
theorem ycp (h:P:=by
  go_wp2_with (first
   |(go_at_call 53;(with_reducible refine(hS _ (zR _ _)).mono ?_);rintro e W6⟨rfl,bC⟩))
  simp only[Bool.not_true,Bool.false_eq_true,if_false,List.append_nil]at ai;rw[<-ai]at aD;replace aD:=Lib.hid aD;go_roundw
  case rel=>exact⟨k+1,pre,xM,by go_num,aD.out,xM,o5 _ bC,o6 _ bC⟩
  case measure=>(simp[intOf];omega)):P:=h
theorem ycq (h:P:=by
  go_simp;exact hK (.pointer (some ⟨b,off+k*4,none⟩)) W rfl (zR _ _) hM):P:=h
theorem ycr (h:P:=by
  go_roundw
  case rel=>exact⟨k+1,by go_num,xM,Lib.hid (by exact zC),Lib.hid (cG.out.out (by first|rfl|trivial))⟩
  case measure=>exact yae):P:=h
theorem ycs (h:P:=by
  go_roundw
  case rel=>exact⟨a+2*s,d3,by go_num,by go_num,hle,Lib.hid h3,Lib.hid (HM.out.step xM hle r3)⟩
  case measure=>exact yae):P:=h
theorem yct (h:P:=by
  cases ho;have f5:=a0a (v:=sv) (hA.at_ (k:=5) zM);go_simp;exact hK (sv) g W rfl (Ev.refl hM.1.te.tw) hM):P:=h
theorem ycu (h:P:=by
  clear aR mS;refine(wpIn_wide (n:=n)).1 ?_;gi_wp2;refine pW.mono ?_;rintro e W5 (⟨rfl,hJ5,hk5⟩|⟨ch,rfl,hp⟩)
  ·gi_wp2
   go_wp2_with fail;go_roundw
   case rel=>exact⟨k+1,pre++[b8t i],xM,by go_num,aV,by simp;omega,hJ5,lg.keep hk5⟩
   case measure=>(simp[intOf];omega)
  ·exact yfu):P:=h
theorem ycv (h:P:=by
  cases ho;have f4:=a0a (v:= .int .i64 (k:Nat)) (hA.at_ (k:=4) zM);exact yav):P:=h
theorem ycw (h:P:=by
  go_simp;have hb:Below W.heap.size W (W.alloc (.cells #[.int .i64 4,.int .i64 9,.int .i64 9,.string ⟨#[116,114,101,101]⟩,.string ⟨#[]⟩,.int .i64 1,.int .i64 1,.int .i64 6,.int .i64 2,.int .i64 2,.string ⟨#[116,114,101,101]⟩,.string ⟨#[]⟩,.int .i64 1,.int .i64 1] 48)):=(zR _ _).alloc (yR _) _;exact yfx):P:=h
theorem ycx (h:P:=by
  go_roundw
  case rel=>exact⟨i,j-i,d1,by go_num,by go_num,xM,xM,Lib.hid eN,Lib.hid (HI.out.right ab aN)⟩
  case measure=>exact yae):P:=h
theorem ycy (h:P:=by
  go_roundw
  case rel=>exact⟨i-j,j,d1,by go_num,by go_num,xM,xM,Lib.hid eN,Lib.hid (HI.out.left hgt aN)⟩
  case measure=>exact yae):P:=h
theorem ycz (h:P:=by
  by_cases gq:j=k
  ·subst gq
   show decide _=true;rw[hex,i6,hr];exact h
  ·exact aa.out j g1 g2 xM):P:=h
theorem yda (h:P:=by
  replace lG:=Lib.hid lG;clear fp aR;go_wp2_with fail;go_end0;exact⟨rfl,.mk gv.out (cY.out _ lG.out)⟩):P:=h
theorem ydb (h:P:=by
  exact hK (.slice (some ⟨W.heap.size,0,none⟩) 0 0) _ ⟨_,rfl,hM.z,Blk.new _ _ _⟩ hb (hM.up hb)):P:=h
theorem ydc (h:P:=by
  go_simp;exact hK (.slice (some ⟨g,go,none⟩) ne dc) W rfl (zR _ _) hM):P:=h
theorem ydd (h:P:=by
  rintro v9 w9 bG eS⟨gu,cap,rfl,H2⟩;exact hK _ w9 ⟨bG,gu,cap,rfl⟩ eS (hM.up eS)):P:=h
theorem yde (h:P:=by
  exact hK (.slice (some ⟨W.heap.size,0,none⟩) 1 1) _ ⟨_,rfl,Blk.new _ _ _⟩ hb (hM.up hb)):P:=h
theorem ydf (h:P:=by
  have C2:=C3.kept aB (λe=>by cases e;omega);have C4:=C5.kept aB (λe=>by cases e;omega);clear bG aU kJ C3 C5 aB bS i7 AS au;go_wp2_with fail;go_roundw
  case rel=>exact⟨k+1,a9,c9,xM,by go_num,by rw[dt];exact aF,C2,C4,by rw[dt];exact ja⟩
  case measure=>exact yae):P:=h
theorem ydg (h:P:=by
  have cL:¬(i:Int)<(k:Int):=xM;obtain rfl:i=k:=xM;go_wp2_with fail;go_end0;exact⟨rfl,.mk HR.out HS.out⟩):P:=h
theorem ydh (h:P:=by
  go_simp;refine(hM.1.cell x0 x1 x2 x3 x4 x5 _ _ _ _ q0 q1 q2 q3 q4 q5 xM xM).mono ?_;exact ybi):P:=h
theorem ydi (h:P:=by
  cases a with
  |none =>
   obtain rfl:=oS rfl;obtain rfl:olds=[]:=List.eq_nil_of_length_eq_zero (by simpa using oR);exact run_firstCells_none W.drew _ _ _ _
  |some ad=>exact run_firstCells_some W.drew i.size n ad n cap olds (by rw[aM];exact oR) (λj u hj=>by obtain⟨Lz,h,hc⟩:=kV j u hj;cases h;simpa using hc)):P:=h
theorem ydj (h:P:=by
  cases ho;have f41:bb.tmps[41]?.getD undef= .int .i64 x:=a0a (v:= .int .i64 x) (a0e hD 1 41 zM rfl rfl);have hE:=Ev.alloc (X:=noB) hM.ok (c7s (S:=g) (W:=W) fx);go_simp;exact hK (.slice (some ⟨W.heap.size,0,none⟩) 1 1) _ _ (SL.blk (.inr rfl) (Blk.new _ _ _) (by show 1*1<=1;omega)) hE (hM.trans hE)):P:=h
theorem ydk (h:P:=by
  have h3:=gU.out;unfold b8c at h3;rw[HX.out.1,HX.out.2,b8d]at h3;exact Lib.hid h3.drew):P:=h
theorem ydl (h:P:=by
  have h3:=gU.out;unfold b8c at h3;rw[HX.out.1,HX.out.2,b8f]at h3;exact Lib.hid h3.drew):P:=h
theorem ydm (h:P:=by
  have h3:=gU.out;unfold b8c at h3;rw[HX.out.1,HX.out.2,b8h]at h3;exact Lib.hid h3.drew):P:=h
theorem ydn (h:P:=by
  have h3:=gU.out;unfold b8c at h3;rw[HX.out.1,HX.out.2,b8j]at h3;exact Lib.hid h3.drew):P:=h
theorem ydo (h:P:=by
  go_wp2_with fail;go_meet;refine⟨rfl,.mk HS.out (Rot.none ?_ iC mT)⟩;simp at aR;omega):P:=h
theorem ydp (h:P:=by
  refine((callsIn_wide (n:=5)).1 cS).mono ?_;rintro e w'⟨v,ss,rfl,hS,ag,-,hb⟩;have hq:ss.Perm (en.map (·.1)):=hS.trans hp.symm;refine⟨v,rfl,?_,hb⟩;have hlen:ss.length=en.length:=by rw[hq.length_eq,List.length_map]
  rw[show sortI (en.map (·.1))=ss.mergeSort leI from(mergeSort_of_perm_i hq).symm,<-hlen];exact ag):P:=h
theorem ydq (h:P:=by
  go_roundw
  case rel=>exact⟨i+1,dj,by go_num,xM,xM,Lib.hid HJ.out.drew,jR⟩
  case measure=>exact yae):P:=h
theorem ydr (h:P:=by
  cases ho;have f15:=a0a (v:= .pointer (some ⟨jB,0,none⟩)) (hA.at_ (k:=15) zM);have z0:W.cell? ⟨jB,0,none⟩=some (.int .i64 cx):=hM.b0.cell 0;have z1:W.cell? ⟨jB,1,none⟩=some (.int .i64 90):=hM.b0.cell 1;go_simp;exact hK (.agg #[.int .i64 cx,.int .i64 90]) g W rfl (Ev.refl hM.tw) hM):P:=h
theorem yds (h:P:=by
  rintro e w'⟨rfl,rfl⟩;exact⟨_,rfl,⟨by simp,.inl ⟨rfl,rfl⟩⟩,zR _ _⟩):P:=h
theorem ydt (h:P:=by
  go_roundw
  case rel=>exact⟨a+20,_,by go_num,by go_num,hle,Lib.hid h1,AT⟩
  case measure=>exact yae):P:=h
theorem ydu (h:P:=by
  go_wp2_with fail;refine wp_loop_rounds 1 ?_;rw[rounds_succ];go_wp2_with fail;go_end0;exact⟨rfl,rfl⟩):P:=h
theorem ydv (h:P:=by
  cases ho;have f40:bb.eval (.tmp 40)=v6:=a0e hD 0 40 zM rfl rfl;have f42:SL g W 3 (bb.eval (.tmp 42)) 1:=a0e hD 2 42 zM rfl rfl;exact a9f hM.ok rfl _ _ 100 rfl underlying100 a4y f40 (hM.sl gR) rfl f42 xM (λv' S' w' h1 h2=>hK v' S' w' h1 h2 (hM.trans h2))):P:=h
theorem ydw (h:P:=by
  cases xa with
  |none =>
   obtain rfl:=vy rfl;obtain rfl:news=[]:=List.eq_nil_of_length_eq_zero (by simpa using pQ);exact Src.ofNil W ht xc
  |some ad=>exact Src.ofSlice W ht ad m xc news (by rw[aM];exact pQ) (λj u hj=>by obtain⟨Lz,h,hc⟩:=sI j u hj;cases h;exact hc) ck):P:=h
theorem ydx (h:P:=by
  rw[List.set_append_right _ _ (by rw[List.length_map,List.length_take];omega),List.length_map,List.length_take,Nat.min_eq_left xM,Nat.sub_self,List.drop_eq_getElem_cons hk,List.set_cons_zero,List.take_add_one,List.getElem?_eq_getElem hk,Option.toList_some,List.map_append,List.append_assoc];rfl):P:=h
theorem ydy (h:P:=by
  go_wp2_with (first
   |(refine a2j qM _ _ _ qM B9 (a2w _ _ _ _ _ _ _) qM qM _ _ k9 qM qM (by simp[a2w,Value.oneCell']) ?_;intro WS kS LA))
  go_roundw
  case rel=>exact⟨i+1,true,xM,by go_num,rfl,hq.best2 kS LA g1 g2⟩
  case measure=>simp[intOf];omega):P:=h
theorem ydz (h:P:=by
  refine wpQuiet_nil ?_;intro _ bI;obtain⟨p,bI⟩:=bI;subst bI;exact ybd):P:=h
theorem yea (h:P:=by
  cases ho;have f10:=a0a (v:= .int .i64 (k:Nat)) (hA.at_ (k:=10) zM);exact yav):P:=h
theorem yeb (h:P:=by
  have hE:=Ev.setCells (X:=X) hb news (o*s+n*i.size) W c hT hc (λj u ct h1 h2=>sG j u ct h1 (by
   rw[jP,aM,<-Nat.add_mul,Nat.mul_comm,Nat.mul_add_mod]at h2;exact h2))
  exact hE.sl ⟨_,cap,rfl,gE,.inr ⟨b,o,c,by rw[jP],hb,hc,by rw[jP,Nat.add_mul];omega⟩⟩):P:=h
theorem yec (h:P:=by
  refine⟨_,_,rfl,aT,.inr ⟨W.heap.size,0,_,by rw[Nat.zero_mul],.inr rfl,Blk.new W.drew _ _,?_⟩⟩;rw[jP,Nat.zero_add];simp only[Array.size_append,List.size_toArray,List.length_append,oR,pQ,size_zeroCells,fI,<-Nat.add_mul];exact Nat.mul_le_mul_right s xM):P:=h
theorem yed (h:P:=by
  go_wp2_with (first
   |(go_at_call 84;refine(c1u _ _ jS.te.tw _ nF AU xM).mono ?_;rintro e WF⟨SF,vF,rfl,⟨nf,w8,sJ⟩,H3⟩))
  go_ret2;exact⟨SF,_,_,rfl,⟨nF,nf,H3.sl AU,xM,w8,sJ⟩,jS.m7.bel.trans H3⟩):P:=h
theorem yee (h:P:=by
  rw[if_pos hid,List.append_nil]at dt;have an:(x.id != id)=false:=by simpa using hid
  go_wp2_with fail;go_roundw
  case rel=>exact⟨k+1,va,vc,xM,by go_num,by rw[dt];exact hR,kB,kO,by rw[dt];exact kR⟩
  case measure=>exact yae):P:=h
theorem yef (h:P:=by
  split at h
  all_goals first|exact h|(obtain⟨Z,h1,h2⟩:=h;exact⟨Z,h1,h2.below hg h2.lt⟩)):P:=h
theorem yeg (h:P:=by
  clear jT ri pX rj bO du;obtain⟨H4,xb⟩:=zE li.length;rw[xb]at sK ⊢;clear xb;go_wp2_with fail;go_roundw
  case rel=>exact⟨k+1,_,by go_num,xM,sK⟩
  case measure=>exact yae):P:=h
theorem yeh (h:P:=by
  rw[<-hR.out];exact c1j hk cW (by show decide _=false;rw[hex,i6,hr];exact h)):P:=h
theorem yei (h:P:=by
  go_wp2_with fail;go_roundw
  case rel=>exact⟨k+1,xM,by go_num,Lib.hid ⟨cZ,aI,λi hi h=>by
   by_cases e:i=k
   ·subst e
    rw[hz];exact hid
   ·exact an i hi xM⟩,jU,dV,lj⟩
  case measure=>exact yae):P:=h
theorem yej (h:P:=by
  rcases hv.2 with⟨e,-⟩|⟨g',bk,cur,e,-,-,h1,-⟩
  ·cases e
  ·simp only[Value.slice.injEq,true_and]at e
   omega):P:=h
theorem yek (h:P:=by
  simp only[Program.fieldsOf,underlying48];clear hS;go_simp;by_cases ha:a1=a2 <;> by_cases hb:b1=b2 <;> by_cases hc:c1=c2 <;> by_cases hd:d1=d2 <;> by_cases he:e1=e2 <;> by_cases hf:f1=f2 <;> by_cases hg:g1=g2 <;> simp[a3o,ha,hb,hc,hd,he,hf,hg]):P:=h
theorem yel (h:P:=by
  go_enter func82,ntmps82;go_wp2_with fail;go_ret;exact⟨⟨0,rfl,zF⟩,zC⟩):P:=h
theorem yem (h:P:=by
  rw[hr];obtain rfl:=List.eq_nil_of_length_eq_zero h0;obtain rfl:=List.eq_nil_of_length_eq_zero (hc▸h0);clear hr gG dC;go_enter func25,ntmps25;exact yhb):P:=h
theorem yen (h:P:=by
  rcases hf with rfl|⟨b,off,cap,rfl⟩
  ·exact Src.ofNil W hI.under 0
  ·exact Src.ofSlice W hI.under _ 0 cap [] vM vM vM):P:=h
theorem yeo (h:P:=by
  refine wp_loop_rounds 1 ?_;rw[rounds_succ];go_wp2_with fail;go_end0;exact⟨rfl,hK⟩):P:=h
theorem yep (h:P:=by
  go_simp;refine(a3i _ _ _ W).mono ?_;exact yan):P:=h
theorem yeq (h:P:=by
  exact⟨0,Nat.zero_le _,rfl,⟨by simp,.inl ⟨rfl,by simp⟩⟩,Lib.hid (zR _ _),kX⟩):P:=h
theorem yer (h:P:=by
  rw[e]at h2;exact absurd h2 (by simp[tgZ])):P:=h
theorem yes (h:P:=by
  cases ho;have f0:=a0a (v:= .slice (some ⟨b,off,none⟩) n cap) (hA.at_ (k:=0) zM);go_simp;exact hK (.slice (some ⟨b,off,none⟩) n cap) W rfl (zR _ _) hM):P:=h
theorem yet (h:P:=by
  match i,h1,h2 with
  |0,h1,h2=>cases h1;cases h2;exact CT.ok_int hi
  |1,h1,h2=>cases h1;cases h2;exact CT.ok_sl hv hn
  |2,h1,h2=>cases h1;cases h2;exact CT.ok_int hl
  |3,h1,h2=>cases h1;cases h2;exact CT.ok_int hr
  |i+4,h1,_=>simp at h1):P:=h
theorem yeu (h:P:=by
  go_simp;refine(hM.1.wiggle ax ay bx by_ fa fb fc fd).mono ?_;rintro e W'⟨S',v,rfl,hp,h1,h2⟩;go_simp;exact hK v S' W' hp h2 ⟨h1,hM.2.trans h2⟩):P:=h
theorem yev (h:P:=by
  rintro e w'⟨rfl,q,rfl⟩;rw[List.take_length,List.take_length,a9u];exact⟨rfl,below_drewN (zR _ _) q⟩):P:=h
theorem yew (h:P:=by
  exact⟨0,AV,rfl,by go_num,xM,HR,Lib.hid (MrI.start HR.out.sz HS.out HB.out)⟩):P:=h
theorem yex (h:P:=by
  go_wp2_with fail;refine wp_loop_rounds 1 ?_;rw[rounds_succ];go_wp2_with fail;go_ret;exact⟨by simp,zC⟩):P:=h
theorem yey (h:P:=by
  go_ret;exact⟨by rw[ai.out (by first|rfl|trivial)];rfl,by exact zC⟩):P:=h
theorem yez (h:P:=by
  rw[show(a7y A L R (S.take k)++[i]).length=(a7y A L R (S.take k)).length+1 by simp]at gH;exact yjg):P:=h
theorem yfa (h:P:=by
  exact⟨m-a,b-m,d,by go_num,by go_num,xM,xM,HW,Lib.hid (RoI.start d xM xM)⟩):P:=h
theorem yfb (h:P:=by
  go_simp;refine(a8o _ li W hM.l).mono ?_;rintro e W'⟨u,rfl,hr,hb⟩;go_simp;exact hK _ W' (a3n hr (Nat.le_trans bX hM.bel.size)) hb (hM.up hb)):P:=h
theorem yfc (h:P:=by
  unfold Oper.wp execOp;simp only[ho,resolve,invoke,builtin,Sem.run_bind,Sem.run_pure,Result.andThen_ok,List.map_toArray,List.map_cons,List.map_nil,bj,aO,hr];exact h v' S' w' ((h0.evo h3 h4).add h2) h5 h3):P:=h
theorem yfd (h:P:=by
  exact⟨lo,hi,rfl,rfl,xM,xM,xM,HW,Lib.hid (.inl rfl),Lib.hid (.inl rfl)⟩):P:=h
theorem yfe (h:P:=by
  rw[List.getElem?_append_right (by rw[List.length_map,List.length_take];omega),List.length_map,List.length_take,List.getElem?_drop,Nat.min_eq_left xM,Nat.sub_self,Nat.add_zero,List.getElem?_eq_getElem hk]):P:=h
theorem yff (h:P:=by
  unfold Oper.wp execOp;simp only[ho,resolve,invoke,builtin,Sem.run_bind,Sem.run_pure,Result.andThen_ok,List.map_toArray,List.map_cons,List.map_nil,bj,aO,hr];exact h v' S' w' ((h0.evo h3 h4).add h2) h5):P:=h
theorem yfg (h:P:=by
  exact⟨m,b,rfl,rfl,xM,xM,xM,HW,Lib.hid (.inl rfl),Lib.hid (.inl rfl)⟩):P:=h
theorem yfh (h:P:=by
  exact⟨a,m,rfl,rfl,xM,xM,xM,HW,Lib.hid (.inl rfl),Lib.hid (.inl rfl)⟩):P:=h
theorem yfi (h:P:=by
  rw[<-HO.out,insOuter_go _ _ _ _ _ ab,<-HI.out,insInner_stop _ _ _ _ hs]):P:=h
theorem yfj (h:P:=by
  go_wp2_with (go_at_call 23;refine(hq).mono ?_;rintro e w'⟨rfl,aE⟩;obtain⟨p,rfl⟩:=a0j aE;clear aE)
  all_goals (go_ret;refine⟨?_,zC⟩;rw[hr.out];clear hr;simp_all [a3o])):P:=h
theorem yfk (h:P:=by
  rintro e w'⟨u,rfl,hr,-,hb⟩;exact⟨u,rfl,hr,hb⟩):P:=h
theorem yfl (h:P:=by
  rw[hl.out,List.take_add_one];congr 1;rw[List.getElem?_reverse xM,List.getElem?_eq_getElem xM];simp only[Option.toList];congr 2;omega):P:=h
theorem yfm (h:P:=by
  go_wp2_with (first
   |(go_at_call 10;(with_reducible refine bY.mono ?_);rintro e W7⟨rfl,jC⟩))
  go_ret;exact⟨rfl,gI.trans (jC.mono gI.size)⟩):P:=h
theorem yfn (h:P:=by
  cases ho;have f3:=a0a (v:= .pointer (some ⟨L,0,none⟩)) (hA.at_ (k:=3) zM);go_simp;exact hK (.pointer (some ⟨L,2,none⟩)) W rfl (zR _ _) hM):P:=h
theorem yfo (h:P:=by
  rw[List.getElem?_mapIdx,List.getElem?_eq_getElem ab,ha];rfl):P:=h
theorem yfp (h:P:=by
  rw[<-hm.out]at cK;replace cK:=Lib.hid cK;exact ybh):P:=h
theorem yfq (h:P:=by
  have z0:W.cell? ⟨BO,1,none⟩=some (.slice (some ⟨fb,fo,none⟩) nf gJ):=hM.b.b0.cell 1;go_simp;exact hK (.slice (some ⟨fb,fo,none⟩) nf gJ) g W rfl (Ev.refl hM.b.tw) hM):P:=h
theorem yfr (h:P:=by
  cases ho;have f2:=a0a (v:= .pointer (some ⟨BM,0,none⟩)) (hA.at_ (k:=2) zM);go_simp;exact hK (.pointer (some ⟨BM,3,none⟩)) W rfl (zR _ _) hM):P:=h
theorem yfs (h:P:=by
  rw[Bool.eq_iff_iff];subst rk vE mO H5 H6 oY pR eU;simp only[Wq.key,Wk.mk.injEq,decide_eq_true_eq,Bool.and_eq_true,beq_iff_eq];exact⟨λh=>by simp_all,λh=>by simp_all⟩):P:=h
theorem yft (h:P:=by
  cases ho;have f5:=a0a (v:= .int .i64 (k:Nat)) (hA.at_ (k:=5) zM);exact yav):P:=h
theorem yfu (h:P:=by
  gi_wp2;exact⟨rfl,.inr ⟨ch,rfl,hp⟩⟩):P:=h
theorem yfv (h:P:=by
  cases ho;go_simp;exact hK (.pointer (some ⟨W.heap.size,0,none⟩)) _ ⟨_,rfl,hM.b.size,Blk.new _ _ _⟩ ((zR _ _).alloc (yR _) _) (hM.up ((zR _ _).alloc (yR _) _))):P:=h
theorem yfw (h:P:=by
  intro k ok hk jb sL LB;refine lk k ok hk jb ?_ LB;rcases Nat.decEq j k with gq|gq
  ·rw[getD_set_ne true gq]at sL;exact sL
  ·subst gq;exact pY):P:=h
theorem yfx (h:P:=by
  exact hK (.slice (some ⟨W.heap.size,0,none⟩) 2 2) _ ⟨_,rfl,Blk.new _ _ _⟩ hb (hM.up hb)):P:=h
theorem yfy (h:P:=by
  cases ho;have f5:=a0a (v:= .pointer (some ⟨BR,0,none⟩)) (hA.at_ (k:=5) zM);go_simp;exact hK (.pointer (some ⟨BR,0,none⟩)) W rfl (zR _ _) hM):P:=h
theorem yfz (h:P:=by
  cases ho;have f3:=a0a (v:= .pointer (some ⟨L,0,none⟩)) (hA.at_ (k:=3) zM);go_simp;exact hK (.pointer (some ⟨L,0,none⟩)) W rfl (zR _ _) hM):P:=h
theorem yga (h:P:=by
  cases ho;have f2:=a0a (v:= .pointer (some ⟨BM,0,none⟩)) (hA.at_ (k:=2) zM);go_simp;exact hK (.pointer (some ⟨BM,2,none⟩)) W rfl (zR _ _) hM):P:=h
theorem ygb (h:P:=by
  cases ho;have f15:=a0a (v:= .pointer (some ⟨jB,0,none⟩)) (hA.at_ (k:=15) zM);go_simp;exact hK (.pointer (some ⟨jB,0,none⟩)) g W rfl (Ev.refl hM.tw) hM):P:=h
theorem ygc (h:P:=by
  refine ih (k+1) _ _ (λj hj=> ?_) xM (inv.set jD xM) H7 hK;have h1:=hl (j+1) (by simp only[List.length_cons];omega);rw[show k+1+j=k+(j+1)from by omega];simpa using h1):P:=h
theorem ygd (h:P:=by
  go_simp;exact hK (.int .i64 ((M:Nat)+1)) W rfl (zR _ _) hM):P:=h
theorem yge (h:P:=by
  exact⟨0,rfl,xM,Lib.hid (zR _ _),Lib.hid λj _ _ h=>by omega⟩):P:=h
theorem ygf (h:P:=by
  cases ho;have f6:=a0a (v:= .pointer (some ⟨B6,0,none⟩)) (hA.at_ (k:=6) zM);go_simp;exact hK (.pointer (some ⟨B6,0,none⟩)) W rfl (zR _ _) hM):P:=h
theorem ygg (h:P:=by
  cases ho;have f6:=a0a (v:= .pointer (some ⟨B6,0,none⟩)) (hA.at_ (k:=6) zM);go_simp;exact hK (.pointer (some ⟨B6,1,none⟩)) W rfl (zR _ _) hM):P:=h
theorem ygh (h:P:=by
  obtain⟨id,rfl,f0⟩:=h0.i rfl;obtain⟨m,hm,hl⟩:=h1.l rfl;obtain⟨l,rfl,f2⟩:=h2.i rfl;obtain⟨r,rfl,f3⟩:=h3.i rfl;exact⟨id,l,r,u1,m,c0,c1,c2,c3,f0,f2,f3,hl,hm⟩):P:=h
theorem ygi (h:P:=by
  cases ho;have f5:=a0a (v:= .pointer (some ⟨BO,0,none⟩)) (hA.at_ (k:=5) zM);go_simp;exact hK (.pointer (some ⟨BO,1,none⟩)) g W rfl (Ev.refl hM.b.tw) hM):P:=h
theorem ygj (h:P:=by
  cases ho;have f1:bb.tmps[1]?.getD undef= .int .i64 x:=a0a (v:= .int .i64 x) (hA.at_ (k:=1) zM);go_simp;exact hK (.int .i64 x) g W rfl (Ev.refl hM.ok) hM):P:=h
theorem ygk (h:P:=by
  obtain⟨i,hi,h4⟩:=Array.any_eq_true.1 h1;simp only[Bool.and_eq_true,beq_iff_eq]at h4;have:=h o.after[i] (Array.getElem_mem hi) h4.1;rw[h4.2]at this;exact this oj d h2 h3):P:=h
theorem ygl (h:P:=by
  exact Ev.setCells hb news (o*s+n*i.size) W c hT hc (λj u ct h1 h2=>sG j u ct h1 (by
   rw[jP,aM,<-Nat.add_mul,Nat.mul_comm,Nat.mul_add_mod]at h2;exact h2))):P:=h
theorem ygm (h:P:=by
  go_simp;exact hK (.slice (some ⟨W.heap.size,0,none⟩) 1 1) _ ⟨_,rfl,hM.bel.size,Blk.new _ _ _⟩ ((zR _ _).alloc (yR _) _) (hM.up ((zR _ _).alloc (yR _) _))):P:=h
theorem ygn (h:P:=by
  exact⟨a,d,rfl,xM,xM,HS,Lib.hid (Rot.none (.inr rfl) xM xM)⟩):P:=h
theorem ygo (h:P:=by
  exact⟨m,d,rfl,xM,xM,HS,Lib.hid (Rot.none (.inl rfl) xM xM)⟩):P:=h
theorem ygp (h:P:=by
  cases ho;have vG:bb.tmps[31]? =some (.bool true):=a1y (v:= .bool true) (a0b hD 7 31 zM rfl rfl) (by rw[hA.size];exact Nat.le_of_ble_eq_true zM);exact yep):P:=h
theorem ygq (h:P:=by
  cases ho;have f14:=a0a (v:=ev) (hA.at_ (k:=14) zM);go_simp;exact hK (ev) g W rfl (Ev.refl hM.1.te.tw) hM):P:=h
theorem ygr (h:P:=by
  rintro e W'⟨S3,b1,p1,d1,b2,p2,d2,b3,p3,d3,b4,p4,d4,l2,rfl,hm,hb⟩;go_simp;exact hK _ W' ⟨b1,p1,d1,b2,p2,d2,b3,p3,d3,b4,p4,d4,l2,S3,rfl,hm⟩ hb (hM.up hb)):P:=h
theorem ygs (h:P:=by
  go_meet;exact⟨rfl,rl⟩):P:=h
theorem ygt (h:P:=by
  go_simp;exact hK (.int .i64 (M:Nat)) W rfl (zR _ _) hM):P:=h
theorem ygu (h:P:=by
  go_wp2_with fail;go_meet;exact⟨⟨none,[],0,rfl,Intz.nil _ _⟩,⟨rfl⟩⟩):P:=h
theorem ygv (h:P:=by
  rw[List.map_cons,List.nodup_cons];refine⟨λhm=> ?_,h.ne⟩;obtain⟨p,hp,vH⟩:=List.mem_map.1 hm;have h2:=(h.bx p hp).1.lt;simp only at vH;omega):P:=h
theorem ygw (h:P:=by
  go_wp2_with fail;go_roundw
  case rel=>exact⟨j+1,n,S1,xM,by go_num,xM,cf,hm⟩
  case measure=>simp[intOf];omega):P:=h
theorem ygx (h:P:=by
  exact hK _ W ⟨hr,gu,cap,rfl⟩ (zR _ _) (hM.up (zR _ _))):P:=h
theorem ygy (h:P:=by
  simp only[intOf,Int.toNat_natCast];omega):P:=h
theorem ygz (h:P:=by
  go_simp;exact hK (.slice none 0 0) W rfl (zR _ _) hM):P:=h
theorem yha (h:P:=by
  exact h1.append_l bP sO xO t ho ht he bj (hA.sl hv) aA aO (SL.blk (.inr rfl) (Blk.new W c e) (by rw[he.size,lq,Nat.one_mul];exact yR _)) xM h):P:=h
theorem yhb (h:P:=by
  go_wp2_with fail;refine wp_loop_rounds 1 ?_;rw[rounds_succ];exact ybd):P:=h
theorem yhc (h:P:=by
  cases ho;have f12:=a0a (v:= .int .i64 (n:Nat)) (hA.at_ (k:=12) zM);go_simp;exact hK (.int .i64 (n:Nat)) g W rfl (Ev.refl hM.tw) hM):P:=h
theorem yhd (h:P:=by
  go_simp;refine(vr W).mono ?_;rintro e W'⟨rfl,hb⟩;go_simp;exact hK (.string s) g W' rfl (Ev.of_below hM.b.tw hb) (hM.up hb)):P:=h
theorem yhe (h:P:=by
  cases ho;have f6:bb.tmps[6]?.getD undef=v6:=a0a (v:=v6) (hA.at_ (k:=6) zM);go_simp;exact hK v6 g W rfl (Ev.refl hM.ok) hM):P:=h
theorem yhf (h:P:=by
  simp only[World.setCells,Nat.add_assoc,Nat.reduceAdd]):P:=h
theorem yhg (h:P:=by
  exact bodyPost_ret (results_cell_row qM _ _ w.heap.size 41 _ (0,0) _ qM (Blk.new w _ _) underlying41 qM zM) rfl ⟨⟨_,_,rfl,zF,zF⟩,zC⟩):P:=h
theorem yhh (h:P:=by
  have:=s6.out;rw[<-h]at this;exact this):P:=h
theorem yhi (h:P:=by
  rcases HH.out with h|h
  ·omega
  ·exact h):P:=h
theorem yhj (h:P:=by
  rcases HL.out with h|h
  ·omega
  ·exact h):P:=h
theorem yhk (h:P:=by
  exact⟨0,d,rfl,rfl,xM,HW,Lib.hid (InI.start dD)⟩):P:=h
theorem yhl (h:P:=by
  go_end0;exact⟨rfl,.mk AW (cY.out _ jV)⟩):P:=h
theorem yhm (h:P:=by
  unfold Blk at hc gV;rw[hc]at gV
  cases gV;exact⟨rfl,rfl⟩):P:=h
theorem yhn (h:P:=by
  go_end0;exact⟨rfl,.mk eN (HI.out.done aN)⟩):P:=h
theorem yho (h:P:=by
  exact bodyPost_ret (results_cell_row qM _ _ _ 41 _ (0,0) _ qM hk underlying41 qM zM) rfl ⟨⟨_,_,rfl,a1a _,a1a _⟩,zC⟩):P:=h
theorem yhp (h:P:=by
  have z0:W.cell? ⟨jB,0,none⟩=some (.int .i64 cx):=hM.b0.cell 0;go_simp;exact hK (.int .i64 cx) g W rfl (Ev.refl hM.tw) hM):P:=h
theorem yhq (h:P:=by
  simp[Instr.sliceAt,Instr.slice,Instr.sliceBounds,Instr.sliceBound,asIntOf,run_underlying ht,iE,cW,hk,sizeOf,typeInfo,hi,aM,go_sem]):P:=h
theorem yhr (h:P:=by
  go_wp2_with fail;go_meet;exact⟨⟨_,_,_,rfl,hi⟩,⟨rfl⟩⟩):P:=h
theorem yhs (h:P:=by
  go_simp;exact hK (.bool true) W rfl (zR _ _) hM):P:=h
theorem yht (h:P:=by
  go_wp2_with fail;go_quiet (fail)
  exact ybp):P:=h
theorem yhu (h:P:=by
  go_wp2_with fail;go_roundw
  case rel=>exact⟨k+1,S',l,xM,by go_num,xM,iZ,lF.tail⟩
  case measure=>simp[intOf];omega):P:=h
theorem yhv (h:P:=by
  rw[hr];have an:((l1.length:Int) != (l2.length:Int))=true:=by simp;omega
  clear hr gG dC;go_enter func25,ntmps25;exact ybd):P:=h
theorem yhw (h:P:=by
  obtain⟨h1,h2|⟨g,cap,cur,h2,h3,h4⟩⟩:=h
  ·exact⟨h1,.inl h2⟩
  ·exact⟨h1,.inr ⟨g,cap,cur,h2,Nat.le_trans hb h3,h4⟩⟩):P:=h
theorem yhx (h:P:=by
  have z0:W.cell? ⟨B6,0,none⟩=some (.int .i64 ax):=hM.a.cell 0;go_simp;exact hK (.int .i64 ax) W rfl (zR _ _) hM):P:=h
theorem yhy (h:P:=by
  have z0:W.cell? ⟨B6,1,none⟩=some (.int .i64 ay):=hM.a.cell 1;go_simp;exact hK (.int .i64 ay) W rfl (zR _ _) hM):P:=h
theorem yhz (h:P:=by
  exact⟨0,d,rfl,xM,HW,Lib.hid (SwR.zero a b d)⟩):P:=h
theorem yia (h:P:=by
  rw[<-hasG_iff,b6r,Bool.or_eq_true,decide_eq_true_iff,hasG_iff]):P:=h
theorem yib (h:P:=by
  exact List.eq_nil_of_length_eq_zero (by simpa[a1d]using this.symm)):P:=h
theorem yic (h:P:=by
  have:=h.ne;rw[List.map_cons,List.nodup_cons]at this;exact this.1 (List.mem_map.2 ⟨p,rm,(Option.some.inj e).symm⟩)):P:=h
theorem yid (h:P:=by
  rw[ai,<-List.append_assoc,<-aD,List.map_append];rfl):P:=h
theorem yie (h:P:=by
  rw[List.filter_filter];congr 1;funext x
  by_cases h1:x.id=r <;> by_cases h2:x.id∈R <;> simp[a9e,h1,h2]):P:=h
theorem yif (h:P:=by
  rw[List.length_append];rcases aA.2 with⟨-,e⟩|⟨g',bk,cur,e,-⟩
  ·omega
  ·exact⟨g',bk,e⟩):P:=h
theorem yig (h:P:=by
  go_simp;exact hK (xv) W rfl (zR _ _) hM):P:=h
theorem yih (h:P:=by
  go_simp;exact hK (.agg #[.slice a1 m1 c1,.slice a2 m2 c2,.slice a3 m3 c3,.slice a4 m4 c4]) W rfl (zR _ _) hM):P:=h
theorem yii (h:P:=by
  go_simp;have hb:Below W.heap.size W (W.alloc (.cells #[.int .i64 5] 3)):=(zR _ _).alloc (yR _) _;exact yde):P:=h
theorem yij (h:P:=by
  rw[Addr.add_lit];exact hx.flat hE j u hj):P:=h
theorem yik (h:P:=by
  exact⟨0,pre,Nat.zero_le _,rfl,by rw[aD];simp,xM,dI,hI⟩):P:=h
theorem yil (h:P:=by
  go_simp;exact hK (.slice la ln lc) W rfl (zR _ _) hM):P:=h
theorem yim (h:P:=by
  rintro e W'⟨V,rfl,hi,hn,hb⟩;go_simp;exact hK _ W' ⟨V,rfl,hi,hn⟩ hb (hM.up hb)):P:=h
theorem yin (h:P:=by
  split at h
  all_goals first|exact h|(exact h)|(obtain⟨B,h1,h2,h3⟩:=h;exact⟨B,h1,h2,h3.below hg h3.lt⟩)):P:=h
theorem yio (h:P:=by
  intro e he hb heq;have h1:=aa e he hb;rw[heq,getD_both (mem_ready.1 hr).1]at h1
  cases h1):P:=h
theorem yip (h:P:=by
  go_simp;refine(hM.1.node jP (ci) (j) xM xM xM xM).mono ?_;exact ybi):P:=h
theorem yiq (h:P:=by
  intro k s a _ hk _ hB h;obtain rfl:k=n:=by simpa using hk
  exact⟨by simpa[Region.lexHead]using hB,h⟩):P:=h
theorem yir (h:P:=by
  go_simp;refine hq.mono ?_;exact yan):P:=h
theorem yis (h:P:=by
  go_wp2_with fail;go_meet;exact⟨by simp[g1],rfl⟩):P:=h
theorem yit (h:P:=by
  subst rp;go_wp2_with fail;go_ret;exact⟨S,_,rfl,⟨n,sM,xM⟩,lC⟩):P:=h
theorem yiu (h:P:=by
  exact⟨0,Nat.zero_le _,rfl,Lib.hid ⟨aX,zR _ _,λi _ h=>absurd h (Nat.not_lt_zero i)⟩,aX.b,kX,kO⟩):P:=h
theorem yiv (h:P:=by
  have z0:W.cell? ⟨L,2,none⟩=some (.slice (some ⟨g,go,none⟩) ne dc):=hM.c;exact ydc):P:=h
theorem yiw (h:P:=by
  rw[List.length_append,List.flatMap_append];exact aA):P:=h
theorem yix (h:P:=by
  have z0:W.cell? ⟨BR,0,none⟩=some (.slice (some ⟨g,go,none⟩) ne dc):=hM.r;exact ydc):P:=h
theorem yiy (h:P:=by
  split at h
  all_goals first|exact h|(obtain⟨L,h1,h2,h3⟩:=h;exact⟨L,h1,h2,h3.below hg h3.lt⟩)):P:=h
theorem yiz (h:P:=by
  split at h
  all_goals first|exact h|(obtain⟨B,h1,h2,h3⟩:=h;exact⟨B,h1,h2,h3.below hg h3.lt⟩)):P:=h
theorem yja (h:P:=by
  exact⟨a+1,d,by go_num,xM,xM,HW,rfl⟩):P:=h
theorem yjb (h:P:=by
  exact⟨_,_,_,by simpa using hc.symm⟩):P:=h
theorem yjc (h:P:=by
  have z0:W.cell? ⟨L,0,none⟩=some (.slice (some ⟨g,go,none⟩) ne dc):=hM.c;exact ydc):P:=h
theorem yjd (h:P:=by
  rw[eO]at hx;exact hx aL.out h3):P:=h
theorem yje (h:P:=by
  simp only[World.size_alloc]at h1;rw[ao];exact h1):P:=h
theorem yjf (h:P:=by
  cases ho;have f9:=a0a (v:= .int .i64 (k:Nat)) (hA.at_ (k:=9) zM);exact yav):P:=h
theorem yjg (h:P:=by
  go_roundw
  case rel=>exact⟨k+1,xM,by go_num,gH⟩
  case measure=>simp[intOf];omega):P:=h
theorem yjh (h:P:=by
  exact⟨20,d2,rfl,xM,xM,h1,aP,aq⟩):P:=h
theorem yji (h:P:=by
  cases ho;have f13:=a0a (v:= .int .i64 (k:Nat)) (hA.at_ (k:=13) zM);exact yav):P:=h
theorem yjj (h:P:=by
  cases ho;have f12:=a0a (v:= .int .i64 (M:Nat)) (hA.at_ (k:=12) zM);exact ygt):P:=h
theorem yjk (h:P:=by
  split at h
  all_goals first|exact h|(exact h)|(obtain⟨n,h1,h2⟩:=h;exact⟨n,hg.sl h1,h2⟩)):P:=h
theorem yjl (h:P:=by
  go_wp2_with fail
  all_goals (go_ret;refine⟨?_,zC⟩;rw[hr.out];clear hr;simp_all [a3o])):P:=h
theorem yjm (h:P:=by
  cases ho;have f8:=a0a (v:= .int .i64 (M:Nat)) (hA.at_ (k:=8) zM);exact ygt):P:=h
theorem yjn (h:P:=by
  go_simp;exact hK (.pointer (some ⟨b,off+k*4+2,none⟩)) W rfl (zR _ _) hM):P:=h
theorem yjo (h:P:=by
  rcases h.2 with⟨e1,-⟩|⟨g,cap,cur,e1,-⟩
  ·exact .inl e1
  ·exact .inr ⟨g,0,cap,e1⟩):P:=h
theorem yjp (h:P:=by
  rw[rq.out,bZ.out,mU.out]at this;exact this):P:=h
theorem yjq (h:P:=by
  go_simp;exact hK (.pointer (some ⟨b,off+k*4+3,none⟩)) W rfl (zR _ _) hM):P:=h
theorem yjr (h:P:=by
  refine⟨h.1,h.2.imp id ?_⟩;rintro⟨g,cap,cur,h1,h2,h3⟩;exact⟨g,cap,cur,h1,xM,h3⟩):P:=h
theorem yjs (h:P:=by
  go_simp;refine(b8e x0 x1 x2 x3 k0 k1 k2 k3 c0 c1 c2 c3 W).mono ?_;exact yan):P:=h
theorem yjt (h:P:=by
  go_simp;refine(b8g x0 x1 x2 x3 k0 k1 k2 k3 c0 c1 c2 c3 W).mono ?_;exact yan):P:=h
theorem yju (h:P:=by
  go_simp;refine(b8i x0 x1 x2 x3 k0 k1 k2 k3 c0 c1 c2 c3 W).mono ?_;exact yan):P:=h
theorem yjv (h:P:=by
  go_simp;refine(b8k x0 x1 x2 x3 k0 k1 k2 k3 c0 c1 c2 c3 W).mono ?_;exact yan):P:=h
theorem yjw (h:P:=by
  have:=congrArg (List.map Prod.fst) hf;rw[List.map_map,List.map_map]at this;exact this):P:=h
theorem yjx (h:P:=by
  go_simp;exact hK (.agg #[.int .i64 bx,.int .i64 by_,.int .i64 bd]) W rfl (zR _ _) hM):P:=h
theorem yjy (h:P:=by
  go_simp;exact hK (.agg #[.int .i64 ax,.int .i64 ay,.int .i64 ad]) W rfl (zR _ _) hM):P:=h
theorem yjz (h:P:=by
  simp[Lit.wf,IntKind.min,IntKind.max,IntKind.signed,IntKind.bits]at h;exact⟨xM,xM⟩):P:=h
theorem yka (h:P:=by
  go_simp;exact hK (.pointer (some ⟨g,go+k*4+1,none⟩)) W rfl (zR _ _) hM):P:=h
theorem ykb (h:P:=by
  go_simp;exact hK (.pointer (some ⟨g,go+k*8,none⟩)) W rfl (zR _ _) hM):P:=h
theorem ykc (h:P:=by
  go_simp;exact hK (.slice (some ⟨g,go,none⟩) ny dc) W rfl (zR _ _) hM):P:=h
theorem ykd (h:P:=by
  rw[h4]at h5;simp only[Option.some.injEq,Obj.cells.injEq]at h5;exact he h5.2.1):P:=h
theorem yke (h:P:=by
  go_simp;exact hK (.pointer (some ⟨g,go+k*4,none⟩)) W rfl (zR _ _) hM):P:=h
theorem zP0 (h:P:=by
  by_cases gW:l=[]
  ·subst gW
   exact ybc
  have xd:0<l.length:=List.length_pos_iff.2 gW;obtain⟨g,rfl,PK⟩:=c7p hO.p.row gW;obtain⟨m,hm⟩:=zE l.length;obtain⟨ix,hp,bY⟩:∃ix:Nat,Int.tmod (k:Int) (m:Int)=(ix:Int)/\ix<l.length:=⟨k % m,by rw[Int.tmod_eq_emod_of_nonneg xM];omega,by rw[hm];exact Nat.mod_lt _ xM⟩;obtain⟨pZ,LC,C6⟩:=zI (show ix<m by omega);exact zQ):P:=h
theorem zP1 (h:P:=by
  by_cases AX:nf=0
  ·subst AX
   exact ybc
  obtain⟨p,hp,H8⟩:=zIx k (show 0<nf by omega);obtain⟨pZ,LC,C6⟩:=zI (show p<nf by omega);obtain⟨fb,fo,PL,heq,LD,-⟩:=hO.p.b.s1.some_ xM
  cases heq;obtain⟨id,cs,ns,wt,ds,c0,c1,c2,c3,c4,f0,f1,f2,f3,f4⟩:=SL.face5 hO.p.b.tw hO.p.b.s1 H8;have ai:=λi ct h u hu=>hO.p.store a1f hO.p.b.s1 hO.of p i ct h u hu
  exact zQ):P:=h
theorem zP2 (h:P:=by
  by_cases gX:nw=0
  ·subst gX
   exact ybc
  obtain⟨p,hp,AY⟩:=zIx k (show 0<nw by omega);obtain⟨pZ,LG,C7⟩:=zI (show p<nw by omega);obtain⟨wb,wo,LH,heq,C8,-⟩:=hO.p.b.s2.some_ xM
  cases heq;obtain⟨id,lv,m,cF,cs,ns,st,wt,ds,c0,c1,c2,c3,c4,c5,c6,c7,f0,aC,hm,f2,f3,f4,f6,f7⟩:=SL.way hO.p.b.tw hO.p.b.s2 AY;have ai:=λi ct h u hu=>hO.p.store a3l hO.p.b.s2 hO.ow p i ct h u hu
  exact zQ):P:=h
theorem zP3 (h:P:=by
  by_cases ru:m=0
  ·subst ru
   go_wp2_with fail;go_meet;exact⟨S9,k,nf,hO,xM,xM⟩
  have oW:(0:Int)<(m:Int):=xM;have LI:((m:Int)==0)=false:=by simpa using ru
  obtain⟨p,hp,mr⟩:=zIx n (show 0<m by omega);have pZ:(p:Int)<(m:Int):=xM;obtain⟨pb,po,pc,heq,AZ,-⟩:=aC.some_ xM
  cases heq;obtain⟨x,y,d0,d1,fx,fy⟩:=SL.point hO.b.tw aC mr;exact zQ):P:=h
end
end
end Go
