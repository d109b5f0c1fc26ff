/-
  Parts.
-/
import Derived.WalkKit
import Derived.WalkSpells
import Derived.WalkLawsBesides
import Derived.Deep.Quiet
import Derived.Deep.QuietTactic
import Derived.BigQuiet
import Derived.Lib.Hide
import Derived.StillTail
import Derived.ProofKit
import Derived.OpenShut
import Derived.Deep.AppendLies
import Derived.Deep.AppendSrc
import Derived.Deep.RegionLaw
import Derived.Deep.CutBlock
import Derived.Deep.DeepCutAuto
import Derived.Deep.DrawnRows
import Derived.Maps.OwnSet
import Derived.Maps.OwnIn
import Derived.Maps.RangeWalk
import Derived.DeepKeys4
import Derived.RangeFuncOwn
import Derived.RangeFuncBox
import Derived.RangeFuncLeaves
import Derived.RangeFuncNested
import Derived.RangeFuncBound
import Derived.RangeFuncCalls
import Derived.RangeFuncSeq
import Ieee.Arith
import GoSem.Core.Float
import Derived.Laws.FloatArith
import Derived.Lib.SliceRun
import Derived.Laws.MakeOwn
import Derived.Sort.MapsRangeIn
import Derived.Sort.KeysCollected
import Derived.OwnWalkIn
import Derived.TacticsInMore
import Derived.RegionIn
import Derived.LoopNIn
import Derived.LoopIn
import Derived.RangeFuncWrites
import Derived.RangeFuncFrom
import Derived.Lib.FrozenHead2
import Derived.Lib.OthersKept
import Derived.Laws.RangeString
import Derived.Deep.WholeRow
import Derived.Laws.Rows
import Derived.Laws.IdiomStrings
import Derived.OrdersIn
import Derived.Deep.Slices
import Derived.Lib.Mul64
import Derived.Laws.Bits64b
import Derived.IntWalk
import Derived.Laws.ResultCell
import Derived.Deep.Onto
import Derived.Laws.Tables
import Derived.ChangeSlices
import Derived.Lib.LaidTab
import Derived.Sort.CutIn
import Derived.Lib.Bytes2
import Derived.Lib.BufferRead
import Derived.Recover
import Derived.Defers
import Derived.Deep.DeepHandedRow
import Derived.LaidMore
set_option linter.unusedVariables false
set_option linter.unusedSimpArgs false
namespace Go
abbrev Wd:=World
abbrev Vu:=Value
abbrev Td:=TypeId
abbrev Bw:=ByteArray
section
open Go.RowKit
abbrev zR := @Below.refl
abbrev yR := @Nat.le_refl
structure Growth where
 objs:Array Obj
 drawn:Nat
instance : Nonempty Growth:=⟨⟨#[],0⟩⟩
def World.growBy (w:Wd)(p:Growth):World:={ w with heap:=w.heap++p.objs,drawn:=p.drawn }
section
variable (w:Wd)(p q:Growth)
theorem World.heap_growBy {n:Nat}(h:n<w.heap.size):(w.growBy p).heap[n]? =w.heap[n]? :=by
 show(w.heap++p.objs)[n]? =_;rw[Array.getElem?_append_left h]
theorem World.lt_of_isSome {w:Wd}{a:Addr}(h:(w.cell? a).isSome=true):a.block<w.heap.size:=by
 obtain⟨v,hv⟩:=Option.isSome_iff_exists.1 h;exact World.block_lt_of_cell? _ _ hv
def World.cellOf (w:Wd)(a:Addr):Option Value:=w.cell? a
def World.frozenOf (w:Wd)(a:Addr):Bool:=w.frozen? a
def World.setCellOf (w:Wd)(a:Addr)(v:Vu):World:=w.setCell a v
theorem World.cell?_growBy' {a:Addr}(h:a.block<w.heap.size):(w.growBy p).cell? a=w.cell? a:=by
 have h1:=w.heap_growBy p h;unfold World.cell?;rw[h1]
theorem World.frozen?_growBy' {a:Addr}(h:a.block<w.heap.size):(w.growBy p).frozen? a=w.frozen? a:=by
 have h1:=w.heap_growBy p h;unfold World.frozen?;rw[h1]
theorem World.frozen?_high {w:Wd}{a:Addr}(h:w.heap.size<=a.block):w.frozen? a=false:=by
 unfold World.frozen?;rw[Array.getElem?_eq_none h]
@[go_sem] theorem World.cell?_growBy (n i:Nat):(w.growBy p).cell? ⟨n,i,none⟩=(w.cell? ⟨n,i,none⟩).or ((w.growBy p).cellOf ⟨n,i,none⟩):=by
 cases h:w.cell? ⟨n,i,none⟩with
 |none=>rfl
 |some v=>rw[World.cell?_growBy' w p (World.block_lt_of_cell? _ _ h),h];rfl
@[go_sem 50] theorem World.cell?_alloc_or (o:Obj) (n i:Nat):(w.alloc o).cell? ⟨n,i,none⟩=(w.cell? ⟨n,i,none⟩).or ((w.alloc o).cellOf ⟨n,i,none⟩):=by
 cases h:w.cell? ⟨n,i,none⟩with
 |none=>rfl
 |some v=>rw[World.cell?_alloc_lt w o _ (World.block_lt_of_cell? _ _ h),h];rfl
@[go_sem] theorem World.frozen?_growBy (n i:Nat):(w.growBy p).frozen? ⟨n,i,none⟩=(w.frozen? ⟨n,i,none⟩||((w.cell? ⟨n,i,none⟩).isNone&&(w.growBy p).frozenOf ⟨n,i,none⟩)):=by
 by_cases hb:n<w.heap.size
 ·rw[World.frozen?_growBy' w p (a:=⟨n,i,none⟩) hb]
  unfold World.frozenOf;rw[World.frozen?_growBy' w p (a:=⟨n,i,none⟩) hb]
  cases w.frozen? ⟨n,i,none⟩ <;> simp
 ·rw[World.frozen?_high (w:=w) (a:=⟨n,i,none⟩) (by simpa using hb)]
  cases h:w.cell? ⟨n,i,none⟩with
  |none=>simp[World.frozenOf]
  |some v=>exact absurd (World.block_lt_of_cell? _ _ h) hb
@[go_sem 50] theorem World.frozen?_alloc_or (o:Obj) (n i:Nat):(w.alloc o).frozen? ⟨n,i,none⟩=(w.frozen? ⟨n,i,none⟩||((w.cell? ⟨n,i,none⟩).isNone&&(w.alloc o).frozenOf ⟨n,i,none⟩)):=by
 by_cases hb:n<w.heap.size
 ·rw[World.frozen?_alloc_old w o ⟨n,i,none⟩ (Nat.ne_of_lt hb)]
  unfold World.frozenOf;rw[World.frozen?_alloc_old w o ⟨n,i,none⟩ (Nat.ne_of_lt hb)]
  cases w.frozen? ⟨n,i,none⟩ <;> simp
 ·rw[World.frozen?_high (w:=w) (a:=⟨n,i,none⟩) (by simpa using hb)]
  cases h:w.cell? ⟨n,i,none⟩with
  |none=>simp[World.frozenOf]
  |some v=>exact absurd (World.block_lt_of_cell? _ _ h) hb
theorem World.setCell_growBy' (n i:Nat)(v:Vu)(h1:n<w.heap.size):(w.growBy p).setCell ⟨n,i,none⟩ v=(w.setCell ⟨n,i,none⟩ v).growBy p:=by
 unfold World.growBy World.setCell;simp only[World.mk.injEq,and_true];apply Array.ext_getElem?;intro k;rw[Array.getElem?_modify,Array.getElem?_append,Array.getElem?_append,Array.size_modify,Array.getElem?_modify];by_cases hk:n=k
 ·subst hk;simp only[if_true];rw[if_pos h1,if_pos h1]
 ·simp only[hk,if_false]
@[go_sem] theorem World.setCell_growBy (n i:Nat) (v:Vu):(w.growBy p).setCell ⟨n,i,none⟩ v=if(w.cell? ⟨n,i,none⟩).isSome then(w.setCell ⟨n,i,none⟩ v).growBy p else(w.growBy p).setCellOf ⟨n,i,none⟩ v:=by
 split
 ·rename_i h;exact World.setCell_growBy' w p n i v (World.lt_of_isSome h)
 ·rfl
@[go_sem 50] theorem World.setCell_alloc_or (o:Obj) (n i:Nat) (v:Vu):(w.alloc o).setCell ⟨n,i,none⟩ v=if(w.cell? ⟨n,i,none⟩).isSome then(w.setCell ⟨n,i,none⟩ v).alloc o else(w.alloc o).setCellOf ⟨n,i,none⟩ v:=by
 split
 ·rename_i h;exact World.setCell_alloc_past (w:=w) o n i v (World.lt_of_isSome h)
 ·rfl
@[simp,go_sem] theorem World.size_growBy:(w.growBy p).heap.size=w.heap.size+p.objs.size:=Array.size_append
@[simp,go_sem] theorem World.tape_growBy:(w.growBy p).tape=w.tape:=rfl
@[simp,go_sem] theorem World.os_growBy:(w.growBy p).os=w.os:=rfl
@[simp,go_sem] theorem World.drew_growBy:(w.growBy p).drew=w.growBy ⟨p.objs,p.drawn+1⟩:=rfl
@[simp,go_sem] theorem World.drewN_growBy (n:Nat):(w.growBy p).drewN n=w.growBy ⟨p.objs,p.drawn+n⟩:=rfl
@[simp,go_sem] theorem World.growBy_growBy:(w.growBy p).growBy q=w.growBy ⟨p.objs++q.objs,q.drawn⟩:=by
 unfold World.growBy;simp[Array.append_assoc]
@[simp,go_sem] theorem World.growBy_drew:w.drew.growBy p=w.growBy p:=rfl
@[simp,go_sem] theorem World.growBy_drewN (n:Nat):(w.drewN n).growBy p=w.growBy p:=rfl
theorem b6i {B:Nat}{w:Wd}{o:Obj}(h:B<=w.heap.size):B<=(w.alloc o).heap.size:=by rw[World.size_alloc];omega
theorem c8v {B:Nat}{w:Wd}{p:Growth}(h:B<=w.heap.size):B<=(w.growBy p).heap.size:=by rw[World.size_growBy];omega
theorem c6j {B:Nat}{w:Wd}{a:Addr}{v:Vu}(h:B<=w.heap.size):B<=(w.setCell a v).heap.size:=by rw[World.size_setCell];omega
theorem d7p {B:Nat}{w:Wd}(h:B<=w.heap.size):B<=w.drew.heap.size:=h
theorem below_growBy :Below w.heap.size w (w.growBy p) :=
 ⟨rfl,rfl,rfl,by simp,λ_ h=>w.heap_growBy p h⟩
theorem below_growBy' {B:Nat}{a w:Wd}(h:Below B a w)(hB:B<=w.heap.size)(p:Growth):Below B a (w.growBy p) :=
 h.trans ((below_growBy w p).mono hB)
abbrev zG := @below_growBy'
abbrev zA := @Below.alloc
abbrev zS := @Below.setCell
abbrev zD := @Below.drew
theorem a0p :w.grownBy (w.growBy p) none:=⟨rfl,rfl,rfl,by simp,λk hk _=>w.heap_growBy p hk⟩
theorem a0c {w w':Wd}(h:Below w.heap.size w w'):∃p,w'=w.growBy p:=by
 refine⟨⟨w'.heap.extract w.heap.size w'.heap.size,w'.drawn⟩,?_⟩;obtain⟨h1,h2,h3,h4,h5⟩:=h
 cases w' with
 |mk heap' tape' drawn' Ld output' =>
  simp only at h1 h2 h3 h4 h5;unfold World.growBy;simp only[World.mk.injEq];refine⟨?_,h2,trivial,h1,h3⟩;apply Array.ext_getElem?;intro k;by_cases hk:k<w.heap.size
  ·rw[Array.getElem?_append_left hk];exact h5 k hk
  ·rw[Array.getElem?_append_right (by omega),Array.getElem?_extract]
   by_cases eD:k<heap'.size
   ·rw[if_pos (by omega),show w.heap.size+(k-w.heap.size)=k from by omega]
   ·rw[if_neg (by omega)]
    exact Array.getElem?_eq_none (by omega)
end
section
variable {P:Program}
theorem Calls.grow_of {f:FuncId}{args:Array Value}{w:Wd}{p:Growth}{v:Vu}
 (h:Calls P f args (w.growBy p) λe w'=>e= .returned v/\Below (w.growBy p).heap.size (w.growBy p) w') :
 Calls P f args (w.growBy p) λe w'=>e= .returned v/\∃q,w'=w.growBy q :=
 h.mono λ_ _ ⟨he,hb⟩=>⟨he,by obtain⟨q,rfl⟩:=a0c hb;exact⟨_,World.growBy_growBy w p q⟩⟩
theorem Calls.grow_of_same {f:FuncId}{args:Array Value}{w:Wd}{p:Growth}{v:Vu}
 (h:Calls P f args (w.growBy p) λe w'=>e= .returned v/\w.growBy p=w') :
 Calls P f args (w.growBy p) λe w'=>e= .returned v/\∃q,w'=w.growBy q :=
 h.mono λ_ _ ⟨he,hb⟩=>⟨he,p,hb.symm⟩
theorem a0x {id:Nat}{Q:Exit->Act->World->Prop}{a:Act}{w:Wd}{l:List Oper}(hm:P.follows .mixedOrders=true)(hB:Region.lexB .any l.toArray=true)
 (h:wpQuiet P l.toArray (λw'=>∃p,w'=w.growBy p) (λa'=>∀w',(∃p,w'=w.growBy p)->Q .normal a' w') l a):(Code.region id l.toArray true).wp P Q a w :=
 wp_region_quiet (C:=λw'=>∃p,w'=w.growBy p) hm hB ⟨⟨#[],w.drawn+1⟩,by unfold World.growBy;simp⟩ (by simpa using h)
theorem a0u {id:Nat}{Q:Exit->Act->World->Prop}{a:Act}{w:Wd}{p:Growth}{l:List Oper}(hm:P.follows .mixedOrders=true)(hB:Region.lexB .any l.toArray=true)
 (h:wpQuiet P l.toArray (λw'=>∃p,w'=w.growBy p) (λa'=>∀w',(∃p,w'=w.growBy p)->Q .normal a' w') l a):(Code.region id l.toArray true).wp P Q a (w.growBy p) :=
 wp_region_quiet (C:=λw'=>∃p,w'=w.growBy p) hm hB ⟨⟨p.objs,p.drawn+1⟩,rfl⟩ (by simpa using h)
theorem a3h {W:Wd}{b:Nat}{c:Array Value}{t:Td}{f:Nat×Nat}(h:W.heap[b]? =some (.cells c t f))(i:Nat):W.cell? ⟨b,i,none⟩=c[i]? :=by
 unfold World.cell?;rw[h];rfl
theorem a0m {c:Code}{Q:Exit->Act->World->Prop}{a:Act}{w:Wd}(h:∀W,W=w->c.wp P Q a W):c.wp P Q a w:=h w rfl
abbrev yA := @b6i
abbrev yG := @c8v
abbrev yS := @c6j
abbrev yD := @d7p
end
attribute [go_sem] Oper.semAt_some
attribute [go_sem ↓] Go.wp_at_zero Go.wp_at_succ
theorem zWq {P:Prop}(h:P:=by
 refine wpQuiet_nil ?_;intro _ bh;obtain⟨p,bh⟩:=bh;subst bh;exact jw p):P:=h
theorem zR0 {P:Prop}{R:Growth->Prop}(k:∀p,R p)(h:(∀p,R p)->P:=by
 intro jw;first|with_reducible refine a0u zM zM ?_|with_reducible refine a0x zM zM ?_
 repeat(first|go_big_quiet_step (fail)|quiet_step (fail))
 exact zWq):P:=h k
theorem zR1 {P:Prop}{R:Growth->Prop}(k:∀p,R p)(h:(∀p,R p)->P:=by
 intro jw;first|with_reducible refine a0u zM zM ?_|with_reducible refine a0x zM zM ?_
 repeat(first|go_big_quiet_step ((go_at_call 77;exact Calls.grow_of_same (a5x _ _ _ fx cV fO)))|quiet_step ((go_at_call 77;exact Calls.grow_of_same (a5x _ _ _ fx cV fO))))
 exact zWq):P:=h k
theorem zR2 {P:Prop}{R:Growth->Prop}(k:∀p,R p)(h:(∀p,R p)->P:=by
 intro jw;first|with_reducible refine a0u zM zM ?_|with_reducible refine a0x zM zM ?_
 repeat(first|go_big_quiet_step ((go_at_call 103;exact Calls.grow_of (j8 _)))|quiet_step ((go_at_call 103;exact Calls.grow_of (j8 _))))
 exact zWq):P:=h k
theorem zR3 {P:Prop}{R:Growth->Prop}(k:∀p,R p)(h:(∀p,R p)->P:=by
 intro jw;first|with_reducible refine a0h 9 zM zM ?_|with_reducible refine a0i 9 zM zM ?_
 simp only[List.take_succ_cons,List.take_zero,List.drop_succ_cons,List.drop_zero];repeat(first|go_big_quiet_step (fail)|quiet_step (fail))
 exact zWq):P:=h k
theorem zR4 {P:Prop}{R:Growth->Prop}(k:∀p,R p)(h:(∀p,R p)->P:=by
 intro jw;first|with_reducible refine a0h 7 zM zM ?_|with_reducible refine a0i 7 zM zM ?_
 simp only[List.take_succ_cons,List.take_zero,List.drop_succ_cons,List.drop_zero];repeat(first|go_big_quiet_step (fail)|quiet_step (fail))
 exact zWq):P:=h k
theorem zR5 {P:Prop}{R:Growth->Prop}(k:∀p,R p)(h:(∀p,R p)->P:=by
 intro jw;first|with_reducible refine a0h 20 zM zM ?_|with_reducible refine a0i 20 zM zM ?_
 simp only[List.take_succ_cons,List.take_zero,List.drop_succ_cons,List.drop_zero];repeat(first|go_big_quiet_step (fail)|quiet_step (fail))
 exact zWq):P:=h k
theorem zR6 {P:Prop}{R:Growth->Prop}(k:∀p,R p)(h:(∀p,R p)->P:=by
 intro jw;first|with_reducible refine a0h 9 zM zM ?_|with_reducible refine a0i 9 zM zM ?_
 simp only[List.take_succ_cons,List.take_zero,List.drop_succ_cons,List.drop_zero];repeat(first|go_big_quiet_step ((go_at_call 79;exact Calls.grow_of (pQ _)))|quiet_step ((go_at_call 79;exact Calls.grow_of (pQ _))))
 exact zWq):P:=h k
theorem zR7 {P:Prop}{R:Growth->Prop}(k:∀p,R p)(h:(∀p,R p)->P:=by
 intro jw;first|with_reducible refine a0h 8 zM zM ?_|with_reducible refine a0i 8 zM zM ?_
 simp only[List.take_succ_cons,List.take_zero,List.drop_succ_cons,List.drop_zero];repeat(first|go_big_quiet_step (fail)|quiet_step (fail))
 exact zWq):P:=h k
theorem zR8 {P:Prop}{R:Growth->Prop}(k:∀p,R p)(h:(∀p,R p)->P:=by
 intro jw;first|with_reducible refine a0h 17 zM zM ?_|with_reducible refine a0i 17 zM zM ?_
 simp only[List.take_succ_cons,List.take_zero,List.drop_succ_cons,List.drop_zero];repeat(first|go_big_quiet_step (fail)|quiet_step (fail))
 exact zWq):P:=h k
theorem zR9 {P:Prop}{R:Growth->Prop}(k:∀p,R p)(h:(∀p,R p)->P:=by
 intro jw;first|with_reducible refine a0h 18 zM zM ?_|with_reducible refine a0i 18 zM zM ?_
 simp only[List.take_succ_cons,List.take_zero,List.drop_succ_cons,List.drop_zero];repeat(first|go_big_quiet_step (fail)|quiet_step (fail))
 exact zWq):P:=h k
theorem e2f {P:Prop}{R:Growth->Prop}(k:∀p,R p)(h:(∀p,R p)->P:=by
 intro jw;first|with_reducible refine a0u zM zM ?_|with_reducible refine a0x zM zM ?_
 repeat(first|go_big_quiet_step ((go_at_call 100;exact Calls.grow_of (hle _ _)))|quiet_step ((go_at_call 100;exact Calls.grow_of (hle _ _))))
 exact zWq):P:=h k
theorem e3o {P:Prop}{R:Growth->Prop}(k:∀p,R p)(h:(∀p,R p)->P:=by
 intro jw;first|with_reducible refine a0u zM zM ?_|with_reducible refine a0x zM zM ?_
 repeat(first|go_big_quiet_step ((go_at_call 93;exact Calls.grow_of (b3u ⟨ax,ay,st,sw,sh,sg⟩ _ _ _ _ dp.out)))|quiet_step ((go_at_call 93;exact Calls.grow_of (b3u ⟨ax,ay,st,sw,sh,sg⟩ _ _ _ _ dp.out))))
 exact zWq):P:=h k
theorem e3p {P:Prop}{R:Growth->Prop}(k:∀p,R p)(h:(∀p,R p)->P:=by
 intro jw;first|with_reducible refine a0h 14 zM zM ?_|with_reducible refine a0i 14 zM zM ?_
 simp only[List.take_succ_cons,List.take_zero,List.drop_succ_cons,List.drop_zero];repeat(first|go_big_quiet_step (fail)|quiet_step (fail))
 exact zWq):P:=h k
theorem e3q {P:Prop}{R:Growth->Prop}(k:∀p,R p)(h:(∀p,R p)->P:=by
 intro jw;first|with_reducible refine a0u zM zM ?_|with_reducible refine a0x zM zM ?_
 repeat(first|go_big_quiet_step ((go_at_call 93;exact Calls.grow_of (b3u ⟨ax,ay,st,sw,sh,sg⟩ _ _ _ _ wA.out)))|quiet_step ((go_at_call 93;exact Calls.grow_of (b3u ⟨ax,ay,st,sw,sh,sg⟩ _ _ _ _ wA.out))))
 exact zWq):P:=h k
theorem e3r {P:Prop}{R:Growth->Prop}(k:∀p,R p)(h:(∀p,R p)->P:=by
 intro jw;first|with_reducible refine a0u zM zM ?_|with_reducible refine a0x zM zM ?_
 repeat(first|go_big_quiet_step ((go_at_call 42;exact Calls.grow_of (gI _ (Go.below_growBy W9 _))))|quiet_step ((go_at_call 42;exact Calls.grow_of (gI _ (Go.below_growBy W9 _)))))
 exact zWq):P:=h k
theorem e3s {P:Prop}{R:Growth->Prop}(k:∀p,R p)(h:(∀p,R p)->P:=by
 intro jw;first|with_reducible refine a0u zM zM ?_|with_reducible refine a0x zM zM ?_
 repeat(first|go_big_quiet_step ((go_at_call 100;exact Calls.grow_of (hle _ _ _)))|quiet_step ((go_at_call 100;exact Calls.grow_of (hle _ _ _))))
 exact zWq):P:=h k
theorem e3t {P:Prop}{R:Growth->Prop}(k:∀p,R p)(h:(∀p,R p)->P:=by
 intro jw;first|with_reducible refine a0u zM zM ?_|with_reducible refine a0x zM zM ?_
 repeat(first|go_big_quiet_step ((go_at_call 111;exact Calls.grow_of (hle _ (Go.below_growBy W8 _))))|quiet_step ((go_at_call 111;exact Calls.grow_of (hle _ (Go.below_growBy W8 _)))))
 exact zWq):P:=h k
theorem e3u {P:Prop}{R:Growth->Prop}(k:∀p,R p)(h:(∀p,R p)->P:=by
 intro jw;first|with_reducible refine a0u zM zM ?_|with_reducible refine a0x zM zM ?_
 repeat(first|go_big_quiet_step ((go_at_call 111;exact Calls.grow_of (hle _ (Go.below_growBy fZ _))))|quiet_step ((go_at_call 111;exact Calls.grow_of (hle _ (Go.below_growBy fZ _)))))
 exact zWq):P:=h k
theorem e2g {P:Prop}{R:Growth->Prop}(k:∀p,R p)(h:(∀p,R p)->P:=by
 intro jw;first|with_reducible refine a0u zM zM ?_|with_reducible refine a0x zM zM ?_
 repeat(first|go_big_quiet_step ((go_at_call 111;exact Calls.grow_of (hle _ (Go.below_growBy wx _))))|quiet_step ((go_at_call 111;exact Calls.grow_of (hle _ (Go.below_growBy wx _)))))
 exact zWq):P:=h k
theorem zDt (b:Act):∃f:Nat->Value,(λk=>b.tmps.getD k undef)=f:=⟨_,rfl⟩
abbrev Zc (P:Program)(k:Nat)(a:Array Value)(w:Wd)(v:Vu):Prop:=Calls P k a w λe w'=>e= .returned v/\Below w.heap.size w w'
theorem c1r {W:Wd}{b o:Nat}{v0 v1 v2:Vu}{l:List Value}(h:∀i,i<3->W.cell? ⟨b,o+i,none⟩=(v0::v1::v2::l)[i]?):W.cell? ⟨b,o,none⟩=some v0/\W.cell? ⟨b,o+1,none⟩=some v1/\W.cell? ⟨b,o+2,none⟩=some v2:=⟨h 0 (by decide),h 1 (by decide),h 2 (by decide)⟩
theorem d7q {W:Wd}{b o:Nat}{v0 v1 v2 v3:Vu}{l:List Value}(h:∀i,i<4->W.cell? ⟨b,o+i,none⟩=(v0::v1::v2::v3::l)[i]?):W.cell? ⟨b,o,none⟩=some v0/\W.cell? ⟨b,o+1,none⟩=some v1/\W.cell? ⟨b,o+2,none⟩=some v2/\W.cell? ⟨b,o+3,none⟩=some v3:=⟨h 0 (by decide),h 1 (by decide),h 2 (by decide),h 3 (by decide)⟩
theorem c1s {W:Wd}{b o:Nat}{v0 v1 v2 v3 v4 v5 v6:Vu}{l:List Value}(h:∀i,i<7->W.cell? ⟨b,o+i,none⟩=(v0::v1::v2::v3::v4::v5::v6::l)[i]?):W.cell? ⟨b,o,none⟩=some v0/\W.cell? ⟨b,o+1,none⟩=some v1/\W.cell? ⟨b,o+2,none⟩=some v2/\W.cell? ⟨b,o+3,none⟩=some v3/\W.cell? ⟨b,o+4,none⟩=some v4/\W.cell? ⟨b,o+5,none⟩=some v5/\W.cell? ⟨b,o+6,none⟩=some v6:=⟨h 0 (by decide),h 1 (by decide),h 2 (by decide),h 3 (by decide),h 4 (by decide),h 5 (by decide),h 6 (by decide)⟩
theorem zF {P:Prop}(h:P:=by first|with_reducible (first|exact a1c _|exact a2o _|assumption|exact c8d (by omega))|exact⟨by omega,by omega⟩):P:=h
theorem zI {p m:Nat}(h:p<m):(p:Int)<(m:Int)/\(0:Int)<(m:Int)/\((m:Int)==0)=false:=⟨by omega,by omega,by simp;omega⟩
theorem zIx (k:Nat){m:Nat}(hm:0<m):∃p:Nat,Int.tmod (k:Int) (m:Int)=(p:Int)/\p<m:=⟨k % m,by rw[Int.tmod_eq_emod_of_nonneg (by omega)];omega,Nat.mod_lt _ hm⟩
theorem zE {α:Type}(a:α):∃x,a=x:=⟨_,rfl⟩
theorem zU :(∀ {α:Type} (a:α) (l:List α) (n:Nat),List.drop (n+1) (a::l)=List.drop n l)/\(∀ {α:Type} (l:List α),List.drop 0 l=l):=⟨λ_ _ _=>rfl,λ_=>rfl⟩
theorem zT :(∀ {α:Type} (a:α) (l:List α) (n:Nat),List.drop (n+1) (a::l)=List.drop n l)/\(∀ {α:Type} (l:List α),List.drop 0 l=l)/\(∀ {α:Type} (a:α) (l:List α) (n:Nat),List.take (n+1) (a::l)=a::List.take n l)/\(∀ {α:Type} (l:List α),List.take 0 l=[]):=⟨λ_ _ _=>rfl,λ_=>rfl,λ_ _ _=>rfl,λ_=>rfl⟩
theorem oM {P:Prop}(h:P:=by omega):P:=h
theorem zM {P:Prop}(h:P:=by kernel_rfl):P:=h
theorem qM {P:Prop}(h:P:=by rfl):P:=h
theorem jM {P:Prop}(h:P:=by decide):P:=h
theorem vM {P:Prop}(h:P:=by simp):P:=h
theorem uM {P:Prop}(h:P:=by simp;omega):P:=h
theorem gM {P:Prop}(h:P:=by assumption):P:=h
theorem oK {P:Prop}(h:P:=by unfold maxLen;omega):P:=h
theorem zC {P:Prop}(h:P:=by repeat' (first|with_reducible (first|exact zR _ _|exact yR _|assumption|refine zG ?_ ?_ _|refine zA ?_ ?_ _|refine zS ?_ ?_ _|refine zD ?_|refine yA ?_|refine yG ?_|refine yS ?_|refine yD ?_)|omega|(dsimp only;omega))):P:=h
section
variable {P:Prop}
theorem yaa (h:P:=by
  go_wp2_with fail;refine zR0 λp=> ?_
  go_wp2_with fail;refine zR0 λp=> ?_
  go_wp2_with fail;refine a0m (λwy jx=> ?_);have pR:Below wr.heap.size wr wy:=by
   rw[jx];exact zC
  clear jx;replace hB:=hB.trans (pR.mono hB.size);replace kX:=kX.below pR lX;replace lX:=kX.lt;replace sP:=sP.up pR pR.size;have rQ:=sP.take k cap hk;obtain⟨lk,cX⟩:∃lk:List Dt,lk=l.take k++[⟨x,y,kd,id⟩]:=⟨_,rfl⟩;have pS:=Lib.hid (show lk.length=(l.take k).length+1 by rw[cX,List.length_append];rfl);have wB:=Lib.hid (show lk.flatMap a2k=(l.take k).flatMap a2k++a2k ⟨x,y,kd,id⟩ by rw[cX,List.flatMap_append];simp);have Gy:lk.length<=100001:=by rw[pS.out,List.length_take];omega
  replace cX:=Lib.hid cX;clear x0 x1 x2 x3 dq;obtain⟨x0,x1,x2,x3⟩:=b4g kX;go_region_law
   (first
    |(refine a3w qM _ _ qM wy.heap.size _ qM (a6f ?_ ?_) _ (l.take k) qM (rQ.up zC zC) (by rw[List.length_take];omega) zC ?_;(first|exact Blk.new _ _ _|(have h:=(Blk.new (wy.alloc (.cells #[.int .i64 x,.int .i64 y,.int .i64 kd,.int .i64 id] 54)) #[] 54).drew;rw[World.size_alloc]at h;exact h)|exact((Blk.new wy #[] 54).alloc _).drew);(first|exact yR _|(simp;done)|omega);intro v6 w6 bI iT;have cA:Below wy.heap.size wy w6:=Below.trans zC (iT.mono zC);have AX:=cA.size;obtain⟨d0,d1,d2,d3⟩:=b4g (kX.below cA lX))
    |((first|(refine step_append_lies _ qM _ _ _ qM wy.heap.size 54 i0 _ 4 32 underlying41 aT bM aW bF rfl oM v6 (l.take k).length _ qM (bI.alloc _) ⟨w6.heap.size,0,none⟩ 1 1 (a2k ⟨x,y,kd,id⟩) qM qM (a9p (Blk.new _ _ _)) (by simp[Value.oneCell']) oM (by unfold maxLen;rw[List.length_take];omega) (by rw[List.length_take];omega) zC _ rfl ?_)|(refine step_append_lies _ qM _ _ _ qM wy.heap.size 54 i0 _ 4 32 underlying41 aT bM aW bF rfl oM v6 (l.take k).length _ qM bI ⟨wy.heap.size,0,none⟩ 1 1 (a2k ⟨x,y,kd,id⟩) qM qM (a9p (((Blk.new wy #[.int .i64 x,.int .i64 y,.int .i64 kd,.int .i64 id] 54).alloc (.cells #[] 54)).drew.below iT (by simp;try omega))) (by simp[Value.oneCell']) oM (by unfold maxLen;rw[List.length_take];omega) (by rw[List.length_take];omega) zC _ rfl ?_)|(refine step_append_lies _ qM _ _ _ qM wy.heap.size 54 i0 _ 4 32 underlying41 aT bM aW bF rfl oM v6 (l.take k).length _ qM bI ⟨wy.heap.size+1,0,none⟩ 1 1 (a2k ⟨x,y,kd,id⟩) qM qM (a9p (by have h:=(Blk.new (wy.alloc (.cells #[] 54)) #[.int .i64 x,.int .i64 y,.int .i64 kd,.int .i64 id] 54).drew.below iT (by simp;try omega);simpa using h)) (by simp[Value.oneCell']) oM (by unfold maxLen;rw[List.length_take];omega) (by rw[List.length_take];omega) zC _ rfl ?_));intro g7 j9 w7 jk ef AY gd;have gg:Below wy.heap.size wy w7:=(by first|exact cA.grown ef cA.size (λr e=>(bI.lt r e).1)|exact(cA.alloc cA.size _).grown ef (Nat.le_trans cA.size vM) (λr e=>(bI.lt r e).1));have eZ:w7.ownsRow wy.heap.size 54 4 (.slice (some ⟨g7,0,none⟩) ((l.take k).length+1) j9) lk.length (lk.flatMap a2k):=(by rw[pS.out,wB.out];exact jk);obtain⟨v7,AZ⟩:∃v,v=Value.slice (some ⟨g7,0,none⟩) ((l.take k).length+1) j9:=⟨_,rfl⟩;rw[<-AZ]at eZ ⊢;clear AZ)
    |(refine a6i qM _ _ qM wy.heap.size v7 lk (l.drop k) qM eZ g (k*4) _ _ rfl ((sP.drop k _ _ _ hk (.inl oM) oM).up gg gg.size) (by rw[List.length_drop];omega) gg.size ?_;intro v8 w8 uJ ml))
  all_goals
   have A2:=gg.grown ml gg.size (λr e=>(eZ.lt r e).1);try go_simp
   exact yjz):P:=h
theorem yab (h:P:=by
  have hA1:=Ev.alloc (X:=noB) nL.ok (c5q (S:=S) (W:=wr) (e:=3));have A3:SL (λb=>S b\/b=wr.heap.size) (wr.alloc (.cells #[] 3)) 3 (.slice (some ⟨wr.heap.size,0,none⟩) 0 0) 0:=SL.blk (.inr rfl) (Blk.new _ _ _) vM;have pT:=(nL.trans hA1).sl dm;go_upto_region 7 with(first
   |(refine a5q qM 51 _ _ qM underlying51 a7x qM qM pT ht ?_;intro NP h38)
   |(at_builtin;refine a1q (X:=noB) hA1.ok qM _ _ 51 qM underlying51 a7x qM A3 qM h38 oM ?_;intro v6 S6 W6 jy jP))
  have wC:=(nL.trans hA1).trans jP;have wD:=wC.sl dm;rw[Nat.zero_add]at jy;refine Go.wp_region_reln 7 zM zM (λ_ g W=>Ev noB S6 W6 g W) (λg W g' W'=>Ev noB g W g' W') (FPu (Value.slice (some ⟨b,off,none⟩) n cap) v6 n t x) (λ_ _ _ _ _ _ h g=>h.kept g) S6 (Ev.drew wC.ok) ?_ ?_
  ·clear pT A3 hA1 jP nL
   intro i o hi ho c bb g W hc hM hA hD K hK;match i,hi,ho with
   |0,_,ho =>
    exact yhv
   |1,_,ho =>
    exact ygk
   |2,_,ho =>
    exact ydl
   |3,_,ho =>
    exact ydz
   |4,_,ho =>
    cases ho;have f0:bb.tmps[0]?.getD undef=(Value.slice (some ⟨b,off,none⟩) n cap):=a0a (v:=(Value.slice (some ⟨b,off,none⟩) n cap)) (hA.at_ (k:=0) zM);go_simp;exact hK (Value.slice (some ⟨b,off,none⟩) n cap) g W rfl (Ev.refl hM.ok) hM
   |5,_,ho =>
    cases ho;have f5:bb.tmps[5]?.getD undef= .int .i64 (t:Nat):=a0a (v:= .int .i64 (t:Nat)) (hA.at_ (k:=5) zM);go_simp;exact hK (.int .i64 (t:Nat)) g W rfl (Ev.refl hM.ok) hM
   |6,_,ho =>
    cases ho;have f44:bb.eval (.tmp 44)=(Value.slice (some ⟨b,off,none⟩) n cap):=a0f hD 4 44 zM rfl rfl;have f45:bb.eval (.tmp 45)= .int .i64 (t:Nat):=a0f hD 5 45 zM rfl rfl;rw[if_pos (by simp[Region.wanted])];exact b1c 51 _ _ rfl underlying51 a7x f44 f45 (hM.sl wD) ht (λv' h1=>hK v' g W h1 (Ev.refl hM.ok) hM)
   |i+7,hi,_=>exact absurd hi oM
  ·intro bb g W hM hA ah
   have h3:SL g W 3 (bb.eval (.tmp 43)) (t+1):=ah 3 oM _ _ rfl rfl;have h6:SL g W 3 (bb.eval (.tmp 46)) (n-t):=ah 6 oM _ _ rfl rfl;obtain⟨va,mm⟩:=zE (bb.eval (.tmp 43));obtain⟨vb,pU⟩:=zE (bb.eval (.tmp 46));rw[mm]at h3;rw[pU]at h6;have aC:=hA.frame (rT 40 (rF 7 (rT 1 ([])))) _ rfl zM;clear ah hA;obtain⟨f,hf⟩:=zDt bb;have zO:f 43=va:=by rw[<-hf,<-mm];rfl
   have A4:f 46=vb:=by rw[<-hf,<-pU];rfl
   rw[hf]at aC;clear hf mm pU;subst aC;simp only[rT,rF,a2d,zO,A4,Nat.reduceAdd];clear zO A4;simp only[zU];go_wp2_with (first
    |(at_builtin;refine a1q (X:=noB) hM.ok qM _ _ 51 qM underlying51 a7x qM h3 qM h6 oM ?_;intro v9 S9 w9 aX cG))
   go_ret;exact⟨S9,_,rfl,⟨t+1+(n-t),aX,oM⟩,(wC.trans hM).trans cG⟩):P:=h
theorem yac (h:P:=by
  clear k0 k8 k9;go_upto_region 17 with(first
   |(go_at_call 167;with_reducible refine(a3d c false jQ.out _).mono ?_;rintro e w'⟨rfl,rfl⟩)
   |(go_at_call 169;with_reducible refine(dV _).mono ?_;rintro e w'⟨rfl,rfl⟩))
  refine Go.wp_region_rel 11 zM zM (λ_ W=>Below wc.heap.size wc W) (λw w'=>Below w.heap.size w w') (FEc wc c qi qr qx qy) (λ_ _ _ _ h g=>FEc.kept (w0:=wc) (c:=c) (qi:=qi) (qr:=qr) (qx:=qx) (qy:=qy) h g) (zR _ _).drew ?_ ?_
  ·clear jQ dV a7
   intro ii o hi ho cc bb W lI hM hA hD K hK;match ii,hi,ho with
   |0,_,ho =>
    exact yez
   |1,_,ho =>
    exact yhy
   |2,_,ho =>
    cases ho;have f79:=a0a (v:= .int .u8 (c:Nat)) (a0b hD 1 79 zM rfl rfl);go_simp;exact hK (.int .u8 (qi:Nat)) W rfl (zR _ _) hM
   |3,_,ho =>
    cases ho;have f78:=a0b hD 0 78 zM rfl rfl;have f80:=a0a (v:= .int .u8 (qi:Nat)) (a0b hD 2 80 zM rfl rfl);obtain⟨L,h1,h2⟩:=f78;have Tk:=a0a h1;go_simp;exact hK (.pointer (some ⟨L,qi,none⟩)) W ⟨L,rfl,h2⟩ (zR _ _) hM
   |4,_,ho =>
    cases ho;have f81:=a0b hD 3 81 zM rfl rfl;obtain⟨L,h1,h2⟩:=f81;have Tl:=a0a h1;have c_:=(h2.cell qi).trans hx;go_simp;exact hK (.int .i64 (qx:Nat)) W rfl (zR _ _) hM
   |5,_,ho =>
    exact yez
   |6,_,ho =>
    exact yhy
   |7,_,ho =>
    cases ho;have f84:=a0a (v:= .int .u8 (c:Nat)) (a0b hD 6 84 zM rfl rfl);go_simp;exact hK (.int .u8 (qr:Nat)) W rfl (zR _ _) hM
   |8,_,ho =>
    cases ho;have f83:=a0b hD 5 83 zM rfl rfl;have f85:=a0a (v:= .int .u8 (qr:Nat)) (a0b hD 7 85 zM rfl rfl);obtain⟨L,h1,h2⟩:=f83;have Tm:=a0a h1;go_simp;exact hK (.pointer (some ⟨L,qr,none⟩)) W ⟨L,rfl,h2⟩ (zR _ _) hM
   |9,_,ho =>
    cases ho;have f86:=a0b hD 8 86 zM rfl rfl;obtain⟨L,h1,h2⟩:=f86;have Tn:=a0a h1;have c_:=(h2.cell qr).trans hy;go_simp;exact hK (.int .i64 (qy:Nat)) W rfl (zR _ _) hM
   |10,_,ho =>
    cases ho;have f82:=a0a (v:= .int .i64 (qx:Nat)) (a0b hD 4 82 zM rfl rfl);have f87:=a0a (v:= .int .i64 (qy:Nat)) (a0b hD 9 87 zM rfl rfl);go_simp;exact hK (.slice (some ⟨W.heap.size,0,none⟩) 3 3) _ ⟨_,rfl,Blk.new _ _ _⟩ ((zR _ _).alloc (yR _) _) (hM.alloc hM.size _)
   |i+11,hi,_=>exact absurd hi oM
  ·intro bb W hM hA ah
   obtain⟨L,iU,hL⟩:=(show ∃L,bb.eval (.tmp 88)= .slice (some ⟨L,0,none⟩) 3 3/\Blk W L #[.int .i64 8,.int .i64 (qx:Nat),.int .i64 (qy:Nat)] 3 from ah 10 oM _ _ rfl rfl);have aC:=hA.frame (rT 78 (rF 11 ([]))) _ rfl zM;clear ah hA;obtain⟨f,hf⟩:=zDt bb;have Le:f 88= .slice (some ⟨L,0,none⟩) 3 3:=by rw[<-hf,<-iU];rfl
   rw[hf]at aC;clear hf iU;subst aC;simp only[rT,rF,a2d,Le,Nat.reduceAdd];clear Le;simp only[zU];go_wp2_with fail;go_ret;rw[<-uK.out,<-zP.out]at hL;rw[e1.out];exact⟨_,rfl,hM,hL⟩):P:=h
theorem yad (h:P:=by
  clear hd dW;go_upto_region 11 with(first
   |(go_at_call 73;(with_reducible refine(zV.call 3 oM oM).mono ?_);rintro e W4⟨a,rfl,a0,a1,pV⟩)
   |(go_at_call 73;(with_reducible refine(pV.call 2 oM oM).mono ?_);rintro e W5⟨b,rfl,b0,b1,A5⟩)
   |(go_at_call 73;(with_reducible refine(A5.call 51 oM oM).mono ?_);rintro e W6⟨c,rfl,c0,c1,mn⟩)
   |(go_at_call 73;(with_reducible refine(mn.call 60 oM oM).mono ?_);rintro e W7⟨t,rfl,t0,t1,lJ⟩))
  have To:l.length<=6:=oM;have f0:fits (61+(l.length:Int)):=⟨oM,oM⟩;have f5:fits (1+t):=⟨oM,oM⟩;refine a0m (λW8 jz=> ?_);obtain⟨X,Y,fX,fY,gJ⟩:∃X Y,fits X/\fits Y/\DP n₀ D sv xs S w S' W8 [(W7.heap.size,e0o (61+l.length) X Y ⟨#[]⟩ ⟨#[]⟩ (1+t) 0,66),(B2,b8m ev fv wv pv,37)] [(206,ev,ne),(140,fv,nf)] (.slice oa l.length oc) l:=by
   rw[jz];refine⟨_,_,?_,?_,lJ.box _ _⟩
   ·exact⟨oM,oM⟩
   ·exact⟨oM,oM⟩
  obtain⟨BP,pW⟩:=zE W7.heap.size;rw[pW]at gJ;rw[pW];clear jz pW zV pV A5 mn lJ;have st1:Strs #[.string ⟨#[116,114,101,101]⟩,.string ⟨#[116,114,101,101]⟩,.string ⟨#[115,104,111,112]⟩]:=b0g [⟨#[116,114,101,101]⟩,⟨#[116,114,101,101]⟩,⟨#[115,104,111,112]⟩] jM;go_upto_region 12 with(first
   |(go_at_call 73;(with_reducible refine((gJ.box _ _).call 3 oM oM).mono ?_);rintro e Wb⟨q,rfl,q0,q1,hb⟩;obtain⟨q,rfl⟩:=Int.eq_ofNat_of_zero_le q0;obtain⟨s1,uL,fB⟩:=st1.at_ hb.d.b0 (q:=q) uM;have lK:=hb.tail;obtain⟨z0,z1,z2,z3,z4,z5,z6⟩:=b9z lK.d.b0;have zf:=lK.d.b0.frozen 3))
  refine a0m (λWC uN=> ?_);have sQ:=lK.put uN (c':=e0o (61+l.length) X Y s1 ⟨#[]⟩ (1+t) 0) rfl;clear gJ lK hb uN z0 z1 z2 z3 z4 z5 z6 zf uL st1;have st2:Strs #[.string ⟨#[]⟩,.string ⟨#[]⟩,.string ⟨#[71,97,116,101]⟩,.string ⟨#[79,97,107]⟩,.string ⟨#[84,104,101,32,87,101,108,108]⟩]:=b0g [⟨#[]⟩,⟨#[]⟩,⟨#[71,97,116,101]⟩,⟨#[79,97,107]⟩,⟨#[84,104,101,32,87,101,108,108]⟩] jM;go_upto_region 13 with(first
   |(go_at_call 73;(with_reducible refine((sQ.box _ _).call 5 oM oM).mono ?_);rintro e Wd⟨q',rfl,A6,Lg,hd⟩;obtain⟨q',rfl⟩:=Int.eq_ofNat_of_zero_le A6;obtain⟨s2,rR,cH⟩:=st2.at_ hd.d.b0 (q:=q') uM;have lL:=hd.tail;obtain⟨z0,z1,z2,z3,z4,z5,z6⟩:=b9z lL.d.b0;have zf:=lL.d.b0.frozen 4))
  refine a0m (λWE jl=> ?_);have nM:=lL.put jl (c':=e0o (61+l.length) X Y s1 s2 (1+t) 0) rfl;clear sQ lL hd jl z0 z1 z2 z3 z4 z5 z6 zf rR st2;obtain⟨z0,z1,z2,z3,z4,z5,z6⟩:=b9z nM.d.b0;obtain⟨m0,m1,m2,m3⟩:=a2c nM.d.b1;go_upto_region 14 with(first
   |(go_at_call 134;(with_reducible refine(d8p S' WE nM.d.tw ev ne nM.d.s0 av X Y fX fY).mono ?_);rintro e WA⟨⟨x,bo,rfl⟩,eh⟩))
  have uO:=nM.up eh;clear nM eh z0 z1 z2 z3 z4 z5 z6 m0 m1 m2 m3;obtain⟨m0,m1,m2,m3⟩:=a2c uO.d.b1;go_upto_region 15 with(first
   |(go_at_call 135;(with_reducible refine(NQ S' WA uO.d.tw uO.d.s1 x).mono ?_);rintro e WF⟨⟨d,rfl,fd⟩,zW⟩;have lM:=uO.up zW;obtain⟨z0,z1,z2,z3,z4,z5,z6⟩:=b9z lM.d.b0;have zf:=lM.d.b0.frozen 6))
  refine a0m (λWG uP=> ?_);have nN:=lM.pd uP;clear uO zW lM uP m0 m1 m2 m3 z0 z1 z2 z3 z4 z5 z6 zf;obtain⟨z0,z1,z2,z3,z4,z5,z6⟩:=b9z nN.d.b0
  cases bo
  ·exact yil
  ·by_cases E9:0<d
   ·go_wp2_with (first
     |(at_builtin;refine El.pushO a4f d7c qM _ _ qM qM nN.row ⟨61+(l.length:Int),X,Y,s1,s2,1+t,d⟩ qM rfl (nN.d.st.ev.size) oM ?_;intro v9 w9 aU o8 bD br))
    go_roundw
    case rel=>exact⟨k+1,S',l++[⟨61+(l.length:Int),X,Y,s1,s2,1+t,d⟩],oM,by go_num,by rw[List.length_append];simp;omega,a7.push ⟨f0,fX,fY,f5,show s2.size<=1000 from by omega⟩ (show s1.size<=1000 from oM) rfl,(nN.more aU bD o8).tail⟩
    case measure=>simp[intOf];omega
   ·exact yil):P:=h
theorem yae (h:P:=by
  have jA:Src prog i.size t (.slice xa m xc) m news W:=by
   exact yea
  have zX:=hv;obtain⟨a,cap,olds,rfl,Gz,rS,Fa,Lh,NR,GA⟩:=hv.cells hT he;by_cases jm:n+m<=cap
  ·obtain⟨a2,ke,h2,-,h3⟩:=zX
   cases h2;rcases h3 with⟨rfl,rfl⟩|⟨b,o,c,rfl,hb,hc,fF⟩
   ·obtain rfl:n=0:=oM
    obtain rfl:m=0:=oM;refine⟨.slice none 0 0,S,W,?_,⟨none,0,rfl,yR _,.inl ⟨rfl,rfl⟩⟩,Ev.refl hT,zR _ _,b7f _⟩;simp[Builtin.append_,run_underlying ht,sizeOf,typeInfo,hi,jA.len,jA.cells]
   ·have wE:base<=b:=aj _ _ _ rfl
    rw[jo]at fF ⊢;have hmul:(n+m)*s<=cap*s:=Nat.mul_le_mul_right s jm;rw[Nat.add_mul]at hmul fF;have ao:∀j,j<news.length->(W.cell? ⟨b,o*s+n*i.size+j,none⟩).isSome=true:=λj hj=>by
     rw[hc.cell,bu,Array.getElem?_eq_getElem oM];rfl
    have hr:=run_append_room_src (P:=prog) W t t ty e i ht hi b (o*s) n cap (.slice xa m xc) m news jA jm ao (λj hj=>hc.frozen _);refine⟨_,S,_,hr,?_,?_,a7y wE news _ W aD,λa' k' c' e'=>by cases e';exact wE⟩
    ·exact yee
    ·exact ygp
  ·have hold:(Builtin.firstCells i.size n (.slice a n cap)).run prog W.drew= .ok olds.toArray W.drew:=by
    exact ydi
   have aY:=grownCap_ge W (n+m) cap e;have bY:Builtin.nextslicecap (n+m) cap*i.bytes<=281474976710656:=growslice_fits oM (Nat.le_trans (Nat.mul_le_mul hl o9) jM);have hr:=run_append_grow_src (P:=prog) W t t ty e i z ht hi hz a n cap olds hold (.slice xa m xc) m news jA oM oM bY;have GB:=(Ev.drew (X:=X) hT).ok;have uQ:=Ev.drew (X:=X) hT;have hB:TB S W.drew e ((olds++news).toArray++Builtin.zeroCells z.cells (grownCap W (n+m) cap e-(n+m))):=by
    exact yau
   have hA:=Ev.alloc (X:=X) GB hB;refine⟨_,_,_,hr,?_,uQ.trans hA,(zR _ W).drew.alloc aD _,λa' k' c' e'=>by cases e';exact aD⟩;exact yei):P:=h
theorem yaf (h:P:=by
  have wF:∀(fn:Fn) (first cap:Array Value) (w:Wd),(Instr.makeFunc fn first cap).run prog w= .ok (.func fn first cap) w:=λ_ _ _ _=>rfl
  have bE:Blk w9 (w.heap.size+1+1) #[.slice da pl.dots.length dc,kv,.slice (some ⟨lb,A7,none⟩) pl.left.length lc] 45:=jB.o (w.heap.size+1+1,#[.slice da pl.dots.length dc,kv,.slice (some ⟨lb,A7,none⟩) pl.left.length lc],45) (by unfold a4c;simp);have rU:Blk w9 (w.heap.size+1) #[.int .i64 s.ax,.int .i64 s.ay,.int .i64 s.st,.int .i64 s.w,.int .i64 s.h,.int .i64 s.g] 28:=jB.o (w.heap.size+1,#[.int .i64 s.ax,.int .i64 s.ay,.int .i64 s.st,.int .i64 s.w,.int .i64 s.h,.int .i64 s.g],28) (by unfold a4c;simp);have q0:w9.cell? ⟨w.heap.size+1+1,0,none⟩=some (.slice da pl.dots.length dc):=bE.cell 0;have iy:=c3z (.slice da pl.dots.length dc) pl.dots w9 (hd.up jB.bel) mo oM;have jC:=List.length_filter_le (λd=> !a6d lk li d) pl.dots;have A8:∀d∈pl.dots.filter (λd=> !a6d lk li d),Sm d:=λd hd=>bR d (List.mem_filter.1 hd).1
  gi_upto_region 13 with(first
   |(refine⟨trivial,?_⟩;gi_at_call 109;refine(CallsIn.inRound ly (callsIn_wide.2 iy)).mono ?_;rintro e gh⟨uc,rfl,wG,dt⟩)
   |(refine⟨trivial,?_⟩;gi_at_call 108;refine(CallsIn.inRound ly (callsIn_wide.2 (c0o w9.heap.size uc pl.dots BX lp lk li gh oM (kX.below dt kX.lt) wG))).mono ?_;rintro e nQ⟨u,rfl,iV,sR,-⟩))
  clear wF iy q0 x0 x1 x2 r0 r7 r8 l0;have fG:Below w9.heap.size w9 nQ:=dt.grown sR dt.size λr e=>(wG.lt r e).1
  have mq:=jB.below fG;have A9:=iW.trans (jB.keepP fG);have nR:=cn.below fG cn.lt;have nT:=rU.below fG rU.lt;have uR:=wH.up fG;have r7:nQ.cell? ⟨B,7,none⟩=some (.slice xa dl.length xc):=nR.cell 7;have s5:nQ.cell? ⟨w.heap.size+1,5,none⟩=some (.int .i64 s.g):=nT.cell 5;have lN:=b9f s.g u (.slice xa dl.length xc) (pl.dots.filter λd=> !a6d lk li d) dl nQ (a0d a4t iV oM) (a1u iV) uR Be;rw[c5y A8 Bf]at lN;clear bE rU A8 jC dt wG sR iV fG nR nT uR jB iW cn wH
  cases hq:a5i s.g (pl.dots.filter λd=> !a6d lk li d) dl with
  |none =>
   rw[hq]at lN bK;replace lN:Calls _ _ _ _ λe w'=>e= .returned (.tuple #[dtV ⟨0,0,0,0⟩,.bool false])/\Below nQ.heap.size nQ w':=lN
   clear hq hT;gi_wp2_with (first
    |(refine⟨trivial,?_⟩;gi_at_call 36;refine(CallsIn.inRound ly (callsIn_wide.2 lN)).mono ?_;rintro e Fb⟨rfl,dK⟩)
    |(refine⟨trivial,?_⟩;gi_at_call 106;refine(CallsIn.inRound ly (callsIn_wide.2 (a3e 42 _))).mono ?_;rintro e gh⟨rfl,rfl⟩))
   first|exact⟨hF bK,((mq.below dK).below ((zR _ _).alloc (yR _) _)).bel⟩|exact⟨(A9.trans (mq.keepP dK)).trans ((mq.below dK).keepP ((zR _ _).alloc (yR _) _)),((mq.below dK).below ((zR _ _).alloc (yR _) _)).bel⟩
  |some d =>
   rw[hq]at lN bK;obtain⟨d0,d1,d2,d3⟩:=d;replace lN:Calls _ _ _ _ λe w'=>e= .returned (.tuple #[dtV ⟨d0,d1,d2,d3⟩,.bool true])/\Below nQ.heap.size nQ w':=lN
   clear hq hF;gi_wp2_with (first
    |(refine⟨trivial,?_⟩;gi_at_call 36;refine(CallsIn.inRound ly (callsIn_wide.2 lN)).mono ?_;rintro e Fb⟨rfl,dK⟩)
    |(refine⟨trivial,?_⟩;gi_at_call 106;refine(CallsIn.inRound ly (callsIn_wide.2 (a3o 42 _))).mono ?_;rintro e gh⟨rfl,rfl⟩))
   exact⟨(A9.trans (mq.keepP dK)).trans ((mq.below dK).keepP ((zR _ _).alloc (yR _) _)),m+1,_,_,hT bK,by simp;omega,iz,(mq.below dK).below ((zR _ _).alloc (yR _) _)⟩):P:=h
theorem yag (h:P:=by
  have lP:W.grownBy (W.alloc (.cells (bx x) tb)) none:=World.grownBy_alloc W _ none;obtain⟨Wa,uS⟩:=zE (W.alloc (.cells (bx x) tb));have NS:Wa.heap.size=W.heap.size+1:=by rw[<-uS];simp
  have GC:∀k,k<W.heap.size->Wa.heap[k]? =W.heap[k]? :=λk hk=>by rw[<-uS];exact lP.block k hk vM
  have nc:Blk Wa W.heap.size (bx x) tb:=by rw[<-uS];exact Blk.new _ _ _
  have NT:I pre Wa:=by rw[<-uS];exact hI pre W _ none hi lP vM
  have NU:∀k,C Wa k->C W k:=λk hk=>by rw[<-uS]at hk;exact hIC pre W _ none k hi lP vM hk
  have nV:Kx pre x Wa:=by rw[<-uS];exact zY pre x W _ Fc
  have pg:Wa.heap[D+1]? =some (.loop (R .ready none)):=(GC _ ag).trans hl;have Bg:Wa.heap[D]? =some (.deferred (some [])):=(GC _ oM).trans hd;have iX:W.heap[D+1]? =some (.loop (R .ready none)):=hl;have bu:D+1<W.heap.size:=ag;have GD:Below n0 W Wa:=by rw[<-uS];exact a1l lP oM (λr e=>by cases e)
  rw[uS];refine⟨_,run_beginRound pg rfl,?_⟩;obtain⟨W2,bV⟩:∃W2,Wa.putObj (D+1) (.loop { R .ready none with state:= .busy })=W2:=⟨_,rfl⟩;have GF:D+1<Wa.heap.size:=oM;have du:W2.heap[D+1]? =some (.loop { R .ready none with state:= .busy }):=by rw[<-bV];exact World.putObj_heap_same GF
  have dW:W2.heap[D]? =some (.deferred (some [])):=by rw[<-bV];exact(World.putObj_heap_other oM).trans Bg
  have sS:I pre W2:=by
   rw[<-bV];exact hI pre Wa _ (some (D+1)) NT (grownBy_putObj' Wa _ _) (λr e=>by cases e;exact⟨oM,iy Wa _ _ pg rfl⟩)
  have GG:Kx pre x W2:=by rw[<-bV];exact zZ pre x Wa _ _ _ pg rfl rfl nV
  have gK:Below n0 W W2:=GD.trans (by rw[<-bV];exact a1l (grownBy_putObj' Wa (D+1) _) oM (λr e=>by cases e;omega));have cH:W2.heap.size=W.heap.size+1:=by rw[<-bV,<-NS];simp
  have bK:∀k,C W2 k->C W k:=λk h=>by rw[<-bV]at h;exact NU k ((hC Wa _ k _ _ pg rfl rfl).1 h)
  have az:∀k,k<W.heap.size->k≠D+1->W2.heap[k]? =W.heap[k]? :=λk hk av=>by rw[<-bV];exact(World.putObj_heap_other av).trans (GC k hk)
  have aG:Blk W2 W.heap.size (bx x) tb:=by rw[<-bV];exact(World.putObj_heap_other oM).trans nc
  show body.wpIn (F.inRound (D+1)) (n-1-1) P _ _ (Wa.putObj (D+1) (.loop { R .ready none with state:= .busy }));rw[bV];refine wpIn_mono (eO _ pre x W2 W.heap.size sS GG aG oM (λk hk=>by have:=lN pre W k hi (bK k hk);omega) hlen) ?_;rintro e a3 W3 (⟨rfl,⟨hk,lQ⟩,sT⟩|⟨ch,rfl,E9,⟨hk,lQ⟩,ph⟩)
  rotate_left
  ·exact⟨E9,.inr ⟨ch,rfl,ph,(hk.same _ oM (iy W2 _ _ dW rfl)).trans dW⟩⟩
  have kg:W3.heap[D+1]? =some (.loop { R .ready none with state:= .busy }):=(hk.same _ oM (iy W2 _ _ du rfl)).trans du;have zV:W3.heap[D]? =some (.deferred (some [])):=(hk.same _ oM (iy W2 _ _ dW rfl)).trans dW;have wI:D+1<W3.heap.size:=(Array.getElem?_eq_some_iff.1 kg).1;have hr:=run_endRound (P:=P) none kg;refine⟨_,_,hr,.inl ⟨rfl,⟨?_,World.putObj_heap_same wI,(World.putObj_heap_other oM).trans zV⟩,⟨⟨?_,λk cX nW=> ?_,λk hc=> ?_⟩,(gK.trans lQ).trans (a1l (grownBy_putObj' W3 (D+1) _) (by have:=gK.size;have:=lQ.size;omega) (λr e=>by cases e;omega))⟩⟩⟩
  ·exact hI _ W3 _ (some (D+1)) sT (grownBy_putObj' W3 _ _) (λr e=>by cases e;exact⟨oM,iy W3 _ _ kg rfl⟩)
  ·have:=hk.size
   rw[cH]at this;simp;omega
  ·by_cases aR:k=D+1
   ·subst aR
    rw[hl];exact World.putObj_heap_same wI
   ·exact(World.putObj_heap_other aR).trans ((hk.same k oM (λh=>nW (bK k h))).trans (az k cX aR))
  ·rcases hk.mine k ((hC W3 _ k _ _ kg rfl rfl).1 hc)with h|h
   ·exact .inl (bK k h)
   ·exact .inr oM):P:=h
theorem yah (h:P:=by
  have Fe:=cn.ck;have Ff:=cn.fk;go_wp2_with fail;refine⟨⟨n+1,f,w9.heap.size,_,rfl,oM,oM,?_,aq,cn.newk _⟩,?_⟩
  ·simp only[List.length_append,List.length_cons,List.length_nil]at kh ⊢
   omega
  ·rw[(cn.newk _).kOf,Bh.out]
   simp;omega):P:=h
theorem yai (h:P:=by
  go_upto_region 16 with fail;go_upto_if 53 with(first
   |(go_at_call 73;(with_reducible refine(hd.call 3 oM oM).mono ?_);rintro e W2⟨q,rfl,q0,q1,dW⟩))
  by_cases hq:q=0
  ·subst hq
   go_upto_region 18 with(first
    |(go_at_call 133;(with_reducible refine(a7j 0 0 W2).mono ?_);rintro e W3⟨⟨x1,y1,rfl,GH,Aa⟩,aV⟩)
    |(go_at_call 73;(with_reducible refine((dW.up aV).call 2 oM oM).mono ?_);rintro e W4⟨r,rfl,r0,r1,pV⟩)
    |(go_at_call 133;(with_reducible refine(a7j _ 1 W4).mono ?_);rintro e W5⟨⟨x2,y2,rfl,GI,GJ⟩,aZ⟩)
    |(go_at_call 132;(with_reducible refine(c2z n₀ D sv xs _ W5 (pV.up aZ).td _ _ (pV.up aZ).s0 oM _ _ _ _ _ GH Aa GI GJ (by first|exact GK|exact Ab|exact GL)).mono ?_);rintro e W6⟨S6,v6,rfl,jy,Ac,jP⟩))
   have mn:=((pV.up aZ).then_ Ac jP).tailT.add jy;clear hd dW aV pV aZ Ac jP jy;exact ybc
  ·have wJ:(q==0)=false:=by simpa using hq
   go_upto_region 18 with fail;have mn:=dW;clear hd dW;exact ybc):P:=h
theorem yaj (h:P:=by
  by_cases fC:j=0
  ·have NV:¬(0:Int)<(j:Int):=oM
   clear fC;go_wp2_with fail;go_roundw
   case rel=>exact⟨j+1,oM,by go_num,hm⟩
   case measure=>simp[intOf];omega
  ·obtain rfl:j=1:=oM
   have NV:(0:Int)<((1:Nat):Int):=oM;go_upto_if 93 with(first
    |(go_at_call 73;refine(hm.next 5 oM oM).mono ?_;rintro e W9⟨v2,rfl,v20,v21,lR,bD,cG⟩))
   clear hm bD cG;by_cases ew:v2=0
   ·subst ew
    obtain⟨y0,Li,GM⟩:=lR.ob.at_ (q:=i*2) oM;obtain⟨y1,Lj,Aa⟩:=lR.ob.at_ (q:=i*2+1) oM;have fz:=lR.ob.frozen (i*2+1);go_upto_region 24 with fail;refine zR3 λp=> ?_
    have Ad:=(lR.set (i*2+1) GM).up (below_growBy _ p);go_wp2_with fail;go_roundw
    case rel=>exact⟨1+1,oM,by go_num,by first|exact Ad|simpa using Ad⟩
    case measure=>simp[intOf];omega
   ·have pU:(v2==0)=false:=by simpa using ew
    go_wp2_with fail;go_roundw
    case rel=>exact⟨1+1,oM,by go_num,lR⟩
    case measure=>simp[intOf];omega):P:=h
theorem yak (h:P:=by
  obtain⟨⟨r0,r1,r2,r3,r4,r5,r6⟩,-⟩:=d0o pX;obtain⟨z0,z1,z2,z3,z4,z5,z6,k9,Ab,Lk⟩:=hq.q;obtain⟨⟨s0,s1,s2,s3,s4,s5,s6⟩,t0,t1,t2,t3,t4,t5,t6⟩:=d0o k9;by_cases nX:x=0
  ·have Ll:(x != 0)=false:=by simp[nX]
   go_wp2_with fail;go_roundw
   case rel=>exact⟨i+1,fb,oM,by go_num,rfl,hq⟩
   case measure=>simp[intOf];omega
  ·have Ll:(x != 0)=true:=by simp[nX]
   cases fb
   ·exact yeb
   ·clear t0 t1 t2 t3 t4 t5 t6 k9
    go_upto_if 116 with(first
     |(go_at_call 186;refine(c7d _ _ _ _ _ _ _ _ _ _ _ _ _ _ _ Ab Lk g1 g2).mono ?_;rintro e WB⟨⟨bo,rfl⟩,Ae⟩))
    clear r0 r1 r2 r3 r4 r5 r6 s0 s1 s2 s3 s4 s5 s6;have pX:=pX.below Ae pX.lt;have hq:=hq.up Ae
    cases bo
    ·go_wp2_with fail
     go_roundw
     case rel=>exact⟨i+1,true,oM,by go_num,rfl,hq⟩
     case measure=>simp[intOf];omega
    ·obtain⟨⟨r0,r1,r2,r3,r4,r5,r6⟩,-⟩:=d0o pX
     obtain⟨z0,z1,z2,z3,z4,z5,z6,k9,-,-⟩:=hq.q;obtain⟨⟨s0,s1,s2,s3,s4,s5,s6⟩,t0,t1,t2,t3,t4,t5,t6⟩:=d0o k9;exact yeb):P:=h
theorem yal (h:P:=by
  have f8:=a0a (v:= .pointer (some ⟨n2+1+1,0,none⟩)) (hA.at_ (k:=8) zM);have z0:W.cell? ⟨n2+1+1,0,none⟩=some (.int .i64 s.ax):=a0e hM eE;have z1:W.cell? ⟨n2+1+1,1,none⟩=some (.int .i64 s.ay):=a0e hM eF;have z2:W.cell? ⟨n2+1+1,2,none⟩=some (.int .i64 s.st):=a0e hM eG;have z3:W.cell? ⟨n2+1+1,3,none⟩=some (.int .i64 s.w):=a0e hM eH;have z4:W.cell? ⟨n2+1+1,4,none⟩=some (.int .i64 s.h):=a0e hM eI;have z5:W.cell? ⟨n2+1+1,5,none⟩=some (.int .i64 s.g):=a0e hM eJ;exact yii):P:=h
theorem yam (h:P:=by
  by_cases hx:ax=bx
  ·subst hx
   obtain⟨p0,p1,sU,sV⟩:=pt2 gJ.b0;obtain⟨a0,a1,-,-⟩:=pt2 gJ.b2;obtain⟨b0,b1,-,-⟩:=pt2 gJ.b3;go_upto_region 12 with fail;refine a0m (λW9 fP=> ?_);obtain⟨X7,Lm,lJ⟩:=gJ.pt0 (a1c (X+(dr-8)));rw[<-fP]at lJ;clear fP p0 p1 sU sV a0 a1 b0 b1 gJ;exact ybr
  ·have Ll:(ax==bx)=false:=by simpa using hx
   obtain⟨a0,a1,-,-⟩:=pt2 gJ.b2;obtain⟨b0,b1,-,-⟩:=pt2 gJ.b3;go_upto_region 12 with fail;clear a0 a1 b0 b1;have lJ:=gJ;have Lm:=fX;clear gJ;exact ybr):P:=h
theorem yan (h:P:=by
  have f15:=a0a (v:= .pointer (some ⟨gy,0,none⟩)) (hA.at_ (k:=15) zM);have z0:W.cell? ⟨gy,0,none⟩=some (dx):=a0e hM Bj;have z1:W.cell? ⟨gy,1,none⟩=some (kx):=a0e hM Bn;have z2:W.cell? ⟨gy,2,none⟩=some (lx):=a0e hM Bo;go_simp;exact hK (.agg #[dx,kx,lx]) W rfl (zR _ _) hM):P:=h
theorem yao (h:P:=by
  cases ho;have f10:=a0a (v:= .pointer (some ⟨BO,0,none⟩)) (hA.at_ (k:=10) zM);obtain⟨y0,c0,q0⟩:=hM.1.m7.ob.at_ (q:=0) oM;obtain⟨y1,c1,q1⟩:=hM.1.m7.ob.at_ (q:=1) oM;obtain⟨y2,c2,q2⟩:=hM.1.m7.ob.at_ (q:=2) oM;obtain⟨y3,c3,q3⟩:=hM.1.m7.ob.at_ (q:=3) oM;obtain⟨y4,c4,q4⟩:=hM.1.m7.ob.at_ (q:=4) oM;obtain⟨y5,c5,q5⟩:=hM.1.m7.ob.at_ (q:=5) oM;go_simp;exact hK _ g W ⟨_,_,_,_,_,_,rfl,q0,q1,q2,q3,q4,q5⟩ (Ev.refl hM.1.te.tw) hM):P:=h
theorem yap (h:P:=by
  rw[<-lI];refine leaves_cons (f:=47) (args:= #[.pointer (some ⟨w.heap.size+1+1+1,0,none⟩)]) vM (by simp[go_sem]) ?_;refine(d9e _ 0 _ _ x0 x1).mono ?_;rintro e u' w9⟨rfl,rfl,rfl⟩;have y0:=(k4.below bA k4.lt).set 0 (.int .i64 cc);have br:=(aE.trans (bA.mono aE.size)).setCell (p:=⟨w.heap.size+1+1+1,0,none⟩) (show w.heap.size<=w.heap.size+1+1+1 by omega) (.int .i64 cc);exact yhg):P:=h
theorem yaq (h:P:=by
  go_wp2_with (first
   |(go_at_call 119;with_reducible refine(jQ _).mono ?_;rintro e w'⟨rfl,rfl⟩)
   |(go_at_call 118;with_reducible refine h8.mono ?_;rintro e w4⟨rfl,bZ⟩;have GN:=bZ.cs;have Fe:=bZ.ck;have Ff:=bZ.fk)
   |(refine a0k qM 9 _ _ qM lettersB .u8 ((c:Int) / 16) qM qM underlying9 (ln:Nat) oM oM (bj _) ?_)
   |(go_at_call 118;with_reducible refine(BW.two bZ L ln iN uM).mono ?_;rintro e w5⟨rfl,fQ⟩;have Tp:=fQ.ck;have Tq:=fQ.fk)
   |(refine a0k qM 9 _ _ qM lettersB .u8 ((c:Int) % 16) qM qM underlying9 (GO:Nat) oM oM (GP _) ?_)
   |(go_at_call 118;with_reducible refine(BW.two fQ L2 GO Bq uM).mono ?_;rintro e w9⟨rfl,cn⟩;have Af:=cn.ck;have Ag:=cn.fk))
  exact yah):P:=h
theorem yar (h:P:=by
  by_cases Ln:r2<g
  ·obtain rfl:r=false:=fH.out (ki (by simpa using Ln))
   clear fD fH wK ki hr lS;go_wp2_with fail;refine zR0 λp=> ?_
   go_wp2_with fail;refine e3s λp=> ?_
   go_wp2_with fail;go_ret;exact⟨rfl,aG▸Go.below_growBy' Lo uT _⟩
  ·have Fg:=Lib.hid (fD.out (lS.out.trans (wK (by simpa using Ln))))
   clear fD fH wK ki hr lS;go_wp2_with fail;refine zR0 λp=> ?_
   go_wp2_with fail;refine e3s λp=> ?_
   exact yia):P:=h
theorem yas (h:P:=by
  have z0:W.cell? ⟨b,off+k*7,none⟩=some (.int .i64 id):=a0e hM dL;have z1:W.cell? ⟨b,off+k*7+1,none⟩=some (.int .i64 x):=a0e hM e8;have z2:W.cell? ⟨b,off+k*7+2,none⟩=some (.int .i64 y):=a0e hM ff;have z3:W.cell? ⟨b,off+k*7+3,none⟩=some (.string cls):=a0e hM gL;have z4:W.cell? ⟨b,off+k*7+4,none⟩=some (.string nm):=a0e hM gN;have z5:W.cell? ⟨b,off+k*7+5,none⟩=some (.int .i64 wt):=a0e hM gO;have z6:W.cell? ⟨b,off+k*7+6,none⟩=some (.int .i64 ds):=a0e hM gP;go_simp;exact hK (.agg #[.int .i64 id,.int .i64 x,.int .i64 y,.string cls,.string nm,.int .i64 wt,.int .i64 ds]) W rfl (zR _ _) hM):P:=h
theorem yat (h:P:=by
  have z0:W.cell? ⟨nS,0,none⟩=some (.int .i64 s.ax):=a0e hM eE;have z1:W.cell? ⟨nS,1,none⟩=some (.int .i64 s.ay):=a0e hM eF;have z2:W.cell? ⟨nS,2,none⟩=some (.int .i64 s.st):=a0e hM eG;have z3:W.cell? ⟨nS,3,none⟩=some (.int .i64 s.w):=a0e hM eH;have z4:W.cell? ⟨nS,4,none⟩=some (.int .i64 s.h):=a0e hM eI;have z5:W.cell? ⟨nS,5,none⟩=some (.int .i64 s.g):=a0e hM eJ;exact yii):P:=h
theorem yau (h:P:=by
  intro j u ct h1 h2;rw[jo]at h2;rw[Array.getElem?_append]at h1;split at h1
  ·rw[List.getElem?_toArray,List.getElem?_append]at h1
   split at h1
   ·exact uQ.ct (Lh j u ct h1 h2)
   ·rename_i h3 h4
    refine uQ.ct (wL _ u ct h1 ?_);rw[rS]at h4 ⊢;have:(j-n*s) % s=j % s:=by
     conv=>rhs;rw[show j=(j-n*s)+s*n from by rw[Nat.mul_comm s n];omega]
     rw[Nat.add_mul_mod_self_left]
    rw[this];exact h2
  ·rename_i h3
   simp only[List.size_toArray,List.length_append,rS,iO,<-Nat.add_mul]at h1 h3;unfold Builtin.zeroCells at h1;rw[Array.getElem?_map]at h1;obtain⟨k,hk,rfl⟩:=Option.map_eq_some_iff.1 h1;obtain⟨jR,eD⟩:=Array.getElem?_eq_some_iff.1 hk;simp only[Array.getElem_range]at eD;have hm:(j-(n+m)*s) % s=j % s:=by
    conv=>rhs;rw[show j=(j-(n+m)*s)+s*(n+m)from by rw[Nat.mul_comm s];omega]
    rw[Nat.add_mul_mod_self_left]
   rw[<-eD,kj,hm];have ag:j % s<z.cells.size:=by rw[kj];exact Nat.mod_lt _ hp
   refine GQ S _ (j % s) _ ct ?_ h2;rw[getElem!_pos z.cells (j % s) ag,Array.getElem?_eq_getElem ag]):P:=h
theorem yav (h:P:=by
  obtain⟨j,hj⟩:=zE (c-48);rw[hj]at e1;obtain⟨m,hm⟩:=zE ((j+9) % 10);rw[hm]at e1;have hw:IntKind.u8.wrap ((c:Int)-48)=(j:Int):=by simp[IntKind.wrap,IntKind.bits,IntKind.signed];omega
  have gQ:IntKind.i64.wrap (j:Int)=(j:Int):=a1i oM oM;have wM:IntKind.i64.wrap ((j:Int)+9)=(j:Int)+9:=a1i oM oM;have pY:Int.tmod ((j:Int)+9) 10=(m:Int):=by rw[Int.tmod_eq_emod_of_nonneg oM];omega
  have NW:((j:Int)+9) % 10=(m:Int):=oM;have fI:IntKind.i64.wrap (m:Int)=(m:Int):=a1i oM oM;have hx:=b5w (j:=m) oM;obtain⟨u,hu⟩:=zE (lettersB[m]!);rw[hu]at hx e1;have k1:¬(97:Int)<=c:=oM;have k2:¬(65:Int)<=c:=oM;have Ah:(m:Int)<26:=oM;have jQ:(decide (48<=(c:Int))&&decide ((c:Int)<=57))=true:=by simp;omega
  replace jQ:=Lib.hid jQ;replace e1:=Lib.hid e1;clear hj hu k0 k9 hm;go_wp2_with (first
   |(go_at_call 167;with_reducible refine(a3d c true jQ.out _).mono ?_;rintro e w'⟨rfl,rfl⟩)
   |(go_at_call 168;refine(a3m _).mono ?_;rintro e w'⟨rfl,rfl⟩))
  go_ret;rw[e1.out];exact⟨_,rfl,zC,b1y _ _⟩):P:=h
theorem yaw (h:P:=by
  have Fg:=Lib.hid (fD.out (lS.out.trans a7));clear fD fH a7 hr lS;go_wp2_with fail;refine zR0 λp=> ?_
  go_wp2_with fail;refine zR0 λp=> ?_
  exact yia):P:=h
theorem yax (h:P:=by
  clear aC wN
  cases nr
  ·have ho:=GR rfl
   clear GR GS;go_wp2_with (first
    |(go_at_call 88;(with_reducible refine(hN _).mono ?_);rintro e w8⟨rfl,bf⟩;have iY:Below wr.heap.size wr w8:=((zR _ _).alloc (yR _) _).trans (bf.mono vM))
    |(go_at_call 106;refine(a3o 41 _).mono ?_;rintro e w9⟨rfl,rfl⟩))
   go_roundw
   case rel=>exact bG ho iY
   case measure=>simp[intOf];omega
  ·have ho:=GS rfl
   clear GR GS;go_wp2_with (first
    |(go_at_call 88;(with_reducible refine(hN _).mono ?_);rintro e w8⟨rfl,bf⟩;have iY:Below wr.heap.size wr w8:=((zR _ _).alloc (yR _) _).trans (bf.mono vM))
    |(go_at_call 106;refine(a3e 41 _).mono ?_;rintro e w9⟨rfl,rfl⟩))
   exact⟨rfl,.inr ⟨d5n cX pq nY ho,rfl⟩,hb.trans ((eh.trans ((wO.trans (iY.mono wO.size)).mono eh.size)).mono hb.size)⟩):P:=h
theorem yay (h:P:=by
  clear hd;by_cases hq:q=0
  ·subst hq
   go_wp2_with (first
    |(go_at_call 133;(with_reducible refine(a7j _ _ W2).mono ?_);rintro e W3⟨⟨x1,y1,rfl,GH,Aa⟩,aV⟩)
    |(go_at_call 133;(with_reducible refine(a7j _ _ W3).mono ?_);rintro e W5⟨⟨x2,y2,rfl,GI,GJ⟩,aZ⟩)
    |(go_at_call 132;(with_reducible refine(c2z n₀ D sv xs _ W5 ((dW.up aV).up aZ).td _ _ ((dW.up aV).up aZ).s0 oM _ _ _ _ _ GH Aa GI GJ (by first|exact GK|exact Ab|exact GL)).mono ?_);rintro e W6⟨S6,v6,rfl,jy,Ac,jP⟩))
   have mn:=(((dW.up aV).up aZ).then_ Ac jP).tailT.add jy;go_roundw
   case rel=>exact⟨i+1,S6,n+1,oM,by go_num,oM,mn⟩
   case measure=>simp[intOf];omega
  ·have wJ:(q==0)=false:=by simpa using hq
   go_wp2_with fail;go_roundw
   case rel=>exact⟨i+1,S2,n,oM,by go_num,oM,dW⟩
   case measure=>simp[intOf];omega):P:=h
theorem yaz (h:P:=by
  first|(simp[intOf];done)|(simp[intOf];omega)):P:=h
theorem yba (h:P:=by
  cases ho;have f6:=a0a (v:= .int .i64 (n:Nat)) (hA.at_ (k:=6) zM);go_simp;exact hK (.int .i64 (n:Nat)) g W rfl (Ev.refl hM.b.tw) hM):P:=h
theorem ybb (h:P:=by
  cases ho;have f9:=a0a (v:= .pointer (some ⟨B9,0,none⟩)) (hA.at_ (k:=9) zM);have z0:W.cell? ⟨B9,0,none⟩=some (d9):=hM.p.cell 0;have z1:W.cell? ⟨B9,1,none⟩=some (k9):=hM.p.cell 1;have z2:W.cell? ⟨B9,2,none⟩=some (l9):=hM.p.cell 2;go_simp;exact hK (.agg #[d9,k9,l9]) W rfl (zR _ _) hM):P:=h
theorem ybc (h:P:=by
  go_upto_if 64 with(first
   |(go_at_call 73;(with_reducible refine(mn.call 4 oM oM).mono ?_);rintro e W7⟨q2,rfl,Br,wP,lJ⟩))
  by_cases pZ:q2=0
  ·subst pZ
   go_wp2_with (first
    |(go_at_call 133;(with_reducible refine(a7j 1 1 W7).mono ?_);rintro e W8⟨⟨x3,y3,rfl,NX,NY⟩,bf⟩)
    |(go_at_call 133;(with_reducible refine(a7j 3 0 W8).mono ?_);rintro e W9⟨⟨x4,y4,rfl,NZ,N2⟩,br⟩)
    |(go_at_call 132;(with_reducible refine(c2z n₀ D sv xs _ W9 ((lJ.up bf).up br).td _ _ ((lJ.up bf).up br).s0 oM _ _ _ _ _ NX NY NZ N2 (by first|exact GK|exact Ab|exact GL)).mono ?_);rintro e Ts⟨N3,v10,rfl,Bt,GU,GV⟩))
   go_ret;exact⟨N3,v10,rfl,⟨_,Bt,oM⟩,(((lJ.up bf).up br).then_ GU GV).fin wQ Ai⟩
  ·have N4:(q2==0)=false:=by simpa using pZ
   go_wp2_with fail;go_ret;exact⟨_,_,rfl,⟨_,lJ.s0,oM⟩,lJ.fin wQ Ai⟩):P:=h
theorem ybd (h:P:=by
  go_wp2_with fail;go_ret;exact⟨rfl,rfl⟩):P:=h
theorem ybe (h:P:=by
  go_simp;exact hK (.int .i64 (k:Nat)) W rfl (zR _ _) hM):P:=h
theorem ybf (h:P:=by
  go_simp;exact hK (.pointer (some ⟨b,off+k*7,none⟩)) W rfl (zR _ _) hM):P:=h
theorem ybg (h:P:=by
  replace dV:=Lib.hid dV;gi_wp2_with (first|(gi_at_lookup;refine wpListIn_lookup_own_ok_int _ qM _ _ 117 qM 122 3 .i64 spotLaw underlying117 underlying3 (b6j _) mb n D qM aj (a5b (x0,x1)) (klS (x0,x1)) qM (a1w hx) ?_;intro c bj pr;obtain rfl:c=o:=(by rw[eD.out]at bj;simpa using bj.symm);clear bj pr;go_frame)|(gi_at_call 67;refine(CallsIn.inRound l ((callsIn_wide (n:=3-1-1-1)).2 (b5c ⟨ax,ay,st,sw,sh,sg⟩ x0 x1 _ _ aw.out hs))).mono ?_;rintro e w'⟨rfl,al⟩;obtain⟨p,rfl⟩:=a0c al;clear al)|(gi_at_mapUpdate;refine wpListIn_mapUpdate_own _ qM _ _ _ 117 qM 122 3 spotLaw underlying117 _ mb n D qM (aj.kept (a0p W p) vM) oK _ _ (klS (x0,x1)) qM qM (a1w hx) _ [] (plainElem_int underlying3 (b2f sW)) ?_;intro w9 cM iA)|gi_in)
  exact Bu _ _ _ gM gM dV.out):P:=h
theorem ybh (h:P:=by
  go_wp2_with fail;go_meet;exact⟨_,_,_,_,_,_,_,_,_,hO,OddR.refl _ _ _ _⟩):P:=h
theorem ybi (h:P:=by
  go_wp2_with (first
   |(go_at_call 119;with_reducible refine(jQ _).mono ?_;rintro e w'⟨rfl,rfl⟩)
   |(refine a0k qM 9 _ _ qM signedB .i64 (sn:Nat) qM qM underlying9 (ln:Nat) oM oM (bj _) ?_)
   |(go_at_call 118;with_reducible refine(BW.two aN L ln iN oM).mono ?_;rintro e w9⟨rfl,cn⟩;have Af:=cn.ck;have Ag:=cn.fk))
  exact yah):P:=h
theorem ybj (h:P:=by
  replace h1:=Lib.hid h1;replace h2:=Lib.hid h2;replace h3:=Lib.hid h3;replace h4:=Lib.hid h4;replace h5:=Lib.hid h5;replace h6:=Lib.hid h6;go_enter func22,ntmps22;go_wp2_with (first|(go_at_call 59;refine(a3y (by first|with_reducible exact h1.out|with_reducible exact h2.out|with_reducible exact h3.out|with_reducible exact h4.out) _).mono ?_;rintro e w'⟨rfl,rfl⟩)|(go_at_call 60;refine(a8q (by first|with_reducible exact h5.out|with_reducible exact h6.out) _).mono ?_;rintro e w'⟨rfl,al⟩;obtain⟨p,rfl⟩:=a0c al;clear al)|(go_at_call 61;refine(d7t _ _ _ _ _ oM oM oM oM oM oM oM oM).mono ?_;rintro e w'⟨rfl,al⟩;obtain⟨p,rfl⟩:=a0c al;clear al));exact ybs):P:=h
theorem ybk (h:P:=by
  cases ho;have Aj:bb.tmps[68]? =some (.bool false):=a3l (v:= .bool false) (a0b hD 9 68 zM rfl rfl) (by rw[hA.size];exact Nat.le_of_ble_eq_true zM);have f7:=a0a (v:= .pointer (some ⟨n2+1,0,none⟩)) (hA.at_ (k:=7) zM);have z0:W.cell? ⟨n2+1,0,none⟩=some (.slice a1 m1 d1):=a0e hM Bv;have z1:W.cell? ⟨n2+1,1,none⟩=some (.slice a2 m2 d2):=a0e hM By;have z2:W.cell? ⟨n2+1,2,none⟩=some (.slice a3 m3 d3):=a0e hM Bz;have z3:W.cell? ⟨n2+1,3,none⟩=some (.slice a4 l2.length d4):=a0e hM BB;go_simp;exact hK (.agg #[.slice a1 m1 d1,.slice a2 m2 d2,.slice a3 m3 d3,.slice a4 l2.length d4]) W rfl (zR _ _) hM):P:=h
theorem ybl (h:P:=by
  rintro e W'⟨v,rfl,hp,h1,h2⟩;go_simp;exact hK v g W' hp h2 ⟨h1,hM.2.trans h2⟩):P:=h
theorem ybm (h:P:=by
  go_wp2_with fail;go_roundw
  case rel=>exact⟨i+1,_,oM,by go_num,rfl,mr,Go.below_growBy' bA ic _⟩
  case measure=>simp[intOf];omega):P:=h
theorem ybn (h:P:=by
  go_wp2_with fail;refine zR0 λp=> ?_
  go_wp2_with fail;go_roundw
  case rel=>exact⟨i+1,_,oM,by go_num,rfl,lT,Go.below_growBy' bA ic _⟩
  case measure=>simp[intOf];omega):P:=h
theorem ybo (h:P:=by
  go_simp;exact hK _ g W ⟨_,rfl,zF⟩ (Ev.refl hM.b.tw) hM):P:=h
theorem ybp (h:P:=by
  have Ah:(j:Int)<26:=oM;replace e1:=Lib.hid e1;clear hj hu k0 k9;go_wp2_with (first
   |(go_at_call 168;refine(a3m _).mono ?_;rintro e w'⟨rfl,rfl⟩))
  go_ret;rw[e1.out];exact⟨_,rfl,zC,b1y _ _⟩):P:=h
theorem ybq (h:P:=by
  cases ho;have f7:=a0a (v:= .int .i64 (k:Nat)) (hA.at_ (k:=7) zM);go_simp;exact hK (.int .i64 (k:Nat)) g W rfl (Ev.refl hM.b.tw) hM):P:=h
theorem ybr (h:P:=by
  obtain⟨p0,p1,-,-⟩:=pt2 lJ.b0;obtain⟨y0,y1,y2,y3,y4,y5,y6,y7⟩:=a6x lJ.b1;go_wp2_with (first
   |(at_builtin;refine a1a lJ.tw qM _ _ 147 qM underlying147 a1z qM lJ.s0 qM rfl (a6c Lm GW) rfl oM ?_;intro v9 S9 w9 aX cG;obtain⟨a9,c9,rfl,-⟩:=aX.form;have gJ:=(lJ.evo cG).tail;obtain⟨z0,z1,z2,z3,z4,z5,z6,z7⟩:=a6x gJ.b0;have zf:=gJ.b0.frozen 1))
  have rV:=((gJ.tailT.add aX).set 1 (.slice a9 (n+1) c9) (c':=c5u (41+m) (.slice a9 (n+1) c9) dG ⟨#[]⟩ ⟨#[]⟩ false 0 0) vM);go_roundw
  case rel=>exact⟨k+1,S9,_,n+1,oM,oM,by go_num,oM,rV⟩
  case measure=>simp[intOf];omega):P:=h
theorem ybs (h:P:=by
  go_ret;exact⟨rfl,zC⟩):P:=h
theorem ybt (h:P:=by
  go_wp2_with fail;have k2:Blk ((w.alloc (.cells #[.int .i64 id,.int .i64 x,.int .i64 y,.string cl,.string ⟨#[]⟩,.int .i64 wt,.int .i64 ds] 66)).alloc (.cells #[.int .i64 0,.int .i64 0,.string ⟨#[]⟩] 82)) (w.heap.size+1) #[.int .i64 0,.int .i64 0,.string ⟨#[]⟩] 82:=by have:=Blk.new (w.alloc (.cells #[.int .i64 id,.int .i64 x,.int .i64 y,.string cl,.string ⟨#[]⟩,.int .i64 wt,.int .i64 ds] 66)) #[.int .i64 0,.int .i64 0,.string ⟨#[]⟩] 82;rwa [World.size_alloc]at this
  exact bodyPost_ret (a1n qM _ _ _ 82 _ (0,0) _ qM k2 underlying82 qM zM) rfl ⟨⟨0,0,⟨#[]⟩⟩,rfl,(λx h=>nomatch h),zC⟩):P:=h
theorem ybu (h:P:=by
  go_wp2_with fail;go_ret;exact⟨a6l (by have h1:=HE.out;rw[HF.out]at h1;omega),by first|exact d7g aw az _|exact a3r (d7g aw az _) _⟩):P:=h
theorem ybv (h:P:=by
  clear k0 k8 k9;go_wp2_with (first
   |(go_at_call 167;with_reducible refine(a3d c false jQ.out _).mono ?_;rintro e w'⟨rfl,rfl⟩)
   |(go_at_call 169;with_reducible refine(dV _).mono ?_;rintro e w'⟨rfl,rfl⟩))
  go_ret;rw[e1.out];exact⟨_,rfl,zC,Blk.new _ _ _⟩):P:=h
theorem ybw (h:P:=by
  rw[hf]at aC;clear hf jq sX sY sZ kn;subst aC;simp only[rT,rF,a2d,g0,g1,g2,g3,g4,Nat.reduceAdd];clear g0 g1 g2 g3 g4;simp only[zU];have dX:=hM.2.sl dm;go_wp2_with (first
   |(go_at_call 126;refine(hM.1.add ev n dX oM pv q iZ oM l r fl fr).mono ?_;rintro e W9⟨S9,v9,rfl,⟨m9,aX,Fh⟩,wR,cG⟩))
  go_roundw
  case rel=>exact⟨ci+1,m9,S9,oM,by go_num,oM,aX,wR⟩
  case measure=>simp[intOf];omega):P:=h
theorem ybx (h:P:=by
  have k2:Blk (((w.alloc (.cells #[.int .i64 id,.int .i64 x,.int .i64 y,.string cl,.string nm,.int .i64 wt,.int .i64 ds] 66)).alloc (.cells #[.int .i64 id,.int .i64 id,.string c] 82)).growBy p) (w.heap.size+1) #[.int .i64 id,.int .i64 id,.string c] 82:=by have:=(Blk.new (w.alloc (.cells #[.int .i64 id,.int .i64 x,.int .i64 y,.string cl,.string nm,.int .i64 wt,.int .i64 ds] 66)) #[.int .i64 id,.int .i64 id,.string c] 82).grow p;rwa [World.size_alloc]at this
  exact bodyPost_ret (a1n qM _ _ _ 82 _ (0,0) _ qM k2 underlying82 qM zM) rfl ⟨⟨id,id,c⟩,rfl,(λx h=>by cases h;rfl),zC⟩):P:=h
theorem yby (h:P:=by
  cases ho;have f13:=a0a (v:= .pointer (some ⟨E,0,none⟩)) (hA.at_ (k:=13) zM);go_simp;exact hK (.pointer (some ⟨E,0,none⟩)) g W rfl (Ev.refl hM.1.te.tw) hM):P:=h
theorem ybz (h:P:=by
  have k2:Blk (((w.alloc (.cells #[.int .i64 id,.int .i64 x,.int .i64 y,.string cl,.string nm,.int .i64 wt,.int .i64 ds] 66)).alloc (.cells #[.int .i64 id,.int .i64 id,.string c] 82)).growBy p) (w.heap.size+1) #[.int .i64 id,.int .i64 id,.string c] 82:=by have:=(Blk.new (w.alloc (.cells #[.int .i64 id,.int .i64 x,.int .i64 y,.string cl,.string nm,.int .i64 wt,.int .i64 ds] 66)) #[.int .i64 id,.int .i64 id,.string c] 82).grow p;rwa [World.size_alloc]at this
  exact bodyPost_ret (a1n qM _ _ _ 82 _ (0,0) _ qM k2 underlying82 qM zM) rfl ⟨⟨id,id,c⟩,rfl,(λx h=>nomatch h),zC⟩):P:=h
theorem yca (h:P:=by
  refine this.mono ?_;rintro e w'⟨rfl,hb⟩;refine⟨?_,hb⟩;by_cases he:l1.length=l2.length
  ·have h0:=hc.resolve_left (by simpa using he)
   obtain rfl:=List.eq_nil_of_length_eq_zero h0;obtain rfl:=List.eq_nil_of_length_eq_zero (he▸h0);rfl
  ·rw[c3r he,decide_eq_false he]):P:=h
theorem ycb (h:P:=by
  cases ho;have f7:=a0a (v:= .slice (some ⟨b,off,none⟩) ps.length c8) (hA.at_ (k:=7) zM);exact ylb):P:=h
theorem ycc (h:P:=by
  cases ho;have f6:=a0a (v:= .pointer (some ⟨n2,0,none⟩)) (hA.at_ (k:=6) zM);have z0:W.cell? ⟨n2,0,none⟩=some (.slice ea ne ec):=a0e hM BC;have z1:W.cell? ⟨n2,1,none⟩=some (.slice fa nf fc):=a0e hM BD;have z2:W.cell? ⟨n2,2,none⟩=some (.slice wa nw wc):=a0e hM BF;have z3:W.cell? ⟨n2,3,none⟩=some (.slice pa l.length pc):=a0e hM BG;go_simp;exact hK (.agg #[.slice ea ne ec,.slice fa nf fc,.slice wa nw wc,.slice pa l.length pc]) W rfl (zR _ _) hM):P:=h
theorem ycd (h:P:=by
  cases ho;have f8:=a0a (v:= .slice (some ⟨b,off,none⟩) ps.length c8) (hA.at_ (k:=8) zM);exact ylb):P:=h
theorem yce (h:P:=by
  go_simp;exact hK _ W ⟨_,rfl,zF⟩ (zR _ _) hM):P:=h
theorem ycf (h:P:=by
  cases ho;have Fi:bb.tmps[79]? =some (.bool false):=a3l (v:= .bool false) (a0b hD 20 79 zM rfl rfl) (by rw[hA.size];exact Nat.le_of_ble_eq_true zM);have f9:=a0a (v:= .pointer (some ⟨B9,0,none⟩)) (hA.at_ (k:=9) zM);have z0:W.cell? ⟨B9,0,none⟩=some (d9):=a0e hM dL;have z1:W.cell? ⟨B9,1,none⟩=some (k9):=a0e hM e8;have z2:W.cell? ⟨B9,2,none⟩=some (l9):=a0e hM ff;go_simp;exact hK (.agg #[d9,k9,l9]) W rfl (zR _ _) hM):P:=h
theorem ycg (h:P:=by
  cases ho;have f8:=a0a (v:= .int .i64 (1+(N:Nat))) (hA.at_ (k:=8) zM);go_simp;exact hK (.int .i64 (1+(N:Nat))) g W rfl (Ev.refl hM.1.te.tw) hM):P:=h
theorem ych (h:P:=by
  cases ho;have f18:=a0a (v:= .int .i64 (ci:Nat)) (hA.at_ (k:=18) zM);go_simp;exact hK (.int .i64 (ci:Nat)) g W rfl (Ev.refl hM.1.te.tw) hM):P:=h
theorem yci (h:P:=by
  obtain⟨cur,hc⟩:=jD r e;exact⟨_,hc,λN5 e2=>by simp only[Obj.cells.injEq]at e2;exact absurd e2.2.1 jM⟩):P:=h
theorem ycj (h:P:=by
  cases ho;have f17:=a0a (v:= .int .i64 (j:Nat)) (hA.at_ (k:=17) zM);go_simp;exact hK (.int .i64 (j:Nat)) g W rfl (Ev.refl hM.1.te.tw) hM):P:=h
theorem yck (h:P:=by
  cases ho;have f0:=a0a (v:= .slice (some ⟨b,off,none⟩) m cap) (hA.at_ (k:=0) zM);go_simp;exact hK (.slice (some ⟨b,off,none⟩) m cap) W rfl (zR _ _) hM):P:=h
theorem ycl (h:P:=by
  cases ho;have f16:=a0a (v:= .int .i64 (ci:Nat)) (hA.at_ (k:=16) zM);go_simp;exact hK (.int .i64 (ci:Nat)) g W rfl (Ev.refl hM.1.te.tw) hM):P:=h
theorem ycm (h:P:=by
  cases ho;have f9:=a0a (v:= .int .i64 (H:Nat)) (hA.at_ (k:=9) zM);go_simp;exact hK (.int .i64 (H:Nat)) g W rfl (Ev.refl hM.1.te.tw) hM):P:=h
theorem ycn (h:P:=by
  cases ho;have f15:=a0a (v:= .int .i64 (j:Nat)) (hA.at_ (k:=15) zM);go_simp;exact hK (.int .i64 (j:Nat)) g W rfl (Ev.refl hM.1.te.tw) hM):P:=h
theorem yco (h:P:=by
  cases ho;have f13:=a0a (v:= .pointer (some ⟨Q,0,none⟩)) (hA.at_ (k:=13) zM);have z0:W.cell? ⟨Q,0,none⟩=some (.int .i64 bx):=hM.q.cell 0;have z1:W.cell? ⟨Q,1,none⟩=some (.int .i64 by_):=hM.q.cell 1;have z2:W.cell? ⟨Q,2,none⟩=some (.int .i64 bd):=hM.q.cell 2;exact ykp):P:=h
theorem ycp (h:P:=by
  cases ho;have f12:=a0a (v:= .pointer (some ⟨P,0,none⟩)) (hA.at_ (k:=12) zM);have z0:W.cell? ⟨P,0,none⟩=some (.int .i64 ax):=hM.p.cell 0;have z1:W.cell? ⟨P,1,none⟩=some (.int .i64 ay):=hM.p.cell 1;have z2:W.cell? ⟨P,2,none⟩=some (.int .i64 ad):=hM.p.cell 2;exact yku):P:=h
theorem ycq (h:P:=by
  cases ho;have f5:=a0a (v:= .pointer (some ⟨BM,0,none⟩)) (hA.at_ (k:=5) zM);have z0:W.cell? ⟨BM,0,none⟩=some (.slice ea ne ec):=hM.b.cell 0;have z1:W.cell? ⟨BM,1,none⟩=some (.slice fa nf fc):=hM.b.cell 1;have z2:W.cell? ⟨BM,2,none⟩=some (.slice wa nw wc):=hM.b.cell 2;have z3:W.cell? ⟨BM,3,none⟩=some (.slice pa pn pc):=hM.b.cell 3;go_simp;exact hK (.agg #[.slice ea ne ec,.slice fa nf fc,.slice wa nw wc,.slice pa pn pc]) W rfl (zR _ _) hM):P:=h
theorem ycr (h:P:=by
  intro W x hb;have N6:sb<w.heap.size:=World.block_lt_of_cell? _ _ hs;have N7:kb<w.heap.size:=World.block_lt_of_cell? _ _ hk;refine(c2k x s k sb kb W iB hl ?_ ?_).mono ?_
  ·rw[hb.cell (p:=⟨sb,0,none⟩) (by rw[World.size_alloc];simp only;omega),World.cell?_alloc_lt w _ _ N6];exact hs
  ·rw[hb.cell (p:=⟨kb,0,none⟩) (by rw[World.size_alloc];simp only;omega),World.cell?_alloc_lt w _ _ N7];exact hk
  ·rintro e w'⟨rfl,rfl⟩
   exact⟨rfl,0,rfl⟩):P:=h
theorem ycs (h:P:=by
  intro l pre x W K hx hK;obtain⟨p,xv⟩:=x;obtain⟨xa,xn,xc,rfl⟩:∃a n c,xv= .slice a n c:=by
   rcases hx.2.2 with h|⟨b,o,c,h⟩
   ·exact⟨_,_,_,h⟩
   ·exact⟨_,_,_,h⟩
  gi_wp2;first|done|exact hK _ (by first|rfl|simp)):P:=h
theorem yct (h:P:=by
  cases ho;have f10:=a0a (v:= .int .i64 (k:Nat)) (hA.at_ (k:=10) zM);exact ybe):P:=h
theorem ycu (h:P:=by
  go_simp;exact hK (.pointer (some ⟨b,off+k*4,none⟩)) W rfl (zR _ _) hM):P:=h
theorem ycv (h:P:=by
  obtain rfl:r=false:=by cases r with|false=>rfl|true=>have:=hr.1 rfl;omega
  clear hr;go_enter func93,ntmps93;exact yeo):P:=h
theorem ycw (h:P:=by
  clear aK;go_enter func41,ntmps41;go_wp2_with (first|(go_at_call 95;refine(d7m cN.out _).mono ?_;rintro e w'⟨rfl,al⟩;obtain⟨p,rfl⟩:=a0c al;clear al)|fail);go_ret2;exact⟨rfl,zC⟩):P:=h
theorem ycx (h:P:=by
  cases ho;have f5:=a0a (v:=sv) (hA.at_ (k:=5) zM);go_simp;exact hK (sv) g W rfl (Ev.refl hM.1.te.tw) hM):P:=h
theorem ycy (h:P:=by
  go_wp2_with (first
   |(refine a0k qM 9 _ _ qM lettersB .u8 ((c:Int)-97) qM qM underlying9 (ln:Nat) oM oM (bj _) ?_)
   |(go_at_call 118;with_reducible refine(BW.two aN L ln iN oM).mono ?_;rintro e w9⟨rfl,cn⟩;have Af:=cn.ck;have Ag:=cn.fk)
   |(go_at_call 119;with_reducible refine(jQ _).mono ?_;rintro e w'⟨rfl,rfl⟩))
  exact yah):P:=h
theorem ycz (h:P:=by
  subst dz;go_wp2_with fail;go_meet;exact same):P:=h
theorem yda (h:P:=by
  go_simp;refine(fR W hM).mono ?_;rintro e W'⟨u,rfl,⟨h1,h2,h3⟩,hb⟩;go_simp;exact hK (.tuple #[u,.bool on]) W' ⟨u,rfl,h1,h2,h3⟩ hb (hM.trans (hb.mono hM.size))):P:=h
theorem ydb (h:P:=by
  rw[decide_eq_true heq]at gi;have Ak:=Lib.hid (aF.out heq);clear heq aF aK;go_wp2_with fail;refine zR0 λp=> ?_
  go_wp2_with fail;go_roundw
  case rel=>exact⟨k+1,oM,by go_num,Go.below_growBy' gK uU _,k2.below (Go.below_growBy wr p) k2.lt,k3.below (Go.below_growBy wr p) k3.lt,Ak⟩
  case measure=>simp[intOf];omega):P:=h
theorem ydc (h:P:=by
  gi_wp2;refine hR.mono ?_;rintro e W4 (⟨rfl,Fj,e5,e6⟩|⟨rfl,hJx⟩)
  ·gi_wp2
   go_roundw
   case rel=>exact⟨k+1,oM,by go_num,by rw[b8x];exact Fj,e5.trans BH,e6.trans BI⟩
   case measure=>simp[intOf];omega
  ·gi_wp2
   refine bodyPost_ret (results_none rfl _ _ _) rfl ?_;exact⟨⟨_,rfl⟩,.inr ⟨_,trivial,hJx⟩⟩):P:=h
theorem ydd (h:P:=by
  clear aK au dM jE dN mu s9 h;gi_wp2_with (first
   |(gi_at_mapUpdate;refine MapK.wpIn_store e2d qM _ _ _ 169 qM underlying169 qM dn.mp oK dY.id qM (y:=true) qM (plainElem_bool underlying4 true) ?_;intro w7 tf nZ
     obtain⟨i6,lU⟩:=dn.set tf nZ))
  exact⟨ng.trans lU,m+1,_,_,BJ,by simp;omega,jF.put id,i6⟩):P:=h
theorem yde (h:P:=by
  go_wp2_with fail;refine zR0 λp=> ?_
  go_wp2_with fail;go_meet;exact⟨by rw[au];go_num,bA.trans (below_growBy _ _ |>.mono bA.size)⟩):P:=h
theorem ydf (h:P:=by
  rintro s A A' row⟨hi,hl,hd⟩ BN hr;have av:∀k,k<D+2->some k≠row:=λk hk e=>by have:=(hr k e.symm).1;omega
  exact⟨hI s A A' row hi BN (λr e=>⟨by have:=(hr r e).1;omega,(hr r e).2⟩),(BN.block _ (Array.getElem?_eq_some_iff.1 hl).1 (av _ oM)).trans hl,(BN.block _ (Array.getElem?_eq_some_iff.1 hd).1 (av _ oM)).trans hd⟩):P:=h
theorem ydg (h:P:=by
  go_simp;refine(hM.1.cell x0 x1 x2 x3 x4 x5 _ _ _ _ q0 q1 q2 q3 q4 q5 oM oM).mono ?_;exact ybl):P:=h
theorem ydh (h:P:=by
  cases ho;go_simp;exact hK (.slice (some ⟨W.heap.size,0,none⟩) 0 0) _ ⟨_,rfl,hM.bel.size,Blk.new _ _ _⟩ ((zR _ _).alloc (yR _) _) (hM.up ((zR _ _).alloc (yR _) _))):P:=h
theorem ydi (h:P:=by
  cases a with
  |none =>
   obtain rfl:=GA rfl;obtain rfl:olds=[]:=List.eq_nil_of_length_eq_zero (by simpa using rS);exact run_firstCells_none W.drew _ _ _ _
  |some ad=>exact run_firstCells_some W.drew i.size n ad n cap olds (by rw[bu];exact rS) (λj u hj=>by obtain⟨N8,h,hc⟩:=Fa j u hj;cases h;simpa using hc)):P:=h
theorem ydj (h:P:=by
  go_wp2_with fail;go_roundw
  case rel=>exact⟨k+1,oM,by go_num,aL,iP⟩
  case measure=>simp[intOf];omega):P:=h
theorem ydk (h:P:=by
  obtain⟨j,hj⟩:=zE (c-97);rw[hj]at e1;have hw:IntKind.u8.wrap ((c:Int)-97)=(j:Int):=by simp[IntKind.wrap,IntKind.bits,IntKind.signed];omega
  have hx:=b5w (j:=j) oM;obtain⟨u,hu⟩:=zE (lettersB[j]!);rw[hu]at hx e1;have k1:(97:Int)<=c:=oM;have k2:(c:Int)<=122:=oM;have k3:(c:Int)<=106:=oM;exact ybp):P:=h
theorem ydl (h:P:=by
  cases ho;have f41:bb.tmps[41]?.getD undef= .int .i64 x:=a0a (v:= .int .i64 x) (a0f hD 1 41 zM rfl rfl);have hE:=Ev.alloc (X:=noB) hM.ok (e0i (S:=g) (W:=W) fx);go_simp;exact hK (.slice (some ⟨W.heap.size,0,none⟩) 1 1) _ _ (SL.blk (.inr rfl) (Blk.new _ _ _) (by show 1*1<=1;omega)) hE (hM.trans hE)):P:=h
theorem ydm (h:P:=by
  simp[IntKind.wrap,IntKind.bits,IntKind.signed];omega):P:=h
theorem ydn (h:P:=by
  go_wp2_with fail;refine zR2 λp=> ?_
  go_wp2_with fail;go_roundw
  case rel=>exact⟨i+1,dj,by go_num,oM,oM,HJ.out.below (below_growBy _ _),out.out (.inr (by show decide _=false;rw[HX.out.1,show jp+1-1=jp from rfl,HX.out.2,HC.out];exact decide_eq_false oM))⟩
  case measure=>exact yaz):P:=h
theorem ydo (h:P:=by
  refine⟨?_,?measure⟩
  ·(repeat apply Exists.intro)
   refine⟨hrel,?_⟩;repeat' (first|exact rfl|apply And.intro)
  case measure=>simp[intOf];omega):P:=h
theorem ydp (h:P:=by
  obtain rfl:r=false:=fJ.out hv.out;clear fK fJ hv;go_wp2_with fail;go_ret;exact⟨rfl,BV⟩):P:=h
theorem ydq (h:P:=by
  go_wp2_with fail;go_ret;exact⟨rfl,(zR _ _).alloc (yR _) _⟩):P:=h
theorem ydr (h:P:=by
  go_wp2_with fail;go_roundw
  case rel=>exact⟨t+1,oM,by go_num,by rw[iC.out,aq.out];exact hI.out⟩
  case measure=>simp[intOf];omega):P:=h
theorem yds (h:P:=by
  go_wp2_with fail;go_meet;exact cI.up (Go.below_growBy _ _)):P:=h
theorem ydt (h:P:=by
  cases ho;have f15:=a0a (v:= .pointer (some ⟨gy,0,none⟩)) (hA.at_ (k:=15) zM);have z0:W.cell? ⟨gy,0,none⟩=some (.int .i64 cx):=hM.b0.cell 0;have z1:W.cell? ⟨gy,1,none⟩=some (.int .i64 90):=hM.b0.cell 1;go_simp;exact hK (.agg #[.int .i64 cx,.int .i64 90]) g W rfl (Ev.refl hM.tw) hM):P:=h
theorem ydu (h:P:=by
  have e1:=World.grownBy_alloc w (.deferred (some [])) none;have e2:=World.grownBy_alloc (w.alloc (.deferred (some []))) (.loop (R .ready none)) none;exact⟨e2.os.trans e1.os,e2.tape.trans e1.tape,e2.output.trans e1.output,Nat.le_trans e1.size e2.size,λk hk hn=>(e2.block k uM hn).trans (e1.block k hk hn)⟩):P:=h
theorem ydv (h:P:=by
  go_enter func33,ntmps33;go_wp2_with (go_at_call 22;refine(hC _).mono ?_;rintro e w'⟨rfl,al⟩;obtain⟨p,rfl⟩:=a0c al;clear al);exact ybs):P:=h
theorem ydw (h:P:=by
  go_enter func38,ntmps38;go_wp2_with (go_at_call 89;refine(hC _).mono ?_;rintro e w'⟨rfl,al⟩;obtain⟨p,rfl⟩:=a0c al;clear al);exact ybs):P:=h
theorem ydx (h:P:=by
  go_wp2_with fail;go_meet;exact⟨by simp[g1,g2],rfl⟩):P:=h
theorem ydy (h:P:=by
  have z0:W.cell? ⟨BQ,0,none⟩=some (.int .i64 zz0):=hM.q.cell 0;have z1:W.cell? ⟨BQ,1,none⟩=some (.int .i64 zz1):=hM.q.cell 1;have z2:W.cell? ⟨BQ,2,none⟩=some (.int .i64 zz2):=hM.q.cell 2;go_simp;exact hK (.agg #[.int .i64 zz0,.int .i64 zz1,.int .i64 zz2]) W rfl (zR _ _) hM):P:=h
theorem ydz (h:P:=by
  cases ho;have f40:bb.eval (.tmp 40)=v6:=a0f hD 0 40 zM rfl rfl;have f42:SL g W 3 (bb.eval (.tmp 42)) 1:=a0f hD 2 42 zM rfl rfl;exact b4v hM.ok rfl _ _ 51 rfl underlying51 a7x f40 (hM.sl jy) rfl f42 oM (λv' S' w' h1 h2=>hK v' S' w' h1 h2 (hM.trans h2))):P:=h
theorem yea (h:P:=by
  cases xa with
  |none =>
   obtain rfl:=nX rfl;obtain rfl:news=[]:=List.eq_nil_of_length_eq_zero (by simpa using iO);exact Src.ofNil W ht xc
  |some ad=>exact Src.ofSlice W ht ad m xc news (by rw[bu];exact iO) (λj u hj=>by obtain⟨N8,h,hc⟩:=nW j u hj;cases h;exact hc) eP):P:=h
theorem yeb (h:P:=by
  go_wp2_with (first
   |(refine a3a qM _ _ _ qM B9 (a4h _ _ _ _ _ _ _) qM qM _ _ k9 qM qM (by simp[a4h,Value.oneCell']) ?_;intro WS kS N9))
  go_roundw
  case rel=>exact⟨i+1,true,oM,by go_num,rfl,hq.best2 kS N9 g1 g2⟩
  case measure=>simp[intOf];omega):P:=h
theorem yec (h:P:=by
  have bG:=Lib.hid (aq.out (by rw[pt.out];exact kq.symm));clear kq aq aF;go_wp2_with fail;go_quiet (fail)
  go_wp2_with fail;go_roundw
  case rel=>exact⟨n+1,oM,by go_num,wS.out,a3r hb _,bG⟩
  case measure=>simp[intOf];omega):P:=h
theorem yed (h:P:=by
  have h3:=Al.out;unfold Go.Proofs.YtfocdbjceedagaaGreatDoor.swapG at h3;rw[HX.out.1,HX.out.2,c5a]at h3;exact Lib.hid h3.drew):P:=h
theorem yee (h:P:=by
  have hE:=Ev.setCells (X:=X) hb news (o*s+n*i.size) W c hT hc (λj u ct h1 h2=>wL j u ct h1 (by
   rw[jo,bu,<-Nat.add_mul,Nat.mul_comm,Nat.mul_add_mod]at h2;exact h2))
  exact hE.sl ⟨_,cap,rfl,jm,.inr ⟨b,o,c,by rw[jo],hb,hc,by rw[jo,Nat.add_mul];omega⟩⟩):P:=h
theorem yef (h:P:=by
  go_simp;exact hK (.slice (some ⟨W.heap.size,0,none⟩) 1 1) _ ⟨_,rfl,Blk.new _ _ _⟩ ((zR _ _).alloc (yR _) _) (hM.alloc hM.size _)):P:=h
theorem yeg (h:P:=by
  have z0:W.cell? ⟨b,off+k*7,none⟩=some (.int .i64 id):=a0e hM dL;exact ykf):P:=h
theorem yeh (h:P:=by
  go_wp2_with (first
   |(go_at_call 131;refine(d0l _ _ GX.te.tw _ nF uV oM).mono ?_;rintro e WF⟨SF,vF,rfl,⟨nf,wT,og⟩,Lp⟩))
  go_ret2;exact⟨SF,_,_,rfl,⟨nF,nf,Lp.sl uV,oM,wT,og⟩,GX.m7.bel.trans Lp⟩):P:=h
theorem yei (h:P:=by
  refine⟨_,_,rfl,aY,.inr ⟨W.heap.size,0,_,by rw[Nat.zero_mul],.inr rfl,Blk.new W.drew _ _,?_⟩⟩;rw[jo,Nat.zero_add];simp only[Array.size_append,List.size_toArray,List.length_append,rS,iO,size_zeroCells,kj,<-Nat.add_mul];exact Nat.mul_le_mul_right s oM):P:=h
theorem yej (h:P:=by
  exact((show Below n0 W W from zR _ _).grown hg h.hz λr e=>(jr r e).1).grown cf (Nat.le_trans h.hz hg.size) λr e=>by cases e;exact h.bp):P:=h
theorem yek (h:P:=by
  intro j hj;refine(a3h (heap_alloc_last w _) (0+j)).trans ?_;match j,hj with
  |0,_=>rfl
  |1,_=>rfl
  |2,_=>rfl
  |3,_=>rfl
  |4,_=>rfl
  |5,_=>rfl
  |6,_=>rfl
  |7,_=>rfl
  |8,_=>rfl
  |9,_=>rfl
  |10,_=>rfl
  |j+11,h=>exact absurd h (by simp[wordsL])):P:=h
theorem yel (h:P:=by
  split at h
  all_goals first|exact h|(obtain⟨L,h1,h2⟩:=h;exact⟨L,h1,h2.below hg h2.lt⟩)):P:=h
theorem yem (h:P:=by
  rintro e W'⟨v,Tt,rfl,h1,h2,h3⟩;go_simp;exact hK v W' (d7o h1 h2) h3 (hM.up h3)):P:=h
theorem yen (h:P:=by
  cases ho;have f9:=a0a (v:= .int .i64 (k:Nat)) (hA.at_ (k:=9) zM);exact ybe):P:=h
theorem yeo (h:P:=by
  go_wp2_with fail;exact ybs):P:=h
theorem yep (h:P:=by
  cases ho;have f4:=a0a (v:= .int .i64 (k:Nat)) (hA.at_ (k:=4) zM);exact ybe):P:=h
theorem yeq (h:P:=by
  go_wp2_with fail;go_ret;exact⟨by simp,zC⟩):P:=h
theorem yer (h:P:=by
  go_enter func129,ntmps129;go_wp2_with fail;go_ret;exact⟨⟨0,rfl,zF⟩,zC⟩):P:=h
theorem yes (h:P:=by
  go_wp2_with fail;refine zR0 λp=> ?_
  go_wp2_with fail;go_roundw
  case rel=>exact⟨i,by go_num,oM,Lib.hid fD,bA.trans (below_growBy _ _ |>.mono bA.size)⟩
  case measure=>exact yaz):P:=h
theorem yet (h:P:=by
  split at this
  ·obtain⟨e',uW,h⟩:=List.mem_map.1 this
   rw[<-h];exact h2 e' uW
  ·rcases List.mem_append.1 this with h|h
   ·obtain⟨e',uW,h⟩:=List.mem_map.1 h
    rw[<-h];exact h2 e' uW
   ·rw[show e.1=p by simpa using h];exact hp):P:=h
theorem yeu (h:P:=by
  rcases hf with rfl|⟨b,off,cap,rfl⟩
  ·exact Src.ofNil W hI.under 0
  ·exact Src.ofSlice W hI.under _ 0 cap [] vM vM vM):P:=h
theorem yev (h:P:=by
  rcases hv.2 with⟨e,-⟩|⟨g',aI,cur,e,-,-,h1,-⟩
  ·cases e
  ·simp only[Value.slice.injEq,true_and]at e
   omega):P:=h
theorem yew (h:P:=by
  rintro D ch W BZ⟨rfl,Ca,gR⟩ hK;have fg:=grownBy_putObj' W D (.deferred none);refine⟨by simp,.inl ⟨_,_,rfl,run_takeDeferred hK,?_⟩⟩;exact⟨.inr ⟨Ca,rfl⟩,gR.grown fg gR.size λr e=>by cases e;have:=fI.size;omega⟩):P:=h
theorem yex (h:P:=by
  have h0:=World.grownBy_alloc w (.cells (E.enc x).toArray E.t) none;refine⟨hg.os.trans h0.os,hg.tape.trans h0.tape,hg.output.trans h0.output,Nat.le_trans h0.size hg.size,λk hk av=> ?_⟩;exact(hg.block k uM av).trans (h0.block k hk vM)):P:=h
theorem yey (h:P:=by
  rw[decide_eq_false heq]at gi;obtain rfl:r=false:=aK.out heq;clear heq aF aK hr;go_wp2_with fail;refine zR0 λp=> ?_
  go_wp2_with fail;go_ret;exact⟨rfl,Go.below_growBy' gK uU _⟩):P:=h
theorem yez (h:P:=by
  cases ho;go_simp;refine(a3m W).mono ?_;rintro e W'⟨rfl,rfl⟩;go_simp;exact hK (.slice (some ⟨W.heap.size,0,none⟩) 26 26) _ ⟨_,rfl,Blk.new _ _ _⟩ ((zR _ _).alloc (yR _) _) (hM.alloc hM.size _)):P:=h
theorem yfa (h:P:=by
  clear aj h3;go_wp2_with fail;refine e2f λp=> ?_
  go_wp2_with fail;go_roundw
  case rel=>exact⟨k+1,oM,by go_num,Go.below_growBy' aL mv _,iP⟩
  case measure=>simp[intOf];omega):P:=h
theorem yfb (h:P:=by
  go_simp;exact hK (.bool false) W rfl (zR _ _) hM):P:=h
theorem yfc (h:P:=by
  go_simp;exact hK u W ⟨u,rfl,h2⟩ (zR _ _) hM):P:=h
theorem yfd (h:P:=by
  cases ho;have f0:=a0a (v:= .slice (some ⟨b,off,none⟩) n cap) (hA.at_ (k:=0) zM);go_simp;exact hK (.slice (some ⟨b,off,none⟩) n cap) W rfl (zR _ _) hM):P:=h
theorem yfe (h:P:=by
  match i,h1,h2 with
  |0,h1,h2=>cases h1;cases h2;exact CT.ok_int hi
  |1,h1,h2=>cases h1;cases h2;exact CT.ok_sl hv hn
  |2,h1,h2=>cases h1;cases h2;exact CT.ok_int hl
  |3,h1,h2=>cases h1;cases h2;exact CT.ok_int hr
  |i+4,h1,_=>simp at h1):P:=h
theorem yff (h:P:=by
  go_simp;refine(hM.1.wiggle ax ay bx by_ fa fb fc fd).mono ?_;rintro e W'⟨S',v,rfl,hp,h1,h2⟩;go_simp;exact hK v S' W' hp h2 ⟨h1,hM.2.trans h2⟩):P:=h
theorem yfg (h:P:=by
  obtain⟨a,c,h,-⟩:=(a0d a9w aU uM).form;exact⟨_,_,_,h⟩):P:=h
theorem yfh (h:P:=by
  rintro e w'⟨rfl,q,rfl⟩;rw[List.take_length,List.take_length,c0g];exact⟨rfl,below_drewN (zR _ _) q⟩):P:=h
theorem yfi (h:P:=by
  clear bP aM;go_wp2_with fail;refine zR0 λp=> ?_
  go_wp2_with fail;go_roundw
  case rel=>exact⟨k+1,by go_num,pw.out,Cb _⟩
  case measure=>simp[intOf];omega):P:=h
theorem yfj (h:P:=by
  have z0:W.cell? ⟨Bp,0,none⟩=some (.slice (some ⟨dg,dO,none⟩) pl.dots.length dc):=a0e hM mw;go_simp;exact hK (.slice (some ⟨dg,dO,none⟩) pl.dots.length dc) W rfl (zR _ _) hM):P:=h
theorem yfk (h:P:=by
  exact(h.bel.grown hg h.hz λr e=>(jr r e).1).grown cf (Nat.le_trans h.hz hg.size) λr e=>by cases e;exact h.bp):P:=h
theorem yfl (h:P:=by
  unfold Cell.okWide at h;rw[ht]at h
  cases v <;> simp[Cell.ok,ht]at h
  rename_i k n;obtain⟨rfl,h2⟩:=h;refine⟨n,rfl,?_⟩;simp[IntKind.has,IntKind.min,IntKind.max,IntKind.signed,IntKind.bits]at h2;exact⟨oM,oM⟩):P:=h
theorem yfm (h:P:=by
  exact⟨by simp[wordsL],jM⟩):P:=h
theorem yfn (h:P:=by
  unfold Oper.wp execOp;simp only[ho,resolve,invoke,builtin,Sem.run_bind,Sem.run_pure,Result.andThen_ok,List.map_toArray,List.map_cons,List.map_nil,bH,dH,hr];exact h v' S' w' ((h0.evo h3 h4).add h2) h5 h3):P:=h
theorem yfo (h:P:=by
  unfold Oper.wp execOp;simp only[ho,resolve,invoke,builtin,Sem.run_bind,Sem.run_pure,Result.andThen_ok,List.map_toArray,List.map_cons,List.map_nil,bH,dH,hr];exact h v' S' w' ((h0.evo h3 h4).add h2) h5):P:=h
theorem yfp (h:P:=by
  clear kr;go_wp2_with (first|(refine a0k qM 9 _ _ qM s .i64 (n:Nat) qM qM underlying9 c oM oM (by rw[<-hc];rfl) ?_)|fail);go_ret;exact⟨by rw[aK.out];rfl,zC⟩):P:=h
theorem yfq (h:P:=by
  cases ho;have f3:=a0a (v:= .slice oa O.length oc) (hA.at_ (k:=3) zM);go_simp;exact hK (.slice oa O.length oc) g W rfl (⟨yR _,λ_=>zR _ _,zR _ _⟩) hM (au _ jM).symm):P:=h
theorem yfr (h:P:=by
  cases ho;go_simp;exact hK (.pointer (some ⟨W.heap.size,0,none⟩)) _ ⟨_,rfl,hM.bel.size,Blk.new _ _ _⟩ ((zR _ _).alloc (yR _) _) (hM.up ((zR _ _).alloc (yR _) _))):P:=h
theorem yfs (h:P:=by
  cases ho;have f7:=a0a (v:= .pointer (some ⟨Bp,0,none⟩)) (hA.at_ (k:=7) zM);go_simp;exact hK (.pointer (some ⟨Bp,0,none⟩)) W rfl (zR _ _) hM):P:=h
theorem yft (h:P:=by
  first|exact⟨hF gj,jB.bel⟩|exact jB.bel):P:=h
theorem yfu (h:P:=by
  cases ho;have f7:=a0a (v:= .pointer (some ⟨Bp,0,none⟩)) (hA.at_ (k:=7) zM);go_simp;exact hK (.pointer (some ⟨Bp,2,none⟩)) W rfl (zR _ _) hM):P:=h
theorem yfv (h:P:=by
  cases ho;have f6:=a0a (v:= .int .i64 (n:Nat)) (hA.at_ (k:=6) zM);go_simp;exact hK (.int .i64 (n:Nat)) g W rfl (⟨yR _,λ_=>zR _ _,zR _ _⟩) hM (au _ jM).symm):P:=h
theorem yfw (h:P:=by
  have z0:W.cell? ⟨BO,1,none⟩=some (.slice (some ⟨fb,fo,none⟩) nf js):=hM.b.b0.cell 1;go_simp;exact hK (.slice (some ⟨fb,fo,none⟩) nf js) g W rfl (Ev.refl hM.b.tw) hM):P:=h
theorem yfx (h:P:=by
  rw[List.any_eq_true];constructor
  ·rintro⟨e,he,h⟩
   exact List.mem_map.2 ⟨e,he,by simpa using h⟩
  ·intro h
   obtain⟨e,he,h⟩:=List.mem_map.1 h;exact⟨e,he,by simpa using h⟩):P:=h
theorem yfy (h:P:=by
  cases ho;have Fi:bb.tmps[79]? =some (.bool false):=a3l (v:= .bool false) (a0b hD 20 79 zM rfl rfl) (by rw[hA.size];exact Nat.le_of_ble_eq_true zM);exact yan):P:=h
theorem yfz (h:P:=by
  go_wp2_with fail;go_quiet (fail)
  go_wp2_with fail;go_roundw
  case rel=>exact⟨n+1,oM,by go_num,wS.out,a3r hb _⟩
  case measure=>simp[intOf];omega):P:=h
theorem yga (h:P:=by
  cases ho;have Aj:bb.tmps[68]? =some (.bool false):=a3l (v:= .bool false) (a0b hD 9 68 zM rfl rfl) (by rw[hA.size];exact Nat.le_of_ble_eq_true zM);exact yal):P:=h
theorem ygb (h:P:=by
  cases ho;have Aj:bb.tmps[68]? =some (.bool false):=a3l (v:= .bool false) (a0b hD 9 68 zM rfl rfl) (by rw[hA.size];exact Nat.le_of_ble_eq_true zM);exact yan):P:=h
theorem ygc (h:P:=by
  cases e;exact⟨_,kp,λcur e he e2=>by simp only[Obj.cells.injEq]at e2;exact he e2.2.1.symm⟩):P:=h
theorem ygd (h:P:=by
  go_wp2_with fail;go_ret;exact⟨rfl,gR⟩):P:=h
theorem yge (h:P:=by
  cases ho;go_simp;exact hK (.pointer (some ⟨W.heap.size,0,none⟩)) _ ⟨_,rfl,hM.b.size,Blk.new _ _ _⟩ ((zR _ _).alloc (yR _) _) (hM.up ((zR _ _).alloc (yR _) _))):P:=h
theorem ygf (h:P:=by
  have z0:W.cell? ⟨Bp,2,none⟩=some (.slice la pl.left.length lc):=a0e hM oh;go_simp;exact hK (.slice la pl.left.length lc) W rfl (zR _ _) hM):P:=h
theorem ygg (h:P:=by
  cases ho;have f15:=a0a (v:= .pointer (some ⟨gy,0,none⟩)) (hA.at_ (k:=15) zM);go_simp;exact hK (.pointer (some ⟨gy,0,none⟩)) g W rfl (Ev.refl hM.tw) hM):P:=h
theorem ygh (h:P:=by
  go_simp;exact hK (.int .i64 ((M:Nat)+1)) W rfl (zR _ _) hM):P:=h
theorem ygi (h:P:=by
  cases ho;have f6:=a0a (v:= .pointer (some ⟨B6,0,none⟩)) (hA.at_ (k:=6) zM);go_simp;exact hK (.pointer (some ⟨B6,0,none⟩)) W rfl (zR _ _) hM):P:=h
theorem ygj (h:P:=by
  cases ho;have f6:=a0a (v:= .pointer (some ⟨B6,0,none⟩)) (hA.at_ (k:=6) zM);go_simp;exact hK (.pointer (some ⟨B6,1,none⟩)) W rfl (zR _ _) hM):P:=h
theorem ygk (h:P:=by
  cases ho;have f1:bb.tmps[1]?.getD undef= .int .i64 x:=a0a (v:= .int .i64 x) (hA.at_ (k:=1) zM);go_simp;exact hK (.int .i64 x) g W rfl (Ev.refl hM.ok) hM):P:=h
theorem ygl (h:P:=by
  obtain⟨id,rfl,f0⟩:=h0.i rfl;obtain⟨m,hm,hl⟩:=h1.l rfl;obtain⟨l,rfl,f2⟩:=h2.i rfl;obtain⟨r,rfl,f3⟩:=h3.i rfl;exact⟨id,l,r,u1,m,c0,c1,c2,c3,f0,f2,f3,hl,hm⟩):P:=h
theorem ygm (h:P:=by
  cases ho;have f5:=a0a (v:= .pointer (some ⟨BO,0,none⟩)) (hA.at_ (k:=5) zM);go_simp;exact hK (.pointer (some ⟨BO,1,none⟩)) g W rfl (Ev.refl hM.b.tw) hM):P:=h
theorem ygn (h:P:=by
  clear aj h3;go_wp2_with fail;refine e2f λp=> ?_
  go_wp2_with fail;go_ret;exact⟨rfl,bZ▸Go.below_growBy' bA ic _⟩):P:=h
theorem ygo (h:P:=by
  obtain⟨i,hi,h4⟩:=Array.any_eq_true.1 h1;simp only[Bool.and_eq_true,beq_iff_eq]at h4;have:=h o.after[i] (Array.getElem_mem hi) h4.1;rw[h4.2]at this;exact this oj d h2 h3):P:=h
theorem ygp (h:P:=by
  exact Ev.setCells hb news (o*s+n*i.size) W c hT hc (λj u ct h1 h2=>wL j u ct h1 (by
   rw[jo,bu,<-Nat.add_mul,Nat.mul_comm,Nat.mul_add_mod]at h2;exact h2))):P:=h
theorem ygq (h:P:=by
  go_simp;exact hK (.slice (some ⟨W.heap.size,0,none⟩) 1 1) _ ⟨_,rfl,hM.bel.size,Blk.new _ _ _⟩ ((zR _ _).alloc (yR _) _) (hM.up ((zR _ _).alloc (yR _) _))):P:=h
theorem ygr (h:P:=by
  go_wp2_with fail;go_roundw
  case rel=>exact⟨k+1,n,oM,by go_num,rfl,iD,my.trans ((Go.below_growBy _ _).mono p7)⟩
  case measure=>simp[intOf];omega):P:=h
theorem ygs (h:P:=by
  exact eQ D xs _ oM hS (hI _ W2 _ (some (D+1)) hi (grownBy_putObj' W2 _ _) (λr e=>by cases e;exact⟨oM,iy W2 _ _ hl rfl⟩)) ((World.putObj_heap_other oM).trans hd)):P:=h
theorem ygt (h:P:=by
  go_wp2_with fail;go_ret;exact⟨a6l he.out.symm,rfl⟩):P:=h
theorem ygu (h:P:=by
  go_wp2_with fail;go_end0;have h5:=HO.out;rw[insOuter_stop _ _ _ _ _ ag]at h5;refine⟨rfl,?_⟩;unfold insertionSort;rw[<-h5];exact HR.out):P:=h
theorem ygv (h:P:=by
  cases ho;have f14:=a0a (v:=ev) (hA.at_ (k:=14) zM);go_simp;exact hK (ev) g W rfl (Ev.refl hM.1.te.tw) hM):P:=h
theorem ygw (h:P:=by
  cases ho;have f12:=a0a (v:= .int .i64 (j:Nat)) (hA.at_ (k:=12) zM);go_simp;exact hK (.int .i64 (j:Nat)) W rfl (zR _ _) hM):P:=h
theorem ygx (h:P:=by
  go_simp;exact hK (.int .i64 (M:Nat)) W rfl (zR _ _) hM):P:=h
theorem ygy (h:P:=by
  rintro v9 w9 aU br⟨g,c,e9,-⟩;exact hK v9 w9 ⟨g,c,e9,aU⟩ br (hM.up br)):P:=h
theorem ygz (h:P:=by
  cases ho;have f3:=a0a (v:= .pointer (some ⟨BQ,0,none⟩)) (hA.at_ (k:=3) zM);go_simp;exact hK (.pointer (some ⟨BQ,0,none⟩)) W rfl (zR _ _) hM):P:=h
theorem yha (h:P:=by
  go_wp2_with fail;go_meet;exact⟨⟨none,[],0,rfl,Intz.nil _ _⟩,⟨rfl⟩⟩):P:=h
theorem yhb (h:P:=by
  go_wp2_with (go_at_call 59;refine(a3y (by first|with_reducible exact h1.out|with_reducible exact h2.out) _).mono ?_;rintro e w'⟨rfl,rfl⟩);exact ybs):P:=h
theorem yhc (h:P:=by
  rw[List.map_cons,List.nodup_cons];refine⟨λhm=> ?_,h.ne⟩;obtain⟨p,hp,i7⟩:=List.mem_map.1 hm;have h2:=(h.bx p hp).1.lt;simp only at i7;omega):P:=h
theorem yhd (h:P:=by
  go_wp2_with fail;go_roundw
  case rel=>exact⟨j+1,n,S1,oM,by go_num,oM,dm,hm⟩
  case measure=>simp[intOf];omega):P:=h
theorem yhe (h:P:=by
  go_wp2_with fail;go_meet;exact⟨rfl,rfl⟩):P:=h
theorem yhf (h:P:=by
  go_enter func32,ntmps32;go_wp2_with fail;exact bodyPost_ret (results_cell_row qM _ _ _ 28 _ (0,0) _ vM (Blk.new _ _ _) underlying28 qM zM) rfl ⟨rfl,zC⟩):P:=h
theorem yhg (h:P:=by
  replace y0:=y0.cell 0;simp only[List.setIfInBounds_toArray,List.set_cons_zero]at y0;simp[Leaves,settle,results,results19,go_sem,y0];exact br):P:=h
theorem yhh (h:P:=by
  simp only[intOf,Int.toNat_natCast];omega):P:=h
theorem yhi (h:P:=by
  obtain⟨a,c,h,-⟩:=(a0d a4t aU uM).form;exact⟨_,_,_,h⟩):P:=h
theorem yhj (h:P:=by
  have z0:W.cell? ⟨b,off+k*7,none⟩=some (.int .i64 id):=a0e hM gm;exact ykf):P:=h
theorem yhk (h:P:=by
  go_wp2_with fail;go_ret;exact⟨rfl,aG▸hb.trans (aL.mono hb.size)⟩):P:=h
theorem yhl (h:P:=by
  go_wp2_with fail;refine zR0 λp=> ?_
  exact ybm):P:=h
theorem yhm (h:P:=by
  go_enter func169,ntmps169;exact ybd):P:=h
theorem yhn (h:P:=by
  go_wp2_with fail;refine zR0 λp=> ?_
  go_wp2_with fail;go_ret;exact⟨rfl,Go.below_growBy' Cc GY _⟩):P:=h
theorem yho (h:P:=by
  go_wp2_with fail;refine wp_loop_rounds 1 ?_;rw[rounds_succ];exact ybd):P:=h
theorem yhp (h:P:=by
  exact h1.append_l dI sO xO t ho ht he bH (hA.sl hv) aj dH (SL.blk (.inr rfl) (Blk.new W c e) (by rw[he.size,dN,Nat.one_mul];exact yR _)) oM h):P:=h
theorem yhq (h:P:=by
  clear p8 hQ hE h1 h2;go_wp2_with fail;refine e2f λp=> ?_
  exact ybm):P:=h
theorem yhr (h:P:=by
  have:=(Below.heap_alloc (w.alloc (.deferred (some []))) (.loop (R .ready none)) w.heap.size vM).trans (World.alloc_heap_new w _);rwa [hD]at this):P:=h
theorem yhs (h:P:=by
  cases ho;have f12:=a0a (v:= .int .i64 (n:Nat)) (hA.at_ (k:=12) zM);go_simp;exact hK (.int .i64 (n:Nat)) g W rfl (Ev.refl hM.tw) hM):P:=h
theorem yht (h:P:=by
  go_simp;exact hK (.tuple #[u,.bool on]) W ⟨u,rfl,h2⟩ (zR _ _) hM):P:=h
theorem yhu (h:P:=by
  go_simp;refine(pQ W).mono ?_;rintro e W'⟨rfl,hb⟩;go_simp;exact hK (.string s) g W' rfl (Ev.of_below hM.b.tw hb) (hM.up hb)):P:=h
theorem yhv (h:P:=by
  cases ho;have f6:bb.tmps[6]?.getD undef=v6:=a0a (v:=v6) (hA.at_ (k:=6) zM);go_simp;exact hK v6 g W rfl (Ev.refl hM.ok) hM):P:=h
theorem yhw (h:P:=by
  go_wp2_with fail;refine wp_loop_rounds 1 ?_;rw[rounds_succ];exact yeq):P:=h
theorem yhx (h:P:=by
  exact bodyPost_ret (results_cell_row qM _ _ w.heap.size 26 _ (0,0) _ qM (Blk.new w _ _) underlying26 qM zM) rfl ⟨⟨_,_,rfl,zF,zF⟩,zC⟩):P:=h
theorem yhy (h:P:=by
  cases ho;have f5:=a0a (v:= .int .u8 (c:Nat)) (hA.at_ (k:=5) zM);go_simp;exact hK (.int .u8 (c:Nat)) W rfl (zR _ _) hM):P:=h
theorem yhz (h:P:=by
  unfold Blk at hc fT;rw[hc]at fT
  cases fT;exact⟨rfl,rfl⟩):P:=h
theorem yia (h:P:=by
  go_wp2_with fail;go_roundw
  case rel=>exact⟨i+1,oM,by go_num,Go.below_growBy' bA ic _,Fg⟩
  case measure=>simp[intOf];omega):P:=h
theorem yib (h:P:=by
  have h3:=Al.out;unfold d7r at h3;rw[HX.out.1,HX.out.2,c5a]at h3;exact Lib.hid h3.drew):P:=h
theorem yic (h:P:=by
  cases ho;have f0:=a0a (v:= .int .i64 (n:Nat)) (hA.at_ (k:=0) zM);go_simp;exact hK (.int .i64 (n:Nat)) W rfl (zR _ _) hM):P:=h
theorem yid (h:P:=by
  exact bodyPost_ret (results_cell_row qM _ _ _ 26 _ (0,0) _ qM hk underlying26 qM zM) rfl ⟨⟨_,_,rfl,a1c _,a1c _⟩,zC⟩):P:=h
theorem yie (h:P:=by
  simp[Instr.sliceAt,Instr.slice,Instr.sliceBounds,Instr.sliceBound,asIntOf,run_underlying ht,kt,eD,hk,sizeOf,typeInfo,hi,bu,go_sem]):P:=h
theorem yif (h:P:=by
  go_wp2_with fail;go_meet;exact⟨⟨_,_,_,rfl,hi⟩,⟨rfl⟩⟩):P:=h
theorem yig (h:P:=by
  rintro⟨⟨o',h',hc⟩,-⟩;rw[h]at h'
  cases h';rw[ho]at hc
  cases hc):P:=h
theorem yih (h:P:=by
  have z0:W.cell? ⟨gy,0,none⟩=some (.int .i64 cx):=hM.b0.cell 0;go_simp;exact hK (.int .i64 cx) g W rfl (Ev.refl hM.tw) hM):P:=h
theorem yii (h:P:=by
  go_simp;exact hK (.agg #[.int .i64 s.ax,.int .i64 s.ay,.int .i64 s.st,.int .i64 s.w,.int .i64 s.h,.int .i64 s.g]) W rfl (zR _ _) hM):P:=h
theorem yij (h:P:=by
  go_wp2_with fail;go_quiet (fail)
  exact ybu):P:=h
theorem yik (h:P:=by
  obtain⟨⟨o,ho,-⟩,-⟩:=h;exact(Array.getElem?_eq_some_iff.1 ho).1):P:=h
theorem yil (h:P:=by
  go_wp2_with fail;go_roundw
  case rel=>exact⟨k+1,S',l,oM,by go_num,oM,a7,nN.tail⟩
  case measure=>simp[intOf];omega):P:=h
theorem yim (h:P:=by
  go_wp2_with (go_at_call 59;refine(a3y (by first|with_reducible exact h1.out) _).mono ?_;rintro e w'⟨rfl,rfl⟩);exact ybs):P:=h
theorem yin (h:P:=by
  obtain⟨h1,h2|⟨g,cap,cur,h2,h3,h4⟩⟩:=h
  ·exact⟨h1,.inl h2⟩
  ·exact⟨h1,.inr ⟨g,cap,cur,h2,Nat.le_trans hb h3,h4⟩⟩):P:=h
theorem yio (h:P:=by
  have z0:W.cell? ⟨B6,0,none⟩=some (.int .i64 ax):=hM.a.cell 0;go_simp;exact hK (.int .i64 ax) W rfl (zR _ _) hM):P:=h
theorem yip (h:P:=by
  have z0:W.cell? ⟨B6,1,none⟩=some (.int .i64 ay):=hM.a.cell 1;go_simp;exact hK (.int .i64 ay) W rfl (zR _ _) hM):P:=h
theorem yiq (h:P:=by
  obtain⟨a,c,e,-⟩:=h.form;simp only[Value.slice.injEq]at e;exact absurd (List.eq_nil_of_length_eq_zero e.2.1.symm) hl):P:=h
theorem yir (h:P:=by
  have:=h.ne;rw[List.map_cons,List.nodup_cons]at this;exact this.1 (List.mem_map.2 ⟨p,rW,(Option.some.inj e).symm⟩)):P:=h
theorem yis (h:P:=by
  exact bodyPost_ret (v:= .tuple #[.int .i64 0,.int .i64 0,.bool false]) (by simp[results,results62,go_sem]) rfl ⟨rfl,zC⟩):P:=h
theorem yit (h:P:=by
  exact bodyPost_ret (v:= .tuple #[.int .i64 0,.int .i64 0,.bool false]) (by simp[results,results95,go_sem]) rfl ⟨rfl,zC⟩):P:=h
theorem yiu (h:P:=by
  exact⟨0,Nat.zero_le _,rfl,zR _ _,Lib.hid λj hj=>absurd hj oM⟩):P:=h
theorem yiv (h:P:=by
  obtain⟨o,h1,h2⟩:=bx r er;exact⟨o,h1,λcur=>h2 cur e he⟩):P:=h
theorem yiw (h:P:=by
  repeat' split
  all_goals omega):P:=h
theorem yix (h:P:=by
  refine⟨by simp,.inl ⟨_,_,rfl,run_takeDeferred Am,?_⟩⟩;exact⟨by first|exact .inr ⟨pz,rfl⟩|rfl,cn⟩):P:=h
theorem yiy (h:P:=by
  subst this;clear hb;go_enter func167,ntmps167;exact ybd):P:=h
theorem yiz (h:P:=by
  go_wp2_with fail;refine bodyPost_ret (results_none rfl _ _ _) rfl ?_;exact⟨rfl,.mk HK.out cI.out⟩):P:=h
theorem yja (h:P:=by
  go_wp2_with fail;go_meet;exact⟨by simp[g1],rfl⟩):P:=h
theorem yjb (h:P:=by
  go_roundw
  case rel=>exact⟨i+1,dj,by go_num,oM,oM,Lib.hid HJ.out.drew,Lr⟩
  case measure=>exact yaz):P:=h
theorem yjc (h:P:=by
  have:=World.alloc_heap_new (w.alloc (.deferred (some []))) (.loop (R .ready none));rwa [World.size_alloc,hD]at this):P:=h
theorem yjd (h:P:=by
  clear cY eR hL hF hT aU bD hQ k9;go_wp2_with fail
  all_goals go_meet
  all_goals exact cI):P:=h
theorem yje (h:P:=by
  rw[List.length_append];rcases aj.2 with⟨-,e⟩|⟨g',aI,cur,e,-⟩
  ·omega
  ·exact⟨g',aI,e⟩):P:=h
theorem yjf (h:P:=by
  cases ho;have f4:=a0a (v:= .pointer (some ⟨nS,0,none⟩)) (hA.at_ (k:=4) zM);exact yat):P:=h
theorem yjg (h:P:=by
  rintro e W'⟨rfl,hb⟩;go_simp;exact hK (.int .i64 c1) W' rfl hb (hM.trans (hb.mono hM.size))):P:=h
theorem yjh (h:P:=by
  rintro e W'⟨rfl,hb⟩;go_simp;exact hK (.int .i64 c2) W' rfl hb (hM.trans (hb.mono hM.size))):P:=h
theorem yji (h:P:=by
  rw[Addr.add_lit];exact hx.flat hE j u hj):P:=h
theorem yjj (h:P:=by
  split
  ·rw[List.map_map]
   refine List.map_congr_left λe _=> ?_
   by_cases h:e.1=p
   ·simp[h]
   ·simp[h]
  ·simp):P:=h
theorem yjk (h:P:=by
  obtain⟨cc,lI⟩:∃c:Int,c=42:=⟨_,rfl⟩;exact yap):P:=h
theorem yjl (h:P:=by
  rintro e W'⟨rfl,hb⟩;go_simp;exact hK (.bool sb) W' rfl hb (hM.trans (hb.mono hM.size))):P:=h
theorem yjm (h:P:=by
  obtain⟨D,⟨es,clock,he,r⟩,h1,h2,h3⟩:=h;exact⟨D,⟨es,clock,(hb.block b hB).trans he,r⟩,h1,h2,h3⟩):P:=h
theorem yjn (h:P:=by
  split at h
  all_goals first|exact h|(exact h)|(obtain⟨B,h1,h2,h3⟩:=h;exact⟨B,h1,h2,h3.below hg h3.lt⟩)):P:=h
theorem yjo (h:P:=by
  go_simp;refine(hM.1.node jo (ci) (j) oM oM oM oM).mono ?_;exact ybl):P:=h
theorem yjp (h:P:=by
  have t2:(65:Int)<=(c:Nat):=oM;have t3:¬((c:Nat):Int)<=90:=oM;exact ybi):P:=h
theorem yjq (h:P:=by
  have t2:(65:Int)<=(c:Nat):=oM;have t3:¬((c:Nat):Int)<=90:=oM;exact yaq):P:=h
theorem yjr (h:P:=by
  subst ic;go_wp2_with fail;go_ret;exact⟨S,_,rfl,⟨n,wU,oM⟩,nL⟩):P:=h
theorem yjs (h:P:=by
  go_simp;have h9:=hT.1;rw[World.size_growBy]at h9;exact h9):P:=h
theorem yjt (h:P:=by
  go_simp;have h9:=hT.2;rw[List.length_drop]at h9;exact h9):P:=h
theorem yju (h:P:=by
  rw[List.length_append,List.flatMap_append];exact aj):P:=h
theorem yjv (h:P:=by
  show(if n=0 then [60]else a8m s n)++[(a8u (s[n]!).toNat).toUInt8]=_;rw[getElem!_pos s n ag]):P:=h
theorem yjw (h:P:=by
  have h1:=(hr t (by rw[size_flatK,hz];exact ht)).1;rw[Nat.zero_add,hk.cell t]at h1;simpa using h1):P:=h
theorem yjx (h:P:=by
  split at h
  all_goals first|exact h|(obtain⟨L,h1,h2,h3⟩:=h;exact⟨L,h1,h2,h3.below hg h3.lt⟩)):P:=h
theorem yjy (h:P:=by
  split at h
  all_goals first|exact h|(obtain⟨B,h1,h2,h3⟩:=h;exact⟨B,h1,h2,h3.below hg h3.lt⟩)):P:=h
theorem yjz (h:P:=by
  go_wp2_with fail;go_ret;exact d2d hb hB uJ A2 (by rw[p9.out,cX.out];simp)):P:=h
theorem yka (h:P:=by
  go_simp;exact hK (.bool on) W rfl (zR _ _) hM):P:=h
theorem ykb (h:P:=by
  rw[List.getElem?_eq_none uM,List.getElem?_eq_none oM]):P:=h
theorem ykc (h:P:=by
  simp only[World.size_alloc]at h1;rw[aH];exact h1):P:=h
theorem ykd (h:P:=by
  rcases h.c_row hD.b hc with rfl|rfl|rfl|hk
  ·exact h.cb
  ·exact h.cc
  ·exact h.cm
  ·exact h.cr hk):P:=h
theorem yke (h:P:=by
  cases ho;have f8:=a0a (v:= .int .i64 (k:Nat)) (hA.at_ (k:=8) zM);exact ybe):P:=h
theorem ykf (h:P:=by
  go_simp;exact hK (.int .i64 id) W rfl (zR _ _) hM):P:=h
theorem ykg (h:P:=by
  cases ho;have f13:=a0a (v:= .int .i64 (k:Nat)) (hA.at_ (k:=13) zM);exact ybe):P:=h
theorem ykh (h:P:=by
  cases ho;have f12:=a0a (v:= .int .i64 (M:Nat)) (hA.at_ (k:=12) zM);exact ygx):P:=h
theorem yki (h:P:=by
  split at h
  all_goals first|exact h|(exact h)|(obtain⟨n,h1,h2⟩:=h;exact⟨n,hg.sl h1,h2⟩)):P:=h
theorem ykj (h:P:=by
  cases ho;have f8:=a0a (v:= .int .i64 (M:Nat)) (hA.at_ (k:=8) zM);exact ygx):P:=h
theorem ykk (h:P:=by
  go_simp;exact hK (.pointer (some ⟨b,off+k*4+2,none⟩)) W rfl (zR _ _) hM):P:=h
theorem ykl (h:P:=by
  rcases h.2 with⟨e1,-⟩|⟨g,cap,cur,e1,-⟩
  ·exact .inl e1
  ·exact .inr ⟨g,0,cap,e1⟩):P:=h
theorem ykm (h:P:=by
  go_simp;refine(b8g 0 oM d9 k9 l9 zz0 zz1 zz2 pl W hM.pi Cd).mono ?_;exact yem):P:=h
theorem ykn (h:P:=by
  go_simp;exact hK (.pointer (some ⟨b,off+k*4+3,none⟩)) W rfl (zR _ _) hM):P:=h
theorem yko (h:P:=by
  go_wp2_with fail;go_ret;exact⟨rfl,hB⟩):P:=h
theorem ykp (h:P:=by
  go_simp;exact hK (.agg #[.int .i64 bx,.int .i64 by_,.int .i64 bd]) W rfl (zR _ _) hM):P:=h
theorem ykq (h:P:=by
  obtain⟨a,c,h,-⟩:=(a0d b4r aU uM).form;exact⟨_,_,_,h⟩):P:=h
theorem ykr (h:P:=by
  go_simp;exact hK (.pointer (some ⟨dg,dO+j*4,none⟩)) W rfl (zR _ _) hM):P:=h
theorem yks (h:P:=by
  have:=hL y hy;simp only[List.map_append,List.mem_append];exact .inl this):P:=h
theorem ykt (h:P:=by
  simp only[onS,inR]at dp;simp only[Bool.and_eq_true,decide_eq_true_eq]at dp;omega):P:=h
theorem yku (h:P:=by
  go_simp;exact hK (.agg #[.int .i64 ax,.int .i64 ay,.int .i64 ad]) W rfl (zR _ _) hM):P:=h
theorem ykv (h:P:=by
  simp[Lit.wf,IntKind.min,IntKind.max,IntKind.signed,IntKind.bits]at h;exact⟨oM,oM⟩):P:=h
theorem ykw (h:P:=by
  go_wp2_with fail
  all_goals
   go_ret;exact⟨by first|rfl|(congr 2;simp;omega),rfl⟩):P:=h
theorem ykx (h:P:=by
  split <;> simp <;> omega):P:=h
theorem yky (h:P:=by
  rintro e w'⟨rfl,hb⟩;rw[List.take_length,a8x];exact⟨rfl,hb⟩):P:=h
theorem ykz (h:P:=by
  rintro e w'⟨rfl,rfl⟩;exact⟨_,rfl,⟨by simp,.inl ⟨rfl,rfl⟩⟩,zR _ _⟩):P:=h
theorem yla (h:P:=by
  go_wp2_with fail;go_ret;exact⟨rfl,gK⟩):P:=h
theorem ylb (h:P:=by
  go_simp;exact hK (.slice (some ⟨b,off,none⟩) ps.length c8) W rfl (zR _ _) hM):P:=h
theorem ylc (h:P:=by
  rw[h1]at e
  cases e;exact .inr h2):P:=h
theorem zP0 (h:P:=by
  by_cases dz:l=[]
  ·subst dz
   exact ybh
  have dZ:0<l.length:=List.length_pos_iff.2 dz;obtain⟨g,rfl,Tu⟩:=e1n hO.p.row dz;obtain⟨m,hm⟩:=zE l.length;obtain⟨ix,hp,aO⟩:∃ix:Nat,Int.tmod (k:Int) (m:Int)=(ix:Int)/\ix<l.length:=⟨k % m,by rw[Int.tmod_eq_emod_of_nonneg oM];omega,by rw[hm];exact Nat.mod_lt _ oM⟩;obtain⟨jS,th,jG⟩:=zI (show ix<m by omega);exact zQ):P:=h
theorem zP1 (h:P:=by
  by_cases rX:nf=0
  ·subst rX
   exact ybh
  obtain⟨p,hp,gS⟩:=zIx k (show 0<nf by omega);obtain⟨jS,th,jG⟩:=zI (show p<nf by omega);obtain⟨fb,fo,Tv,heq,Oa,-⟩:=hO.p.b.s1.some_ oM
  cases heq;obtain⟨id,cs,ns,wt,ds,c0,c1,c2,c3,c4,f0,f1,f2,f3,f4⟩:=SL.face5 hO.p.b.tw hO.p.b.s1 gS;have au:=λi ct h u hu=>hO.p.store a1v hO.p.b.s1 hO.of p i ct h u hu
  exact zQ):P:=h
theorem zP2 (h:P:=by
  by_cases qa:nw=0
  ·subst qa
   exact ybh
  obtain⟨p,hp,Ce⟩:=zIx k (show 0<nw by omega);obtain⟨jS,Ls,GZ⟩:=zI (show p<nw by omega);obtain⟨wb,wo,Ob,heq,G0,-⟩:=hO.p.b.s2.some_ oM
  cases heq;obtain⟨id,lv,m,dG,cs,ns,st,wt,ds,c0,c1,c2,c3,c4,c5,c6,c7,f0,aJ,hm,f2,f3,f4,f6,f7⟩:=SL.way hO.p.b.tw hO.p.b.s2 Ce;have au:=λi ct h u hu=>hO.p.store a5p hO.p.b.s2 hO.ow p i ct h u hu
  exact zQ):P:=h
theorem zP3 (h:P:=by
  by_cases om:m=0
  ·subst om
   go_wp2_with fail;go_meet;exact⟨S9,k,nf,hO,oM,oM⟩
  have tj:(0:Int)<(m:Int):=oM;have Oc:((m:Int)==0)=false:=by simpa using om
  obtain⟨p,hp,mz⟩:=zIx n (show 0<m by omega);have jS:(p:Int)<(m:Int):=oM;obtain⟨pb,po,pc,heq,ie,-⟩:=aJ.some_ oM
  cases heq;obtain⟨x,y,d0,d1,fx,fy⟩:=SL.point hO.b.tw aJ mz;exact zQ):P:=h
end
end
section
open Go.RowKit
section
variable {P:Program}{ops:Array Oper}{md:Region.Mode}{C:World->Prop}
def b8n (P:Program)(md:Region.Mode)(ops:Array Oper)(C:World->Prop)(n:Nat)(L:Array Bool->Act->Prop):Nat->Array Bool->Act->Prop
 |0,s,a=>L s a
 |f+1,s,a=>Region.ready md ops s≠[]/\∀i∈Region.ready md ops s,i<n/\qOp P ops C i (b8n P md ops C n L f (s.setIfInBounds i true)) a
theorem b2b {n g:Nat}{L:Array Bool->Act->Prop}{Q:Exit->Act->World->Prop}(hL:∀s a w,C w->L s a->wpAny P md ops Q g s a w) :
 ∀(f:Nat) (s:Array Bool) (a:Act) (w:Wd),C w->b8n P md ops C n L f s a->wpAny P md ops Q (f+g) s a w:=by
 intro f;induction f with
 |zero=>intro s a w hw h;rw[Nat.zero_add];exact hL _ _ _ hw h
 |succ f ih =>
  intro s a w hw h;rw[Nat.succ_add];refine⟨λhe=>absurd he h.1,λi hi=> ?_⟩;exact wpOp_of_qOp hw (λa' w' G1 h'=>ih _ a' w' G1 h') (h.2 i hi).2
theorem b2c {n i:Nat}{s:Array Bool}(hs:Region.sinkB md ops n=true)(hc:Region.chainB md ops n=true)(hn:n<ops.size)(inv:HeadInv md ops n s)(hi:i<n)(qb:s.getD i true=false) :
 ∀j∈Region.ready md ops s,j<n:=by
 intro j hj;by_cases h:j<n
 ·exact h
 ·exact absurd hj (tail_waits hs hc hn inv _ i rfl hi qb j oM)
theorem c1t {n i:Nat}{oi:Oper}{v:Vu}{L:Array Bool->Act->Prop}(hi:ops[i]? =some oi)(oo:∀(j:Nat)(o:Oper) cs b,ops[j]? =some o->o.op≠.select cs b)
 (hs:Region.sinkB md ops n=true) (hc:Region.chainB md ops n=true) (hn:n<ops.size) (bP:i<n)
 (eQ:∀s a,L s a->∀j∈Region.ready md ops s,n<=j) (f:Nat) :
 ∀(s:Array Bool) (a:Act),HeadInv md ops n s ->
  (∀j oj,ops[j]? =some oj->j≠i->s.getD j true=false->(∀e∈oj.after,Region.binds md e=true->e.on≠i)->oi.apart ops oj=true) ->
  i∈Region.ready md ops s->YieldsIn P ops C oi v a ->
  b8n P md ops C n L f (s.setIfInBounds i true) (a.put oi.dst v)->b8n P md ops C n L (f+1) s a:=by
 induction f with
 |zero =>
  intro s a inv _ hr hy H;have ag:=b2c hs hc hn inv bP (mem_ready.1 hr).1;refine⟨List.ne_nil_of_mem hr,λj hj=>⟨ag j hj,?_⟩⟩;rcases Nat.decEq j i with ja|ja
  ·have h1:=eQ _ _ H j (ready_mono hj ja)
   have h2:=ag j hj;omega
  ·subst ja;exact hy.qOp hi H
 |succ f ih =>
  intro s a inv gz hr hy H;have ag:=b2c hs hc hn inv bP (mem_ready.1 hr).1;refine⟨List.ne_nil_of_mem hr,λj hj=>⟨ag j hj,?_⟩⟩;rcases Nat.decEq j i with ja|ja
  ·obtain⟨Cf,oj,G2,ah⟩:=mem_ready.1 hj
   have aK:∀e∈oj.after,Region.binds md e=true->e.on≠i:=by
    intro e he hb heq;have h1:=ah e he hb;rw[heq,getD_both (mem_ready.1 hr).1]at h1
    cases h1
   have h1:=(H.2 j (ready_mono hj ja)).2;have h2:=qOp_put G2 (gz j oj G2 ja Cf aK) (λcs b=>oo i oi cs b hi) (λcs b=>oo j oj cs b G2) hy h1;refine qOp_mono (λa' h3=>ih (s.setIfInBounds j true) a' (inv.set hj (ag j hj)) ?_ (ready_mono hr (Ne.symm ja)) h3.1 ?_) h2
   ·intro k ok hk Lt qb qd
    refine gz k ok hk Lt ?_ qd;rcases Nat.decEq j k with nY|nY
    ·rw[getD_set_ne true nY]at qb;exact qb
    ·subst nY;exact Cf
   ·rw[Array.setIfInBounds_comm _ _ ja];exact h3.2
  ·subst ja;exact hy.qOp hi H
theorem c6k {n g:Nat}{Lq:Act->Prop}(oo:Region.noSelect ops=true)(hs:Region.sinkB md ops n=true)(hc:Region.chainB md ops n=true)(hn:n<ops.size)(l:List Oper) :
 ∀(k:Nat) (s:Array Bool) (a:Act),(∀j,j<l.length->l[j]? =ops[k+j]?)->k+l.length=n->HeadInv md ops n s ->
 Region.lexHead md ops g l.length k s=true->wpQuiet P ops C Lq l a ->
 b8n P md ops C n (λs' a'=>Region.seqB md ops g n s'=true/\Lq a') l.length s a:=by
 induction l with
 |nil =>
  intro k s a _ hk _ hB h;obtain rfl:k=n:=by simpa using hk
  exact⟨by simpa[Region.lexHead]using hB,h⟩
 |cons o l ih =>
  intro k s a hl hk inv hB h;have h0:ops[k]? =some o:=by simpa using (hl 0 vM).symm
  simp only[List.length_cons]at hk;simp only[List.length_cons,Region.lexHead,Bool.and_eq_true]at hB;obtain⟨⟨hr,hf⟩,Od⟩:=hB;have lV:k∈Region.ready md ops s:=by simpa using hr
  have hq:qOp P ops C k (wpQuiet P ops C Lq l) a:=by unfold qOp;simp only[h0];exact h
  obtain⟨v,hy,hK⟩:=yieldsIn_of_qOp h0 hq;refine c1t h0 (Region.noSelect_spec oo) hs hc hn oM (λs' a' hL=>seqB_ready hL.1) l.length s a inv (Region.free_spec h0 hf) lV hy ?_;refine ih (k+1) _ _ (λj hj=> ?_) oM (inv.set lV oM) Od hK;have h1:=hl (j+1) (by simp only[List.length_cons];omega);rw[show k+1+j=k+(j+1)from by omega];simpa using h1
theorem a5a {id:Nat}{Q:Exit->Act->World->Prop}{a:Act}{w:Wd}{l:List Oper}(n:Nat)(hm:P.follows .mixedOrders=true)(hB:Region.lexTailB .any l.toArray n=true)(hC:C w.drew)
 (h:wpQuiet P l.toArray C (λa'=>∀w',C w'->wpList P l.toArray Q (l.drop n) a' w') (l.take n) a):(Code.region id l.toArray true).wp P Q a w:=by
 simp only[Region.lexTailB,Bool.and_eq_true,decide_eq_true_eq]at hB;obtain⟨⟨⟨⟨oo,hn⟩,hs⟩,hc⟩,hlex⟩:=hB;have wV:n<l.length:=by simpa using hn
 have Cg:(l.take n).length=n:=by rw[List.length_take];omega
 have ig:(l.drop n).length=l.toArray.size-n:=by simp
 have wW:HeadInv .any l.toArray n (Array.replicate l.toArray.size false) :=
  ⟨by simp,λj oj _ hl=>(by rw[getD_replicate_false]at hl;cases hl),λt _ ht=>getD_in (by simpa using ht) (getD_replicate_false _ _)⟩
 have H:=c6k (md:= .any) (g:=l.toArray.size-n) oo hs hc hn (l.take n) 0 _ a (λj hj=>by
  have nh:j<n:=oM;simp[nh]) (by simpa using Cg) wW (by rw[Cg];exact hlex) h
 refine wp_region_any hm ?_;have key:=b2b (Q:=Q) (g:=l.toArray.size-n) (λs a' w' G1 hL=>by
  have h1:=wpAny_of_seq (md:= .any) (Q':=Q) (l.drop n) n s a' w' (λj=>by simp[List.getElem?_drop]) (by rw[ig];exact hL.1) (hL.2 w' G1);rwa [ig]at h1) _ _ _ _ hC H
 rw[Cg,show n+(l.toArray.size-n)=l.toArray.size from by omega]at key;exact key
theorem a0i {id:Nat}{Q:Exit->Act->World->Prop}{a:Act}{w:Wd}{l:List Oper}(n:Nat)(hm:P.follows .mixedOrders=true)(hB:Region.lexTailB .any l.toArray n=true)
 (h:wpQuiet P l.toArray (λw'=>∃p,w'=w.growBy p) (λa'=>∀w',(∃p,w'=w.growBy p)->wpList P l.toArray Q (l.drop n) a' w') (l.take n) a):(Code.region id l.toArray true).wp P Q a w :=
 a5a n hm hB ⟨⟨#[],w.drawn+1⟩,by unfold World.growBy World.drew;simp⟩ h
theorem a0h {id:Nat}{Q:Exit->Act->World->Prop}{a:Act}{w:Wd}{p:Growth}{l:List Oper}(n:Nat)(hm:P.follows .mixedOrders=true)(hB:Region.lexTailB .any l.toArray n=true)
 (h:wpQuiet P l.toArray (λw'=>∃p,w'=w.growBy p) (λa'=>∀w',(∃p,w'=w.growBy p)->wpList P l.toArray Q (l.drop n) a' w') (l.take n) a):(Code.region id l.toArray true).wp P Q a (w.growBy p) :=
 a5a n hm hB ⟨⟨p.objs,p.drawn+1⟩,rfl⟩ h
end
end
end Go
