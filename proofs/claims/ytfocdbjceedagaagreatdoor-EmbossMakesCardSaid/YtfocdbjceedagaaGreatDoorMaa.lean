/-
  Parts.
-/
import Derived.WalkKit
import Derived.WalkSpells
import Derived.WalkLawsBesides
import Derived.Deep.Quiet
import Derived.Deep.QuietTactic
import Derived.BigQuiet
import Derived.Lib.Hide
import Derived.StillTail
import Derived.ProofKit
import Derived.OpenShut
import Derived.Deep.AppendLies
import Derived.Deep.AppendSrc
import Derived.Deep.RegionLaw
import Derived.Deep.CutBlock
import Derived.Deep.DeepCutAuto
import Derived.Deep.DrawnRows
import Derived.Maps.OwnSet
import Derived.Maps.OwnIn
import Derived.Maps.RangeWalk
import Derived.DeepKeys4
import Derived.RangeFuncOwn
import Derived.RangeFuncBox
import Derived.RangeFuncLeaves
import Derived.RangeFuncNested
import Derived.RangeFuncBound
import Derived.RangeFuncCalls
import Derived.RangeFuncSeq
import Ieee.Arith
import GoSem.Core.Float
import Derived.Laws.FloatArith
import Derived.Lib.SliceRun
import Derived.Laws.MakeOwn
import Derived.Sort.MapsRangeIn
import Derived.Sort.KeysCollected
import Derived.OwnWalkIn
import Derived.TacticsInMore
import Derived.RegionIn
import Derived.LoopNIn
import Derived.LoopIn
import Derived.RangeFuncWrites
import Derived.RangeFuncFrom
import Derived.Lib.FrozenHead2
import Derived.Lib.OthersKept
import Derived.Laws.RangeString
import Derived.Deep.WholeRow
import Derived.Laws.Rows
import Derived.Laws.IdiomStrings
import Derived.OrdersIn
import Derived.Deep.Slices
import Derived.Lib.Mul64
import Derived.Laws.Bits64b
import Derived.IntWalk
import Derived.Laws.ResultCell
import Derived.Deep.Onto
import Derived.Laws.Tables
import Derived.ChangeSlices
import Derived.Lib.LaidTab
import Derived.Sort.CutIn
import Derived.Lib.Bytes2
import Derived.Lib.BufferRead
import Derived.Recover
import Derived.Defers
import Derived.Deep.DeepHandedRow
import Derived.LaidMore
set_option linter.unusedVariables false
set_option linter.unusedSimpArgs false
namespace Go
section
open Go.RowKit
abbrev zR := @Below.refl
abbrev yR := @Nat.le_refl
structure Growth where
 objs:Array Obj
 drawn:Nat
instance : Nonempty Growth:=⟨⟨#[],0⟩⟩
def World.growBy (w:World)(p:Growth):World:={ w with heap:=w.heap++p.objs,drawn:=p.drawn }
section
variable (w:World)(p q:Growth)
theorem World.heap_growBy {n:Nat}(h:n<w.heap.size):(w.growBy p).heap[n]? =w.heap[n]? :=by
 show(w.heap++p.objs)[n]? =_;rw[Array.getElem?_append_left h]
theorem World.lt_of_isSome {w:World}{a:Addr}(h:(w.cell? a).isSome=true):a.block<w.heap.size:=by
 obtain⟨v,hv⟩:=Option.isSome_iff_exists.1 h;exact World.block_lt_of_cell? _ _ hv
def World.cellOf (w:World)(a:Addr):Option Value:=w.cell? a
def World.frozenOf (w:World)(a:Addr):Bool:=w.frozen? a
def World.setCellOf (w:World)(a:Addr)(v:Value):World:=w.setCell a v
theorem World.cell?_growBy' {a:Addr}(h:a.block<w.heap.size):(w.growBy p).cell? a=w.cell? a:=by
 have h1:=w.heap_growBy p h;unfold World.cell?;rw[h1]
theorem World.frozen?_growBy' {a:Addr}(h:a.block<w.heap.size):(w.growBy p).frozen? a=w.frozen? a:=by
 have h1:=w.heap_growBy p h;unfold World.frozen?;rw[h1]
theorem World.frozen?_high {w:World}{a:Addr}(h:w.heap.size<=a.block):w.frozen? a=false:=by
 unfold World.frozen?;rw[Array.getElem?_eq_none h]
@[go_sem] theorem World.cell?_growBy (n i:Nat):(w.growBy p).cell? ⟨n,i,none⟩=(w.cell? ⟨n,i,none⟩).or ((w.growBy p).cellOf ⟨n,i,none⟩):=by
 cases h:w.cell? ⟨n,i,none⟩with
 |none=>rfl
 |some v=>rw[World.cell?_growBy' w p (World.block_lt_of_cell? _ _ h),h];rfl
@[go_sem 50] theorem World.cell?_alloc_or (o:Obj) (n i:Nat):(w.alloc o).cell? ⟨n,i,none⟩=(w.cell? ⟨n,i,none⟩).or ((w.alloc o).cellOf ⟨n,i,none⟩):=by
 cases h:w.cell? ⟨n,i,none⟩with
 |none=>rfl
 |some v=>rw[World.cell?_alloc_lt w o _ (World.block_lt_of_cell? _ _ h),h];rfl
@[go_sem] theorem World.frozen?_growBy (n i:Nat):(w.growBy p).frozen? ⟨n,i,none⟩=(w.frozen? ⟨n,i,none⟩||((w.cell? ⟨n,i,none⟩).isNone&&(w.growBy p).frozenOf ⟨n,i,none⟩)):=by
 by_cases hb:n<w.heap.size
 ·rw[World.frozen?_growBy' w p (a:=⟨n,i,none⟩) hb]
  unfold World.frozenOf;rw[World.frozen?_growBy' w p (a:=⟨n,i,none⟩) hb]
  cases w.frozen? ⟨n,i,none⟩ <;> simp
 ·rw[World.frozen?_high (w:=w) (a:=⟨n,i,none⟩) (by simpa using hb)]
  cases h:w.cell? ⟨n,i,none⟩with
  |none=>simp[World.frozenOf]
  |some v=>exact absurd (World.block_lt_of_cell? _ _ h) hb
@[go_sem 50] theorem World.frozen?_alloc_or (o:Obj) (n i:Nat):(w.alloc o).frozen? ⟨n,i,none⟩=(w.frozen? ⟨n,i,none⟩||((w.cell? ⟨n,i,none⟩).isNone&&(w.alloc o).frozenOf ⟨n,i,none⟩)):=by
 by_cases hb:n<w.heap.size
 ·rw[World.frozen?_alloc_old w o ⟨n,i,none⟩ (Nat.ne_of_lt hb)]
  unfold World.frozenOf;rw[World.frozen?_alloc_old w o ⟨n,i,none⟩ (Nat.ne_of_lt hb)]
  cases w.frozen? ⟨n,i,none⟩ <;> simp
 ·rw[World.frozen?_high (w:=w) (a:=⟨n,i,none⟩) (by simpa using hb)]
  cases h:w.cell? ⟨n,i,none⟩with
  |none=>simp[World.frozenOf]
  |some v=>exact absurd (World.block_lt_of_cell? _ _ h) hb
theorem World.setCell_growBy' (n i:Nat)(v:Value)(h1:n<w.heap.size):(w.growBy p).setCell ⟨n,i,none⟩ v=(w.setCell ⟨n,i,none⟩ v).growBy p:=by
 unfold World.growBy World.setCell;simp only[World.mk.injEq,and_true];apply Array.ext_getElem?;intro k;rw[Array.getElem?_modify,Array.getElem?_append,Array.getElem?_append,Array.size_modify,Array.getElem?_modify];by_cases hk:n=k
 ·subst hk;simp only[if_true];rw[if_pos h1,if_pos h1]
 ·simp only[hk,if_false]
@[go_sem] theorem World.setCell_growBy (n i:Nat) (v:Value):(w.growBy p).setCell ⟨n,i,none⟩ v=if(w.cell? ⟨n,i,none⟩).isSome then(w.setCell ⟨n,i,none⟩ v).growBy p else(w.growBy p).setCellOf ⟨n,i,none⟩ v:=by
 split
 ·rename_i h;exact World.setCell_growBy' w p n i v (World.lt_of_isSome h)
 ·rfl
@[go_sem 50] theorem World.setCell_alloc_or (o:Obj) (n i:Nat) (v:Value):(w.alloc o).setCell ⟨n,i,none⟩ v=if(w.cell? ⟨n,i,none⟩).isSome then(w.setCell ⟨n,i,none⟩ v).alloc o else(w.alloc o).setCellOf ⟨n,i,none⟩ v:=by
 split
 ·rename_i h;exact World.setCell_alloc_past (w:=w) o n i v (World.lt_of_isSome h)
 ·rfl
@[simp,go_sem] theorem World.size_growBy:(w.growBy p).heap.size=w.heap.size+p.objs.size:=Array.size_append
@[simp,go_sem] theorem World.tape_growBy:(w.growBy p).tape=w.tape:=rfl
@[simp,go_sem] theorem World.os_growBy:(w.growBy p).os=w.os:=rfl
@[simp,go_sem] theorem World.drew_growBy:(w.growBy p).drew=w.growBy ⟨p.objs,p.drawn+1⟩:=rfl
@[simp,go_sem] theorem World.drewN_growBy (n:Nat):(w.growBy p).drewN n=w.growBy ⟨p.objs,p.drawn+n⟩:=rfl
@[simp,go_sem] theorem World.growBy_growBy:(w.growBy p).growBy q=w.growBy ⟨p.objs++q.objs,q.drawn⟩:=by
 unfold World.growBy;simp[Array.append_assoc]
@[simp,go_sem] theorem World.growBy_drew:w.drew.growBy p=w.growBy p:=rfl
@[simp,go_sem] theorem World.growBy_drewN (n:Nat):(w.drewN n).growBy p=w.growBy p:=rfl
theorem b5l {B:Nat}{w:World}{o:Obj}(h:B<=w.heap.size):B<=(w.alloc o).heap.size:=by rw[World.size_alloc];omega
theorem c7m {B:Nat}{w:World}{p:Growth}(h:B<=w.heap.size):B<=(w.growBy p).heap.size:=by rw[World.size_growBy];omega
theorem c5e {B:Nat}{w:World}{a:Addr}{v:Value}(h:B<=w.heap.size):B<=(w.setCell a v).heap.size:=by rw[World.size_setCell];omega
theorem d5n {B:Nat}{w:World}(h:B<=w.heap.size):B<=w.drew.heap.size:=h
theorem below_growBy :Below w.heap.size w (w.growBy p) :=
 ⟨rfl,rfl,rfl,by simp,λ_ h=>w.heap_growBy p h⟩
theorem below_growBy' {B:Nat}{a w:World}(h:Below B a w)(hB:B<=w.heap.size)(p:Growth):Below B a (w.growBy p) :=
 h.trans ((below_growBy w p).mono hB)
abbrev zG := @below_growBy'
abbrev zA := @Below.alloc
abbrev zS := @Below.setCell
abbrev zD := @Below.drew
theorem a0q :w.grownBy (w.growBy p) none:=⟨rfl,rfl,rfl,by simp,λk hk _=>w.heap_growBy p hk⟩
theorem a0b {w w':World}(h:Below w.heap.size w w'):∃p,w'=w.growBy p:=by
 refine⟨⟨w'.heap.extract w.heap.size w'.heap.size,w'.drawn⟩,?_⟩;obtain⟨h1,h2,h3,h4,h5⟩:=h
 cases w' with
 |mk heap' tape' drawn' os' output' =>
  simp only at h1 h2 h3 h4 h5;unfold World.growBy;simp only[World.mk.injEq];refine⟨?_,h2,trivial,h1,h3⟩;apply Array.ext_getElem?;intro k;by_cases hk:k<w.heap.size
  ·rw[Array.getElem?_append_left hk];exact h5 k hk
  ·rw[Array.getElem?_append_right (by omega),Array.getElem?_extract]
   by_cases hk2:k<heap'.size
   ·rw[if_pos (by omega),show w.heap.size+(k-w.heap.size)=k from by omega]
   ·rw[if_neg (by omega)]
    exact Array.getElem?_eq_none (by omega)
end
section
variable {P:Program}
theorem Calls.grow_of {f:FuncId}{args:Array Value}{w:World}{p:Growth}{v:Value}
 (h:Calls P f args (w.growBy p) λe w'=>e= .returned v/\Below (w.growBy p).heap.size (w.growBy p) w') :
 Calls P f args (w.growBy p) λe w'=>e= .returned v/\∃q,w'=w.growBy q :=
 h.mono λ_ _ ⟨he,hb⟩=>⟨he,by obtain⟨q,rfl⟩:=a0b hb;exact⟨_,World.growBy_growBy w p q⟩⟩
theorem Calls.grow_of_same {f:FuncId}{args:Array Value}{w:World}{p:Growth}{v:Value}
 (h:Calls P f args (w.growBy p) λe w'=>e= .returned v/\w.growBy p=w') :
 Calls P f args (w.growBy p) λe w'=>e= .returned v/\∃q,w'=w.growBy q :=
 h.mono λ_ _ ⟨he,hb⟩=>⟨he,p,hb.symm⟩
theorem a0g {id:Nat}{Q:Exit->Act->World->Prop}{a:Act}{w:World}{l:List Oper}(hm:P.follows .mixedOrders=true)(hB:Region.lexB .any l.toArray=true)
 (h:wpQuiet P l.toArray (λw'=>∃p,w'=w.growBy p) (λa'=>∀w',(∃p,w'=w.growBy p)->Q .normal a' w') l a):(Code.region id l.toArray true).wp P Q a w :=
 wp_region_quiet (C:=λw'=>∃p,w'=w.growBy p) hm hB ⟨⟨#[],w.drawn+1⟩,by unfold World.growBy;simp⟩ (by simpa using h)
theorem a0e {id:Nat}{Q:Exit->Act->World->Prop}{a:Act}{w:World}{p:Growth}{l:List Oper}(hm:P.follows .mixedOrders=true)(hB:Region.lexB .any l.toArray=true)
 (h:wpQuiet P l.toArray (λw'=>∃p,w'=w.growBy p) (λa'=>∀w',(∃p,w'=w.growBy p)->Q .normal a' w') l a):(Code.region id l.toArray true).wp P Q a (w.growBy p) :=
 wp_region_quiet (C:=λw'=>∃p,w'=w.growBy p) hm hB ⟨⟨p.objs,p.drawn+1⟩,rfl⟩ (by simpa using h)
theorem a2w {W:World}{b:Nat}{c:Array Value}{t:TypeId}{f:Nat×Nat}(h:W.heap[b]? =some (.cells c t f))(i:Nat):W.cell? ⟨b,i,none⟩=c[i]? :=by
 unfold World.cell?;rw[h];rfl
theorem a0n {c:Code}{Q:Exit->Act->World->Prop}{a:Act}{w:World}(h:∀W,W=w->c.wp P Q a W):c.wp P Q a w:=h w rfl
abbrev yA := @b5l
abbrev yG := @c7m
abbrev yS := @c5e
abbrev yD := @d5n
end
theorem zF {P:Prop}(h:P:=by first|with_reducible (first|exact a1b _|exact a2d _|assumption|exact c6y (by omega))|exact⟨by omega,by omega⟩):P:=h
theorem zE {α:Type}(a:α):∃x,a=x:=⟨_,rfl⟩
theorem zU :(∀ {α:Type} (a:α) (l:List α) (n:Nat),List.drop (n+1) (a::l)=List.drop n l)/\(∀ {α:Type} (l:List α),List.drop 0 l=l):=⟨λ_ _ _=>rfl,λ_=>rfl⟩
theorem zT :(∀ {α:Type} (a:α) (l:List α) (n:Nat),List.drop (n+1) (a::l)=List.drop n l)/\(∀ {α:Type} (l:List α),List.drop 0 l=l)/\(∀ {α:Type} (a:α) (l:List α) (n:Nat),List.take (n+1) (a::l)=a::List.take n l)/\(∀ {α:Type} (l:List α),List.take 0 l=[]):=⟨λ_ _ _=>rfl,λ_=>rfl,λ_ _ _=>rfl,λ_=>rfl⟩
theorem oM {P:Prop}(h:P:=by omega):P:=h
theorem zM {P:Prop}(h:P:=by kernel_rfl):P:=h
theorem qM {P:Prop}(h:P:=by rfl):P:=h
theorem jM {P:Prop}(h:P:=by decide):P:=h
theorem vM {P:Prop}(h:P:=by simp):P:=h
theorem uM {P:Prop}(h:P:=by simp;omega):P:=h
theorem gM {P:Prop}(h:P:=by assumption):P:=h
theorem oK {P:Prop}(h:P:=by unfold maxLen;omega):P:=h
theorem zC {P:Prop}(h:P:=by repeat' (first|with_reducible (first|exact zR _ _|exact yR _|assumption|refine zG ?_ ?_ _|refine zA ?_ ?_ _|refine zS ?_ ?_ _|refine zD ?_|refine yA ?_|refine yG ?_|refine yS ?_|refine yD ?_)|omega|(dsimp only;omega))):P:=h
theorem yaa {P:Prop}(h:P:=by
  go_wp2_with fail;first|with_reducible refine a0e zM zM ?_|with_reducible refine a0g zM zM ?_
  repeat(first|go_big_quiet_step (fail)|quiet_step (fail))
  refine wpQuiet_nil ?_;intro _ hw_;obtain⟨p,hw_⟩:=hw_;subst hw_;go_wp2_with fail;first|with_reducible refine a0e zM zM ?_|with_reducible refine a0g zM zM ?_
  repeat(first|go_big_quiet_step (fail)|quiet_step (fail))
  refine wpQuiet_nil ?_;intro _ hw_;obtain⟨p,hw_⟩:=hw_;subst hw_;go_wp2_with fail;refine a0n (λwy hwy=> ?_);have hBy:Below wr.heap.size wr wy:=by
   rw[hwy];exact zC
  clear hwy;replace hB:=hB.trans (hBy.mono hB.size);replace kX:=kX.below hBy lX;replace lX:=kX.lt;replace hDe:=hDe.up hBy hBy.size;have hTk:=hDe.take k cap hk;obtain⟨lk,hlk⟩:∃lk:List Dt,lk=l.take k++[⟨x,y,kd,id⟩]:=⟨_,rfl⟩;have hlkl:=Lib.hid (show lk.length=(l.take k).length+1 by rw[hlk,List.length_append];rfl);have hlkf:=Lib.hid (show lk.flatMap a2c=(l.take k).flatMap a2c++a2c ⟨x,y,kd,id⟩ by rw[hlk,List.flatMap_append];simp);have hlkn:lk.length<=100001:=by rw[hlkl.out,List.length_take];omega
  replace hlk:=Lib.hid hlk;clear x0 x1 x2 x3 hB1;obtain⟨x0,x1,x2,x3⟩:=b3k kX;go_region_law
   (first
    |(refine a3l qM _ _ qM wy.heap.size _ qM (a5p ?_ ?_) _ (l.take k) qM (hTk.up zC zC) (by rw[List.length_take];omega) zC ?_;(first|exact Blk.new _ _ _|(have h:=(Blk.new (wy.alloc (.cells #[.int .i64 x,.int .i64 y,.int .i64 kd,.int .i64 id] 54)) #[] 54).drew;rw[World.size_alloc]at h;exact h)|exact((Blk.new wy #[] 54).alloc _).drew);(first|exact yR _|(simp;done)|omega);intro v6 w6 hrow6 hb6;have hb46:Below wy.heap.size wy w6:=Below.trans zC (hb6.mono zC);have hs46:=hb46.size;obtain⟨d0,d1,d2,d3⟩:=b3k (kX.below hb46 lX))
    |((first|(refine step_append_lies _ qM _ _ _ qM wy.heap.size 54 i0 _ 4 32 underlying41 hi0 hz0 hz1 hz2 rfl oM v6 (l.take k).length _ qM (hrow6.alloc _) ⟨w6.heap.size,0,none⟩ 1 1 (a2c ⟨x,y,kd,id⟩) qM qM (a8z (Blk.new _ _ _)) (by simp[Value.oneCell']) oM (by unfold maxLen;rw[List.length_take];omega) (by rw[List.length_take];omega) zC _ rfl ?_)|(refine step_append_lies _ qM _ _ _ qM wy.heap.size 54 i0 _ 4 32 underlying41 hi0 hz0 hz1 hz2 rfl oM v6 (l.take k).length _ qM hrow6 ⟨wy.heap.size,0,none⟩ 1 1 (a2c ⟨x,y,kd,id⟩) qM qM (a8z (((Blk.new wy #[.int .i64 x,.int .i64 y,.int .i64 kd,.int .i64 id] 54).alloc (.cells #[] 54)).drew.below hb6 (by simp;try omega))) (by simp[Value.oneCell']) oM (by unfold maxLen;rw[List.length_take];omega) (by rw[List.length_take];omega) zC _ rfl ?_)|(refine step_append_lies _ qM _ _ _ qM wy.heap.size 54 i0 _ 4 32 underlying41 hi0 hz0 hz1 hz2 rfl oM v6 (l.take k).length _ qM hrow6 ⟨wy.heap.size+1,0,none⟩ 1 1 (a2c ⟨x,y,kd,id⟩) qM qM (a8z (by have h:=(Blk.new (wy.alloc (.cells #[] 54)) #[.int .i64 x,.int .i64 y,.int .i64 kd,.int .i64 id] 54).drew.below hb6 (by simp;try omega);simpa using h)) (by simp[Value.oneCell']) oM (by unfold maxLen;rw[List.length_take];omega) (by rw[List.length_take];omega) zC _ rfl ?_));intro g7 cap7 w7 hown7 hgrow7 hat7 hlt7;have hb47:Below wy.heap.size wy w7:=(by first|exact hb46.grown hgrow7 hb46.size (λr e=>(hrow6.lt r e).1)|exact(hb46.alloc hb46.size _).grown hgrow7 (Nat.le_trans hb46.size vM) (λr e=>(hrow6.lt r e).1));have hown7':w7.ownsRow wy.heap.size 54 4 (.slice (some ⟨g7,0,none⟩) ((l.take k).length+1) cap7) lk.length (lk.flatMap a2c):=(by rw[hlkl.out,hlkf.out];exact hown7);obtain⟨v7,hv7⟩:∃v,v=Value.slice (some ⟨g7,0,none⟩) ((l.take k).length+1) cap7:=⟨_,rfl⟩;rw[<-hv7]at hown7' ⊢;clear hv7)
    |(refine a5t qM _ _ qM wy.heap.size v7 lk (l.drop k) qM hown7' g (k*4) _ _ rfl ((hDe.drop k _ _ _ hk (.inl oM) oM).up hb47 hb47.size) (by rw[List.length_drop];omega) hb47.size ?_;intro v8 w8 hown8 hgrow8))
  all_goals
   have hb48:=hb47.grown hgrow8 hb47.size (λr e=>(hown7'.lt r e).1);try go_simp
   exact yix):P:=h
theorem yab {P:Prop}(h:P:=by
  have hA1:=Ev.alloc (X:=noB) evr.ok (c4q (S:=S) (W:=wr) (e:=3));have slE:SL (λb=>S b\/b=wr.heap.size) (wr.alloc (.cells #[] 3)) 3 (.slice (some ⟨wr.heap.size,0,none⟩) 0 0) 0:=SL.blk (.inr rfl) (Blk.new _ _ _) vM;have hslA:=(evr.trans hA1).sl hsl;go_upto_region 7 with(first
   |(refine a5e qM 51 _ _ qM underlying51 a7j qM qM hslA ht ?_;intro v38 h38)
   |(at_builtin;refine a1k (X:=noB) hA1.ok qM _ _ 51 qM underlying51 a7j qM slE qM h38 oM ?_;intro v6 S6 W6 hsl6 he6))
  have ev6:=(evr.trans hA1).trans he6;have hslL:=ev6.sl hsl;rw[Nat.zero_add]at hsl6;refine Go.wp_region_reln 7 zM zM (λ_ g W=>Ev noB S6 W6 g W) (λg W g' W'=>Ev noB g W g' W') (FPu (Value.slice (some ⟨b,off,none⟩) n cap) v6 n t x) (λ_ _ _ _ _ _ h g=>h.kept g) S6 (Ev.drew ev6.ok) ?_ ?_
  ·clear hslA slE hA1 he6 evr
   intro i o hi ho c bb g W hc hM hA hD K hK;match i,hi,ho with
   |0,_,ho =>
    exact ygy
   |1,_,ho =>
    exact yft
   |2,_,ho =>
    exact yde
   |3,_,ho =>
    exact ydp
   |4,_,ho =>
    cases ho;have f0:bb.tmps[0]?.getD undef=(Value.slice (some ⟨b,off,none⟩) n cap):=a0a (v:=(Value.slice (some ⟨b,off,none⟩) n cap)) (hA.at_ (k:=0) zM);go_simp;exact hK (Value.slice (some ⟨b,off,none⟩) n cap) g W rfl (Ev.refl hM.ok) hM
   |5,_,ho =>
    cases ho;have f5:bb.tmps[5]?.getD undef= .int .i64 (t:Nat):=a0a (v:= .int .i64 (t:Nat)) (hA.at_ (k:=5) zM);go_simp;exact hK (.int .i64 (t:Nat)) g W rfl (Ev.refl hM.ok) hM
   |6,_,ho =>
    cases ho;have f44:bb.eval (.tmp 44)=(Value.slice (some ⟨b,off,none⟩) n cap):=a0d hD 4 44 zM rfl rfl;have f45:bb.eval (.tmp 45)= .int .i64 (t:Nat):=a0d hD 5 45 zM rfl rfl;rw[if_pos (by simp[Region.wanted])];exact b0g 51 _ _ rfl underlying51 a7j f44 f45 (hM.sl hslL) ht (λv' h1=>hK v' g W h1 (Ev.refl hM.ok) hM)
   |i+7,hi,_=>exact absurd hi oM
  ·intro bb g W hM hA hall
   have h3:SL g W 3 (bb.eval (.tmp 43)) (t+1):=hall 3 oM _ _ rfl rfl;have h6:SL g W 3 (bb.eval (.tmp 46)) (n-t):=hall 6 oM _ _ rfl rfl;obtain⟨va,hva⟩:=zE (bb.eval (.tmp 43));obtain⟨vb,hvb⟩:=zE (bb.eval (.tmp 46));rw[hva]at h3;rw[hvb]at h6;have hfr:=hA.frame (rT 40 (rF 7 (rT 1 ([])))) _ rfl zM;clear hall hA;obtain⟨f,hf⟩:∃f:Nat->Value,(λk=>bb.tmps.getD k undef)=f:=⟨_,rfl⟩;have g43:f 43=va:=by rw[<-hf,<-hva];rfl
   have g46:f 46=vb:=by rw[<-hf,<-hvb];rfl
   rw[hf]at hfr;clear hf hva hvb;subst hfr;simp only[rT,rF,a1z,g43,g46,Nat.reduceAdd];clear g43 g46;simp only[zU];go_wp2_with (first
    |(at_builtin;refine a1k (X:=noB) hM.ok qM _ _ 51 qM underlying51 a7j qM h3 qM h6 oM ?_;intro v9 S9 w9 hsl9 he9))
   go_ret;exact⟨S9,_,rfl,⟨t+1+(n-t),hsl9,oM⟩,(ev6.trans hM).trans he9⟩):P:=h
theorem yac {P:Prop}(h:P:=by
  clear k0 k8 k9;go_upto_region 17 with(first
   |(go_at_call 167;with_reducible refine(a2t c false hdg.out _).mono ?_;rintro e w'⟨rfl,rfl⟩)
   |(go_at_call 169;with_reducible refine(hsn _).mono ?_;rintro e w'⟨rfl,rfl⟩))
  refine Go.wp_region_rel 11 zM zM (λ_ W=>Below wc.heap.size wc W) (λw w'=>Below w.heap.size w w') (FEc wc c qi qr qx qy) (λ_ _ _ _ h g=>FEc.kept (w0:=wc) (c:=c) (qi:=qi) (qr:=qr) (qx:=qx) (qy:=qy) h g) (zR _ _).drew ?_ ?_
  ·clear hdg hsn hok
   intro ii o hi ho cc bb W hcc hM hA hD K hK;match ii,hi,ho with
   |0,_,ho =>
    exact yem
   |1,_,ho =>
    exact yhc
   |2,_,ho =>
    cases ho;have f79:=a0a (v:= .int .u8 (c:Nat)) (a0c hD 1 79 zM rfl rfl);go_simp;exact hK (.int .u8 (qi:Nat)) W rfl (zR _ _) hM
   |3,_,ho =>
    cases ho;have f78:=a0c hD 0 78 zM rfl rfl;have f80:=a0a (v:= .int .u8 (qi:Nat)) (a0c hD 2 80 zM rfl rfl);obtain⟨L,h1,h2⟩:=f78;have e78:=a0a h1;go_simp;exact hK (.pointer (some ⟨L,qi,none⟩)) W ⟨L,rfl,h2⟩ (zR _ _) hM
   |4,_,ho =>
    cases ho;have f81:=a0c hD 3 81 zM rfl rfl;obtain⟨L,h1,h2⟩:=f81;have e81:=a0a h1;have c_:=(h2.cell qi).trans hx;go_simp;exact hK (.int .i64 (qx:Nat)) W rfl (zR _ _) hM
   |5,_,ho =>
    exact yem
   |6,_,ho =>
    exact yhc
   |7,_,ho =>
    cases ho;have f84:=a0a (v:= .int .u8 (c:Nat)) (a0c hD 6 84 zM rfl rfl);go_simp;exact hK (.int .u8 (qr:Nat)) W rfl (zR _ _) hM
   |8,_,ho =>
    cases ho;have f83:=a0c hD 5 83 zM rfl rfl;have f85:=a0a (v:= .int .u8 (qr:Nat)) (a0c hD 7 85 zM rfl rfl);obtain⟨L,h1,h2⟩:=f83;have e83:=a0a h1;go_simp;exact hK (.pointer (some ⟨L,qr,none⟩)) W ⟨L,rfl,h2⟩ (zR _ _) hM
   |9,_,ho =>
    cases ho;have f86:=a0c hD 8 86 zM rfl rfl;obtain⟨L,h1,h2⟩:=f86;have e86:=a0a h1;have c_:=(h2.cell qr).trans hy;go_simp;exact hK (.int .i64 (qy:Nat)) W rfl (zR _ _) hM
   |10,_,ho =>
    cases ho;have f82:=a0a (v:= .int .i64 (qx:Nat)) (a0c hD 4 82 zM rfl rfl);have f87:=a0a (v:= .int .i64 (qy:Nat)) (a0c hD 9 87 zM rfl rfl);go_simp;exact hK (.slice (some ⟨W.heap.size,0,none⟩) 3 3) _ ⟨_,rfl,Blk.new _ _ _⟩ ((zR _ _).alloc (yR _) _) (hM.alloc hM.size _)
   |i+11,hi,_=>exact absurd hi oM
  ·intro bb W hM hA hall
   obtain⟨L,hP10,hL⟩:=(show ∃L,bb.eval (.tmp 88)= .slice (some ⟨L,0,none⟩) 3 3/\Blk W L #[.int .i64 8,.int .i64 (qx:Nat),.int .i64 (qy:Nat)] 3 from hall 10 oM _ _ rfl rfl);have hfr:=hA.frame (rT 78 (rF 11 ([]))) _ rfl zM;clear hall hA;obtain⟨f,hf⟩:∃f:Nat->Value,(λk=>bb.tmps.getD k undef)=f:=⟨_,rfl⟩;have g88:f 88= .slice (some ⟨L,0,none⟩) 3 3:=by rw[<-hf,<-hP10];rfl
   rw[hf]at hfr;clear hf hP10;subst hfr;simp only[rT,rF,a1z,g88,Nat.reduceAdd];clear g88;simp only[zU];go_wp2_with fail;go_ret;rw[<-hqx.out,<-hqy.out]at hL;rw[e1.out];exact⟨_,rfl,hM,hL⟩):P:=h
theorem yad {P:Prop}(h:P:=by
  clear hd hd2;go_upto_region 11 with(first
   |(go_at_call 73;(with_reducible refine(hd3.call 3 oM oM).mono ?_);rintro e W4⟨a,rfl,a0,a1,hd4⟩)
   |(go_at_call 73;(with_reducible refine(hd4.call 2 oM oM).mono ?_);rintro e W5⟨b,rfl,b0,b1,hd5⟩)
   |(go_at_call 73;(with_reducible refine(hd5.call 51 oM oM).mono ?_);rintro e W6⟨c,rfl,c0,c1,hd6⟩)
   |(go_at_call 73;(with_reducible refine(hd6.call 60 oM oM).mono ?_);rintro e W7⟨t,rfl,t0,t1,hd7⟩))
  have hn6:l.length<=6:=oM;have f0:fits (61+(l.length:Int)):=⟨oM,oM⟩;have f5:fits (1+t):=⟨oM,oM⟩;refine a0n (λW8 hW8=> ?_);obtain⟨X,Y,fX,fY,hd8⟩:∃X Y,fits X/\fits Y/\DP n₀ D sv xs S w S' W8 [(W7.heap.size,d8e (61+l.length) X Y ⟨#[]⟩ ⟨#[]⟩ (1+t) 0,66),(B2,b7p ev fv wv pv,37)] [(206,ev,ne),(140,fv,nf)] (.slice oa l.length oc) l:=by
   rw[hW8];refine⟨_,_,?_,?_,hd7.box _ _⟩
   ·exact⟨oM,oM⟩
   ·exact⟨oM,oM⟩
  obtain⟨BP,hBP⟩:=zE W7.heap.size;rw[hBP]at hd8;rw[hBP];clear hW8 hBP hd3 hd4 hd5 hd6 hd7;have st1:Strs #[.string ⟨#[116,114,101,101]⟩,.string ⟨#[116,114,101,101]⟩,.string ⟨#[115,104,111,112]⟩]:=a9p [⟨#[116,114,101,101]⟩,⟨#[116,114,101,101]⟩,⟨#[115,104,111,112]⟩] jM;go_upto_region 12 with(first
   |(go_at_call 73;(with_reducible refine((hd8.box _ _).call 3 oM oM).mono ?_);rintro e Wb⟨q,rfl,q0,q1,hb⟩;obtain⟨q,rfl⟩:=Int.eq_ofNat_of_zero_le q0;obtain⟨s1,cs1,hs1⟩:=st1.at_ hb.d.b0 (q:=q) uM;have hdB:=hb.tail;obtain⟨z0,z1,z2,z3,z4,z5,z6⟩:=b9e hdB.d.b0;have zf:=hdB.d.b0.frozen 3))
  refine a0n (λWC hWC=> ?_);have hdC:=hdB.put hWC (c':=d8e (61+l.length) X Y s1 ⟨#[]⟩ (1+t) 0) rfl;clear hd8 hdB hb hWC z0 z1 z2 z3 z4 z5 z6 zf cs1 st1;have st2:Strs #[.string ⟨#[]⟩,.string ⟨#[]⟩,.string ⟨#[71,97,116,101]⟩,.string ⟨#[79,97,107]⟩,.string ⟨#[84,104,101,32,87,101,108,108]⟩]:=a9p [⟨#[]⟩,⟨#[]⟩,⟨#[71,97,116,101]⟩,⟨#[79,97,107]⟩,⟨#[84,104,101,32,87,101,108,108]⟩] jM;go_upto_region 13 with(first
   |(go_at_call 73;(with_reducible refine((hdC.box _ _).call 5 oM oM).mono ?_);rintro e Wd⟨q',rfl,q'0,q'1,hd⟩;obtain⟨q',rfl⟩:=Int.eq_ofNat_of_zero_le q'0;obtain⟨s2,cs2,hs2⟩:=st2.at_ hd.d.b0 (q:=q') uM;have hdD:=hd.tail;obtain⟨z0,z1,z2,z3,z4,z5,z6⟩:=b9e hdD.d.b0;have zf:=hdD.d.b0.frozen 4))
  refine a0n (λWE hWE=> ?_);have hdE:=hdD.put hWE (c':=d8e (61+l.length) X Y s1 s2 (1+t) 0) rfl;clear hdC hdD hd hWE z0 z1 z2 z3 z4 z5 z6 zf cs2 st2;obtain⟨z0,z1,z2,z3,z4,z5,z6⟩:=b9e hdE.d.b0;obtain⟨m0,m1,m2,m3⟩:=a1v hdE.d.b1;go_upto_region 14 with(first
   |(go_at_call 134;(with_reducible refine(d6m S' WE hdE.d.tw ev ne hdE.d.s0 hne X Y fX fY).mono ?_);rintro e WA⟨⟨x,bo,rfl⟩,hbA⟩))
  have hdA:=hdE.up hbA;clear hdE hbA z0 z1 z2 z3 z4 z5 z6 m0 m1 m2 m3;obtain⟨m0,m1,m2,m3⟩:=a1v hdA.d.b1;go_upto_region 15 with(first
   |(go_at_call 135;(with_reducible refine(hFD S' WA hdA.d.tw hdA.d.s1 x).mono ?_);rintro e WF⟨⟨d,rfl,fd⟩,hbF⟩;have hdF:=hdA.up hbF;obtain⟨z0,z1,z2,z3,z4,z5,z6⟩:=b9e hdF.d.b0;have zf:=hdF.d.b0.frozen 6))
  refine a0n (λWG hWG=> ?_);have hdG:=hdF.pd hWG;clear hdA hbF hdF hWG m0 m1 m2 m3 z0 z1 z2 z3 z4 z5 z6 zf;obtain⟨z0,z1,z2,z3,z4,z5,z6⟩:=b9e hdG.d.b0
  cases bo
  ·exact yhn
  ·by_cases hd0:0<d
   ·go_wp2_with (first
     |(at_builtin;refine El.pushO a4f d5b qM _ _ qM qM hdG.row ⟨61+(l.length:Int),X,Y,s1,s2,1+t,d⟩ qM rfl (hdG.d.st.ev.size) oM ?_;intro v9 w9 hr9 hn9 hg9 hb9))
    go_roundw
    case rel=>exact⟨k+1,S',l++[⟨61+(l.length:Int),X,Y,s1,s2,1+t,d⟩],oM,by go_num,by rw[List.length_append];simp;omega,hok.push ⟨f0,fX,fY,f5,show s2.size<=1000 from by omega⟩ (show s1.size<=1000 from oM) rfl,(hdG.more hr9 hg9 hn9).tail⟩
    case measure=>simp[intOf];omega
   ·exact yhn):P:=h
theorem yae {P:Prop}(h:P:=by
  have hsrc:Src prog i.size t (.slice xa m xc) m news W:=by
   exact ydq
  have hv':=hv;obtain⟨a,cap,olds,rfl,hnc',hol,hoc,hot,ho1,ha0⟩:=hv.cells hT he;by_cases hroom:n+m<=cap
  ·obtain⟨a2,cap2,h2,-,h3⟩:=hv'
   cases h2;rcases h3 with⟨rfl,rfl⟩|⟨b,o,c,rfl,hb,hc,hcl⟩
   ·obtain rfl:n=0:=oM
    obtain rfl:m=0:=oM;refine⟨.slice none 0 0,S,W,?_,⟨none,0,rfl,yR _,.inl ⟨rfl,rfl⟩⟩,Ev.refl hT,zR _ _,b6k _⟩;simp[Builtin.append_,run_underlying ht,sizeOf,typeInfo,hi,hsrc.len,hsrc.cells]
   ·have hob:base<=b:=hown _ _ _ rfl
    rw[hss]at hcl ⊢;have hmul:(n+m)*s<=cap*s:=Nat.mul_le_mul_right s hroom;rw[Nat.add_mul]at hmul hcl;have hcell:∀j,j<news.length->(W.cell? ⟨b,o*s+n*i.size+j,none⟩).isSome=true:=λj hj=>by
     rw[hc.cell,hsz,Array.getElem?_eq_getElem oM];rfl
    have hr:=run_append_room_src (P:=prog) W t t ty e i ht hi b (o*s) n cap (.slice xa m xc) m news hsrc hroom hcell (λj hj=>hc.frozen _);refine⟨_,S,_,hr,?_,?_,a7k hob news _ W hbase,λa' k' c' e'=>by cases e';exact hob⟩
    ·exact ydv
    ·exact yfx
  ·have hold:(Builtin.firstCells i.size n (.slice a n cap)).run prog W.drew= .ok olds.toArray W.drew:=by
    exact ydc
   have hge:=grownCap_ge W (n+m) cap e;have hcap:Builtin.nextslicecap (n+m) cap*i.bytes<=281474976710656:=growslice_fits oM (Nat.le_trans (Nat.mul_le_mul hl hby) jM);have hr:=run_append_grow_src (P:=prog) W t t ty e i z ht hi hz a n cap olds hold (.slice xa m xc) m news hsrc oM oM hcap;have hTd:=(Ev.drew (X:=X) hT).ok;have hdr:=Ev.drew (X:=X) hT;have hB:TB S W.drew e ((olds++news).toArray++Builtin.zeroCells z.cells (grownCap W (n+m) cap e-(n+m))):=by
    exact yap
   have hA:=Ev.alloc (X:=X) hTd hB;refine⟨_,_,_,hr,?_,hdr.trans hA,(zR _ W).drew.alloc hbase _,λa' k' c' e'=>by cases e';exact hbase⟩;exact ydy):P:=h
theorem yaf {P:Prop}(h:P:=by
  have hmf:∀(fn:Fn) (first cap:Array Value) (w:World),(Instr.makeFunc fn first cap).run prog w= .ok (.func fn first cap) w:=λ_ _ _ _=>rfl
  have hP9:Blk w9 (w.heap.size+1+1) #[.slice da pl.dots.length dc,kv,.slice (some ⟨lb,loff,none⟩) pl.left.length lc] 45:=hD9.o (w.heap.size+1+1,#[.slice da pl.dots.length dc,kv,.slice (some ⟨lb,loff,none⟩) pl.left.length lc],45) (by unfold a3t;simp);have hS9:Blk w9 (w.heap.size+1) #[.int .i64 s.ax,.int .i64 s.ay,.int .i64 s.st,.int .i64 s.w,.int .i64 s.h,.int .i64 s.g] 28:=hD9.o (w.heap.size+1,#[.int .i64 s.ax,.int .i64 s.ay,.int .i64 s.st,.int .i64 s.w,.int .i64 s.h,.int .i64 s.g],28) (by unfold a3t;simp);have q0:w9.cell? ⟨w.heap.size+1+1,0,none⟩=some (.slice da pl.dots.length dc):=hP9.cell 0;have hCl:=c3c (.slice da pl.dots.length dc) pl.dots w9 (hd.up hD9.bel) hdf oM;have hfl:=List.length_filter_le (λd=> !a5o lk li d) pl.dots;have hosm:∀d∈pl.dots.filter (λd=> !a5o lk li d),Sm d:=λd hd=>hsm d (List.mem_filter.1 hd).1
  gi_upto_region 13 with(first
   |(refine⟨trivial,?_⟩;gi_at_call 109;refine(CallsIn.inRound ly (callsIn_wide.2 hCl)).mono ?_;rintro e w10⟨uc,rfl,hr10,hb10⟩)
   |(refine⟨trivial,?_⟩;gi_at_call 108;refine(CallsIn.inRound ly (callsIn_wide.2 (b9s w9.heap.size uc pl.dots BX lp lk li w10 oM (kX.below hb10 kX.lt) hr10))).mono ?_;rintro e w11⟨u,rfl,hr11,hg11,-⟩))
  clear hmf hCl q0 x0 x1 x2 r0 r7 r8 l0;have hb11:Below w9.heap.size w9 w11:=hb10.grown hg11 hb10.size λr e=>(hr10.lt r e).1
  have hD11:=hD9.below hb11;have hk11:=hk9.trans (hD9.keepP hb11);have hB11:=hB9.below hb11 hB9.lt;have hS11:=hS9.below hb11 hS9.lt;have hdl11:=hdl9.up hb11;have r7:w11.cell? ⟨B,7,none⟩=some (.slice xa dl.length xc):=hB11.cell 7;have s5:w11.cell? ⟨w.heap.size+1,5,none⟩=some (.int .i64 s.g):=hS11.cell 5;have hCs:=b8k s.g u (.slice xa dl.length xc) (pl.dots.filter λd=> !a5o lk li d) dl w11 (a0h a8a hr11 oM) (a1p hr11) hdl11 hdfl;rw[c4z hosm hdsm]at hCs;clear hP9 hS9 hosm hfl hb10 hr10 hg11 hr11 hb11 hB11 hS11 hdl11 hD9 hk9 hB9 hdl9
  cases hq:a6f s.g (pl.dots.filter λd=> !a5o lk li d) dl with
  |none =>
   rw[hq]at hCs hc2;replace hCs:Calls _ _ _ _ λe w'=>e= .returned (.tuple #[dtV ⟨0,0,0,0⟩,.bool false])/\Below w11.heap.size w11 w':=hCs
   clear hq hT;gi_wp2_with (first
    |(refine⟨trivial,?_⟩;gi_at_call 36;refine(CallsIn.inRound ly (callsIn_wide.2 hCs)).mono ?_;rintro e w12⟨rfl,hb12⟩)
    |(refine⟨trivial,?_⟩;gi_at_call 106;refine(CallsIn.inRound ly (callsIn_wide.2 (a2u 42 _))).mono ?_;rintro e w10⟨rfl,rfl⟩))
   first|exact⟨hF hc2,((hD11.below hb12).below ((zR _ _).alloc (yR _) _)).bel⟩|exact⟨(hk11.trans (hD11.keepP hb12)).trans ((hD11.below hb12).keepP ((zR _ _).alloc (yR _) _)),((hD11.below hb12).below ((zR _ _).alloc (yR _) _)).bel⟩
  |some d =>
   rw[hq]at hCs hc2;obtain⟨d0,d1,d2,d3⟩:=d;replace hCs:Calls _ _ _ _ λe w'=>e= .returned (.tuple #[dtV ⟨d0,d1,d2,d3⟩,.bool true])/\Below w11.heap.size w11 w':=hCs
   clear hq hF;gi_wp2_with (first
    |(refine⟨trivial,?_⟩;gi_at_call 36;refine(CallsIn.inRound ly (callsIn_wide.2 hCs)).mono ?_;rintro e w12⟨rfl,hb12⟩)
    |(refine⟨trivial,?_⟩;gi_at_call 106;refine(CallsIn.inRound ly (callsIn_wide.2 (a3d 42 _))).mono ?_;rintro e w10⟨rfl,rfl⟩))
   exact⟨(hk11.trans (hD11.keepP hb12)).trans ((hD11.below hb12).keepP ((zR _ _).alloc (yR _) _)),m+1,_,_,hT hc2,by simp;omega,hset7,(hD11.below hb12).below ((zR _ _).alloc (yR _) _)⟩):P:=h
theorem yag {P:Prop}(h:P:=by
  have hgA:W.grownBy (W.alloc (.cells (bx x) tb)) none:=World.grownBy_alloc W _ none;obtain⟨Wa,hWa⟩:=zE (W.alloc (.cells (bx x) tb));have hsa:Wa.heap.size=W.heap.size+1:=by rw[<-hWa];simp
  have hba:∀k,k<W.heap.size->Wa.heap[k]? =W.heap[k]? :=λk hk=>by rw[<-hWa];exact hgA.block k hk vM
  have hka:Blk Wa W.heap.size (bx x) tb:=by rw[<-hWa];exact Blk.new _ _ _
  have hia:I pre Wa:=by rw[<-hWa];exact hI pre W _ none hi hgA vM
  have hca:∀k,C Wa k->C W k:=λk hk=>by rw[<-hWa]at hk;exact hIC pre W _ none k hi hgA vM hk
  have hxa:Kx pre x Wa:=by rw[<-hWa];exact hKa pre x W _ hkx
  have hla:Wa.heap[D+1]? =some (.loop (R .ready none)):=(hba _ hlt).trans hl;have hda:Wa.heap[D]? =some (.deferred (some [])):=(hba _ oM).trans hd;have hlW:W.heap[D+1]? =some (.loop (R .ready none)):=hl;have hsz:D+1<W.heap.size:=hlt;have hbWa:Below n0 W Wa:=by rw[<-hWa];exact a1n hgA oM (λr e=>by cases e)
  rw[hWa];refine⟨_,run_beginRound hla rfl,?_⟩;obtain⟨W2,hW2⟩:∃W2,Wa.putObj (D+1) (.loop { R .ready none with state:= .busy })=W2:=⟨_,rfl⟩;have hlta:D+1<Wa.heap.size:=oM;have hl2:W2.heap[D+1]? =some (.loop { R .ready none with state:= .busy }):=by rw[<-hW2];exact World.putObj_heap_same hlta
  have hd2:W2.heap[D]? =some (.deferred (some [])):=by rw[<-hW2];exact(World.putObj_heap_other oM).trans hda
  have hi2:I pre W2:=by
   rw[<-hW2];exact hI pre Wa _ (some (D+1)) hia (grownBy_putObj' Wa _ _) (λr e=>by cases e;exact⟨oM,hCl Wa _ _ hla rfl⟩)
  have hkx2:Kx pre x W2:=by rw[<-hW2];exact hKp pre x Wa _ _ _ hla rfl rfl hxa
  have hbW:Below n0 W W2:=hbWa.trans (by rw[<-hW2];exact a1n (grownBy_putObj' Wa (D+1) _) oM (λr e=>by cases e;omega));have hs2:W2.heap.size=W.heap.size+1:=by rw[<-hW2,<-hsa];simp
  have hc2:∀k,C W2 k->C W k:=λk h=>by rw[<-hW2]at h;exact hca k ((hC Wa _ k _ _ hla rfl rfl).1 h)
  have hb2:∀k,k<W.heap.size->k≠D+1->W2.heap[k]? =W.heap[k]? :=λk hk hne=>by rw[<-hW2];exact(World.putObj_heap_other hne).trans (hba k hk)
  have hB2:Blk W2 W.heap.size (bx x) tb:=by rw[<-hW2];exact(World.putObj_heap_other oM).trans hka
  show body.wpIn (F.inRound (D+1)) (n-1-1) P _ _ (Wa.putObj (D+1) (.loop { R .ready none with state:= .busy }));rw[hW2];refine wpIn_mono (hbody _ pre x W2 W.heap.size hi2 hkx2 hB2 oM (λk hk=>by have:=hCs pre W k hi (hc2 k hk);omega) hlen) ?_;rintro e a3 W3 (⟨rfl,⟨hk,hkb⟩,hi3⟩|⟨ch,rfl,hd0,⟨hk,hkb⟩,hp3⟩)
  rotate_left
  ·exact⟨hd0,.inr ⟨ch,rfl,hp3,(hk.same _ oM (hCl W2 _ _ hd2 rfl)).trans hd2⟩⟩
  have hl3:W3.heap[D+1]? =some (.loop { R .ready none with state:= .busy }):=(hk.same _ oM (hCl W2 _ _ hl2 rfl)).trans hl2;have hd3:W3.heap[D]? =some (.deferred (some [])):=(hk.same _ oM (hCl W2 _ _ hd2 rfl)).trans hd2;have hlt3:D+1<W3.heap.size:=(Array.getElem?_eq_some_iff.1 hl3).1;have hr:=run_endRound (P:=P) none hl3;refine⟨_,_,hr,.inl ⟨rfl,⟨?_,World.putObj_heap_same hlt3,(World.putObj_heap_other oM).trans hd3⟩,⟨⟨?_,λk hlk hnc=> ?_,λk hc=> ?_⟩,(hbW.trans hkb).trans (a1n (grownBy_putObj' W3 (D+1) _) (by have:=hbW.size;have:=hkb.size;omega) (λr e=>by cases e;omega))⟩⟩⟩
  ·exact hI _ W3 _ (some (D+1)) hi3 (grownBy_putObj' W3 _ _) (λr e=>by cases e;exact⟨oM,hCl W3 _ _ hl3 rfl⟩)
  ·have:=hk.size
   rw[hs2]at this;simp;omega
  ·by_cases hkl:k=D+1
   ·subst hkl
    rw[hl];exact World.putObj_heap_same hlt3
   ·exact(World.putObj_heap_other hkl).trans ((hk.same k oM (λh=>hnc (hc2 k h))).trans (hb2 k hlk hkl))
  ·rcases hk.mine k ((hC W3 _ k _ _ hl3 rfl rfl).1 hc)with h|h
   ·exact .inl (hc2 k h)
   ·exact .inr oM):P:=h
theorem yah {P:Prop}(h:P:=by
  have ck4:=hB9.ck;have fk4:=hB9.fk;go_wp2_with fail;refine⟨⟨n+1,f,w9.heap.size,_,rfl,oM,oM,?_,hnext,hB9.newk _⟩,?_⟩
  ·simp only[List.length_append,List.length_cons,List.length_nil]at hcs3 ⊢
   omega
  ·rw[(hB9.newk _).kOf,hkn.out]
   simp;omega):P:=h
theorem yai {P:Prop}(h:P:=by
  go_upto_region 16 with fail;go_upto_if 53 with(first
   |(go_at_call 73;(with_reducible refine(hd.call 3 oM oM).mono ?_);rintro e W2⟨q,rfl,q0,q1,hd2⟩))
  by_cases hq:q=0
  ·subst hq
   go_upto_region 18 with(first
    |(go_at_call 133;(with_reducible refine(a6w 0 0 W2).mono ?_);rintro e W3⟨⟨x1,y1,rfl,fx1,fy1⟩,hb3⟩)
    |(go_at_call 73;(with_reducible refine((hd2.up hb3).call 2 oM oM).mono ?_);rintro e W4⟨r,rfl,r0,r1,hd4⟩)
    |(go_at_call 133;(with_reducible refine(a6w _ 1 W4).mono ?_);rintro e W5⟨⟨x2,y2,rfl,fx2,fy2⟩,hb5⟩)
    |(go_at_call 132;(with_reducible refine(c2c n₀ D sv xs _ W5 (hd4.up hb5).td _ _ (hd4.up hb5).s0 oM _ _ _ _ _ fx1 fy1 fx2 fy2 (by first|exact fz0|exact fz1|exact fzm)).mono ?_);rintro e W6⟨S6,v6,rfl,hsl6,ht6,he6⟩))
   have hd6:=((hd4.up hb5).then_ ht6 he6).tailT.add hsl6;clear hd hd2 hb3 hd4 hb5 ht6 he6 hsl6;exact yav
  ·have hqb:(q==0)=false:=by simpa using hq
   go_upto_region 18 with fail;have hd6:=hd2;clear hd hd2;exact yav):P:=h
theorem yaj {P:Prop}(h:P:=by
  by_cases hj0:j=0
  ·have hpj:¬(0:Int)<(j:Int):=oM
   clear hj0;go_wp2_with fail;go_roundw
   case rel=>exact⟨j+1,oM,by go_num,hm⟩
   case measure=>simp[intOf];omega
  ·obtain rfl:j=1:=oM
   have hpj:(0:Int)<((1:Nat):Int):=oM;go_upto_if 93 with(first
    |(go_at_call 73;refine(hm.next 5 oM oM).mono ?_;rintro e W9⟨v2,rfl,v20,v21,hm6,hg9,he9⟩))
   clear hm hg9 he9;by_cases hv2:v2=0
   ·subst hv2
    obtain⟨y0,cy0,fy0⟩:=hm6.ob.at_ (q:=i*2) oM;obtain⟨y1,cy1,fy1⟩:=hm6.ob.at_ (q:=i*2+1) oM;have fz:=hm6.ob.frozen (i*2+1);go_upto_region 24 with fail;first|with_reducible refine a0f 9 zM zM ?_|with_reducible refine a0i 9 zM zM ?_
    simp only[zT];repeat(first|go_big_quiet_step (fail)|quiet_step (fail))
    refine wpQuiet_nil ?_;intro _ hw_;obtain⟨p,hw_⟩:=hw_;subst hw_;have hm7:=(hm6.set (i*2+1) fy0).up (below_growBy _ p);go_wp2_with fail;go_roundw
    case rel=>exact⟨1+1,oM,by go_num,by first|exact hm7|simpa using hm7⟩
    case measure=>simp[intOf];omega
   ·have hvb:(v2==0)=false:=by simpa using hv2
    go_wp2_with fail;go_roundw
    case rel=>exact⟨1+1,oM,by go_num,hm6⟩
    case measure=>simp[intOf];omega):P:=h
theorem yak {P:Prop}(h:P:=by
  obtain⟨⟨r0,r1,r2,r3,r4,r5,r6⟩,-⟩:=c9g k15;obtain⟨z0,z1,z2,z3,z4,z5,z6,k9,fz1,fz2⟩:=hq.q;obtain⟨⟨s0,s1,s2,s3,s4,s5,s6⟩,t0,t1,t2,t3,t4,t5,t6⟩:=c9g k9;by_cases hx0:x=0
  ·have hxb:(x != 0)=false:=by simp[hx0]
   go_wp2_with fail;go_roundw
   case rel=>exact⟨i+1,fb,oM,by go_num,rfl,hq⟩
   case measure=>simp[intOf];omega
  ·have hxb:(x != 0)=true:=by simp[hx0]
   cases fb
   ·exact ydr
   ·clear t0 t1 t2 t3 t4 t5 t6 k9
    go_upto_if 116 with(first
     |(go_at_call 186;refine(c5z _ _ _ _ _ _ _ _ _ _ _ _ _ _ _ fz1 fz2 g1 g2).mono ?_;rintro e WB⟨⟨bo,rfl⟩,hbB⟩))
    clear r0 r1 r2 r3 r4 r5 r6 s0 s1 s2 s3 s4 s5 s6;have k15:=k15.below hbB k15.lt;have hq:=hq.up hbB
    cases bo
    ·go_wp2_with fail
     go_roundw
     case rel=>exact⟨i+1,true,oM,by go_num,rfl,hq⟩
     case measure=>simp[intOf];omega
    ·obtain⟨⟨r0,r1,r2,r3,r4,r5,r6⟩,-⟩:=c9g k15
     obtain⟨z0,z1,z2,z3,z4,z5,z6,k9,-,-⟩:=hq.q;obtain⟨⟨s0,s1,s2,s3,s4,s5,s6⟩,t0,t1,t2,t3,t4,t5,t6⟩:=c9g k9;exact ydr):P:=h
theorem yal {P:Prop}(h:P:=by
  by_cases hx:ax=bx
  ·subst hx
   obtain⟨p0,p1,fr0,fr1⟩:=pt2 hd8.b0;obtain⟨a0,a1,-,-⟩:=pt2 hd8.b2;obtain⟨b0,b1,-,-⟩:=pt2 hd8.b3;go_upto_region 12 with fail;refine a0n (λW9 hW9=> ?_);obtain⟨X7,fX7,hd7⟩:=hd8.pt0 (a1b (X+(dr-8)));rw[<-hW9]at hd7;clear hW9 p0 p1 fr0 fr1 a0 a1 b0 b1 hd8;exact ybk
  ·have hxb:(ax==bx)=false:=by simpa using hx
   obtain⟨a0,a1,-,-⟩:=pt2 hd8.b2;obtain⟨b0,b1,-,-⟩:=pt2 hd8.b3;go_upto_region 12 with fail;clear a0 a1 b0 b1;have hd7:=hd8;have fX7:=fX;clear hd8;exact ybk):P:=h
theorem yam {P:Prop}(h:P:=by
  cases ho;have f10:=a0a (v:= .pointer (some ⟨BO,0,none⟩)) (hA.at_ (k:=10) zM);obtain⟨y0,c0,q0⟩:=hM.1.m7.ob.at_ (q:=0) oM;obtain⟨y1,c1,q1⟩:=hM.1.m7.ob.at_ (q:=1) oM;obtain⟨y2,c2,q2⟩:=hM.1.m7.ob.at_ (q:=2) oM;obtain⟨y3,c3,q3⟩:=hM.1.m7.ob.at_ (q:=3) oM;obtain⟨y4,c4,q4⟩:=hM.1.m7.ob.at_ (q:=4) oM;obtain⟨y5,c5,q5⟩:=hM.1.m7.ob.at_ (q:=5) oM;go_simp;exact hK _ g W ⟨_,_,_,_,_,_,rfl,q0,q1,q2,q3,q4,q5⟩ (Ev.refl hM.1.te.tw) hM):P:=h
theorem yan {P:Prop}(h:P:=by
  rw[<-hcc];refine leaves_cons (f:=47) (args:= #[.pointer (some ⟨w.heap.size+1+1+1,0,none⟩)]) vM (by simp[go_sem]) ?_;refine(d6y _ 0 _ _ x0 x1).mono ?_;rintro e u' w9⟨rfl,rfl,rfl⟩;have y0:=(k4.below hbx k4.lt).set 0 (.int .i64 cc);have hb9:=(hw1.trans (hbx.mono hw1.size)).setCell (p:=⟨w.heap.size+1+1+1,0,none⟩) (show w.heap.size<=w.heap.size+1+1+1 by omega) (.int .i64 cc);exact ygm):P:=h
theorem yao {P:Prop}(h:P:=by
  go_wp2_with (first
   |(go_at_call 119;with_reducible refine(hdg _).mono ?_;rintro e w'⟨rfl,rfl⟩)
   |(go_at_call 118;with_reducible refine h8.mono ?_;rintro e w4⟨rfl,hB4⟩;have cs4:=hB4.cs;have ck4:=hB4.ck;have fk4:=hB4.fk)
   |(refine a0j qM 9 _ _ qM lettersB .u8 ((c:Int) / 16) qM qM underlying9 (ln:Nat) oM oM (hat _) ?_)
   |(go_at_call 118;with_reducible refine(BW.two hB4 L ln hln uM).mono ?_;rintro e w5⟨rfl,hB5⟩;have ck5:=hB5.ck;have fk5:=hB5.fk)
   |(refine a0j qM 9 _ _ qM lettersB .u8 ((c:Int) % 16) qM qM underlying9 (ln2:Nat) oM oM (hat2 _) ?_)
   |(go_at_call 118;with_reducible refine(BW.two hB5 L2 ln2 hln2 uM).mono ?_;rintro e w9⟨rfl,hB9⟩;have ck9:=hB9.ck;have fk9:=hB9.fk))
  exact yah):P:=h
theorem yap {P:Prop}(h:P:=by
  intro j u ct h1 h2;rw[hss]at h2;rw[Array.getElem?_append]at h1;split at h1
  ·rw[List.getElem?_toArray,List.getElem?_append]at h1
   split at h1
   ·exact hdr.ct (hot j u ct h1 h2)
   ·rename_i h3 h4
    refine hdr.ct (hnt _ u ct h1 ?_);rw[hol]at h4 ⊢;have:(j-n*s) % s=j % s:=by
     conv=>rhs;rw[show j=(j-n*s)+s*n from by rw[Nat.mul_comm s n];omega]
     rw[Nat.add_mul_mod_self_left]
    rw[this];exact h2
  ·rename_i h3
   simp only[List.size_toArray,List.length_append,hol,hnl,<-Nat.add_mul]at h1 h3;unfold Builtin.zeroCells at h1;rw[Array.getElem?_map]at h1;obtain⟨k,hk,rfl⟩:=Option.map_eq_some_iff.1 h1;obtain⟨hk1,hk2⟩:=Array.getElem?_eq_some_iff.1 hk;simp only[Array.getElem_range]at hk2;have hm:(j-(n+m)*s) % s=j % s:=by
    conv=>rhs;rw[show j=(j-(n+m)*s)+s*(n+m)from by rw[Nat.mul_comm s];omega]
    rw[Nat.add_mul_mod_self_left]
   rw[<-hk2,hzs,hm];have hlt:j % s<z.cells.size:=by rw[hzs];exact Nat.mod_lt _ hp
   refine hzt S _ (j % s) _ ct ?_ h2;rw[getElem!_pos z.cells (j % s) hlt,Array.getElem?_eq_getElem hlt]):P:=h
theorem yaq {P:Prop}(h:P:=by
  obtain⟨j,hj⟩:=zE (c-48);rw[hj]at e1;obtain⟨m,hm⟩:=zE ((j+9) % 10);rw[hm]at e1;have hw:IntKind.u8.wrap ((c:Int)-48)=(j:Int):=by simp[IntKind.wrap,IntKind.bits,IntKind.signed];omega
  have hw2:IntKind.i64.wrap (j:Int)=(j:Int):=a1m oM oM;have hw3:IntKind.i64.wrap ((j:Int)+9)=(j:Int)+9:=a1m oM oM;have hw4:Int.tmod ((j:Int)+9) 10=(m:Int):=by rw[Int.tmod_eq_emod_of_nonneg oM];omega
  have hw4':((j:Int)+9) % 10=(m:Int):=oM;have hw5:IntKind.i64.wrap (m:Int)=(m:Int):=a1m oM oM;have hx:=b4w (j:=m) oM;obtain⟨u,hu⟩:=zE (lettersB[m]!);rw[hu]at hx e1;have k1:¬(97:Int)<=c:=oM;have k2:¬(65:Int)<=c:=oM;have hjI:(m:Int)<26:=oM;have hdg:(decide (48<=(c:Int))&&decide ((c:Int)<=57))=true:=by simp;omega
  replace hdg:=Lib.hid hdg;replace e1:=Lib.hid e1;clear hj hu k0 k9 hm;go_wp2_with (first
   |(go_at_call 167;with_reducible refine(a2t c true hdg.out _).mono ?_;rintro e w'⟨rfl,rfl⟩)
   |(go_at_call 168;refine(a3a _).mono ?_;rintro e w'⟨rfl,rfl⟩))
  go_ret;rw[e1.out];exact⟨_,rfl,zC,b1h _ _⟩):P:=h
theorem yar {P:Prop}(h:P:=by
  apply Array.ext
  ·rw[inv.size];simp;simp at hn;omega
  ·intro i h1 h2
   by_cases hi:i<c
   ·have:=hall i hi
    rw[Array.getElem_append_left (by simpa using hi)];simpa[Array.getD,h1]using this
   ·have:=inv.tail i oM (by rw[<-inv.size];exact h1)
    rw[Array.getElem_append_right uM];simpa[Array.getD,h1]using this):P:=h
theorem yas {P:Prop}(h:P:=by
  clear hfr ha3
  cases nr
  ·have ho:=hoT rfl
   clear hoT hoF;go_wp2_with (first
    |(go_at_call 88;(with_reducible refine(hN _).mono ?_);rintro e w8⟨rfl,hb8⟩;have hb8':Below wr.heap.size wr w8:=((zR _ _).alloc (yR _) _).trans (hb8.mono vM))
    |(go_at_call 106;refine(a3d 41 _).mono ?_;rintro e w9⟨rfl,rfl⟩))
   go_roundw
   case rel=>exact hnx ho hb8'
   case measure=>simp[intOf];omega
  ·have ho:=hoF rfl
   clear hoT hoF;go_wp2_with (first
    |(go_at_call 88;(with_reducible refine(hN _).mono ?_);rintro e w8⟨rfl,hb8⟩;have hb8':Below wr.heap.size wr w8:=((zR _ _).alloc (yR _) _).trans (hb8.mono vM))
    |(go_at_call 106;refine(a2u 41 _).mono ?_;rintro e w9⟨rfl,rfl⟩))
   exact⟨rfl,.inr ⟨d3l hlk hlj hjk ho,rfl⟩,hb.trans ((hbA.trans ((hbi.trans (hb8'.mono hbi.size)).mono hbA.size)).mono hb.size)⟩):P:=h
theorem yat {P:Prop}(h:P:=by
  clear hd;by_cases hq:q=0
  ·subst hq
   go_wp2_with (first
    |(go_at_call 133;(with_reducible refine(a6w _ _ W2).mono ?_);rintro e W3⟨⟨x1,y1,rfl,fx1,fy1⟩,hb3⟩)
    |(go_at_call 133;(with_reducible refine(a6w _ _ W3).mono ?_);rintro e W5⟨⟨x2,y2,rfl,fx2,fy2⟩,hb5⟩)
    |(go_at_call 132;(with_reducible refine(c2c n₀ D sv xs _ W5 ((hd2.up hb3).up hb5).td _ _ ((hd2.up hb3).up hb5).s0 oM _ _ _ _ _ fx1 fy1 fx2 fy2 (by first|exact fz0|exact fz1|exact fzm)).mono ?_);rintro e W6⟨S6,v6,rfl,hsl6,ht6,he6⟩))
   have hd6:=(((hd2.up hb3).up hb5).then_ ht6 he6).tailT.add hsl6;go_roundw
   case rel=>exact⟨i+1,S6,n+1,oM,by go_num,oM,hd6⟩
   case measure=>simp[intOf];omega
  ·have hqb:(q==0)=false:=by simpa using hq
   go_wp2_with fail;go_roundw
   case rel=>exact⟨i+1,S2,n,oM,by go_num,oM,hd2⟩
   case measure=>simp[intOf];omega):P:=h
theorem yau {P:Prop}(h:P:=by
  cases ho;have f6:=a0a (v:= .int .i64 (n:Nat)) (hA.at_ (k:=6) zM);go_simp;exact hK (.int .i64 (n:Nat)) g W rfl (Ev.refl hM.b.tw) hM):P:=h
theorem yav {P:Prop}(h:P:=by
  go_upto_if 64 with(first
   |(go_at_call 73;(with_reducible refine(hd6.call 4 oM oM).mono ?_);rintro e W7⟨q2,rfl,q20,q21,hd7⟩))
  by_cases hq2:q2=0
  ·subst hq2
   go_wp2_with (first
    |(go_at_call 133;(with_reducible refine(a6w 1 1 W7).mono ?_);rintro e W8⟨⟨x3,y3,rfl,fx3,fy3⟩,hb8⟩)
    |(go_at_call 133;(with_reducible refine(a6w 3 0 W8).mono ?_);rintro e W9⟨⟨x4,y4,rfl,fx4,fy4⟩,hb9⟩)
    |(go_at_call 132;(with_reducible refine(c2c n₀ D sv xs _ W9 ((hd7.up hb8).up hb9).td _ _ ((hd7.up hb8).up hb9).s0 oM _ _ _ _ _ fx3 fy3 fx4 fy4 (by first|exact fz0|exact fz1|exact fzm)).mono ?_);rintro e W10⟨S10,v10,rfl,hsl10,ht10,he10⟩))
   go_ret;exact⟨S10,v10,rfl,⟨_,hsl10,oM⟩,(((hd7.up hb8).up hb9).then_ ht10 he10).fin hev1 hDw⟩
  ·have hqb2:(q2==0)=false:=by simpa using hq2
   go_wp2_with fail;go_ret;exact⟨_,_,rfl,⟨_,hd7.s0,oM⟩,hd7.fin hev1 hDw⟩):P:=h
theorem yaw {P:Prop}(h:P:=by
  go_wp2_with fail;go_ret;exact⟨rfl,rfl⟩):P:=h
theorem yax {P:Prop}(h:P:=by
  replace hsn:=Lib.hid hsn;gi_wp2_with (first|(gi_at_lookup;refine wpListIn_lookup_own_ok_int _ qM _ _ 117 qM 122 3 .i64 spotLaw underlying117 underlying3 (b5r _) mb n D qM hown (a4q (x0,x1)) (klS (x0,x1)) qM (a1q hx) ?_;intro c hat hwc;obtain rfl:c=o:=(by rw[hk2.out]at hat;simpa using hat.symm);clear hat hwc;go_frame)|(gi_at_call 67;refine(CallsIn.inRound l ((callsIn_wide (n:=3-1-1-1)).2 (b4b ⟨ax,ay,st,sw,sh,sg⟩ x0 x1 _ _ hb1.out hs))).mono ?_;rintro e w'⟨rfl,hb_⟩;obtain⟨p,rfl⟩:=a0b hb_;clear hb_)|(gi_at_mapUpdate;refine wpListIn_mapUpdate_own _ qM _ _ _ 117 qM 122 3 spotLaw underlying117 _ mb n D qM (hown.kept (a0q W p) vM) oK _ _ (klS (x0,x1)) qM qM (a1q hx) _ [] (plainElem_int underlying3 (b1o hidy)) ?_;intro w9 hown9 hgrow9)|gi_in)
  exact hend1 _ _ _ gM gM hsn.out):P:=h
theorem yay {P:Prop}(h:P:=by
  go_wp2_with fail;first|with_reducible refine a0e zM zM ?_|with_reducible refine a0g zM zM ?_
  repeat(first|go_big_quiet_step (fail)|quiet_step (fail))
  refine wpQuiet_nil ?_;intro _ hw_;obtain⟨p,hw_⟩:=hw_;subst hw_;go_wp2_with fail;go_meet;exact⟨by rw[hst];go_num,hbx.trans (below_growBy _ _ |>.mono hbx.size)⟩):P:=h
theorem yaz {P:Prop}(h:P:=by
  intro v w'' h1 h2 h3;rw[ho.dst];have hoth:∀k,k≠d->(b.put (some d) v).eval (.tmp k)=b.eval (.tmp k):=λk hk=>Act.eval_put (λd' e=>by cases e;intro e2;cases e2;exact hk rfl)
  refine ih (c+1) _ _ _ oM ?_ (inv.set hi hin) h3 ⟨by rw[Act.put_defers',hA.defers],by rw[Act.put_size,hA.size],λk hk=> ?_⟩ ?_
  ·rw[b0w hlt (getD_both hun) hin,hcnt]
  ·exact yhb
  ·intro j hj hlj o' d' ho' hd'
   by_cases hji:j=i
   ·exact yfp
   ·have hne':d'≠d:=λe=>ho.other j o' hj hji ho' (by rw[hd',e])
    rw[hoth d' hne'];rw[getD_set_ne false (λe=>hji e.symm)]at hlj;exact hF j _ _ _ (hL j hj hlj o' d' ho' hd') h2):P:=h
theorem yba {P:Prop}(h:P:=by
  go_wp2_with fail;go_meet;exact⟨_,_,_,_,_,_,_,_,_,hO,OddR.refl _ _ _ _⟩):P:=h
theorem ybb {P:Prop}(h:P:=by
  go_wp2_with (first
   |(go_at_call 119;with_reducible refine(hdg _).mono ?_;rintro e w'⟨rfl,rfl⟩)
   |(refine a0j qM 9 _ _ qM signedB .i64 (sn:Nat) qM qM underlying9 (ln:Nat) oM oM (hat _) ?_)
   |(go_at_call 118;with_reducible refine(BW.two hB3 L ln hln oM).mono ?_;rintro e w9⟨rfl,hB9⟩;have ck9:=hB9.ck;have fk9:=hB9.fk))
  exact yah):P:=h
theorem ybc {P:Prop}(h:P:=by
  replace h1:=Lib.hid h1;replace h2:=Lib.hid h2;replace h3:=Lib.hid h3;replace h4:=Lib.hid h4;replace h5:=Lib.hid h5;replace h6:=Lib.hid h6;go_enter func22,ntmps22;go_wp2_with (first|(go_at_call 59;refine(a3o (by first|with_reducible exact h1.out|with_reducible exact h2.out|with_reducible exact h3.out|with_reducible exact h4.out) _).mono ?_;rintro e w'⟨rfl,rfl⟩)|(go_at_call 60;refine(a8c (by first|with_reducible exact h5.out|with_reducible exact h6.out) _).mono ?_;rintro e w'⟨rfl,hb_⟩;obtain⟨p,rfl⟩:=a0b hb_;clear hb_)|(go_at_call 61;refine(d5q _ _ _ _ _ oM oM oM oM oM oM oM oM).mono ?_;rintro e w'⟨rfl,hb_⟩;obtain⟨p,rfl⟩:=a0b hb_;clear hb_));exact ybl):P:=h
theorem ybd {P:Prop}(h:P:=by
  cases ho;have e61:bb.tmps[61]? =some (.bool false):=a3x (v:= .bool false) (a0c hD 9 61 zM rfl rfl) (by rw[hA.size];exact Nat.le_of_ble_eq_true zM);have f12:=a0a (v:= .pointer (some ⟨B12,0,none⟩)) (hA.at_ (k:=12) zM);have z0:W.cell? ⟨B12,0,none⟩=some (.slice ea ne ec):=a0l hM h_m0;have z1:W.cell? ⟨B12,1,none⟩=some (.slice fa nf fc):=a0l hM h_m1;have z2:W.cell? ⟨B12,2,none⟩=some (.slice wa nw wc):=a0l hM h_m2;have z3:W.cell? ⟨B12,3,none⟩=some (.slice pa l.length pc):=a0l hM h_m3;go_simp;exact hK (.agg #[.slice ea ne ec,.slice fa nf fc,.slice wa nw wc,.slice pa l.length pc]) W rfl (zR _ _) hM):P:=h
theorem ybe {P:Prop}(h:P:=by
  rintro e W'⟨v,rfl,hp,h1,h2⟩;go_simp;exact hK v g W' hp h2 ⟨h1,hM.2.trans h2⟩):P:=h
theorem ybf {P:Prop}(h:P:=by
  go_wp2_with fail;first|with_reducible refine a0e zM zM ?_|with_reducible refine a0g zM zM ?_
  repeat(first|go_big_quiet_step ((go_at_call 103;exact Calls.grow_of (hcmp _)))|quiet_step ((go_at_call 103;exact Calls.grow_of (hcmp _))))
  refine wpQuiet_nil ?_;intro _ hw_;obtain⟨p,hw_⟩:=hw_;subst hw_;go_wp2_with fail;go_roundw
  case rel=>exact⟨i+1,dj,by go_num,oM,oM,HJ.out.below (below_growBy _ _),out.out (.inr (by show decide _=false;rw[HX.out.1,show jp+1-1=jp from rfl,HX.out.2,HC.out];exact decide_eq_false oM))⟩
  case measure=>first|(simp[intOf];done)|(simp[intOf];omega)):P:=h
theorem ybg {P:Prop}(h:P:=by
  go_simp;exact hK (.int .i64 (k:Nat)) W rfl (zR _ _) hM):P:=h
theorem ybh {P:Prop}(h:P:=by
  go_simp;exact hK _ g W ⟨_,rfl,zF⟩ (Ev.refl hM.b.tw) hM):P:=h
theorem ybi {P:Prop}(h:P:=by
  have hjI:(j:Int)<26:=oM;replace e1:=Lib.hid e1;clear hj hu k0 k9;go_wp2_with (first
   |(go_at_call 168;refine(a3a _).mono ?_;rintro e w'⟨rfl,rfl⟩))
  go_ret;rw[e1.out];exact⟨_,rfl,zC,b1h _ _⟩):P:=h
theorem ybj {P:Prop}(h:P:=by
  cases ho;have f7:=a0a (v:= .int .i64 (k:Nat)) (hA.at_ (k:=7) zM);go_simp;exact hK (.int .i64 (k:Nat)) g W rfl (Ev.refl hM.b.tw) hM):P:=h
theorem ybk {P:Prop}(h:P:=by
  obtain⟨p0,p1,-,-⟩:=pt2 hd7.b0;obtain⟨y0,y1,y2,y3,y4,y5,y6,y7⟩:=a6n hd7.b1;go_wp2_with (first
   |(at_builtin;refine a0y hd7.tw qM _ _ 147 qM underlying147 a1s qM hd7.s0 qM rfl (a5m fX7 fY7) rfl oM ?_;intro v9 S9 w9 hsl9 he9;obtain⟨a9,c9,rfl,-⟩:=hsl9.form;have hd8:=(hd7.evo he9).tail;obtain⟨z0,z1,z2,z3,z4,z5,z6,z7⟩:=a6n hd8.b0;have zf:=hd8.b0.frozen 1))
  have hd9:=((hd8.tailT.add hsl9).set 1 (.slice a9 (n+1) c9) (c':=c4u (41+m) (.slice a9 (n+1) c9) lev ⟨#[]⟩ ⟨#[]⟩ false 0 0) vM);go_roundw
  case rel=>exact⟨k+1,S9,_,n+1,oM,oM,by go_num,oM,hd9⟩
  case measure=>simp[intOf];omega):P:=h
theorem ybl {P:Prop}(h:P:=by
  go_ret;exact⟨rfl,zC⟩):P:=h
theorem ybm {P:Prop}(h:P:=by
  go_wp2_with fail;have k2:Blk ((w.alloc (.cells #[.int .i64 id,.int .i64 x,.int .i64 y,.string cl,.string ⟨#[]⟩,.int .i64 wt,.int .i64 ds] 66)).alloc (.cells #[.int .i64 0,.int .i64 0,.string ⟨#[]⟩] 82)) (w.heap.size+1) #[.int .i64 0,.int .i64 0,.string ⟨#[]⟩] 82:=by have:=Blk.new (w.alloc (.cells #[.int .i64 id,.int .i64 x,.int .i64 y,.string cl,.string ⟨#[]⟩,.int .i64 wt,.int .i64 ds] 66)) #[.int .i64 0,.int .i64 0,.string ⟨#[]⟩] 82;rwa [World.size_alloc]at this
  exact bodyPost_ret (a1i qM _ _ _ 82 _ (0,0) _ qM k2 underlying82 qM zM) rfl ⟨⟨0,0,⟨#[]⟩⟩,rfl,(λx h=>nomatch h),zC⟩):P:=h
theorem ybn {P:Prop}(h:P:=by
  go_wp2_with fail;go_ret;exact⟨a6b (by have h1:=HE.out;rw[HF.out]at h1;omega),by first|exact d5h hb1 hb2 _|exact a3g (d5h hb1 hb2 _) _⟩):P:=h
theorem ybo {P:Prop}(h:P:=by
  clear k0 k8 k9;go_wp2_with (first
   |(go_at_call 167;with_reducible refine(a2t c false hdg.out _).mono ?_;rintro e w'⟨rfl,rfl⟩)
   |(go_at_call 169;with_reducible refine(hsn _).mono ?_;rintro e w'⟨rfl,rfl⟩))
  go_ret;rw[e1.out];exact⟨_,rfl,zC,Blk.new _ _ _⟩):P:=h
theorem ybp {P:Prop}(h:P:=by
  rw[hf]at hfr;clear hf hP0 hP17 hP24 hP25 hpv;subst hfr;simp only[rT,rF,a1z,g0,g1,g2,g3,g4,Nat.reduceAdd];clear g0 g1 g2 g3 g4;simp only[zU];have hse:=hM.2.sl hsl;go_wp2_with (first
   |(go_at_call 126;refine(hM.1.add ev n hse oM pv q hP11 oM l r fl fr).mono ?_;rintro e W9⟨S9,v9,rfl,⟨m9,hsl9,hm9⟩,ht9,he9⟩))
  go_roundw
  case rel=>exact⟨ci+1,m9,S9,oM,by go_num,oM,hsl9,ht9⟩
  case measure=>simp[intOf];omega):P:=h
theorem ybq {P:Prop}(h:P:=by
  have k2:Blk (((w.alloc (.cells #[.int .i64 id,.int .i64 x,.int .i64 y,.string cl,.string nm,.int .i64 wt,.int .i64 ds] 66)).alloc (.cells #[.int .i64 id,.int .i64 id,.string c] 82)).growBy p) (w.heap.size+1) #[.int .i64 id,.int .i64 id,.string c] 82:=by have:=(Blk.new (w.alloc (.cells #[.int .i64 id,.int .i64 x,.int .i64 y,.string cl,.string nm,.int .i64 wt,.int .i64 ds] 66)) #[.int .i64 id,.int .i64 id,.string c] 82).grow p;rwa [World.size_alloc]at this
  exact bodyPost_ret (a1i qM _ _ _ 82 _ (0,0) _ qM k2 underlying82 qM zM) rfl ⟨⟨id,id,c⟩,rfl,(λx h=>by cases h;rfl),zC⟩):P:=h
theorem ybr {P:Prop}(h:P:=by
  cases ho;have f13:=a0a (v:= .pointer (some ⟨E,0,none⟩)) (hA.at_ (k:=13) zM);go_simp;exact hK (.pointer (some ⟨E,0,none⟩)) g W rfl (Ev.refl hM.1.te.tw) hM):P:=h
theorem ybs {P:Prop}(h:P:=by
  intro c s b w' hcf hcnt inv hI hA hL;obtain rfl:c=n:=oM;have hall:=b0v hcnt;have hsl:s=Array.replicate c true++Array.replicate (l.toArray.size-c) false:=by
   exact yar
  rw[Nat.zero_add,hsl];have h:=wpAny_of_seq (P:=P) (md:= .any) (Q':=Q) (ops:=l.toArray) (l.drop c) c (Array.replicate c true++Array.replicate (l.toArray.size-c) false) b w' (λj=>by simp[List.getElem?_drop])
   (by rw[List.length_drop,show l.length=l.toArray.size from by simp];exact hseq) (htail b w' hI hA (λi hi=>hL i hi (hall i hi)))
  exact ygw):P:=h
theorem ybt {P:Prop}(h:P:=by
  have k2:Blk (((w.alloc (.cells #[.int .i64 id,.int .i64 x,.int .i64 y,.string cl,.string nm,.int .i64 wt,.int .i64 ds] 66)).alloc (.cells #[.int .i64 id,.int .i64 id,.string c] 82)).growBy p) (w.heap.size+1) #[.int .i64 id,.int .i64 id,.string c] 82:=by have:=(Blk.new (w.alloc (.cells #[.int .i64 id,.int .i64 x,.int .i64 y,.string cl,.string nm,.int .i64 wt,.int .i64 ds] 66)) #[.int .i64 id,.int .i64 id,.string c] 82).grow p;rwa [World.size_alloc]at this
  exact bodyPost_ret (a1i qM _ _ _ 82 _ (0,0) _ qM k2 underlying82 qM zM) rfl ⟨⟨id,id,c⟩,rfl,(λx h=>nomatch h),zC⟩):P:=h
theorem ybu {P:Prop}(h:P:=by
  refine this.mono ?_;rintro e w'⟨rfl,hb⟩;refine⟨?_,hb⟩;by_cases he:l1.length=l2.length
  ·have h0:=hc.resolve_left (by simpa using he)
   obtain rfl:=List.eq_nil_of_length_eq_zero h0;obtain rfl:=List.eq_nil_of_length_eq_zero (he▸h0);rfl
  ·rw[c2v he,decide_eq_false he]):P:=h
theorem ybv {P:Prop}(h:P:=by
  clear hown h3;go_wp2_with fail;first|with_reducible refine a0e zM zM ?_|with_reducible refine a0g zM zM ?_
  repeat(first|go_big_quiet_step ((go_at_call 100;exact Calls.grow_of (hle _ _)))|quiet_step ((go_at_call 100;exact Calls.grow_of (hle _ _))))
  refine wpQuiet_nil ?_;intro _ hw_;obtain⟨p,hw_⟩:=hw_;subst hw_;go_wp2_with fail;go_roundw
  case rel=>exact⟨k+1,oM,by go_num,Go.below_growBy' hbr hzr _,hn2⟩
  case measure=>simp[intOf];omega):P:=h
theorem ybw {P:Prop}(h:P:=by
  cases ho;have f8:=a0a (v:= .slice (some ⟨b,off,none⟩) ps.length c8) (hA.at_ (k:=8) zM);go_simp;exact hK (.slice (some ⟨b,off,none⟩) ps.length c8) W rfl (zR _ _) hM):P:=h
theorem ybx {P:Prop}(h:P:=by
  go_simp;exact hK _ W ⟨_,rfl,zF⟩ (zR _ _) hM):P:=h
theorem yby {P:Prop}(h:P:=by
  go_wp2_with fail;first|with_reducible refine a0e zM zM ?_|with_reducible refine a0g zM zM ?_
  repeat(first|go_big_quiet_step (fail)|quiet_step (fail))
  refine wpQuiet_nil ?_;intro _ hw_;obtain⟨p,hw_⟩:=hw_;subst hw_;go_wp2_with fail;go_roundw
  case rel=>exact⟨i,by go_num,oM,Lib.hid hgo,hbx.trans (below_growBy _ _ |>.mono hbx.size)⟩
  case measure=>first|(simp[intOf];done)|(simp[intOf];omega)):P:=h
theorem ybz {P:Prop}(h:P:=by
  cases ho;have f8:=a0a (v:= .int .i64 (1+(N:Nat))) (hA.at_ (k:=8) zM);go_simp;exact hK (.int .i64 (1+(N:Nat))) g W rfl (Ev.refl hM.1.te.tw) hM):P:=h
theorem yca {P:Prop}(h:P:=by
  cases ho;have f18:=a0a (v:= .int .i64 (ci:Nat)) (hA.at_ (k:=18) zM);go_simp;exact hK (.int .i64 (ci:Nat)) g W rfl (Ev.refl hM.1.te.tw) hM):P:=h
theorem ycb {P:Prop}(h:P:=by
  obtain⟨cur,hc⟩:=hobj r e;exact⟨_,hc,λcur2 e2=>by simp only[Obj.cells.injEq]at e2;exact absurd e2.2.1 jM⟩):P:=h
theorem ycc {P:Prop}(h:P:=by
  cases ho;have f17:=a0a (v:= .int .i64 (j:Nat)) (hA.at_ (k:=17) zM);go_simp;exact hK (.int .i64 (j:Nat)) g W rfl (Ev.refl hM.1.te.tw) hM):P:=h
theorem ycd {P:Prop}(h:P:=by
  intro k;induction k with
  |zero=>intro i h;omega
  |succ k ih =>
   intro i hik hin hf;obtain⟨o,d,ho⟩:=hh i hin;by_cases hall:∀e∈o.after,Region.binds .any e=true->s.getD e.on false=true
   ·have hlt:i<s.size:=by rw[inv.size];exact(Array.getElem?_eq_some_iff.1 ho.op).1
    exact List.ne_nil_of_mem (mem_ready.2 ⟨getD_in hlt hf,o,ho.op,hall⟩)
   ·obtain⟨e,he⟩:=Classical.not_forall.1 hall
    simp only[Classical.not_imp]at he;obtain⟨h1,h2,h3⟩:=he;have h4:=ho.after e h1 h2;exact ih e.on oM oM (by simpa using h3)):P:=h
theorem yce {P:Prop}(h:P:=by
  clear hc1 hc2 e1 e2 hx;go_wp2_with fail;first|with_reducible refine a0e zM zM ?_|with_reducible refine a0g zM zM ?_
  repeat(first|go_big_quiet_step (fail)|quiet_step (fail))
  refine wpQuiet_nil ?_;intro _ hw_;obtain⟨p,hw_⟩:=hw_;subst hw_;go_wp2_with fail;go_roundw
  case rel=>exact⟨k+1,oM,by go_num,Go.below_growBy' hbW hzw _,k2.below (Go.below_growBy wr p) k2.lt,k3.below (Go.below_growBy wr p) k3.lt⟩
  case measure=>simp[intOf];omega):P:=h
theorem ycf {P:Prop}(h:P:=by
  cases ho;have f0:=a0a (v:= .slice (some ⟨b,off,none⟩) m cap) (hA.at_ (k:=0) zM);go_simp;exact hK (.slice (some ⟨b,off,none⟩) m cap) W rfl (zR _ _) hM):P:=h
theorem ycg {P:Prop}(h:P:=by
  cases ho;have f16:=a0a (v:= .int .i64 (ci:Nat)) (hA.at_ (k:=16) zM);go_simp;exact hK (.int .i64 (ci:Nat)) g W rfl (Ev.refl hM.1.te.tw) hM):P:=h
theorem ych {P:Prop}(h:P:=by
  cases ho;have f9:=a0a (v:= .int .i64 (H:Nat)) (hA.at_ (k:=9) zM);go_simp;exact hK (.int .i64 (H:Nat)) g W rfl (Ev.refl hM.1.te.tw) hM):P:=h
theorem yci {P:Prop}(h:P:=by
  cases ho;have f15:=a0a (v:= .int .i64 (j:Nat)) (hA.at_ (k:=15) zM);go_simp;exact hK (.int .i64 (j:Nat)) g W rfl (Ev.refl hM.1.te.tw) hM):P:=h
theorem ycj {P:Prop}(h:P:=by
  clear hown h3;go_wp2_with fail;first|with_reducible refine a0e zM zM ?_|with_reducible refine a0g zM zM ?_
  repeat(first|go_big_quiet_step ((go_at_call 100;exact Calls.grow_of (hle _ _)))|quiet_step ((go_at_call 100;exact Calls.grow_of (hle _ _))))
  refine wpQuiet_nil ?_;intro _ hw_;obtain⟨p,hw_⟩:=hw_;subst hw_;go_wp2_with fail;go_ret;exact⟨rfl,hB4▸Go.below_growBy' hbx hzx _⟩):P:=h
theorem yck {P:Prop}(h:P:=by
  cases ho;have f13:=a0a (v:= .pointer (some ⟨Q,0,none⟩)) (hA.at_ (k:=13) zM);have z0:W.cell? ⟨Q,0,none⟩=some (.int .i64 bx):=hM.q.cell 0;have z1:W.cell? ⟨Q,1,none⟩=some (.int .i64 by_):=hM.q.cell 1;have z2:W.cell? ⟨Q,2,none⟩=some (.int .i64 bd):=hM.q.cell 2;exact yjj):P:=h
theorem ycl {P:Prop}(h:P:=by
  cases ho;have f12:=a0a (v:= .pointer (some ⟨P,0,none⟩)) (hA.at_ (k:=12) zM);have z0:W.cell? ⟨P,0,none⟩=some (.int .i64 ax):=hM.p.cell 0;have z1:W.cell? ⟨P,1,none⟩=some (.int .i64 ay):=hM.p.cell 1;have z2:W.cell? ⟨P,2,none⟩=some (.int .i64 ad):=hM.p.cell 2;exact yjp):P:=h
theorem ycm {P:Prop}(h:P:=by
  cases ho;have f5:=a0a (v:= .pointer (some ⟨BM,0,none⟩)) (hA.at_ (k:=5) zM);have z0:W.cell? ⟨BM,0,none⟩=some (.slice ea ne ec):=hM.b.cell 0;have z1:W.cell? ⟨BM,1,none⟩=some (.slice fa nf fc):=hM.b.cell 1;have z2:W.cell? ⟨BM,2,none⟩=some (.slice wa nw wc):=hM.b.cell 2;have z3:W.cell? ⟨BM,3,none⟩=some (.slice pa pn pc):=hM.b.cell 3;go_simp;exact hK (.agg #[.slice ea ne ec,.slice fa nf fc,.slice wa nw wc,.slice pa pn pc]) W rfl (zR _ _) hM):P:=h
theorem ycn {P:Prop}(h:P:=by
  intro W x hb;have lt1:sb<w.heap.size:=World.block_lt_of_cell? _ _ hs;have lt2:kb<w.heap.size:=World.block_lt_of_cell? _ _ hk;refine(c1k x s k sb kb W hk0 hl ?_ ?_).mono ?_
  ·rw[hb.cell (p:=⟨sb,0,none⟩) (by rw[World.size_alloc];simp only;omega),World.cell?_alloc_lt w _ _ lt1];exact hs
  ·rw[hb.cell (p:=⟨kb,0,none⟩) (by rw[World.size_alloc];simp only;omega),World.cell?_alloc_lt w _ _ lt2];exact hk
  ·rintro e w'⟨rfl,rfl⟩
   exact⟨rfl,0,rfl⟩):P:=h
theorem yco {P:Prop}(h:P:=by
  clear hin hsame;go_wp2_with fail;first|with_reducible refine a0e zM zM ?_|with_reducible refine a0g zM zM ?_
  repeat(first|go_big_quiet_step (fail)|quiet_step (fail))
  refine wpQuiet_nil ?_;intro _ hw_;obtain⟨p,hw_⟩:=hw_;subst hw_;go_wp2_with fail;go_roundw
  case rel=>exact⟨k+1,by go_num,hsu.out,hrelB _⟩
  case measure=>simp[intOf];omega):P:=h
theorem ycp {P:Prop}(h:P:=by
  intro l pre x W K hx hK;obtain⟨p,xv⟩:=x;obtain⟨xa,xn,xc,rfl⟩:∃a n c,xv= .slice a n c:=by
   rcases hx.2.2 with h|⟨b,o,c,h⟩
   ·exact⟨_,_,_,h⟩
   ·exact⟨_,_,_,h⟩
  gi_wp2;first|done|exact hK _ (by first|rfl|simp)):P:=h
theorem ycq {P:Prop}(h:P:=by
  go_simp;exact hK (.pointer (some ⟨b,off+k*4,none⟩)) W rfl (zR _ _) hM):P:=h
theorem ycr {P:Prop}(h:P:=by
  go_simp;exact hK (.pointer (some ⟨b,off+k*7,none⟩)) W rfl (zR _ _) hM):P:=h
theorem ycs {P:Prop}(h:P:=by
  intro j hj hlj o' d' ho' hd';by_cases hji:j=i
  ·exact yfp
  ·have hne':d'≠d:=λe=>ho.other j o' hj hji ho' (by rw[hd',e])
   rw[hoth d' hne'];rw[getD_set_ne false (λe=>hji e.symm)]at hlj;exact hF j _ _ _ _ _ (hL j hj hlj o' d' ho' hd') h2):P:=h
theorem yct {P:Prop}(h:P:=by
  obtain rfl:r=false:=by cases r with|false=>rfl|true=>have:=hr.1 rfl;omega
  clear hr;go_enter func93,ntmps93;exact yed):P:=h
theorem ycu {P:Prop}(h:P:=by
  clear hno;go_enter func41,ntmps41;go_wp2_with (first|(go_at_call 95;refine(d5m hof.out _).mono ?_;rintro e w'⟨rfl,hb_⟩;obtain⟨p,rfl⟩:=a0b hb_;clear hb_)|fail);go_ret2;exact⟨rfl,zC⟩):P:=h
theorem ycv {P:Prop}(h:P:=by
  cases ho;have f5:=a0a (v:=sv) (hA.at_ (k:=5) zM);go_simp;exact hK (sv) g W rfl (Ev.refl hM.1.te.tw) hM):P:=h
theorem ycw {P:Prop}(h:P:=by
  have hgA:=((a0u W1 (w.heap.size+1+1) 0 (.slice none 0 0)).trans (a0u _ (w.heap.size+1+1) 1 (.slice none 0 0))).trans (a0u _ (w.heap.size+1+1) 2 (.slice none 0 0));have kA:=((k3.set 0 (.slice none 0 0)).set 1 (.slice none 0 0)).set 2 (.slice none 0 0);exact bodyPost_ret (a1i qM _ _ _ 45 _ (0,0) _ qM kA underlying45 qM zM) rfl ⟨rfl,hbw.grown hgA hz λr e=>by cases e;omega⟩):P:=h
theorem ycx {P:Prop}(h:P:=by
  go_wp2_with (first
   |(refine a0j qM 9 _ _ qM lettersB .u8 ((c:Int)-97) qM qM underlying9 (ln:Nat) oM oM (hat _) ?_)
   |(go_at_call 118;with_reducible refine(BW.two hB3 L ln hln oM).mono ?_;rintro e w9⟨rfl,hB9⟩;have ck9:=hB9.ck;have fk9:=hB9.fk)
   |(go_at_call 119;with_reducible refine(hdg _).mono ?_;rintro e w'⟨rfl,rfl⟩))
  exact yah):P:=h
theorem ycy {P:Prop}(h:P:=by
  gi_wp2;refine hR.mono ?_;rintro e W4 (⟨rfl,hJ4,e5,e6⟩|⟨rfl,hJx⟩)
  ·gi_wp2
   go_roundw
   case rel=>exact⟨k+1,oM,by go_num,by rw[b7z];exact hJ4,e5.trans kA3,e6.trans kB3⟩
   case measure=>simp[intOf];omega
  ·gi_wp2
   refine bodyPost_ret (results_none rfl _ _ _) rfl ?_;exact⟨⟨_,rfl⟩,.inr ⟨_,trivial,hJx⟩⟩):P:=h
theorem ycz {P:Prop}(h:P:=by
  clear hno hst hcr0 hcr1 hcs hci hcn0 h;gi_wp2_with (first
   |(gi_at_mapUpdate;refine MapK.wpIn_store d9g qM _ _ _ 169 qM underlying169 qM hD8.mp oK hpo.id qM (y:=true) qM (plainElem_bool underlying4 true) ?_;intro w7 hM7 hg7
     obtain⟨hD7,hk7⟩:=hD8.set hM7 hg7))
  exact⟨hk8.trans hk7,m+1,_,_,hst',by simp;omega,hset.put id,hD7⟩):P:=h
theorem yda {P:Prop}(h:P:=by
  rintro s A A' row⟨hi,hl,hd⟩ hgr hr;have hne:∀k,k<D+2->some k≠row:=λk hk e=>by have:=(hr k e.symm).1;omega
  exact⟨hI s A A' row hi hgr (λr e=>⟨by have:=(hr r e).1;omega,(hr r e).2⟩),(hgr.block _ (Array.getElem?_eq_some_iff.1 hl).1 (hne _ oM)).trans hl,(hgr.block _ (Array.getElem?_eq_some_iff.1 hd).1 (hne _ oM)).trans hd⟩):P:=h
theorem ydb {P:Prop}(h:P:=by
  go_simp;refine(hM.1.cell x0 x1 x2 x3 x4 x5 _ _ _ _ q0 q1 q2 q3 q4 q5 oM oM).mono ?_;exact ybe):P:=h
theorem ydc {P:Prop}(h:P:=by
  cases a with
  |none =>
   obtain rfl:=ha0 rfl;obtain rfl:olds=[]:=List.eq_nil_of_length_eq_zero (by simpa using hol);exact run_firstCells_none W.drew _ _ _ _
  |some ad=>exact run_firstCells_some W.drew i.size n ad n cap olds (by rw[hsz];exact hol) (λj u hj=>by obtain⟨ad',h,hc⟩:=hoc j u hj;cases h;simpa using hc)):P:=h
theorem ydd {P:Prop}(h:P:=by
  obtain⟨j,hj⟩:=zE (c-97);rw[hj]at e1;have hw:IntKind.u8.wrap ((c:Int)-97)=(j:Int):=by simp[IntKind.wrap,IntKind.bits,IntKind.signed];omega
  have hx:=b4w (j:=j) oM;obtain⟨u,hu⟩:=zE (lettersB[j]!);rw[hu]at hx e1;have k1:(97:Int)<=c:=oM;have k2:(c:Int)<=122:=oM;have k3:(c:Int)<=106:=oM;exact ybi):P:=h
theorem yde {P:Prop}(h:P:=by
  cases ho;have f41:bb.tmps[41]?.getD undef= .int .i64 x:=a0a (v:= .int .i64 x) (a0d hD 1 41 zM rfl rfl);have hE:=Ev.alloc (X:=noB) hM.ok (d7y (S:=g) (W:=W) fx);go_simp;exact hK (.slice (some ⟨W.heap.size,0,none⟩) 1 1) _ _ (SL.blk (.inr rfl) (Blk.new _ _ _) (by show 1*1<=1;omega)) hE (hM.trans hE)):P:=h
theorem ydf {P:Prop}(h:P:=by
  simp[IntKind.wrap,IntKind.bits,IntKind.signed];omega):P:=h
theorem ydg {P:Prop}(h:P:=by
  refine⟨?_,?measure⟩
  ·(repeat apply Exists.intro)
   refine⟨hrel,?_⟩;repeat' (first|exact rfl|apply And.intro)
  case measure=>simp[intOf];omega):P:=h
theorem ydh {P:Prop}(h:P:=by
  go_wp2_with fail;go_ret;exact⟨rfl,(zR _ _).alloc (yR _) _⟩):P:=h
theorem ydi {P:Prop}(h:P:=by
  go_wp2_with fail;go_roundw
  case rel=>exact⟨t+1,oM,by go_num,by rw[henT.out,hnext.out];exact hI.out⟩
  case measure=>simp[intOf];omega):P:=h
theorem ydj {P:Prop}(h:P:=by
  cases ho;have f15:=a0a (v:= .pointer (some ⟨B15,0,none⟩)) (hA.at_ (k:=15) zM);have z0:W.cell? ⟨B15,0,none⟩=some (.int .i64 cx):=hM.b0.cell 0;have z1:W.cell? ⟨B15,1,none⟩=some (.int .i64 90):=hM.b0.cell 1;go_simp;exact hK (.agg #[.int .i64 cx,.int .i64 90]) g W rfl (Ev.refl hM.tw) hM):P:=h
theorem ydk {P:Prop}(h:P:=by
  obtain rfl:k=ps.length:=oM;have hge:¬(ps.length:Int)<(ps.length:Int):=oM;rw[List.take_length]at hrow;go_wp2_with fail;go_ret;exact⟨u3,rfl,a0h b3b hrow (by rw[List.length_map];omega),(by have h:=a1p hrow;rw[List.length_map,hlS]at h;exact h),hbW1.trans (hbr.mono hbW1.size)⟩):P:=h
theorem ydl {P:Prop}(h:P:=by
  have e1:=World.grownBy_alloc w (.deferred (some [])) none;have e2:=World.grownBy_alloc (w.alloc (.deferred (some []))) (.loop (R .ready none)) none;exact⟨e2.os.trans e1.os,e2.tape.trans e1.tape,e2.output.trans e1.output,Nat.le_trans e1.size e2.size,λk hk hn=>(e2.block k uM hn).trans (e1.block k hk hn)⟩):P:=h
theorem ydm {P:Prop}(h:P:=by
  go_enter func33,ntmps33;go_wp2_with (go_at_call 22;refine(hC _).mono ?_;rintro e w'⟨rfl,hb_⟩;obtain⟨p,rfl⟩:=a0b hb_;clear hb_);exact ybl):P:=h
theorem ydn {P:Prop}(h:P:=by
  go_enter func38,ntmps38;go_wp2_with (go_at_call 89;refine(hC _).mono ?_;rintro e w'⟨rfl,hb_⟩;obtain⟨p,rfl⟩:=a0b hb_;clear hb_);exact ybl):P:=h
theorem ydo {P:Prop}(h:P:=by
  go_wp2_with fail;go_meet;exact⟨by simp[g1,g2],rfl⟩):P:=h
theorem ydp {P:Prop}(h:P:=by
  cases ho;have f40:bb.eval (.tmp 40)=v6:=a0d hD 0 40 zM rfl rfl;have f42:SL g W 3 (bb.eval (.tmp 42)) 1:=a0d hD 2 42 zM rfl rfl;exact b3t hM.ok rfl _ _ 51 rfl underlying51 a7j f40 (hM.sl hsl6) rfl f42 oM (λv' S' w' h1 h2=>hK v' S' w' h1 h2 (hM.trans h2))):P:=h
theorem ydq {P:Prop}(h:P:=by
  cases xa with
  |none =>
   obtain rfl:=hx0 rfl;obtain rfl:news=[]:=List.eq_nil_of_length_eq_zero (by simpa using hnl);exact Src.ofNil W ht xc
  |some ad=>exact Src.ofSlice W ht ad m xc news (by rw[hsz];exact hnl) (λj u hj=>by obtain⟨ad',h,hc⟩:=hnc j u hj;cases h;exact hc) hn1):P:=h
theorem ydr {P:Prop}(h:P:=by
  go_wp2_with (first
   |(refine a2q qM _ _ _ qM B9 (a3y _ _ _ _ _ _ _) qM qM _ _ k9 qM qM (by simp[a3y,Value.oneCell']) ?_;intro WS kS hgS))
  go_roundw
  case rel=>exact⟨i+1,true,oM,by go_num,rfl,hq.best2 kS hgS g1 g2⟩
  case measure=>simp[intOf];omega):P:=h
theorem yds {P:Prop}(h:P:=by
  have hnx:=Lib.hid (hnext.out (by rw[hxe.out];exact hraw.symm));clear hraw hnext hyes;go_wp2_with fail;go_quiet (fail)
  go_wp2_with fail;go_roundw
  case rel=>exact⟨n+1,oM,by go_num,hcH.out,a3g hb _,hnx⟩
  case measure=>simp[intOf];omega):P:=h
theorem ydt {P:Prop}(h:P:=by
  have h3:=HJ3.out;unfold Go.Proofs.YtfocdbjceedagaaGreatDoor.swapG at h3;rw[HX.out.1,HX.out.2,c3z]at h3;exact Lib.hid h3.drew):P:=h
theorem ydu {P:Prop}(h:P:=by
  cases ho;have f10:=a0a (v:= .int .i64 (k:Nat)) (hA.at_ (k:=10) zM);exact ybg):P:=h
theorem ydv {P:Prop}(h:P:=by
  have hE:=Ev.setCells (X:=X) hb news (o*s+n*i.size) W c hT hc (λj u ct h1 h2=>hnt j u ct h1 (by
   rw[hss,hsz,<-Nat.add_mul,Nat.mul_comm,Nat.mul_add_mod]at h2;exact h2))
  exact hE.sl ⟨_,cap,rfl,hroom,.inr ⟨b,o,c,by rw[hss],hb,hc,by rw[hss,Nat.add_mul];omega⟩⟩):P:=h
theorem ydw {P:Prop}(h:P:=by
  go_simp;exact hK (.slice (some ⟨W.heap.size,0,none⟩) 1 1) _ ⟨_,rfl,Blk.new _ _ _⟩ ((zR _ _).alloc (yR _) _) (hM.alloc hM.size _)):P:=h
theorem ydx {P:Prop}(h:P:=by
  go_wp2_with (first
   |(go_at_call 131;refine(c9d _ _ hmF.te.tw _ nF hsF oM).mono ?_;rintro e WF⟨SF,vF,rfl,⟨nf,hf1,hf2⟩,heF⟩))
  go_ret2;exact⟨SF,_,_,rfl,⟨nF,nf,heF.sl hsF,oM,hf1,hf2⟩,hmF.m7.bel.trans heF⟩):P:=h
theorem ydy {P:Prop}(h:P:=by
  refine⟨_,_,rfl,hge,.inr ⟨W.heap.size,0,_,by rw[Nat.zero_mul],.inr rfl,Blk.new W.drew _ _,?_⟩⟩;rw[hss,Nat.zero_add];simp only[Array.size_append,List.size_toArray,List.length_append,hol,hnl,size_zeroCells,hzs,<-Nat.add_mul];exact Nat.mul_le_mul_right s oM):P:=h
theorem ydz {P:Prop}(h:P:=by
  exact((show Below n0 W W from zR _ _).grown hg h.hz λr e=>(hlo r e).1).grown hg2 (Nat.le_trans h.hz hg.size) λr e=>by cases e;exact h.bp):P:=h
theorem yea {P:Prop}(h:P:=by
  intro j hj;refine(a2w (heap_alloc_last w _) (0+j)).trans ?_;match j,hj with
  |0,_=>rfl
  |1,_=>rfl
  |2,_=>rfl
  |3,_=>rfl
  |4,_=>rfl
  |5,_=>rfl
  |6,_=>rfl
  |7,_=>rfl
  |8,_=>rfl
  |9,_=>rfl
  |10,_=>rfl
  |j+11,h=>exact absurd h (by simp[wordsL])):P:=h
theorem yeb {P:Prop}(h:P:=by
  split at h
  all_goals first|exact h|(obtain⟨L,h1,h2⟩:=h;exact⟨L,h1,h2.below hg h2.lt⟩)):P:=h
theorem yec {P:Prop}(h:P:=by
  cases ho;have f9:=a0a (v:= .int .i64 (k:Nat)) (hA.at_ (k:=9) zM);exact ybg):P:=h
theorem yed {P:Prop}(h:P:=by
  go_wp2_with fail;exact ybl):P:=h
theorem yee {P:Prop}(h:P:=by
  cases ho;have f4:=a0a (v:= .int .i64 (k:Nat)) (hA.at_ (k:=4) zM);exact ybg):P:=h
theorem yef {P:Prop}(h:P:=by
  go_wp2_with fail;go_ret;exact⟨by simp,zC⟩):P:=h
theorem yeg {P:Prop}(h:P:=by
  go_enter func129,ntmps129;go_wp2_with fail;go_ret;exact⟨⟨0,rfl,zF⟩,zC⟩):P:=h
theorem yeh {P:Prop}(h:P:=by
  split at this
  ·obtain⟨e',he',h⟩:=List.mem_map.1 this
   rw[<-h];exact h2 e' he'
  ·rcases List.mem_append.1 this with h|h
   ·obtain⟨e',he',h⟩:=List.mem_map.1 h
    rw[<-h];exact h2 e' he'
   ·rw[show e.1=p by simpa using h];exact hp):P:=h
theorem yei {P:Prop}(h:P:=by
  rcases hf with rfl|⟨b,off,cap,rfl⟩
  ·exact Src.ofNil W hI.under 0
  ·exact Src.ofSlice W hI.under _ 0 cap [] vM vM vM):P:=h
theorem yej {P:Prop}(h:P:=by
  rcases hv.2 with⟨e,-⟩|⟨g',cap',cur,e,-,-,h1,-⟩
  ·cases e
  ·simp only[Value.slice.injEq,true_and]at e
   omega):P:=h
theorem yek {P:Prop}(h:P:=by
  rintro D ch W hDs⟨rfl,hcf,hbw⟩ hK;have hg1:=grownBy_putObj' W D (.deferred none);refine⟨by simp,.inl ⟨_,_,rfl,run_takeDeferred hK,?_⟩⟩;exact⟨.inr ⟨hcf,rfl⟩,hbw.grown hg1 hbw.size λr e=>by cases e;have:=hw5.size;omega⟩):P:=h
theorem yel {P:Prop}(h:P:=by
  have h0:=World.grownBy_alloc w (.cells (E.enc x).toArray E.t) none;refine⟨hg.os.trans h0.os,hg.tape.trans h0.tape,hg.output.trans h0.output,Nat.le_trans h0.size hg.size,λk hk hne=> ?_⟩;exact(hg.block k uM hne).trans (h0.block k hk vM)):P:=h
theorem yem {P:Prop}(h:P:=by
  cases ho;go_simp;refine(a3a W).mono ?_;rintro e W'⟨rfl,rfl⟩;go_simp;exact hK (.slice (some ⟨W.heap.size,0,none⟩) 26 26) _ ⟨_,rfl,Blk.new _ _ _⟩ ((zR _ _).alloc (yR _) _) (hM.alloc hM.size _)):P:=h
theorem yen {P:Prop}(h:P:=by
  cases ho;have f0:=a0a (v:= .slice (some ⟨b,off,none⟩) n cap) (hA.at_ (k:=0) zM);go_simp;exact hK (.slice (some ⟨b,off,none⟩) n cap) W rfl (zR _ _) hM):P:=h
theorem yeo {P:Prop}(h:P:=by
  go_wp2_with fail;go_roundw
  case rel=>exact⟨k+1,oM,by go_num,hbr,hn2⟩
  case measure=>simp[intOf];omega):P:=h
theorem yep {P:Prop}(h:P:=by
  go_simp;exact hK (.bool false) W rfl (zR _ _) hM):P:=h
theorem yeq {P:Prop}(h:P:=by
  match i,h1,h2 with
  |0,h1,h2=>cases h1;cases h2;exact CT.ok_int hi
  |1,h1,h2=>cases h1;cases h2;exact CT.ok_sl hv hn
  |2,h1,h2=>cases h1;cases h2;exact CT.ok_int hl
  |3,h1,h2=>cases h1;cases h2;exact CT.ok_int hr
  |i+4,h1,_=>simp at h1):P:=h
theorem yer {P:Prop}(h:P:=by
  go_simp;refine(hM.1.wiggle ax ay bx by_ fa fb fc fd).mono ?_;rintro e W'⟨S',v,rfl,hp,h1,h2⟩;go_simp;exact hK v S' W' hp h2 ⟨h1,hM.2.trans h2⟩):P:=h
theorem yes {P:Prop}(h:P:=by
  obtain⟨a,c,h,-⟩:=(a0h b8j hr9 uM).form;exact⟨_,_,_,h⟩):P:=h
theorem yet {P:Prop}(h:P:=by
  rintro e w'⟨rfl,q,rfl⟩;rw[List.take_length,List.take_length,b9n];exact⟨rfl,below_drewN (zR _ _) q⟩):P:=h
theorem yeu {P:Prop}(h:P:=by
  have z0:W.cell? ⟨Bp,0,none⟩=some (.slice (some ⟨dg,dO,none⟩) pl.dots.length dc):=a0l hM h_l0;go_simp;exact hK (.slice (some ⟨dg,dO,none⟩) pl.dots.length dc) W rfl (zR _ _) hM):P:=h
theorem yev {P:Prop}(h:P:=by
  exact(h.bel.grown hg h.hz λr e=>(hlo r e).1).grown hg2 (Nat.le_trans h.hz hg.size) λr e=>by cases e;exact h.bp):P:=h
theorem yew {P:Prop}(h:P:=by
  unfold Cell.okWide at h;rw[ht]at h
  cases v <;> simp[Cell.ok,ht]at h
  rename_i k n;obtain⟨rfl,h2⟩:=h;refine⟨n,rfl,?_⟩;simp[IntKind.has,IntKind.min,IntKind.max,IntKind.signed,IntKind.bits]at h2;exact⟨oM,oM⟩):P:=h
theorem yex {P:Prop}(h:P:=by
  have z0:W.cell? ⟨B15,0,none⟩=some (.slice (some ⟨dg,dO,none⟩) nD dcap):=a0l hM h_b0;go_simp;exact hK (.slice (some ⟨dg,dO,none⟩) nD dcap) W rfl (zR _ _) hM):P:=h
theorem yey {P:Prop}(h:P:=by
  cases ho;have f15:=a0a (v:= .pointer (some ⟨B15,0,none⟩)) (hA.at_ (k:=15) zM);go_simp;exact hK (.pointer (some ⟨B15,0,none⟩)) W rfl (zR _ _) hM):P:=h
theorem yez {P:Prop}(h:P:=by
  unfold Oper.wp execOp;simp only[ho,resolve,invoke,builtin,Sem.run_bind,Sem.run_pure,Result.andThen_ok,List.map_toArray,List.map_cons,List.map_nil,hsv,hxv,hr];exact h v' S' w' ((h0.evo h3 h4).add h2) h5 h3):P:=h
theorem yfa {P:Prop}(h:P:=by
  unfold Oper.wp execOp;simp only[ho,resolve,invoke,builtin,Sem.run_bind,Sem.run_pure,Result.andThen_ok,List.map_toArray,List.map_cons,List.map_nil,hsv,hxv,hr];exact h v' S' w' ((h0.evo h3 h4).add h2) h5):P:=h
theorem yfb {P:Prop}(h:P:=by
  clear hbd;go_wp2_with (first|(refine a0j qM 9 _ _ qM s .i64 (n:Nat) qM qM underlying9 c oM oM (by rw[<-hc];rfl) ?_)|fail);go_ret;exact⟨by rw[hno.out];rfl,zC⟩):P:=h
theorem yfc {P:Prop}(h:P:=by
  cases ho;have f3:=a0a (v:= .slice oa O.length oc) (hA.at_ (k:=3) zM);go_simp;exact hK (.slice oa O.length oc) g W rfl (⟨yR _,λ_=>zR _ _,zR _ _⟩) hM (hst _ jM).symm):P:=h
theorem yfd {P:Prop}(h:P:=by
  rw[show n+(l.toArray.size-n)=l.toArray.size from by omega]at h;exact h):P:=h
theorem yfe {P:Prop}(h:P:=by
  cases ho;have f7:=a0a (v:= .pointer (some ⟨Bp,0,none⟩)) (hA.at_ (k:=7) zM);go_simp;exact hK (.pointer (some ⟨Bp,0,none⟩)) W rfl (zR _ _) hM):P:=h
theorem yff {P:Prop}(h:P:=by
  first|exact⟨hF hc',hD9.bel⟩|exact hD9.bel):P:=h
theorem yfg {P:Prop}(h:P:=by
  cases ho;have f7:=a0a (v:= .pointer (some ⟨Bp,0,none⟩)) (hA.at_ (k:=7) zM);go_simp;exact hK (.pointer (some ⟨Bp,2,none⟩)) W rfl (zR _ _) hM):P:=h
theorem yfh {P:Prop}(h:P:=by
  cases ho;have f6:=a0a (v:= .int .i64 (n:Nat)) (hA.at_ (k:=6) zM);go_simp;exact hK (.int .i64 (n:Nat)) g W rfl (⟨yR _,λ_=>zR _ _,zR _ _⟩) hM (hst _ jM).symm):P:=h
theorem yfi {P:Prop}(h:P:=by
  have z0:W.cell? ⟨BO,1,none⟩=some (.slice (some ⟨fb,fo,none⟩) nf fc1):=hM.b.b0.cell 1;go_simp;exact hK (.slice (some ⟨fb,fo,none⟩) nf fc1) g W rfl (Ev.refl hM.b.tw) hM):P:=h
theorem yfj {P:Prop}(h:P:=by
  rw[List.any_eq_true];constructor
  ·rintro⟨e,he,h⟩
   exact List.mem_map.2 ⟨e,he,by simpa using h⟩
  ·intro h
   obtain⟨e,he,h⟩:=List.mem_map.1 h;exact⟨e,he,by simpa using h⟩):P:=h
theorem yfk {P:Prop}(h:P:=by
  go_wp2_with fail;go_quiet (fail)
  go_wp2_with fail;go_roundw
  case rel=>exact⟨n+1,oM,by go_num,hcH.out,a3g hb _⟩
  case measure=>simp[intOf];omega):P:=h
theorem yfl {P:Prop}(h:P:=by
  cases e;exact⟨_,kp,λcur e he e2=>by simp only[Obj.cells.injEq]at e2;exact he e2.2.1.symm⟩):P:=h
theorem yfm {P:Prop}(h:P:=by
  cases ho;go_simp;exact hK (.pointer (some ⟨W.heap.size,0,none⟩)) _ ⟨_,rfl,hM.b.size,Blk.new _ _ _⟩ ((zR _ _).alloc (yR _) _) (hM.up ((zR _ _).alloc (yR _) _))):P:=h
theorem yfn {P:Prop}(h:P:=by
  have z0:W.cell? ⟨Bp,2,none⟩=some (.slice la pl.left.length lc):=a0l hM h_l2;go_simp;exact hK (.slice la pl.left.length lc) W rfl (zR _ _) hM):P:=h
theorem yfo {P:Prop}(h:P:=by
  cases ho;have f15:=a0a (v:= .pointer (some ⟨B15,0,none⟩)) (hA.at_ (k:=15) zM);go_simp;exact hK (.pointer (some ⟨B15,0,none⟩)) g W rfl (Ev.refl hM.tw) hM):P:=h
theorem yfp {P:Prop}(h:P:=by
  subst hji;obtain rfl:o'=oi:=Option.some.inj (ho'.symm.trans hoi);obtain rfl:d'=d:=Option.some.inj (hd'.symm.trans ho.dst);rw[Act.eval_put_same hd];exact h1):P:=h
theorem yfq {P:Prop}(h:P:=by
  go_simp;exact hK (.int .i64 ((M:Nat)+1)) W rfl (zR _ _) hM):P:=h
theorem yfr {P:Prop}(h:P:=by
  cases ho;have f6:=a0a (v:= .pointer (some ⟨B6,0,none⟩)) (hA.at_ (k:=6) zM);go_simp;exact hK (.pointer (some ⟨B6,0,none⟩)) W rfl (zR _ _) hM):P:=h
theorem yfs {P:Prop}(h:P:=by
  cases ho;have f6:=a0a (v:= .pointer (some ⟨B6,0,none⟩)) (hA.at_ (k:=6) zM);go_simp;exact hK (.pointer (some ⟨B6,1,none⟩)) W rfl (zR _ _) hM):P:=h
theorem yft {P:Prop}(h:P:=by
  cases ho;have f1:bb.tmps[1]?.getD undef= .int .i64 x:=a0a (v:= .int .i64 x) (hA.at_ (k:=1) zM);go_simp;exact hK (.int .i64 x) g W rfl (Ev.refl hM.ok) hM):P:=h
theorem yfu {P:Prop}(h:P:=by
  obtain⟨id,rfl,f0⟩:=h0.i rfl;obtain⟨m,hm,hl⟩:=h1.l rfl;obtain⟨l,rfl,f2⟩:=h2.i rfl;obtain⟨r,rfl,f3⟩:=h3.i rfl;exact⟨id,l,r,u1,m,c0,c1,c2,c3,f0,f2,f3,hl,hm⟩):P:=h
theorem yfv {P:Prop}(h:P:=by
  cases ho;have f5:=a0a (v:= .pointer (some ⟨BO,0,none⟩)) (hA.at_ (k:=5) zM);go_simp;exact hK (.pointer (some ⟨BO,1,none⟩)) g W rfl (Ev.refl hM.b.tw) hM):P:=h
theorem yfw {P:Prop}(h:P:=by
  obtain⟨i,hi,h4⟩:=Array.any_eq_true.1 h1;simp only[Bool.and_eq_true,beq_iff_eq]at h4;have:=h o.after[i] (Array.getElem_mem hi) h4.1;rw[h4.2]at this;exact this oj d h2 h3):P:=h
theorem yfx {P:Prop}(h:P:=by
  exact Ev.setCells hb news (o*s+n*i.size) W c hT hc (λj u ct h1 h2=>hnt j u ct h1 (by
   rw[hss,hsz,<-Nat.add_mul,Nat.mul_comm,Nat.mul_add_mod]at h2;exact h2))):P:=h
theorem yfy {P:Prop}(h:P:=by
  go_simp;exact hK (.slice (some ⟨W.heap.size,0,none⟩) 1 1) _ ⟨_,rfl,hM.bel.size,Blk.new _ _ _⟩ ((zR _ _).alloc (yR _) _) (hM.up ((zR _ _).alloc (yR _) _))):P:=h
theorem yfz {P:Prop}(h:P:=by
  exact hdone D xs _ oM hS (hI _ W2 _ (some (D+1)) hi (grownBy_putObj' W2 _ _) (λr e=>by cases e;exact⟨oM,hCl W2 _ _ hl rfl⟩)) ((World.putObj_heap_other oM).trans hd)):P:=h
theorem yga {P:Prop}(h:P:=by
  go_wp2_with fail;go_ret;exact⟨a6b he.out.symm,rfl⟩):P:=h
theorem ygb {P:Prop}(h:P:=by
  go_wp2_with fail;go_end0;have h5:=HO.out;rw[insOuter_stop _ _ _ _ _ hlt]at h5;refine⟨rfl,?_⟩;unfold insertionSort;rw[<-h5];exact HR.out):P:=h
theorem ygc {P:Prop}(h:P:=by
  cases ho;have f14:=a0a (v:=ev) (hA.at_ (k:=14) zM);go_simp;exact hK (ev) g W rfl (Ev.refl hM.1.te.tw) hM):P:=h
theorem ygd {P:Prop}(h:P:=by
  cases ho;have f12:=a0a (v:= .int .i64 (j:Nat)) (hA.at_ (k:=12) zM);go_simp;exact hK (.int .i64 (j:Nat)) W rfl (zR _ _) hM):P:=h
theorem yge {P:Prop}(h:P:=by
  cases ho;have f1:=a0a (v:= .int .i64 ix) (hA.at_ (k:=1) zM);go_simp;exact hK (.int .i64 ix) W rfl (zR _ _) hM):P:=h
theorem ygf {P:Prop}(h:P:=by
  go_simp;exact hK (.int .i64 (M:Nat)) W rfl (zR _ _) hM):P:=h
theorem ygg {P:Prop}(h:P:=by
  go_wp2_with fail;go_meet;exact⟨⟨none,[],0,rfl,Intz.nil _ _⟩,⟨rfl⟩⟩):P:=h
theorem ygh {P:Prop}(h:P:=by
  go_wp2_with fail;go_meet;exact⟨rfl,rfl⟩):P:=h
theorem ygi {P:Prop}(h:P:=by
  go_wp2_with (go_at_call 59;refine(a3o (by first|with_reducible exact h1.out|with_reducible exact h2.out) _).mono ?_;rintro e w'⟨rfl,rfl⟩);exact ybl):P:=h
theorem ygj {P:Prop}(h:P:=by
  rw[List.map_cons,List.nodup_cons];refine⟨λhm=> ?_,h.ne⟩;obtain⟨p,hp,hpe⟩:=List.mem_map.1 hm;have h2:=(h.bx p hp).1.lt;simp only at hpe;omega):P:=h
theorem ygk {P:Prop}(h:P:=by
  go_wp2_with fail;go_roundw
  case rel=>exact⟨j+1,n,S1,oM,by go_num,oM,hsl,hm⟩
  case measure=>simp[intOf];omega):P:=h
theorem ygl {P:Prop}(h:P:=by
  go_enter func32,ntmps32;go_wp2_with fail;exact bodyPost_ret (results_cell_row qM _ _ _ 28 _ (0,0) _ vM (Blk.new _ _ _) underlying28 qM zM) rfl ⟨rfl,zC⟩):P:=h
theorem ygm {P:Prop}(h:P:=by
  replace y0:=y0.cell 0;simp only[List.setIfInBounds_toArray,List.set_cons_zero]at y0;simp[Leaves,settle,results,results19,go_sem,y0];exact hb9):P:=h
theorem ygn {P:Prop}(h:P:=by
  simp only[intOf,Int.toNat_natCast];omega):P:=h
theorem ygo {P:Prop}(h:P:=by
  obtain⟨a,c,h,-⟩:=(a0h a8a hr9 uM).form;exact⟨_,_,_,h⟩):P:=h
theorem ygp {P:Prop}(h:P:=by
  have z0:W.cell? ⟨b,off+k*7,none⟩=some (.int .i64 id):=a0l hM h_q0;exact yiw):P:=h
theorem ygq {P:Prop}(h:P:=by
  go_roundw
  case rel=>exact⟨i+1,dj,by go_num,oM,oM,Lib.hid HJ.out.drew,hSo⟩
  case measure=>first|(simp[intOf];done)|(simp[intOf];omega)):P:=h
theorem ygr {P:Prop}(h:P:=by
  go_enter func169,ntmps169;exact yaw):P:=h
theorem ygs {P:Prop}(h:P:=by
  go_wp2_with fail;refine wp_loop_rounds 1 ?_;rw[rounds_succ];exact yaw):P:=h
theorem ygt {P:Prop}(h:P:=by
  exact h1.append_l hgd sO xO t ho ht he hsv (hA.sl hv) hown hxv (SL.blk (.inr rfl) (Blk.new W c e) (by rw[he.size,hcs,Nat.one_mul];exact yR _)) oM h):P:=h
theorem ygu {P:Prop}(h:P:=by
  have:=(Below.heap_alloc (w.alloc (.deferred (some []))) (.loop (R .ready none)) w.heap.size vM).trans (World.alloc_heap_new w _);rwa [hD]at this):P:=h
theorem ygv {P:Prop}(h:P:=by
  cases ho;have f12:=a0a (v:= .int .i64 (n:Nat)) (hA.at_ (k:=12) zM);go_simp;exact hK (.int .i64 (n:Nat)) g W rfl (Ev.refl hM.tw) hM):P:=h
theorem ygw {P:Prop}(h:P:=by
  rw[List.length_drop,show l.length=l.toArray.size from by simp]at h;exact h):P:=h
theorem ygx {P:Prop}(h:P:=by
  go_simp;refine(htx W).mono ?_;rintro e W'⟨rfl,hb⟩;go_simp;exact hK (.string s) g W' rfl (Ev.of_below hM.b.tw hb) (hM.up hb)):P:=h
theorem ygy {P:Prop}(h:P:=by
  cases ho;have f6:bb.tmps[6]?.getD undef=v6:=a0a (v:=v6) (hA.at_ (k:=6) zM);go_simp;exact hK v6 g W rfl (Ev.refl hM.ok) hM):P:=h
theorem ygz {P:Prop}(h:P:=by
  go_wp2_with fail;refine wp_loop_rounds 1 ?_;rw[rounds_succ];exact yef):P:=h
theorem yha {P:Prop}(h:P:=by
  exact bodyPost_ret (results_cell_row qM _ _ w.heap.size 26 _ (0,0) _ qM (Blk.new w _ _) underlying26 qM zM) rfl ⟨⟨_,_,rfl,zF,zF⟩,zC⟩):P:=h
theorem yhb {P:Prop}(h:P:=by
  rw[hoth k (λe=>hk i oi hin hoi (by rw[ho.dst,e]))];exact hA.same k hk):P:=h
theorem yhc {P:Prop}(h:P:=by
  cases ho;have f5:=a0a (v:= .int .u8 (c:Nat)) (hA.at_ (k:=5) zM);go_simp;exact hK (.int .u8 (c:Nat)) W rfl (zR _ _) hM):P:=h
theorem yhd {P:Prop}(h:P:=by
  unfold Blk at hc hc0;rw[hc]at hc0
  cases hc0;exact⟨rfl,rfl⟩):P:=h
theorem yhe {P:Prop}(h:P:=by
  have h3:=HJ3.out;unfold d5o at h3;rw[HX.out.1,HX.out.2,c3z]at h3;exact Lib.hid h3.drew):P:=h
theorem yhf {P:Prop}(h:P:=by
  cases ho;have f0:=a0a (v:= .int .i64 (n:Nat)) (hA.at_ (k:=0) zM);go_simp;exact hK (.int .i64 (n:Nat)) W rfl (zR _ _) hM):P:=h
theorem yhg {P:Prop}(h:P:=by
  exact bodyPost_ret (results_cell_row qM _ _ _ 26 _ (0,0) _ qM hk underlying26 qM zM) rfl ⟨⟨_,_,rfl,a1b _,a1b _⟩,zC⟩):P:=h
theorem yhh {P:Prop}(h:P:=by
  simp[Instr.sliceAt,Instr.slice,Instr.sliceBounds,Instr.sliceBound,asIntOf,run_underlying ht,hkI,hk2,hk,sizeOf,typeInfo,hi,hsz,go_sem]):P:=h
theorem yhi {P:Prop}(h:P:=by
  go_wp2_with fail;go_meet;exact⟨⟨_,_,_,rfl,hi⟩,⟨rfl⟩⟩):P:=h
theorem yhj {P:Prop}(h:P:=by
  rintro⟨⟨o',h',hc⟩,-⟩;rw[h]at h'
  cases h';rw[ho]at hc
  cases hc):P:=h
theorem yhk {P:Prop}(h:P:=by
  have z0:W.cell? ⟨B15,0,none⟩=some (.int .i64 cx):=hM.b0.cell 0;go_simp;exact hK (.int .i64 cx) g W rfl (Ev.refl hM.tw) hM):P:=h
theorem yhl {P:Prop}(h:P:=by
  go_wp2_with fail;go_quiet (fail)
  exact ybn):P:=h
theorem yhm {P:Prop}(h:P:=by
  obtain⟨⟨o,ho,-⟩,-⟩:=h;exact(Array.getElem?_eq_some_iff.1 ho).1):P:=h
theorem yhn {P:Prop}(h:P:=by
  go_wp2_with fail;go_roundw
  case rel=>exact⟨k+1,S',l,oM,by go_num,oM,hok,hdG.tail⟩
  case measure=>simp[intOf];omega):P:=h
theorem yho {P:Prop}(h:P:=by
  go_wp2_with (go_at_call 59;refine(a3o (by first|with_reducible exact h1.out) _).mono ?_;rintro e w'⟨rfl,rfl⟩);exact ybl):P:=h
theorem yhp {P:Prop}(h:P:=by
  obtain⟨h1,h2|⟨g,cap,cur,h2,h3,h4⟩⟩:=h
  ·exact⟨h1,.inl h2⟩
  ·exact⟨h1,.inr ⟨g,cap,cur,h2,Nat.le_trans hb h3,h4⟩⟩):P:=h
theorem yhq {P:Prop}(h:P:=by
  have z0:W.cell? ⟨B6,0,none⟩=some (.int .i64 ax):=hM.a.cell 0;go_simp;exact hK (.int .i64 ax) W rfl (zR _ _) hM):P:=h
theorem yhr {P:Prop}(h:P:=by
  have z0:W.cell? ⟨B6,1,none⟩=some (.int .i64 ay):=hM.a.cell 1;go_simp;exact hK (.int .i64 ay) W rfl (zR _ _) hM):P:=h
theorem yhs {P:Prop}(h:P:=by
  repeat' split
  all_goals omega):P:=h
theorem yht {P:Prop}(h:P:=by
  obtain⟨a,c,e,-⟩:=h.form;simp only[Value.slice.injEq]at e;exact absurd (List.eq_nil_of_length_eq_zero e.2.1.symm) hl):P:=h
theorem yhu {P:Prop}(h:P:=by
  split at hst
  ·rename_i hwt
   rw[if_pos hwt];exact .inl hst
  ·rename_i hwt
   rw[if_neg hwt];exact hst):P:=h
theorem yhv {P:Prop}(h:P:=by
  have:=h.ne;rw[List.map_cons,List.nodup_cons]at this;exact this.1 (List.mem_map.2 ⟨p,hp',(Option.some.inj e).symm⟩)):P:=h
theorem yhw {P:Prop}(h:P:=by
  exact bodyPost_ret (v:= .tuple #[.int .i64 0,.int .i64 0,.bool false]) (by simp[results,results62,go_sem]) rfl ⟨rfl,zC⟩):P:=h
theorem yhx {P:Prop}(h:P:=by
  exact bodyPost_ret (v:= .tuple #[.int .i64 0,.int .i64 0,.bool false]) (by simp[results,results95,go_sem]) rfl ⟨rfl,zC⟩):P:=h
theorem yhy {P:Prop}(h:P:=by
  obtain⟨o,h1,h2⟩:=bx r er;exact⟨o,h1,λcur=>h2 cur e he⟩):P:=h
theorem yhz {P:Prop}(h:P:=by
  refine⟨by simp,.inl ⟨_,_,rfl,run_takeDeferred hK9,?_⟩⟩;exact⟨by first|exact .inr ⟨hcd,rfl⟩|rfl,hB9⟩):P:=h
theorem yia {P:Prop}(h:P:=by
  subst this;clear hb;go_enter func167,ntmps167;exact yaw):P:=h
theorem yib {P:Prop}(h:P:=by
  go_wp2_with fail;refine bodyPost_ret (results_none rfl _ _ _) rfl ?_;exact⟨rfl,.mk HK.out hfin.out⟩):P:=h
theorem yic {P:Prop}(h:P:=by
  go_wp2_with fail;go_meet;exact⟨by simp[g1],rfl⟩):P:=h
theorem yid {P:Prop}(h:P:=by
  rintro e W'⟨u,rfl,h1,h2,hb⟩;go_simp;exact hK u W' ⟨u,rfl,h1,h2⟩ hb (hM.trans (hb.mono hM.size))):P:=h
theorem yie {P:Prop}(h:P:=by
  have:=World.alloc_heap_new (w.alloc (.deferred (some []))) (.loop (R .ready none));rwa [World.size_alloc,hD]at this):P:=h
theorem yif {P:Prop}(h:P:=by
  rw[List.length_append];rcases hown.2 with⟨-,e⟩|⟨g',cap',cur,e,-⟩
  ·omega
  ·exact⟨g',cap',e⟩):P:=h
theorem yig {P:Prop}(h:P:=by
  obtain⟨k,hk,rfl⟩:=Array.getElem_of_mem he;have:=(Array.all_eq_true.1 h3) k hk;simpa[hb]using this):P:=h
theorem yih {P:Prop}(h:P:=by
  rw[Addr.add_lit];exact hx.flat hE j u hj):P:=h
theorem yii {P:Prop}(h:P:=by
  split
  ·rw[List.map_map]
   refine List.map_congr_left λe _=> ?_
   by_cases h:e.1=p
   ·simp[h]
   ·simp[h]
  ·simp):P:=h
theorem yij {P:Prop}(h:P:=by
  obtain⟨cc,hcc⟩:∃c:Int,c=42:=⟨_,rfl⟩;exact yan):P:=h
theorem yik {P:Prop}(h:P:=by
  obtain⟨D,⟨es,clock,he,r⟩,h1,h2,h3⟩:=h;exact⟨D,⟨es,clock,(hb.block b hB).trans he,r⟩,h1,h2,h3⟩):P:=h
theorem yil {P:Prop}(h:P:=by
  split at h
  all_goals first|exact h|(exact h)|(obtain⟨B,h1,h2,h3⟩:=h;exact⟨B,h1,h2,h3.below hg h3.lt⟩)):P:=h
theorem yim {P:Prop}(h:P:=by
  go_simp;refine(hM.1.node hss (ci) (j) oM oM oM oM).mono ?_;exact ybe):P:=h
theorem yin {P:Prop}(h:P:=by
  rintro e W'⟨rfl,hb⟩;go_simp;exact hK (.bool true) W' rfl hb (hM.trans (hb.mono hM.size))):P:=h
theorem yio {P:Prop}(h:P:=by
  have t2:(65:Int)<=(c:Nat):=oM;have t3:¬((c:Nat):Int)<=90:=oM;exact ybb):P:=h
theorem yip {P:Prop}(h:P:=by
  have t2:(65:Int)<=(c:Nat):=oM;have t3:¬((c:Nat):Int)<=90:=oM;exact yao):P:=h
theorem yiq {P:Prop}(h:P:=by
  subst hzx;go_wp2_with fail;go_ret;exact⟨S,_,rfl,⟨n,hslr,oM⟩,evr⟩):P:=h
theorem yir {P:Prop}(h:P:=by
  rw[List.length_append,List.flatMap_append];exact hown):P:=h
theorem yis {P:Prop}(h:P:=by
  show(if n=0 then [60]else a7z s n)++[(a8g (s[n]!).toNat).toUInt8]=_;rw[getElem!_pos s n hlt]):P:=h
theorem yit {P:Prop}(h:P:=by
  have h1:=(hr t (by rw[size_flatK,hz];exact ht)).1;rw[Nat.zero_add,hk.cell t]at h1;simpa using h1):P:=h
theorem yiu {P:Prop}(h:P:=by
  split at h
  all_goals first|exact h|(obtain⟨L,h1,h2,h3⟩:=h;exact⟨L,h1,h2,h3.below hg h3.lt⟩)):P:=h
theorem yiv {P:Prop}(h:P:=by
  split at h
  all_goals first|exact h|(obtain⟨B,h1,h2,h3⟩:=h;exact⟨B,h1,h2,h3.below hg h3.lt⟩)):P:=h
theorem yiw {P:Prop}(h:P:=by
  go_simp;exact hK (.int .i64 id) W rfl (zR _ _) hM):P:=h
theorem yix {P:Prop}(h:P:=by
  go_wp2_with fail;go_ret;exact d0v hb hB hown8 hb48 (by rw[hput.out,hlk.out];simp)):P:=h
theorem yiy {P:Prop}(h:P:=by
  have:=List.all_eq_true.1 h4 j (List.mem_range.2 hj);rw[ho']at this;simp[hne,e]at this):P:=h
theorem yiz {P:Prop}(h:P:=by
  rw[List.getElem?_eq_none uM,List.getElem?_eq_none oM]):P:=h
theorem yja {P:Prop}(h:P:=by
  simp only[World.size_alloc]at h1;rw[hW1];exact h1):P:=h
theorem yjb {P:Prop}(h:P:=by
  rcases h.c_row hD.b hc with rfl|rfl|rfl|hk
  ·exact h.cb
  ·exact h.cc
  ·exact h.cm
  ·exact h.cr hk):P:=h
theorem yjc {P:Prop}(h:P:=by
  cases ho;have f13:=a0a (v:= .int .i64 (k:Nat)) (hA.at_ (k:=13) zM);exact ybg):P:=h
theorem yjd {P:Prop}(h:P:=by
  cases ho;have f12:=a0a (v:= .int .i64 (M:Nat)) (hA.at_ (k:=12) zM);exact ygf):P:=h
theorem yje {P:Prop}(h:P:=by
  split at h
  all_goals first|exact h|(exact h)|(obtain⟨n,h1,h2⟩:=h;exact⟨n,hg.sl h1,h2⟩)):P:=h
theorem yjf {P:Prop}(h:P:=by
  cases ho;have f8:=a0a (v:= .int .i64 (M:Nat)) (hA.at_ (k:=8) zM);exact ygf):P:=h
theorem yjg {P:Prop}(h:P:=by
  go_simp;exact hK (.pointer (some ⟨b,off+k*4+2,none⟩)) W rfl (zR _ _) hM):P:=h
theorem yjh {P:Prop}(h:P:=by
  rcases h.2 with⟨e1,-⟩|⟨g,cap,cur,e1,-⟩
  ·exact .inl e1
  ·exact .inr ⟨g,0,cap,e1⟩):P:=h
theorem yji {P:Prop}(h:P:=by
  go_simp;exact hK (.pointer (some ⟨b,off+k*4+3,none⟩)) W rfl (zR _ _) hM):P:=h
theorem yjj {P:Prop}(h:P:=by
  go_simp;exact hK (.agg #[.int .i64 bx,.int .i64 by_,.int .i64 bd]) W rfl (zR _ _) hM):P:=h
theorem yjk {P:Prop}(h:P:=by
  obtain⟨a,c,h,-⟩:=(a0h c1q hr9 uM).form;exact⟨_,_,_,h⟩):P:=h
theorem yjl {P:Prop}(h:P:=by
  go_wp2_with fail;go_ret;exact⟨rfl,hB⟩):P:=h
theorem yjm {P:Prop}(h:P:=by
  go_simp;exact hK (.pointer (some ⟨dg,dO+j*4,none⟩)) W rfl (zR _ _) hM):P:=h
theorem yjn {P:Prop}(h:P:=by
  have:=hL y hy;simp only[List.map_append,List.mem_append];exact .inl this):P:=h
theorem yjo {P:Prop}(h:P:=by
  simp only[onS,inR]at hon;simp only[Bool.and_eq_true,decide_eq_true_eq]at hon;omega):P:=h
theorem yjp {P:Prop}(h:P:=by
  go_simp;exact hK (.agg #[.int .i64 ax,.int .i64 ay,.int .i64 ad]) W rfl (zR _ _) hM):P:=h
theorem yjq {P:Prop}(h:P:=by
  simp[Lit.wf,IntKind.min,IntKind.max,IntKind.signed,IntKind.bits]at h;exact⟨oM,oM⟩):P:=h
theorem yjr {P:Prop}(h:P:=by
  go_wp2_with fail
  all_goals
   go_ret;exact⟨by first|rfl|(congr 2;simp;omega),rfl⟩):P:=h
theorem yjs {P:Prop}(h:P:=by
  split <;> simp <;> omega):P:=h
theorem yjt {P:Prop}(h:P:=by
  rintro e w'⟨rfl,hb⟩;rw[List.take_length,a8i];exact⟨rfl,hb⟩):P:=h
theorem yju {P:Prop}(h:P:=by
  rintro e w'⟨rfl,rfl⟩;exact⟨_,rfl,⟨by simp,.inl ⟨rfl,rfl⟩⟩,zR _ _⟩):P:=h
theorem yjv {P:Prop}(h:P:=by
  rw[h1]at e
  cases e;exact .inr h2):P:=h
end
end Go
