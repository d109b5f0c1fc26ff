/-
  Parts.
-/
import Derived.WalkKit
import Derived.WalkSpells
import Derived.WalkLawsBesides
import Derived.Deep.Quiet
import Derived.Deep.QuietTactic
import Derived.BigQuiet
import Derived.Lib.Hide
import Derived.StillTail
import Derived.ProofKit
import Derived.OpenShut
set_option linter.unusedVariables false
set_option linter.unusedSimpArgs false
namespace Go
section
open Go.RowKit
abbrev zR:= @Below.refl
abbrev yR:= @Nat.le_refl
structure Growth where
 objs:Array Obj
 drawn:Nat
instance:Nonempty Growth:=⟨⟨#[],0⟩⟩
def World.growBy (w:World)(p:Growth):World:={ w with heap:=w.heap++p.objs,drawn:=p.drawn }
section
variable (w:World)(p q:Growth)
theorem World.heap_growBy {n:Nat}(h:n<w.heap.size):(w.growBy p).heap[n]? =w.heap[n]? :=by
 show (w.heap++p.objs)[n]? =_;rw[Array.getElem?_append_left h]
theorem World.lt_of_isSome {w:World}{a:Addr}(h:(w.cell? a).isSome=true):a.block<w.heap.size:=by
 obtain⟨v,hv⟩:=Option.isSome_iff_exists.1 h;exact World.block_lt_of_cell? _ _ hv
def World.cellOf (w:World)(a:Addr):Option Value:=w.cell? a
def World.frozenOf (w:World)(a:Addr):Bool:=w.frozen? a
def World.setCellOf (w:World)(a:Addr)(v:Value):World:=w.setCell a v
theorem World.cell?_growBy' {a:Addr}(h:a.block<w.heap.size):(w.growBy p).cell? a=w.cell? a:=by
 have h1:=w.heap_growBy p h;unfold World.cell?;rw[h1]
theorem World.frozen?_growBy' {a:Addr}(h:a.block<w.heap.size):(w.growBy p).frozen? a=w.frozen? a:=by
 have h1:=w.heap_growBy p h;unfold World.frozen?;rw[h1]
theorem World.frozen?_high {w:World}{a:Addr}(h:w.heap.size≤a.block):w.frozen? a=false:=by
 unfold World.frozen?;rw[Array.getElem?_eq_none h]
@[go_sem] theorem World.cell?_growBy (n i:Nat):(w.growBy p).cell? ⟨n,i,none⟩=(w.cell? ⟨n,i,none⟩).or ((w.growBy p).cellOf ⟨n,i,none⟩):=by
 cases h:w.cell? ⟨n,i,none⟩ with
 |none=>rfl
 |some v=>rw[World.cell?_growBy' w p (World.block_lt_of_cell? _ _ h),h];rfl
@[go_sem 50] theorem World.cell?_alloc_or (o:Obj) (n i:Nat):(w.alloc o).cell? ⟨n,i,none⟩=(w.cell? ⟨n,i,none⟩).or ((w.alloc o).cellOf ⟨n,i,none⟩):=by
 cases h:w.cell? ⟨n,i,none⟩ with
 |none=>rfl
 |some v=>rw[World.cell?_alloc_lt w o _ (World.block_lt_of_cell? _ _ h),h];rfl
@[go_sem] theorem World.frozen?_growBy (n i:Nat):(w.growBy p).frozen? ⟨n,i,none⟩=(w.frozen? ⟨n,i,none⟩||((w.cell? ⟨n,i,none⟩).isNone&&(w.growBy p).frozenOf ⟨n,i,none⟩)):=by
 by_cases hb:n<w.heap.size
 ·rw[World.frozen?_growBy' w p (a:=⟨n,i,none⟩) hb]
  unfold World.frozenOf;rw[World.frozen?_growBy' w p (a:=⟨n,i,none⟩) hb]
  cases w.frozen? ⟨n,i,none⟩ <;> simp
 ·rw[World.frozen?_high (w:=w) (a:=⟨n,i,none⟩) (by simpa using hb)]
  cases h:w.cell? ⟨n,i,none⟩ with
  |none=>simp[World.frozenOf]
  |some v=>exact absurd (World.block_lt_of_cell? _ _ h) hb
@[go_sem 50] theorem World.frozen?_alloc_or (o:Obj) (n i:Nat):(w.alloc o).frozen? ⟨n,i,none⟩=(w.frozen? ⟨n,i,none⟩||((w.cell? ⟨n,i,none⟩).isNone&&(w.alloc o).frozenOf ⟨n,i,none⟩)):=by
 by_cases hb:n<w.heap.size
 ·rw[World.frozen?_alloc_old w o ⟨n,i,none⟩ (Nat.ne_of_lt hb)]
  unfold World.frozenOf;rw[World.frozen?_alloc_old w o ⟨n,i,none⟩ (Nat.ne_of_lt hb)]
  cases w.frozen? ⟨n,i,none⟩ <;> simp
 ·rw[World.frozen?_high (w:=w) (a:=⟨n,i,none⟩) (by simpa using hb)]
  cases h:w.cell? ⟨n,i,none⟩ with
  |none=>simp[World.frozenOf]
  |some v=>exact absurd (World.block_lt_of_cell? _ _ h) hb
theorem World.setCell_growBy' (n i:Nat)(v:Value)(h1:n<w.heap.size):(w.growBy p).setCell ⟨n,i,none⟩ v=(w.setCell ⟨n,i,none⟩ v).growBy p:=by
 unfold World.growBy World.setCell;simp only[World.mk.injEq,and_true];apply Array.ext_getElem?;intro k;rw[Array.getElem?_modify,Array.getElem?_append,Array.getElem?_append,Array.size_modify,Array.getElem?_modify];by_cases hk:n=k
 ·subst hk;simp only[if_true];rw[if_pos h1,if_pos h1]
 ·simp only[hk,if_false]
@[go_sem] theorem World.setCell_growBy (n i:Nat) (v:Value):(w.growBy p).setCell ⟨n,i,none⟩ v=if (w.cell? ⟨n,i,none⟩).isSome then (w.setCell ⟨n,i,none⟩ v).growBy p else (w.growBy p).setCellOf ⟨n,i,none⟩ v:=by
 split
 ·rename_i h;exact World.setCell_growBy' w p n i v (World.lt_of_isSome h)
 ·rfl
@[go_sem 50] theorem World.setCell_alloc_or (o:Obj) (n i:Nat) (v:Value):(w.alloc o).setCell ⟨n,i,none⟩ v=if (w.cell? ⟨n,i,none⟩).isSome then (w.setCell ⟨n,i,none⟩ v).alloc o else (w.alloc o).setCellOf ⟨n,i,none⟩ v:=by
 split
 ·rename_i h;exact World.setCell_alloc_past (w:=w) o n i v (World.lt_of_isSome h)
 ·rfl
@[simp,go_sem] theorem World.size_growBy:(w.growBy p).heap.size=w.heap.size+p.objs.size:=Array.size_append
@[simp,go_sem] theorem World.tape_growBy:(w.growBy p).tape=w.tape:=rfl
@[simp,go_sem] theorem World.os_growBy:(w.growBy p).os=w.os:=rfl
@[simp,go_sem] theorem World.drew_growBy:(w.growBy p).drew=w.growBy ⟨p.objs,p.drawn+1⟩:=rfl
@[simp,go_sem] theorem World.drewN_growBy (n:Nat):(w.growBy p).drewN n=w.growBy ⟨p.objs,p.drawn+n⟩:=rfl
@[simp,go_sem] theorem World.growBy_growBy:(w.growBy p).growBy q=w.growBy ⟨p.objs++q.objs,q.drawn⟩:=by
 unfold World.growBy;simp[Array.append_assoc]
@[simp,go_sem] theorem World.growBy_drew:w.drew.growBy p=w.growBy p:=rfl
@[simp,go_sem] theorem World.growBy_drewN (n:Nat):(w.drewN n).growBy p=w.growBy p:=rfl
theorem b3n {B:Nat}{w:World}{o:Obj}(h:B≤w.heap.size):B≤(w.alloc o).heap.size:=by rw[World.size_alloc];omega
theorem c3a {B:Nat}{w:World}{p:Growth}(h:B≤w.heap.size):B≤(w.growBy p).heap.size:=by rw[World.size_growBy];omega
theorem c1b {B:Nat}{w:World}{a:Addr}{v:Value}(h:B≤w.heap.size):B≤(w.setCell a v).heap.size:=by rw[World.size_setCell];omega
theorem d0p {B:Nat}{w:World}(h:B≤w.heap.size):B≤w.drew.heap.size:=h
theorem below_growBy:Below w.heap.size w (w.growBy p) :=
 ⟨rfl,rfl,rfl,by simp,fun _ h=>w.heap_growBy p h⟩
theorem a4v {B:Nat}{a w:World}(h:Below B a w)(hB:B≤w.heap.size)(p:Growth):Below B a (w.growBy p) :=
 h.trans ((below_growBy w p).mono hB)
abbrev zG:= @a4v
abbrev zA:= @Below.alloc
abbrev zS:= @Below.setCell
abbrev zD:= @Below.drew
theorem a1a:w.grownBy (w.growBy p) none:=⟨rfl,rfl,rfl,by simp,fun k hk _=>w.heap_growBy p hk⟩
theorem a0e {w w':World}(h:Below w.heap.size w w'):∃p,w'=w.growBy p:=by
 refine⟨⟨w'.heap.extract w.heap.size w'.heap.size,w'.drawn⟩,?_⟩;obtain⟨h1,h2,h3,h4,h5⟩:=h
 cases w' with
 |mk heap' tape' drawn' os' output' =>
  simp only at h1 h2 h3 h4 h5;unfold World.growBy;simp only[World.mk.injEq];refine⟨?_,h2,trivial,h1,h3⟩;apply Array.ext_getElem?;intro k;by_cases hk:k<w.heap.size
  ·rw[Array.getElem?_append_left hk];exact h5 k hk
  ·rw[Array.getElem?_append_right (by omega),Array.getElem?_extract]
   by_cases hk2:k<heap'.size
   ·rw[if_pos (by omega),show w.heap.size+(k-w.heap.size)=k from by omega]
   ·rw[if_neg (by omega)]
    exact Array.getElem?_eq_none (by omega)
end
section
variable {P:Program}
theorem Calls.grow_of {f:FuncId}{args:Array Value}{w:World}{p:Growth}{v:Value}
 (h:Calls P f args (w.growBy p) fun e w'=>e= .returned v∧Below (w.growBy p).heap.size (w.growBy p) w') :
 Calls P f args (w.growBy p) fun e w'=>e= .returned v∧∃q,w'=w.growBy q :=
 h.mono fun _ _ ⟨he,hb⟩=>⟨he,by obtain⟨q,rfl⟩:=a0e hb;exact⟨_,World.growBy_growBy w p q⟩⟩
theorem Calls.grow_of_same {f:FuncId}{args:Array Value}{w:World}{p:Growth}{v:Value}
 (h:Calls P f args (w.growBy p) fun e w'=>e= .returned v∧w.growBy p=w') :
 Calls P f args (w.growBy p) fun e w'=>e= .returned v∧∃q,w'=w.growBy q :=
 h.mono fun _ _ ⟨he,hb⟩=>⟨he,p,hb.symm⟩
theorem a0v {id:Nat}{Q:Exit→Act→World→Prop}{a:Act}{w:World}{l:List Oper}(hm:P.follows .mixedOrders=true)(hB:Region.lexB .any l.toArray=true)
 (h:wpQuiet P l.toArray (fun w'=>∃p,w'=w.growBy p) (fun a'=>∀w',(∃p,w'=w.growBy p)→Q .normal a' w') l a):(Code.region id l.toArray true).wp P Q a w :=
 wp_region_quiet (C:=fun w'=>∃p,w'=w.growBy p) hm hB ⟨⟨#[],w.drawn+1⟩,by unfold World.growBy;simp⟩ (by simpa using h)
theorem a0t {id:Nat}{Q:Exit→Act→World→Prop}{a:Act}{w:World}{p:Growth}{l:List Oper}(hm:P.follows .mixedOrders=true)(hB:Region.lexB .any l.toArray=true)
 (h:wpQuiet P l.toArray (fun w'=>∃p,w'=w.growBy p) (fun a'=>∀w',(∃p,w'=w.growBy p)→Q .normal a' w') l a):(Code.region id l.toArray true).wp P Q a (w.growBy p) :=
 wp_region_quiet (C:=fun w'=>∃p,w'=w.growBy p) hm hB ⟨⟨p.objs,p.drawn+1⟩,rfl⟩ (by simpa using h)
theorem a4w {W:World}{b:Nat}{c:Array Value}{t:TypeId}{f:Nat×Nat}(h:W.heap[b]? =some (.cells c t f))(i:Nat):W.cell? ⟨b,i,none⟩=c[i]? :=by
 unfold World.cell?;rw[h];rfl
theorem a0g {c:Code}{Q:Exit→Act→World→Prop}{a:Act}{w:World}(h:∀W,W=w→c.wp P Q a W):c.wp P Q a w:=h w rfl
abbrev yA:= @b3n
abbrev yG:= @c3a
abbrev yS:= @c1b
abbrev yD:= @d0p
end
theorem zC {P:Prop}(h:P:=by repeat' (first|with_reducible (first|exact zR _ _|exact yR _|assumption|refine zG ?_ ?_ _|refine zA ?_ ?_ _|refine zS ?_ ?_ _|refine zD ?_|refine yA ?_|refine yG ?_|refine yS ?_|refine yD ?_)|omega|(dsimp only;omega))):P:=h
section
variable {P:Program}{ops:Array Oper}{md:Region.Mode}{C:World→Prop}
def b5p (P:Program)(md:Region.Mode)(ops:Array Oper)(C:World→Prop)(n:Nat)(L:Array Bool→Act→Prop):Nat→Array Bool→Act→Prop
 |0,s,a=>L s a
 |f+1,s,a=>Region.ready md ops s≠[]∧∀i∈Region.ready md ops s,i<n∧qOp P ops C i (b5p P md ops C n L f (s.setIfInBounds i true)) a
theorem b0b {n g:Nat}{L:Array Bool→Act→Prop}{Q:Exit→Act→World→Prop}(hL:∀s a w,C w→L s a→wpAny P md ops Q g s a w) :
 ∀(f:Nat) (s:Array Bool) (a:Act) (w:World),C w→b5p P md ops C n L f s a→wpAny P md ops Q (f+g) s a w:=by
 intro f;induction f with
 |zero=>intro s a w hw h;rw[Nat.zero_add];exact hL _ _ _ hw h
 |succ f ih =>
  intro s a w hw h;rw[Nat.succ_add];refine⟨fun he=>absurd he h.1,fun i hi=> ?_⟩;exact wpOp_of_qOp hw (fun a' w' hw' h'=>ih _ a' w' hw' h') (h.2 i hi).2
theorem a7e {n i:Nat}{s:Array Bool}(hs:Region.sinkB md ops n=true)(hc:Region.chainB md ops n=true)(hn:n<ops.size)(inv:HeadInv md ops n s)(hi:i<n)(hun:s.getD i true=false) :
 ∀j∈Region.ready md ops s,j<n:=by
 intro j hj;by_cases h:j<n
 ·exact h
 ·exact absurd hj (tail_waits hs hc hn inv _ i rfl hi hun j (by omega))
theorem b7z {n i:Nat}{oi:Oper}{v:Value}{L:Array Bool→Act→Prop}(hi:ops[i]? =some oi)(hsel:∀(j:Nat)(o:Oper) cs b,ops[j]? =some o→o.op≠.select cs b)
 (hs:Region.sinkB md ops n=true) (hc:Region.chainB md ops n=true) (hn:n<ops.size) (hin:i<n)
 (hdone:∀s a,L s a→∀j∈Region.ready md ops s,n≤j) (f:Nat) :
 ∀(s:Array Bool) (a:Act),HeadInv md ops n s →
  (∀j oj,ops[j]? =some oj→j≠i→s.getD j true=false→(∀e∈oj.after,Region.binds md e=true→e.on≠i)→oi.apart ops oj=true) →
  i∈Region.ready md ops s→YieldsIn P ops C oi v a →
  b5p P md ops C n L f (s.setIfInBounds i true) (a.put oi.dst v)→b5p P md ops C n L (f+1) s a:=by
 induction f with
 |zero =>
  intro s a inv _ hr hy H;have hlt:=a7e hs hc hn inv hin (mem_ready.1 hr).1;refine⟨List.ne_nil_of_mem hr,fun j hj=>⟨hlt j hj,?_⟩⟩;rcases Nat.decEq j i with hji|hji
  ·have h1:=hdone _ _ H j (ready_mono hj hji)
   have h2:=hlt j hj;omega
  ·subst hji;exact hy.qOp hi H
 |succ f ih =>
  intro s a inv hfree hr hy H;have hlt:=a7e hs hc hn inv hin (mem_ready.1 hr).1;refine⟨List.ne_nil_of_mem hr,fun j hj=>⟨hlt j hj,?_⟩⟩;rcases Nat.decEq j i with hji|hji
  ·obtain⟨hjun,oj,hoj,hall⟩:=mem_ready.1 hj
   have hno:∀e∈oj.after,Region.binds md e=true→e.on≠i:=by
    intro e he hb heq;have h1:=hall e he hb;rw[heq,getD_both (mem_ready.1 hr).1] at h1
    cases h1
   have h1:=(H.2 j (ready_mono hj hji)).2;have h2:=qOp_put hoj (hfree j oj hoj hji hjun hno) (fun cs b=>hsel i oi cs b hi) (fun cs b=>hsel j oj cs b hoj) hy h1;refine qOp_mono (fun a' h3=>ih (s.setIfInBounds j true) a' (inv.set hj (hlt j hj)) ?_ (ready_mono hr (Ne.symm hji)) h3.1 ?_) h2
   ·intro k ok hk hki hun hnk
    refine hfree k ok hk hki ?_ hnk;rcases Nat.decEq j k with hjk|hjk
    ·rw[getD_set_ne true hjk] at hun;exact hun
    ·subst hjk;exact hjun
   ·rw[Array.setIfInBounds_comm _ _ hji];exact h3.2
  ·subst hji;exact hy.qOp hi H
theorem c1c {n g:Nat}{Lq:Act→Prop}(hsel:Region.noSelect ops=true)(hs:Region.sinkB md ops n=true)(hc:Region.chainB md ops n=true)(hn:n<ops.size)(l:List Oper) :
 ∀(k:Nat) (s:Array Bool) (a:Act),(∀j,j<l.length→l[j]? =ops[k+j]?)→k+l.length=n→HeadInv md ops n s →
 Region.lexHead md ops g l.length k s=true→wpQuiet P ops C Lq l a →
 b5p P md ops C n (fun s' a'=>Region.seqB md ops g n s'=true∧Lq a') l.length s a:=by
 induction l with
 |nil =>
  intro k s a _ hk _ hB h;obtain rfl:k=n:=by simpa using hk
  exact⟨by simpa [Region.lexHead] using hB,h⟩
 |cons o l ih =>
  intro k s a hl hk inv hB h;have h0:ops[k]? =some o:=by simpa using (hl 0 (by simp)).symm
  simp only[List.length_cons] at hk;simp only[List.length_cons,Region.lexHead,Bool.and_eq_true] at hB;obtain⟨⟨hr,hf⟩,hB'⟩:=hB;have hr':k∈Region.ready md ops s:=by simpa using hr
  have hq:qOp P ops C k (wpQuiet P ops C Lq l) a:=by unfold qOp;simp only[h0];exact h
  obtain⟨v,hy,hK⟩:=yieldsIn_of_qOp h0 hq;refine b7z h0 (Region.noSelect_spec hsel) hs hc hn (by omega) (fun s' a' hL=>seqB_ready hL.1) l.length s a inv (Region.free_spec h0 hf) hr' hy ?_;refine ih (k+1) _ _ (fun j hj=> ?_) (by omega) (inv.set hr' (by omega)) hB' hK;have h1:=hl (j+1) (by simp only[List.length_cons];omega);rw[show k+1+j=k+(j+1) from by omega];simpa using h1
theorem a4k {id:Nat}{Q:Exit→Act→World→Prop}{a:Act}{w:World}{l:List Oper}(n:Nat)(hm:P.follows .mixedOrders=true)(hB:Region.lexTailB .any l.toArray n=true)(hC:C w.drew)
 (h:wpQuiet P l.toArray C (fun a'=>∀w',C w'→wpList P l.toArray Q (l.drop n) a' w') (l.take n) a):(Code.region id l.toArray true).wp P Q a w:=by
 simp only[Region.lexTailB,Bool.and_eq_true,decide_eq_true_eq] at hB;obtain⟨⟨⟨⟨hsel,hn⟩,hs⟩,hc⟩,hlex⟩:=hB;have hn':n<l.length:=by simpa using hn
 have htl:(l.take n).length=n:=by rw[List.length_take];omega
 have hdl:(l.drop n).length=l.toArray.size-n:=by simp
 have inv0:HeadInv .any l.toArray n (Array.replicate l.toArray.size false) :=
  ⟨by simp,fun j oj _ hl=>(by rw[getD_replicate_false] at hl;cases hl),fun t _ ht=>getD_in (by simpa using ht) (getD_replicate_false _ _)⟩
 have H:=c1c (md:= .any) (g:=l.toArray.size-n) hsel hs hc hn (l.take n) 0 _ a (fun j hj=>by
  have hj':j<n:=by omega
  simp[hj']) (by simpa using htl) inv0 (by rw[htl];exact hlex) h
 refine wp_region_any hm ?_;have key:=b0b (Q:=Q) (g:=l.toArray.size-n) (fun s a' w' hw' hL=>by
  have h1:=wpAny_of_seq (md:= .any) (Q':=Q) (l.drop n) n s a' w' (fun j=>by simp[List.getElem?_drop]) (by rw[hdl];exact hL.1) (hL.2 w' hw');rwa [hdl] at h1) _ _ _ _ hC H
 rw[htl,show n+(l.toArray.size-n)=l.toArray.size from by omega] at key;exact key
theorem a0d {id:Nat}{Q:Exit→Act→World→Prop}{a:Act}{w:World}{l:List Oper}(n:Nat)(hm:P.follows .mixedOrders=true)(hB:Region.lexTailB .any l.toArray n=true)
 (h:wpQuiet P l.toArray (fun w'=>∃p,w'=w.growBy p) (fun a'=>∀w',(∃p,w'=w.growBy p)→wpList P l.toArray Q (l.drop n) a' w') (l.take n) a):(Code.region id l.toArray true).wp P Q a w :=
 a4k n hm hB ⟨⟨#[],w.drawn+1⟩,by unfold World.growBy World.drew;simp⟩ h
theorem a0c {id:Nat}{Q:Exit→Act→World→Prop}{a:Act}{w:World}{p:Growth}{l:List Oper}(n:Nat)(hm:P.follows .mixedOrders=true)(hB:Region.lexTailB .any l.toArray n=true)
 (h:wpQuiet P l.toArray (fun w'=>∃p,w'=w.growBy p) (fun a'=>∀w',(∃p,w'=w.growBy p)→wpList P l.toArray Q (l.drop n) a' w') (l.take n) a):(Code.region id l.toArray true).wp P Q a (w.growBy p) :=
 a4k n hm hB ⟨⟨p.objs,p.drawn+1⟩,rfl⟩ h
end
section
variable {P:Program}{ops:Array Oper}
theorem Act.eval_put_same {a:Act}{d:Nat}{v:Value}(h:d<a.tmps.size):(a.put (some d) v).eval (.tmp d)=v:=by
 simp[Act.put,Act.eval,h]
theorem Act.put_size {a:Act}{d:Option Tmp}{v:Value}:(a.put d v).tmps.size=a.tmps.size:=by
 cases d <;> simp[Act.put]
theorem Act.put_defers' {a:Act}{d:Option Tmp}{v:Value}:(a.put d v).defers=a.defers:=by
 cases d <;> rfl
structure Agree (ops:Array Oper)(n:Nat)(a b:Act):Prop where
 defers:b.defers=a.defers
 size:b.tmps.size=a.tmps.size
 same:∀k,(∀i o,i<n→ops[i]? =some o→o.dst≠some k)→b.eval (.tmp k)=a.eval (.tmp k)
theorem Agree.refl (ops:Array Oper)(n:Nat)(a:Act):Agree ops n a a:=⟨rfl,rfl,fun _ _=>rfl⟩
def a5k (ops:Array Oper)(F:Nat→Value→World→Prop)(i:Nat)(b:Act)(w:World):Prop:=∀o d,ops[i]? =some o→o.dst=some d→F i (b.eval (.tmp d)) w
def Region.headB (ops:Array Oper)(n sz i:Nat):Bool :=
 match ops[i]? with
 |none=>false
 |some o=>o.guard.isNone&&(match o.dst with|none=>false|some d=>decide (d<sz))&&o.after.all (fun e=> !Region.binds .any e||decide (e.on<i)) &&
  (List.range n).all (fun j=>j==i||(match ops[j]? with|none=>true|some o'=>o.dst != o'.dst))
def Region.relB (ops:Array Oper)(n sz:Nat):Bool :=
 decide (n<ops.size)&&Region.sinkB .any ops n&&Region.chainB .any ops n&&(List.range n).all (Region.headB ops n sz) &&
 Region.seqB .any ops (ops.size-n) n (Array.replicate n true++Array.replicate (ops.size-n) false)
structure HeadOk (ops:Array Oper)(n sz i:Nat)(o:Oper)(d:Nat):Prop where
 op:ops[i]? =some o
 guard:o.guard=none
 dst:o.dst=some d
 lt:d<sz
 after:∀e∈o.after,Region.binds .any e=true→e.on<i
 other:∀j o',j<n→j≠i→ops[j]? =some o'→o'.dst≠some d
theorem Region.headB_spec {ops:Array Oper}{n sz i:Nat}(h:Region.headB ops n sz i=true):∃o d,HeadOk ops n sz i o d:=by
 unfold Region.headB at h
 cases ho:ops[i]? with
 |none=>rw[ho] at h;cases h
 |some o =>
  rw[ho] at h;simp only[Bool.and_eq_true] at h;obtain⟨⟨⟨h1,h2⟩,h3⟩,h4⟩:=h
  cases hd:o.dst with
  |none=>rw[hd] at h2;cases h2
  |some d =>
   rw[hd] at h2 h4;simp only[decide_eq_true_eq] at h2;refine⟨o,d,ho,by simpa using h1,hd,h2,fun e he hb=> ?_,fun j o' hj hne ho' e=> ?_⟩
   ·obtain⟨k,hk,rfl⟩:=Array.getElem_of_mem he
    have:=(Array.all_eq_true.1 h3) k hk;simpa [hb] using this
   ·have:=List.all_eq_true.1 h4 j (List.mem_range.2 hj)
    rw[ho'] at this;simp[hne,e] at this
def b5m (s:Array Bool):Nat→Nat
 |0=>0
 |n+1=>b5m s n+(if s.getD n false then 1 else 0)
theorem c3b (s:Array Bool):∀n,b5m s n≤n
 |0=>yR _
 |n+1=>by unfold b5m;have:=c3b s n;split <;> omega
theorem a9s {s:Array Bool}:∀ {n},b5m s n=n→∀i,i<n→s.getD i false=true
 |0,_,i,h=>by omega
 |n+1,h,i,hi=>by
  unfold b5m at h;have h1:=c3b s n;split at h
  ·rename_i hs
   by_cases e:i=n
   ·subst e;exact hs
   ·exact a9s (n:=n) (by omega) i (by omega)
  ·omega
theorem a7f {s:Array Bool}:∀ {n},b5m s n<n→∃i,i<n∧s.getD i false=false
 |0,h=>by omega
 |n+1,h=>by
  unfold b5m at h
  cases hs:s.getD n false with
  |false=>exact⟨n,by omega,hs⟩
  |true =>
   simp only[hs,if_true] at h;obtain⟨i,h1,h2⟩:=a7f (s:=s) (n:=n) (by omega);exact⟨i,by omega,h2⟩
theorem b2k {s:Array Bool}{i:Nat}:∀ {n},n≤i→b5m (s.setIfInBounds i true) n=b5m s n
 |0,_=>rfl
 |n+1,h=>by
  unfold b5m;rw[b2k (n:=n) (by omega),getD_set_ne false (by omega)]
theorem a9t {s:Array Bool}{i:Nat}(hs:i<s.size)(hf:s.getD i false=false):∀ {n},i<n→b5m (s.setIfInBounds i true) n=b5m s n+1
 |0,h=>by omega
 |n+1,h=>by
  unfold b5m;by_cases e:i=n
  ·subst e
   have h1:(s.setIfInBounds i true).getD i false=true:=by simp[hs]
   rw[b2k (yR _),h1,hf];simp
  ·rw[a9t hs hf (n:=n) (by omega),getD_set_ne false e]
   omega
theorem a7g {m:Nat}:∀n,b5m (Array.replicate m false) n=0
 |0=>rfl
 |n+1=>by
  unfold b5m;rw[a7g n,getD_replicate_false];rfl
theorem b5q {n:Nat}{s:Array Bool}{sz:Nat}(hh:∀i,i<n→∃o d,HeadOk ops n sz i o d)(inv:HeadInv .any ops n s):∀k i,i<k→i<n→s.getD i false=false→Region.ready .any ops s≠[]:=by
 intro k;induction k with
 |zero=>intro i h;omega
 |succ k ih =>
  intro i hik hin hf;obtain⟨o,d,ho⟩:=hh i hin;by_cases hall:∀e∈o.after,Region.binds .any e=true→s.getD e.on false=true
  ·have hlt:i<s.size:=by rw[inv.size];exact (Array.getElem?_eq_some_iff.1 ho.op).1
   exact List.ne_nil_of_mem (mem_ready.2 ⟨getD_in hlt hf,o,ho.op,hall⟩)
  ·obtain⟨e,he⟩:=Classical.not_forall.1 hall
   simp only[Classical.not_imp] at he;obtain⟨h1,h2,h3⟩:=he;have h4:=ho.after e h1 h2;exact ih e.on (by omega) (by omega) (by simpa using h3)
theorem c3c {Q:Exit→Act→World→Prop}{a:Act}{l:List Oper}{n:Nat}(hn:n<l.toArray.size)(hs:Region.sinkB .any l.toArray n=true)(hc:Region.chainB .any l.toArray n=true)
 (hh:∀i,i<n→∃o d,HeadOk l.toArray n a.tmps.size i o d) (hseq:Region.seqB .any l.toArray (l.toArray.size-n) n (Array.replicate n true++Array.replicate (l.toArray.size-n) false)=true)
 (I:Nat→World→Prop) (G:World→World→Prop) (F:Nat→Value→World→Prop) (hF:∀i v w w',F i v w→G w w'→F i v w')
 (hstep:∀i o,i<n→l.toArray[i]? =some o→∀c b w',c<n→I c w'→Agree l.toArray n a b→(∀e∈o.after,Region.binds .any e=true→a5k l.toArray F e.on b w') →
  ∀K:Act→World→Prop,(∀v w'',F i v w''→G w' w''→I (c+1) w''→K (b.put o.dst v) w'')→Oper.wp P o b w' K Q)
 (htail:∀b w',I n w'→Agree l.toArray n a b→(∀i,i<n→a5k l.toArray F i b w')→wpList P l.toArray Q (l.drop n) b w') :
 ∀(f c:Nat) (s:Array Bool) (b:Act) (w':World),c+f=n→b5m s n=c→HeadInv .any l.toArray n s→I c w'→Agree l.toArray n a b→(∀j,j<n→s.getD j false=true→a5k l.toArray F j b w') →
  wpAny P .any l.toArray Q (f+(l.toArray.size-n)) s b w':=by
 intro f;induction f with
 |zero =>
  intro c s b w' hcf hcnt inv hI hA hL;obtain rfl:c=n:=by omega
  have hall:=a9s hcnt;have hsl:s=Array.replicate c true++Array.replicate (l.toArray.size-c) false:=by
   apply Array.ext
   ·rw[inv.size];simp;simp at hn;omega
   ·intro i h1 h2
    by_cases hi:i<c
    ·have:=hall i hi
     rw[Array.getElem_append_left (by simpa using hi)];simpa [Array.getD,h1] using this
    ·have:=inv.tail i (by omega) (by rw[←inv.size];exact h1)
     rw[Array.getElem_append_right (by simp;omega)];simpa [Array.getD,h1] using this
  rw[Nat.zero_add,hsl];have h:=wpAny_of_seq (P:=P) (md:= .any) (Q':=Q) (ops:=l.toArray) (l.drop c) c (Array.replicate c true++Array.replicate (l.toArray.size-c) false) b w' (fun j=>by simp[List.getElem?_drop])
   (by rw[List.length_drop,show l.length=l.toArray.size from by simp];exact hseq) (htail b w' hI hA (fun i hi=>hL i hi (hall i hi)))
  rw[List.length_drop,show l.length=l.toArray.size from by simp] at h;exact h
 |succ f ih =>
  intro c s b w' hcf hcnt inv hI hA hL;obtain⟨i0,hi0,hf0⟩:=a7f (s:=s) (n:=n) (by omega);have hne:=b5q hh inv (i0+1) i0 (by omega) hi0 hf0;rw[show f+1+(l.toArray.size-n)=f+(l.toArray.size-n)+1 from by omega];refine⟨fun h=>absurd h hne,fun i hi=> ?_⟩;have hlt0:i0<s.size:=by rw[inv.size];omega
  have hin:i<n:=a7e hs hc hn inv hi0 (getD_in hlt0 hf0) i hi;obtain⟨hun,oi,hoi,haf⟩:=mem_ready.1 hi;obtain⟨o,d,ho⟩:=hh i hin;obtain rfl:oi=o:=Option.some.inj (hoi.symm.trans ho.op);have hlt:i<s.size:=by rw[inv.size];omega
  have hd:d<b.tmps.size:=by rw[hA.size];exact ho.lt
  unfold wpOp;simp only[hoi];rw[if_pos (by simp[Region.wanted,ho.guard])];refine .inl (hstep i oi hin hoi c b w' (by omega) hI hA (fun e he hb=>hL e.on (by have:=ho.after e he hb;omega) (haf e he hb)) _ ?_);intro v w'' h1 h2 h3;rw[ho.dst];have hoth:∀k,k≠d→(b.put (some d) v).eval (.tmp k)=b.eval (.tmp k):=fun k hk=>Act.eval_put (fun d' e=>by cases e;intro e2;cases e2;exact hk rfl)
  refine ih (c+1) _ _ _ (by omega) ?_ (inv.set hi hin) h3 ⟨by rw[Act.put_defers',hA.defers],by rw[Act.put_size,hA.size],fun k hk=> ?_⟩ ?_
  ·rw[a9t hlt (getD_both hun) hin,hcnt]
  ·rw[hoth k (fun e=>hk i oi hin hoi (by rw[ho.dst,e]))]
   exact hA.same k hk
  ·intro j hj hlj o' d' ho' hd'
   by_cases hji:j=i
   ·subst hji
    obtain rfl:o'=oi:=Option.some.inj (ho'.symm.trans hoi);obtain rfl:d'=d:=Option.some.inj (hd'.symm.trans ho.dst);rw[Act.eval_put_same hd];exact h1
   ·have hne':d'≠d:=fun e=>ho.other j o' hj hji ho' (by rw[hd',e])
    rw[hoth d' hne'];rw[getD_set_ne false (fun e=>hji e.symm)] at hlj;exact hF j _ _ _ (hL j hj hlj o' d' ho' hd') h2
theorem wp_region_rel {id:Nat}{Q:Exit→Act→World→Prop}{a:Act}{w:World}{l:List Oper}(n:Nat)(hm:P.follows .mixedOrders=true)(hB:Region.relB l.toArray n a.tmps.size=true)
 (I:Nat→World→Prop) (G:World→World→Prop) (F:Nat→Value→World→Prop) (hF:∀i v w w',F i v w→G w w'→F i v w') (h0:I 0 w.drew)
 (hstep:∀i o,i<n→l.toArray[i]? =some o→∀c b w',c<n→I c w'→Agree l.toArray n a b→(∀e∈o.after,Region.binds .any e=true→a5k l.toArray F e.on b w') →
  ∀K:Act→World→Prop,(∀v w'',F i v w''→G w' w''→I (c+1) w''→K (b.put o.dst v) w'')→Oper.wp P o b w' K Q)
 (htail:∀b w',I n w'→Agree l.toArray n a b→(∀i,i<n→a5k l.toArray F i b w')→wpList P l.toArray Q (l.drop n) b w') :
 (Code.region id l.toArray true).wp P Q a w:=by
 simp only[Region.relB,Bool.and_eq_true,decide_eq_true_eq] at hB;obtain⟨⟨⟨⟨hn,hs⟩,hc⟩,hh⟩,hseq⟩:=hB;have hh':∀i,i<n→∃o d,HeadOk l.toArray n a.tmps.size i o d:=fun i hi=>Region.headB_spec (List.all_eq_true.1 hh i (List.mem_range.2 hi))
 have inv0:HeadInv .any l.toArray n (Array.replicate l.toArray.size false) :=
  ⟨by simp,fun j oj _ hl=>(by rw[getD_replicate_false] at hl;cases hl),fun t _ ht=>getD_in (by simpa using ht) (getD_replicate_false _ _)⟩
 refine wp_region_any hm ?_;have h:=c3c (P:=P) (Q:=Q) (a:=a) hn hs hc hh' hseq I G F hF hstep htail n 0 _ a w.drew (by omega) (a7g n) inv0 h0 (Agree.refl _ _ _) (fun j hj hl=>by rw[getD_replicate_false] at hl;cases hl);rw[show n+(l.toArray.size-n)=l.toArray.size from by omega] at h;exact h
def Region.notDst (ops:Array Oper)(n k:Nat):Bool:=(List.range n).all fun i=>match ops[i]? with|some o=>o.dst != some k|none=>true
theorem Agree.at_ {n k:Nat}{a b:Act}(h:Agree ops n a b)(hk:Region.notDst ops n k=true):b.eval (.tmp k)=a.eval (.tmp k) :=
 h.same k fun i o hi ho e=>by
  have:=List.all_eq_true.1 hk i (List.mem_range.2 hi);rw[ho] at this;simp[e] at this
theorem a0i {F:Nat→Value→World→Prop}{o:Oper}{b:Act}{w:World}(h:∀e∈o.after,Region.binds .any e=true→a5k ops F e.on b w)(j d:Nat){oj:Oper}
 (h1:(o.after.any fun e=>Region.binds .any e&&e.on==j)=true) (h2:ops[j]? =some oj) (h3:oj.dst=some d):F j (b.eval (.tmp d)) w:=by
 obtain⟨i,hi,h4⟩:=Array.any_eq_true.1 h1;simp only[Bool.and_eq_true,beq_iff_eq] at h4;have:=h o.after[i] (Array.getElem_mem hi) h4.1;rw[h4.2] at this;exact this oj d h2 h3
end
abbrev T:Bool:=true
abbrev F:Bool:=false
def a2k:List Bool→List Value→(Nat→Value)→Nat→List Value
 |true::bs,x::xs,f,k=>x::a2k bs xs f (k+1)
 |false::bs,_::xs,f,k=>f k::a2k bs xs f (k+1)
 |_,_,_,_=>[]
theorem b0c:∀(bs:List Bool)(xs:List Value)(f:Nat→Value)(k j:Nat),bs.length=xs.length→(a2k bs xs f k)[j]? =(if j<xs.length then some (if bs.getD j false then xs.getD j undef else f (k+j)) else none)
 |[],[],_,_,_,_=>by simp[a2k]
 |true::bs,x::xs,f,k,0,_=>by simp[a2k]
 |false::bs,x::xs,f,k,0,_=>by simp[a2k]
 |true::bs,x::xs,f,k,j+1,h=>by
  have ih:=b0c bs xs f (k+1) j (by simpa using h);rw[show a2k (true::bs) (x::xs) f k=x::a2k bs xs f (k+1) from rfl,List.getElem?_cons_succ,ih];simp[Nat.add_assoc,Nat.add_comm 1 j]
 |false::bs,x::xs,f,k,j+1,h=>by
  have ih:=b0c bs xs f (k+1) j (by simpa using h);rw[show a2k (false::bs) (x::xs) f k=f k::a2k bs xs f (k+1) from rfl,List.getElem?_cons_succ,ih];simp[Nat.add_assoc,Nat.add_comm 1 j]
theorem Agree.frame {ops:Array Oper}{n:Nat}{a b:Act}(h:Agree ops n a b)(bs:List Bool)(xs:List Value)(ha:a.tmps=xs.toArray)(hb:(List.range xs.length).map (Region.notDst ops n)=bs) :
 b=⟨(a2k bs xs (fun k=>b.tmps.getD k undef) 0).toArray,a.defers⟩:=by
 have hl:bs.length=xs.length:=by rw[←hb];simp
 have hs:=h.size;have hd:=h.defers;obtain⟨bt,bd⟩:=b;simp only at hs hd;subst hd;congr 1;apply Array.ext';apply List.ext_getElem?;intro j;rw[List.toList_toArray,b0c bs xs _ 0 j hl];have hsz:bt.toList.length=xs.length:=by rw[ha] at hs;simpa using hs
 split
 ·rename_i hj
  have hj2:j<bt.toList.length:=by omega
  rw[List.getElem?_eq_getElem hj2];congr 1;split
  ·rename_i hbj
   have hn:Region.notDst ops n j=true:=by
    rw[←hb,List.getD_eq_getElem?_getD,List.getElem?_map,List.getElem?_range (by omega)] at hbj;simpa using hbj
   have:=h.at_ hn;simp only[Act.eval,ha] at this;have hj3:j<bt.size:=by simpa using hj2
   simpa [Array.getD,hj3,hj,List.getD_eq_getElem?_getD] using this
  ·simp[Array.getD,show j<bt.size from by simpa using hj2]
 ·rename_i hj
  rw[List.getElem?_eq_none (by omega)]
section
variable {P:Program}{ops:Array Oper}
def Region.headGB (ops:Array Oper)(n sz i:Nat):Bool :=
 match ops[i]? with
 |none=>false
 |some o=>(match o.dst with|none=>false|some d=>decide (d<sz))&&o.after.all (fun e=> !Region.binds .any e||decide (e.on<i)) &&
  (List.range n).all (fun j=>j==i||(match ops[j]? with|none=>true|some o'=>o.dst != o'.dst))
def Region.relGB (ops:Array Oper)(n sz:Nat):Bool :=
 decide (n<ops.size)&&Region.sinkB .any ops n&&Region.chainB .any ops n&&(List.range n).all (Region.headGB ops n sz) &&
 Region.seqB .any ops (ops.size-n) n (Array.replicate n true++Array.replicate (ops.size-n) false)
structure HeadOkG (ops:Array Oper)(n sz i:Nat)(o:Oper)(d:Nat):Prop where
 op:ops[i]? =some o
 dst:o.dst=some d
 lt:d<sz
 after:∀e∈o.after,Region.binds .any e=true→e.on<i
 other:∀j o',j<n→j≠i→ops[j]? =some o'→o'.dst≠some d
theorem Region.headGB_spec {ops:Array Oper}{n sz i:Nat}(h:Region.headGB ops n sz i=true):∃o d,HeadOkG ops n sz i o d:=by
 unfold Region.headGB at h
 cases ho:ops[i]? with
 |none=>rw[ho] at h;cases h
 |some o =>
  rw[ho] at h;simp only[Bool.and_eq_true] at h;obtain⟨⟨h2,h3⟩,h4⟩:=h
  cases hd:o.dst with
  |none=>rw[hd] at h2;cases h2
  |some d =>
   rw[hd] at h2 h4;simp only[decide_eq_true_eq] at h2;refine⟨o,d,ho,hd,h2,fun e he hb=> ?_,fun j o' hj hne ho' e=> ?_⟩
   ·obtain⟨k,hk,rfl⟩:=Array.getElem_of_mem he
    have:=(Array.all_eq_true.1 h3) k hk;simpa [hb] using this
   ·have:=List.all_eq_true.1 h4 j (List.mem_range.2 hj)
    rw[ho'] at this;simp[hne,e] at this
theorem c1d {n:Nat}{s:Array Bool}{sz:Nat}(hh:∀i,i<n→∃o d,HeadOkG ops n sz i o d)(inv:HeadInv .any ops n s):∀k i,i<k→i<n→s.getD i false=false→Region.ready .any ops s≠[]:=by
 intro k;induction k with
 |zero=>intro i h;omega
 |succ k ih =>
  intro i hik hin hf;obtain⟨o,d,ho⟩:=hh i hin;by_cases hall:∀e∈o.after,Region.binds .any e=true→s.getD e.on false=true
  ·have hlt:i<s.size:=by rw[inv.size];exact (Array.getElem?_eq_some_iff.1 ho.op).1
   exact List.ne_nil_of_mem (mem_ready.2 ⟨getD_in hlt hf,o,ho.op,hall⟩)
  ·obtain⟨e,he⟩:=Classical.not_forall.1 hall
   simp only[Classical.not_imp] at he;obtain⟨h1,h2,h3⟩:=he;have h4:=ho.after e h1 h2;exact ih e.on (by omega) (by omega) (by simpa using h3)
end
end
section
open Go.RowKit Go.ChangeShapes Go.WideShapes Go.ChangeAt
section
variable {H:Type}{enc:TypeId×Value→H}{P:Program}
theorem a7h (hl:laidOutB P=true){W W':World}(hb:Below W.heap.size W W'):∀ {ts:List TypeId}{vs:List Value}{ds:List (DataW H)}{ps:List MemPlace},
 (ts.all fun t=>P.readableRec t&&decide (t<P.types.size))=true→(∀x∈ps,x.block<W.heap.size) →
 DataW.TrodAll enc P W 0 (fun _=>true) true ts vs ds ps→DataW.TrodAll enc P W' 0 (fun b=>decide (b<W.heap.size)) true ts vs ds ps
 |[],[],[],_,_,_,h=>h
 |[],_::_,_,_,_,_,h=>h.elim
 |[],[],_::_,_,_,_,h=>h.elim
 |_::_,[],_,_,_,_,h=>h.elim
 |_::_,_::_,[],_,_,_,h=>h.elim
 |t::ts,v::vs,d::ds,ps,hr,hlt,h=>by
  obtain⟨p,q,h1,h2,rfl⟩:=h;simp only[List.all_cons,Bool.and_eq_true,decide_eq_true_eq] at hr;exact⟨p,q,Below.trod hl hr.1.1 hr.1.2 h1 hb (fun x hx=>hlt x (List.mem_append.2 (.inl hx))),
   a7h hl hb hr.2 (fun x hx=>hlt x (List.mem_append.2 (.inr hx))) h2,rfl⟩
theorem c6y {f:Func}{s:ChangeSpec}{W W':World}{args:Array Value}{ds:List (DataW H)}{before:List MemPlace}{T:TypeId}
 (hl:laidOutB P=true) (hr:(f.params.toList.all fun t=>P.readableRec t&&decide (t<P.types.size))=true) (hv:s.vars=[])
 (hT:f.resultTypes= #[T]) (hT2:P.underlying T=some .bool)
 (hs:s.fn H (ds++[])={ results:=[.lit (.bool true)],args:=ds })
 (hW:DataW.Whole enc P f.params.toList s.vars false W args.toList ds [] before)
 (hb:Below W.heap.size W W'):s.post enc P f false true false false W args (.bool true) W':=by
 have hlt:=fun x hx=>hW.lt x hx
 have hW2:=hW;obtain⟨p,q,hA,hV,rfl,hz,hn⟩:=hW;rw[hv] at hV;obtain⟨-,rfl⟩:=trodVars_none hV;refine⟨ds,[],p++[],[],p,[],hW2,?_,?_,?_,hb.frame _,fun h=>by cases h⟩
 ·rw[hs,hT]
  exact trodAll_cons_mk (shut_bool hT2 true) trodAll_mk0
 ·rw[hs]
  exact a7h hl hb hr (fun x hx=>hlt x (by simpa using hx)) hA
 ·rw[hs,hv]
  exact rfl
theorem a5l {w:World}{b:Nat}{sp:Nat→Bool}{hd:Bool}:∀ {ts:List TypeId}{vs:List Value}{ds:List (DataW H)}{ps:List MemPlace},
 DataW.TrodAll enc P w b sp hd ts vs ds ps→vs.length=ts.length∧ds.length=ts.length
 |[],[],[],_,_=>⟨rfl,rfl⟩
 |[],_::_,_,_,h=>h.elim
 |[],[],_::_,_,h=>h.elim
 |_::_,[],_,_,h=>h.elim
 |_::_,_::_,[],_,h=>h.elim
 |_::_,_::_,_::_,_,h=>by
  obtain⟨p,q,h1,h2,rfl⟩:=h;have:=a5l h2;simp[this.1,this.2]
theorem c3d {k:FuncId}{f:Func}{s:ChangeSpec}{W:World}{args:Array Value}{ds gs:List (DataW H)}{before:List MemPlace}(T:TypeId)
 (hl:laidOutB P=true) (hr:(f.params.toList.all fun t=>P.readableRec t&&decide (t<P.types.size))=true) (hv:s.vars=[])
 (hT:f.resultTypes= #[T]) (hT2:P.underlying T=some .bool)
 (hs:∀ds:List (DataW H),ds.length=f.params.toList.length→s.fn H (ds++[])={ results:=[.lit (.bool true)],args:=ds })
 (hW:DataW.Whole enc P f.params.toList s.vars false W args.toList ds gs before)
 (hwalk:args.toList.length=f.params.toList.length→DataW.Whole enc P f.params.toList [] false W args.toList ds [] before→Calls P k args W fun e W'=>e= .returned (.bool true)∧Below W.heap.size W W') :
 Calls P k args W fun e W'=>∃v,e= .returned v∧s.post enc P f false true false false W args v W':=by
 have hW2:=hW;obtain⟨p,q,hA,hV,hb,hz,hn⟩:=hW2;rw[hv] at hV;obtain⟨rfl,-⟩:=trodVars_none hV;obtain⟨l1,l2⟩:=a5l hA;have hW3:=hW;rw[hv] at hW3;exact (hwalk l1 hW3).mono fun e W' ⟨he,hbel⟩=>⟨_,he,c6y hl hr hv hT hT2 (hs ds l2) hW hbel⟩
/-! ### what came in by value: ints,and rows of ints -/
variable {w:World}{r:Reach}{base:Nat}{t:TypeId}{v:Value}{k:IntKind}
end
end
end Go
