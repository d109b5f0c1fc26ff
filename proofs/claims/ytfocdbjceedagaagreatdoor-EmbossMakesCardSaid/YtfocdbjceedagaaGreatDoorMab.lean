/-
  Parts.
-/
import Derived.Test.YtfocdbjceedagaaGreatDoorChecked
import Derived.Test.YtfocdbjceedagaaGreatDoorMaa
import Derived.Test.YtfocdbjceedagaaGreatDoorMac
import Derived.Shelf.Slices.Turned
import Derived.Ground.Names2Prog
import Derived.Shelf.Slices.SearchI
import Derived.Shelf.Abstract
import Derived.Shelf.SlicesQ.Index
import Derived.Shelf.GgSortFunc.RowK
import Derived.Shelf.SlSortCmp.InsertionK
set_option linter.unusedVariables false
set_option linter.unusedSimpArgs false
set_option maxRecDepth 100000
namespace Go
section
open Go.RowKit
section
variable {P:Program}{ops:Array Oper}{md:Region.Mode}{C:World->Prop}
def b7r (P:Program)(md:Region.Mode)(ops:Array Oper)(C:World->Prop)(n:Nat)(L:Array Bool->Act->Prop):Nat->Array Bool->Act->Prop
 |0,s,a=>L s a
 |f+1,s,a=>Region.ready md ops s≠[]/\∀i∈Region.ready md ops s,i<n/\qOp P ops C i (b7r P md ops C n L f (s.setIfInBounds i true)) a
theorem b1j {n g:Nat}{L:Array Bool->Act->Prop}{Q:Exit->Act->World->Prop}(hL:∀s a w,C w->L s a->wpAny P md ops Q g s a w) :
 ∀(f:Nat) (s:Array Bool) (a:Act) (w:World),C w->b7r P md ops C n L f s a->wpAny P md ops Q (f+g) s a w:=by
 intro f;induction f with
 |zero=>intro s a w hw h;rw[Nat.zero_add];exact hL _ _ _ hw h
 |succ f ih =>
  intro s a w hw h;rw[Nat.succ_add];refine⟨λhe=>absurd he h.1,λi hi=> ?_⟩;exact wpOp_of_qOp hw (λa' w' hw' h'=>ih _ a' w' hw' h') (h.2 i hi).2
theorem a4v {n i:Nat}{s:Array Bool}(hs:Region.sinkB md ops n=true)(hc:Region.chainB md ops n=true)(hn:n<ops.size)(inv:HeadInv md ops n s)(hi:i<n)(hun:s.getD i true=false) :
 ∀j∈Region.ready md ops s,j<n:=by
 intro j hj;by_cases h:j<n
 ·exact h
 ·exact absurd hj (tail_waits hs hc hn inv _ i rfl hi hun j oM)
theorem c0t {n i:Nat}{oi:Oper}{v:Value}{L:Array Bool->Act->Prop}(hi:ops[i]? =some oi)(hsel:∀(j:Nat)(o:Oper) cs b,ops[j]? =some o->o.op≠.select cs b)
 (hs:Region.sinkB md ops n=true) (hc:Region.chainB md ops n=true) (hn:n<ops.size) (hin:i<n)
 (hdone:∀s a,L s a->∀j∈Region.ready md ops s,n<=j) (f:Nat) :
 ∀(s:Array Bool) (a:Act),HeadInv md ops n s ->
  (∀j oj,ops[j]? =some oj->j≠i->s.getD j true=false->(∀e∈oj.after,Region.binds md e=true->e.on≠i)->oi.apart ops oj=true) ->
  i∈Region.ready md ops s->YieldsIn P ops C oi v a ->
  b7r P md ops C n L f (s.setIfInBounds i true) (a.put oi.dst v)->b7r P md ops C n L (f+1) s a:=by
 induction f with
 |zero =>
  intro s a inv _ hr hy H;have hlt:=a4v hs hc hn inv hin (mem_ready.1 hr).1;refine⟨List.ne_nil_of_mem hr,λj hj=>⟨hlt j hj,?_⟩⟩;rcases Nat.decEq j i with hji|hji
  ·have h1:=hdone _ _ H j (ready_mono hj hji)
   have h2:=hlt j hj;omega
  ·subst hji;exact hy.qOp hi H
 |succ f ih =>
  intro s a inv hfree hr hy H;have hlt:=a4v hs hc hn inv hin (mem_ready.1 hr).1;refine⟨List.ne_nil_of_mem hr,λj hj=>⟨hlt j hj,?_⟩⟩;rcases Nat.decEq j i with hji|hji
  ·obtain⟨hjun,oj,hoj,hall⟩:=mem_ready.1 hj
   have hno:∀e∈oj.after,Region.binds md e=true->e.on≠i:=by
    intro e he hb heq;have h1:=hall e he hb;rw[heq,getD_both (mem_ready.1 hr).1]at h1
    cases h1
   have h1:=(H.2 j (ready_mono hj hji)).2;have h2:=qOp_put hoj (hfree j oj hoj hji hjun hno) (λcs b=>hsel i oi cs b hi) (λcs b=>hsel j oj cs b hoj) hy h1;refine qOp_mono (λa' h3=>ih (s.setIfInBounds j true) a' (inv.set hj (hlt j hj)) ?_ (ready_mono hr (Ne.symm hji)) h3.1 ?_) h2
   ·intro k ok hk hki hun hnk
    refine hfree k ok hk hki ?_ hnk;rcases Nat.decEq j k with hjk|hjk
    ·rw[getD_set_ne true hjk]at hun;exact hun
    ·subst hjk;exact hjun
   ·rw[Array.setIfInBounds_comm _ _ hji];exact h3.2
  ·subst hji;exact hy.qOp hi H
theorem c5f {n g:Nat}{Lq:Act->Prop}(hsel:Region.noSelect ops=true)(hs:Region.sinkB md ops n=true)(hc:Region.chainB md ops n=true)(hn:n<ops.size)(l:List Oper) :
 ∀(k:Nat) (s:Array Bool) (a:Act),(∀j,j<l.length->l[j]? =ops[k+j]?)->k+l.length=n->HeadInv md ops n s ->
 Region.lexHead md ops g l.length k s=true->wpQuiet P ops C Lq l a ->
 b7r P md ops C n (λs' a'=>Region.seqB md ops g n s'=true/\Lq a') l.length s a:=by
 induction l with
 |nil =>
  intro k s a _ hk _ hB h;obtain rfl:k=n:=by simpa using hk
  exact⟨by simpa[Region.lexHead]using hB,h⟩
 |cons o l ih =>
  intro k s a hl hk inv hB h;have h0:ops[k]? =some o:=by simpa using (hl 0 vM).symm
  simp only[List.length_cons]at hk;simp only[List.length_cons,Region.lexHead,Bool.and_eq_true]at hB;obtain⟨⟨hr,hf⟩,hB'⟩:=hB;have hr':k∈Region.ready md ops s:=by simpa using hr
  have hq:qOp P ops C k (wpQuiet P ops C Lq l) a:=by unfold qOp;simp only[h0];exact h
  obtain⟨v,hy,hK⟩:=yieldsIn_of_qOp h0 hq;refine c0t h0 (Region.noSelect_spec hsel) hs hc hn oM (λs' a' hL=>seqB_ready hL.1) l.length s a inv (Region.free_spec h0 hf) hr' hy ?_;refine ih (k+1) _ _ (λj hj=> ?_) oM (inv.set hr' oM) hB' hK;have h1:=hl (j+1) (by simp only[List.length_cons];omega);rw[show k+1+j=k+(j+1)from by omega];simpa using h1
theorem a4p {id:Nat}{Q:Exit->Act->World->Prop}{a:Act}{w:World}{l:List Oper}(n:Nat)(hm:P.follows .mixedOrders=true)(hB:Region.lexTailB .any l.toArray n=true)(hC:C w.drew)
 (h:wpQuiet P l.toArray C (λa'=>∀w',C w'->wpList P l.toArray Q (l.drop n) a' w') (l.take n) a):(Code.region id l.toArray true).wp P Q a w:=by
 simp only[Region.lexTailB,Bool.and_eq_true,decide_eq_true_eq]at hB;obtain⟨⟨⟨⟨hsel,hn⟩,hs⟩,hc⟩,hlex⟩:=hB;have hn':n<l.length:=by simpa using hn
 have htl:(l.take n).length=n:=by rw[List.length_take];omega
 have hdl:(l.drop n).length=l.toArray.size-n:=by simp
 have inv0:HeadInv .any l.toArray n (Array.replicate l.toArray.size false) :=
  ⟨by simp,λj oj _ hl=>(by rw[getD_replicate_false]at hl;cases hl),λt _ ht=>getD_in (by simpa using ht) (getD_replicate_false _ _)⟩
 have H:=c5f (md:= .any) (g:=l.toArray.size-n) hsel hs hc hn (l.take n) 0 _ a (λj hj=>by
  have hj':j<n:=oM;simp[hj']) (by simpa using htl) inv0 (by rw[htl];exact hlex) h
 refine wp_region_any hm ?_;have key:=b1j (Q:=Q) (g:=l.toArray.size-n) (λs a' w' hw' hL=>by
  have h1:=wpAny_of_seq (md:= .any) (Q':=Q) (l.drop n) n s a' w' (λj=>by simp[List.getElem?_drop]) (by rw[hdl];exact hL.1) (hL.2 w' hw');rwa [hdl]at h1) _ _ _ _ hC H
 rw[htl,show n+(l.toArray.size-n)=l.toArray.size from by omega]at key;exact key
theorem a0i {id:Nat}{Q:Exit->Act->World->Prop}{a:Act}{w:World}{l:List Oper}(n:Nat)(hm:P.follows .mixedOrders=true)(hB:Region.lexTailB .any l.toArray n=true)
 (h:wpQuiet P l.toArray (λw'=>∃p,w'=w.growBy p) (λa'=>∀w',(∃p,w'=w.growBy p)->wpList P l.toArray Q (l.drop n) a' w') (l.take n) a):(Code.region id l.toArray true).wp P Q a w :=
 a4p n hm hB ⟨⟨#[],w.drawn+1⟩,by unfold World.growBy World.drew;simp⟩ h
theorem a0f {id:Nat}{Q:Exit->Act->World->Prop}{a:Act}{w:World}{p:Growth}{l:List Oper}(n:Nat)(hm:P.follows .mixedOrders=true)(hB:Region.lexTailB .any l.toArray n=true)
 (h:wpQuiet P l.toArray (λw'=>∃p,w'=w.growBy p) (λa'=>∀w',(∃p,w'=w.growBy p)->wpList P l.toArray Q (l.drop n) a' w') (l.take n) a):(Code.region id l.toArray true).wp P Q a (w.growBy p) :=
 a4p n hm hB ⟨⟨p.objs,p.drawn+1⟩,rfl⟩ h
end
section
variable {P:Program}{ops:Array Oper}
theorem Act.eval_put_same {a:Act}{d:Nat}{v:Value}(h:d<a.tmps.size):(a.put (some d) v).eval (.tmp d)=v:=by
 simp[Act.put,Act.eval,h]
theorem Act.put_size {a:Act}{d:Option Tmp}{v:Value}:(a.put d v).tmps.size=a.tmps.size:=by
 cases d <;> simp[Act.put]
theorem Act.put_defers' {a:Act}{d:Option Tmp}{v:Value}:(a.put d v).defers=a.defers:=by
 cases d <;> rfl
structure Agree (ops:Array Oper)(n:Nat)(a b:Act):Prop where
 defers:b.defers=a.defers
 size:b.tmps.size=a.tmps.size
 same:∀k,(∀i o,i<n->ops[i]? =some o->o.dst≠some k)->b.eval (.tmp k)=a.eval (.tmp k)
theorem Agree.refl (ops:Array Oper)(n:Nat)(a:Act):Agree ops n a a:=⟨rfl,rfl,λ_ _=>rfl⟩
def a5v (ops:Array Oper)(F:Nat->Value->World->Prop)(i:Nat)(b:Act)(w:World):Prop:=∀o d,ops[i]? =some o->o.dst=some d->F i (b.eval (.tmp d)) w
def Region.headB (ops:Array Oper)(n sz i:Nat):Bool :=
 match ops[i]? with
 |none=>false
 |some o=>o.guard.isNone&&(match o.dst with|none=>false|some d=>decide (d<sz))&&o.after.all (λe=> !Region.binds .any e||decide (e.on<i)) &&
  (List.range n).all (λj=>j==i||(match ops[j]? with|none=>true|some o'=>o.dst != o'.dst))
def Region.relB (ops:Array Oper)(n sz:Nat):Bool :=
 decide (n<ops.size)&&Region.sinkB .any ops n&&Region.chainB .any ops n&&(List.range n).all (Region.headB ops n sz) &&
 Region.seqB .any ops (ops.size-n) n (Array.replicate n true++Array.replicate (ops.size-n) false)
structure HeadOk (ops:Array Oper)(n sz i:Nat)(o:Oper)(d:Nat):Prop where
 op:ops[i]? =some o
 guard:o.guard=none
 dst:o.dst=some d
 lt:d<sz
 after:∀e∈o.after,Region.binds .any e=true->e.on<i
 other:∀j o',j<n->j≠i->ops[j]? =some o'->o'.dst≠some d
theorem Region.headB_spec {ops:Array Oper}{n sz i:Nat}(h:Region.headB ops n sz i=true):∃o d,HeadOk ops n sz i o d:=by
 unfold Region.headB at h
 cases ho:ops[i]? with
 |none=>rw[ho]at h;cases h
 |some o =>
  rw[ho]at h;simp only[Bool.and_eq_true]at h;obtain⟨⟨⟨h1,h2⟩,h3⟩,h4⟩:=h
  cases hd:o.dst with
  |none=>rw[hd]at h2;cases h2
  |some d =>
   rw[hd]at h2 h4;simp only[decide_eq_true_eq]at h2;refine⟨o,d,ho,by simpa using h1,hd,h2,λe he hb=> ?_,λj o' hj hne ho' e=> ?_⟩
   ·exact yig
   ·exact yiy
def b5m (s:Array Bool):Nat->Nat
 |0=>0
 |n+1=>b5m s n+(if s.getD n false then 1 else 0)
theorem c7n (s:Array Bool):∀n,b5m s n<=n
 |0=>yR _
 |n+1=>by unfold b5m;have:=c7n s n;split <;> omega
theorem b0v {s:Array Bool}:∀ {n},b5m s n=n->∀i,i<n->s.getD i false=true
 |0,_,i,h=>by omega
 |n+1,h,i,hi=>by
  unfold b5m at h;have h1:=c7n s n;split at h
  ·rename_i hs
   by_cases e:i=n
   ·subst e;exact hs
   ·exact b0v (n:=n) oM i oM
  ·omega
theorem a5w {s:Array Bool}:∀ {n},b5m s n<n->∃i,i<n/\s.getD i false=false
 |0,h=>by omega
 |n+1,h=>by
  unfold b5m at h
  cases hs:s.getD n false with
  |false=>exact⟨n,oM,hs⟩
  |true =>
   simp only[hs,if_true]at h;obtain⟨i,h1,h2⟩:=a5w (s:=s) (n:=n) oM;exact⟨i,oM,h2⟩
theorem b3w {s:Array Bool}{i:Nat}:∀ {n},n<=i->b5m (s.setIfInBounds i true) n=b5m s n
 |0,_=>rfl
 |n+1,h=>by
  unfold b5m;rw[b3w (n:=n) oM,getD_set_ne false oM]
theorem b0w {s:Array Bool}{i:Nat}(hs:i<s.size)(hf:s.getD i false=false):∀ {n},i<n->b5m (s.setIfInBounds i true) n=b5m s n+1
 |0,h=>by omega
 |n+1,h=>by
  unfold b5m;by_cases e:i=n
  ·subst e
   have h1:(s.setIfInBounds i true).getD i false=true:=by simp[hs]
   rw[b3w (yR _),h1,hf];simp
  ·rw[b0w hs hf (n:=n) oM,getD_set_ne false e]
   omega
theorem a5x {m:Nat}:∀n,b5m (Array.replicate m false) n=0
 |0=>rfl
 |n+1=>by
  unfold b5m;rw[a5x n,getD_replicate_false];rfl
theorem b7s {n:Nat}{s:Array Bool}{sz:Nat}(hh:∀i,i<n->∃o d,HeadOk ops n sz i o d)(inv:HeadInv .any ops n s):∀k i,i<k->i<n->s.getD i false=false->Region.ready .any ops s≠[]:=by
 exact ycd
theorem c7o {Q:Exit->Act->World->Prop}{a:Act}{l:List Oper}{n:Nat}(hn:n<l.toArray.size)(hs:Region.sinkB .any l.toArray n=true)(hc:Region.chainB .any l.toArray n=true)
 (hh:∀i,i<n->∃o d,HeadOk l.toArray n a.tmps.size i o d) (hseq:Region.seqB .any l.toArray (l.toArray.size-n) n (Array.replicate n true++Array.replicate (l.toArray.size-n) false)=true)
 (I:Nat->World->Prop) (G:World->World->Prop) (F:Nat->Value->World->Prop) (hF:∀i v w w',F i v w->G w w'->F i v w')
 (hstep:∀i o,i<n->l.toArray[i]? =some o->∀c b w',c<n->I c w'->Agree l.toArray n a b->(∀e∈o.after,Region.binds .any e=true->a5v l.toArray F e.on b w') ->
  ∀K:Act->World->Prop,(∀v w'',F i v w''->G w' w''->I (c+1) w''->K (b.put o.dst v) w'')->Oper.wp P o b w' K Q)
 (htail:∀b w',I n w'->Agree l.toArray n a b->(∀i,i<n->a5v l.toArray F i b w')->wpList P l.toArray Q (l.drop n) b w') :
 ∀(f c:Nat) (s:Array Bool) (b:Act) (w':World),c+f=n->b5m s n=c->HeadInv .any l.toArray n s->I c w'->Agree l.toArray n a b->(∀j,j<n->s.getD j false=true->a5v l.toArray F j b w') ->
  wpAny P .any l.toArray Q (f+(l.toArray.size-n)) s b w':=by
 intro f;induction f with
 |zero =>
  exact ybs
 |succ f ih =>
  intro c s b w' hcf hcnt inv hI hA hL;obtain⟨i0,hi0,hf0⟩:=a5w (s:=s) (n:=n) oM;have hne:=b7s hh inv (i0+1) i0 oM hi0 hf0;rw[show f+1+(l.toArray.size-n)=f+(l.toArray.size-n)+1 from by omega];refine⟨λh=>absurd h hne,λi hi=> ?_⟩;have hlt0:i0<s.size:=by rw[inv.size];omega
  have hin:i<n:=a4v hs hc hn inv hi0 (getD_in hlt0 hf0) i hi;obtain⟨hun,oi,hoi,haf⟩:=mem_ready.1 hi;obtain⟨o,d,ho⟩:=hh i hin;obtain rfl:oi=o:=Option.some.inj (hoi.symm.trans ho.op);have hlt:i<s.size:=by rw[inv.size];omega
  have hd:d<b.tmps.size:=by rw[hA.size];exact ho.lt
  unfold wpOp;simp only[hoi];rw[if_pos (by simp[Region.wanted,ho.guard])];refine .inl (hstep i oi hin hoi c b w' oM hI hA (λe he hb=>hL e.on (by have:=ho.after e he hb;omega) (haf e he hb)) _ ?_);exact yaz
theorem wp_region_rel {id:Nat}{Q:Exit->Act->World->Prop}{a:Act}{w:World}{l:List Oper}(n:Nat)(hm:P.follows .mixedOrders=true)(hB:Region.relB l.toArray n a.tmps.size=true)
 (I:Nat->World->Prop) (G:World->World->Prop) (F:Nat->Value->World->Prop) (hF:∀i v w w',F i v w->G w w'->F i v w') (h0:I 0 w.drew)
 (hstep:∀i o,i<n->l.toArray[i]? =some o->∀c b w',c<n->I c w'->Agree l.toArray n a b->(∀e∈o.after,Region.binds .any e=true->a5v l.toArray F e.on b w') ->
  ∀K:Act->World->Prop,(∀v w'',F i v w''->G w' w''->I (c+1) w''->K (b.put o.dst v) w'')->Oper.wp P o b w' K Q)
 (htail:∀b w',I n w'->Agree l.toArray n a b->(∀i,i<n->a5v l.toArray F i b w')->wpList P l.toArray Q (l.drop n) b w') :
 (Code.region id l.toArray true).wp P Q a w:=by
 simp only[Region.relB,Bool.and_eq_true,decide_eq_true_eq]at hB;obtain⟨⟨⟨⟨hn,hs⟩,hc⟩,hh⟩,hseq⟩:=hB;have hh':∀i,i<n->∃o d,HeadOk l.toArray n a.tmps.size i o d:=λi hi=>Region.headB_spec (List.all_eq_true.1 hh i (List.mem_range.2 hi))
 have inv0:HeadInv .any l.toArray n (Array.replicate l.toArray.size false) :=
  ⟨by simp,λj oj _ hl=>(by rw[getD_replicate_false]at hl;cases hl),λt _ ht=>getD_in (by simpa using ht) (getD_replicate_false _ _)⟩
 refine wp_region_any hm ?_;have h:=c7o (P:=P) (Q:=Q) (a:=a) hn hs hc hh' hseq I G F hF hstep htail n 0 _ a w.drew oM (a5x n) inv0 h0 (Agree.refl _ _ _) (λj hj hl=>by rw[getD_replicate_false]at hl;cases hl);exact yfd
def Region.notDst (ops:Array Oper)(n k:Nat):Bool:=(List.range n).all λi=>match ops[i]? with|some o=>o.dst != some k|none=>true
theorem Agree.at_ {n k:Nat}{a b:Act}(h:Agree ops n a b)(hk:Region.notDst ops n k=true):b.eval (.tmp k)=a.eval (.tmp k) :=
 h.same k λi o hi ho e=>by
  have:=List.all_eq_true.1 hk i (List.mem_range.2 hi);rw[ho]at this;simp[e]at this
theorem a0c {F:Nat->Value->World->Prop}{o:Oper}{b:Act}{w:World}(h:∀e∈o.after,Region.binds .any e=true->a5v ops F e.on b w)(j d:Nat){oj:Oper}
 (h1:(o.after.any λe=>Region.binds .any e&&e.on==j)=true) (h2:ops[j]? =some oj) (h3:oj.dst=some d):F j (b.eval (.tmp d)) w:=by
 exact yfw
end
abbrev T :Bool:=true
abbrev F :Bool:=false
def rT :Nat->List Bool->List Bool
 |0,l=>l
 |n+1,l=>true::rT n l
def rF :Nat->List Bool->List Bool
 |0,l=>l
 |n+1,l=>false::rF n l
def a1z :List Bool->List Value->(Nat->Value)->Nat->List Value
 |true::bs,x::xs,f,k=>x::a1z bs xs f (k+1)
 |false::bs,_::xs,f,k=>f k::a1z bs xs f (k+1)
 |_,_,_,_=>[]
theorem b1k :∀(bs:List Bool) (xs:List Value) (f:Nat->Value) (k j:Nat),bs.length=xs.length->(a1z bs xs f k)[j]? =(if j<xs.length then some (if bs.getD j false then xs.getD j undef else f (k+j))else none)
 |[],[],_,_,_,_=>by simp[a1z]
 |true::bs,x::xs,f,k,0,_=>by simp[a1z]
 |false::bs,x::xs,f,k,0,_=>by simp[a1z]
 |true::bs,x::xs,f,k,j+1,h=>by
  have ih:=b1k bs xs f (k+1) j (by simpa using h);rw[show a1z (true::bs) (x::xs) f k=x::a1z bs xs f (k+1)from rfl,List.getElem?_cons_succ,ih];simp[Nat.add_assoc,Nat.add_comm 1 j]
 |false::bs,x::xs,f,k,j+1,h=>by
  have ih:=b1k bs xs f (k+1) j (by simpa using h);rw[show a1z (false::bs) (x::xs) f k=f k::a1z bs xs f (k+1)from rfl,List.getElem?_cons_succ,ih];simp[Nat.add_assoc,Nat.add_comm 1 j]
theorem Agree.frame {ops:Array Oper}{n:Nat}{a b:Act}(h:Agree ops n a b)(bs:List Bool)(xs:List Value)(ha:a.tmps=xs.toArray)(hb:(List.range xs.length).map (Region.notDst ops n)=bs) :
 b=⟨(a1z bs xs (λk=>b.tmps.getD k undef) 0).toArray,a.defers⟩:=by
 have hl:bs.length=xs.length:=by rw[<-hb];simp
 have hs:=h.size;have hd:=h.defers;obtain⟨bt,bd⟩:=b;simp only at hs hd;subst hd;congr 1;apply Array.ext';apply List.ext_getElem?;intro j;rw[List.toList_toArray,b1k bs xs _ 0 j hl];have hsz:bt.toList.length=xs.length:=by rw[ha]at hs;simpa using hs
 split
 ·rename_i hj
  have hj2:j<bt.toList.length:=oM;rw[List.getElem?_eq_getElem hj2];congr 1;split
  ·rename_i hbj
   have hn:Region.notDst ops n j=true:=by
    rw[<-hb,List.getD_eq_getElem?_getD,List.getElem?_map,List.getElem?_range oM]at hbj;simpa using hbj
   have:=h.at_ hn;simp only[Act.eval,ha]at this;have hj3:j<bt.size:=by simpa using hj2
   simpa[Array.getD,hj3,hj,List.getD_eq_getElem?_getD]using this
  ·simp[Array.getD,show j<bt.size from by simpa using hj2]
 ·rename_i hj
  rw[List.getElem?_eq_none oM]
section
variable {P:Program}{ops:Array Oper}
def Region.headGB (ops:Array Oper)(n sz i:Nat):Bool :=
 match ops[i]? with
 |none=>false
 |some o=>(match o.dst with|none=>false|some d=>decide (d<sz))&&o.after.all (λe=> !Region.binds .any e||decide (e.on<i)) &&
  (List.range n).all (λj=>j==i||(match ops[j]? with|none=>true|some o'=>o.dst != o'.dst))
def Region.relGB (ops:Array Oper)(n sz:Nat):Bool :=
 decide (n<ops.size)&&Region.sinkB .any ops n&&Region.chainB .any ops n&&(List.range n).all (Region.headGB ops n sz) &&
 Region.seqB .any ops (ops.size-n) n (Array.replicate n true++Array.replicate (ops.size-n) false)
structure HeadOkG (ops:Array Oper)(n sz i:Nat)(o:Oper)(d:Nat):Prop where
 op:ops[i]? =some o
 dst:o.dst=some d
 lt:d<sz
 after:∀e∈o.after,Region.binds .any e=true->e.on<i
 other:∀j o',j<n->j≠i->ops[j]? =some o'->o'.dst≠some d
theorem Region.headGB_spec {ops:Array Oper}{n sz i:Nat}(h:Region.headGB ops n sz i=true):∃o d,HeadOkG ops n sz i o d:=by
 unfold Region.headGB at h
 cases ho:ops[i]? with
 |none=>rw[ho]at h;cases h
 |some o =>
  rw[ho]at h;simp only[Bool.and_eq_true]at h;obtain⟨⟨h2,h3⟩,h4⟩:=h
  cases hd:o.dst with
  |none=>rw[hd]at h2;cases h2
  |some d =>
   rw[hd]at h2 h4;simp only[decide_eq_true_eq]at h2;refine⟨o,d,ho,hd,h2,λe he hb=> ?_,λj o' hj hne ho' e=> ?_⟩
   ·exact yig
   ·exact yiy
theorem b3x {n:Nat}{s:Array Bool}{sz:Nat}(hh:∀i,i<n->∃o d,HeadOkG ops n sz i o d)(inv:HeadInv .any ops n s):∀k i,i<k->i<n->s.getD i false=false->Region.ready .any ops s≠[]:=by
 exact ycd
theorem c5g {Q:Exit->Act->World->Prop}{a:Act}{l:List Oper}{n:Nat}(hn:n<l.toArray.size)(hs:Region.sinkB .any l.toArray n=true)(hc:Region.chainB .any l.toArray n=true)
 (hh:∀i,i<n->∃o d,HeadOkG l.toArray n a.tmps.size i o d) (hseq:Region.seqB .any l.toArray (l.toArray.size-n) n (Array.replicate n true++Array.replicate (l.toArray.size-n) false)=true)
 (I:Nat->World->Prop) (G:World->World->Prop) (F:Nat->Value->World->Prop) (hF:∀i v w w',F i v w->G w w'->F i v w')
 (hstep:∀i o,i<n->l.toArray[i]? =some o->∀c b w',c<n->I c w'->Agree l.toArray n a b->(∀e∈o.after,Region.binds .any e=true->a5v l.toArray F e.on b w') ->
  ∀K:Act->World->Prop,(∀v w'',F i v w''->G w' w''->I (c+1) w''->K (b.put o.dst v) w'')->if Region.wanted o (yielded l.toArray b.tmps)then Oper.wp P o b w' K Q else K (b.put o.dst undef) w')
 (htail:∀b w',I n w'->Agree l.toArray n a b->(∀i,i<n->a5v l.toArray F i b w')->wpList P l.toArray Q (l.drop n) b w') :
 ∀(f c:Nat) (s:Array Bool) (b:Act) (w':World),c+f=n->b5m s n=c->HeadInv .any l.toArray n s->I c w'->Agree l.toArray n a b->(∀j,j<n->s.getD j false=true->a5v l.toArray F j b w') ->
  wpAny P .any l.toArray Q (f+(l.toArray.size-n)) s b w':=by
 intro f;induction f with
 |zero =>
  exact ybs
 |succ f ih =>
  intro c s b w' hcf hcnt inv hI hA hL;obtain⟨i0,hi0,hf0⟩:=a5w (s:=s) (n:=n) oM;have hne:=b3x hh inv (i0+1) i0 oM hi0 hf0;rw[show f+1+(l.toArray.size-n)=f+(l.toArray.size-n)+1 from by omega];refine⟨λh=>absurd h hne,λi hi=> ?_⟩;have hlt0:i0<s.size:=by rw[inv.size];omega
  have hin:i<n:=a4v hs hc hn inv hi0 (getD_in hlt0 hf0) i hi;obtain⟨hun,oi,hoi,haf⟩:=mem_ready.1 hi;obtain⟨o,d,ho⟩:=hh i hin;obtain rfl:oi=o:=Option.some.inj (hoi.symm.trans ho.op);have hlt:i<s.size:=by rw[inv.size];omega
  have hd:d<b.tmps.size:=by rw[hA.size];exact ho.lt
  unfold wpOp;simp only[hoi];have hst:=hstep i oi hin hoi c b w' oM hI hA (λe he hb=>hL e.on (by have:=ho.after e he hb;omega) (haf e he hb)) (wpAny P .any l.toArray Q (f+(l.toArray.size-n)) (s.setIfInBounds i true)) ?_
  ·exact yhu
  exact yaz
theorem wp_region_relg {id:Nat}{Q:Exit->Act->World->Prop}{a:Act}{w:World}{l:List Oper}(n:Nat)(hm:P.follows .mixedOrders=true)(hB:Region.relGB l.toArray n a.tmps.size=true)
 (I:Nat->World->Prop) (G:World->World->Prop) (F:Nat->Value->World->Prop) (hF:∀i v w w',F i v w->G w w'->F i v w') (h0:I 0 w.drew)
 (hstep:∀i o,i<n->l.toArray[i]? =some o->∀c b w',c<n->I c w'->Agree l.toArray n a b->(∀e∈o.after,Region.binds .any e=true->a5v l.toArray F e.on b w') ->
  ∀K:Act->World->Prop,(∀v w'',F i v w''->G w' w''->I (c+1) w''->K (b.put o.dst v) w'')->if Region.wanted o (yielded l.toArray b.tmps)then Oper.wp P o b w' K Q else K (b.put o.dst undef) w')
 (htail:∀b w',I n w'->Agree l.toArray n a b->(∀i,i<n->a5v l.toArray F i b w')->wpList P l.toArray Q (l.drop n) b w') :
 (Code.region id l.toArray true).wp P Q a w:=by
 simp only[Region.relGB,Bool.and_eq_true,decide_eq_true_eq]at hB;obtain⟨⟨⟨⟨hn,hs⟩,hc⟩,hh⟩,hseq⟩:=hB;have hh':∀i,i<n->∃o d,HeadOkG l.toArray n a.tmps.size i o d:=λi hi=>Region.headGB_spec (List.all_eq_true.1 hh i (List.mem_range.2 hi))
 have inv0:HeadInv .any l.toArray n (Array.replicate l.toArray.size false) :=
  ⟨by simp,λj oj _ hl=>(by rw[getD_replicate_false]at hl;cases hl),λt _ ht=>getD_in (by simpa using ht) (getD_replicate_false _ _)⟩
 refine wp_region_any hm ?_;have h:=c5g (P:=P) (Q:=Q) (a:=a) hn hs hc hh' hseq I G F hF hstep htail n 0 _ a w.drew oM (a5x n) inv0 h0 (Agree.refl _ _ _) (λj hj hl=>by rw[getD_replicate_false]at hl;cases hl);exact yfd
end
section
variable {P:Program}{ops:Array Oper}
def b1l {Γ:Type}(ops:Array Oper)(F:Nat->Value->Γ->World->Prop)(i:Nat)(b:Act)(g:Γ)(w:World):Prop:=∀o d,ops[i]? =some o->o.dst=some d->F i (b.eval (.tmp d)) g w
theorem a0d {Γ:Type}{F:Nat->Value->Γ->World->Prop}{o:Oper}{b:Act}{g:Γ}{w:World}(h:∀e∈o.after,Region.binds .any e=true->b1l ops F e.on b g w)(j d:Nat){oj:Oper}
 (h1:(o.after.any λe=>Region.binds .any e&&e.on==j)=true) (h2:ops[j]? =some oj) (h3:oj.dst=some d):F j (b.eval (.tmp d)) g w:=by
 exact yfw
theorem c5h {Q:Exit->Act->World->Prop}{a:Act}{l:List Oper}{n:Nat}(hn:n<l.toArray.size)(hs:Region.sinkB .any l.toArray n=true)(hc:Region.chainB .any l.toArray n=true)
 (hh:∀i,i<n->∃o d,HeadOkG l.toArray n a.tmps.size i o d) (hseq:Region.seqB .any l.toArray (l.toArray.size-n) n (Array.replicate n true++Array.replicate (l.toArray.size-n) false)=true)
 {Γ:Type} (I:Nat->Γ->World->Prop) (G:Γ->World->Γ->World->Prop) (F:Nat->Value->Γ->World->Prop) (hF:∀i v g w g' w',F i v g w->G g w g' w'->F i v g' w')
 (hstep:∀i o,i<n->l.toArray[i]? =some o->∀c b g w',c<n->I c g w'->Agree l.toArray n a b->(∀e∈o.after,Region.binds .any e=true->b1l l.toArray F e.on b g w') ->
  ∀K:Act->World->Prop,(∀v g' w'',F i v g' w''->G g w' g' w''->I (c+1) g' w''->K (b.put o.dst v) w'')->if Region.wanted o (yielded l.toArray b.tmps)then Oper.wp P o b w' K Q else K (b.put o.dst undef) w')
 (htail:∀b g w',I n g w'->Agree l.toArray n a b->(∀i,i<n->b1l l.toArray F i b g w')->wpList P l.toArray Q (l.drop n) b w') :
 ∀(f c:Nat) (s:Array Bool) (b:Act) (g:Γ) (w':World),c+f=n->b5m s n=c->HeadInv .any l.toArray n s->I c g w'->Agree l.toArray n a b->(∀j,j<n->s.getD j false=true->b1l l.toArray F j b g w') ->
  wpAny P .any l.toArray Q (f+(l.toArray.size-n)) s b w':=by
 intro f;induction f with
 |zero =>
  intro c s b g w' hcf hcnt inv hI hA hL;obtain rfl:c=n:=oM;have hall:=b0v hcnt;have hsl:s=Array.replicate c true++Array.replicate (l.toArray.size-c) false:=by
   exact yar
  rw[Nat.zero_add,hsl];have h:=wpAny_of_seq (P:=P) (md:= .any) (Q':=Q) (ops:=l.toArray) (l.drop c) c (Array.replicate c true++Array.replicate (l.toArray.size-c) false) b w' (λj=>by simp[List.getElem?_drop])
   (by rw[List.length_drop,show l.length=l.toArray.size from by simp];exact hseq) (htail b g w' hI hA (λi hi=>hL i hi (hall i hi)))
  exact ygw
 |succ f ih =>
  intro c s b g w' hcf hcnt inv hI hA hL;obtain⟨i0,hi0,hf0⟩:=a5w (s:=s) (n:=n) oM;have hne:=b3x hh inv (i0+1) i0 oM hi0 hf0;rw[show f+1+(l.toArray.size-n)=f+(l.toArray.size-n)+1 from by omega];refine⟨λh=>absurd h hne,λi hi=> ?_⟩;have hlt0:i0<s.size:=by rw[inv.size];omega
  have hin:i<n:=a4v hs hc hn inv hi0 (getD_in hlt0 hf0) i hi;obtain⟨hun,oi,hoi,haf⟩:=mem_ready.1 hi;obtain⟨o,d,ho⟩:=hh i hin;obtain rfl:oi=o:=Option.some.inj (hoi.symm.trans ho.op);have hlt:i<s.size:=by rw[inv.size];omega
  have hd:d<b.tmps.size:=by rw[hA.size];exact ho.lt
  unfold wpOp;simp only[hoi];have hst:=hstep i oi hin hoi c b g w' oM hI hA (λe he hb=>hL e.on (by have:=ho.after e he hb;omega) (haf e he hb)) (wpAny P .any l.toArray Q (f+(l.toArray.size-n)) (s.setIfInBounds i true)) ?_
  ·exact yhu
  intro v g' w'' h1 h2 h3;rw[ho.dst];have hoth:∀k,k≠d->(b.put (some d) v).eval (.tmp k)=b.eval (.tmp k):=λk hk=>Act.eval_put (λd' e=>by cases e;intro e2;cases e2;exact hk rfl)
  refine ih (c+1) _ _ _ _ oM ?_ (inv.set hi hin) h3 ⟨by rw[Act.put_defers',hA.defers],by rw[Act.put_size,hA.size],λk hk=> ?_⟩ ?_
  ·rw[b0w hlt (getD_both hun) hin,hcnt]
  ·exact yhb
  ·exact ycs
theorem wp_region_reln {id:Nat}{Q:Exit->Act->World->Prop}{a:Act}{w:World}{l:List Oper}(n:Nat)(hm:P.follows .mixedOrders=true)(hB:Region.relGB l.toArray n a.tmps.size=true)
 {Γ:Type} (I:Nat->Γ->World->Prop) (G:Γ->World->Γ->World->Prop) (F:Nat->Value->Γ->World->Prop) (hF:∀i v g w g' w',F i v g w->G g w g' w'->F i v g' w') (g0:Γ) (h0:I 0 g0 w.drew)
 (hstep:∀i o,i<n->l.toArray[i]? =some o->∀c b g w',c<n->I c g w'->Agree l.toArray n a b->(∀e∈o.after,Region.binds .any e=true->b1l l.toArray F e.on b g w') ->
  ∀K:Act->World->Prop,(∀v g' w'',F i v g' w''->G g w' g' w''->I (c+1) g' w''->K (b.put o.dst v) w'')->if Region.wanted o (yielded l.toArray b.tmps)then Oper.wp P o b w' K Q else K (b.put o.dst undef) w')
 (htail:∀b g w',I n g w'->Agree l.toArray n a b->(∀i,i<n->b1l l.toArray F i b g w')->wpList P l.toArray Q (l.drop n) b w') :
 (Code.region id l.toArray true).wp P Q a w:=by
 simp only[Region.relGB,Bool.and_eq_true,decide_eq_true_eq]at hB;obtain⟨⟨⟨⟨hn,hs⟩,hc⟩,hh⟩,hseq⟩:=hB;have hh':∀i,i<n->∃o d,HeadOkG l.toArray n a.tmps.size i o d:=λi hi=>Region.headGB_spec (List.all_eq_true.1 hh i (List.mem_range.2 hi))
 have inv0:HeadInv .any l.toArray n (Array.replicate l.toArray.size false) :=
  ⟨by simp,λj oj _ hl=>(by rw[getD_replicate_false]at hl;cases hl),λt _ ht=>getD_in (by simpa using ht) (getD_replicate_false _ _)⟩
 refine wp_region_any hm ?_;have h:=c5h (P:=P) (Q:=Q) (a:=a) hn hs hc hh' hseq I G F hF hstep htail n 0 _ a g0 w.drew oM (a5x n) inv0 h0 (Agree.refl _ _ _) (λj hj hl=>by rw[getD_replicate_false]at hl;cases hl);exact yfd
end
section
variable {P:Program}{ops:Array Oper}
theorem c7p {n:Nat}{s:Array Bool}(inv:HeadInv .any ops n s)(j k:Nat){oj:Oper}(h1:ops[j]? =some oj)(hl:s.getD j false=true)(h2:(oj.after.any λe=>Region.binds .any e&&e.on==k)=true):s.getD k false=true:=by
 obtain⟨i,hi,h4⟩:=Array.any_eq_true.1 h2;simp only[Bool.and_eq_true,beq_iff_eq]at h4;have:=inv.closed j oj h1 hl oj.after[i] (Array.getElem_mem hi) h4.1;rw[h4.2]at this;exact this
theorem c7q {Q:Exit->Act->World->Prop}{a:Act}{l:List Oper}{n:Nat}(hn:n<l.toArray.size)(hs:Region.sinkB .any l.toArray n=true)(hc:Region.chainB .any l.toArray n=true)
 (hh:∀i,i<n->∃o d,HeadOk l.toArray n a.tmps.size i o d) (hseq:Region.seqB .any l.toArray (l.toArray.size-n) n (Array.replicate n true++Array.replicate (l.toArray.size-n) false)=true)
 {Γ:Type} (st:Array Bool->Γ) (I:Γ->World->Prop) (G:Γ->World->Γ->World->Prop) (F:Nat->Value->Γ->World->Prop) (hF:∀i v g w g' w',F i v g w->G g w g' w'->F i v g' w')
 (hstep:∀i o,i<n->l.toArray[i]? =some o->∀(s:Array Bool) b w',HeadInv .any l.toArray n s->s.getD i false=false->(∀e∈o.after,Region.binds .any e=true->s.getD e.on false=true)->I (st s) w'->Agree l.toArray n a b->(∀e∈o.after,Region.binds .any e=true->b1l l.toArray F e.on b (st s) w') ->
  ∀K:Act->World->Prop,(∀v g' w'',F i v g' w''->G (st s) w' g' w''->I g' w''->g'=st (s.setIfInBounds i true)->K (b.put o.dst v) w'')->Oper.wp P o b w' K Q)
 (htail:∀b (s:Array Bool) w',(∀i,i<n->s.getD i false=true)->I (st s) w'->Agree l.toArray n a b->(∀i,i<n->b1l l.toArray F i b (st s) w')->wpList P l.toArray Q (l.drop n) b w') :
 ∀(f c:Nat) (s:Array Bool) (b:Act) (w':World),c+f=n->b5m s n=c->HeadInv .any l.toArray n s->I (st s) w'->Agree l.toArray n a b->(∀j,j<n->s.getD j false=true->b1l l.toArray F j b (st s) w') ->
  wpAny P .any l.toArray Q (f+(l.toArray.size-n)) s b w':=by
 intro f;induction f with
 |zero =>
  intro c s b w' hcf hcnt inv hI hA hL;obtain rfl:c=n:=oM;have hall:=b0v hcnt;have hsl:s=Array.replicate c true++Array.replicate (l.toArray.size-c) false:=by
   exact yar
  have ht:=htail b s w' hall hI hA (λi hi=>hL i hi (hall i hi));rw[Nat.zero_add,hsl];have h:=wpAny_of_seq (P:=P) (md:= .any) (Q':=Q) (ops:=l.toArray) (l.drop c) c (Array.replicate c true++Array.replicate (l.toArray.size-c) false) b w' (λj=>by simp[List.getElem?_drop])
   (by rw[List.length_drop,show l.length=l.toArray.size from by simp];exact hseq) ht
  exact ygw
 |succ f ih =>
  intro c s b w' hcf hcnt inv hI hA hL;obtain⟨i0,hi0,hf0⟩:=a5w (s:=s) (n:=n) oM;have hne:=b7s hh inv (i0+1) i0 oM hi0 hf0;rw[show f+1+(l.toArray.size-n)=f+(l.toArray.size-n)+1 from by omega];refine⟨λh=>absurd h hne,λi hi=> ?_⟩;have hlt0:i0<s.size:=by rw[inv.size];omega
  have hin:i<n:=a4v hs hc hn inv hi0 (getD_in hlt0 hf0) i hi;obtain⟨hun,oi,hoi,haf⟩:=mem_ready.1 hi;obtain⟨o,d,ho⟩:=hh i hin;obtain rfl:oi=o:=Option.some.inj (hoi.symm.trans ho.op);have hlt:i<s.size:=by rw[inv.size];omega
  have hd:d<b.tmps.size:=by rw[hA.size];exact ho.lt
  unfold wpOp;simp only[hoi];rw[if_pos (by simp[Region.wanted,ho.guard])];refine .inl (hstep i oi hin hoi s b w' inv (getD_both hun) haf hI hA (λe he hb=>hL e.on (by have:=ho.after e he hb;omega) (haf e he hb)) _ ?_);rintro v g' w'' h1 h2 h3 rfl;rw[ho.dst];have hoth:∀k,k≠d->(b.put (some d) v).eval (.tmp k)=b.eval (.tmp k):=λk hk=>Act.eval_put (λd' e=>by cases e;intro e2;cases e2;exact hk rfl)
  refine ih (c+1) _ _ _ oM ?_ (inv.set hi hin) h3 ⟨by rw[Act.put_defers',hA.defers],by rw[Act.put_size,hA.size],λk hk=> ?_⟩ ?_
  ·rw[b0w hlt (getD_both hun) hin,hcnt]
  ·exact yhb
  ·exact ycs
theorem wp_region_set {id:Nat}{Q:Exit->Act->World->Prop}{a:Act}{w:World}{l:List Oper}(n:Nat)(hm:P.follows .mixedOrders=true)(hB:Region.relB l.toArray n a.tmps.size=true)
 {Γ:Type} (st:Array Bool->Γ) (I:Γ->World->Prop) (G:Γ->World->Γ->World->Prop) (F:Nat->Value->Γ->World->Prop) (hF:∀i v g w g' w',F i v g w->G g w g' w'->F i v g' w') (h0:I (st (Array.replicate l.toArray.size false)) w.drew)
 (hstep:∀i o,i<n->l.toArray[i]? =some o->∀(s:Array Bool) b w',HeadInv .any l.toArray n s->s.getD i false=false->(∀e∈o.after,Region.binds .any e=true->s.getD e.on false=true)->I (st s) w'->Agree l.toArray n a b->(∀e∈o.after,Region.binds .any e=true->b1l l.toArray F e.on b (st s) w') ->
  ∀K:Act->World->Prop,(∀v g' w'',F i v g' w''->G (st s) w' g' w''->I g' w''->g'=st (s.setIfInBounds i true)->K (b.put o.dst v) w'')->Oper.wp P o b w' K Q)
 (htail:∀b (s:Array Bool) w',(∀i,i<n->s.getD i false=true)->I (st s) w'->Agree l.toArray n a b->(∀i,i<n->b1l l.toArray F i b (st s) w')->wpList P l.toArray Q (l.drop n) b w') :
 (Code.region id l.toArray true).wp P Q a w:=by
 simp only[Region.relB,Bool.and_eq_true,decide_eq_true_eq]at hB;obtain⟨⟨⟨⟨hn,hs⟩,hc⟩,hh⟩,hseq⟩:=hB;have hh':∀i,i<n->∃o d,HeadOk l.toArray n a.tmps.size i o d:=λi hi=>Region.headB_spec (List.all_eq_true.1 hh i (List.mem_range.2 hi))
 have inv0:HeadInv .any l.toArray n (Array.replicate l.toArray.size false) :=
  ⟨by simp,λj oj _ hl=>(by rw[getD_replicate_false]at hl;cases hl),λt _ ht=>getD_in (by simpa using ht) (getD_replicate_false _ _)⟩
 refine wp_region_any hm ?_;have h:=c7q (P:=P) (Q:=Q) (a:=a) hn hs hc hh' hseq st I G F hF hstep htail n 0 _ a w.drew oM (a5x n) inv0 h0 (Agree.refl _ _ _) (λj hj hl=>by rw[getD_replicate_false]at hl;cases hl);exact yfd
end
end
section
open Go.RowKit Go.ChangeShapes Go.WideShapes Go.ChangeAt
section
variable {H:Type}{enc:TypeId×Value->H}{P:Program}
theorem a8b (hl:laidOutB P=true){W W':World}(hb:Below W.heap.size W W'):∀ {ts:List TypeId} {vs:List Value} {ds:List (DataW H)} {ps:List MemPlace},
 (ts.all λt=>P.readableRec t&&decide (t<P.types.size))=true->(∀x∈ps,x.block<W.heap.size) ->
 DataW.TrodAll enc P W 0 (λ_=>true) true ts vs ds ps->DataW.TrodAll enc P W' 0 (λb=>decide (b<W.heap.size)) true ts vs ds ps
 |[],[],[],_,_,_,h=>h
 |[],_::_,_,_,_,_,h=>h.elim
 |[],[],_::_,_,_,_,h=>h.elim
 |_::_,[],_,_,_,_,h=>h.elim
 |_::_,_::_,[],_,_,_,h=>h.elim
 |t::ts,v::vs,d::ds,ps,hr,hlt,h=>by
  obtain⟨p,q,h1,h2,rfl⟩:=h;simp only[List.all_cons,Bool.and_eq_true,decide_eq_true_eq]at hr;exact⟨p,q,Below.trod hl hr.1.1 hr.1.2 h1 hb (λx hx=>hlt x (List.mem_append.2 (.inl hx))),
   a8b hl hb hr.2 (λx hx=>hlt x (List.mem_append.2 (.inr hx))) h2,rfl⟩
theorem d1l {f:Func}{s:ChangeSpec}{W W':World}{args:Array Value}{ds:List (DataW H)}{before:List MemPlace}{T:TypeId}
 (hl:laidOutB P=true) (hr:(f.params.toList.all λt=>P.readableRec t&&decide (t<P.types.size))=true) (hv:s.vars=[])
 (hT:f.resultTypes= #[T]) (hT2:P.underlying T=some .bool)
 (hs:s.fn H (ds++[])={ results:=[.lit (.bool true)],args:=ds })
 (hW:DataW.Whole enc P f.params.toList s.vars false W args.toList ds [] before)
 (hb:Below W.heap.size W W'):s.post enc P f false true false false W args (.bool true) W':=by
 have hlt:=λx hx=>hW.lt x hx
 have hW2:=hW;obtain⟨p,q,hA,hV,rfl,hz,hn⟩:=hW;rw[hv]at hV;obtain⟨-,rfl⟩:=trodVars_none hV;refine⟨ds,[],p++[],[],p,[],hW2,?_,?_,?_,hb.frame _,λh=>by cases h⟩
 ·rw[hs,hT]
  exact trodAll_cons_mk (shut_bool hT2 true) trodAll_mk0
 ·rw[hs]
  exact a8b hl hb hr (λx hx=>hlt x (by simpa using hx)) hA
 ·rw[hs,hv]
  exact rfl
theorem a5y {w:World}{b:Nat}{sp:Nat->Bool}{hd:Bool}:∀ {ts:List TypeId} {vs:List Value} {ds:List (DataW H)} {ps:List MemPlace},
 DataW.TrodAll enc P w b sp hd ts vs ds ps->vs.length=ts.length/\ds.length=ts.length
 |[],[],[],_,_=>⟨rfl,rfl⟩
 |[],_::_,_,_,h=>h.elim
 |[],[],_::_,_,h=>h.elim
 |_::_,[],_,_,h=>h.elim
 |_::_,_::_,[],_,h=>h.elim
 |_::_,_::_,_::_,_,h=>by
  obtain⟨p,q,h1,h2,rfl⟩:=h;have:=a5y h2;simp[this.1,this.2]
theorem c7r {k:FuncId}{f:Func}{s:ChangeSpec}{W:World}{args:Array Value}{ds gs:List (DataW H)}{before:List MemPlace}(T:TypeId)
 (hl:laidOutB P=true) (hr:(f.params.toList.all λt=>P.readableRec t&&decide (t<P.types.size))=true) (hv:s.vars=[])
 (hT:f.resultTypes= #[T]) (hT2:P.underlying T=some .bool)
 (hs:∀ds:List (DataW H),ds.length=f.params.toList.length->s.fn H (ds++[])={ results:=[.lit (.bool true)],args:=ds })
 (hW:DataW.Whole enc P f.params.toList s.vars false W args.toList ds gs before)
 (hwalk:args.toList.length=f.params.toList.length->DataW.Whole enc P f.params.toList [] false W args.toList ds [] before->Calls P k args W λe W'=>e= .returned (.bool true)/\Below W.heap.size W W') :
 Calls P k args W λe W'=>∃v,e= .returned v/\s.post enc P f false true false false W args v W':=by
 have hW2:=hW;obtain⟨p,q,hA,hV,hb,hz,hn⟩:=hW2;rw[hv]at hV;obtain⟨rfl,-⟩:=trodVars_none hV;obtain⟨l1,l2⟩:=a5y hA;have hW3:=hW;rw[hv]at hW3;exact(hwalk l1 hW3).mono λe W' ⟨he,hbel⟩=>⟨_,he,d1l hl hr hv hT hT2 (hs ds l2) hW hbel⟩
/-! ### what came in by value: ints,and rows of ints -/
variable {w:World}{r:Reach}{base:Nat}{t:TypeId}{v:Value}{k:IntKind}
theorem a7g (ht:P.underlying t=some (.int k))(h:Value.okWide P w r base t v):∃n,v= .int k n/\k.has n:=by
 simp only[Value.okWide,ht,Cell.okWide]at h
 cases v <;> simp_all [Cell.ok]
end
end
end Go
namespace Go.Proofs.YtfocdbjceedagaaGreatDoor
open Tryz
section
open Go.RowKit Go.Shelf
def fits (n:Int):Prop := -9223372036854775808<=n/\n<=9223372036854775807
instance (n :Int):Decidable (fits n):=inferInstanceAs (Decidable (_/\_))
theorem a1b (x:Int):fits (wrap64 x):=by
 unfold fits wrap64;omega
theorem a2d (x:Int):fits (IntKind.i64.wrap x):=by
 unfold fits;exact ydf
theorem a0k {x:Int}(h0 : -9223372036854775808<=x)(h1:x<=9223372036854775807):IntKind.i64.wrap x=x:=by
 exact ydf
def Blk (W:World)(B:Nat)(c:Array Value)(t:TypeId):Prop:=W.heap[B]? =some (.cells c t (0,0))
theorem Blk.kept {W W':World}{B:Nat}{c:Array Value}{t:TypeId}{row:Option Nat}(h:Blk W B c t)(hg:W.grownBy W' row)(hr:row≠some B):Blk W' B c t:=by
 exact(hg.block B (Array.getElem?_eq_some_iff.1 h).1 (λe=>hr e.symm)).trans h
theorem Blk.new (W:World)(c:Array Value)(t:TypeId):Blk (W.alloc (.cells c t)) W.heap.size c t:=by unfold Blk World.alloc;simp
theorem Blk.alloc {W:World}{B:Nat}{c:Array Value}{t:TypeId}(h:Blk W B c t)(o:Obj):Blk (W.alloc o) B c t:=h.kept (World.grownBy_alloc W o none) vM
theorem Blk.lt {W:World}{B:Nat}{c:Array Value}{t:TypeId}(h:Blk W B c t):B<W.heap.size:=(Array.getElem?_eq_some_iff.1 h).1
theorem Blk.cell {W:World}{B:Nat}{c:Array Value}{t:TypeId}(h:Blk W B c t)(i:Nat):W.cell? ⟨B,i,none⟩=c[i]? :=a2w h i
theorem Blk.frozen {W:World}{B:Nat}{c:Array Value}{t:TypeId}(h:Blk W B c t)(i:Nat):W.frozen? ⟨B,i,none⟩=false:=by
 unfold World.frozen?;rw[show W.heap[B]? =_ from h];simp
theorem Blk.below {W W':World}{B n₀:Nat}{c:Array Value}{t:TypeId}(h:Blk W B c t)(hb:Below n₀ W W')(hB:B<n₀):Blk W' B c t:=(hb.block B hB).trans h
theorem Blk.set {W:World}{B:Nat}{c:Array Value}{t:TypeId}(h:Blk W B c t)(i:Nat)(v:Value):Blk (W.setCell ⟨B,i,none⟩ v) B (c.setIfInBounds i v) t:=by
 unfold Blk at *;unfold World.setCell;simp[Array.getElem?_modify,h]
theorem Blk.other {W:World}{B B':Nat}{c:Array Value}{t:TypeId}(h:Blk W B c t)(hne:B≠B')(i:Nat)(v:Value):Blk (W.setCell ⟨B',i,none⟩ v) B c t:=by
 unfold Blk at *;rw[Below.heap_setCell _ _ _ _ (by simpa using hne)];exact h
theorem Blk.grow {W:World}{B:Nat}{c:Array Value}{t:TypeId}(h:Blk W B c t)(p:Growth):Blk (W.growBy p) B c t:=h.kept (a0q W p) vM
theorem Blk.drew {W:World}{B:Nat}{c:Array Value}{t:TypeId}(h:Blk W B c t):Blk W.drew B c t:=h
theorem a0r {W W':World}{row:Option Nat}{base:Nat}{e:TypeId}{size:Nat}{v:Value}{k:Nat}{xs:List Value}(h:W.ownsRow base e size v k xs)(hg:W.grownBy W' row)
 (hrow:∀r,row=some r->∃o:Obj,W.heap[r]? =some o/\∀cur,o≠.cells cur e (0,0)):W'.ownsRow base e size v k xs:=by
 refine h.kept hg ?_;rcases h.2 with⟨rfl,_⟩|⟨g,cap,cur,rfl,_,hgb,_⟩
 ·exact .inl rfl
 ·refine .inr λe'=> ?_
  obtain⟨o,ho,hw⟩:=hrow g (by simpa[Value.ownBlock]using e'.symm);rw[hgb]at ho;cases ho;exact hw cur rfl
theorem a0o {W:World}{base:Nat}{e t:TypeId}{size:Nat}{v:Value}{k:Nat}{xs:List Value}(h:W.ownsRow base e size v k xs){B:Nat}{c:Array Value}(hb:Blk W B c t)(hne:t≠e):v.ownBlock≠some B:=by
 intro hj;rcases h.2 with⟨rfl,_⟩|⟨g,cap,cur,rfl,_,hgb,_⟩
 ·simp[Value.ownBlock]at hj
 ·have:g=B:=by simpa[Value.ownBlock]using hj
  subst this;rw[show W.heap[g]? =_ from hb]at hgb
  cases hgb;exact hne rfl
structure El (α:Type) where
 t:TypeId
 s:Nat
 enc:α->List Value
structure El.Ok {α:Type}(E:El α):Prop where
 len:∀x,(E.enc x).length=E.s
 pos:0<E.s
 one:∀x,∀u∈E.enc x,u.oneCell'=true
def Lst {α:Type}(E:El α)(n₀:Nat)(W:World)(v:Value)(l:List α):Prop :=
 ∃a cap,v= .slice a l.length cap/\l.length<=cap/\l.length<=1000000/\∀j,(h:j<l.length)->∃b off,a=some ⟨b,off,none⟩/\b<n₀/\∀i,i<E.s->W.cell? ⟨b,off+j*E.s+i,none⟩=(E.enc l[j])[i]?
section
variable {α:Type}{E:El α}{n₀ n₁:Nat}{W W':World}{v:Value}{l:List α}
theorem Lst.nil (E:El α)(n₀:Nat)(W:World):Lst E n₀ W (.slice none 0 0) []:=⟨none,0,rfl,yR _,by simp,λj hj=>by simp at hj⟩
theorem Lst.below (h:Lst E n₀ W v l)(hb:Below n₀ W W'):Lst E n₀ W' v l:=by
 obtain⟨a,cap,e,h1,h2,h3⟩:=h;exact⟨a,cap,e,h1,h2,λj hj=>by
  obtain⟨b,off,e2,hlt,hc⟩:=h3 j hj;exact⟨b,off,e2,hlt,λi hi=>(hb.cell (p:=⟨b,off+j*E.s+i,none⟩) hlt).trans (hc i hi)⟩⟩
theorem Lst.mono (h:Lst E n₀ W v l)(hn:n₀<=n₁):Lst E n₁ W v l:=by
 obtain⟨a,cap,e,h1,h2,h3⟩:=h;exact⟨a,cap,e,h1,h2,λj hj=>by
  obtain⟨b,off,e2,hlt,hc⟩:=h3 j hj;exact⟨b,off,e2,Nat.lt_of_lt_of_le hlt hn,hc⟩⟩
theorem Lst.up (h:Lst E W.heap.size W v l)(hb:Below W.heap.size W W'):Lst E W'.heap.size W' v l:=(h.below hb).mono hb.size
theorem Lst.form (h:Lst E n₀ W v l):∃a cap,v= .slice a l.length cap/\l.length<=cap:=by
 obtain⟨a,cap,e,h1,-⟩:=h;exact⟨a,cap,e,h1⟩
theorem Lst.len (h:Lst E n₀ W v l):l.length<=1000000:=by
 obtain⟨a,cap,e,h1,h2,-⟩:=h;exact h2
theorem Lst.some_ (h:Lst E n₀ W v l)(hl:0<l.length):∃b off cap,v= .slice (some ⟨b,off,none⟩) l.length cap/\l.length<=cap/\b<n₀/\∀j,(h:j<l.length)->∀i,i<E.s->W.cell? ⟨b,off+j*E.s+i,none⟩=(E.enc l[j])[i]? :=by
 obtain⟨a,cap,rfl,h1,h2,h3⟩:=h;obtain⟨b,off,rfl,hlt,-⟩:=h3 0 hl;refine⟨b,off,cap,rfl,h1,hlt,λj hj i hi=> ?_⟩;obtain⟨b',off',e,-,hc⟩:=h3 j hj
 cases e;exact hc i hi
theorem Lst.take {a:Option Addr}{cap:Nat}(h:Lst E n₀ W (.slice a l.length cap) l)(k:Nat)(hk:k<=l.length):Lst E n₀ W (.slice a k cap) (l.take k):=by
 obtain⟨a',cap',e,h1,h2,h3⟩:=h
 cases e;refine⟨a,cap,by rw[List.length_take,Nat.min_eq_left hk],by rw[List.length_take];omega,by rw[List.length_take];omega,λj hj=> ?_⟩;rw[List.length_take]at hj;rw[List.getElem_take];exact h3 j oM
theorem a9b (hE:E.Ok):∀(l:List α) (j i:Nat) (h:j<l.length),i<E.s->(l.flatMap E.enc)[j*E.s+i]? =(E.enc l[j])[i]?
 |[],j,i,h,_=>by simp at h
 |d::l,0,i,_,hi=>by
  rw[List.flatMap_cons,Nat.zero_mul,Nat.zero_add,List.getElem?_append_left (by rw[hE.len];exact hi)];rfl
 |d::l,j+1,i,h,hi=>by
  have ih:=a9b hE l j i (by simpa using h) hi;rw[List.flatMap_cons,List.getElem?_append_right (by rw[hE.len,Nat.add_mul];omega),hE.len,show(j+1)*E.s+i-E.s=j*E.s+i from by rw[Nat.add_mul];omega];exact ih
theorem a0v (hE:E.Ok)(l:List α):(l.flatMap E.enc).length=l.length*E.s:=by
 induction l with
 |nil=>simp
 |cons d l ih=>rw[List.flatMap_cons,List.length_append,ih,hE.len,List.length_cons,Nat.add_mul];omega
theorem a0h (hE:E.Ok){base:Nat}(h:W.ownsRow base E.t E.s v l.length (l.flatMap E.enc))(hl:l.length<=1000000):Lst E W.heap.size W v l:=by
 rcases h.2 with⟨rfl,h0⟩|⟨g,cap,cur,rfl,hbase,hgb,hcap,-⟩
 ·obtain rfl:=List.eq_nil_of_length_eq_zero h0
  exact Lst.nil _ _ _
 ·refine⟨_,cap,rfl,hcap,hl,λj hj=>⟨g,0,rfl,(Array.getElem?_eq_some_iff.1 hgb).1,λi hi=> ?_⟩⟩
  have hlt:j*E.s+i<l.length*E.s:=by
   have:(j+1)*E.s<=l.length*E.s:=Nat.mul_le_mul_right _ hj;rw[Nat.add_mul]at this;omega
  rw[Nat.zero_add,<-a9b hE l j i hj hi];exact h.cellAt _ hlt
end
structure El.In {α:Type}(E:El α)(P:Program)(st:TypeId):Prop where
 under:P.underlying st=some (.slice E.t)
 info:∃i z,P.info? E.t=some i/\i.zero=some z/\i.size=E.s/\i.bytes<=1000/\z.cells.size=E.s
theorem El.in_of {α:Type}{E:El α}{P:Program}{st:TypeId}{s bytes:Nat}{z:Value}(hu:P.underlying st=some (.slice E.t))(h:(P.info? E.t).map (λi=>(i.zero,i.size,i.bytes))=some (some z,s,bytes))(hs:s=E.s)(hb:bytes<=1000)(hz:z.cells.size=s):E.In P st:=by
 obtain⟨i,hi,h1,h2,h3⟩:=info_parts h;exact⟨hu,i,z,hi,h1,h2.trans hs,oM,oM⟩
section
variable {α:Type}{E:El α}{P:Program}{st:TypeId}{w:World}{l:List α}
theorem El.push (hE:E.Ok)(hI:E.In P st){ops:Array Oper}{rest:List Oper}{o:Oper}{a:Act}{Q:Exit->Act->World->Prop}(hgd:o.guard=none)(sO xO:Operand)(ho:o.op= .call { callee:= .builtin .append,args:= #[sO,xO],argTypes:= #[st,st] })
 {base:Nat} {v:Value} (hs:a.eval sO=v) (hrow:w.ownsRow base E.t E.s v l.length (l.flatMap E.enc)) (x:α) {H:Nat} (hx:a.eval xO= .slice (some ⟨H,0,none⟩) 1 1) (hH:w.heap.size=H) (hbase:base<=w.heap.size) (hl:l.length<=100000)
 (h:∀v' w',w'.ownsRow base E.t E.s v' (l++[x]).length ((l++[x]).flatMap E.enc)->(∃a c,v'= .slice a (l.length+1) c)->w.grownBy w' v.ownBlock->Below base w w'->wpList P ops Q rest (a.put o.dst v') w') :
 wpList P ops Q (o::rest) a (w.alloc (.cells (E.enc x).toArray E.t)):=by
 subst hH;obtain⟨i,z,hi,hz,hsz,hby,hzs⟩:=hI.info;have hlen:=hE.len x;refine wpList_append_lies _ hgd sO xO st ho base E.t i z E.s i.bytes hI.under hi hz hsz rfl hzs hE.pos v l.length _ hs (hrow.alloc _) ⟨w.heap.size,0,none⟩ 1 1 (E.enc x) hx (by rw[hlen,Nat.one_mul]) (World.news_of_block (heap_alloc_new _ _)) (hE.one x) oM oK (Nat.le_trans (Nat.mul_le_mul (Nat.add_le_add_right hl 1) hby) jM) uM _ rfl ?_;intro g cap w' hown hg hgo hlt;have hg1:w.grownBy w' v.ownBlock:=by
  exact yel
 refine h _ w' ?_ ⟨_,_,rfl⟩ hg1 ⟨hg1.os,hg1.tape,hg1.output,hg1.size,λk hk=>hg1.block k oM (λe=> ?_)⟩
 ·simpa[List.flatMap_append]using hown
 ·have:=(hrow.lt k e.symm).1
  omega
end
theorem zN3 {W:World}{B:Nat}{v0 v1 v2:Value}{l:List Value}{t:TypeId}(h:Blk W B (v0::v1::v2::l).toArray t):W.cell? ⟨B,0,none⟩=some v0/\W.cell? ⟨B,1,none⟩=some v1/\W.cell? ⟨B,2,none⟩=some v2:=⟨h.cell 0,h.cell 1,h.cell 2⟩
theorem zN4 {W:World}{B:Nat}{v0 v1 v2 v3:Value}{l:List Value}{t:TypeId}(h:Blk W B (v0::v1::v2::v3::l).toArray t):W.cell? ⟨B,0,none⟩=some v0/\W.cell? ⟨B,1,none⟩=some v1/\W.cell? ⟨B,2,none⟩=some v2/\W.cell? ⟨B,3,none⟩=some v3:=⟨h.cell 0,h.cell 1,h.cell 2,h.cell 3⟩
theorem zN6 {W:World}{B:Nat}{v0 v1 v2 v3 v4 v5:Value}{l:List Value}{t:TypeId}(h:Blk W B (v0::v1::v2::v3::v4::v5::l).toArray t):W.cell? ⟨B,0,none⟩=some v0/\W.cell? ⟨B,1,none⟩=some v1/\W.cell? ⟨B,2,none⟩=some v2/\W.cell? ⟨B,3,none⟩=some v3/\W.cell? ⟨B,4,none⟩=some v4/\W.cell? ⟨B,5,none⟩=some v5:=⟨h.cell 0,h.cell 1,h.cell 2,h.cell 3,h.cell 4,h.cell 5⟩
theorem zN7 {W:World}{B:Nat}{v0 v1 v2 v3 v4 v5 v6:Value}{l:List Value}{t:TypeId}(h:Blk W B (v0::v1::v2::v3::v4::v5::v6::l).toArray t):W.cell? ⟨B,0,none⟩=some v0/\W.cell? ⟨B,1,none⟩=some v1/\W.cell? ⟨B,2,none⟩=some v2/\W.cell? ⟨B,3,none⟩=some v3/\W.cell? ⟨B,4,none⟩=some v4/\W.cell? ⟨B,5,none⟩=some v5/\W.cell? ⟨B,6,none⟩=some v6:=⟨h.cell 0,h.cell 1,h.cell 2,h.cell 3,h.cell 4,h.cell 5,h.cell 6⟩
theorem e0z {W:World}{B:Nat}{v0 v1 v2 v3 v4 v5 v6 v7 v8 v9 v10 v11 v12 v13:Value}{l:List Value}{t:TypeId}(h:Blk W B (v0::v1::v2::v3::v4::v5::v6::v7::v8::v9::v10::v11::v12::v13::l).toArray t):W.cell? ⟨B,0,none⟩=some v0/\W.cell? ⟨B,1,none⟩=some v1/\W.cell? ⟨B,2,none⟩=some v2/\W.cell? ⟨B,3,none⟩=some v3/\W.cell? ⟨B,4,none⟩=some v4/\W.cell? ⟨B,5,none⟩=some v5/\W.cell? ⟨B,6,none⟩=some v6/\W.cell? ⟨B,7,none⟩=some v7/\W.cell? ⟨B,8,none⟩=some v8/\W.cell? ⟨B,9,none⟩=some v9/\W.cell? ⟨B,10,none⟩=some v10/\W.cell? ⟨B,11,none⟩=some v11/\W.cell? ⟨B,12,none⟩=some v12/\W.cell? ⟨B,13,none⟩=some v13:=⟨h.cell 0,h.cell 1,h.cell 2,h.cell 3,h.cell 4,h.cell 5,h.cell 6,h.cell 7,h.cell 8,h.cell 9,h.cell 10,h.cell 11,h.cell 12,h.cell 13⟩
end
section
open Go.RowKit Go.Maps
structure Ky (α:Type) where
 t:TypeId
 val:α->Value
 kl:α->Lit
 Ok:α->Prop
structure Ky.Law {α:Type}(K:Ky α)(P:Program):Prop where
 law:Keyed P K.t
 key:∀ {p},K.Ok p->keyOf P K.t (K.val p)=some (K.kl p)
 inv:∀ {v l},keyOf P K.t v=some l->∃p,K.Ok p/\v=K.val p/\l=K.kl p
 vinj:∀ {p q},K.val p=K.val q->p=q
section
variable {α:Type}{K:Ky α}{P:Program}
theorem Ky.Law.inj (L:K.Law P){p q:α}(hp:K.Ok p)(hq:K.Ok q)(h:K.kl p=K.kl q):p=q:=by
 have h1:=L.key hp;rw[h]at h1;exact L.vinj (L.law.inj h1 (L.key hq))
theorem Ky.Law.lit (L:K.Law P){p:α}(hp:K.Ok p):WideAt.IsKeyLit (K.kl p):=L.law.key (L.key hp)
variable [DecidableEq α]{β:Type}
def idG (l:List (α×β))(p:α):Option β:=(l.find? λe=>decide (e.1=p)).map (·.2)
def c3y (l:List (α×β))(p:α):Bool:=l.any λe=>decide (e.1=p)
def c7s (l:List (α×β))(p:α)(x:β):List (α×β):=if c3y l p then l.map (λe=>if e.1=p then(p,x)else e)else l++[(p,x)]
theorem b0x {l:List (α×β)}{p:α}:c3y l p=true↔p∈l.map (·.1):=by
 unfold c3y;exact yfj
theorem b1m (l:List (α×β))(p:α)(x:β):(c7s l p x).map (·.1)=if c3y l p then l.map (·.1)else l.map (·.1)++[p]:=by
 unfold c7s;exact yii
theorem d1m (l:List (α×β))(p q:α)(x:β):c3y (c7s l p x) q=(decide (q=p)||c3y l q):=by
 rw[Bool.eq_iff_iff,b0x,b1m,Bool.or_eq_true,decide_eq_true_iff];rw[show(c3y l q=true)=(q∈l.map (·.1))from propext b0x];split
 ·rename_i h
  have:=b0x.1 h;constructor
  ·exact .inr
  ·rintro(rfl|h')
   ·exact this
   ·exact h'
 ·simp[or_comm]
theorem c7t (p q:α)(x:β)(hq:¬q=p):∀l:List (α×β),idG (l.map λe=>if e.1=p then(p,x)else e) q=idG l q
 |[]=>rfl
 |a::l=>by
  have ih:=c7t p q x hq l;have hne:¬p=q:=λh=>hq h.symm
  unfold idG at ih ⊢;by_cases ha:a.1=p
  ·simpa[ha,hne]using ih
  ·by_cases haq:a.1=q
   ·have hf:List.find? (λe=>decide (e.1=q)) (List.map (λe=>if e.1=p then(p,x)else e) (a::l))=some a:=by rw[List.map_cons,if_neg ha,List.find?_cons];simp[haq]
    rw[hf];simp[haq]
   ·rw[List.map_cons,if_neg ha,List.find?_cons,List.find?_cons]
    simp only[haq,decide_false];exact ih
theorem a9w (p:α)(x:β):∀l:List (α×β),c3y l p=true->idG (l.map λe=>if e.1=p then(p,x)else e) p=some x
 |[],h=>by simp[c3y]at h
 |a::l,h=>by
  by_cases ha:a.1=p
  ·simp[idG,ha]
  ·have ih:=a9w p x l (by simpa[c3y,ha]using h)
   unfold idG at ih ⊢;simpa[ha]using ih
theorem c7u (l:List (α×β))(p q:α)(x:β):idG (c7s l p x) q=if q=p then some x else idG l q:=by
 unfold c7s;split
 ·rename_i h
  by_cases hq:q=p
  ·subst hq
   rw[if_pos rfl];exact a9w q x l h
  ·rw[if_neg hq]
   exact c7t p q x hq l
 ·rename_i h
  unfold idG;rw[List.find?_append];by_cases hq:q=p
  ·subst hq
   have:l.find? (λe=>decide (e.1=q))=none:=by
    rw[List.find?_eq_none];intro e he hh;exact h (by unfold c3y;exact List.any_eq_true.2 ⟨e,he,hh⟩)
   simp[this]
  ·have h1:¬p=q:=λe=>hq e.symm
   simp[h1,hq]
theorem c0u (l:List (α×β))(p:α)(x:β):(c7s l p x).length=if c3y l p then l.length else l.length+1:=by
 unfold c7s;split <;> simp
structure Ve (β:Type) where
 t:TypeId
 lit:β->Lit
 z:β
def MapK (P:Program)(K:Ky α)(V:Ve β)(W:World)(b n:Nat)(l:List (α×β)):Prop :=
 ∃(D:DataW Unit),W.ownsMap P K.t (plainElem P V.t) b n D/\(l.map (·.1)).Nodup/\(∀e∈l,K.Ok e.1)/\Maps.size D=l.length /\
  ∀p,K.Ok p->has D (K.kl p)=c3y l p/\D.atKey (K.kl p) (.lit (V.lit V.z))= .lit (V.lit ((idG l p).getD V.z))
variable {V:Ve β}{W W':World}{b n:Nat}{l:List (α×β)}
theorem MapK.kept {row:Option Nat}(h:MapK P K V W b n l)(hg:W.grownBy W' row)(hr:row≠some b):MapK P K V W' b n l:=by
 obtain⟨D,ho,h1,h2,h3⟩:=h;exact⟨D,ho.kept hg (λe=>hr e.symm),h1,h2,h3⟩
theorem MapK.lt (h:MapK P K V W b n l):b<W.heap.size:=by
 obtain⟨D,ho,-⟩:=h;exact ho.lt
theorem MapK.alloc (h:MapK P K V W b n l)(o:Obj):MapK P K V (W.alloc o) b n l:=h.kept (World.grownBy_alloc W o none) vM
theorem MapK.below {n₀:Nat}(h:MapK P K V W b n l)(hb:Below n₀ W W')(hB:b<n₀):MapK P K V W' b n l:=by
 exact yik
theorem MapK.made (P:Program)(K:Ky α)(V:Ve β)(W:World):MapK P K V (W.alloc (.map #[] 0)) W.heap.size 0 [] :=
 ⟨.map [],World.ownsMap_made W _ _ _,by simp,by simp,rfl,λp _=>⟨rfl,rfl⟩⟩
theorem MapK.store (L:K.Law P){D:DataW Unit}{p:α}{x:β}(hD:Tidy D)(h1:(l.map (·.1)).Nodup)(h2:∀e∈l,K.Ok e.1)(h4:Maps.size D=l.length)
 (h3:∀p,K.Ok p->has D (K.kl p)=c3y l p/\D.atKey (K.kl p) (.lit (V.lit V.z))= .lit (V.lit ((idG l p).getD V.z))) (hp:K.Ok p)
 (ho:W'.ownsMap P K.t (plainElem P V.t) b n (D.put (K.kl p) (.lit (V.lit x)))):MapK P K V W' b n (c7s l p x):=by
 refine⟨_,ho,?_,?_,?_,λq hq=> ?_⟩
 ·rw[b1m]
  split
  ·exact h1
  ·rename_i h
   rw[List.nodup_append];refine⟨h1,by simp,λa ha c hc=> ?_⟩;obtain rfl:c=p:=by simpa using hc
   exact λe=>h (b0x.2 (e▸ha))
 ·intro e he
  have:e.1∈(c7s l p x).map (·.1):=List.mem_map.2 ⟨e,he,rfl⟩;rw[b1m]at this;exact yeh
 ·rw[size_put hD,(h3 p hp).1,c0u,h4]
 ·have hk:=L.lit hp
  rw[d1m,c7u];by_cases hqp:q=p
  ·subst hqp
   simp[has_put_same hD.isMap hk,atKey_put_same hD.isMap hk]
  ·have hne:K.kl q≠K.kl p:=λe=>hqp (L.inj hq hp e)
   simp[has_put_other hne,atKey_put_other hne,hqp,h3 q hq]
end
end
section
open Go Go.RowKit
structure KeepC (C:World->Nat->Prop)(A B:World):Prop where
 size:A.heap.size<=B.heap.size
 same:∀k,k<A.heap.size->¬C A k->B.heap[k]? =A.heap[k]?
 mine:∀k,C B k->C A k\/A.heap.size<=k
end
section
open Go.RowKit
structure Lb where
 id:Int
 x:Int
 y:Int
 r:Int
 txt:ByteArray
 unt:Int
instance : DecidableEq Lb:=λa b =>
 if h:a.id=b.id/\a.x=b.x/\a.y=b.y/\a.r=b.r/\a.txt=b.txt/\a.unt=b.unt then .isTrue (by cases a;cases b;simp_all)else .isFalse (λe=>h (by subst e;simp))
abbrev inE :El Int:=⟨3,1,λn=>[.int .i64 n]⟩
end
section
open Go.RowKit Go.Shelf Go.Lib
attribute [local go_sem] Oper.semAt_some
attribute [local go_sem ↓] Go.wp_at_zero Go.wp_at_succ
structure Pc where
 id:Int
 x:Int
 y:Int
 cls:ByteArray
 nm:ByteArray
 wt:Int
 ds:Int
instance : Inhabited Pc:=⟨⟨0,0,0,⟨#[]⟩,⟨#[]⟩,0,0⟩⟩
abbrev plV (p:Pc):Value:= .agg #[.int .i64 p.id,.int .i64 p.x,.int .i64 p.y,.string p.cls,.string p.nm,.int .i64 p.wt,.int .i64 p.ds]
abbrev plE :El Pc:=⟨66,7,λp=>[.int .i64 p.id,.int .i64 p.x,.int .i64 p.y,.string p.cls,.string p.nm,.int .i64 p.wt,.int .i64 p.ds]⟩
theorem a4f :plE.Ok:=⟨λ_=>rfl,jM,λx u hu=>by
 simp at hu;rcases hu with rfl|rfl|rfl|rfl|rfl|rfl|rfl <;> rfl⟩
theorem d5b :plE.In prog 35:=El.in_of (z:= .agg #[.int .i64 0,.int .i64 0,.int .i64 0,.string ⟨#[]⟩,.string ⟨#[]⟩,.int .i64 0,.int .i64 0]) (s:=7) (bytes:=72) underlying35 zM rfl oM rfl
structure PcOk (p:Pc):Prop where
 id:fits p.id
 x:fits p.x
 y:fits p.y
 wt:fits p.wt
 nm:p.nm.size<=1000
def Frm (v:Value)(n:Nat):Prop:=v= .slice none 0 0\/∃b off cap,v= .slice (some ⟨b,off,none⟩) n cap
theorem Lst.flat {α:Type}{E:El α}{n₀:Nat}{W:World}{l:List α}{b off cap:Nat}(hE:E.Ok)(h:Lst E n₀ W (.slice (some ⟨b,off,none⟩) l.length cap) l):∀j u,(l.flatMap E.enc)[j]? =some u->W.cell? ⟨b,off+j,none⟩=some u:=by
 intro j u hj;have hlt:=(List.getElem?_eq_some_iff.1 hj).1;rw[a0v hE]at hlt;have hs:=hE.pos;have hq:j / E.s<l.length:=(Nat.div_lt_iff_lt_mul hs).2 hlt;have hr:j % E.s<E.s:=Nat.mod_lt _ hs;obtain⟨b',off',cap',e,-,-,hc⟩:=h.some_ (Nat.lt_of_le_of_lt (Nat.zero_le _) hq);simp only[Value.slice.injEq,Option.some.injEq,Addr.mk.injEq]at e;obtain⟨⟨rfl,rfl,-⟩,-,-⟩:=e;have h1:=hc _ hq _ hr;have h2:=a9b hE l (j / E.s) (j % E.s) hq hr;have e1:j / E.s*E.s+j % E.s=j:=by rw[Nat.mul_comm];exact Nat.div_add_mod j E.s
 rw[Nat.add_assoc,e1,<-h2,e1,hj]at h1;exact h1
theorem a4g {α:Type}{E:El α}(hE:E.Ok)(l:List α):∀u∈l.flatMap E.enc,u.oneCell'=true:=by
 intro u hu;obtain⟨x,-,h⟩:=List.mem_flatMap.1 hu;exact hE.one x u h
theorem c0v (v:Value)(l:List Pc)(w:World)(h:Lst plE w.heap.size w v l)(hf:Frm v l.length)(hl:l.length<=100000) :
 Calls prog 101 #[v] w λe w'=>∃u,e= .returned u/\w'.ownsRow w.heap.size 66 7 u l.length (l.flatMap plE.enc)/\Below w.heap.size w w':=by
 rcases hf with rfl|⟨b,off,cap,rfl⟩
 ·obtain⟨a,cap,e,-⟩:=h.form
  simp only[Value.slice.injEq]at e;obtain⟨-,e,-⟩:=e;obtain rfl:=List.eq_nil_of_length_eq_zero e.symm;refine(AnyE.slices_Clone_nil Tryz.clonePl 0 0 w).mono ?_;exact yju
 ·obtain⟨i0,hi0,hz0,hz1,hz2⟩:=info_parts (P:=prog) (e:=66) (z:= .agg #[.int .i64 0,.int .i64 0,.int .i64 0,.string ⟨#[]⟩,.string ⟨#[]⟩,.int .i64 0,.int .i64 0]) (size:=7) (bytes:=72) zM
  refine(AnyE.slices_Clone Tryz.clonePl i0 _ 7 72 hi0 hz0 hz1 hz2 qM oM sizeOf66 b off l.length cap (l.flatMap plE.enc) w (a0v a4f l) oK oM (h.flat a4f) (a4g a4f l)).mono ?_;rintro e w'⟨u,rfl,hr,-,hb⟩;exact⟨u,rfl,hr,hb⟩
end
end Go.Proofs.YtfocdbjceedagaaGreatDoor
