/-
  Parts.
-/
import Derived.Test.YtfocdbjceedagaaGreatDoorChecked
import Derived.Test.YtfocdbjceedagaaGreatDoorCaa
import Derived.Test.YtfocdbjceedagaaGreatDoorCac
import Derived.Test.YtfocdbjceedagaaGreatDoorCad
import Derived.Shelf.Slices.Turned
import Derived.Ground.Names2Prog
import Derived.Shelf.Slices.SearchI
import Derived.Shelf.Abstract
import Derived.Shelf.SlicesQ.Index
import Derived.Shelf.GgSortFunc.RowK
import Derived.Shelf.SlSortCmp.InsertionK
import Derived.Shelf.AbstractIn
import Derived.Shelf.SlSortCmp.QuietGrown
set_option linter.unusedVariables false
set_option linter.unusedSimpArgs false
set_option maxHeartbeats 4000000
set_option maxRecDepth 100000
namespace Go
section
open Go.RowKit Go.ChangeShapes Go.WideShapes Go.ChangeAt
section
variable {H:Type}{enc:TypeId×Value->H}{P:Program}
theorem a8o (hl:laidOutB P=true){W W':Wd}(hb:Below W.heap.size W W'):∀ {ts:List TypeId} {vs:List Value} {ds:List (DataW H)} {ps:List MemPlace},
 (ts.all λt=>P.readableRec t&&decide (t<P.types.size))=true->(∀x∈ps,x.block<W.heap.size) ->
 DataW.TrodAll enc P W 0 (λ_=>true) true ts vs ds ps->DataW.TrodAll enc P W' 0 (λb=>decide (b<W.heap.size)) true ts vs ds ps
 |[],[],[],_,_,_,h=>h
 |[],_::_,_,_,_,_,h=>h.elim
 |[],[],_::_,_,_,_,h=>h.elim
 |_::_,[],_,_,_,_,h=>h.elim
 |_::_,_::_,[],_,_,_,h=>h.elim
 |t::ts,v::vs,d::ds,ps,hr,ag,h=>by
  obtain⟨p,q,h1,h2,rfl⟩:=h;simp only[List.all_cons,Bool.and_eq_true,decide_eq_true_eq]at hr;exact⟨p,q,Below.trod hl hr.1.1 hr.1.2 h1 hb (λx hx=>ag x (List.mem_append.2 (.inl hx))),
   a8o hl hb hr.2 (λx hx=>ag x (List.mem_append.2 (.inr hx))) h2,rfl⟩
theorem d3o {f:Func}{s:ChangeSpec}{W W':Wd}{args:Array Value}{ds:List (DataW H)}{before:List MemPlace}{T:Td}
 (hl:laidOutB P=true) (hr:(f.params.toList.all λt=>P.readableRec t&&decide (t<P.types.size))=true) (hv:s.vars=[])
 (hT:f.resultTypes= #[T]) (oq:P.underlying T=some .bool)
 (hs:s.fn H (ds++[])={ results:=[.lit (.bool true)],args:=ds })
 (hW:DataW.Whole enc P f.params.toList s.vars false W args.toList ds [] before)
 (hb:Below W.heap.size W W'):s.post enc P f false true false false W args (.bool true) W':=by
 have ag:=λx hx=>hW.lt x hx
 have bV:=hW;obtain⟨p,q,hA,hV,rfl,hz,hn⟩:=hW;rw[hv]at hV;obtain⟨-,rfl⟩:=trodVars_none hV;refine⟨ds,[],p++[],[],p,[],bV,?_,?_,?_,hb.frame _,λh=>by cases h⟩
 ·rw[hs,hT]
  exact trodAll_cons_mk (shut_bool oq true) trodAll_mk0
 ·rw[hs]
  exact a8o hl hb hr (λx hx=>ag x (by simpa using hx)) hA
 ·rw[hs,hv]
  exact rfl
theorem a6k {w:Wd}{b:Nat}{sp:Nat->Bool}{hd:Bool}:∀ {ts:List TypeId} {vs:List Value} {ds:List (DataW H)} {ps:List MemPlace},
 DataW.TrodAll enc P w b sp hd ts vs ds ps->vs.length=ts.length/\ds.length=ts.length
 |[],[],[],_,_=>⟨rfl,rfl⟩
 |[],_::_,_,_,h=>h.elim
 |[],[],_::_,_,h=>h.elim
 |_::_,[],_,_,h=>h.elim
 |_::_,_::_,[],_,h=>h.elim
 |_::_,_::_,_::_,_,h=>by
  obtain⟨p,q,h1,h2,rfl⟩:=h;have:=a6k h2;simp[this.1,this.2]
theorem c8w {k:FuncId}{f:Func}{s:ChangeSpec}{W:Wd}{args:Array Value}{ds gs:List (DataW H)}{before:List MemPlace}(T:Td)
 (hl:laidOutB P=true) (hr:(f.params.toList.all λt=>P.readableRec t&&decide (t<P.types.size))=true) (hv:s.vars=[])
 (hT:f.resultTypes= #[T]) (oq:P.underlying T=some .bool)
 (hs:∀ds:List (DataW H),ds.length=f.params.toList.length->s.fn H (ds++[])={ results:=[.lit (.bool true)],args:=ds })
 (hW:DataW.Whole enc P f.params.toList s.vars false W args.toList ds gs before)
 (Ch:args.toList.length=f.params.toList.length->DataW.Whole enc P f.params.toList [] false W args.toList ds [] before->Calls P k args W λe W'=>e= .returned (.bool true)/\Below W.heap.size W W') :
 Calls P k args W λe W'=>∃v,e= .returned v/\s.post enc P f false true false false W args v W':=by
 have bV:=hW;obtain⟨p,q,hA,hV,hb,hz,hn⟩:=bV;rw[hv]at hV;obtain⟨rfl,-⟩:=trodVars_none hV;obtain⟨l1,l2⟩:=a6k hA;have ez:=hW;rw[hv]at ez;exact(Ch l1 ez).mono λe W' ⟨he,bU⟩=>⟨_,he,d3o hl hr hv hT oq (hs ds l2) hW bU⟩
/-! ### what came in by value: ints,and rows of ints -/
variable {w:Wd}{r:Reach}{base:Nat}{t:Td}{v:Vu}{k:IntKind}
end
end
section
open Go.RowKit
section
variable {P:Program}{ops:Array Oper}
theorem Act.eval_put_same {a:Act}{d:Nat}{v:Vu}(h:d<a.tmps.size):(a.put (some d) v).eval (.tmp d)=v:=by
 simp[Act.put,Act.eval,h]
theorem Act.put_size {a:Act}{d:Option Tmp}{v:Vu}:(a.put d v).tmps.size=a.tmps.size:=by
 cases d <;> simp[Act.put]
theorem Act.put_defers' {a:Act}{d:Option Tmp}{v:Vu}:(a.put d v).defers=a.defers:=by
 cases d <;> rfl
structure Agree (ops:Array Oper)(n:Nat)(a b:Act):Prop where
 defers:b.defers=a.defers
 size:b.tmps.size=a.tmps.size
 same:∀k,(∀i o,i<n->ops[i]? =some o->o.dst≠some k)->b.eval (.tmp k)=a.eval (.tmp k)
theorem Agree.refl (ops:Array Oper)(n:Nat)(a:Act):Agree ops n a a:=⟨rfl,rfl,λ_ _=>rfl⟩
def b8o (ops:Array Oper)(F:Nat->Value->World->Prop)(i:Nat)(b:Act)(w:Wd):Prop:=∀o d,ops[i]? =some o->o.dst=some d->F i (b.eval (.tmp d)) w
def Region.headGB (ops:Array Oper)(n sz i:Nat):Bool :=
 match ops[i]? with
 |none=>false
 |some o=>(match o.dst with|none=>false|some d=>decide (d<sz))&&o.after.all (λe=> !Region.binds .any e||decide (e.on<i)) &&
  (List.range n).all (λj=>j==i||(match ops[j]? with|none=>true|some o'=>o.dst != o'.dst))
def Region.relGB (ops:Array Oper)(n sz:Nat):Bool :=
 (decide (n=ops.size)||(decide (n<ops.size)&&Region.sinkB .any ops n&&Region.chainB .any ops n))&&(List.range n).all (Region.headGB ops n sz) &&
 Region.seqB .any ops (ops.size-n) n (Array.replicate n true++Array.replicate (ops.size-n) false)
def Region.relB (ops:Array Oper)(n sz:Nat):Bool:=Region.relGB ops n sz&&(List.range n).all λi=>match ops[i]? with|some o=>o.guard.isNone|none=>true
theorem Region.relB_guard {ops:Array Oper}{n sz:Nat}(h:Region.relB ops n sz=true):Region.relGB ops n sz=true/\∀i o,i<n->ops[i]? =some o->o.guard=none:=by
 unfold Region.relB at h;rw[Bool.and_eq_true]at h;refine⟨h.1,λi o hi ho=> ?_⟩;have h2:=List.all_eq_true.1 h.2 i (List.mem_range.2 hi);rw[ho]at h2;simpa using h2
structure HeadOkG (ops:Array Oper)(n sz i:Nat)(o:Oper)(d:Nat):Prop where
 op:ops[i]? =some o
 dst:o.dst=some d
 lt:d<sz
 after:∀e∈o.after,Region.binds .any e=true->e.on<i
 other:∀j o',j<n->j≠i->ops[j]? =some o'->o'.dst≠some d
theorem Region.headGB_spec {ops:Array Oper}{n sz i:Nat}(h:Region.headGB ops n sz i=true):∃o d,HeadOkG ops n sz i o d:=by
 unfold Region.headGB at h
 cases ho:ops[i]? with
 |none=>rw[ho]at h;cases h
 |some o =>
  rw[ho]at h;simp only[Bool.and_eq_true]at h;obtain⟨⟨h2,h3⟩,h4⟩:=h
  cases hd:o.dst with
  |none=>rw[hd]at h2;cases h2
  |some d =>
   rw[hd]at h2 h4;simp only[decide_eq_true_eq]at h2;refine⟨o,d,ho,hd,h2,λe he hb=> ?_,λj o' hj av lW e=> ?_⟩
   ·obtain⟨k,hk,rfl⟩:=Array.getElem_of_mem he
    have:=(Array.all_eq_true.1 h3) k hk;simpa[hb]using this
   ·have:=List.all_eq_true.1 h4 j (List.mem_range.2 hj)
    rw[lW]at this;simp[av,e]at this
theorem c6l {n:Nat}{s:Array Bool}{sz:Nat}(hh:∀i,i<n->∃o d,HeadOkG ops n sz i o d)(inv:HeadInv .any ops n s):∀k i,i<k->i<n->s.getD i false=false->Region.ready .any ops s≠[]:=by
 intro k;induction k with
 |zero=>intro i h;omega
 |succ k ih =>
  intro i wZ bP hf;obtain⟨o,d,ho⟩:=hh i bP;by_cases ah:∀e∈o.after,Region.binds .any e=true->s.getD e.on false=true
  ·have ag:i<s.size:=by rw[inv.size];exact(Array.getElem?_eq_some_iff.1 ho.op).1
   exact List.ne_nil_of_mem (mem_ready.2 ⟨getD_in ag hf,o,ho.op,ah⟩)
  ·obtain⟨e,he⟩:=Classical.not_forall.1 ah
   simp only[Classical.not_imp]at he;obtain⟨h1,h2,h3⟩:=he;have h4:=ho.after e h1 h2;exact ih e.on oM oM (by simpa using h3)
def b4n {Γ:Type}(ops:Array Oper)(F:Nat->Value->Γ->World->Prop)(i:Nat)(b:Act)(g:Γ)(w:Wd):Prop:=∀o d,ops[i]? =some o->o.dst=some d->F i (b.eval (.tmp d)) g w
theorem a0f {Γ:Type}{F:Nat->Value->Γ->World->Prop}{o:Oper}{b:Act}{g:Γ}{w:Wd}(h:∀e∈o.after,Region.binds .any e=true->b4n ops F e.on b g w)(j d:Nat){oj:Oper}
 (h1:(o.after.any λe=>Region.binds .any e&&e.on==j)=true) (h2:ops[j]? =some oj) (h3:oj.dst=some d):F j (b.eval (.tmp d)) g w:=by
 exact ygo
def c1q (s:Array Bool):Nat->Nat
 |0=>0
 |n+1=>c1q s n+(if s.getD n false then 1 else 0)
theorem c8x (s:Array Bool):∀n,c1q s n<=n
 |0=>yR _
 |n+1=>by unfold c1q;have:=c8x s n;split <;> omega
theorem c4w {s:Array Bool}:∀ {n},c1q s n=n->∀i,i<n->s.getD i false=true
 |0,_,i,h=>by omega
 |n+1,h,i,hi=>by
  unfold c1q at h;have h1:=c8x s n;split at h
  ·rename_i hs
   by_cases e:i=n
   ·subst e;exact hs
   ·exact c4w (n:=n) oM i oM
  ·omega
theorem b8p {s:Array Bool}:∀ {n},c1q s n<n->∃i,i<n/\s.getD i false=false
 |0,h=>by omega
 |n+1,h=>by
  unfold c1q at h
  cases hs:s.getD n false with
  |false=>exact⟨n,oM,hs⟩
  |true =>
   simp only[hs,if_true]at h;obtain⟨i,h1,h2⟩:=b8p (s:=s) (n:=n) oM;exact⟨i,oM,h2⟩
theorem b4y {s:Array Bool}{i:Nat}:∀ {n},n<=i->c1q (s.setIfInBounds i true) n=c1q s n
 |0,_=>rfl
 |n+1,h=>by
  unfold c1q;rw[b4y (n:=n) oM,getD_set_ne false oM]
theorem c4x {s:Array Bool}{i:Nat}(hs:i<s.size)(hf:s.getD i false=false):∀ {n},i<n->c1q (s.setIfInBounds i true) n=c1q s n+1
 |0,h=>by omega
 |n+1,h=>by
  unfold c1q;by_cases e:i=n
  ·subst e
   have h1:(s.setIfInBounds i true).getD i false=true:=by simp[hs]
   rw[b4y (yR _),h1,hf];simp
  ·rw[c4x hs hf (n:=n) oM,getD_set_ne false e]
   omega
theorem b8q {m:Nat}:∀n,c1q (Array.replicate m false) n=0
 |0=>rfl
 |n+1=>by
  unfold c1q;rw[b8q n,getD_replicate_false];rfl
theorem c8y {n:Nat}{s:Array Bool}(inv:HeadInv .any ops n s)(j k:Nat){oj:Oper}(h1:ops[j]? =some oj)(hl:s.getD j false=true)(h2:(oj.after.any λe=>Region.binds .any e&&e.on==k)=true):s.getD k false=true:=by
 obtain⟨i,hi,h4⟩:=Array.any_eq_true.1 h2;simp only[Bool.and_eq_true,beq_iff_eq]at h4;have:=inv.closed j oj h1 hl oj.after[i] (Array.getElem_mem hi) h4.1;rw[h4.2]at this;exact this
theorem c8z {Q:Exit->Act->World->Prop}{a:Act}{l:List Oper}{n:Nat}(hn:n=l.toArray.size\/n<l.toArray.size/\Region.sinkB .any l.toArray n=true/\Region.chainB .any l.toArray n=true)
 (hh:∀i,i<n->∃o d,HeadOkG l.toArray n a.tmps.size i o d) (bN:Region.seqB .any l.toArray (l.toArray.size-n) n (Array.replicate n true++Array.replicate (l.toArray.size-n) false)=true)
 {Γ:Type} (I:Array Bool->Nat->Γ->World->Prop) (G:Γ->World->Γ->World->Prop) (F:Nat->Value->Γ->World->Prop) (hF:∀i v g w g' w',F i v g w->G g w g' w'->F i v g' w')
 (aS:∀i o,i<n->l.toArray[i]? =some o->∀s c b g w',c<n->HeadInv .any l.toArray n s->s.getD i false=false->(∀e∈o.after,Region.binds .any e=true->s.getD e.on false=true)->I s c g w'->Agree l.toArray n a b->(∀e∈o.after,Region.binds .any e=true->b4n l.toArray F e.on b g w') ->
  ∀K:Act->World->Prop,(∀v g' cq,F i v g' cq->G g w' g' cq->I (s.setIfInBounds i true) (c+1) g' cq->K (b.put o.dst v) cq)->if Region.wanted o (yielded l.toArray b.tmps)then Oper.wp P o b w' K Q else K (b.put o.dst undef) w')
 (ej:∀b s g w',(∀i,i<n->s.getD i false=true)->I s n g w'->Agree l.toArray n a b->(∀i,i<n->b4n l.toArray F i b g w')->wpList P l.toArray Q (l.drop n) b w') :
 ∀(f c:Nat) (s:Array Bool) (b:Act) (g:Γ) (w':Wd),c+f=n->c1q s n=c->HeadInv .any l.toArray n s->I s c g w'->Agree l.toArray n a b->(∀j,j<n->s.getD j false=true->b4n l.toArray F j b g w') ->
  wpAny P .any l.toArray Q (f+(l.toArray.size-n)) s b w':=by
 have iO:n<=l.toArray.size:=by rcases hn with h|⟨h,-⟩ <;> omega
 intro f;induction f with
 |zero =>
  intro c s b g w' Ca xb inv hI hA hL;obtain rfl:c=n:=oM;have ah:=c4w xb;have dm:s=Array.replicate c true++Array.replicate (l.toArray.size-c) false:=by
   apply Array.ext
   ·rw[inv.size];simp;simp at iO;omega
   ·intro i h1 h2
    by_cases hi:i<c
    ·have:=ah i hi
     rw[Array.getElem_append_left (by simpa using hi)];simpa[Array.getD,h1]using this
    ·have:=inv.tail i oM (by rw[<-inv.size];exact h1)
     rw[Array.getElem_append_right uM];simpa[Array.getD,h1]using this
  have ht:=ej b s g w' ah hI hA (λi hi=>hL i hi (ah i hi));rw[Nat.zero_add,dm];have h:=wpAny_of_seq (P:=P) (md:= .any) (Q':=Q) (ops:=l.toArray) (l.drop c) c (Array.replicate c true++Array.replicate (l.toArray.size-c) false) b w' (λj=>by simp[List.getElem?_drop])
   (by rw[List.length_drop,show l.length=l.toArray.size from by simp];exact bN) ht
  rw[List.length_drop,show l.length=l.toArray.size from by simp]at h;exact h
 |succ f ih =>
  intro c s b g w' Ca xb inv hI hA hL;obtain⟨i0,aT,rX⟩:=b8p (s:=s) (n:=n) oM;have av:=c6l hh inv (i0+1) i0 oM aT rX;rw[show f+1+(l.toArray.size-n)=f+(l.toArray.size-n)+1 from by omega];refine⟨λh=>absurd h av,λi hi=> ?_⟩;have G3:i0<s.size:=by rw[inv.size];omega
  obtain⟨qb,oi,An,lY⟩:=mem_ready.1 hi;have bP:i<n:=by
   rcases hn with h|⟨h,hs,hc⟩
   ·rw[h];exact(Array.getElem?_eq_some_iff.1 An).1
   ·exact b2c hs hc h inv aT (getD_in G3 rX) i hi
  obtain⟨o,d,ho⟩:=hh i bP;obtain rfl:oi=o:=Option.some.inj (An.symm.trans ho.op);have ag:i<s.size:=by rw[inv.size];omega
  have hd:d<b.tmps.size:=by rw[hA.size];exact ho.lt
  unfold wpOp;simp only[An];have au:=aS i oi bP An s c b g w' oM inv (getD_both qb) lY hI hA (λe he hb=>hL e.on (by have:=ho.after e he hb;omega) (lY e he hb)) (wpAny P .any l.toArray Q (f+(l.toArray.size-n)) (s.setIfInBounds i true)) ?_
  ·split at au
   ·rename_i Ci
    rw[if_pos Ci];exact .inl au
   ·rename_i Ci
    rw[if_neg Ci];exact au
  intro v g' cq h1 h2 h3;rw[ho.dst];have Cj:∀k,k≠d->(b.put (some d) v).eval (.tmp k)=b.eval (.tmp k):=λk hk=>Act.eval_put (λd' e=>by cases e;intro e2;cases e2;exact hk rfl)
  refine ih (c+1) _ _ _ _ oM ?_ (inv.set hi bP) h3 ⟨by rw[Act.put_defers',hA.defers],by rw[Act.put_size,hA.size],λk hk=> ?_⟩ ?_
  ·rw[c4x ag (getD_both qb) bP,xb]
  ·rw[Cj k (λe=>hk i oi bP An (by rw[ho.dst,e]))]
   exact hA.same k hk
  ·intro j hj pq o' d' lW G4
   by_cases ja:j=i
   ·subst ja
    obtain rfl:o'=oi:=Option.some.inj (lW.symm.trans An);obtain rfl:d'=d:=Option.some.inj (G4.symm.trans ho.dst);rw[Act.eval_put_same hd];exact h1
   ·have G5:d'≠d:=λe=>ho.other j o' hj ja lW (by rw[G4,e])
    rw[Cj d' G5];rw[getD_set_ne false (λe=>ja e.symm)]at pq;exact hF j _ _ _ _ _ (hL j hj pq o' d' lW G4) h2
theorem a8p {id:Nat}{Q:Exit->Act->World->Prop}{a:Act}{w:Wd}{l:List Oper}(n:Nat)(hm:P.follows .mixedOrders=true)(hB:Region.relGB l.toArray n a.tmps.size=true)
 {Γ:Type} (I:Array Bool->Nat->Γ->World->Prop) (G:Γ->World->Γ->World->Prop) (F:Nat->Value->Γ->World->Prop) (hF:∀i v g w g' w',F i v g w->G g w g' w'->F i v g' w') (g0:Γ) (h0:I (Array.replicate l.toArray.size false) 0 g0 w.drew)
 (aS:∀i o,i<n->l.toArray[i]? =some o->∀s c b g w',c<n->HeadInv .any l.toArray n s->s.getD i false=false->(∀e∈o.after,Region.binds .any e=true->s.getD e.on false=true)->I s c g w'->Agree l.toArray n a b->(∀e∈o.after,Region.binds .any e=true->b4n l.toArray F e.on b g w') ->
  ∀K:Act->World->Prop,(∀v g' cq,F i v g' cq->G g w' g' cq->I (s.setIfInBounds i true) (c+1) g' cq->K (b.put o.dst v) cq)->if Region.wanted o (yielded l.toArray b.tmps)then Oper.wp P o b w' K Q else K (b.put o.dst undef) w')
 (ej:∀b s g w',(∀i,i<n->s.getD i false=true)->I s n g w'->Agree l.toArray n a b->(∀i,i<n->b4n l.toArray F i b g w')->wpList P l.toArray Q (l.drop n) b w') :
 (Code.region id l.toArray true).wp P Q a w:=by
 simp only[Region.relGB,Bool.and_eq_true,Bool.or_eq_true,decide_eq_true_eq]at hB;obtain⟨⟨hn,hh⟩,bN⟩:=hB;have wV:n=l.toArray.size\/n<l.toArray.size/\Region.sinkB .any l.toArray n=true/\Region.chainB .any l.toArray n=true:=hn.imp (λh=>h) λ⟨⟨h1,h2⟩,h3⟩=>⟨h1,h2,h3⟩
 have Oe:∀i,i<n->∃o d,HeadOkG l.toArray n a.tmps.size i o d:=λi hi=>Region.headGB_spec (List.all_eq_true.1 hh i (List.mem_range.2 hi))
 have wW:HeadInv .any l.toArray n (Array.replicate l.toArray.size false) :=
  ⟨by simp,λj oj _ hl=>(by rw[getD_replicate_false]at hl;cases hl),λt _ ht=>getD_in (by simpa using ht) (getD_replicate_false _ _)⟩
 refine wp_region_any hm ?_;have h:=c8z (P:=P) (Q:=Q) (a:=a) wV Oe bN I G F hF aS ej n 0 _ a g0 w.drew oM (b8q n) wW h0 (Agree.refl _ _ _) (λj hj hl=>by rw[getD_replicate_false]at hl;cases hl);rw[show n+(l.toArray.size-n)=l.toArray.size from by rcases wV with h|⟨h,-⟩ <;> omega]at h;exact h
theorem wp_region_reln {id:Nat}{Q:Exit->Act->World->Prop}{a:Act}{w:Wd}{l:List Oper}(n:Nat)(hm:P.follows .mixedOrders=true)(hB:Region.relGB l.toArray n a.tmps.size=true)
 {Γ:Type} (I:Nat->Γ->World->Prop) (G:Γ->World->Γ->World->Prop) (F:Nat->Value->Γ->World->Prop) (hF:∀i v g w g' w',F i v g w->G g w g' w'->F i v g' w') (g0:Γ) (h0:I 0 g0 w.drew)
 (aS:∀i o,i<n->l.toArray[i]? =some o->∀c b g w',c<n->I c g w'->Agree l.toArray n a b->(∀e∈o.after,Region.binds .any e=true->b4n l.toArray F e.on b g w') ->
  ∀K:Act->World->Prop,(∀v g' cq,F i v g' cq->G g w' g' cq->I (c+1) g' cq->K (b.put o.dst v) cq)->if Region.wanted o (yielded l.toArray b.tmps)then Oper.wp P o b w' K Q else K (b.put o.dst undef) w')
 (ej:∀b g w',I n g w'->Agree l.toArray n a b->(∀i,i<n->b4n l.toArray F i b g w')->wpList P l.toArray Q (l.drop n) b w') :
 (Code.region id l.toArray true).wp P Q a w:=by
 exact a8p n hm hB (λ_=>I) G F hF g0 h0 (λi o hi ho _ c b g w' hc _ _ _ hI hA hL K hK=>aS i o hi ho c b g w' hc hI hA hL K hK) (λb _ g w' _ hI hA hL=>ej b g w' hI hA hL)
theorem wp_region_relg {id:Nat}{Q:Exit->Act->World->Prop}{a:Act}{w:Wd}{l:List Oper}(n:Nat)(hm:P.follows .mixedOrders=true)(hB:Region.relGB l.toArray n a.tmps.size=true)
 (I:Nat->World->Prop) (G:World->World->Prop) (F:Nat->Value->World->Prop) (hF:∀i v w w',F i v w->G w w'->F i v w') (h0:I 0 w.drew)
 (aS:∀i o,i<n->l.toArray[i]? =some o->∀c b w',c<n->I c w'->Agree l.toArray n a b->(∀e∈o.after,Region.binds .any e=true->b8o l.toArray F e.on b w') ->
  ∀K:Act->World->Prop,(∀v cq,F i v cq->G w' cq->I (c+1) cq->K (b.put o.dst v) cq)->if Region.wanted o (yielded l.toArray b.tmps)then Oper.wp P o b w' K Q else K (b.put o.dst undef) w')
 (ej:∀b w',I n w'->Agree l.toArray n a b->(∀i,i<n->b8o l.toArray F i b w')->wpList P l.toArray Q (l.drop n) b w') :
 (Code.region id l.toArray true).wp P Q a w:=by
 exact wp_region_reln n hm hB (Γ:=Unit) (λc _=>I c) (λ_ w _ w'=>G w w') (λi v _ w=>F i v w) (λi v _ w _ w'=>hF i v w w') () h0 (λi o hi ho c b _ w' hc hI hA hL K hK=>aS i o hi ho c b w' hc hI hA hL K λv cq h1 h2 h3=>hK v () cq h1 h2 h3) (λb _ w' hI hA hL=>ej b w' hI hA hL)
theorem wp_region_rel {id:Nat}{Q:Exit->Act->World->Prop}{a:Act}{w:Wd}{l:List Oper}(n:Nat)(hm:P.follows .mixedOrders=true)(hB:Region.relB l.toArray n a.tmps.size=true)
 (I:Nat->World->Prop) (G:World->World->Prop) (F:Nat->Value->World->Prop) (hF:∀i v w w',F i v w->G w w'->F i v w') (h0:I 0 w.drew)
 (aS:∀i o,i<n->l.toArray[i]? =some o->∀c b w',c<n->I c w'->Agree l.toArray n a b->(∀e∈o.after,Region.binds .any e=true->b8o l.toArray F e.on b w') ->
  ∀K:Act->World->Prop,(∀v cq,F i v cq->G w' cq->I (c+1) cq->K (b.put o.dst v) cq)->Oper.wp P o b w' K Q)
 (ej:∀b w',I n w'->Agree l.toArray n a b->(∀i,i<n->b8o l.toArray F i b w')->wpList P l.toArray Q (l.drop n) b w') :
 (Code.region id l.toArray true).wp P Q a w:=by
 obtain⟨h1,h2⟩:=Region.relB_guard hB;exact wp_region_relg n hm h1 I G F hF h0 (λi o hi ho c b w' hc hI hA hL K hK=>by rw[if_pos (by simp[Region.wanted,h2 i o hi ho])];exact aS i o hi ho c b w' hc hI hA hL K hK) ej
theorem wp_region_set {id:Nat}{Q:Exit->Act->World->Prop}{a:Act}{w:Wd}{l:List Oper}(n:Nat)(hm:P.follows .mixedOrders=true)(hB:Region.relB l.toArray n a.tmps.size=true)
 {Γ:Type} (st:Array Bool->Γ) (I:Γ->World->Prop) (G:Γ->World->Γ->World->Prop) (F:Nat->Value->Γ->World->Prop) (hF:∀i v g w g' w',F i v g w->G g w g' w'->F i v g' w') (h0:I (st (Array.replicate l.toArray.size false)) w.drew)
 (aS:∀i o,i<n->l.toArray[i]? =some o->∀(s:Array Bool) b w',HeadInv .any l.toArray n s->s.getD i false=false->(∀e∈o.after,Region.binds .any e=true->s.getD e.on false=true)->I (st s) w'->Agree l.toArray n a b->(∀e∈o.after,Region.binds .any e=true->b4n l.toArray F e.on b (st s) w') ->
  ∀K:Act->World->Prop,(∀v g' cq,F i v g' cq->G (st s) w' g' cq->I g' cq->g'=st (s.setIfInBounds i true)->K (b.put o.dst v) cq)->Oper.wp P o b w' K Q)
 (ej:∀b (s:Array Bool) w',(∀i,i<n->s.getD i false=true)->I (st s) w'->Agree l.toArray n a b->(∀i,i<n->b4n l.toArray F i b (st s) w')->wpList P l.toArray Q (l.drop n) b w') :
 (Code.region id l.toArray true).wp P Q a w:=by
 obtain⟨h1,h2⟩:=Region.relB_guard hB;exact a8p n hm h1 (λs _ g w=>g=st s/\I g w) G F hF _ ⟨rfl,h0⟩ (λi o hi ho s c b g w' hc inv hf lY hI hA hL K hK=>by
  obtain⟨rfl,hI⟩:=hI;rw[if_pos (by simp[Region.wanted,h2 i o hi ho])];exact aS i o hi ho s b w' inv hf lY hI hA hL K λv g' cq h1 h2 h3 h4=>hK v g' cq h1 h2 ⟨h4,h3⟩) (λb s g w' ah hI hA hL=>by
  obtain⟨rfl,hI⟩:=hI;exact ej b s w' ah hI hA hL)
def Region.notDst (ops:Array Oper)(n k:Nat):Bool:=(List.range n).all λi=>match ops[i]? with|some o=>o.dst != some k|none=>true
theorem Agree.at_ {n k:Nat}{a b:Act}(h:Agree ops n a b)(hk:Region.notDst ops n k=true):b.eval (.tmp k)=a.eval (.tmp k) :=
 h.same k λi o hi ho e=>by
  have:=List.all_eq_true.1 hk i (List.mem_range.2 hi);rw[ho]at this;simp[e]at this
theorem a0b {F:Nat->Value->World->Prop}{o:Oper}{b:Act}{w:Wd}(h:∀e∈o.after,Region.binds .any e=true->b8o ops F e.on b w)(j d:Nat){oj:Oper}
 (h1:(o.after.any λe=>Region.binds .any e&&e.on==j)=true) (h2:ops[j]? =some oj) (h3:oj.dst=some d):F j (b.eval (.tmp d)) w:=by
 exact ygo
end
abbrev T :Bool:=true
abbrev F :Bool:=false
def rT :Nat->List Bool->List Bool
 |0,l=>l
 |n+1,l=>true::rT n l
def rF :Nat->List Bool->List Bool
 |0,l=>l
 |n+1,l=>false::rF n l
def a2d :List Bool->List Value->(Nat->Value)->Nat->List Value
 |true::bs,x::xs,f,k=>x::a2d bs xs f (k+1)
 |false::bs,_::xs,f,k=>f k::a2d bs xs f (k+1)
 |_,_,_,_=>[]
theorem b2d :∀(bs:List Bool) (xs:List Value) (f:Nat->Value) (k j:Nat),bs.length=xs.length->(a2d bs xs f k)[j]? =(if j<xs.length then some (if bs.getD j false then xs.getD j undef else f (k+j))else none)
 |[],[],_,_,_,_=>by simp[a2d]
 |true::bs,x::xs,f,k,0,_=>by simp[a2d]
 |false::bs,x::xs,f,k,0,_=>by simp[a2d]
 |true::bs,x::xs,f,k,j+1,h=>by
  have ih:=b2d bs xs f (k+1) j (by simpa using h);rw[show a2d (true::bs) (x::xs) f k=x::a2d bs xs f (k+1)from rfl,List.getElem?_cons_succ,ih];simp[Nat.add_assoc,Nat.add_comm 1 j]
 |false::bs,x::xs,f,k,j+1,h=>by
  have ih:=b2d bs xs f (k+1) j (by simpa using h);rw[show a2d (false::bs) (x::xs) f k=f k::a2d bs xs f (k+1)from rfl,List.getElem?_cons_succ,ih];simp[Nat.add_assoc,Nat.add_comm 1 j]
theorem Agree.frame {ops:Array Oper}{n:Nat}{a b:Act}(h:Agree ops n a b)(bs:List Bool)(xs:List Value)(ha:a.tmps=xs.toArray)(hb:(List.range xs.length).map (Region.notDst ops n)=bs) :
 b=⟨(a2d bs xs (λk=>b.tmps.getD k undef) 0).toArray,a.defers⟩:=by
 have hl:bs.length=xs.length:=by rw[<-hb];simp
 have hs:=h.size;have hd:=h.defers;obtain⟨bt,bd⟩:=b;simp only at hs hd;subst hd;congr 1;apply Array.ext';apply List.ext_getElem?;intro j;rw[List.toList_toArray,b2d bs xs _ 0 j hl];have bu:bt.toList.length=xs.length:=by rw[ha]at hs;simpa using hs
 split
 ·rename_i hj
  have ot:j<bt.toList.length:=oM;rw[List.getElem?_eq_getElem ot];congr 1;split
  ·rename_i Lu
   have hn:Region.notDst ops n j=true:=by
    rw[<-hb,List.getD_eq_getElem?_getD,List.getElem?_map,List.getElem?_range oM]at Lu;simpa using Lu
   have:=h.at_ hn;simp only[Act.eval,ha]at this;have Ao:j<bt.size:=by simpa using ot
   simpa[Array.getD,Ao,hj,List.getD_eq_getElem?_getD]using this
  ·simp[Array.getD,show j<bt.size from by simpa using ot]
 ·rename_i hj
  rw[List.getElem?_eq_none oM]
end
end Go
namespace Go.Proofs.YtfocdbjceedagaaGreatDoor
open Tryz
section
open Go.RowKit Go.Shelf
def fits (n:Int):Prop := -9223372036854775808<=n/\n<=9223372036854775807
instance (n :Int):Decidable (fits n):=inferInstanceAs (Decidable (_/\_))
theorem a1c (x:Int):fits (wrap64 x):=by
 unfold fits wrap64;omega
theorem a2o (x:Int):fits (IntKind.i64.wrap x):=by
 unfold fits;exact ydm
theorem a0j {x:Int}(h0 : -9223372036854775808<=x)(h1:x<=9223372036854775807):IntKind.i64.wrap x=x:=by
 exact ydm
def Blk (W:Wd)(B:Nat)(c:Array Value)(t:Td):Prop:=W.heap[B]? =some (.cells c t (0,0))
theorem Blk.kept {W W':Wd}{B:Nat}{c:Array Value}{t:Td}{row:Option Nat}(h:Blk W B c t)(hg:W.grownBy W' row)(hr:row≠some B):Blk W' B c t:=by
 exact(hg.block B (Array.getElem?_eq_some_iff.1 h).1 (λe=>hr e.symm)).trans h
theorem Blk.new (W:Wd)(c:Array Value)(t:Td):Blk (W.alloc (.cells c t)) W.heap.size c t:=by unfold Blk World.alloc;simp
theorem Blk.alloc {W:Wd}{B:Nat}{c:Array Value}{t:Td}(h:Blk W B c t)(o:Obj):Blk (W.alloc o) B c t:=h.kept (World.grownBy_alloc W o none) vM
theorem Blk.lt {W:Wd}{B:Nat}{c:Array Value}{t:Td}(h:Blk W B c t):B<W.heap.size:=(Array.getElem?_eq_some_iff.1 h).1
theorem Blk.cell {W:Wd}{B:Nat}{c:Array Value}{t:Td}(h:Blk W B c t)(i:Nat):W.cell? ⟨B,i,none⟩=c[i]? :=a3h h i
theorem Blk.frozen {W:Wd}{B:Nat}{c:Array Value}{t:Td}(h:Blk W B c t)(i:Nat):W.frozen? ⟨B,i,none⟩=false:=by
 unfold World.frozen?;rw[show W.heap[B]? =_ from h];simp
theorem Blk.below {W W':Wd}{B n₀:Nat}{c:Array Value}{t:Td}(h:Blk W B c t)(hb:Below n₀ W W')(hB:B<n₀):Blk W' B c t:=(hb.block B hB).trans h
theorem Blk.set {W:Wd}{B:Nat}{c:Array Value}{t:Td}(h:Blk W B c t)(i:Nat)(v:Vu):Blk (W.setCell ⟨B,i,none⟩ v) B (c.setIfInBounds i v) t:=by
 unfold Blk at *;unfold World.setCell;simp[Array.getElem?_modify,h]
theorem Blk.other {W:Wd}{B B':Nat}{c:Array Value}{t:Td}(h:Blk W B c t)(av:B≠B')(i:Nat)(v:Vu):Blk (W.setCell ⟨B',i,none⟩ v) B c t:=by
 unfold Blk at *;rw[Below.heap_setCell _ _ _ _ (by simpa using av)];exact h
theorem Blk.grow {W:Wd}{B:Nat}{c:Array Value}{t:Td}(h:Blk W B c t)(p:Growth):Blk (W.growBy p) B c t:=h.kept (a0p W p) vM
theorem Blk.drew {W:Wd}{B:Nat}{c:Array Value}{t:Td}(h:Blk W B c t):Blk W.drew B c t:=h
theorem a0s {W W':Wd}{row:Option Nat}{base:Nat}{e:Td}{size:Nat}{v:Vu}{k:Nat}{xs:List Value}(h:W.ownsRow base e size v k xs)(hg:W.grownBy W' row)
 (ae:∀r,row=some r->∃o:Obj,W.heap[r]? =some o/\∀cur,o≠.cells cur e (0,0)):W'.ownsRow base e size v k xs:=by
 refine h.kept hg ?_;rcases h.2 with⟨rfl,_⟩|⟨g,cap,cur,rfl,_,ik,_⟩
 ·exact .inl rfl
 ·refine .inr λe'=> ?_
  obtain⟨o,ho,hw⟩:=ae g (by simpa[Value.ownBlock]using e'.symm);rw[ik]at ho;cases ho;exact hw cur rfl
theorem a0n {W:Wd}{base:Nat}{e t:Td}{size:Nat}{v:Vu}{k:Nat}{xs:List Value}(h:W.ownsRow base e size v k xs){B:Nat}{c:Array Value}(hb:Blk W B c t)(av:t≠e):v.ownBlock≠some B:=by
 intro hj;rcases h.2 with⟨rfl,_⟩|⟨g,cap,cur,rfl,_,ik,_⟩
 ·simp[Value.ownBlock]at hj
 ·have:g=B:=by simpa[Value.ownBlock]using hj
  subst this;rw[show W.heap[g]? =_ from hb]at ik
  cases ik;exact av rfl
structure El (α:Type) where
 t:TypeId
 s:Nat
 enc:α->List Value
structure El.Ok {α:Type}(E:El α):Prop where
 len:∀x,(E.enc x).length=E.s
 pos:0<E.s
 one:∀x,∀u∈E.enc x,u.oneCell'=true
def Lst {α:Type}(E:El α)(n₀:Nat)(W:Wd)(v:Vu)(l:List α):Prop :=
 ∃a cap,v= .slice a l.length cap/\l.length<=cap/\l.length<=1000000/\∀j,(h:j<l.length)->∃b off,a=some ⟨b,off,none⟩/\b<n₀/\∀i,i<E.s->W.cell? ⟨b,off+j*E.s+i,none⟩=(E.enc l[j])[i]?
section
variable {α:Type}{E:El α}{n₀ dQ:Nat}{W W':Wd}{v:Vu}{l:List α}
theorem Lst.nil (E:El α)(n₀:Nat)(W:Wd):Lst E n₀ W (.slice none 0 0) []:=⟨none,0,rfl,yR _,by simp,λj hj=>by simp at hj⟩
theorem Lst.below (h:Lst E n₀ W v l)(hb:Below n₀ W W'):Lst E n₀ W' v l:=by
 obtain⟨a,cap,e,h1,h2,h3⟩:=h;exact⟨a,cap,e,h1,h2,λj hj=>by
  obtain⟨b,off,e2,ag,hc⟩:=h3 j hj;exact⟨b,off,e2,ag,λi hi=>(hb.cell (p:=⟨b,off+j*E.s+i,none⟩) ag).trans (hc i hi)⟩⟩
theorem Lst.mono (h:Lst E n₀ W v l)(hn:n₀<=dQ):Lst E dQ W v l:=by
 obtain⟨a,cap,e,h1,h2,h3⟩:=h;exact⟨a,cap,e,h1,h2,λj hj=>by
  obtain⟨b,off,e2,ag,hc⟩:=h3 j hj;exact⟨b,off,e2,Nat.lt_of_lt_of_le ag hn,hc⟩⟩
theorem Lst.up (h:Lst E W.heap.size W v l)(hb:Below W.heap.size W W'):Lst E W'.heap.size W' v l:=(h.below hb).mono hb.size
theorem Lst.form (h:Lst E n₀ W v l):∃a cap,v= .slice a l.length cap/\l.length<=cap:=by
 obtain⟨a,cap,e,h1,-⟩:=h;exact⟨a,cap,e,h1⟩
theorem Lst.len (h:Lst E n₀ W v l):l.length<=1000000:=by
 obtain⟨a,cap,e,h1,h2,-⟩:=h;exact h2
theorem Lst.some_ (h:Lst E n₀ W v l)(hl:0<l.length):∃b off cap,v= .slice (some ⟨b,off,none⟩) l.length cap/\l.length<=cap/\b<n₀/\∀j,(h:j<l.length)->∀i,i<E.s->W.cell? ⟨b,off+j*E.s+i,none⟩=(E.enc l[j])[i]? :=by
 obtain⟨a,cap,rfl,h1,h2,h3⟩:=h;obtain⟨b,off,rfl,ag,-⟩:=h3 0 hl;refine⟨b,off,cap,rfl,h1,ag,λj hj i hi=> ?_⟩;obtain⟨b',fh,e,-,hc⟩:=h3 j hj
 cases e;exact hc i hi
theorem Lst.take {a:Option Addr}{cap:Nat}(h:Lst E n₀ W (.slice a l.length cap) l)(k:Nat)(hk:k<=l.length):Lst E n₀ W (.slice a k cap) (l.take k):=by
 obtain⟨a',aI,e,h1,h2,h3⟩:=h
 cases e;refine⟨a,cap,by rw[List.length_take,Nat.min_eq_left hk],by rw[List.length_take];omega,by rw[List.length_take];omega,λj hj=> ?_⟩;rw[List.length_take]at hj;rw[List.getElem_take];exact h3 j oM
theorem a9r (hE:E.Ok):∀(l:List α) (j i:Nat) (h:j<l.length),i<E.s->(l.flatMap E.enc)[j*E.s+i]? =(E.enc l[j])[i]?
 |[],j,i,h,_=>by simp at h
 |d::l,0,i,_,hi=>by
  rw[List.flatMap_cons,Nat.zero_mul,Nat.zero_add,List.getElem?_append_left (by rw[hE.len];exact hi)];rfl
 |d::l,j+1,i,h,hi=>by
  have ih:=a9r hE l j i (by simpa using h) hi;rw[List.flatMap_cons,List.getElem?_append_right (by rw[hE.len,Nat.add_mul];omega),hE.len,show(j+1)*E.s+i-E.s=j*E.s+i from by rw[Nat.add_mul];omega];exact ih
theorem a0w (hE:E.Ok)(l:List α):(l.flatMap E.enc).length=l.length*E.s:=by
 induction l with
 |nil=>simp
 |cons d l ih=>rw[List.flatMap_cons,List.length_append,ih,hE.len,List.length_cons,Nat.add_mul];omega
theorem a0d (hE:E.Ok){base:Nat}(h:W.ownsRow base E.t E.s v l.length (l.flatMap E.enc))(hl:l.length<=1000000):Lst E W.heap.size W v l:=by
 rcases h.2 with⟨rfl,h0⟩|⟨g,cap,cur,rfl,aD,ik,bY,-⟩
 ·obtain rfl:=List.eq_nil_of_length_eq_zero h0
  exact Lst.nil _ _ _
 ·refine⟨_,cap,rfl,bY,hl,λj hj=>⟨g,0,rfl,(Array.getElem?_eq_some_iff.1 ik).1,λi hi=> ?_⟩⟩
  have ag:j*E.s+i<l.length*E.s:=by
   have:(j+1)*E.s<=l.length*E.s:=Nat.mul_le_mul_right _ hj;rw[Nat.add_mul]at this;omega
  rw[Nat.zero_add,<-a9r hE l j i hj hi];exact h.cellAt _ ag
end
structure El.In {α:Type}(E:El α)(P:Program)(st:Td):Prop where
 under:P.underlying st=some (.slice E.t)
 info:∃i z,P.info? E.t=some i/\i.zero=some z/\i.size=E.s/\i.bytes<=1000/\z.cells.size=E.s
theorem El.in_of {α:Type}{E:El α}{P:Program}{st:Td}{s bytes:Nat}{z:Vu}(hu:P.underlying st=some (.slice E.t))(h:(P.info? E.t).map (λi=>(i.zero,i.size,i.bytes))=some (some z,s,bytes))(hs:s=E.s)(hb:bytes<=1000)(hz:z.cells.size=s):E.In P st:=by
 obtain⟨i,hi,h1,h2,h3⟩:=info_parts h;exact⟨hu,i,z,hi,h1,h2.trans hs,oM,oM⟩
section
variable {α:Type}{E:El α}{P:Program}{st:Td}{w:Wd}{l:List α}
theorem El.push (hE:E.Ok)(hI:E.In P st){ops:Array Oper}{rest:List Oper}{o:Oper}{a:Act}{Q:Exit->Act->World->Prop}(dI:o.guard=none)(sO xO:Operand)(ho:o.op= .call { callee:= .builtin .append,args:= #[sO,xO],argTypes:= #[st,st] })
 {base:Nat} {v:Vu} (hs:a.eval sO=v) (ae:w.ownsRow base E.t E.s v l.length (l.flatMap E.enc)) (x:α) {H:Nat} (hx:a.eval xO= .slice (some ⟨H,0,none⟩) 1 1) (hH:w.heap.size=H) (aD:base<=w.heap.size) (hl:l.length<=100000)
 (h:∀v' w',w'.ownsRow base E.t E.s v' (l++[x]).length ((l++[x]).flatMap E.enc)->(∃a c,v'= .slice a (l.length+1) c)->w.grownBy w' v.ownBlock->Below base w w'->wpList P ops Q rest (a.put o.dst v') w') :
 wpList P ops Q (o::rest) a (w.alloc (.cells (E.enc x).toArray E.t)):=by
 subst hH;obtain⟨i,z,hi,hz,bu,o9,kj⟩:=hI.info;have hlen:=hE.len x;refine wpList_append_lies _ dI sO xO st ho base E.t i z E.s i.bytes hI.under hi hz bu rfl kj hE.pos v l.length _ hs (ae.alloc _) ⟨w.heap.size,0,none⟩ 1 1 (E.enc x) hx (by rw[hlen,Nat.one_mul]) (World.news_of_block (heap_alloc_new _ _)) (hE.one x) oM oK (Nat.le_trans (Nat.mul_le_mul (Nat.add_le_add_right hl 1) o9) jM) uM _ rfl ?_;intro g cap w' aj hg fD ag;have fg:w.grownBy w' v.ownBlock:=by
  exact yex
 refine h _ w' ?_ ⟨_,_,rfl⟩ fg ⟨fg.os,fg.tape,fg.output,fg.size,λk hk=>fg.block k oM (λe=> ?_)⟩
 ·simpa[List.flatMap_append]using aj
 ·have:=(ae.lt k e.symm).1
  omega
end
theorem zN3 {W:Wd}{B:Nat}{v0 v1 v2:Vu}{l:List Value}{t:Td}(h:Blk W B (v0::v1::v2::l).toArray t):W.cell? ⟨B,0,none⟩=some v0/\W.cell? ⟨B,1,none⟩=some v1/\W.cell? ⟨B,2,none⟩=some v2:=⟨h.cell 0,h.cell 1,h.cell 2⟩
theorem zN4 {W:Wd}{B:Nat}{v0 v1 v2 v3:Vu}{l:List Value}{t:Td}(h:Blk W B (v0::v1::v2::v3::l).toArray t):W.cell? ⟨B,0,none⟩=some v0/\W.cell? ⟨B,1,none⟩=some v1/\W.cell? ⟨B,2,none⟩=some v2/\W.cell? ⟨B,3,none⟩=some v3:=⟨h.cell 0,h.cell 1,h.cell 2,h.cell 3⟩
theorem zN6 {W:Wd}{B:Nat}{v0 v1 v2 v3 v4 v5:Vu}{l:List Value}{t:Td}(h:Blk W B (v0::v1::v2::v3::v4::v5::l).toArray t):W.cell? ⟨B,0,none⟩=some v0/\W.cell? ⟨B,1,none⟩=some v1/\W.cell? ⟨B,2,none⟩=some v2/\W.cell? ⟨B,3,none⟩=some v3/\W.cell? ⟨B,4,none⟩=some v4/\W.cell? ⟨B,5,none⟩=some v5:=⟨h.cell 0,h.cell 1,h.cell 2,h.cell 3,h.cell 4,h.cell 5⟩
theorem zN7 {W:Wd}{B:Nat}{v0 v1 v2 v3 v4 v5 v6:Vu}{l:List Value}{t:Td}(h:Blk W B (v0::v1::v2::v3::v4::v5::v6::l).toArray t):W.cell? ⟨B,0,none⟩=some v0/\W.cell? ⟨B,1,none⟩=some v1/\W.cell? ⟨B,2,none⟩=some v2/\W.cell? ⟨B,3,none⟩=some v3/\W.cell? ⟨B,4,none⟩=some v4/\W.cell? ⟨B,5,none⟩=some v5/\W.cell? ⟨B,6,none⟩=some v6:=⟨h.cell 0,h.cell 1,h.cell 2,h.cell 3,h.cell 4,h.cell 5,h.cell 6⟩
theorem e4e {W:Wd}{B:Nat}{v0 v1 v2 v3 v4 v5 v6 v7 v8 v9 v10 v11 v12 Lv:Vu}{l:List Value}{t:Td}(h:Blk W B (v0::v1::v2::v3::v4::v5::v6::v7::v8::v9::v10::v11::v12::Lv::l).toArray t):W.cell? ⟨B,0,none⟩=some v0/\W.cell? ⟨B,1,none⟩=some v1/\W.cell? ⟨B,2,none⟩=some v2/\W.cell? ⟨B,3,none⟩=some v3/\W.cell? ⟨B,4,none⟩=some v4/\W.cell? ⟨B,5,none⟩=some v5/\W.cell? ⟨B,6,none⟩=some v6/\W.cell? ⟨B,7,none⟩=some v7/\W.cell? ⟨B,8,none⟩=some v8/\W.cell? ⟨B,9,none⟩=some v9/\W.cell? ⟨B,10,none⟩=some v10/\W.cell? ⟨B,11,none⟩=some v11/\W.cell? ⟨B,12,none⟩=some v12/\W.cell? ⟨B,13,none⟩=some Lv:=⟨h.cell 0,h.cell 1,h.cell 2,h.cell 3,h.cell 4,h.cell 5,h.cell 6,h.cell 7,h.cell 8,h.cell 9,h.cell 10,h.cell 11,h.cell 12,h.cell 13⟩
end
section
open Go.RowKit Go.Maps
structure Ky (α:Type) where
 t:TypeId
 val:α->Value
 kl:α->Lit
 Ok:α->Prop
structure Ky.Law {α:Type}(K:Ky α)(P:Program):Prop where
 law:Keyed P K.t
 key:∀ {p},K.Ok p->keyOf P K.t (K.val p)=some (K.kl p)
 inv:∀ {v l},keyOf P K.t v=some l->∃p,K.Ok p/\v=K.val p/\l=K.kl p
 vinj:∀ {p q},K.val p=K.val q->p=q
section
variable {α:Type}{K:Ky α}{P:Program}
theorem Ky.Law.inj (L:K.Law P){p q:α}(hp:K.Ok p)(hq:K.Ok q)(h:K.kl p=K.kl q):p=q:=by
 have h1:=L.key hp;rw[h]at h1;exact L.vinj (L.law.inj h1 (L.key hq))
theorem Ky.Law.lit (L:K.Law P){p:α}(hp:K.Ok p):WideAt.IsKeyLit (K.kl p):=L.law.key (L.key hp)
variable [DecidableEq α]{β:Type}
def idG (l:List (α×β))(p:α):Option β:=(l.find? λe=>decide (e.1=p)).map (·.2)
def c4y (l:List (α×β))(p:α):Bool:=l.any λe=>decide (e.1=p)
def c9a (l:List (α×β))(p:α)(x:β):List (α×β):=if c4y l p then l.map (λe=>if e.1=p then(p,x)else e)else l++[(p,x)]
theorem b1o {l:List (α×β)}{p:α}:c4y l p=true↔p∈l.map (·.1):=by
 unfold c4y;exact yfx
theorem b2e (l:List (α×β))(p:α)(x:β):(c9a l p x).map (·.1)=if c4y l p then l.map (·.1)else l.map (·.1)++[p]:=by
 unfold c9a;exact yjj
theorem d3p (l:List (α×β))(p q:α)(x:β):c4y (c9a l p x) q=(decide (q=p)||c4y l q):=by
 rw[Bool.eq_iff_iff,b1o,b2e,Bool.or_eq_true,decide_eq_true_iff];rw[show(c4y l q=true)=(q∈l.map (·.1))from propext b1o];split
 ·rename_i h
  have:=b1o.1 h;constructor
  ·exact .inr
  ·rintro(rfl|h')
   ·exact this
   ·exact h'
 ·simp[or_comm]
theorem c9b (p q:α)(x:β)(hq:¬q=p):∀l:List (α×β),idG (l.map λe=>if e.1=p then(p,x)else e) q=idG l q
 |[]=>rfl
 |a::l=>by
  have ih:=c9b p q x hq l;have av:¬p=q:=λh=>hq h.symm
  unfold idG at ih ⊢;by_cases ha:a.1=p
  ·simpa[ha,av]using ih
  ·by_cases G6:a.1=q
   ·have hf:List.find? (λe=>decide (e.1=q)) (List.map (λe=>if e.1=p then(p,x)else e) (a::l))=some a:=by rw[List.map_cons,if_neg ha,List.find?_cons];simp[G6]
    rw[hf];simp[G6]
   ·rw[List.map_cons,if_neg ha,List.find?_cons,List.find?_cons]
    simp only[G6,decide_false];exact ih
theorem b0s (p:α)(x:β):∀l:List (α×β),c4y l p=true->idG (l.map λe=>if e.1=p then(p,x)else e) p=some x
 |[],h=>by simp[c4y]at h
 |a::l,h=>by
  by_cases ha:a.1=p
  ·simp[idG,ha]
  ·have ih:=b0s p x l (by simpa[c4y,ha]using h)
   unfold idG at ih ⊢;simpa[ha]using ih
theorem c9c (l:List (α×β))(p q:α)(x:β):idG (c9a l p x) q=if q=p then some x else idG l q:=by
 unfold c9a;split
 ·rename_i h
  by_cases hq:q=p
  ·subst hq
   rw[if_pos rfl];exact b0s q x l h
  ·rw[if_neg hq]
   exact c9b p q x hq l
 ·rename_i h
  unfold idG;rw[List.find?_append];by_cases hq:q=p
  ·subst hq
   have:l.find? (λe=>decide (e.1=q))=none:=by
    rw[List.find?_eq_none];intro e he hh;exact h (by unfold c4y;exact List.any_eq_true.2 ⟨e,he,hh⟩)
   simp[this]
  ·have h1:¬p=q:=λe=>hq e.symm
   simp[h1,hq]
theorem c1u (l:List (α×β))(p:α)(x:β):(c9a l p x).length=if c4y l p then l.length else l.length+1:=by
 unfold c9a;split <;> simp
structure Ve (β:Type) where
 t:TypeId
 lit:β->Lit
 z:β
def MapK (P:Program)(K:Ky α)(V:Ve β)(W:Wd)(b n:Nat)(l:List (α×β)):Prop :=
 ∃(D:DataW Unit),W.ownsMap P K.t (plainElem P V.t) b n D/\(l.map (·.1)).Nodup/\(∀e∈l,K.Ok e.1)/\Maps.size D=l.length /\
  ∀p,K.Ok p->has D (K.kl p)=c4y l p/\D.atKey (K.kl p) (.lit (V.lit V.z))= .lit (V.lit ((idG l p).getD V.z))
variable {V:Ve β}{W W':Wd}{b n:Nat}{l:List (α×β)}
theorem MapK.kept {row:Option Nat}(h:MapK P K V W b n l)(hg:W.grownBy W' row)(hr:row≠some b):MapK P K V W' b n l:=by
 obtain⟨D,ho,h1,h2,h3⟩:=h;exact⟨D,ho.kept hg (λe=>hr e.symm),h1,h2,h3⟩
theorem MapK.lt (h:MapK P K V W b n l):b<W.heap.size:=by
 obtain⟨D,ho,-⟩:=h;exact ho.lt
theorem MapK.alloc (h:MapK P K V W b n l)(o:Obj):MapK P K V (W.alloc o) b n l:=h.kept (World.grownBy_alloc W o none) vM
theorem MapK.below {n₀:Nat}(h:MapK P K V W b n l)(hb:Below n₀ W W')(hB:b<n₀):MapK P K V W' b n l:=by
 exact yjm
theorem MapK.made (P:Program)(K:Ky α)(V:Ve β)(W:Wd):MapK P K V (W.alloc (.map #[] 0)) W.heap.size 0 [] :=
 ⟨.map [],World.ownsMap_made W _ _ _,by simp,by simp,rfl,λp _=>⟨rfl,rfl⟩⟩
theorem MapK.store (L:K.Law P){D:DataW Unit}{p:α}{x:β}(hD:Tidy D)(h1:(l.map (·.1)).Nodup)(h2:∀e∈l,K.Ok e.1)(h4:Maps.size D=l.length)
 (h3:∀p,K.Ok p->has D (K.kl p)=c4y l p/\D.atKey (K.kl p) (.lit (V.lit V.z))= .lit (V.lit ((idG l p).getD V.z))) (hp:K.Ok p)
 (ho:W'.ownsMap P K.t (plainElem P V.t) b n (D.put (K.kl p) (.lit (V.lit x)))):MapK P K V W' b n (c9a l p x):=by
 refine⟨_,ho,?_,?_,?_,λq hq=> ?_⟩
 ·rw[b2e]
  split
  ·exact h1
  ·rename_i h
   rw[List.nodup_append];refine⟨h1,by simp,λa ha c hc=> ?_⟩;obtain rfl:c=p:=by simpa using hc
   exact λe=>h (b1o.2 (e▸ha))
 ·intro e he
  have:e.1∈(c9a l p x).map (·.1):=List.mem_map.2 ⟨e,he,rfl⟩;rw[b2e]at this;exact yet
 ·rw[size_put hD,(h3 p hp).1,c1u,h4]
 ·have hk:=L.lit hp
  rw[d3p,c9c];by_cases xe:q=p
  ·subst xe
   simp[has_put_same hD.isMap hk,atKey_put_same hD.isMap hk]
  ·have av:K.kl q≠K.kl p:=λe=>xe (L.inj hq hp e)
   simp[has_put_other av,atKey_put_other av,xe,h3 q hq]
end
theorem d3q :laidOutB prog=true:=by kernel_rfl
theorem c4z :prog.cellsOf 3=1:=by kernel_rfl
theorem b2f {n:Int}(h:fits n):(Lit.int .i64 n).wf=true:=by
 obtain⟨h0,h1⟩:=h;simp[Lit.wf,IntKind.min,IntKind.max,IntKind.signed,IntKind.bits];omega
theorem d7b {n:Int}(h:(Lit.int .i64 n).wf=true):fits n:=by
 exact ykv
theorem b2g (d:Nat)(cs:List Value)(L:List Lit)(h:prog.keyLits (d+1) 3 cs=some L):∃n,cs=[.int .i64 n]/\fits n/\L=[.int .i64 n]:=by
 unfold Program.keyLits at h;rw[underlying3]at h;match cs,h with
 |[.int q n],h =>
  simp only at h;split at h
  ·rename_i hq
   obtain⟨rfl,hw⟩:=hq
   cases h;exact⟨n,rfl,d7b hw,rfl⟩
  ·cases h
end
section
open Go Go.RowKit
structure KeepC (C:World->Nat->Prop)(A B:Wd):Prop where
 size:A.heap.size<=B.heap.size
 same:∀k,k<A.heap.size->¬C A k->B.heap[k]? =A.heap[k]?
 mine:∀k,C B k->C A k\/A.heap.size<=k
end
section
open Go.RowKit
structure Lb where
 id:Int
 x:Int
 y:Int
 r:Int
 txt:ByteArray
 unt:Int
instance : DecidableEq Lb:=λa b =>
 if h:a.id=b.id/\a.x=b.x/\a.y=b.y/\a.r=b.r/\a.txt=b.txt/\a.unt=b.unt then .isTrue (by cases a;cases b;simp_all)else .isFalse (λe=>h (by subst e;simp))
abbrev inE :El Int:=⟨3,1,λn=>[.int .i64 n]⟩
theorem a6l {k:IntKind}{a b:Int}(h:a=b):Ending.returned (.int k a)= .returned (.int k b):=by rw[h]
end
section
open Go.RowKit Go.Shelf Go.Lib
structure Pc where
 id:Int
 x:Int
 y:Int
 cls:ByteArray
 nm:ByteArray
 wt:Int
 ds:Int
instance : Inhabited Pc:=⟨⟨0,0,0,⟨#[]⟩,⟨#[]⟩,0,0⟩⟩
abbrev plV (p:Pc):Value:= .agg #[.int .i64 p.id,.int .i64 p.x,.int .i64 p.y,.string p.cls,.string p.nm,.int .i64 p.wt,.int .i64 p.ds]
abbrev plE :El Pc:=⟨66,7,λp=>[.int .i64 p.id,.int .i64 p.x,.int .i64 p.y,.string p.cls,.string p.nm,.int .i64 p.wt,.int .i64 p.ds]⟩
theorem a4f :plE.Ok:=⟨λ_=>rfl,jM,λx u hu=>by
 simp at hu;rcases hu with rfl|rfl|rfl|rfl|rfl|rfl|rfl <;> rfl⟩
theorem d7c :plE.In prog 35:=El.in_of (z:= .agg #[.int .i64 0,.int .i64 0,.int .i64 0,.string ⟨#[]⟩,.string ⟨#[]⟩,.int .i64 0,.int .i64 0]) (s:=7) (bytes:=72) underlying35 zM rfl oM rfl
structure PcOk (p:Pc):Prop where
 id:fits p.id
 x:fits p.x
 y:fits p.y
 wt:fits p.wt
 nm:p.nm.size<=1000
def Frm (v:Vu)(n:Nat):Prop:=v= .slice none 0 0\/∃b off cap,v= .slice (some ⟨b,off,none⟩) n cap
theorem Lst.flat {α:Type}{E:El α}{n₀:Nat}{W:Wd}{l:List α}{b off cap:Nat}(hE:E.Ok)(h:Lst E n₀ W (.slice (some ⟨b,off,none⟩) l.length cap) l):∀j u,(l.flatMap E.enc)[j]? =some u->W.cell? ⟨b,off+j,none⟩=some u:=by
 intro j u hj;have ag:=(List.getElem?_eq_some_iff.1 hj).1;rw[a0w hE]at ag;have hs:=hE.pos;have hq:j / E.s<l.length:=(Nat.div_lt_iff_lt_mul hs).2 ag;have hr:j % E.s<E.s:=Nat.mod_lt _ hs;obtain⟨b',fh,aI,e,-,-,hc⟩:=h.some_ (Nat.lt_of_le_of_lt (Nat.zero_le _) hq);simp only[Value.slice.injEq,Option.some.injEq,Addr.mk.injEq]at e;obtain⟨⟨rfl,rfl,-⟩,-,-⟩:=e;have h1:=hc _ hq _ hr;have h2:=a9r hE l (j / E.s) (j % E.s) hq hr;have e1:j / E.s*E.s+j % E.s=j:=by rw[Nat.mul_comm];exact Nat.div_add_mod j E.s
 rw[Nat.add_assoc,e1,<-h2,e1,hj]at h1;exact h1
theorem a4q {α:Type}{E:El α}(hE:E.Ok)(l:List α):∀u∈l.flatMap E.enc,u.oneCell'=true:=by
 intro u hu;obtain⟨x,-,h⟩:=List.mem_flatMap.1 hu;exact hE.one x u h
theorem c1v (v:Vu)(l:List Pc)(w:Wd)(h:Lst plE w.heap.size w v l)(hf:Frm v l.length)(hl:l.length<=100000) :
 Calls prog 101 #[v] w λe w'=>∃u,e= .returned u/\w'.ownsRow w.heap.size 66 7 u l.length (l.flatMap plE.enc)/\Below w.heap.size w w':=by
 rcases hf with rfl|⟨b,off,cap,rfl⟩
 ·obtain⟨a,cap,e,-⟩:=h.form
  simp only[Value.slice.injEq]at e;obtain⟨-,e,-⟩:=e;obtain rfl:=List.eq_nil_of_length_eq_zero e.symm;refine(AnyE.slices_Clone_nil Tryz.clonePl 0 0 w).mono ?_;exact ykz
 ·obtain⟨i0,aT,bM,aW,bF⟩:=info_parts (P:=prog) (e:=66) (z:= .agg #[.int .i64 0,.int .i64 0,.int .i64 0,.string ⟨#[]⟩,.string ⟨#[]⟩,.int .i64 0,.int .i64 0]) (size:=7) (bytes:=72) zM
  refine(AnyE.slices_Clone Tryz.clonePl i0 _ 7 72 aT bM aW bF qM oM sizeOf66 b off l.length cap (l.flatMap plE.enc) w (a0w a4f l) oK oM (h.flat a4f) (a4q a4f l)).mono ?_;rintro e w'⟨u,rfl,hr,-,hb⟩;exact⟨u,rfl,hr,hb⟩
theorem c9d (x y r:Int)(hr:(if x=0 then y else x)=r)(b:Nat)(w:Wd)(h0:w.cell? ⟨b,0,none⟩=some (.int .i64 x))(h1:w.cell? ⟨b,1,none⟩=some (.int .i64 y)) :
 Calls prog 104 #[.slice (some ⟨b,0,none⟩) 2 2] w λe w'=>e= .returned (.int .i64 r)/\w=w':=by
 by_cases hx:x=0
 ·subst hx
  rw[if_pos rfl]at hr;subst hr;by_cases hy:y=0
  ·subst hy
   go_enter func104,ntmps104;go_wp2_with fail;refine wp_loop_rounds 3 ?_;rw[rounds_succ];go_wp2_with fail;rw[rounds_succ];go_wp2_with fail;rw[rounds_succ];exact ybd
  ·go_enter func104,ntmps104
   go_wp2_with fail;refine wp_loop_rounds 2 ?_;rw[rounds_succ];go_wp2_with fail;rw[rounds_succ];exact ybd
 ·rw[if_neg hx]at hr
  subst hr;go_enter func104,ntmps104;exact yho
def a1o (a b:Pc):Int:=if compareInt b.wt a.wt=0 then compareInt a.id b.id else compareInt b.wt a.wt
theorem b4z (x y r:Int)(hr:compareInt x y=r)(w:Wd):Calls prog 105 #[.int .i64 x,.int .i64 y] w λe w'=>e= .returned (.int .i64 r)/\w=w' :=
 (Go.Proofs.Tryz.cmp_Compare_int x y w).mono λ_ _ ⟨he,hw⟩=>⟨by rw[he,hr],hw.symm⟩
theorem a6m (a b:Pc)(w:Wd):Zc prog 103 #[plV a,plV b] w (.int .i64 (a1o a b)):=by
 obtain⟨i,x,y,c,n,wt,d⟩:=a;obtain⟨i2,x2,y2,c2,n2,rY,d2⟩:=b;obtain⟨r,hr⟩:=zE (a1o ⟨i,x,y,c,n,wt,d⟩ ⟨i2,x2,y2,c2,n2,rY,d2⟩);rw[hr];unfold a1o at hr;simp only at hr;obtain⟨s1,h1⟩:=zE (compareInt rY wt);obtain⟨s2,h2⟩:=zE (compareInt i i2);rw[h1,h2]at hr;replace h1:=Lib.hid h1;replace h2:=Lib.hid h2;replace hr:=Lib.hid hr;go_enter func103,ntmps103;go_wp2_with fail;first|with_reducible refine a0h 10 zM zM ?_|with_reducible refine a0i 10 zM zM ?_
 simp only[zT];repeat(first|go_big_quiet_step ((go_at_call 105;exact Calls.grow_of_same (b4z _ _ _ (by first|with_reducible exact h1.out|with_reducible exact h2.out) _)))|quiet_step ((go_at_call 105;exact Calls.grow_of_same (b4z _ _ _ (by first|with_reducible exact h1.out|with_reducible exact h2.out) _))))
 refine wpQuiet_nil ?_;intro _ bh;obtain⟨p,bh⟩:=bh;subst bh;go_wp2_with (go_at_call 104;refine(c9d _ _ _ hr.out _ _ (by first|(simp;done)|(go_simp;done)|(simp[go_sem];done)) (by first|(simp;done)|(go_simp;done)|(simp[go_sem];done))).mono ?_;rintro e w'⟨rfl,rfl⟩);exact ybs
end
section
open Go.RowKit Go.Shelf Go.Maps
theorem b8r {W W':Wd}{b o:Nat}(h:W'.heap[b]? =W.heap[b]?):W'.cell? ⟨b,o,none⟩=W.cell? ⟨b,o,none⟩:=by
 unfold World.cell?;rw[h]
section
theorem a0g (W:Wd)(b i:Nat)(v:Vu):W.grownBy (W.setCell ⟨b,i,none⟩ v) (some b) :=
 ⟨rfl,rfl,rfl,by unfold World.setCell;simp,λk _ hk=>Below.heap_setCell _ _ _ k (λe=>hk (by rw[e]))⟩
end
theorem b6j (w:Wd):(zeroValue 3).run prog w= .ok (.int .i64 0) w:=by kernel_rfl
end
section
open Go.RowKit Go.Shelf Go.Lib Go.Sort
variable{N b blk j n off:Nat}{W W' W1 w:Wd}
structure PlC (W:Wd)(b o:Nat)(p:Pc):Prop where
 c0:W.cell? ⟨b,o,none⟩=some (.int .i64 p.id)
 c1:W.cell? ⟨b,o+1,none⟩=some (.int .i64 p.x)
 c2:W.cell? ⟨b,o+2,none⟩=some (.int .i64 p.y)
 c3:W.cell? ⟨b,o+3,none⟩=some (.string p.cls)
 c4:W.cell? ⟨b,o+4,none⟩=some (.string p.nm)
 c5:W.cell? ⟨b,o+5,none⟩=some (.int .i64 p.wt)
 c6:W.cell? ⟨b,o+6,none⟩=some (.int .i64 p.ds)
structure PlF (W:Wd)(b o:Nat):Prop where
 f0:W.frozen? ⟨b,o,none⟩=false
 f1:W.frozen? ⟨b,o+1,none⟩=false
 f2:W.frozen? ⟨b,o+2,none⟩=false
 f3:W.frozen? ⟨b,o+3,none⟩=false
 f4:W.frozen? ⟨b,o+4,none⟩=false
 f5:W.frozen? ⟨b,o+5,none⟩=false
 f6:W.frozen? ⟨b,o+6,none⟩=false
abbrev RowP (W:Wd)(blk off:Nat)(d:Array Pc):Prop:=HoldsK plE.enc 7 W blk off d
theorem RowP.pc {d:Array Pc}(h:RowP W blk off d)(hj:j<d.size):PlC W blk (off+j*7) d[j]! :=
 ⟨(HoldsK.cell h hj (c:=0) oM).1,(HoldsK.cell h hj (c:=1) oM).1,(HoldsK.cell h hj (c:=2) oM).1,(HoldsK.cell h hj (c:=3) oM).1,(HoldsK.cell h hj (c:=4) oM).1,(HoldsK.cell h hj (c:=5) oM).1,(HoldsK.cell h hj (c:=6) oM).1⟩
theorem RowP.pf {d:Array Pc}(h:RowP W blk off d)(hj:j<d.size):PlF W blk (off+j*7) :=
 ⟨(HoldsK.cell h hj (c:=0) oM).2,(HoldsK.cell h hj (c:=1) oM).2,(HoldsK.cell h hj (c:=2) oM).2,(HoldsK.cell h hj (c:=3) oM).2,(HoldsK.cell h hj (c:=4) oM).2,(HoldsK.cell h hj (c:=5) oM).2,(HoldsK.cell h hj (c:=6) oM).2⟩
theorem b2h (h:W'.heap[b]? =W.heap[b]?)(i:Nat):W'.frozen? ⟨b,i,none⟩=W.frozen? ⟨b,i,none⟩:=by
 unfold World.frozen?;simp only[h]
theorem RowP.same {d:Array Pc}(h:RowP W blk off d)(hs:W'.heap[blk]? =W.heap[blk]?):RowP W' blk off d:=λj hj =>
 ⟨(b8r hs).trans (h j hj).1,(b2h hs _).trans (h j hj).2⟩
def d7r (W:Wd)(blk off j:Nat)(d:Array Pc):World:=(W.setCells blk (off+(j+1)*7) (plE.enc d[j]!)).setCells blk (off+j*7) (plE.enc d[j+1]!)
theorem d3r {d:Array Pc}(h:RowP W blk off d)(hj:j+1<d.size):RowP (d7r W blk off j d) blk off (swp d (j+1) j):=by
 have b:∀x,x<d.size->x*7+7<=d.size*7:=λx hx=>by omega
 have h1:=holds_setCells_c h ((j+1)*7) (plE.enc d[j]!) (by rw[size_flatK];exact b (j+1) hj);have h2:=holds_setCells_c h1 (j*7) (plE.enc d[j+1]!) (by rw[size_setMany,size_flatK];exact b j oM);unfold RowP HoldsK;rw[<-setMany_swp plE.enc 7 (λ_=>rfl) d (j+1) j hj oM];exact h2
theorem a2b (blk:Nat):∀(vs:List Value) (o:Nat) (W:Wd),W.grownBy (W.setCells blk o vs) (some blk)
 |[],o,W=>⟨rfl,rfl,rfl,yR _,λ_ _ _=>rfl⟩
 |v::vs,o,W=>by
  have h1:=a0g W blk o v;have h2:=a2b blk vs (o+1) (W.setCell ⟨blk,o,none⟩ v);exact⟨h2.os.trans h1.os,h2.tape.trans h1.tape,h2.output.trans h1.output,Nat.le_trans h1.size h2.size,λk hk hn=>(h2.block k (Nat.lt_of_lt_of_le hk h1.size) hn).trans (h1.block k hk hn)⟩
theorem a2p {W2:Wd}(h1:W.grownBy W1 (some b))(h2:W1.grownBy W2 (some b)):W.grownBy W2 (some b) :=
 ⟨h2.os.trans h1.os,h2.tape.trans h1.tape,h2.output.trans h1.output,Nat.le_trans h1.size h2.size,λk hk hn=>(h2.block k (Nat.lt_of_lt_of_le hk h1.size) hn).trans (h1.block k hk hn)⟩
theorem a2q (b:Option Nat)(h:Below W.heap.size W W1):W.grownBy W1 b:=⟨h.os,h.tape,h.output,h.size,λk hk _=>h.block k hk⟩
def RowB (W:Wd)(blk N:Nat):Prop:=∃cur,Blk W blk cur 66/\cur.size=N
theorem RowB.same (h:RowB W blk N)(hs:W'.heap[blk]? =W.heap[blk]?):RowB W' blk N:=by
 obtain⟨cur,h1,h2⟩:=h;exact⟨cur,hs.trans h1,h2⟩
theorem RowB.setCells {blk N:Nat}:∀(vs:List Value) (o:Nat) (W:Wd),RowB W blk N->RowB (W.setCells blk o vs) blk N
 |[],_,_,h=>h
 |v::vs,o,W,⟨cur,h1,h2⟩=>RowB.setCells vs (o+1) _ ⟨_,h1.set o v,by simpa using h2⟩
theorem RowB.lt (h:RowB W blk N):blk<W.heap.size:=h.choose_spec.1.lt
structure SoW (w:Wd)(blk off N:Nat)(n:Nat)(d:Array Pc)(W:Wd):Prop where
 row:RowP W blk off d
 rb:RowB W blk N
 gr:w.grownBy W (some blk)
 sz:d.size=n
theorem SoW.below {d:Array Pc}(h:SoW w blk off N n d W)(hb:Below W.heap.size W W'):SoW w blk off N n d W' :=
 have e:=hb.block blk h.rb.lt
 ⟨h.row.same e,h.rb.same e,a2p h.gr (a2q _ hb),h.sz⟩
theorem SoW.drew {w:Wd}{blk off N n:Nat}{d:Array Pc}{W:Wd}(h:SoW w blk off N n d W):SoW w blk off N n d W.drew:=h.below ⟨rfl,rfl,rfl,yR _,λ_ _=>rfl⟩
theorem SoW.swap {d:Array Pc}(h:SoW w blk off N n d W)(hj:j+1<n):SoW w blk off N n (swp d (j+1) j) (d7r W blk off j d) :=
 ⟨d3r h.row (by rw[h.sz];exact hj),RowB.setCells _ _ _ (RowB.setCells _ _ _ h.rb),a2p h.gr (a2p (a2b _ _ _ _) (a2b _ _ _ _)),by rw[size_swp];exact h.sz⟩
theorem c5a (W:Wd)(blk o1 o2:Nat)(i1 x1 y1 w1 d1 i2 x2 y2 w2 d2:Int)(c1 n1 c2 n2:Bw):
 (W.setCells blk o1 (plE.enc ⟨i2,x2,y2,c2,n2,w2,d2⟩)).setCells blk o2 (plE.enc ⟨i1,x1,y1,c1,n1,w1,d1⟩)=((((((((((((((W.setCell ⟨blk,o1,none⟩ (.int .i64 i2)).setCell ⟨blk,o1+1,none⟩ (.int .i64 x2)).setCell ⟨blk,o1+2,none⟩ (.int .i64 y2)).setCell ⟨blk,o1+3,none⟩ (.string c2)).setCell ⟨blk,o1+4,none⟩ (.string n2)).setCell ⟨blk,o1+5,none⟩ (.int .i64 w2)).setCell ⟨blk,o1+6,none⟩ (.int .i64 d2)).setCell ⟨blk,o2,none⟩ (.int .i64 i1)).setCell ⟨blk,o2+1,none⟩ (.int .i64 x1)).setCell ⟨blk,o2+2,none⟩ (.int .i64 y1)).setCell ⟨blk,o2+3,none⟩ (.string c1)).setCell ⟨blk,o2+4,none⟩ (.string n1)).setCell ⟨blk,o2+5,none⟩ (.int .i64 w1)).setCell ⟨blk,o2+6,none⟩ (.int .i64 d1)):=by
 simp only[World.setCells,Nat.add_assoc,Nat.reduceAdd]
theorem d3s (a b:Pc):(ltOf a1o a b=true↔a1o a b<0):=by unfold ltOf;simp
end
section
open Go.RowKit Go.Maps
variable{b n:Nat}{W W':Wd}
abbrev a0l :=Int×Int
abbrev a6j (p:a0l):List Value:=[.int .i64 p.1,.int .i64 p.2]
abbrev a5b (p:a0l):Value:= .agg #[.int .i64 p.1,.int .i64 p.2]
def a7v (p:a0l):Prop:=fits p.1/\fits p.2
def klS (p:a0l):Lit:= .string (keyBytes [.int .i64 p.1,.int .i64 p.2])
theorem c5b:(match prog.underlying 122 with|some (.array _ _)|some (.struct _)=>true|_=>false)=true:=by kernel_rfl
theorem b2i:prog.cellsOf 122=2:=by kernel_rfl
theorem spotLaw:Keyed prog 122:=Keyed.of_law (deep_law_laid d3q (m:=2) oM (of_decide_eq_true zM) zM c5b)
theorem d3t:prog.keyType 122=true:=by kernel_rfl
theorem a1w {p:a0l}(h:a7v p):keyOf prog 122 (a5b p)=some (klS p):=by
 obtain⟨x,y⟩:=p;obtain⟨hx,hy⟩:=h;have wx:=b2f hx;have wy:=b2f hy;unfold keyOf;rw[underlying122];have hf:(a5b (x,y)).formed prog 122=true:=by simp[Value.formed,underlying122,b2i]
 simp only[d3t,hf,Bool.and_self,if_true];have hk:prog.keyLits (prog.types.size+1) 122 [.int .i64 x,.int .i64 y]=some [.int .i64 x,.int .i64 y]:=by
  obtain⟨n,hn⟩:∃n,prog.types.size=n+1:=⟨prog.types.size-1,by have h:0<prog.types.size:=of_decide_eq_true zM;omega⟩;rw[hn];unfold Program.keyLits;rw[underlying122];simp[b2i,c4z,Program.keyLits,underlying3,wx,wy]
 exact congrArg (Option.map λls=>Lit.string (keyBytes ls)) hk
theorem a3x {v:Vu}{l:Lit}(h:keyOf prog 122 v=some l):∃p,a7v p/\v=a5b p/\l=klS p:=by
 obtain⟨xs,L,rfl,hL,rfl⟩:=keyOf_top c5b h;obtain⟨n,hn⟩:∃n,prog.types.size=n+1:=⟨prog.types.size-1,by have h:0<prog.types.size:=of_decide_eq_true zM;omega⟩;rw[hn]at hL;unfold Program.keyLits at hL;rw[underlying122]at hL;simp only[b2i]at hL;split at hL
 ·rename_i hc
  obtain⟨hlen,-⟩:=hc;obtain⟨l⟩:=xs;match l,hlen with
  |[a,b],_ =>
   simp[c4z]at hL;rcases ha:prog.keyLits (n+1) 3 [a]with _|La
   ·rw[ha]at hL;simp at hL
   ·obtain⟨x,ex,fx,rfl⟩:=b2g n [a] La ha
    rcases hb:prog.keyLits (n+1) 3 [b]with _|Lb
    ·rw[ha,hb]at hL;simp at hL
    ·obtain⟨y,ey,fy,rfl⟩:=b2g n [b] Lb hb
     rw[ha,hb]at hL;simp at hL ex ey;subst ex;subst ey;subst hL;exact⟨(x,y),⟨fx,fy⟩,rfl,rfl⟩
 ·cases hL
theorem c9e {p q:a0l}(hp:a7v p)(hq:a7v q)(h:klS p=klS q):p=q:=by
 have h1:=a1w hp;rw[h]at h1;have h2:=spotLaw.inj h1 (a1w hq);simp at h2;exact Prod.ext h2.1 h2.2
theorem d3u {p q:a0l}(hp:a7v p)(hq:a7v q):(klS p).sameKey (klS q)=decide (p=q):=by
 by_cases h:p=q
 ·subst h
  simp[WideAt.sameKey_self (spotLaw.key (a1w hp))]
 ·simp only[h,decide_false]
  cases hs:(klS p).sameKey (klS q)
  ·rfl
  ·exact absurd (c9e hp hq (WideAt.sameKey_eq hs)) h
/-! ### a map's content: a list of dots with their numbers,each dot once -/
def a7q (l:List (a0l×Int))(p:a0l):Option Int:=(l.find? λe=>e.1==p).map (·.2)
def b1k (l:List (a0l×Int))(p:a0l):Bool:=l.any λe=>e.1==p
def MapIs (W:Wd)(b n:Nat)(l:List (a0l×Int)):Prop :=
 ∃(D:DataW Unit),W.ownsMap prog 122 (plainElem prog 3) b n D/\(l.map (·.1)).Nodup/\(∀e∈l,a7v e.1) /\
  ∀p,a7v p->has D (klS p)=b1k l p/\D.atKey (klS p) (.lit (.int .i64 0))= .lit (.int .i64 ((a7q l p).getD 0))
theorem MapIs.kept {l:List (a0l×Int)}{row:Option Nat}(h:MapIs W b n l)(hg:W.grownBy W' row)(hr:row≠some b):MapIs W' b n l:=by
 obtain⟨D,ho,h1,h2,h3⟩:=h;exact⟨D,ho.kept hg (λe=>hr e.symm),h1,h2,h3⟩
theorem MapIs.lt {l:List (a0l×Int)}(h:MapIs W b n l):b<W.heap.size:=by
 obtain⟨D,ho,-⟩:=h;exact ho.lt
theorem MapIs.alloc {W:Wd}{b n:Nat}{l:List (a0l×Int)}(h:MapIs W b n l)(o:Obj):MapIs (W.alloc o) b n l:=h.kept (World.grownBy_alloc W o none) vM
theorem MapIs.below {n₀:Nat}{l:List (a0l×Int)}(h:MapIs W b n l)(hb:Below n₀ W W')(hB:b<n₀):MapIs W' b n l:=by
 exact yjm
theorem MapIs.made (W:Wd):MapIs (W.alloc (.map #[] 0)) W.heap.size 0 [] :=
 ⟨.map [],World.ownsMap_made W _ _ _,by simp,by simp,λp _=>⟨rfl,rfl⟩⟩
def b6k (l:List (a0l×Int))(p:a0l)(x:Int):List (a0l×Int):=if b1k l p then l.map (λe=>if e.1==p then(p,x)else e)else l++[(p,x)]
theorem a2t {l:List (a0l×Int)}{p:a0l}:b1k l p=true↔p∈l.map (·.1):=by
 unfold b1k;exact yfx
theorem a6n (l:List (a0l×Int))(p:a0l)(x:Int):(b6k l p x).map (·.1)=if b1k l p then l.map (·.1)else l.map (·.1)++[p]:=by
 unfold b6k;exact yjj
theorem c5c (l:List (a0l×Int))(p q:a0l)(x:Int):b1k (b6k l p x) q=(decide (q=p)||b1k l q):=by
 rw[Bool.eq_iff_iff,a2t,a6n,Bool.or_eq_true,decide_eq_true_iff];rw[show(b1k l q=true)=(q∈l.map (·.1))from propext a2t];split
 ·rename_i h
  have:=a2t.1 h;constructor
  ·exact .inr
  ·rintro(rfl|h')
   ·exact this
   ·exact h'
 ·simp[or_comm]
theorem b6l (l:List (a0l×Int))(p q:a0l)(x:Int):a7q (b6k l p x) q=if q=p then some x else a7q l q:=by
 unfold b6k;split
 ·rename_i h
  unfold b1k at h;induction l with
  |nil=>simp at h
  |cons e l ih =>
   by_cases he:e.1=p
   ·by_cases hq:q=p
    ·subst hq;simp[a7q,he]
    ·have av:¬p=q:=λh=>hq h.symm
     have:∀l:List (a0l×Int),a7q (l.map λe=>if e.1==p then(p,x)else e) q=a7q l q:=by
      intro l;induction l with
      |nil=>rfl
      |cons a l ih2 =>
       unfold a7q at ih2 ⊢;by_cases ha:a.1=p
       ·simp only[List.map_cons,ha,beq_self_eq_true,if_true,List.find?_cons]
        have h1:(p==q)=false:=by simpa using av
        rw[h1];have h2:(a.1==q)=false:=by rw[ha];exact h1
        simp only[ha]at h2;simpa[ha,h1]using ih2
       ·have h1:(a.1==p)=false:=by simpa using ha
        simp only[List.map_cons,h1,List.find?_cons,Bool.false_eq_true,if_false]
        cases hh:a.1==q
        ·exact ih2
        ·rfl
     rw[this,if_neg hq]
   ·have h':l.any (λe=>e.1==p)=true:=by simpa[he]using h
    have ih:=ih h';unfold a7q at ih ⊢;have h1:(e.1==p)=false:=by simpa using he
    simp only[List.map_cons,h1,List.find?_cons,Bool.false_eq_true,if_false]
    cases hh:e.1==q
    ·exact ih
    ·have:e.1=q:=by simpa using hh
     have hq:¬q=p:=λh=>he (this.trans h)
     simp[hq]
 ·rename_i h
  unfold a7q;rw[List.find?_append];by_cases hq:q=p
  ·subst hq
   have:l.find? (λe=>e.1==q)=none:=by
    rw[List.find?_eq_none];intro e he hh;exact h (by unfold b1k;exact List.any_eq_true.2 ⟨e,he,hh⟩)
   simp[this]
  ·have h1:(p==q)=false:=by simpa using λe=>hq e.symm
   simp[h1,hq]
theorem MapIs.store {W:Wd}{l:List (a0l×Int)}{D:DataW Unit}{p:a0l}{x:Int}(hD:IsMap D)(h1:(l.map (·.1)).Nodup)(h2:∀e∈l,a7v e.1)
 (h3:∀p,a7v p->has D (klS p)=b1k l p/\D.atKey (klS p) (.lit (.int .i64 0))= .lit (.int .i64 ((a7q l p).getD 0))) (hp:a7v p)
 (ho:W'.ownsMap prog 122 (plainElem prog 3) b n (D.put (klS p) (.lit (.int .i64 x)))):MapIs W' b n (b6k l p x):=by
 refine⟨_,ho,?_,?_,λq hq=> ?_⟩
 ·rw[a6n]
  split
  ·exact h1
  ·rename_i h
   rw[List.nodup_append];refine⟨h1,by simp,λa ha c hc=> ?_⟩;obtain rfl:c=p:=by simpa using hc
   exact λe=>h (a2t.2 (e▸ha))
 ·intro e he
  have:e.1∈(b6k l p x).map (·.1):=List.mem_map.2 ⟨e,he,rfl⟩;rw[a6n]at this;exact yet
 ·have hk:=spotLaw.key (a1w hp)
  rw[c5c,b6l];by_cases xe:q=p
  ·subst xe
   simp[has_put_same hD hk,atKey_put_same hD hk]
  ·have av:klS q≠klS p:=λe=>xe (c9e hq hp e)
   simp[has_put_other av,atKey_put_other av,xe,h3 q hq]
end
section
open Go.RowKit Go.Maps Go.Shelf
def CollS (l:List (a0l×Int))(left:Lit->Bool)(ss:List a0l):Prop:=ss.Nodup/\(∀p∈ss,a7v p)/\∀p,a7v p->(p∈ss↔b1k l p=true/\left (klS p)=false)
theorem CollS.start {l:List (a0l×Int)}{D:DataW Unit}(h:∀p,a7v p->has D (klS p)=b1k l p):CollS l (has D) [] :=
 ⟨List.nodup_nil,by simp,λp hp=>by rw[h p hp];cases b1k l p <;> simp⟩
theorem CollS.step {l:List (a0l×Int)}{left:Lit->Bool}{ss:List a0l}(h:CollS l left ss){x:a0l}(hx:a7v x)(hl:left (klS x)=true)(hh:b1k l x=true):CollS l (λz=>left z&& !z.sameKey (klS x)) (ss++[x]):=by
 have cP:x∉ss:=λhm=>by have:=((h.2.2 x hx).1 hm).2;rw[hl]at this;cases this
 refine⟨List.nodup_append.2 ⟨h.1,by simp,λa ha b hb=>by simp at hb;subst hb;exact λe=>cP (e▸ha)⟩,λp hp=> ?_,λp hp=> ?_⟩
 ·rcases List.mem_append.1 hp with h1|h1
  ·exact h.2.1 p h1
  ·rw[show p=x by simpa using h1];exact hx
 ·rw[List.mem_append,h.2.2 p hp]
  show _↔_/\(left (klS p)&& !(klS p).sameKey (klS x))=false;rw[d3u hp hx];by_cases Lw:p=x
  ·subst Lw;simp[hh]
  ·simp[Lw]
theorem CollS.all {l:List (a0l×Int)}{left:Lit->Bool}{ss:List a0l}(h:CollS l left ss)(h0:∀kl,left kl=false)(hf:∀e∈l,a7v e.1):ss.Nodup/\∀p,p∈ss↔p∈l.map (·.1):=by
 refine⟨h.1,λp=> ?_⟩;constructor
 ·intro hp
  exact a2t.1 ((h.2.2 p (h.2.1 p hp)).1 hp).1
 ·intro hp
  obtain⟨e,he,rfl⟩:=List.mem_map.1 hp;exact(h.2.2 _ (hf e he)).2 ⟨a2t.2 hp,h0 _⟩
theorem d3v (F:Fence)(n:Nat)(hf:F.fn 162)(fU:F.round=none)(hn:1<=n)(l Bm b nn:Nat)(en:List (a0l×Int))(J Jx:List a0l->World->Prop)
 (hY:∀pre x W,J pre W->pre.length<nn->YieldAt F (n-1) prog l #[a5b x] W λe W' =>
  (e= .returned (.bool true)/\J (pre++[x]) W'/\KeepsWalks W W')\/(e= .returned (.bool false)/\Jx (pre++[x]) W'))
 (W:Wd) (hJ:AbidesFrom W.heap.size J) (hm:W.cell? ⟨Bm,0,none⟩=some (.map (some b))) (hM:MapIs W b nn en) (h0:J [] W) :
 CallsIn F n prog 162 #[.func (.yield l) #[] #[],.pointer (some ⟨Bm,0,none⟩)] W λe W'=>(∃v,e= .returned v) /\
  ((∃ss,(ss.Nodup/\∀p,p∈ss↔p∈en.map (·.1))/\J ss W')\/(∃pre,(pre.Nodup/\∀p∈pre,p∈en.map (·.1))/\Jx pre W')):=by
 obtain⟨D,aj,il,cJ,aQ⟩:=hM;refine callsIn_of_wp func162 rfl hf ?_ fU;simp only[ntmps162,List.size_toArray,List.length_cons,List.length_nil,Nat.reduceAdd,Nat.reduceSub,Array.replicate_succ,Array.replicate_zero,List.push_toArray,List.append_toArray,List.nil_append,List.cons_append];have Ck:=Lib.hid aQ;clear aQ;gi_wp2_with (first|(gi_at_range;refine wpListIn_range_own _ rfl _ 117 rfl 122 3 spotLaw underlying117 _ b nn _ rfl aj ?_;intro w0 tp tq tr)|gi_in)
 go_frame
 gi_loopw [3] (λ_ wr=>∃(left:Lit->Bool) (xf:Nat) (ss:List a0l),wr.ranges prog 122 (plainElem prog 3) b W.heap.size nn D left xf/\ss.length+xf<=Maps.size D/\CollS en left ss/\J ss wr)
  (λ_ wr=>wr.rangeLeft b W.heap.size)
 case atStart =>
  exact⟨_,_,[],tp,by simp,CollS.start (λp hp=>(Ck.out p hp).1),hJ [] W w0 none h0 tq (λr e=>by cases e)⟩
 case round =>
  obtain⟨left,xf,ss,uX,dN,hC,Ap⟩:=hrel;have bu:=aj.size_le;gi_wp2_with (first|(gi_at_next;refine wpListIn_next_ranges _ rfl _ rfl 122 spotLaw (plainElem prog 3) a5b id (λkey kl hk=>by obtain⟨x,_,hx,_⟩:=a3x hk;exact⟨x,hx⟩) (λv _ _=>⟨v,rfl⟩) b W.heap.size nn _ _ _ rfl uX ?_ ?_)|gi_in)
  ·intro fT pA
   gi_wp2;go_end0;exact⟨⟨_,rfl⟩,.inl ⟨ss,hC.all pA cJ,Ap⟩⟩
  ·intro x0 x1 c kl yd yp w2 xg qe cX hv bj tt ag cf cH jT
   obtain⟨x',fx,ex,rfl⟩:=a3x qe;obtain rfl:(x0,x1)=x':=by simp at ex;exact Prod.ext ex.1 ex.2
   have Og:J ss w2:=hJ ss wr w2 (some W.heap.size) Ap cf (λr e=>by cases e;exact⟨yR _,uX.iter_walk⟩);have qf:b1k en (x0,x1)=true:=by rw[<-(Ck.out (x0,x1) fx).1];exact has_true_of_atKey bj
   have rZ:=hC.step fx cX qf;clear cH qe qf;obtain⟨fn,tmps,assign,body,hy,hR⟩:=hY ss (x0,x1) (w2.alloc (.cells #[.int .i64 x0,.int .i64 x1] 122)) (hJ ss w2 _ none Og (World.grownBy_alloc w2 _ none) (λr e=>by cases e)) oM;gi_wp2;refine hR.mono ?_;rintro e W3 (⟨rfl,Cl,pB⟩|⟨rfl,hJx3⟩)
   ·gi_wp2
    have qg:=(tt.alloc (.cells #[.int .i64 x0,.int .i64 x1] 122)).of_walks pB;go_roundw
    case rel=>exact⟨_,xg,ss++[(x0,x1)],qg,by simp;omega,rZ,Cl⟩
    case measure=>rw[qg.left_eq,uX.left_eq];exact ag
   ·gi_wp2
    refine bodyPost_ret (results_none rfl _ _ _) rfl ?_;exact⟨⟨_,rfl⟩,.inr ⟨ss++[(x0,x1)],⟨rZ.1,λy hy=>by have fy:=rZ.2.1 y hy;exact a2t.1 ((rZ.2.2 y fy).1 hy).1⟩,hJx3⟩⟩
theorem c9f (F:Fence)(n:Nat)(hf:F.fn 124)(fU:F.round=none)(mb:Option Nat)(w:Wd) :
 CallsIn F n prog 124 #[.map mb] w λe w'=>e= .returned (.func (.func 162) #[] #[.pointer (some ⟨w.heap.size,0,none⟩)])/\w'=w.alloc (.cells #[.map mb] 117):=by
 refine callsIn_of_wp func124 rfl hf ?_ fU;simp only[ntmps124,List.size_toArray,List.length_cons,List.length_nil,Nat.reduceAdd,Nat.reduceSub,Array.replicate_succ,Array.replicate_zero,List.push_toArray,List.append_toArray,List.nil_append,List.cons_append];gi_wp2;go_ret;exact⟨rfl,rfl⟩
theorem b5a (F:Fence)(n:Nat)(hf:F.fn 162)(fU:F.round=none)(hn:1<=n)(Bm b nn:Nat)(en:List (a0l×Int))(w:Wd)(uY:Bm<w.heap.size)
 (hm:w.cell? ⟨Bm,0,none⟩=some (.map (some b))) (hM:MapIs w b nn en) :
 SeqStopsK F n prog 162 #[.pointer (some ⟨Bm,0,none⟩)] (λx:a0l=> #[a5b x]) KeepsWalks (λss=>ss.Nodup/\∀p,p∈ss↔p∈en.map (·.1)) (λpre=>pre.Nodup/\∀p∈pre,p∈en.map (·.1)) nn w:=λl J Jx W hW hJ _ hY h0 =>
 d3v F n hf fU hn l Bm b nn en J Jx hY W hJ ((hW.cell (p:=⟨Bm,0,none⟩) uY).trans hm) (hM.below hW hM.lt) h0
end
section
open Go.RowKit Go.Shelf
variable{a b hi lo m n r x y:Int}{xs:List Value}{base k size:Nat}{e:Td}{v:Vu}{W:Wd}
theorem c9g {β:Type}(B:Nat)(t:Td)(f:β->Array Value):Own (λs W=>Blk W B (f s) t):=λs X Y row hs hg ae =>
 hs.kept hg (λe'=>by obtain⟨o,ho,hc⟩:=ae B e';rw[show X.heap[B]? =_ from hs]at ho;cases ho;cases hc)
theorem b6m (h:W.ownsRow base e size v k xs):∀(j:Nat) (o:Obj),v.ownBlock=some j->W.heap[j]? =some o->o.isCells=true:=by
 intro j o hj ho;rcases h.2 with⟨rfl,_⟩|⟨g,cap,cur,rfl,_,ik,_⟩
 ·simp[Value.ownBlock]at hj
 ·have:g=j:=by simpa[Value.ownBlock]using hj
  subst this;rw[ik]at ho;cases ho;rfl
theorem d3w:(prog.info? 122).map (λi=>(i.zero,i.size,i.bytes))=some (some (.agg #[.int .i64 0,.int .i64 0]),2,16):=by kernel_rfl
structure ApI (w:Wd)(B:Nat)(pre:List a0l)(W:Wd):Prop where
 box:∃v,Blk W B #[v] 188/\W.ownsRow w.heap.size 122 2 v pre.length (pre.flatMap a6j)/\(v= .slice none 0 0↔pre=[])
 below:Below w.heap.size w W
theorem d7s (w:Wd)(B B':Nat)(hB:w.heap.size<=B'):OwnFrom B' (ApI w B):=λs X Y row hs hg hr=>by
 obtain⟨v,hb,ae,hn⟩:=hs.box;exact⟨⟨v,hb.kept hg (λe'=>by obtain⟨-,o,ho,hc⟩:=hr B e';rw[show X.heap[B]? =_ from hb]at ho;cases ho;cases hc),
  a0s ae hg (λr e=>by obtain⟨-,o,ho,hc⟩:=hr r e;exact⟨o,ho,λcur e=>by subst e;cases hc⟩),hn⟩,hs.below.grown hg hs.below.size (λk e=>Nat.le_trans hB (hr k e).1)⟩
theorem b8s (F:Fence)(n:Nat)(hf:F.fn 179)(fU:F.round=none)(hn:2<=n)(g:Nat)(lb:Array Value)(ou:F.fn g)(eg:∀args w,(callFunc g args).run prog w= .ok (.enter g args) w)
 (S Sp:List a0l->Prop) (N:Nat) (hN:N<=4294967296) (w:Wd) (bN:SeqStopsK F (n-1) prog g lb (λx:a0l=> #[a5b x]) KeepsWalks S Sp N w) :
 CallsIn F n prog 179 #[.slice none 0 0,.func (.func g) #[] lb] w λe w'=>∃v ss,e= .returned v/\S ss/\w'.ownsRow w.heap.size 122 2 v ss.length (ss.flatMap a6j)/\(v= .slice none 0 0↔ss=[])/\Below w.heap.size w w':=by
 have h1:1<=n:=oM;obtain⟨i0,aT,bM,aW,bF⟩:=info_parts d3w;refine callsIn_of_wp_marks func179 rfl hf ?_ fU;simp only[ntmps179,List.size_toArray,List.length_cons,List.length_nil,Nat.reduceAdd,Nat.reduceSub,Array.replicate_succ,Array.replicate_zero,List.push_toArray,List.append_toArray,List.nil_append,List.cons_append];gi_wp2;have bS:=Blk.new w #[.slice none 0 0] 188;obtain⟨W0,eA⟩:=zE (w.alloc (.cells #[.slice none 0 0] 188));have sd:Below w.heap.size w W0:=by rw[<-eA];exact zC
 have bu:W0.heap.size=w.heap.size+1:=by rw[<-eA];simp
 rw[eA]at bS ⊢;clear eA;refine wpIn_rangeFunc_ownH fU h1 (gf:=g) (lb:=lb) rfl ou eg bN walksK_t walksK_b sd (λ_=>rfl)
  (ApI w w.heap.size) (λ_ _ _=>False)
  (d7s w _ _ oM) (λc=>ownFrom_pure _ _)
  ⟨⟨_,bS,⟨rfl,.inl ⟨rfl,rfl⟩⟩,by simp⟩,sd⟩
  (λx a' W=>∃Bx,w.heap.size<Bx/\Blk W Bx #[.int .i64 x.1,.int .i64 x.2] 122/\a'={ tmps:= #[.slice none 0 0,.func (.func g) #[] lb,.pointer (some ⟨w.heap.size,0,none⟩),undef,.slice none 0 0,.pointer (some ⟨Bx,0,none⟩),.func (.func g) #[] lb,a5b x,undef,undef,undef,undef,undef],defers:=[] })
  (λx a' _ X Y row hs hg hr=>by obtain⟨Bx,h1,h2,h3⟩:=hs;exact⟨Bx,h1,c9g Bx 122 (λ(_:Unit)=> #[Value.int .i64 x.1,Value.int .i64 x.2]) () X Y row h2 hg (λr e=>(hr r e).2),h3⟩)
  ?assign ?body ?done ?stop
 case assign =>
  rintro l pre x W K⟨⟨v,se,ae,iO⟩,dq⟩ hK;gi_wp2;have ag:=se.lt;exact hK _ _ ((KeepsOthers.alloc _ _).from _) (KeepsWalks.alloc _ _) ⟨⟨v,se.alloc _,ae.alloc _,iO⟩,dq.alloc dq.size _⟩ ⟨W.heap.size,oM,Blk.new W _ _,rfl⟩
 case body =>
  rintro l pre x a' W hl⟨r,hr⟩ ⟨⟨v,se,ae,iO⟩,dq⟩ ⟨Bx,qh,bX,rfl⟩ ag;have cS:W.cell? ⟨w.heap.size,0,none⟩=some v:=se.cell 0;have fS:=se.frozen 0;have Lx:W.cell? ⟨Bx,0,none⟩=some (.int .i64 x.1):=bX.cell 0;have Ly:W.cell? ⟨Bx,1,none⟩=some (.int .i64 x.2):=bX.cell 1;obtain⟨x0,x1⟩:=x;simp only at Lx Ly;have av:188≠122:=jM;have gT:=a0n (ae.alloc (.cells #[.int .i64 x0,.int .i64 x1] 122)) (se.alloc _) av;have G7:=dq.size;have cC:∀j u,(a6j (x0,x1))[j]? =some u->(W.alloc (.cells #[.int .i64 x0,.int .i64 x1] 122)).cell? ((⟨W.heap.size,0,none⟩:Addr).add j)=some u:=λj u hj=>by
   have hb:=(Blk.new W #[.int .i64 x0,.int .i64 x1] 122).cell j;rw[Go.WideShapes.add_plain,Nat.zero_add,hb];match j,hj with
   |0,hj=>exact hj
   |1,hj=>exact hj
   |j+2,hj=>simp at hj
  have Oh:∀u∈a6j (x0,x1),u.oneCell'=true:=by simp[Value.oneCell']
  gi_wp2_with (first|(gi_at_builtin;refine wpListIn_append_own _ qM _ _ 188 qM w.heap.size 122 i0 _ 2 16 underlying188 aT bM aW bF qM jM v pre.length _ qM (ae.alloc _) ⟨W.heap.size,0,none⟩ 1 1 (a6j (x0,x1)) qM qM cC Oh oK oM uM ?_;intro v' w3 bW Cm Lz;have Fk:=(se.alloc (.cells #[.int .i64 x0,.int .i64 x1] 122)).kept Cm gT;have Tw:w3.cell? ⟨w.heap.size,0,none⟩=some v:=Fk.cell 0;have Tx:=Fk.frozen 0;obtain⟨g',aI,rfl⟩:∃g' aI,v'= .slice (some ⟨g',0,none⟩) (pre.length+1) aI:=(by rcases bW.2 with⟨_,h0⟩|⟨g',aI,cur',e',_⟩;exact absurd h0 oM;exact⟨g',aI,e'⟩);go_frame)|gi_in)
  have tu:KeepsOthers W (w3.setCell ⟨w.heap.size,0,none⟩ (.slice (some ⟨g',0,none⟩) (pre.length+1) aI)) :=
   (KeepsOthers.alloc _ _).trans ((KeepsOthers.of_grownBy Cm (b6m (ae.alloc _))).trans (KeepsOthers.setCell _ _ _))
  have aN:Below w.heap.size w w3:=(dq.alloc G7 _).grown Cm uM (λk e=>(ae.lt k e).1);refine⟨tu.from _,tu.walks,⟨⟨_,by have:=Fk.set 0 (.slice (some ⟨g',0,none⟩) (pre.length+1) aI);simpa using this,?_,by simp⟩,aN.setCell (p:=⟨w.heap.size,0,none⟩) (yR _) _⟩⟩;have:=bW.kept (grownBy_setCell' w3 w.heap.size (.slice (some ⟨g',0,none⟩) (pre.length+1) aI)) (.inr (a0n bW Fk av));simpa using this
 case done =>
  rintro D ys W hD hS⟨⟨v,se,ae,iO⟩,dq⟩ hK;have cS:W.cell? ⟨w.heap.size,0,none⟩=some v:=se.cell 0;have fS:=se.frozen 0;gi_wp2;refine⟨by simp,.inl ⟨_,_,rfl,run_takeDeferred hK,?_⟩⟩;exact⟨_,results_tmp rfl _ _ _,v,ys,rfl,hS,a0s ae (grownBy_putObj' _ _ _) (λr e=>by cases e;exact⟨_,hK,λcur e=>by cases e⟩),iO,dq.grown (grownBy_putObj' _ _ _) dq.size (λk e=>by cases e;omega)⟩
 case stop =>
  rintro D c pre W hD hS hF hK;exact hF.elim
theorem b5b (F:Fence)(n:Nat)(hf:F.fn 160)(og:F.fn 179)(fU:F.round=none)(hn:3<=n)(g:Nat)(lb:Array Value)(ou:F.fn g)(eg:∀args w,(callFunc g args).run prog w= .ok (.enter g args) w)
 (S Sp:List a0l->Prop) (N:Nat) (hN:N<=4294967296) (w:Wd) (bN:SeqStopsK F (n-1-1) prog g lb (λx:a0l=> #[a5b x]) KeepsWalks S Sp N w) :
 CallsIn F n prog 160 #[.func (.func g) #[] lb] w λe w'=>∃v ss,e= .returned v/\S ss/\w'.ownsRow w.heap.size 122 2 v ss.length (ss.flatMap a6j)/\(v= .slice none 0 0↔ss=[])/\Below w.heap.size w w':=by
 have h1:1<=n:=oM;refine callsIn_of_wp func160 rfl hf ?_ fU;simp only[ntmps160,List.size_toArray,List.length_cons,List.length_nil,Nat.reduceAdd,Nat.reduceSub,Array.replicate_succ,Array.replicate_zero,List.push_toArray,List.append_toArray,List.nil_append,List.cons_append];gi_wp2_with (gi_at_call 179;refine(b8s F (n-1) og fU oM g lb ou eg S Sp N hN _ bN).mono ?_;rintro e w'⟨v,ss,rfl,hS,ae,iO,hb⟩)
 go_ret;exact⟨v,ss,rfl,hS,ae,iO,hb⟩
theorem c6m (n lo hi:Int)(w:Wd):
 Calls prog 59 #[.int .i64 n,.int .i64 lo,.int .i64 hi] w λe w'=>e= .returned (.bool (decide (lo<=n)&&decide (n<=hi)))/\w=w':=by
 go_enter func59,ntmps59;exact ykw
theorem c1w (hb:0<b):a / b=if a.tmod b<0 then a.tdiv b-1 else a.tdiv b:=by
 have h1:=Int.mul_tdiv_add_tmod a b;have h2:=Int.lt_tmod_of_pos a hb;have h3:=Int.tmod_lt_of_pos a hb;split
 ·refine((Int.ediv_emod_unique (a:=a) (b:=b) (r:=a.tmod b+b) (q:=a.tdiv b-1) hb).2 ⟨?_,?_,?_⟩).1
  ·rw[Int.mul_sub];omega
  ·omega
  ·omega
 ·refine((Int.ediv_emod_unique (a:=a) (b:=b) (r:=a.tmod b) (q:=a.tdiv b) hb).2 ⟨?_,?_,?_⟩).1
  ·omega
  ·omega
  ·omega
theorem b6n (hb:0<b)(h0 : -m<=a)(h1:a<=m): -m<=a.tdiv b/\a.tdiv b<=m:=by
 have h:(a.tdiv b).natAbs=a.natAbs / b.natAbs:=Int.natAbs_tdiv a b;have h2:a.natAbs / b.natAbs<=a.natAbs:=Nat.div_le_self _ _;omega
theorem c9h (hb:0<b)(h0 : -m<=a)(h1:a<=m): -m<=a / b/\a / b<=m:=by
 have h:=Int.ediv_nonneg (a:=a+b*m) (b:=b) (by have:1*m<=b*m:=Int.mul_le_mul_of_nonneg_right oM oM;omega) oM;rw[Int.add_mul_ediv_left _ _ oM]at h;have:=Int.ediv_le_self b (a:=a);have h3:=(b6n hb h0 h1).2;have h4:=c1w (a:=a) hb;split at h4 <;> omega
theorem c9i (a b:Int)(w:Wd)(hb:0<b)(h0 : -4611686018427387904<=a)(h1:a<=4611686018427387904):
 Calls prog 140 #[.int .i64 a,.int .i64 b] w λe w'=>e= .returned (.int .i64 (a / b))/\w=w':=by
 obtain⟨q0,q1⟩:=b6n hb h0 h1;have ed:¬b=0:=oM;have he:=c1w (a:=a) hb;go_enter func140,ntmps140;by_cases hs:a.tmod b<0
 ·rw[if_pos hs]at he
  replace he:=Lib.hid he;exact ygt
 ·rw[if_neg hs]at he
  replace he:=Lib.hid he;exact ygt
def a1j (x y:Int):Bool:=decide (-16384<=x)&&decide (x<=16384)&&(decide (-16384<=y)&&decide (y<=16384))
theorem c9j (x:Int)(b:Nat)(w:Wd)(hc:w.cell? ⟨b,0,none⟩=some (.int .i64 16384)):
 Calls prog 155 #[.int .i64 x,.pointer (some ⟨b,0,none⟩)] w λe w'=>e= .returned (.bool (!(decide (-16384<=x)&&decide (x<=16384))))/\∃q,w'=w.drewN q:=by
 go_enter func155,ntmps155;by_cases h1:x < -16384
 ·go_wp2_with fail
  go_ret;exact⟨by simp;omega,0,rfl⟩
 ·by_cases h2:16384<x
  ·go_wp2_with fail
   go_ret;exact⟨by simp;omega,0,rfl⟩
  ·go_wp2_with fail
   go_ret;exact⟨by simp <;> omega,0,rfl⟩
theorem e0d (b:Nat)(w:Wd)(hb:b<w.heap.size)(hc:w.cell? ⟨b,0,none⟩=some (.int .i64 16384)):
 PredAt prog 155 #[.pointer (some ⟨b,0,none⟩)] (Value.int .i64) (λx=> !(decide (-16384<=x)&&decide (x<=16384))) w:=λW x h =>
 c9j x b W ((h.cell (p:=⟨b,0,none⟩) hb).trans hc)
theorem c1x (x y:Int)(b:Nat)(w:Wd)(h0:w.cell? ⟨b,0,none⟩=some (.int .i64 x))(h1:w.cell? ⟨b,1,none⟩=some (.int .i64 y)):
 Zc prog 112 #[.int .i64 16384,.slice (some ⟨b,0,none⟩) 2 2] w (.bool (a1j x y)):=by
 have pA:=World.block_lt_of_cell? _ _ h0;have Oi:∀args w,(callFunc 155 args).run prog w= .ok (.enter 155 args) w:=enters_of func155 zM rfl;have cD:=Go.Proofs.Tryz.slices_ContainsFunc (Value.int .i64) (λx=> !(decide (-16384<=x)&&decide (x<=16384))) 155 #[.pointer (some ⟨w.heap.size,0,none⟩)] Oi b 0 2 2 [x,y] (w.alloc (.cells #[.int .i64 16384] 3))
  (e0d w.heap.size _ vM vM) (yR 2) oM (λj hj=>by
   refine Lib.cell?_alloc_some _ ?_;match j,hj with
   |0,_=>exact h0
   |1,_=>exact h1)
 have hr:(([x,y].take 2).any λx=> !(decide (-16384<=x)&&decide (x<=16384)))= !a1j x y:=by simp[a1j]
 rw[hr]at cD;clear hr;generalize hg:a1j x y=r at cD ⊢;clear hg;go_enter func112,ntmps112;go_wp2_with (go_at_call 154;refine cD.mono ?_;rintro e w'⟨rfl,q,rfl⟩);go_ret;exact⟨by simp,below_drewN' ((zR _ w).alloc (yR _) _) q⟩
theorem c9k (x y:Int)(w:Wd):
 Zc prog 60 #[.agg #[.int .i64 x,.int .i64 y]] w (.bool (a1j x y)):=by
 go_enter func60,ntmps60;go_wp2_with (go_at_call 112;refine(c1x x y _ _ vM vM).mono ?_;rintro e w'⟨rfl,al⟩;obtain⟨p,rfl⟩:=a0c al;clear al);exact ybs
structure Sh where
 ax:Int
 ay:Int
 st:Int
 w:Int
 h:Int
 g:Int
abbrev shV (s:Sh):Value:= .agg #[.int .i64 s.ax,.int .i64 s.ay,.int .i64 s.st,.int .i64 s.w,.int .i64 s.h,.int .i64 s.g]
def inR (lo n hi:Int):Bool:=decide (lo<=n)&&decide (n<=hi)
theorem a9s:inR lo n hi=true↔lo<=n/\n<=hi:=by simp[inR]
def a1h (s:Sh):Int :=
 if inR 1 s.st 1024&&inR 1 s.w 80&&inR 1 s.h 80&&inR 1 s.g 4 then
  if a1j s.ax s.ay&&a1j (s.ax+s.w*s.st) (s.ay+s.h*s.st)then 0 else 10
 else 3
theorem a3y {b:Bool}(h:inR lo n hi=b)(w:Wd):
 Calls prog 59 #[.int .i64 n,.int .i64 lo,.int .i64 hi] w λe w'=>e= .returned (.bool b)/\w=w':=by
 have h':=c6m n lo hi w;rw[show(decide (lo<=n)&&decide (n<=hi))=b from h]at h';exact h'
theorem a8q {b:Bool}(h:a1j x y=b)(w:Wd):
 Zc prog 60 #[.agg #[.int .i64 x,.int .i64 y]] w (.bool b):=by
 have h':=c9k x y w;rw[h]at h';exact h'
theorem d7t (x y a b:Int)(w:Wd)(h1 : -4611686018427387904<=x)(h2:x<=4611686018427387903)(h3 : -4611686018427387904<=y)(h4:y<=4611686018427387903)(h5 : -4611686018427387904<=a)(h6:a<=4611686018427387903)(h7 : -4611686018427387904<=b)(h8:b<=4611686018427387903):
 Zc prog 61 #[.agg #[.int .i64 x,.int .i64 y],.agg #[.int .i64 a,.int .i64 b]] w (.agg #[.int .i64 (x+a),.int .i64 (y+b)]):=by
 go_enter func61,ntmps61;go_wp2_with fail;exact bodyPost_ret (v:= .agg #[.int .i64 (x+a),.int .i64 (y+b)]) (by simp[results,results61,go_sem]) rfl ⟨rfl,zC⟩
theorem c9l (s:Sh)(w:Wd)(f0:fits s.ax)(f1:fits s.ay):
 Zc prog 22 #[shV s] w (.int .i64 (a1h s)):=by
 obtain⟨ax,ay,st,W,H,G⟩:=s;obtain⟨b1,h1⟩:=zE (inR 1 st 1024);obtain⟨b2,h2⟩:=zE (inR 1 W 80);obtain⟨b3,h3⟩:=zE (inR 1 H 80);obtain⟨b4,h4⟩:=zE (inR 1 G 4);obtain⟨b5,h5⟩:=zE (a1j ax ay);obtain⟨b6,h6⟩:=zE (a1j (ax+W*st) (ay+H*st));have hr:a1h ⟨ax,ay,st,W,H,G⟩=if b1&&b2&&b3&&b4 then(if b5&&b6 then 0 else 10)else 3:=by
  unfold a1h;simp only[h1,h2,h3,h4,h5,h6]
 rw[hr];clear hr
 cases b1 with
 |false =>
  replace h1:=Lib.hid h1;clear h2 h3 h4 h5 h6;go_enter func22,ntmps22;exact yim
 |true =>
 cases b2 with
 |false =>
  replace h1:=Lib.hid h1;replace h2:=Lib.hid h2;clear h3 h4 h5 h6;go_enter func22,ntmps22;exact yhb
 |true =>
 cases b3 with
 |false =>
  replace h1:=Lib.hid h1;replace h2:=Lib.hid h2;replace h3:=Lib.hid h3;clear h4 h5 h6;go_enter func22,ntmps22;go_wp2_with (go_at_call 59;refine(a3y (by first|with_reducible exact h1.out|with_reducible exact h2.out|with_reducible exact h3.out) _).mono ?_;rintro e w'⟨rfl,rfl⟩);exact ybs
 |true =>
 cases b4 with
 |false =>
  replace h1:=Lib.hid h1;replace h2:=Lib.hid h2;replace h3:=Lib.hid h3;replace h4:=Lib.hid h4;clear h5 h6;go_enter func22,ntmps22;go_wp2_with (go_at_call 59;refine(a3y (by first|with_reducible exact h1.out|with_reducible exact h2.out|with_reducible exact h3.out|with_reducible exact h4.out) _).mono ?_;rintro e w'⟨rfl,rfl⟩);exact ybs
 |true =>
 have q1:=a9s.1 h1;have q2:=a9s.1 h2;have q3:=a9s.1 h3;obtain⟨Fl,uZ⟩:=q1;obtain⟨Br,wP⟩:=q2;obtain⟨Fm,Aq⟩:=q3;have m1:=Int.mul_le_mul (a:=W) (b:=st) (c:=80) (d:=1024) wP uZ oM oM;have m2:=Int.mul_le_mul (a:=H) (b:=st) (c:=80) (d:=1024) Aq uZ oM oM;have m3:=Int.mul_nonneg (a:=W) (b:=st) oM oM;have m4:=Int.mul_nonneg (a:=H) (b:=st) oM oM;have m1:W*st<=81920:=m1;have m2:H*st<=81920:=m2
 cases b5 with
 |false =>
  replace h1:=Lib.hid h1;replace h2:=Lib.hid h2;replace h3:=Lib.hid h3;replace h4:=Lib.hid h4;replace h5:=Lib.hid h5;clear h6;go_enter func22,ntmps22;go_wp2_with (first|(go_at_call 59;refine(a3y (by first|with_reducible exact h1.out|with_reducible exact h2.out|with_reducible exact h3.out|with_reducible exact h4.out) _).mono ?_;rintro e w'⟨rfl,rfl⟩)|(go_at_call 60;refine(a8q (by first|with_reducible exact h5.out) _).mono ?_;rintro e w'⟨rfl,al⟩;obtain⟨p,rfl⟩:=a0c al;clear al));exact ybs
 |true =>
 have q5:(-16384<=ax/\ax<=16384) /\ -16384<=ay/\ay<=16384:=by simpa[a1j]using h5
 obtain⟨⟨Oj,Ol⟩,Om,On⟩:=q5
 cases b6 with
 |false =>
  exact ybj
 |true =>
  exact ybj
def c1y (s:Sh)(x:Int):Int:=(x-s.ax) / s.st
def c1z (s:Sh)(y:Int):Int:=(y-s.ay) / s.st
def onS (s:Sh)(i j:Int):Bool:=inR 0 i (s.w-1)&&inR 0 j (s.h-1)
structure OkS (s:Sh):Prop where
 st0:1<=s.st
 st1:s.st<=1024
 w0:1<=s.w
 w1:s.w<=80
 h0:1<=s.h
 h1:s.h<=80
 x0 : -16384<=s.ax
 x1:s.ax<=16384
 y0 : -16384<=s.ay
 y1:s.ay<=16384
theorem a2u:a1j x y=true↔(-16384<=x/\x<=16384) /\ -16384<=y/\y<=16384:=by simp[a1j]
theorem a4l {s:Sh}(h:a1h s=0):OkS s:=by
 unfold a1h at h;split at h
 ·rename_i h1
  split at h
  ·rename_i h2
   simp only[Bool.and_eq_true,a9s,a2u]at h1 h2;exact⟨oM,oM,oM,oM,oM,oM,oM,oM,oM,oM⟩
  ·omega
 ·omega
theorem b1p (hr:a / b=r)(w:Wd)(hb:0<b)(h0 : -4611686018427387904<=a)(h1:a<=4611686018427387904):
 Calls prog 140 #[.int .i64 a,.int .i64 b] w λe w'=>e= .returned (.int .i64 r)/\w=w':=by
 have h:=c9i a b w hb h0 h1;rw[hr]at h;exact h
theorem c9m (s:Sh)(x y i j:Int)(w:Wd)(hi:c1y s x=i)(hj:c1z s y=j)(hs:OkS s)(x0 : -1048576<=x)(x1:x<=1048576)(y0 : -1048576<=y)(y1:y<=1048576):
 Zc prog 83 #[shV s,.agg #[.int .i64 x,.int .i64 y]] w (.agg #[.int .i64 i,.int .i64 j]):=by
 obtain⟨ax,ay,st,W,H,G⟩:=s;obtain⟨s0,s1,-,-,-,-,a0,a1,b0,b1⟩:=hs;simp only[c1y,c1z]at hi hj s0 s1 a0 a1 b0 b1;replace hi:=Lib.hid hi;replace hj:=Lib.hid hj;go_enter func83,ntmps83;go_wp2_with fail;first|with_reducible refine a0h 19 zM zM ?_|with_reducible refine a0i 19 zM zM ?_
 simp only[zT];repeat(first|go_big_quiet_step ((go_at_call 140;exact Calls.grow_of_same (b1p (by first|with_reducible exact hi.out|with_reducible exact hj.out) _ oM oM oM)))|quiet_step ((go_at_call 140;exact Calls.grow_of_same (b1p (by first|with_reducible exact hi.out|with_reducible exact hj.out) _ oM oM oM))))
 refine wpQuiet_nil ?_;intro _ bh;obtain⟨p,bh⟩:=bh;subst bh;go_wp2_with fail;exact bodyPost_ret (v:= .agg #[.int .i64 i,.int .i64 j]) (by simp[results,results83,go_sem]) rfl ⟨rfl,zC⟩
theorem b5c (s:Sh)(i j:Int)(b:Bool)(w:Wd)(hb:onS s i j=b)(hs:OkS s):
 Zc prog 67 #[shV s,.agg #[.int .i64 i,.int .i64 j]] w (.bool b):=by
 obtain⟨ax,ay,st,W,H,G⟩:=s;obtain⟨s0,s1,u0,u1,v0,v1,a0,a1,b0,b1⟩:=hs;simp only[onS]at hb u0 u1 v0 v1;obtain⟨c1,h1⟩:=zE (inR 0 i (W-1));obtain⟨c2,h2⟩:=zE (inR 0 j (H-1));rw[h1,h2]at hb;subst hb;replace h1:=Lib.hid h1;replace h2:=Lib.hid h2
 cases c1
 ·go_enter func67,ntmps67
  exact yim
 ·go_enter func67,ntmps67
  exact yhb
def ofS (s:Sh)(x y:Int):Int×Int×Bool :=
 if a1h s=0/\a1j x y=true/\onS s (c1y s x) (c1z s y)=true then(c1y s x,c1z s y,true)else(0,0,false)
theorem a8r {s:Sh}(hr:a1h s=r)(w:Wd)(f0:fits s.ax)(f1:fits s.ay):
 Zc prog 22 #[shV s] w (.int .i64 r):=by
 have h:=c9l s w f0 f1;rw[hr]at h;exact h
theorem d7u (s:Sh)(x y:Int)(w:Wd)(f0:fits s.ax)(f1:fits s.ay):
 Zc prog 62 #[shV s,.agg #[.int .i64 x,.int .i64 y]] w (.tuple #[.int .i64 (ofS s x y).1,.int .i64 (ofS s x y).2.1,.bool (ofS s x y).2.2]):=by
 by_cases hc:a1h s=0
 ·have hs:=a4l hc
  obtain⟨b1,h1⟩:=zE (a1j x y);obtain⟨i,hi⟩:=zE (c1y s x);obtain⟨j,hj⟩:=zE (c1z s y);obtain⟨b2,h2⟩:=zE (onS s i j);have hr:ofS s x y=if b1=true/\b2=true then(i,j,true)else(0,0,false):=by
   unfold ofS;simp only[hc,h1,hi,hj,h2,true_and]
  rw[hr];clear hr;replace hc:=Lib.hid hc
  cases b1 with
  |false =>
   replace h1:=Lib.hid h1;replace hi:=Lib.hid hi;replace hj:=Lib.hid hj;obtain⟨ax,ay,st,W,H,G⟩:=s;clear h2;have sf:(if false=true/\b2=true then(i,j,true)else(0,0,false))=((0,0,false):Int×Int×Bool):=by simp
   rw[sf];clear sf;go_enter func62,ntmps62;go_wp2_with (first|(go_at_call 22;refine(a8r hc.out _ f0 f1).mono ?_;rintro e w'⟨rfl,al⟩;obtain⟨p,rfl⟩:=a0c al;clear al)|(go_at_call 60;refine(a8q h1.out _).mono ?_;rintro e w'⟨rfl,al⟩;obtain⟨p,rfl⟩:=a0c al;clear al));exact yis
  |true =>
   obtain⟨⟨x0,x1⟩,y0,y1⟩:=a2u.1 h1;replace h1:=Lib.hid h1;replace hi:=Lib.hid hi;replace hj:=Lib.hid hj;replace h2:=Lib.hid h2;obtain⟨ax,ay,st,W,H,G⟩:=s
   cases b2 <;>
   ·go_enter func62,ntmps62
    go_wp2_with (first|(go_at_call 22;refine(a8r hc.out _ f0 f1).mono ?_;rintro e w'⟨rfl,al⟩;obtain⟨p,rfl⟩:=a0c al;clear al)|(go_at_call 60;refine(a8q h1.out _).mono ?_;rintro e w'⟨rfl,al⟩;obtain⟨p,rfl⟩:=a0c al;clear al)|(go_at_call 83;refine(c9m ⟨ax,ay,st,W,H,G⟩ x y i j _ hi.out hj.out hs oM oM oM oM).mono ?_;rintro e w'⟨rfl,al⟩;obtain⟨p,rfl⟩:=a0c al;clear al)|(go_at_call 67;refine(b5c ⟨ax,ay,st,W,H,G⟩ i j _ _ h2.out hs).mono ?_;rintro e w'⟨rfl,al⟩;obtain⟨p,rfl⟩:=a0c al;clear al));first
     |exact bodyPost_ret (v:= .tuple #[.int .i64 0,.int .i64 0,.bool false]) (by simp[results,results62,go_sem]) rfl ⟨rfl,zC⟩
     |skip
    all_goals
     refine zR0 λp=> ?_
     go_wp2_with fail;exact bodyPost_ret (v:= .tuple #[.int .i64 i,.int .i64 j,.bool true]) (by simp[results,results62,go_sem]) rfl ⟨rfl,zC⟩
 ·have hr:ofS s x y=(0,0,false):=by unfold ofS;rw[if_neg (λh=>hc h.1)]
  rw[hr];clear hr;obtain⟨c,lI⟩:=zE (a1h s);rw[lI]at hc;replace lI:=Lib.hid lI;obtain⟨ax,ay,st,W,H,G⟩:=s;go_enter func62,ntmps62;go_wp2_with (go_at_call 22;refine(a8r lI.out _ f0 f1).mono ?_;rintro e w'⟨rfl,al⟩;obtain⟨p,rfl⟩:=a0c al;clear al);exact yis
theorem a0t {w w':Wd}(h:Below w.heap.size w w'):w.grownBy w' none:=⟨h.os,h.tape,h.output,h.size,λk hk _=>h.block k hk⟩
theorem a0r {W':Wd}(h:W.ownsRow base e size v k xs)(hb:Below W.heap.size W W'):W'.ownsRow base e size v k xs:=a0s h (a0t hb) (λr e=>by cases e)
end
section
open Go.RowKit Go.Shelf Go.Sort Go.Lib
variable{a b:Int}
def d7d (p q:a0l):Int:=if compareInt p.2 q.2=0 then compareInt p.1 q.1 else compareInt p.2 q.2
theorem c5d:compareInt a b<0↔a<b:=by
 unfold compareInt;split
 ·simp;assumption
 ·exact ykx
theorem c5e:compareInt a b=0↔a=b:=by
 unfold compareInt;split
 ·simp;omega
 ·exact ykx
def ltS (p q:a0l):Bool:=decide (p.2<q.2)||(decide (p.2=q.2)&&decide (p.1<q.1))
theorem a8s (p q:a0l):ltOf d7d p q=ltS p q:=by
 unfold ltOf d7d ltS;by_cases h:p.2=q.2
 ·rw[if_pos (c5e.2 h)]
  simp[h,c5d]
 ·rw[if_neg (λe=>h (c5e.1 e))]
  simp[h,c5d]
theorem e4f:SWO (ltOf d7d) where
 irrefl x:=by rw[a8s];simp[ltS]
 trans x y z h1 h2:=by rw[a8s]at *;simp[ltS]at *;omega
 ntrans x y z h1 h2:=by rw[a8s]at *;simp[ltS]at *;omega
theorem a7r {P:Program}{id:Nat}{Q:Exit->Act->World->Prop}{a:Act}{w:Wd}{l:List Oper}(n:Nat)(hm:P.follows .mixedOrders=true)(hB:Region.lexTailB .any l.toArray n=true)
 (h:wpQuiet P l.toArray (λw'=>∃p:GrownBy,w'=grow (w.drewN p.n) p.os) (λa'=>∀w',(∃p:GrownBy,w'=grow (w.drewN p.n) p.os)->wpList P l.toArray Q (l.drop n) a' w') (l.take n) a):(Code.region id l.toArray true).wp P Q a w :=
 a5a n hm hB ⟨⟨1,#[]⟩,by rw[grow_empty];rfl⟩ h
theorem b8t (x y:Int)(r:Int)(hr:compareInt x y=r)(w:Wd)(n:Nat)(os:Array Obj):
 Calls prog 105 #[.int .i64 x,.int .i64 y] (grow (w.drewN n) os) λe cq=>e= .returned (.int .i64 r)/\∃p:GrownBy,cq=grow (w.drewN p.n) p.os :=
 (Go.Proofs.Tryz.cmp_Compare_int x y _).mono λ_ _ ⟨he,hw⟩=>⟨by rw[he,hr],⟨n,os⟩,by first|exact hw|exact hw.symm⟩
theorem d3x (p q:a0l)(w:Wd):
 Calls prog 125 #[a5b p,a5b q] w λe w'=>e= .returned (.int .i64 (d7d p q))/\∃m Ld,w'=grow (w.drewN m) Ld:=by
 obtain⟨px,py⟩:=p;obtain⟨qx,qy⟩:=q;obtain⟨r,hr⟩:=zE (d7d (px,py) (qx,qy));rw[hr];unfold d7d at hr;simp only at hr;obtain⟨c1,h1⟩:=zE (compareInt py qy);obtain⟨c2,h2⟩:=zE (compareInt px qx);rw[h1,h2]at hr;replace h1:=Lib.hid h1;replace h2:=Lib.hid h2;replace hr:=Lib.hid hr;go_enter func125,ntmps125;go_wp2_with fail;obtain⟨W,hW⟩:=zE ((w.alloc (.cells #[.int .i64 px,.int .i64 py] 122)).alloc (.cells #[.int .i64 qx,.int .i64 qy] 122));have k1:=(Blk.new w #[.int .i64 px,.int .i64 py] 122).alloc (.cells #[.int .i64 qx,.int .i64 qy] 122);have k2:=Blk.new (w.alloc (.cells #[.int .i64 px,.int .i64 py] 122)) #[.int .i64 qx,.int .i64 qy] 122;simp only[World.size_alloc]at k2;rw[hW]at k1 k2 ⊢;have f0:=λn os=>cell_grown (a:=⟨w.heap.size,0,none⟩) k1.lt (k1.cell 0) n os
 have f1:=λn os=>cell_grown (a:=⟨w.heap.size,1,none⟩) k1.lt (k1.cell 1) n os
 have f2:=λn os=>cell_grown (a:=⟨w.heap.size+1,0,none⟩) k2.lt (k2.cell 0) n os
 have f3:=λn os=>cell_grown (a:=⟨w.heap.size+1,1,none⟩) k2.lt (k2.cell 1) n os
 simp at f0 f1 f2 f3;replace hW:=Lib.hid hW;refine a7r 10 zM zM ?_;simp only[zT];repeat(first|go_big_quiet_step ((go_at_call 105;exact b8t _ _ _ (by first|with_reducible exact h1.out|with_reducible exact h2.out) _ _ _))|quiet_step ((go_at_call 105;exact b8t _ _ _ (by first|with_reducible exact h1.out|with_reducible exact h2.out) _ _ _)))
 refine wpQuiet_nil ?_;intro X bh;obtain⟨⟨nq,osq⟩,bh⟩:=bh;replace bh:=Lib.hid bh;clear f0 f1 f2 f3 k1 k2;go_wp2_with (go_at_call 104;refine(c9d _ _ _ hr.out _ _ vM vM).mono ?_;rintro e w'⟨rfl,rfl⟩);go_ret;refine⟨rfl,nq,#[Obj.cells #[.int .i64 px,.int .i64 py] 122]++ #[Obj.cells #[.int .i64 qx,.int .i64 qy] 122]++osq++ #[Obj.cells #[.int .i64 c1,.int .i64 c2] 3],?_⟩;rw[bh.out,<-hW.out];simp only[alloc_eq_grow,grow_grow];show grow (grow (w.drewN nq) _) _=_;rw[grow_grow,Array.append_assoc,Array.append_assoc,Array.append_assoc]
theorem d3y (blk off size:Nat)(w:Wd):CmpLays prog 125 #[] a6j 2 d7d blk off size w:=λ_ _ _ _ x y=>d3x x y _
theorem e0e :∀(ss:List a0l) (j:Nat),j<ss.length*2->(ss.flatMap a6j)[j]? =some ((a6j ss.toArray[j / 2]!)[j % 2]!)
 |[],j,h=>by simp at h
 |p::ss,0,_=>by simp
 |p::ss,1,_=>by simp
 |p::ss,j+2,h=>by
  have ih:=e0e ss j (by simp at h;omega);have e1:(j+2) / 2=j / 2+1:=oM;have e2:(j+2) % 2=j % 2:=oM;rw[e1,e2];have hl:j / 2<ss.length:=by simp at h;omega
  have e3:(p::ss).toArray[j / 2+1]! =ss.toArray[j / 2]! :=by
   rw[getElem!_pos _ _ (by simpa using hl),getElem!_pos _ _ (by simpa using hl)];simp
  rw[e3,<-ih];simp[List.flatMap_cons]
def RowS (n₀:Nat)(W:Wd)(v:Vu)(ss:List a0l):Prop :=
 (v= .slice none 0 0/\ss=[])\/∃g cap,v= .slice (some ⟨g,0,none⟩) ss.length cap/\n₀<=g/\g<W.heap.size/\∀j,(h:j<ss.length)->W.cell? ⟨g,j*2,none⟩=some (.int .i64 ss[j].1)/\W.cell? ⟨g,j*2+1,none⟩=some (.int .i64 ss[j].2)
def leS (x y:a0l):Bool:= !ltS y x
def a2y (en:List (a0l×Int)):List a0l:=(en.map (·.1)).mergeSort leS
theorem b5d {en:List (a0l×Int)}{ss:List a0l}(hn:(en.map (·.1)).Nodup)(h1:ss.Nodup)(h2:∀p,p∈ss↔p∈en.map (·.1)):ss.Perm (a2y en) :=
 ((List.perm_ext_iff_of_nodup h1 hn).2 h2).trans (List.mergeSort_perm _ _).symm
theorem b8u (a b c:a0l)(h1:leS a b=true)(h2:leS b c=true):leS a c=true:=by simp[leS,ltS]at *;omega
theorem b8v (a b:a0l):(leS a b||leS b a)=true:=by simp[leS,ltS];omega
theorem d3z (a b:a0l)(h1:leS a b=true)(h2:leS b a=true):a=b:=by
 simp[leS,ltS]at h1 h2;exact Prod.ext oM oM
theorem b5e {en:List (a0l×Int)}{d:List a0l}(hp:d.Perm (a2y en))(hs:d.Pairwise (λa b=>leS a b=true)):d=a2y en :=
 List.Perm.eq_of_pairwise (le:=λa b=>leS a b=true) (λa b _ _=>d3z a b) hs (List.pairwise_mergeSort b8u b8v _) hp
theorem a3f (en:List (a0l×Int)):(a2y en).length=en.length:=by unfold a2y;rw[List.length_mergeSort,List.length_map]
theorem b8w (base:Nat)(v:Vu)(ss:List a0l)(en:List (a0l×Int))(w:Wd)(ae:w.ownsRow base 122 2 v ss.length (ss.flatMap a6j))(iQ:ss≠[])(hp:ss.Perm (a2y en))(hlen:ss.length<=4294967296):
 Calls prog 161 #[v,.func (.func 125) #[] #[]] w λe w'=>e= .returned (.tuple #[])/\RowS base w' v (a2y en)/\Below base w w':=by
 have pA:0<ss.length:=List.length_pos_iff.2 iQ;rcases ae.2 with⟨_,h0⟩|⟨g,cap,cur,rfl,aD,ik,cK,bB,xm,Fo⟩
 ·omega
 have hg:g<w.heap.size:=(Array.getElem?_eq_some_iff.1 ik).1;have hH:HoldsK a6j 2 w g 0 ss.toArray:=by
  intro j hj;rw[size_flatK,List.size_toArray]at hj;refine⟨?_,ae.frozenAt (0+j)⟩;rw[get_flatK _ _ _ _ (by simpa using hj),Nat.zero_add];exact(ae.cellAt j oM).trans (e0e ss j hj)
 have eg:∀args w,(callFunc 125 args).run prog w= .ok (.enter 125 args) w:=enters_of func125 zM rfl;have cD:=AnyQ.slices_SortFunc Go.Proofs.Tryz.sortSpot 2 isAgg122 sizeOf122 a6j (λ_=>rfl) (λx v hv=>by simp at hv;rcases hv with rfl|rfl <;> rfl) d7d e4f 125 #[] g 0 cap ss.toArray w eg (d3y g 0 ss.toArray.size w) hH hg uM;change Calls prog 161 _ _ _ at cD;rw[List.size_toArray]at cD;refine cD.mono ?_;rintro e w'⟨rfl,d',n,os,Cn,Co,rfl⟩;obtain⟨bu,-,mz⟩:=Cn;have hd:d'.toList=a2y en:=by
  refine b5e ?_ ?_
  ·have h1:d'.extract 0 ss.length=d':=by
    have:d'.size=ss.length:=by rw[bu];simp
    rw[<-this];exact Array.extract_size
   have h2:ss.toArray.extract 0 ss.length=ss.toArray:=by
    have:ss.toArray.size=ss.length:=by simp
    rw[<-this];exact Array.extract_size
   rw[h1,h2]at mz;exact mz.trans hp
  ·rw[List.pairwise_iff_getElem]
   intro i j hi hj ee;have nh:j<d'.size:=by simpa using hj
   have hs:=Co i j (Nat.zero_le _) ee (by rw[bu]at nh;simpa using nh);rw[getElem!_pos d' j nh,getElem!_pos d' i oM,a8s]at hs;simp[leS,hs]
 have G8:=holdsK_sortWorldK_c a6j 2 w g 0 ss.toArray d' n os hH hg (by rw[bu]);refine⟨rfl,.inr ⟨g,cap,?_,aD,?_,?_⟩,?_⟩
 ·rw[a3f]
  have:=hp.length_eq;rw[a3f]at this;rw[this]
 ·exact Nat.lt_of_lt_of_le hg (size_sortWorldK_c a6j 2 w g 0 n d' os)
 ·intro j hj
  have mA:j<d'.size:=by rw[<-Array.length_toList,hd];exact hj
  have c0:=(G8.cell mA (c:=0) oM).1;have c1:=(G8.cell mA (c:=1) oM).1;have he:d'[j]! =(a2y en)[j]:=by
   rw[getElem!_pos d' j mA];simp only[<-hd];rfl
  rw[he]at c0 c1;simp only[Nat.zero_add,Nat.add_zero]at c0 c1;exact⟨c0,c1⟩
 ·refine(zR base w).grown (row:=some g) ⟨rfl,rfl,rfl,size_sortWorldK_c a6j 2 w g 0 n d' os,λk hk av=> ?_⟩ ?_ (λk e=>by cases e;exact aD)
  ·unfold sortWorldK
   rw[heap_grow_old _ _ (by rw[size_putRowK];exact hk)];have:g≠k:=λe=>av (by rw[e])
   simp[putRowK,putRow,mapBlock,Sort.ahead,Array.getElem?_modify,this]
  ·exact Nat.le_trans aD (Nat.le_of_lt hg)
end
end Go.Proofs.YtfocdbjceedagaaGreatDoor
