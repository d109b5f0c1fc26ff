/-
  Parts.
-/
import Derived.Test.YteijfnkidefekaaGreatEaa
set_option linter.unusedVariables false
set_option linter.unusedSimpArgs false
set_option linter.unusedSectionVars false
namespace Go
section
open Go.RowKit
section
variable {F:Fence}{m:Nat}{P:Program}{ops:Array Oper}{md:Region.Mode}{C:World->Prop}
theorem a5b {Q':Exit->Act->World->Prop}:∀(l:List Oper) (k:Nat) (kq:Array Bool) (a:Act) (w:Wd),(∀j,l[j]? =ops[k+j]?) ->
 Region.seqB md ops l.length k kq=true->wpListIn F m P ops Q' l a w->wpAnyIn F m P md ops Q' l.length kq a w
 |[],_,_,_,_,_,hB,h=>⟨by simpa[Region.seqB]using hB,h⟩
 |o::l,k,kq,a,w,hl,hB,h=>by
  have h0:ops[k]? =some o:=by simpa using (hl 0).symm
  simp only[List.length_cons,Region.seqB,Bool.and_eq_true,decide_eq_true_eq]at hB;refine⟨λh1=>(by rw[hB.1]at h1;cases h1),λi hi=> ?_⟩;rw[hB.1]at hi;have o7:i=k:=by simpa using hi
  subst o7;have hw:wpOpIn F m P ops Q' i (wpListIn F m P ops Q' l) a w:=by unfold wpOpIn;simp only[h0];exact h
  exact wpOpIn_mono (λa' w' h'=>a5b l (i+1) _ a' w' (λj=>by have:=hl (j+1);simpa[Nat.add_assoc,Nat.add_comm 1 j]using this) hB.2 h') hw
def a6a (F:Fence)(m:Nat)(P:Program)(md:Region.Mode)(ops:Array Oper)(C:World->Prop)(n:Nat)(L:Array Bool->Act->Prop):Nat->Array Bool->Act->Prop
 |0,s,a=>L s a
 |f+1,s,a=>Region.ready md ops s≠[]/\∀i∈Region.ready md ops s,i<n/\qOpIn F m P ops C i (a6a F m P md ops C n L f (s.setIfInBounds i true)) a
theorem a6u (oo:F.round=none){n g:Nat}{L:Array Bool->Act->Prop}{Q:Exit->Act->World->Prop}(hL:∀s a w,C w->L s a->wpAnyIn F m P md ops Q g s a w) :
 ∀(f:Nat) (s:Array Bool) (a:Act) (w:Wd),C w->a6a F m P md ops C n L f s a->wpAnyIn F m P md ops Q (f+g) s a w:=by
 intro f;induction f with
 |zero=>intro s a w hw h;rw[Nat.zero_add];exact hL _ _ _ hw h
 |succ f ih =>
  intro s a w hw h;rw[Nat.succ_add];refine⟨λhe=>absurd he h.1,λi hi=> ?_⟩;exact wpOpIn_of_qOpIn oo hw (λa' w' sQ h'=>ih _ a' w' sQ h') (h.2 i hi).2
theorem b1q {n i:Nat}{oi:Oper}{v:Vu}{L:Array Bool->Act->Prop}(hi:ops[i]? =some oi)(eI:∀(j:Nat)(o:Oper) cs b,ops[j]? =some o->o.op≠.select cs b)
 (hs:Region.sinkB md ops n=true) (hc:Region.chainB md ops n=true) (hn:n<ops.size) (eB:i<n)
 (fN:∀s a,L s a->∀j∈Region.ready md ops s,n<=j) (f:Nat) :
 ∀(s:Array Bool) (a:Act),HeadInv md ops n s ->
  (∀j oj,ops[j]? =some oj->j≠i->s.getD j true=false->(∀e∈oj.after,Region.binds md e=true->e.on≠i)->oi.apart ops oj=true) ->
  i∈Region.ready md ops s->YieldsQuiet F m P ops C oi v a ->
  a6a F m P md ops C n L f (s.setIfInBounds i true) (a.put oi.dst v)->a6a F m P md ops C n L (f+1) s a:=by
 induction f with
 |zero =>
  intro s a inv _ hr hy H;have ab:=a4d hs hc hn inv eB (mem_ready.1 hr).1;refine⟨List.ne_nil_of_mem hr,λj hj=>⟨ab j hj,?_⟩⟩;rcases Nat.decEq j i with cA|cA
  ·have h1:=fN _ _ H j (ready_mono hj cA)
   have h2:=ab j hj;omega
  ·subst cA;exact hy.qOpIn hi H
 |succ f ih =>
  intro s a inv lk hr hy H;have ab:=a4d hs hc hn inv eB (mem_ready.1 hr).1;refine⟨List.ne_nil_of_mem hr,λj hj=>⟨ab j hj,?_⟩⟩;rcases Nat.decEq j i with cA|cA
  ·obtain⟨pY,oj,sR,aa⟩:=mem_ready.1 hj
   have fK:∀e∈oj.after,Region.binds md e=true->e.on≠i:=by
    exact yio
   have h1:=(H.2 j (ready_mono hj cA)).2;have h2:=qOpIn_put sR (lk j oj sR cA pY fK) (λcs b=>eI i oi cs b hi) (λcs b=>eI j oj cs b sR) hy h1;refine qOpIn_mono (λa' h3=>ih (s.setIfInBounds j true) a' (inv.set hj (ab j hj)) ?_ (ready_mono hr (Ne.symm cA)) h3.1 ?_) h2
   ·exact yfw
   ·rw[Array.setIfInBounds_comm _ _ cA];exact h3.2
  ·subst cA;exact hy.qOpIn hi H
theorem b3x {n g:Nat}{Lq:Act->Prop}(eI:Region.noSelect ops=true)(hs:Region.sinkB md ops n=true)(hc:Region.chainB md ops n=true)(hn:n<ops.size)(l:List Oper) :
 ∀(k:Nat) (s:Array Bool) (a:Act),(∀j,j<l.length->l[j]? =ops[k+j]?)->k+l.length=n->HeadInv md ops n s ->
 Region.lexHead md ops g l.length k s=true->wpQuietIn F m P ops C Lq l a ->
 a6a F m P md ops C n (λs' a'=>Region.seqB md ops g n s'=true/\Lq a') l.length s a:=by
 induction l with
 |nil =>
  exact yiq
 |cons o l ih =>
  intro k s a hl hk inv hB h;have h0:ops[k]? =some o:=by simpa using (hl 0 vM).symm
  simp only[List.length_cons]at hk;simp only[List.length_cons,Region.lexHead,Bool.and_eq_true]at hB;obtain⟨⟨hr,hf⟩,H7⟩:=hB;have jD:k∈Region.ready md ops s:=by simpa using hr
  have hq:Go.qOpIn F m P ops C k (wpQuietIn F m P ops C Lq l) a:=by unfold qOpIn;simp only[h0];exact h
  obtain⟨v,hy,hK⟩:=yieldsQuiet_of_qOpIn h0 hq;refine b1q h0 (Region.noSelect_spec eI) hs hc hn xM (λs' a' hL=>seqB_ready hL.1) l.length s a inv (Region.free_spec h0 hf) jD hy ?_;exact ygc
theorem a7o (oo:F.round=none){id:Nat}{Q:Exit->Act->World->Prop}{a:Act}{w:Wd}{l:List Oper}(n:Nat)(hm:P.follows .mixedOrders=true)(hB:Region.lexTailB .any l.toArray n=true)(hC:C { w with drawn:=w.drawn+1 })
 (h:wpQuietIn F m P l.toArray C (λa'=>∀w',C w'->wpListIn F m P l.toArray Q (l.drop n) a' w') (l.take n) a):(Code.region id l.toArray true).wpIn F m P Q a w:=by
 simp only[Region.lexTailB,Bool.and_eq_true,decide_eq_true_eq]at hB;obtain⟨⟨⟨⟨eI,hn⟩,hs⟩,hc⟩,hlex⟩:=hB;have rz:n<l.length:=by simpa using hn
 have eU:(l.take n).length=n:=by rw[List.length_take];omega
 have xf:(l.drop n).length=l.toArray.size-n:=by simp
 have mX:HeadInv .any l.toArray n (Array.replicate l.toArray.size false) :=
  ⟨by simp,λj oj _ hl=>(by rw[getD_replicate_false]at hl;cases hl),λt _ ht=>getD_in (by simpa using ht) (getD_replicate_false _ _)⟩
 have H:=b3x (md:= .any) (g:=l.toArray.size-n) eI hs hc hn (l.take n) 0 _ a (λj hj=>by
  have gK:j<n:=xM;simp[gK]) (by simpa using eU) mX (by rw[eU];exact hlex) h
 refine wpIn_region_any hm ?_;have key:=a6u oo (Q:=Q) (g:=l.toArray.size-n) (λs a' w' sQ hL=>by
  have h1:=a5b (md:= .any) (Q':=Q) (l.drop n) n s a' w' (λj=>by simp[List.getElem?_drop]) (by rw[xf];exact hL.1) (hL.2 w' sQ);rwa [xf]at h1) _ _ _ _ hC H
 rw[eU,show n+(l.toArray.size-n)=l.toArray.size from by omega]at key;exact key
end
section
variable {m:Nat}{P:Program}{ops:Array Oper}{C:World->Prop}
theorem a8v {Q:Act->Prop}(hm:1<=m):∀(l:List Oper) (a:Act),wpQuiet P ops C Q l a->wpQuietIn Fence.wide m P ops C Q l a
 |[],_,h=>h
 |o::l,a,h=>by
  refine⟨λ_ _ _ _=>trivial,?_⟩;unfold wpQuiet at h;split
  ·rename_i hw
   simp only[hw,if_true]at h;obtain⟨v,h1,h2⟩:=h;refine⟨v,λw hc=> ?_,a8v hm l _ h2⟩;have:=h1 w hc;unfold Oper.quietAt at this;unfold Oper.quietAtIn;generalize (execOp a.eval o).run P w=r at this ⊢;unfold Oper.quietUpon at this;unfold Oper.quietUponIn;split at this
   ·exact this
   ·exact this
   ·exact⟨this.1,λ_=>hm,callsIn_wide.2 this.2⟩
   ·exact this.elim
  ·rename_i hw
   simp only[hw]at h;exact a8v hm l _ h
theorem a2r {id:Nat}{Q:Exit->Act->World->Prop}{a:Act}{w:Wd}{l:List Oper}(n:Nat)(hk:1<=m)(hm:P.follows .mixedOrders=true)(hB:Region.lexTailB .any l.toArray n=true)
 (h:wpQuiet P l.toArray (λw'=>∃p,w'=w.growBy p) (λa'=>∀w',(∃p,w'=w.growBy p)->wpListIn Fence.wide m P l.toArray Q (l.drop n) a' w') (l.take n) a):(Code.region id l.toArray true).wpIn Fence.wide m P Q a w :=
 a7o rfl n hm hB ⟨⟨#[],w.drawn+1⟩,by unfold World.growBy;simp⟩ (a8v hk _ _ h)
end
end
end Go
