/-
  Parts.
-/
import Derived.Test.YteijfnkidefekaaGreatEar
set_option linter.unusedVariables false
set_option linter.unusedSimpArgs false
set_option linter.unusedSectionVars false
set_option maxHeartbeats 4000000
set_option maxRecDepth 100000
namespace Go.Proofs.YteijfnkidefekaaGreat
open Tryz
section
open Go Go.RowKit
variable{a:Act}{Q:Exit->Act->World->Prop}{n:Nat}{g:Operand}{P:Program}{w:Wd}
def a9c :Obj->Bool
 |.loop _=>true
 |.deferred _=>true
 |_=>false
theorem a2o {o:Obj}(h:a9c o=true):o.isCells=false:=by
 cases o <;> first|rfl|cases h
def b8r (P:Program)(l:Nat)(R:Ending->World->Prop):Exit->Act->World->Prop
 |.normal,_,w=>∃v w',(Instr.endRound l none).run P w= .ok v w'/\R (.returned v) w'
 |.panic ch,a,w=>a.defers=[]/\R (.panicked ch) w
 |_,_,_=>False
theorem c1w {F:Fence}{l:Nat}{f:FuncId}{tmps:Array Value}{assign body:Code}{R:Ending->World->Prop}(hF:F.fn f)(hf:∀ch w,R (.panicked ch) w->∃fn,P.funcs[f]? =some fn)
 (h:assign.wpIn (F.inRound l) n P (Exit.then (λjm ui=>∃qp,(Instr.beginRound l).run P ui= .ok () qp/\body.wpIn (F.inRound l) n P (b8r P l R) jm qp) (λ_ _ _=>False)) { tmps:=tmps,defers:=[] } w) :
 RoundIn F n P l f tmps assign body w R:=by
 refine⟨hF,λc cs hr=> ?_⟩;let b:Frame:={ (default:Frame)with fn:=f,kind:= .normal,roundOf:=some l }
 have bE:Frame.round l f tmps assign body .normal=b.atR { tmps:=tmps,defers:=[] } [.code assign,.beginRound,.code body]:=by simp[Frame.round,Frame.atR,b]
 have jD:(F.inRound l).room ((c::cs).length+1+n):=hr;have zt:(F.inRound l).fn b.fn:=hF;obtain⟨e,jm,ui,hq,zu⟩:=h b [.beginRound,.code body] (c::cs) rfl zt jD;rw[<-bE]at zu
 cases e <;> try exact hq.elim
 obtain⟨qp,bW,jn⟩:=hq;have s1:StepsIn (Machine.fenced P (F.inRound l)) P (lone (b.atR jm [.beginRound,.code body]) (c::cs) ui) (lone (b.atR jm [.code body]) (c::cs) qp) :=
  .one (fenced_calm (fr:=b.atR jm [.beginRound,.code body]) zt jD rfl) (stepR_beginRound rfl bW)
 obtain⟨FN,uj,qq,oh,lx⟩:=jn b [] (c::cs) rfl zt jD;have s2:=StepsIn.trans zu s1
 cases FN <;> try exact oh.elim
 case normal =>
  obtain⟨v,FO,cY,hR⟩:=oh;exact⟨.returned v,FO,hR,s2.trans (StepsIn.trans lx (.one (fenced_calm (fr:=b.atR uj []) zt jD rfl) (stepR_round_end rfl rfl cY)))⟩
 case panic ch =>
  obtain⟨hd,hR⟩:=oh;obtain⟨todo,hs⟩:=lx;have om:Frame.leaving P { b.atR uj todo with mode:= .panicking ch } qq (.panicked ch):=⟨rfl,hd,hf ch qq hR⟩;have hl:(lone { b.atR uj todo with mode:= .panicking ch } (c::cs) qq).fenced P (F.inRound l):=fenced_leaving zt jD om;exact⟨.panicked ch,qq,hR,s2.trans (StepsIn.trans hs (.one hl (step_leave_panicked om)))⟩
structure KeepP (C:World->Nat->Prop)(n0:Nat)(A B:Wd):Prop where
 k:KeepC C A B
 b:Below n0 A B
def c8u {α:Type}(F:Fence)(n:Nat)(P:Program)(g:Nat)(lb:Array Value)(lW:α->Array Value)(C:World->Nat->Prop)(n0:Nat)(Kx:List α->α->World->Prop)(S:List α->Prop)(N:Nat)(w:Wd):Prop :=
 ∀(l:Nat) (J:List α->World->Prop) (Jp:List PanicEntry->World->Prop) (W:Wd),Below w.heap.size w W ->
  (∀s A A' row,J s A->A.grownBy A' row->(∀r,row=some r->W.heap.size<=r/\¬C A r/\∃o,A.heap[r]? =some o/\a9c o=true)->J s A')->(∀s A A' row k,J s A->A.grownBy A' row->(∀r,row=some r->¬C A r)->C A' k->C A k)->(∀k,C W k->k<W.heap.size) ->
  (∀pre x W1,J pre W1->Kx pre x W1->pre.length<N->YieldAt F (n-1) P l (lW x) W1 λe W'=>(e= .returned (.bool true)/\J (pre++[x]) W'/\KeepP C n0 W1 W')\/∃ch,e= .panicked ch/\Jp ch W')->J [] W ->
  CallsIn F n P g (#[.func (.yield l) #[] #[]]++lb) W λe W'=>((∃v,e= .returned v)/\∃xs,S xs/\J xs W')\/∃ch,e= .panicked ch/\Jp ch W'
theorem a6s {F:Fence}{α:Type}{ps:Array Tmp}{assign body:Code}{Q:Exit->Act->World->Prop}
 (oo:F.round=none) (h1:1<=n) {gf:Nat} {lb:Array Value} (hg:a.eval g= .func (.func gf) #[] lb) (FP:F.fn gf) (eg:∀args w,(callFunc gf args).run P w= .ok (.enter gf args) w)
 {lW:α->Array Value} {C:World->Nat->Prop} (hC:∀(W:Wd) (l k:Nat) (o o':Obj),W.heap[l]? =some o->a9c o=true->a9c o'=true->(C (W.putObj l o') k↔C W k)) (oq:∀(W:Wd) (l:Nat) (o:Obj),W.heap[l]? =some o->a9c o=true->¬C W l)
 (rW:∀(W:Wd) (k:Nat) (o:Obj),C (W.alloc o) k->a9c o=true->C W k) (zv:∀k,C w k->k<w.heap.size)
 {n0:Nat} (bX:n0<=w.heap.size) {Kx:List α->α->World->Prop} (FQ:∀pre x (W:Wd) (l:Nat) (o o':Obj),W.heap[l]? =some o->a9c o=true->a9c o'=true->Kx pre x W->Kx pre x (W.putObj l o')) {S:List α->Prop} {N:Nat} {w0:Wd} (de:c8u F (n-1) P gf lb lW C n0 Kx S N w0) (bE:Below w0.heap.size w0 w) (FR:∀x,(lW x).size=ps.size)
 (I:List α->World->Prop) (hI:∀pre A A' row,I pre A->A.grownBy A' row->(∀r,row=some r->w.heap.size<=r/\¬C A r/\∃o,A.heap[r]? =some o/\a9c o=true)->I pre A') (Cd:∀pre A A' row k,I pre A->A.grownBy A' row->(∀r,row=some r->¬C A r)->C A' k->C A k) (h0:I [] w) (Ip:List PanicEntry->World->Prop) (qm:∀ch W,Ip ch W->∀fn,F.fn fn->∃x,P.funcs[fn]? =some x) (tb:Td) (bx:α->Array Value) (FT:∀pre x (W:Wd) (o:Obj),Kx pre x W->Kx pre x (W.alloc o)) (FU:∀pre W k,I pre W->C W k->k<W.heap.size) (jm:α->Nat->Act)
 (ie:∀(l:Nat) (pre:List α) (x:α) (W:Wd) (K:Act->World->Prop),Kx pre x W->K (jm x W.heap.size) (W.alloc (.cells (bx x) tb))->assign.wpIn (F.inRound l) (n-1-1) P (Exit.then K (λ_ _ _=>False)) { tmps:=(ps.zip (lW x)).foldl (λt (p,v)=>t.setIfInBounds p v) a.tmps,defers:=[] } W)
 (jn:∀(l:Nat) (pre:List α) (x:α) (W:Wd) (B:Nat),I pre W->Kx pre x W->Blk W B (bx x) tb->w.heap.size<=B->(∀k,C W k->k≠B)->pre.length<N->body.wpIn (F.inRound l) (n-1-1) P (λe a' W'=>(e= .normal/\KeepP C n0 W W'/\I (pre++[x]) W')\/∃ch,e= .panic ch/\a'.defers=[]/\KeepP C n0 W W'/\Ip ch W') (jm x B) W)
 (um:∀(D:Nat) (ch:List PanicEntry) (W:Wd),w.heap.size<=D->Ip ch W->W.heap[D]? =some (.deferred (some []))->Q (.panic ch) { a with defers:={ target:= .collected D,args:= #[] }::a.defers } W)
 (fN:∀(D:Nat) (xs:List α) (W:Wd),w.heap.size<=D->S xs->I xs W->W.heap[D]? =some (.deferred (some []))->Q .normal { a with defers:={ target:= .collected D,args:= #[] }::a.defers } W) :
 (Code.rangeFunc g ps assign body).wpIn F n P Q a w:=by
 refine wpIn_rangeFunc λfn FV=> ?_
 rw[oo];obtain⟨D,hD⟩:=zE w.heap.size;let R:LoopState->Option Code->Loop:=λst pe=>{ state:=st,pending:=pe,fn,tmps:=a.tmps,params:=ps,assign,body,defers:=D }
 let W1:World:=(w.alloc (.deferred (some []))).alloc (.loop (R .ready none))
 have s1:W1.heap.size=D+2:=by simp[W1,hD]
 have g1:w.grownBy W1 none:=by
  have e1:=World.grownBy_alloc w (.deferred (some [])) none;have e2:=World.grownBy_alloc (w.alloc (.deferred (some []))) (.loop (R .ready none)) none;exact⟨e2.os.trans e1.os,e2.tape.trans e1.tape,e2.output.trans e1.output,Nat.le_trans e1.size e2.size,λk hk hn=>(e2.block k uM hn).trans (e1.block k hk hn)⟩
 have l1:W1.heap[D+1]? =some (.loop (R .ready none)):=by
  have:=World.alloc_heap_new (w.alloc (.deferred (some []))) (.loop (R .ready none));rwa [World.size_alloc,hD]at this
 have d1:W1.heap[D]? =some (.deferred (some [])):=by
  have:=(Below.heap_alloc (w.alloc (.deferred (some []))) (.loop (R .ready none)) w.heap.size vM).trans (World.alloc_heap_new w _);rwa [hD]at this
 have NN:∀k,C W1 k->k<W1.heap.size:=λk hk=>by
  have:=zv k (rW _ k _ (rW _ k _ hk rfl) rfl);omega
 refine⟨D+1,[{ target:= .collected D,args:= #[] }],W1,{ target:= .fn (.func gf) lb,args:= #[.func (.yield (D+1)) #[] #[]] },W1,gf,#[.func (.yield (D+1)) #[] #[]]++lb,W1,?_,?_,?_,?_,λ_=>h1,?_⟩
 ·subst hD
  exact run_enterLoop_outer _ _ _ _ _
 ·simp only[resolve,hg]
  simp[go_sem]
 ·intro f' Ce
  simp[Target.leads]at Ce;subst Ce;exact FP
 ·simp[invoke,go_sem,eg]
 ·have ah:Below w0.heap.size w0 W1:=bE.trans ((show Below w.heap.size w W1 from⟨g1.os,g1.tape,g1.output,g1.size,λk hk=>g1.block k hk vM⟩).mono bE.size)
  refine(de (D+1) (λpre W=>I pre W/\W.heap[D+1]? =some (.loop (R .ready none))/\W.heap[D]? =some (.deferred (some []))) (λch W=>Ip ch W/\W.heap[D]? =some (.deferred (some []))) W1 ah ?_ (λs A A' row k hJ=>Cd s A A' row k hJ.1) NN ?_ ⟨hI [] w W1 none h0 g1 vM,l1,d1⟩).mono ?_
  ·rintro s A A' row⟨hi,hl,hd⟩ FW hr
   have an:∀k,k<D+2->some k≠row:=λk hk e=>by have:=(hr k e.symm).1;omega
   exact⟨hI s A A' row hi FW (λr e=>⟨by have:=(hr r e).1;omega,(hr r e).2⟩),(FW.block _ (Array.getElem?_eq_some_iff.1 hl).1 (an _ xM)).trans hl,(FW.block _ (Array.getElem?_eq_some_iff.1 hd).1 (an _ xM)).trans hd⟩
  ·rintro pre x W⟨hi,hl,hd⟩ Ji hlen
   have ab:D+1<W.heap.size:=(Array.getElem?_eq_some_iff.1 hl).1;have hy:=run_yield (P:=P) (args:=lW x) hl (FR x);refine⟨fn,_,assign,body,hy,c1w FV (λch w hR=>hR.elim (λh=>nomatch h.1) (λh=>by obtain⟨QP,h1,h2⟩:=h;cases h1;exact qm ch w h2.1 fn FV)) (ie _ pre x W _ Ji ?_)⟩;have uo:W.grownBy (W.alloc (.cells (bx x) tb)) none:=World.grownBy_alloc W _ none;obtain⟨Wa,rX⟩:=zE (W.alloc (.cells (bx x) tb));have NO:Wa.heap.size=W.heap.size+1:=by rw[<-rX];simp
   have uq:∀k,k<W.heap.size->Wa.heap[k]? =W.heap[k]? :=λk hk=>by rw[<-rX];exact uo.block k hk vM
   have xu:Blk Wa W.heap.size (bx x) tb:=by rw[<-rX];exact Blk.new _ _ _
   have NP:I pre Wa:=by rw[<-rX];exact hI pre W _ none hi uo vM
   have wy:∀k,C Wa k->C W k:=λk hk=>by rw[<-rX]at hk;exact Cd pre W _ none k hi uo vM hk
   have bD:Kx pre x Wa:=by rw[<-rX];exact FT pre x W _ Ji
   have ig:Wa.heap[D+1]? =some (.loop (R .ready none)):=(uq _ ab).trans hl;have NQ:Wa.heap[D]? =some (.deferred (some [])):=(uq _ xM).trans hd;have QQ:W.heap[D+1]? =some (.loop (R .ready none)):=hl;have aM:D+1<W.heap.size:=ab;have FX:Below n0 W Wa:=by rw[<-rX];exact a0f uo xM (λr e=>by cases e)
   rw[rX];refine⟨_,run_beginRound ig rfl,?_⟩;obtain⟨W2,bQ⟩:∃W2,Wa.putObj (D+1) (.loop { R .ready none with state:= .busy })=W2:=⟨_,rfl⟩;have FY:D+1<Wa.heap.size:=xM;have dC:W2.heap[D+1]? =some (.loop { R .ready none with state:= .busy }):=by rw[<-bQ];exact World.putObj_heap_same FY
   have bM:W2.heap[D]? =some (.deferred (some [])):=by rw[<-bQ];exact(World.putObj_heap_other xM).trans NQ
   have sP:I pre W2:=by
    rw[<-bQ];exact hI pre Wa _ (some (D+1)) NP (grownBy_putObj' Wa _ _) (λr e=>by cases e;exact⟨xM,oq Wa _ _ ig rfl,_,ig,rfl⟩)
   have FZ:Kx pre x W2:=by rw[<-bQ];exact FQ pre x Wa _ _ _ ig rfl rfl bD
   have gI:Below n0 W W2:=FX.trans (by rw[<-bQ];exact a0f (grownBy_putObj' Wa (D+1) _) xM (λr e=>by cases e;omega));have cX:W2.heap.size=W.heap.size+1:=by rw[<-bQ,<-NO];simp
   have fp:∀k,C W2 k->C W k:=λk h=>by rw[<-bQ]at h;exact wy k ((hC Wa _ k _ _ ig rfl rfl).1 h)
   have aq:∀k,k<W.heap.size->k≠D+1->W2.heap[k]? =W.heap[k]? :=λk hk an=>by rw[<-bQ];exact(World.putObj_heap_other an).trans (uq k hk)
   have gy:Blk W2 W.heap.size (bx x) tb:=by rw[<-bQ];exact(World.putObj_heap_other xM).trans xu
   show body.wpIn (F.inRound (D+1)) (n-1-1) P _ _ (Wa.putObj (D+1) (.loop { R .ready none with state:= .busy }));rw[bQ];refine wpIn_mono (jn _ pre x W2 W.heap.size sP FZ gy xM (λk hk=>by have:=FU pre W k hi (fp k hk);omega) hlen) ?_;rintro e a3 W3 (⟨rfl,⟨hk,hkb⟩,pF⟩|⟨ch,rfl,wW,⟨hk,hkb⟩,mC⟩)
   rotate_left
   ·exact⟨wW,.inr ⟨ch,rfl,mC,(hk.same _ xM (oq W2 _ _ bM rfl)).trans bM⟩⟩
   have jY:W3.heap[D+1]? =some (.loop { R .ready none with state:= .busy }):=(hk.same _ xM (oq W2 _ _ dC rfl)).trans dC;have lD:W3.heap[D]? =some (.deferred (some [])):=(hk.same _ xM (oq W2 _ _ bM rfl)).trans bM;have zx:D+1<W3.heap.size:=(Array.getElem?_eq_some_iff.1 jY).1;have hr:=run_endRound (P:=P) none jY;refine⟨_,_,hr,.inl ⟨rfl,⟨?_,World.putObj_heap_same zx,(World.putObj_heap_other xM).trans lD⟩,⟨⟨?_,λk mJ sI=> ?_,λk hc=> ?_⟩,(gI.trans hkb).trans (a0f (grownBy_putObj' W3 (D+1) _) (by have:=gI.size;have:=hkb.size;omega) (λr e=>by cases e;omega))⟩⟩⟩
   ·exact hI _ W3 _ (some (D+1)) pF (grownBy_putObj' W3 _ _) (λr e=>by cases e;exact⟨xM,oq W3 _ _ jY rfl,_,jY,rfl⟩)
   ·have:=hk.size
    rw[cX]at this;simp;omega
   ·by_cases eK:k=D+1
    ·subst eK
     rw[hl];exact World.putObj_heap_same zx
    ·exact(World.putObj_heap_other eK).trans ((hk.same k xM (λh=>sI (fp k h))).trans (aq k mJ eK))
   ·rcases hk.mine k ((hC W3 _ k _ _ jY rfl rfl).1 hc)with h|h
    ·exact .inl (fp k h)
    ·exact .inr xM
  ·rintro e W2 (⟨⟨v,rfl⟩,xs,hS,hi,hl,hd⟩|⟨ch,rfl,hp,hd⟩)
   rotate_left
   ·exact um D ch W2 xM hp hd
   have hr:=run_endLoop (P:=P) hl (by simp[R]);refine⟨none,_,hr,?_⟩;exact fN D xs _ xM hS (hI _ W2 _ (some (D+1)) hi (grownBy_putObj' W2 _ _) (λr e=>by cases e;exact⟨xM,oq W2 _ _ hl rfl,_,hl,rfl⟩)) ((World.putObj_heap_other xM).trans hd)
theorem a5y {F:Fence}{α:Type}(slot ur:Nat)(ot:α->Value){assign body:Code}{Q:Exit->Act->World->Prop}
 (oo:F.round=none) (h1:1<=n) {gf:Nat} {lb:Array Value} (hg:a.eval g= .func (.func gf) #[] lb) (FP:F.fn gf) (eg:∀args w,(callFunc gf args).run P w= .ok (.enter gf args) w)
 {C:World->Nat->Prop} (hC:∀(W:Wd) (l k:Nat) (o o':Obj),W.heap[l]? =some o->a9c o=true->a9c o'=true->(C (W.putObj l o') k↔C W k)) (oq:∀(W:Wd) (l:Nat) (o:Obj),W.heap[l]? =some o->a9c o=true->¬C W l)
 (rW:∀(W:Wd) (k:Nat) (o:Obj),C (W.alloc o) k->a9c o=true->C W k) (zv:∀k,C w k->k<w.heap.size)
 {n0:Nat} (bX:n0<=w.heap.size) {Kx:List α->α->World->Prop} (FQ:∀pre x (W:Wd) (l:Nat) (o o':Obj),W.heap[l]? =some o->a9c o=true->a9c o'=true->Kx pre x W->Kx pre x (W.putObj l o')) {S:List α->Prop} {N:Nat} {w0:Wd} (de:c8u F (n-1) P gf lb (λx=> #[ot x]) C n0 Kx S N w0) (bE:Below w0.heap.size w0 w)
 (I:List α->World->Prop) (hI:∀pre A A' row,I pre A->A.grownBy A' row->(∀r,row=some r->w.heap.size<=r/\¬C A r/\∃o,A.heap[r]? =some o/\a9c o=true)->I pre A') (Cd:∀pre A A' row k,I pre A->A.grownBy A' row->(∀r,row=some r->¬C A r)->C A' k->C A k) (h0:I [] w) (Ip:List PanicEntry->World->Prop) (qm:∀ch W,Ip ch W->∀fn,F.fn fn->∃x,P.funcs[fn]? =some x) (tb:Td) (bx:α->Array Value) (FT:∀pre x (W:Wd) (o:Obj),Kx pre x W->Kx pre x (W.alloc o)) (FU:∀pre W k,I pre W->C W k->k<W.heap.size)
 (ie:∀(l:Nat) (pre:List α) (x:α) (W:Wd) (K:Act->World->Prop),Kx pre x W->(∀a',a'={ tmps:=(a.tmps.setIfInBounds slot (ot x)).setIfInBounds ur (.pointer (some ⟨W.heap.size,0,none⟩)),defers:=[] }->K a' (W.alloc (.cells (bx x) tb)))->assign.wpIn (F.inRound l) (n-1-1) P (Exit.then K (λ_ _ _=>False)) { tmps:=a.tmps.setIfInBounds slot (ot x),defers:=[] } W)
 (jn:∀(l:Nat) (pre:List α) (x:α) (W:Wd) (B:Nat),I pre W->Kx pre x W->Blk W B (bx x) tb->w.heap.size<=B->(∀k,C W k->k≠B)->pre.length<N->body.wpIn (F.inRound l) (n-1-1) P (λe a' W'=>(e= .normal/\KeepP C n0 W W'/\I (pre++[x]) W')\/∃ch,e= .panic ch/\a'.defers=[]/\KeepP C n0 W W'/\Ip ch W') ({ tmps:=(a.tmps.setIfInBounds slot (ot x)).setIfInBounds ur (.pointer (some ⟨B,0,none⟩)),defers:=[] }:Act) W)
 (um:∀(D:Nat) (ch:List PanicEntry) (W:Wd),w.heap.size<=D->Ip ch W->W.heap[D]? =some (.deferred (some []))->Q (.panic ch) { a with defers:={ target:= .collected D,args:= #[] }::a.defers } W)
 (fN:∀(D:Nat) (xs:List α) (W:Wd),w.heap.size<=D->S xs->I xs W->W.heap[D]? =some (.deferred (some []))->Q .normal { a with defers:={ target:= .collected D,args:= #[] }::a.defers } W) :
 (Code.rangeFunc g #[slot] assign body).wpIn F n P Q a w :=
 a6s oo h1 hg FP eg hC oq rW zv bX FQ de bE (λ_=>rfl) I hI Cd h0 Ip qm tb bx FT FU (λx B=>{ tmps:=(a.tmps.setIfInBounds slot (ot x)).setIfInBounds ur (.pointer (some ⟨B,0,none⟩)),defers:=[] }) (λl pre x W K hx hK=>by simpa using ie l pre x W K hx λa' ha=>ha▸hK) jn um fN
end
section
open Go Go.RowKit Go.Shelf Go.Lib Go.Maps
/-! ### what the body of a loop that appends may turn -/
def a3u (Bo:Nat)(W:Wd)(k:Nat):Prop:=(∃o,W.heap[k]? =some o/\o.isCells=true)/\(k=Bo\/∃off len cap,W.cell? ⟨Bo,0,none⟩=some (.slice (some ⟨k,off,none⟩) len cap))
theorem a8s {Bo:Nat}{W:Wd}{k:Nat}(h:a3u Bo W k):k<W.heap.size:=by
 obtain⟨⟨o,ho,-⟩,-⟩:=h;exact(Array.getElem?_eq_some_iff.1 ho).1
theorem b1m (Bo:Nat)(W:Wd)(l:Nat)(o:Obj)(h:W.heap[l]? =some o)(ho:o.isCells=false):¬a3u Bo W l:=by
 rintro⟨⟨o',h',hc⟩,-⟩;rw[h]at h'
 cases h';rw[ho]at hc
 cases hc
theorem b7f {W:Wd}{b i:Nat}{v:Vu}(h:W.cell? ⟨b,i,none⟩=some v):∃o,W.heap[b]? =some o/\o.isCells=true:=by
 unfold World.cell? at h
 cases hc:W.heap[b]? with
 |none=>simp only[hc]at h;cases h
 |some o =>
  refine⟨o,rfl,?_⟩;simp only[hc]at h
  cases o <;> first|rfl|(exfalso;simp at h)
theorem a8t {W:Wd}{b:Nat}{o:Obj}(h:W.heap[b]? =some o)(ho:o.isCells=false):W.cell? ⟨b,0,none⟩=none:=by
 cases hc:W.cell? ⟨b,0,none⟩with
 |none=>rfl
 |some v =>
  obtain⟨o',h',cB⟩:=b7f hc;rw[show W.heap[b]? =some o from h]at h'
  cases h';rw[ho]at cB
  cases cB
theorem b7g (Bo:Nat)(W:Wd)(l k:Nat)(o o':Obj)(h:W.heap[l]? =some o)(ho:o.isCells=false)(my:o'.isCells=false):a3u Bo (W.putObj l o') k↔a3u Bo W k:=by
 have ab:l<W.heap.size:=(Array.getElem?_eq_some_iff.1 h).1;have vI:(W.putObj l o').heap[l]? =some o':=World.putObj_heap_same ab;by_cases hk:k=l
 ·subst hk
  exact⟨λhc=>absurd hc (b1m Bo _ k o' vI my),λhc=>absurd hc (b1m Bo W k o h ho)⟩
 ·have e1:(W.putObj l o').heap[k]? =W.heap[k]? :=World.putObj_heap_other hk
  unfold a3u;rw[e1];by_cases hb:Bo=l
  ·subst hb
   rw[a8t vI my,a8t h ho]
  ·rw[a1r (World.putObj_heap_other hb)]
theorem b8s (Bo:Nat)(W:Wd)(k:Nat)(o:Obj)(h:a3u Bo (W.alloc o) k)(ho:o.isCells=false):a3u Bo W k:=by
 have jo:(W.alloc o).heap[W.heap.size]? =some o:=World.alloc_heap_new W o;have hk:k≠W.heap.size:=λe=>b1m Bo _ k o (by rw[e];exact jo) ho h
 have ab:=a8s h;rw[World.size_alloc]at ab;have e1:(W.alloc o).heap[k]? =W.heap[k]? :=Below.heap_alloc W o k xM;obtain⟨⟨o',h1,h2⟩,h3⟩:=h;refine⟨⟨o',e1.symm.trans h1,h2⟩,h3.imp id ?_⟩;rintro⟨off,len,cap,hc⟩;have hb:Bo<(W.alloc o).heap.size:=World.block_lt_of_cell? _ _ hc;rw[World.size_alloc]at hb;by_cases jI:Bo=W.heap.size
 ·rw[jI,a8t jo ho]at hc
  cases hc
 ·exact⟨off,len,cap,by rw[<-a1r (Below.heap_alloc W o Bo xM)];exact hc⟩
theorem c4c {Bo:Nat}{W:Wd}{k:Nat}(o:Obj)(hB:Bo<W.heap.size)(hk:k<W.heap.size)(h:a3u Bo (W.alloc o) k):a3u Bo W k:=by
 obtain⟨⟨o',h1,h2⟩,h3⟩:=h;refine⟨⟨o',(Below.heap_alloc W o k hk).symm.trans h1,h2⟩,h3.imp id ?_⟩;rintro⟨off,len,cap,hc⟩;exact⟨off,len,cap,by rw[<-a1r (Below.heap_alloc W o Bo hB)];exact hc⟩
theorem a1i {w w':Wd}(o:Option Nat)(h:Below w.heap.size w w'):w.grownBy w' o:=⟨h.os,h.tape,h.output,h.size,λk hk _=>h.block k hk⟩
theorem a6t {W:Wd}{base:Nat}{e:Td}{s:Nat}{v:Vu}{n:Nat}{xs:List Value}(h:W.ownsRow base e s v n xs){g:Nat}(hg:v.ownBlock=some g):base<=g/\g<W.heap.size:=by
 rcases h.2 with⟨rfl,-⟩|⟨g',cap,cur,rfl,h3,h4,-⟩
 ·cases hg
 ·cases hg
  exact⟨h3,(Array.getElem?_eq_some_iff.1 h4).1⟩
/-! ### edits -/
def wqZ :Wq:=⟨0,none,0,0,[],0,⟨#[]⟩,⟨#[]⟩,false,0,0⟩
structure Et where
 kind:Int
 id:Int
 n:Int
 px:Int
 py:Int
 f:Fc
 w:Wq
 p:Pc
instance : Inhabited Et:=⟨⟨0,0,0,0,0,fcZ,wqZ,pcZ⟩⟩
def Et.key (x:Et):Ed:=⟨x.kind,x.id,x.n,(x.px,x.py),x.f,x.w.key,x.p⟩
abbrev etA (x:Et):Array Value:= #[.int .i64 x.kind,.int .i64 x.id,.int .i64 x.n,.int .i64 x.px,.int .i64 x.py,.int .i64 x.f.id,.string x.f.cls,.string x.f.nm,.int .i64 x.f.wt,.int .i64 x.f.ds,.int .i64 x.w.id,.slice x.w.la x.w.ln x.w.lc,.int .i64 x.w.lvl,.string x.w.cls,.string x.w.nm,.bool x.w.st,.int .i64 x.w.wt,.int .i64 x.w.ds,.int .i64 x.p.id,.int .i64 x.p.x,.int .i64 x.p.y,.string x.p.cls,.string x.p.nm,.int .i64 x.p.wt,.int .i64 x.p.ds]
abbrev etV (x:Et):Value:= .agg (etA x)
abbrev etE :El Et:=⟨50,25,λx=>(etA x).toList⟩
theorem etOk :etE.Ok:=⟨λ_=>rfl,jM,λx u hu=>by
 simp at hu;rcases hu with rfl|rfl|rfl|rfl|rfl|rfl|rfl|rfl|rfl|rfl|rfl|rfl|rfl|rfl|rfl|rfl|rfl|rfl|rfl|rfl|rfl|rfl|rfl|rfl|rfl <;> rfl⟩
theorem d0b :etE.In prog 37:=El.in_of (z:=etV default) (s:=25) (bytes:=264) underlying37 zM rfl xM rfl
def b8t (i:Int):Et:=⟨4,i,0,0,0,fcZ,wqZ,pcZ⟩
def b7h (x:Fc):Et:=⟨1,0,0,0,0,x,wqZ,pcZ⟩
def c4d (x:Wq):Et:=⟨2,0,0,0,0,fcZ,x,pcZ⟩
def b1n (x:Pc):Et:=⟨3,0,0,0,0,fcZ,wqZ,x⟩
def b1o (i:Int)(n:Nat)(p:a3v):Et:=⟨5,i,n,p.1,p.2,fcZ,wqZ,pcZ⟩
structure KxE (Bo:Nat)(pre:List Et)(x:Et)(W:Wd):Prop where
 bo:Bo<W.heap.size
 ln:Ln W.heap.size W x.w.sl x.w.line
 la:∀a,x.w.la=some a->a.block<W.heap.size/\¬a3u Bo W a.block
 wi:a0l x.w.id
 pi:a0l x.p.id
theorem KxE.put {Bo:Nat}{pre:List Et}{x:Et}{W:Wd}{l:Nat}{o o':Obj}(hl:W.heap[l]? =some o)(ho:a9c o=true)(my:a9c o'=true)(h:KxE Bo pre x W):KxE Bo pre x (W.putObj l o'):=by
 obtain⟨hb,⟨⟨a,cap,e,c1,c2,c3⟩,h2,h3⟩,h4,h5,h6⟩:=h;refine⟨by simpa using hb,⟨⟨a,cap,e,c1,c2,λj hj=> ?_⟩,h2,h3⟩,λa ha=>⟨by simpa using (h4 a ha).1,λhc=>(h4 a ha).2 ((b7g Bo W l _ o o' hl (a2o ho) (a2o my)).1 hc)⟩,h5,h6⟩;obtain⟨b,off,rfl,hb,hc⟩:=c3 j hj;refine⟨b,off,rfl,by simpa using hb,λi hi=> ?_⟩;rw[<-hc i hi];unfold World.cell?;by_cases bS:b=l
 ·subst bS
  have h0:=hc i hi;unfold World.cell? at h0;simp only[hl]at h0
  cases o <;> simp_all [a9c]
 ·simp only[World.putObj_heap_other bS]
theorem KxE.alloc {Bo:Nat}{pre:List Et}{x:Et}{W:Wd}(o:Obj)(h:KxE Bo pre x W):KxE Bo pre x (W.alloc o) :=
 ⟨by have:=h.bo;simp;omega,h.ln.up ((zR _ _).alloc (yR _) _),λa ha=>⟨by have:=(h.la a ha).1;simp;omega,λhc=>(h.la a ha).2 (c4c o h.bo (h.la a ha).1 hc)⟩,h.wi,h.pi⟩
/-! ### what the iterator holds: all that was there before,but the body's box -/
structure ICd (Bo n0:Nat)(w W:Wd):Prop where
 sz:w.heap.size<=W.heap.size
 same:∀k,k<w.heap.size->k≠Bo->W.heap[k]? =w.heap[k]?
 nc:∀k,k<w.heap.size->k≠Bo->¬a3u Bo W k
 bel:Below n0 w W
section
variable {Bo n0:Nat}{w A B:Wd}
theorem ICd.start (n0:Nat)(h:w.cell? ⟨Bo,0,none⟩=some (.slice none 0 0)):ICd Bo n0 w w :=
 ⟨yR _,λ_ _ _=>rfl,λk _ hk hc=>hc.2.elim hk (λ⟨o,l,c,h1⟩=>by rw[h]at h1;simp at h1),zR _ _⟩
theorem ICd.keep (h:ICd Bo n0 w A)(hk:KeepP (a3u Bo) n0 A B):ICd Bo n0 w B:=by
 have hs:=h.sz;exact⟨Nat.le_trans h.sz hk.k.size,λk hl hn=>(hk.k.same k xM (h.nc k hl hn)).trans (h.same k hl hn),λk hl hn hc=>(hk.k.mine k hc).elim (h.nc k hl hn) (λh=>by omega),h.bel.trans hk.b⟩
theorem ICd.below (h:ICd Bo n0 w A)(hb:Below A.heap.size A B)(hC:∀k,a3u Bo B k->a3u Bo A k)(hn:n0<=A.heap.size):ICd Bo n0 w B :=
 ⟨Nat.le_trans h.sz hb.size,λk hl hk=>(hb.block k (Nat.lt_of_lt_of_le hl h.sz)).trans (h.same k hl hk),λk hl hk hc=>h.nc k hl hk (hC k hc),h.bel.trans (hb.mono hn)⟩
theorem ICd.cell (h:ICd Bo n0 w A){b i:Nat}{v:Vu}(hc:w.cell? ⟨b,i,none⟩=some v)(hb:b≠Bo):A.cell? ⟨b,i,none⟩=some v :=
 (a1r (h.same b (World.block_lt_of_cell? _ _ hc) hb)).trans hc
theorem ICd.at_ {α:Type}{E:El α}(h:ICd Bo n0 w A){b o:Nat}{x:α}(hc:AtC E w b o x)(hb:b≠Bo)(hl:b<w.heap.size):AtC E A b o x:=λi hi=>(a1r (h.same b hl hb)).trans (hc i hi)
theorem ICd.mapH {α β:Type} [DecidableEq α]{K:Ky α}{V:Vh β}{P:Program}{b n:Nat}{l:List (α×β)}(h:ICd Bo n0 w A)(hm:MapH P K V w b n l)(hb:b≠Bo):MapH P K V A b n l:=hm.same (h.same b hm.lt hb)
end
theorem b5t (v:Vu)(l:List a3v)(w:Wd)(h:Ln w.heap.size w v l) :
 Calls prog 37 #[v] w λe w'=>∃a c,e= .returned (.slice a l.length c)/\Ln w'.heap.size w' (.slice a l.length c) l/\(∀q,a=some q->w.heap.size<=q.block/\q.block<w'.heap.size)/\Below w.heap.size w w':=by
 refine(a8o v l w h).mono ?_;rintro e w'⟨u,rfl,hr,hb⟩;have hL:=a0g c3n hr (by have:=h.len;omega);obtain⟨a,c,rfl,-⟩:=hL.form;refine⟨a,c,rfl,⟨hL,a0o hr,h.len⟩,λq hq=> ?_,hb⟩;subst hq;rcases hr.2 with⟨e,-⟩|⟨g,cap,cur,e,h3,h4,-⟩
 ·cases e
 ·simp only[Value.slice.injEq,Option.some.injEq]at e
  obtain⟨rfl,-⟩:=e;exact⟨h3,(Array.getElem?_eq_some_iff.1 h4).1⟩
abbrev nE :El Int:=⟨3,1,λn=>[.int .i64 n]⟩
theorem nOk :nE.Ok:=⟨λ_=>rfl,jM,λx u hu=>by
 simp at hu;subst hu;rfl⟩
theorem a8u (l:List Int):l.map (Value.int .i64)=l.flatMap nE.enc:=by
 induction l with
 |nil=>rfl
 |cons x l ih=>rw[List.map_cons,List.flatMap_cons,ih];rfl
theorem a1g (l:List Int):(sortI l).Perm l:=List.mergeSort_perm _ _
def a6e (en:List (Int×Tg))(i:Int):Tg:=(idG en i).getD tgZ
def c6a (en iN:List (Int×Tg))(i:Int):Bool:=((a6e en i).k==2||(a6e en i).k==3)&&(a6e iN i).k != (a6e en i).k
def c6p (en iN:List (Int×Tg)):List Int:=(sortI (en.map (·.1))).filter (c6a en iN)
section
variable {α β:Type}
theorem a7v (p:α->Bool)(f:α->β)(l:List α)(k:Nat)(hk:k<l.length):((l.take (k+1)).filter p).map f=((l.take k).filter p).map f++(if p l[k]then [f l[k]]else []):=by
 rw[List.take_add_one,List.getElem?_eq_getElem hk,Option.toList_some,List.filter_append,List.map_append];congr 1
 cases h:p l[k] <;> simp[h]
theorem b7i (f:α->Nat):∀(l:List α) (k:Nat) (hk:k<l.length),((l.take k).map f).sum+f l[k]=((l.take (k+1)).map f).sum/\((l.take (k+1)).map f).sum<=(l.map f).sum
 |x::l,0,_=>by simp
 |x::l,k+1,h=>by
  obtain⟨h1,h2⟩:=b7i f l k (by simpa using h);simp only[List.take_succ_cons,List.map_cons,List.sum_cons,List.getElem_cons_succ];omega
theorem c6b (g:Nat->Option β)(k:Nat):(List.range (k+1)).filterMap g=(List.range k).filterMap g++(g k).toList:=by
 rw[List.range_succ,List.filterMap_append]
 cases h:g k <;> simp[h]
theorem c4e (f:α×α->List β)(l m:List α)(k:Nat)(h1:k<l.length)(h2:k<m.length):((l.zip m).take (k+1)).flatMap f=((l.zip m).take k).flatMap f++f (l[k],m[k]):=by
 have hz:(l.zip m)[k]? =some (l[k],m[k]):=by
  rw[List.getElem?_eq_getElem (by rw[List.length_zip];omega),List.getElem_zip]
 rw[List.take_add_one,hz,Option.toList_some,List.flatMap_append];simp
end
def OldW (en:List (Int×Tg))(n0:Nat)(w:Wd)(Y:List Wq)(x:Wq):Prop :=
 ((a6e en x.id).k≠2/\x.key∉Y.map Wq.key)\/∃y b o,a6e en x.id=⟨2,none,none,some ⟨b,o,none⟩,none⟩/\AtC wqE w b o y/\b<n0/\Ln n0 w y.sl y.line/\(y.key=x.key↔x.key∈Y.map Wq.key)
def OldP (en:List (Int×Tg))(n0:Nat)(w:Wd)(P:List Pc)(x:Pc):Prop :=
 ((a6e en x.id).k≠3/\x∉P)\/∃y b o,a6e en x.id=⟨3,none,none,none,some ⟨b,o,none⟩⟩/\AtC plE w b o y/\b<n0/\(y=x↔x∈P)
section
variable {n0:Nat}{w:Wd}{x0 x1 x2 x3:Option Addr}{c0 c1 c2 c3:Nat}{E:List Eg}{Fa:List Fc}{Y:List Wq}{P:List Pc}
theorem a4w {α β:Type}{f:Nat->α->β}{l:List α}{q:β}(h:q∈l.mapIdx f):∃k,∃hk:k<l.length,q=f k l[k]:=by
 obtain⟨k,hk,rfl⟩:=List.getElem_of_mem h;exact⟨k,by simpa using hk,by simp⟩
theorem b8u {β:Type}{en:List (Int×β)}{i:Int}(h:i∈en.map (·.1)):∃q,q∈en/\q.1=i:=by
 obtain⟨q,hq,e⟩:=List.mem_map.1 h;exact⟨q,hq,e⟩
theorem a5z (hn:(ids (a1d E Fa Y P)).Nodup)(i:Int):(∃k,∃hk:k<E.length,E[k].id=i/\a6e (a1e (a1z x0 x1 x2 x3 E Fa Y P) []) i=⟨4,adr x0 (k*4),none,none,none⟩)\/(∃k,∃hk:k<Fa.length,Fa[k].id=i/\a6e (a1e (a1z x0 x1 x2 x3 E Fa Y P) []) i=⟨1,none,adr x1 (k*5),none,none⟩) \/
 (∃k,∃hk:k<Y.length,Y[k].id=i/\a6e (a1e (a1z x0 x1 x2 x3 E Fa Y P) []) i=⟨2,none,none,adr x2 (k*8),none⟩)\/(∃k,∃hk:k<P.length,P[k].id=i/\a6e (a1e (a1z x0 x1 x2 x3 E Fa Y P) []) i=⟨3,none,none,none,adr x3 (k*7)⟩) \/
 (i∉ids (a1d E Fa Y P)/\a6e (a1e (a1z x0 x1 x2 x3 E Fa Y P) []) i=tgZ):=by
 rw[<-a5w x0 x1 x2 x3]at hn ⊢;by_cases h:i∈(a1z x0 x1 x2 x3 E Fa Y P).map (·.1)
 ·obtain⟨q,hq,rfl⟩:=b8u h
  have hg:=c1p _ hn [] q hq;unfold a6e;rw[hg];unfold a1z tgE tgF tgY tgP at hq;rcases List.mem_append.1 hq with h1|h1
  ·obtain⟨k,hk,rfl⟩:=a4w h1
   exact .inl ⟨k,hk,rfl,rfl⟩
  rcases List.mem_append.1 h1 with h1|h1
  ·obtain⟨k,hk,rfl⟩:=a4w h1
   exact .inr (.inl ⟨k,hk,rfl,rfl⟩)
  rcases List.mem_append.1 h1 with h1|h1
  ·obtain⟨k,hk,rfl⟩:=a4w h1
   exact .inr (.inr (.inl ⟨k,hk,rfl,rfl⟩))
  ·obtain⟨k,hk,rfl⟩:=a4w h1
   exact .inr (.inr (.inr (.inl ⟨k,hk,rfl,rfl⟩)))
 ·refine .inr (.inr (.inr (.inr ⟨h,?_⟩)))
  unfold a6e;rw[b7b _ _ _ h];rfl
theorem a4n (hn:(ids (a1d E Fa Y P)).Nodup):(E.map Eg.id).Nodup/\(Fa.map Fc.id).Nodup/\(Y.map Wq.id).Nodup/\(P.map Pc.id).Nodup /\
 (∀x∈E,∀y∈Y,x.id≠y.id)/\(∀x∈E,∀y∈P,x.id≠y.id)/\(∀x∈Fa,∀y∈Y,x.id≠y.id)/\(∀x∈Fa,∀y∈P,x.id≠y.id)/\(∀x∈Y,∀y∈P,x.id≠y.id):=by
 unfold ids a1d at hn;simp only[List.map_map,List.nodup_append,List.mem_append,List.mem_map,Function.comp_def,Eg.key,Wq.key]at hn;obtain⟨h1,⟨h2,⟨h3,h4,h34⟩,h234⟩,h1234⟩:=hn;exact⟨h1,h2,h3,h4,λx hx y hy=>h1234 _ ⟨x,hx,rfl⟩ _ (.inr (.inl ⟨y,hy,rfl⟩)),λx hx y hy=>h1234 _ ⟨x,hx,rfl⟩ _ (.inr (.inr ⟨y,hy,rfl⟩)),λx hx y hy=>h234 _ ⟨x,hx,rfl⟩ _ (.inl ⟨y,hy,rfl⟩),λx hx y hy=>h234 _ ⟨x,hx,rfl⟩ _ (.inr ⟨y,hy,rfl⟩),λx hx y hy=>h34 _ ⟨x,hx,rfl⟩ _ ⟨y,hy,rfl⟩⟩
theorem b7j (hn:(ids (a1d E Fa Y P)).Nodup)(i:Int):(a6e (a1e (a1z x0 x1 x2 x3 E Fa Y P) []) i).k=2↔i∈Y.map Wq.id:=by
 obtain⟨n1,n2,n3,n4,d1,d2,d3,d4,d5⟩:=a4n hn;rw[List.mem_map];rcases a5z (x0:=x0) (x1:=x1) (x2:=x2) (x3:=x3) hn i with⟨k,hk,rfl,e⟩|⟨k,hk,rfl,e⟩|⟨k,hk,rfl,e⟩|⟨k,hk,rfl,e⟩|⟨h,e⟩ <;> rw[e]
 ·exact⟨λh=>absurd h (by simp[tgZ]),λ⟨y,hy,e2⟩=>absurd e2.symm (d1 _ (List.getElem_mem hk) _ hy)⟩
 ·exact⟨λh=>absurd h (by simp[tgZ]),λ⟨y,hy,e2⟩=>absurd e2.symm (d3 _ (List.getElem_mem hk) _ hy)⟩
 ·exact⟨λ_=>⟨_,List.getElem_mem hk,rfl⟩,λ_=>rfl⟩
 ·exact⟨λh=>absurd h (by simp[tgZ]),λ⟨y,hy,e2⟩=>absurd e2 (d5 _ hy _ (List.getElem_mem hk))⟩
 ·refine⟨λh=>absurd h (by simp[tgZ]),λ⟨y,hy,e2⟩=>absurd ?_ h⟩
  unfold ids a1d;simp only[List.map_map,List.mem_append,List.mem_map,Function.comp_def,Eg.key,Wq.key];exact .inr (.inr (.inl ⟨y,hy,e2⟩))
theorem a7w (hn:(ids (a1d E Fa Y P)).Nodup)(i:Int):(a6e (a1e (a1z x0 x1 x2 x3 E Fa Y P) []) i).k=3↔i∈P.map Pc.id:=by
 obtain⟨n1,n2,n3,n4,d1,d2,d3,d4,d5⟩:=a4n hn;rw[List.mem_map];rcases a5z (x0:=x0) (x1:=x1) (x2:=x2) (x3:=x3) hn i with⟨k,hk,rfl,e⟩|⟨k,hk,rfl,e⟩|⟨k,hk,rfl,e⟩|⟨k,hk,rfl,e⟩|⟨h,e⟩ <;> rw[e]
 ·exact⟨λh=>absurd h (by simp[tgZ]),λ⟨y,hy,e2⟩=>absurd e2.symm (d2 _ (List.getElem_mem hk) _ hy)⟩
 ·exact⟨λh=>absurd h (by simp[tgZ]),λ⟨y,hy,e2⟩=>absurd e2.symm (d4 _ (List.getElem_mem hk) _ hy)⟩
 ·exact⟨λh=>absurd h (by simp[tgZ]),λ⟨y,hy,e2⟩=>absurd e2.symm (d5 _ (List.getElem_mem hk) _ hy)⟩
 ·exact⟨λ_=>⟨_,List.getElem_mem hk,rfl⟩,λ_=>rfl⟩
 ·refine⟨λh=>absurd h (by simp[tgZ]),λ⟨y,hy,e2⟩=>absurd ?_ h⟩
  unfold ids a1d;simp only[List.map_map,List.mem_append,List.mem_map,Function.comp_def,Eg.key,Wq.key];exact .inr (.inr (.inr ⟨y,hy,e2⟩))
theorem c6c (hM:MapV n0 w (.slice x0 E.length c0) (.slice x1 Fa.length c1) (.slice x2 Y.length c2) (.slice x3 P.length c3) E Fa Y P)(hn:(ids (a1d E Fa Y P)).Nodup)(x:Wq):OldW (a1e (a1z x0 x1 x2 x3 E Fa Y P) []) n0 w Y x:=by
 obtain⟨n1,n2,n3,n4,d1,d2,d3,d4,d5⟩:=a4n hn;by_cases h:x.id∈Y.map Wq.id
 ·have h2:=(b7j (x0:=x0) (x1:=x1) (x2:=x2) (x3:=x3) hn x.id).2 h
  rcases a5z (x0:=x0) (x1:=x1) (x2:=x2) (x3:=x3) hn x.id with⟨k,hk,e0,e⟩|⟨k,hk,e0,e⟩|⟨k,hk,e0,e⟩|⟨k,hk,e0,e⟩|⟨h,e⟩
  ·exact yer
  ·exact yer
  ·obtain⟨b,o,d,ev,-,bS,hc⟩:=hM.w.some_ xM
   simp only[Value.slice.injEq,true_and]at ev;obtain⟨ha,-⟩:=ev;refine .inr ⟨Y[k],b,o+k*8,?_,hc k hk,bS,hM.wl _ (List.getElem_mem hk),λcW=> ?_,λcW=> ?_⟩
   ·rw[e,ha];rfl
   ·exact List.mem_map.2 ⟨Y[k],List.getElem_mem hk,cW⟩
   ·obtain⟨y,hy,AQ⟩:=List.mem_map.1 cW
    have h5:y.id=x.id:=congrArg Wk.id AQ;rw[a2z Wq.id n3 (List.getElem_mem hk) hy (e0.trans h5.symm)];exact AQ
  ·exact yer
  ·exact yer
 ·refine .inl ⟨λh2=>h ((b7j hn x.id).1 h2),λh2=>h ?_⟩
  obtain⟨y,hy,e⟩:=List.mem_map.1 h2;exact List.mem_map.2 ⟨y,hy,congrArg Wk.id e⟩
theorem c1x (hM:MapV n0 w (.slice x0 E.length c0) (.slice x1 Fa.length c1) (.slice x2 Y.length c2) (.slice x3 P.length c3) E Fa Y P)(hn:(ids (a1d E Fa Y P)).Nodup)(x:Pc):OldP (a1e (a1z x0 x1 x2 x3 E Fa Y P) []) n0 w P x:=by
 obtain⟨n1,n2,n3,n4,d1,d2,d3,d4,d5⟩:=a4n hn;by_cases h:x.id∈P.map Pc.id
 ·have h2:=(a7w (x0:=x0) (x1:=x1) (x2:=x2) (x3:=x3) hn x.id).2 h
  rcases a5z (x0:=x0) (x1:=x1) (x2:=x2) (x3:=x3) hn x.id with⟨k,hk,e0,e⟩|⟨k,hk,e0,e⟩|⟨k,hk,e0,e⟩|⟨k,hk,e0,e⟩|⟨h,e⟩
  ·exact yer
  ·exact yer
  ·exact yer
  ·obtain⟨b,o,d,ev,-,bS,hc⟩:=hM.p.some_ xM
   simp only[Value.slice.injEq,true_and]at ev;obtain⟨ha,-⟩:=ev;refine .inr ⟨P[k],b,o+k*7,?_,hc k hk,bS,λcW=> ?_,λcW=> ?_⟩
   ·rw[e,ha];rfl
   ·rw[<-cW];exact List.getElem_mem hk
   ·exact a2z Pc.id n4 (List.getElem_mem hk) cW e0
  ·exact yer
 ·exact .inl ⟨λh2=>h ((a7w hn x.id).1 h2),λh2=>h (List.mem_map.2 ⟨x,h2,rfl⟩)⟩
end
theorem c4f {x0 x1 x2 x3 y0 y1 y2 y3:Option Addr}{E E2:List Eg}{Fa F2:List Fc}{Y Y2:List Wq}{P P2:List Pc}(hn:(ids (a1d E Fa Y P)).Nodup)(dp:(ids (a1d E2 F2 Y2 P2)).Nodup)(i:Int) :
 i∈c6p (a1e (a1z x0 x1 x2 x3 E Fa Y P) []) (a1e (a1z y0 y1 y2 y3 E2 F2 Y2 P2) [])↔(i∈(a1d E Fa Y P).w.map Wk.id/\i∉(a1d E2 F2 Y2 P2).w.map Wk.id)\/(i∈(a1d E Fa Y P).p.map Pc.id/\i∉(a1d E2 F2 Y2 P2).p.map Pc.id):=by
 have a1:=b7j (x0:=x0) (x1:=x1) (x2:=x2) (x3:=x3) hn i;have a2:=a7w (x0:=x0) (x1:=x1) (x2:=x2) (x3:=x3) hn i;have b1:=b7j (x0:=y0) (x1:=y1) (x2:=y2) (x3:=y3) dp i;have b2:=a7w (x0:=y0) (x1:=y1) (x2:=y2) (x3:=y3) dp i;have ew:∀L:List Wq,(L.map Wq.key).map Wk.id=L.map Wq.id:=λL=>by rw[List.map_map];rfl
 unfold c6p a1d;simp only[ew];rw[List.mem_filter,(a1g _).mem_iff,b3f,a5w];have eY:i∈Y.map Wq.id\/i∈P.map Pc.id->i∈ids (a1d E Fa Y P)\/i∈([]:List (Int×Tg)).map (·.1):=λh=> .inl (by
  unfold ids a1d;simp only[ew,List.mem_append];rcases h with h|h
  ·exact .inr (.inr (.inl h))
  ·exact .inr (.inr (.inr h)))
 unfold c6a;generalize (a6e (a1e (a1z x0 x1 x2 x3 E Fa Y P) []) i).k=k at a1 a2 ⊢;generalize (a6e (a1e (a1z y0 y1 y2 y3 E2 F2 Y2 P2) []) i).k=k2 at b1 b2 ⊢;rw[<-a1,<-a2,<-b1,<-b2];rw[<-a1,<-a2]at eY;simp only[Bool.and_eq_true,Bool.or_eq_true,beq_iff_eq,bne_iff_ne,ne_eq];constructor
 ·rintro⟨-,h1|h1,h2⟩
  ·exact .inl ⟨h1,λh=>h2 (h.trans h1.symm)⟩
  ·exact .inr ⟨h1,λh=>h2 (h.trans h1.symm)⟩
 ·rintro(⟨h1,h2⟩|⟨h1,h2⟩)
  ·exact⟨eY (.inl h1),.inl h1,λh=>h2 (h.trans h1)⟩
  ·exact⟨eY (.inr h1),.inr h1,λh=>h2 (h.trans h1)⟩
theorem c1y (x0 x1 x2 x3 y0 y1 y2 y3:Option Addr)(c0 c1 c2 c3 d0 d1 d2 d3:Nat)(E E2:List Eg)(Fa F2:List Fc)(Y Y2:List Wq)(P P2:List Pc)(w:Wd)
 (qs:MapV w.heap.size w (.slice x0 E.length c0) (.slice x1 Fa.length c1) (.slice x2 Y.length c2) (.slice x3 P.length c3) E Fa Y P) (qt:MapV w.heap.size w (.slice y0 E2.length d0) (.slice y1 F2.length d1) (.slice y2 Y2.length d2) (.slice y3 P2.length d3) E2 F2 Y2 P2) :
 Calls prog 19 #[.agg #[.slice x0 E.length c0,.slice x1 Fa.length c1,.slice x2 Y.length c2,.slice x3 P.length c3],.agg #[.slice y0 E2.length d0,.slice y1 F2.length d1,.slice y2 Y2.length d2,.slice y3 P2.length d3]] w λe w' =>
  ∃B1 B2 B3 B4 mo mn k1 k2,e= .returned (.func (.func 50) #[] #[.pointer (some ⟨B1,0,none⟩),.pointer (some ⟨B2,0,none⟩),.pointer (some ⟨B3,0,none⟩),.pointer (some ⟨B4,0,none⟩)]) /\
   Blk w' B1 #[.map (some mo)] 62/\Blk w' B2 #[.map (some mn)] 62/\Blk w' B3 #[.slice y0 E2.length d0,.slice y1 F2.length d1,.slice y2 Y2.length d2,.slice y3 P2.length d3] 32/\Blk w' B4 #[.slice x0 E.length c0,.slice x1 Fa.length c1,.slice x2 Y.length c2,.slice x3 P.length c3] 32 /\
   (w.heap.size<=B1/\w.heap.size<=B2/\w.heap.size<=B3/\w.heap.size<=B4/\w.heap.size<=mo/\w.heap.size<=mn) /\
   MapH prog inKy tgV w' mo k1 (a1e (a1z x0 x1 x2 x3 E Fa Y P) [])/\MapH prog inKy tgV w' mn k2 (a1e (a1z y0 y1 y2 y3 E2 F2 Y2 P2) [])/\Below w.heap.size w w':=by
 have hA:=λX hb=>a3p x0 x1 x2 x3 c0 c1 c2 c3 E Fa Y P X (qs.at_ hb)
 have hB:=λX hb=>a3p y0 y1 y2 y3 d0 d1 d2 d3 E2 F2 Y2 P2 X (qt.at_ hb)
 obtain⟨ra,qu⟩:=zE (decide (ids (a1d E Fa Y P)).Nodup);obtain⟨rb,lS⟩:=zE (decide (ids (a1d E2 F2 Y2 P2)).Nodup);rw[qu]at hA;rw[lS]at hB;have QR:∀(fn:Fn) (first cap:Array Value) (w:Wd),(Instr.makeFunc fn first cap).run prog w= .ok (.func fn first cap) w:=λ_ _ _ _=>rfl
 have bE:Below w.heap.size w ((w.alloc (.cells #[.slice x0 E.length c0,.slice x1 Fa.length c1,.slice x2 Y.length c2,.slice x3 P.length c3] 32)).alloc (.cells #[.slice y0 E2.length d0,.slice y1 F2.length d1,.slice y2 Y2.length d2,.slice y3 P2.length d3] 32)):=by exact zC
 have k4:=(Blk.new w #[.slice x0 E.length c0,.slice x1 Fa.length c1,.slice x2 Y.length c2,.slice x3 P.length c3] 32).alloc (.cells #[.slice y0 E2.length d0,.slice y1 F2.length d1,.slice y2 Y2.length d2,.slice y3 P2.length d3] 32);have k3:=Blk.new (w.alloc (.cells #[.slice x0 E.length c0,.slice x1 Fa.length c1,.slice x2 Y.length c2,.slice x3 P.length c3] 32)) #[.slice y0 E2.length d0,.slice y1 F2.length d1,.slice y2 Y2.length d2,.slice y3 P2.length d3] 32;rw[World.size_alloc]at k3;clear qu lS;go_enter func19,ntmps19;go_wp2_with (first
  |(go_at_call 17;(with_reducible refine(hA _ bE).mono ?_);rintro e W1⟨mo,rfl,ko,⟨n1,bR⟩,ah⟩
    replace k3:=k3.below ah k3.lt;replace k4:=k4.below ah k4.lt;replace ah:=bE.trans (ah.mono bE.size);obtain⟨p0,p1,p2,p3⟩:=zN4 k3;have lX:Below w.heap.size w (W1.alloc (.cells #[.map (some mo)] 62)):=ah.alloc ah.size _;have k1:=Blk.new W1 #[.map (some mo)] 62;replace k3:=k3.alloc (.cells #[.map (some mo)] 62);replace k4:=k4.alloc (.cells #[.map (some mo)] 62);replace bR:=bR.alloc (.cells #[.map (some mo)] 62))
  |(go_at_call 17;(with_reducible refine(hB _ lX).mono ?_);rintro e W2⟨mn,rfl,mE,⟨n2,ij⟩,aq⟩
    replace k3:=(k3.below aq k3.lt).alloc (.cells #[.map (some mn)] 62);replace k4:=(k4.below aq k4.lt).alloc (.cells #[.map (some mn)] 62);replace k1:=(k1.below aq k1.lt).alloc (.cells #[.map (some mn)] 62);replace bR:=(bR.below aq bR.lt).alloc (.cells #[.map (some mn)] 62);have k2:=Blk.new W2 #[.map (some mn)] 62;replace ij:=ij.alloc (.cells #[.map (some mn)] 62);have b9:Below w.heap.size w (W2.alloc (.cells #[.map (some mn)] 62)):=(lX.trans (aq.mono lX.size)).alloc (lX.trans (aq.mono lX.size)).size _))
 go_ret;have s1:=bE.size;have s2:=ah.size;have s3:=lX.size;have s4:=aq.size;exact⟨W1.heap.size,W2.heap.size,w.heap.size+1,w.heap.size,mo,mn,n1,n2,rfl,k1,k2,k3,k4,⟨xM,xM,xM,xM,xM,xM⟩,bR,ij,b9⟩
/-! ### plain -/
section
variable {E E2:List Eg}{Fa F2:List Fc}{Y Y2:List Wq}{P P2:List Pc}
theorem c1z {α β γ:Type}{f:α->γ}{g:β->γ}{l:List α}{m:List β}(h:l.map f=m.map g):l.length=m.length/\∀k (h1:k<l.length) (h2:k<m.length),f l[k]=g m[k]:=by
 have hl:=congrArg List.length h;rw[List.length_map,List.length_map]at hl;refine⟨hl,λk h1 h2=> ?_⟩;have:=congrArg (λx=>x[k]?) h;simpa[List.getElem?_eq_getElem h1,List.getElem?_eq_getElem h2]using this
theorem b5u (h:a2c (a1d E Fa Y P) (a1d E2 F2 Y2 P2)=true):E.length=E2.length/\Fa.length=F2.length/\(∀k (h1:k<E.length) (h2:k<E2.length),E[k].line.length=E2[k].line.length)/\∀k (h1:k<Fa.length) (h2:k<F2.length),Fa[k].id=F2[k].id:=by
 unfold a2c a1d at h;simp only[Bool.and_eq_true,beq_iff_eq,List.map_map]at h;obtain⟨l1,h1⟩:=c1z h.1;obtain⟨l2,h2⟩:=c1z h.2;refine⟨l1,l2,λk a b=> ?_,λk a b=> ?_⟩
 ·have:=h1 k a b
  simp only[Function.comp_apply,Prod.mk.injEq]at this;exact this.2.2.2
 ·have:=h2 k a b
  simp only[Prod.mk.injEq]at this;exact this.1
theorem b3w (hn:(Fa.map Fc.id).Nodup)(hi:∀k (h1:k<Fa.length)(h2:k<F2.length),Fa[k].id=F2[k].id):∀k (h1:k<F2.length) (h2:k<Fa.length),F2[k]∉Fa↔F2[k]≠Fa[k]:=λk h1 h2 =>
 ⟨λh e=>h (e▸List.getElem_mem h2),λh hm=>h (a2z Fc.id hn hm (List.getElem_mem h2) (hi k h2 h1).symm)⟩
theorem NormR.ids {a b:Mp}(h:NormR a b):(ids a).Perm (ids b):=((h.e.1.map _).append ((h.f.1.map _).append ((h.w.1.map _).append (h.p.1.map _))))
theorem NormR.plain {a b:Mp}(h:NormR a b):(Go.Proofs.YteijfnkidefekaaGreat.ids a).Nodup↔(Go.Proofs.YteijfnkidefekaaGreat.ids b).Nodup:=h.ids.nodup_iff
theorem c6d {E E':List Eg}(h:(E.map Eg.key).Perm (E'.map Eg.key)):(E'.map λx:Eg=>x.line.length).sum=(E.map λx:Eg=>x.line.length).sum:=by
 have h2:=(h.map λx:Ek=>x.line.length).sum_nat;rw[List.map_map,List.map_map]at h2;exact h2.symm
theorem b8v (x0 x1 x2 x3:Option Addr)(E:List Eg)(Fa:List Fc)(Y:List Wq)(P:List Pc):(a1e (a1z x0 x1 x2 x3 E Fa Y P) []).length<=E.length+Fa.length+Y.length+P.length:=by
 have:=(a8q (a1z x0 x1 x2 x3 E Fa Y P) []).1;have h2:(a1z x0 x1 x2 x3 E Fa Y P).length=E.length+Fa.length+Y.length+P.length:=by
  unfold a1z tgE tgF tgY tgP;simp only[List.length_append,List.length_mapIdx];omega
 simp only[List.length_nil]at this;omega
end
/-! ### appends within a round -/
theorem c4g {α:Type}{E:El α}(hE:E.Ok)(w:Wd)(x:α):Lst E (w.heap.size+1) (w.alloc (.cells (E.enc x).toArray E.t)) (.slice (some ⟨w.heap.size,0,none⟩) 1 1) [x]:=by
 refine⟨_,1,rfl,yR _,by simp,λj hj=> ?_⟩;obtain rfl:j=0:=by simpa using hj
 refine⟨w.heap.size,0,rfl,Nat.lt_succ_self _,λi hi=> ?_⟩;have hk:=Blk.new w (E.enc x).toArray E.t;have:=hk.cell i;rw[show(0:Nat)+0*E.s+i=i by omega,this];simp
section
variable {P:Program}{α:Type}{E:El α}{st:Td}{F:Fence}{n:Nat}
theorem b1p (w:Wd)(t ty e:Td)(i:TypeInfo)(ht:P.underlying t=some (.slice e))(hi:P.info? e=some i):(Builtin.append_ #[t,t] ty #[.slice none 0 0,.slice none 0 0]).run P w= .ok (.slice none 0 0) w:=by
 have hn:(Builtin.firstCells i.size 0 (.slice none 0 0)).run P w= .ok #[] w:=run_firstCells_none _ _ _ _ _;simp[Builtin.append_,run_underlying ht,sizeOf,typeInfo,hi,Builtin.lenOf,hn]
theorem El.append_allN (hE:E.Ok)(hI:E.In P st)(W:Wd)(base:Nat)(v xv:Vu)(l l2:List α)(ty:Td)(hv:W.ownsRow base E.t E.s v l.length (l.flatMap E.enc)){n0:Nat}(hx:Lst E n0 W xv l2)(hf:Frm xv l2.length)(hl:l.length+l2.length<=100000)(hb:base<=W.heap.size) :
 ∃v' W',(Builtin.append_ #[st,st] ty #[v,xv]).run P W= .ok v' W'/\W'.ownsRow base E.t E.s v' (l++l2).length ((l++l2).flatMap E.enc)/\W.grownBy W' v.ownBlock/\Below base W W'/\(v'.ownBlock=v.ownBlock\/v'.ownBlock=some W.heap.size):=by
 exact yak
theorem El.allInN (hE:E.Ok)(hI:E.In P st){ops:Array Oper}{rest:List Oper}{o:Oper}{a:Act}{w:Wd}{Q:Exit->Act->World->Prop}(bP:o.guard=none)(s x:Operand)
 (ho:o.op= .call { callee:= .builtin .append,args:= #[s,x],argTypes:= #[st,st] }) (base:Nat) {v:Vu} (hs:a.eval s=v) (l:List α) (hv:w.ownsRow base E.t E.s v l.length (l.flatMap E.enc)) {xv:Vu} (l2:List α) (aO:a.eval x=xv) {n0:Nat} (hx:Lst E n0 w xv l2) (hf:Frm xv l2.length) (hl:l.length+l2.length<=100000) (hb:base<=w.heap.size)
 (bq:∀f,o.about P w a.eval=some f->F.fn f)
 (h:∀v' w',w'.ownsRow base E.t E.s v' (l++l2).length ((l++l2).flatMap E.enc)->w.grownBy w' v.ownBlock->Below base w w'->(v'.ownBlock=v.ownBlock\/v'.ownBlock=some w.heap.size)->wpListIn F n P ops Q rest (a.put o.dst v') w') :
 wpListIn F n P ops Q (o::rest) a w:=by
 obtain⟨v',w',hr,h2,h3,h4,h5⟩:=El.append_allN hE hI w base v xv l l2 o.type hv hx hf hl hb;refine wpListIn_plain bP λK hK=> ?_
 unfold Oper.wpIn;refine⟨bq,?_⟩;unfold Oper.semAt execOp
 cases oo:F.round <;>
 ·simp only[ho,resolve,invoke,builtin,Sem.run_bind,Sem.run_pure,Result.andThen_ok,List.map_toArray,List.map_cons,List.map_nil,hs,aO,hr]
  exact hK _ _ (h v' w' h2 h3 h4 h5)
end
/-! ### what the loop carries -/
theorem Ln.recd {n:Nat}{W W':Wd}{v:Vu}{l:List a3v}(h:Ln n W v l)(hn:n<=W.heap.size){row:Option Nat}(hg:W.grownBy W' row)(hr:∀r,row=some r->∃o,W.heap[r]? =some o/\a9c o=true):Ln W'.heap.size W' v l:=by
 obtain⟨⟨a,cap,e,c1,c2,c3⟩,h2,h3⟩:=h;refine⟨⟨a,cap,e,c1,c2,λj hj=> ?_⟩,h2,h3⟩;obtain⟨b,off,rfl,hb,hc⟩:=c3 j hj;have F1:W'.heap[b]? =W.heap[b]? :=hg.block b xM λe=>by
  obtain⟨o,h4,h5⟩:=hr b e.symm;obtain⟨o',h6,h7⟩:=b7f (hc 0 jM);rw[h4]at h6
  cases h6;rw[a2o h5]at h7
  cases h7
 exact⟨b,off,rfl,by have:=hg.size;omega,λi hi=>(a1r F1).trans (hc i hi)⟩
structure EI (n0 Bo:Nat)(w:Wd)(pre:List Et)(W:Wd):Prop where
 out:∃v,Blk W Bo #[v] 37/\W.ownsRow n0 50 25 v pre.length (pre.flatMap etE.enc)
 ln:∀x∈pre,Ln W.heap.size W x.w.sl x.w.line/\a0l x.w.id/\a0l x.p.id
 la:∀x∈pre,∀a,x.w.la=some a->a.block<W.heap.size/\¬a3u Bo W a.block
 bel:Below n0 w W
section
variable {n0 Bo:Nat}{w A A':Wd}{pre:List Et}
theorem b8w {W:Wd}{base:Nat}{e:Td}{s:Nat}{v:Vu}{n:Nat}{xs:List Value}(h:W.ownsRow base e s v n xs){k off len cap:Nat}(hv:v= .slice (some ⟨k,off,none⟩) len cap):∃o,W.heap[k]? =some o/\o.isCells=true:=by
 subst hv;rcases h.2 with⟨e1,_⟩|⟨g,bk,cur,e1,_,hg,_⟩
 ·cases e1
 ·simp only[Value.slice.injEq,Option.some.injEq,Addr.mk.injEq]at e1
  obtain⟨⟨rfl,-⟩,-⟩:=e1;exact⟨_,hg,rfl⟩
theorem EI.outC_of (h:EI n0 Bo w pre A):a3u Bo A Bo:=by
 obtain⟨v,hb,-⟩:=h.out;exact⟨⟨.cells #[v] 37 (0,0),hb,rfl⟩,.inl rfl⟩
theorem EI.mine {row:Option Nat}{k:Nat}(h:EI n0 Bo w pre A)(hg:A.grownBy A' row)(hr:∀r,row=some r->¬a3u Bo A r)(hc:a3u Bo A' k):a3u Bo A k:=by
 have pH:=h.outC_of;obtain⟨v,kb,ag⟩:=h.out;obtain⟨-,hk|⟨off,len,cap,cC⟩⟩:=hc
 ·rw[hk]
  exact pH
 ·rw[a1r (hg.block Bo kb.lt (λe=>hr Bo e.symm pH)),kb.cell 0]at cC
  have hv:v= .slice (some ⟨k,off,none⟩) len cap:=by simpa using cC
  exact⟨b8w ag hv,.inr ⟨off,len,cap,by rw[kb.cell 0,hv];rfl⟩⟩
theorem EI.own (h:EI n0 Bo w pre A){v:Vu}(hb:Blk A Bo #[v] 37)(ag:A.ownsRow n0 50 25 v pre.length (pre.flatMap etE.enc)){g:Nat}(hg:v.ownBlock=some g):a3u Bo A g:=by
 rcases ag.2 with⟨e1,_⟩|⟨g',bk,cur,e1,_,hgb,_⟩
 ·rw[e1]at hg;cases hg
 ·rw[e1]at hg
  cases hg;exact⟨⟨_,hgb,rfl⟩,.inr ⟨0,_,bk,by rw[hb.cell 0,e1];rfl⟩⟩
theorem EI.turn {Z:Nat}{row:Option Nat}(h:EI n0 Bo w pre A)(hn:n0<=w.heap.size)(hz:n0<=Z)(hg:A.grownBy A' row)(hr:∀r,row=some r->Z<=r/\¬a3u Bo A r/\∃o,A.heap[r]? =some o/\a9c o=true):EI n0 Bo w pre A':=by
 have pH:=h.outC_of;have hm:=λk=>h.mine (k:=k) hg (λr e=>(hr r e).2.1)
 obtain⟨v,kb,ag⟩:=h.out;refine⟨⟨v,kb.kept hg (λe=>(hr Bo e).2.1 pH),ag.kept hg ?_⟩,λx hx=>⟨(h.ln x hx).1.recd (yR _) hg (λr e=>(hr r e).2.2),(h.ln x hx).2⟩,λx hx a ha=> ?_,h.bel.grown hg (Nat.le_trans hn h.bel.size) (λk e=>Nat.le_trans hz (hr k e).1)⟩
 ·cases ho:v.ownBlock with
  |none=>exact .inl rfl
  |some g=>exact .inr λe=>(hr g e.symm).2.1 (h.own kb ag ho)
 ·have:=h.la x hx a ha
  have h2:=hg.size;exact⟨xM,λhc=>this.2 (hm _ hc)⟩
end
end
end Go.Proofs.YteijfnkidefekaaGreat
