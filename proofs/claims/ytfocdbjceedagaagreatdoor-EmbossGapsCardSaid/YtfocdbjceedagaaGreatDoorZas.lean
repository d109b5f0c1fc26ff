/-
  Parts.
-/
import Derived.Test.YtfocdbjceedagaaGreatDoorZar
set_option linter.unusedVariables false
set_option linter.unusedSimpArgs false
set_option maxHeartbeats 4000000
set_option maxRecDepth 100000
namespace Go.Proofs.YtfocdbjceedagaaGreatDoor
open Tryz
section
open Go Go.RowKit
def AtFn (f:FuncId)(F:Fence)(n:Nat)(P:Program)(c:Code)(Q:Exit→Act→World→Prop)(a:Act)(w:World):Prop :=
 ∀(b:Frame) (k:List Item) (cs:List Frame),b.fn=f→b.roundOf=F.round→F.fn b.fn→F.room (cs.length+1+n) →
  ∃e a' w',Q e a' w'∧ArrivesIn (Machine.fenced P F) P (lone (b.atR a (.code c::k)) cs w) b k cs e a' w'
section
variable {f:FuncId}{F:Fence}{n:Nat}{P:Program}{Q:Exit→Act→World→Prop}{a:Act}{w:World}
theorem AtFn.of {c:Code}(h:c.wpIn F n P Q a w):AtFn f F n P c Q a w:=fun b k cs _=>h b k cs
theorem AtFn.mono {c:Code}{Q':Exit→Act→World→Prop}(h:AtFn f F n P c Q a w)(hq:∀e a w,Q e a w→Q' e a w):AtFn f F n P c Q' a w:=fun b k cs h1 h2 h3 h4=>by
 obtain⟨e,a',w',q,r⟩:=h b k cs h1 h2 h3 h4
 exact⟨e,a',w',hq _ _ _ q,r⟩
theorem AtFn.seq {x y:Code}(h:AtFn f F n P x (Exit.then (AtFn f F n P y Q) Q) a w):AtFn f F n P (.seq x y) Q a w:=by
 intro b k cs h1 h2 h3 h4
 have s0:StepsIn (Machine.fenced P F) P (lone (b.atR a (.code (.seq x y)::k)) cs w) (lone (b.atR a (.code x:: .code y::k)) cs w):= .one (fenced_calm h3 h4 rfl) stepR_seq
 obtain⟨e,a₁,w₁,hq,r⟩:=h b (.code y::k) cs h1 h2 h3 h4
 by_cases hn:e= .normal
 ·subst hn
  obtain⟨e₂,a₂,w₂,hq₂,r₂⟩:=hq b k cs h1 h2 h3 h4
  exact⟨e₂,a₂,w₂,hq₂,.of_steps (s0.trans r) r₂⟩
 ·refine⟨e,a₁,w₁,?_,.of_steps s0 (.pass (x:= .code y) rfl (fun _ _=> .inl hn) r)⟩
  cases e
  case normal=>exact absurd rfl hn
  all_goals exact hq
theorem AtFn.block {id:Nat}{c:Code}(h:AtFn f F n P c (fun e a w=>match e with | .normal=>Q .normal a w | .exit i=>i=id∧Q .normal a w | .panic ch=>Q (.panic ch) a w|_=>False) a w):AtFn f F n P (.block id c) Q a w:=by
 intro b k cs h1 h2 h3 h4
 have hc:=fenced_calm (P:=P) (w:=w) (fr:=b.atR a (.code (.block id c)::k)) h3 h4 rfl
 obtain⟨e,a₁,w₁,hq,r⟩:=h b (.inBlock id::k) cs h1 h2 h3 h4
 cases e with
 |normal=>exact⟨.normal,a₁,w₁,hq,.head hc stepR_block (StepsIn.trans r (.one (fenced_calm h3 h4 rfl) stepR_inBlock))⟩
 |exit i =>
  obtain⟨rfl,hq⟩:=hq
  exact⟨.normal,a₁,w₁,hq,.head hc stepR_block (r.1 k (by simp[exitTo]))⟩
 |panic ch=>exact⟨.panic ch,a₁,w₁,hq,.of_steps (.one hc stepR_block) (show ArrivesIn (Machine.fenced P F) P _ b k cs (.panic ch) a₁ w₁ from r)⟩
 |goto l=>exact hq.elim
 |ret=>exact hq.elim
 |outgrown=>exact hq.elim
def loopPost (P:Program)(l:Nat)(Q:Exit→Act→World→Prop)(a':Act):Ending→World→Prop
 |.returned _,W=>∃W',(Instr.endLoop l).run P W= .ok none W'∧Q .normal a' W'
 |.panicked ch,W=>Q (.panic ch) a' W
 |.outgrown,_=>False
theorem AtFn.range {g:Operand}{ps:Array Tmp}{assign body:Code}{l:Nat}{mark:List Deferred}{w₁ w₁' w₂:World}{d:Deferred}{gf:FuncId}{args:Array Value}
 (he:(Instr.enterLoop f a.tmps ps assign body F.round).run P w= .ok (l,mark) w₁) (hres:(resolve a.eval (rangeCall g l) 0).run P w₁= .ok d w₁') (hlead:∀f',Target.leads P w₁' d.target d.args=some f'→F.fn f')
 (hinv:(invoke d.target d.args).run P w₁'= .ok (.enter gf args) w₂) (hn:F.depth.isSome=true→1≤n) (hcall:CallsIn F (n-1) P gf args w₂ (loopPost P l Q { a with defers:=mark++a.defers })) :
 AtFn f F n P (.rangeFunc g ps assign body) Q a w:=by
 intro b k cs h1 h2 h3 h4
 subst h1
 rw[←h2] at he
 have hf0:(lone (b.atR a (.code (.rangeFunc g ps assign body)::k)) cs w).fenced P F:=by
  refine fenced_lone (.inl h3) (fun f' hf'=>hlead f' ?_) (Fence.room_le h4 (by omega))
  have hev:=Frame.eval_atR b a (.code (.rangeFunc g ps assign body)::k)
  simp only[Frame.atR] at hev
  simpa only [Frame.about,Frame.atR,he,hev,hres] using hf'
 have hin:=stepR_rangeFunc (P:=P) (b:=b) (a:=a) (k:=k) (cs:=cs) (w:=w) he hres hinv
 have hro:F.room ((b.atR { a with defers:=mark++a.defers } (.inRangeFunc l::k)::cs).length+1+(n-1)):=Fence.room_enter h4 hn
 obtain⟨e,w₃,fr,hR,hs,hfn,hl⟩:=hcall.2 (b.atR { a with defers:=mark++a.defers } (.inRangeFunc l::k)::cs) hro
 cases e with
 |outgrown=>exact hR.elim
 |returned v =>
  have hfl:=fenced_leaving (hfn▸hcall.1) hro hl
  obtain⟨w₄,hend,hq⟩:=hR
  refine⟨.normal,_,w₄,hq,.head hf0 hin (StepsIn.trans hs (.head hfl ?_ (.one (fenced_calm (fr:=b.atR { a with defers:=mark++a.defers } (.endRangeFunc l::k)) h3 h4 rfl) (stepR_endRangeFunc hend))))⟩
  rw[←finish_atR_inRangeFunc l v]
  exact step_leave_returned hl
 |panicked ch =>
  have hfl:=fenced_leaving (hfn▸hcall.1) hro hl
  refine⟨.panic ch,_,w₃,hR,.inRangeFunc l::k,.head hf0 hin (StepsIn.trans hs (.one hfl ?_))⟩
  rw[←Frame.raise_atR]
  exact step_leave_panicked hl
theorem calls_of_atFn {fn:Func}{c:Code}{args:Array Value}{R:Ending→World→Prop}(hf:P.funcs[f]? =some fn)(hb:fn.body=some c)(hF:F.fn f)(hro:F.round=none)
 (h:AtFn f F n P c (fun e a w=>match e with | .normal=>LeavesInM F n P fn a.tmps R a.defers .returning w | .ret=>LeavesInM F n P fn a.tmps R a.defers .returning w | .panic ch=>LeavesInM F n P fn a.tmps R a.defers (.panicking ch) w|_=>False) { tmps:=args++Array.replicate (fn.ntmps-args.size) undef,defers:=[] } w):CallsIn F n P f args w R:=by
 refine⟨hF,fun cs hr=> ?_⟩
 obtain⟨b,hbd⟩:∃b:Frame,b={ (default:Frame) with fn:=f,kind:= .normal,roundOf:=none }:=⟨_,rfl⟩
 have hb1:b.fn=f:=by rw[hbd]
 have hb2:b.roundOf=none:=by rw[hbd]
 have hb3:b.kind= .normal:=by rw[hbd]
 have hin:Frame.enter P f args .normal=b.atR { tmps:=args++Array.replicate (fn.ntmps-args.size) undef,defers:=[] } [.code c]:=by
  rw[hbd]
  simp[Frame.enter,Frame.atR,hf,hb]
 obtain⟨e,a',w',hq,r⟩:=h b [] cs hb1 (hb2.trans hro.symm) (hb1▸hF) hr
 rw[←hin] at r
 have hlv:∀(u:FrameMode) (todo:List Item),LeavesInM F n P fn a'.tmps R a'.defers u w'→∃e w'' fr,R e w''∧ComesIn (Machine.fenced P F) P (lone { b.atR a' todo with mode:=u } cs w') (lone fr cs w'') e∧fr.fn=f∧fr.leaving P w'' e:=fun u todo hL=>by
  obtain⟨e,w'',fr,h1,h2,h3,h4⟩:=leaves_stepsInM a'.defers u w' { b.atR a' todo with mode:=u } cs rfl rfl rfl (show P.funcs[b.fn]? =some fn by rw[hb1];exact hf) hb3 (show F.fn b.fn from hb1▸hF) hr hL
  exact⟨e,w'',fr,h1,h2,h3.trans hb1,h4⟩
 cases e with
 |normal =>
  obtain⟨e,w'',fr,h1,h2,h3⟩:=hlv .returning [] hq
  exact⟨e,w'',fr,h1,ComesIn.of_steps (StepsIn.trans r (.one (fenced_calm (fr:=b.atR a' []) (hb1▸hF) hr rfl) (stepR_end hb2))) h2,h3⟩
 |ret =>
  obtain⟨todo,hs⟩:=r.1 hb2
  obtain⟨e,w'',fr,h1,h2,h3⟩:=hlv .returning todo hq
  exact⟨e,w'',fr,h1,ComesIn.of_steps hs h2,h3⟩
 |panic ch =>
  obtain⟨todo,hs⟩:=r
  obtain⟨e,w'',fr,h1,h2,h3⟩:=hlv (.panicking ch) todo hq
  exact⟨e,w'',fr,h1,ComesIn.of_steps hs h2,h3⟩
 |exit i=>exact hq.elim
 |goto l=>exact hq.elim
 |outgrown=>exact hq.elim
end
theorem atFn_range_pb {f:FuncId}{F:Fence}{n:Nat}{P:Program}{α:Type}{g:Operand}{ps:Array Tmp}{assign body:Code}{Q:Exit→Act→World→Prop}{a:Act}{w:World}
 (hro:F.round=none) (h1:1≤n) {gf:Nat} {lb:Array Value} (hg:a.eval g= .func (.func gf) #[] lb) (hFg:F.fn gf) (eg:∀args w,(callFunc gf args).run P w= .ok (.enter gf args) w)
 {encs:α→Array Value} {C:World→Nat→Prop} (hC:∀(W:World) (l k:Nat) (o o':Obj),W.heap[l]? =some o→recO o=true→recO o'=true→(C (W.putObj l o') k↔C W k)) (hCl:∀(W:World) (l:Nat) (o:Obj),W.heap[l]? =some o→recO o=true→¬C W l)
 (hCa:∀(W:World) (k:Nat) (o:Obj),C (W.alloc o) k→recO o=true→C W k) (hC0:∀k,C w k→k<w.heap.size)
 {n0:Nat} (hn0:n0≤w.heap.size) {Kx:List α→α→World→Prop} (hKp:∀pre x (W:World) (l:Nat) (o o':Obj),W.heap[l]? =some o→recO o=true→recO o'=true→Kx pre x W→Kx pre x (W.putObj l o')) {S:List α→Prop} {N:Nat} {w0:World} (hseq:SeqP F (n-1) P gf lb encs C n0 Kx S N w0) (hb0:Below w0.heap.size w0 w) (hps:∀x,(encs x).size=ps.size)
 (I:List α→World→Prop) (hI:∀pre A A' row,I pre A→A.grownBy A' row→(∀r,row=some r→w.heap.size≤r∧¬C A r)→I pre A') (hIC:∀pre A A' row k,I pre A→A.grownBy A' row→(∀r,row=some r→¬C A r)→C A' k→C A k) (h0:I [] w) (Ip:List PanicEntry→World→Prop) (hfs:∃x,P.funcs[f]? =some x) (hFf:F.fn f) (tb:TypeId) (bx:α→Array Value) (hKa:∀pre x (W:World) (o:Obj),Kx pre x W→Kx pre x (W.alloc o)) (hCs:∀pre W k,I pre W→C W k→k<W.heap.size) (a₁:α→Nat→Act)
 (hassign:∀(l:Nat) (pre:List α) (x:α) (W:World) (K:Act→World→Prop),Kx pre x W→K (a₁ x W.heap.size) (W.alloc (.cells (bx x) tb))→assign.wpIn (F.inRound l) (n-1-1) P (Exit.then K (fun _ _ _=>False)) { tmps:=(ps.zip (encs x)).foldl (fun t (p,v)=>t.setIfInBounds p v) a.tmps,defers:=[] } W)
 (hbody:∀(l:Nat) (pre:List α) (x:α) (W:World) (B:Nat),I pre W→Kx pre x W→Blk W B (bx x) tb→w.heap.size≤B→(∀k,C W k→k≠B)→pre.length<N→body.wpIn (F.inRound l) (n-1-1) P (fun e a' W'=>(e= .normal∧KeepP C n0 W W'∧I (pre++[x]) W')∨∃ch,e= .panic ch∧a'.defers=[]∧KeepP C n0 W W'∧Ip ch W') (a₁ x B) W)
 (hpan:∀(D:Nat) (ch:List PanicEntry) (W:World),w.heap.size≤D→Ip ch W→W.heap[D]? =some (.deferred (some []))→Q (.panic ch) { a with defers:={ target:= .collected D,args:= #[] }::a.defers } W)
 (hdone:∀(D:Nat) (xs:List α) (W:World),w.heap.size≤D→S xs→I xs W→W.heap[D]? =some (.deferred (some []))→Q .normal { a with defers:={ target:= .collected D,args:= #[] }::a.defers } W) :
 AtFn f F n P (.rangeFunc g ps assign body) Q a w:=by
 have hfn:=hFf
 obtain⟨fn,hfne⟩:∃fn,fn=f:=⟨_,rfl⟩
 subst hfne
 -- the two blocks of the statement: the rounds' deferred calls, and the loop's record, in its states
 obtain⟨D,hD⟩:∃D,w.heap.size=D:=⟨_,rfl⟩
 let R:LoopState→Option Code→Loop:=fun st pe=>{ state:=st,pending:=pe,fn,tmps:=a.tmps,params:=ps,assign,body,defers:=D }
 let W1:World:=(w.alloc (.deferred (some []))).alloc (.loop (R .ready none))
 have s1:W1.heap.size=D+2:=by simp[W1,hD]
 have g1:w.grownBy W1 none:=by
  have e1:=World.grownBy_alloc w (.deferred (some [])) none
  have e2:=World.grownBy_alloc (w.alloc (.deferred (some []))) (.loop (R .ready none)) none
  exact⟨e2.os.trans e1.os,e2.tape.trans e1.tape,e2.output.trans e1.output,Nat.le_trans e1.size e2.size,fun k hk hn=>(e2.block k (by simp;omega) hn).trans (e1.block k hk hn)⟩
 have l1:W1.heap[D+1]? =some (.loop (R .ready none)):=by
  have:=World.alloc_heap_new (w.alloc (.deferred (some []))) (.loop (R .ready none))
  rwa [World.size_alloc,hD] at this
 have d1:W1.heap[D]? =some (.deferred (some [])):=by
  have:=(Below.heap_alloc (w.alloc (.deferred (some []))) (.loop (R .ready none)) w.heap.size (by simp)).trans (World.alloc_heap_new w _)
  rwa [hD] at this
 have hCW:∀k,C W1 k→k<W1.heap.size:=fun k hk=>by
  have:=hC0 k (hCa _ k _ (hCa _ k _ hk rfl) rfl)
  omega
 refine AtFn.range (l:=D+1) (mark:=[{ target:= .collected D,args:= #[] }]) (w₁:=W1) (w₁':=W1) (w₂:=W1) (d:={ target:= .fn (.func gf) lb,args:= #[.func (.yield (D+1)) #[] #[]] }) (gf:=gf) (args:= #[.func (.yield (D+1)) #[] #[]]++lb) ?_ ?_ ?_ ?_ (fun _=>h1) ?_
 ·rw[hro]
  subst hD
  exact run_enterLoop_outer _ _ _ _ _
 ·simp only[resolve,hg]
  simp[go_sem]
 ·intro f' hf'
  simp[Target.leads] at hf'
  subst hf'
  exact hFg
 ·simp[invoke,go_sem,eg]
 ·have hb1:Below w0.heap.size w0 W1:=hb0.trans ((show Below w.heap.size w W1 from ⟨g1.os,g1.tape,g1.output,g1.size,fun k hk=>g1.block k hk (by simp)⟩).mono hb0.size)
  refine (hseq (D+1) (fun pre W=>I pre W∧W.heap[D+1]? =some (.loop (R .ready none))∧W.heap[D]? =some (.deferred (some []))) (fun ch W=>Ip ch W∧W.heap[D]? =some (.deferred (some []))) W1 hb1 ?_ (fun s A A' row k hJ=>hIC s A A' row k hJ.1) hCW ?_ ⟨hI [] w W1 none h0 g1 (by simp),l1,d1⟩).mono ?_
  ·rintro s A A' row⟨hi,hl,hd⟩ hgr hr
   have hne:∀k,k<D+2→some k≠row:=fun k hk e=>by have:=(hr k e.symm).1;omega
   exact⟨hI s A A' row hi hgr (fun r e=>⟨by have:=(hr r e).1;omega,(hr r e).2⟩),(hgr.block _ (Array.getElem?_eq_some_iff.1 hl).1 (hne _ (by omega))).trans hl,(hgr.block _ (Array.getElem?_eq_some_iff.1 hd).1 (hne _ (by omega))).trans hd⟩
  ·rintro pre x W⟨hi,hl,hd⟩ hkx hlen
   have hlt:D+1<W.heap.size:=(Array.getElem?_eq_some_iff.1 hl).1
   have hy:=run_yield (P:=P) (args:=encs x) hl (hps x)
   refine⟨fn,_,assign,body,hy,roundIn_p hfn (fun ch w hR=>hfs) (hassign _ pre x W _ hkx ?_)⟩
   have hgA:W.grownBy (W.alloc (.cells (bx x) tb)) none:=World.grownBy_alloc W _ none
   obtain⟨Wa,hWa⟩:∃Wa,W.alloc (.cells (bx x) tb)=Wa:=⟨_,rfl⟩
   have hsa:Wa.heap.size=W.heap.size+1:=by rw[←hWa];simp
   have hba:∀k,k<W.heap.size→Wa.heap[k]? =W.heap[k]? :=fun k hk=>by rw[←hWa];exact hgA.block k hk (by simp)
   have hka:Blk Wa W.heap.size (bx x) tb:=by rw[←hWa];exact Blk.new _ _ _
   have hia:I pre Wa:=by rw[←hWa];exact hI pre W _ none hi hgA (by simp)
   have hca:∀k,C Wa k→C W k:=fun k hk=>by rw[←hWa] at hk;exact hIC pre W _ none k hi hgA (by simp) hk
   have hxa:Kx pre x Wa:=by rw[←hWa];exact hKa pre x W _ hkx
   have hla:Wa.heap[D+1]? =some (.loop (R .ready none)):=(hba _ hlt).trans hl
   have hda:Wa.heap[D]? =some (.deferred (some [])):=(hba _ (by omega)).trans hd
   have hlW:W.heap[D+1]? =some (.loop (R .ready none)):=hl
   have hsz:D+1<W.heap.size:=hlt
   have hbWa:Below n0 W Wa:=by rw[←hWa];exact below_of_grown hgA (by omega) (fun r e=>by cases e)
   rw[hWa]
   refine⟨_,run_beginRound hla rfl,?_⟩
   obtain⟨W2,hW2⟩:∃W2,Wa.putObj (D+1) (.loop { R .ready none with state:= .busy })=W2:=⟨_,rfl⟩
   have hlta:D+1<Wa.heap.size:=by omega
   have hl2:W2.heap[D+1]? =some (.loop { R .ready none with state:= .busy }):=by rw[←hW2];exact World.putObj_heap_same hlta
   have hd2:W2.heap[D]? =some (.deferred (some [])):=by rw[←hW2];exact (World.putObj_heap_other (by omega)).trans hda
   have hi2:I pre W2:=by
    rw[←hW2]
    exact hI pre Wa _ (some (D+1)) hia (grownBy_putObj' Wa _ _) (fun r e=>by cases e;exact⟨by omega,hCl Wa _ _ hla rfl⟩)
   have hkx2:Kx pre x W2:=by rw[←hW2];exact hKp pre x Wa _ _ _ hla rfl rfl hxa
   have hbW:Below n0 W W2:=hbWa.trans (by rw[←hW2];exact below_of_grown (grownBy_putObj' Wa (D+1) _) (by omega) (fun r e=>by cases e;omega))
   have hs2:W2.heap.size=W.heap.size+1:=by rw[←hW2,←hsa];simp
   have hc2:∀k,C W2 k→C W k:=fun k h=>by rw[←hW2] at h;exact hca k ((hC Wa _ k _ _ hla rfl rfl).1 h)
   have hb2:∀k,k<W.heap.size→k≠D+1→W2.heap[k]? =W.heap[k]? :=fun k hk hne=>by rw[←hW2];exact (World.putObj_heap_other hne).trans (hba k hk)
   have hB2:Blk W2 W.heap.size (bx x) tb:=by rw[←hW2];exact (World.putObj_heap_other (by omega)).trans hka
   show body.wpIn (F.inRound (D+1)) (n-1-1) P _ _ (Wa.putObj (D+1) (.loop { R .ready none with state:= .busy }))
   rw[hW2]
   refine wpIn_mono (hbody _ pre x W2 W.heap.size hi2 hkx2 hB2 (by omega) (fun k hk=>by have:=hCs pre W k hi (hc2 k hk);omega) hlen) ?_
   rintro e a3 W3 (⟨rfl,⟨hk,hkb⟩,hi3⟩|⟨ch,rfl,hd0,⟨hk,hkb⟩,hp3⟩)
   rotate_left
   ·exact⟨hd0,.inr ⟨ch,rfl,hp3,(hk.same _ (by omega) (hCl W2 _ _ hd2 rfl)).trans hd2⟩⟩
   have hl3:W3.heap[D+1]? =some (.loop { R .ready none with state:= .busy }):=(hk.same _ (by omega) (hCl W2 _ _ hl2 rfl)).trans hl2
   have hd3:W3.heap[D]? =some (.deferred (some [])):=(hk.same _ (by omega) (hCl W2 _ _ hd2 rfl)).trans hd2
   have hlt3:D+1<W3.heap.size:=(Array.getElem?_eq_some_iff.1 hl3).1
   have hr:=run_endRound (P:=P) none hl3
   refine⟨_,_,hr,.inl ⟨rfl,⟨?_,World.putObj_heap_same hlt3,(World.putObj_heap_other (by omega)).trans hd3⟩,⟨⟨?_,fun k hlk hnc=> ?_,fun k hc=> ?_⟩,(hbW.trans hkb).trans (below_of_grown (grownBy_putObj' W3 (D+1) _) (by have:=hbW.size;have:=hkb.size;omega) (fun r e=>by cases e;omega))⟩⟩⟩
   ·exact hI _ W3 _ (some (D+1)) hi3 (grownBy_putObj' W3 _ _) (fun r e=>by cases e;exact⟨by omega,hCl W3 _ _ hl3 rfl⟩)
   ·have:=hk.size
    rw[hs2] at this
    simp
    omega
   ·by_cases hkl:k=D+1
    ·subst hkl
     rw[hl]
     exact World.putObj_heap_same hlt3
    ·exact (World.putObj_heap_other hkl).trans ((hk.same k (by omega) (fun h=>hnc (hc2 k h))).trans (hb2 k hlk hkl))
   ·rcases hk.mine k ((hC W3 _ k _ _ hl3 rfl rfl).1 hc) with h|h
    ·exact .inl (hc2 k h)
    ·exact .inr (by omega)
  ·rintro e W2 (⟨⟨v,rfl⟩,xs,hS,hi,hl,hd⟩|⟨ch,rfl,hp,hd⟩)
   rotate_left
   ·exact hpan D ch W2 (by omega) hp hd
   have hr:=run_endLoop (P:=P) hl (by simp[R])
   refine⟨_,hr,?_⟩
   exact hdone D xs _ (by omega) hS (hI _ W2 _ (some (D+1)) hi (grownBy_putObj' W2 _ _) (fun r e=>by cases e;exact⟨by omega,hCl W2 _ _ hl rfl⟩)) ((World.putObj_heap_other (by omega)).trans hd)
theorem atFn_range_pbs {f:FuncId}{F:Fence}{n:Nat}{P:Program}{α:Type}{g:Operand}(slot sbox:Nat)(encV:α→Value){assign body:Code}{Q:Exit→Act→World→Prop}{a:Act}{w:World}
 (hro:F.round=none) (h1:1≤n) {gf:Nat} {lb:Array Value} (hg:a.eval g= .func (.func gf) #[] lb) (hFg:F.fn gf) (eg:∀args w,(callFunc gf args).run P w= .ok (.enter gf args) w)
 {C:World→Nat→Prop} (hC:∀(W:World) (l k:Nat) (o o':Obj),W.heap[l]? =some o→recO o=true→recO o'=true→(C (W.putObj l o') k↔C W k)) (hCl:∀(W:World) (l:Nat) (o:Obj),W.heap[l]? =some o→recO o=true→¬C W l)
 (hCa:∀(W:World) (k:Nat) (o:Obj),C (W.alloc o) k→recO o=true→C W k) (hC0:∀k,C w k→k<w.heap.size)
 {n0:Nat} (hn0:n0≤w.heap.size) {Kx:List α→α→World→Prop} (hKp:∀pre x (W:World) (l:Nat) (o o':Obj),W.heap[l]? =some o→recO o=true→recO o'=true→Kx pre x W→Kx pre x (W.putObj l o')) {S:List α→Prop} {N:Nat} {w0:World} (hseq:SeqP F (n-1) P gf lb (fun x=> #[encV x]) C n0 Kx S N w0) (hb0:Below w0.heap.size w0 w)
 (I:List α→World→Prop) (hI:∀pre A A' row,I pre A→A.grownBy A' row→(∀r,row=some r→w.heap.size≤r∧¬C A r)→I pre A') (hIC:∀pre A A' row k,I pre A→A.grownBy A' row→(∀r,row=some r→¬C A r)→C A' k→C A k) (h0:I [] w) (Ip:List PanicEntry→World→Prop) (hfs:∃x,P.funcs[f]? =some x) (hFf:F.fn f) (tb:TypeId) (bx:α→Array Value) (hKa:∀pre x (W:World) (o:Obj),Kx pre x W→Kx pre x (W.alloc o)) (hCs:∀pre W k,I pre W→C W k→k<W.heap.size)
 (hassign:∀(l:Nat) (pre:List α) (x:α) (W:World) (K:Act→World→Prop),Kx pre x W→(∀a',a'={ tmps:=(a.tmps.setIfInBounds slot (encV x)).setIfInBounds sbox (.pointer (some ⟨W.heap.size,0,none⟩)),defers:=[] }→K a' (W.alloc (.cells (bx x) tb)))→assign.wpIn (F.inRound l) (n-1-1) P (Exit.then K (fun _ _ _=>False)) { tmps:=a.tmps.setIfInBounds slot (encV x),defers:=[] } W)
 (hbody:∀(l:Nat) (pre:List α) (x:α) (W:World) (B:Nat),I pre W→Kx pre x W→Blk W B (bx x) tb→w.heap.size≤B→(∀k,C W k→k≠B)→pre.length<N→body.wpIn (F.inRound l) (n-1-1) P (fun e a' W'=>(e= .normal∧KeepP C n0 W W'∧I (pre++[x]) W')∨∃ch,e= .panic ch∧a'.defers=[]∧KeepP C n0 W W'∧Ip ch W') ({ tmps:=(a.tmps.setIfInBounds slot (encV x)).setIfInBounds sbox (.pointer (some ⟨B,0,none⟩)),defers:=[] }:Act) W)
 (hpan:∀(D:Nat) (ch:List PanicEntry) (W:World),w.heap.size≤D→Ip ch W→W.heap[D]? =some (.deferred (some []))→Q (.panic ch) { a with defers:={ target:= .collected D,args:= #[] }::a.defers } W)
 (hdone:∀(D:Nat) (xs:List α) (W:World),w.heap.size≤D→S xs→I xs W→W.heap[D]? =some (.deferred (some []))→Q .normal { a with defers:={ target:= .collected D,args:= #[] }::a.defers } W) :
 AtFn f F n P (.rangeFunc g #[slot] assign body) Q a w :=
 atFn_range_pb hro h1 hg hFg eg hC hCl hCa hC0 hn0 hKp hseq hb0 (fun _=>rfl) I hI hIC h0 Ip hfs hFf tb bx hKa hCs (fun x B=>{ tmps:=(a.tmps.setIfInBounds slot (encV x)).setIfInBounds sbox (.pointer (some ⟨B,0,none⟩)),defers:=[] }) (fun l pre x W K hx hK=>by simpa using hassign l pre x W K hx fun a' ha=>ha▸hK) hbody hpan hdone
end
section
open Go Go.RowKit Go.Shelf Go.Lib
attribute [local go_sem] Oper.semAt_some
attribute [local go_sem ↓] Go.wp_at_zero Go.wp_at_succ
abbrev failP (e:Int):List PanicEntry:=[{ v:= .iface 101 (.int .i64 e),recovered:=false }]
theorem must_yes (e:Int)(w:World):Calls prog 106 #[.bool true,.int .i64 e] w fun x w'=>x= .returned (.tuple #[])∧w'=w:=by
 go_enter func106,ntmps106
 go_wp2_with fail
 exact⟨rfl,_,results_none rfl _ _ _,rfl,rfl⟩
theorem must_no (e:Int)(w:World):Calls prog 106 #[.bool false,.int .i64 e] w fun x w'=>x= .panicked (failP e)∧w'=w:=by
 go_enter func106,ntmps106
 go_wp2_with fail
 exact⟨rfl,rfl,rfl⟩
theorem why1_any (x:Lf)(I:Nat)(id:Int)(w:World)(h:w.cell? ⟨I,0,none⟩=some (.int .i64 id)) :
 Calls prog 153 #[.agg (lfE.enc x).toArray,.pointer (some ⟨I,0,none⟩)] w fun e w'=>e= .returned (.bool (decide (x.p=id)))∧Below w.heap.size w w':=by
 obtain⟨p,k,i⟩:=x
 by_cases hp:p=id
 ·subst hp
  go_enter func153,ntmps153
  go_wp2_with fail
  go_ret
  exact⟨by simp,(by repeat' (first|with_reducible (first|exact zR _ _|exact yR _|assumption|refine zG ?_ ?_ _|refine zA ?_ ?_ _|refine zS ?_ ?_ _|refine zD ?_|refine yA ?_|refine yG ?_|refine yS ?_|refine yD ?_)|omega|(dsimp only;omega)))⟩
 ·have hb:(p==id)=false:=by simpa using hp
  go_enter func153,ntmps153
  go_wp2_with fail
  go_ret
  exact⟨by simp[hp],(by repeat' (first|with_reducible (first|exact zR _ _|exact yR _|assumption|refine zG ?_ ?_ _|refine zA ?_ ?_ _|refine zS ?_ ?_ _|refine zD ?_|refine yA ?_|refine yG ?_|refine yS ?_|refine yD ?_)|omega|(dsimp only;omega)))⟩
theorem why_any (dv kv lv:Value)(pl:Pn)(id:Int)(w:World)(hl:Lst lfE w.heap.size w lv pl.left)(hf:Frm lv pl.left.length) :
 Calls prog 107 #[planV dv kv lv,.int .i64 id] w fun e w'=>e= .returned (.int .i64 (idxZ (why pl id)))∧Below w.heap.size w w':=by
 obtain⟨W,hW⟩:∃W,(w.alloc (.cells #[dv,kv,lv] 45)).alloc (.cells #[.int .i64 id] 3)=W:=⟨_,rfl⟩
 have hb:Below w.heap.size w W:=by rw[←hW];exact (by repeat' (first|with_reducible (first|exact zR _ _|exact yR _|assumption|refine zG ?_ ?_ _|refine zA ?_ ?_ _|refine zS ?_ ?_ _|refine zD ?_|refine yA ?_|refine yG ?_|refine yS ?_|refine yD ?_)|omega|(dsimp only;omega)))
 have kI:Blk W (w.heap.size+1) #[.int .i64 id] 3:=by rw[←hW];have:=Blk.new (w.alloc (.cells #[dv,kv,lv] 45)) #[.int .i64 id] 3;rwa [World.size_alloc] at this
 have h0:=indexLf_any lv pl.left W (hl.up hb) hf (fun x=>decide (x.p=id)) 153 #[.pointer (some ⟨w.heap.size+1,0,none⟩)] (enters_of func153 (by kernel_rfl) rfl)
  (fun X x hx=>(why1_any x (w.heap.size+1) id X ((kI.below hx kI.lt).cell 0)).mono fun _ _ ⟨he,h⟩=>⟨he,hx.trans (h.mono hx.size)⟩)
 rw[show pl.left.findIdx? (fun x=>decide (x.p=id))=why pl id from rfl] at h0
 obtain⟨r,hr⟩:∃r,idxZ (why pl id)=r:=⟨_,rfl⟩
 rw[hr] at h0 ⊢
 obtain⟨la,lc,rfl,-⟩:=hl.form
 rw[←hW] at h0
 clear hr hW hb kI hl hf
 go_enter func107,ntmps107
 have hmf:∀(fn:Fn) (first cap:Array Value) (w:World),(Instr.makeFunc fn first cap).run prog w= .ok (.func fn first cap) w:=fun _ _ _ _=>rfl
 go_wp2_with (go_at_call 152;refine (h0).mono ?_;rintro e w'⟨rfl,hb_⟩;obtain⟨p,rfl⟩:=grow_of_below hb_;clear hb_)
 go_ret
 exact⟨rfl,(by repeat' (first|with_reducible (first|exact zR _ _|exact yR _|assumption|refine zG ?_ ?_ _|refine zA ?_ ?_ _|refine zS ?_ ?_ _|refine zD ?_|refine yA ?_|refine yG ?_|refine yS ?_|refine yD ?_)|omega|(dsimp only;omega)))⟩
def okW (g:Int)(a b:Dt):Bool:=(decide (a.k≠3)&&decide (b.k≠3))|| !nearW g a b
def gapRow (g:Int)(l:List Dt)(k:Nat):Bool:=match l[k]? with|some a=>(l.take k).all fun b=>okW g a b|none=>true
def gapsW (g:Int)(l:List Dt):Bool:=(List.range l.length).all (gapRow g l)
theorem gapsW_of {g:Int}{l:List Dt}(h:∀k,k<l.length→gapRow g l k=true):gapsW g l=true:=List.all_eq_true.2 fun k hk=>h k (List.mem_range.1 hk)
theorem gapsW_no {g:Int}{l:List Dt}{k j:Nat}{a b:Dt}(hk:l[k]? =some a)(hj:l[j]? =some b)(hjk:j<k)(h:okW g a b=false):gapsW g l=false:=by
 cases hg:gapsW g l with
 |false=>rfl
 |true =>
  have h1:=List.all_eq_true.1 hg k (List.mem_range.2 (List.getElem?_eq_some_iff.1 hk).1)
  unfold gapRow at h1
  rw[hk] at h1
  have h2:=List.all_eq_true.1 h1 b (List.mem_iff_getElem?.2 ⟨j,by rw[List.getElem?_take];simp[hjk,hj]⟩)
  rw[h] at h2
  cases h2
theorem gaps_any (s:Sh)(dv kv lv:Value)(l:List Dt)(w:World)(hd:Lst dtE w.heap.size w dv l)(hl:l.length≤100000) :
 Calls prog 49 #[shV s,planV dv kv lv] w fun e w'=>(gapsW s.g l=true∧e= .returned (.tuple #[])∨gapsW s.g l=false∧e= .panicked (failP 41))∧Below w.heap.size w w':=by
 obtain⟨da,dc,rfl,-⟩:=hd.form
 go_enter func49,ntmps49
 go_upto_region 1 with fail
 have k2:=(Blk.new w #[.int .i64 s.ax,.int .i64 s.ay,.int .i64 s.st,.int .i64 s.w,.int .i64 s.h,.int .i64 s.g] 28).alloc (.cells #[.slice da l.length dc,kv,lv] 45)
 have k3:=Blk.new (w.alloc (.cells #[.int .i64 s.ax,.int .i64 s.ay,.int .i64 s.st,.int .i64 s.w,.int .i64 s.h,.int .i64 s.g] 28)) #[.slice da l.length dc,kv,lv] 45
 have hb:Below w.heap.size w ((w.alloc (.cells #[.int .i64 s.ax,.int .i64 s.ay,.int .i64 s.st,.int .i64 s.w,.int .i64 s.h,.int .i64 s.g] 28)).alloc (.cells #[.slice da l.length dc,kv,lv] 45)):=(by repeat' (first|with_reducible (first|exact zR _ _|exact yR _|assumption|refine zG ?_ ?_ _|refine zA ?_ ?_ _|refine zS ?_ ?_ _|refine zD ?_|refine yA ?_|refine yG ?_|refine yS ?_|refine yD ?_)|omega|(dsimp only;omega)))
 rw[World.size_alloc] at k3
 obtain⟨W,hW⟩:∃W,(w.alloc (.cells #[.int .i64 s.ax,.int .i64 s.ay,.int .i64 s.st,.int .i64 s.w,.int .i64 s.h,.int .i64 s.g] 28)).alloc (.cells #[.slice da l.length dc,kv,lv] 45)=W:=⟨_,rfl⟩
 rw[hW] at k2 k3 hb ⊢
 clear hW
 have hdW:=hd.up hb
 have c0:W.cell? ⟨w.heap.size+1,0,none⟩=some (.slice da l.length dc):=k3.cell 0
 go_wp2_with fail
 clear c0
 go_loopw [11] (fun kk wr=>∃k:Nat,k≤l.length∧kk= .int .i64 (k:Nat)∧(∀j,j<k→gapRow s.g l j=true)∧Below W.heap.size W wr) (fun kk _=>l.length-(intOf kk).toNat)
 case atStart=>exact⟨0,Nat.zero_le _,rfl,fun j hj=>absurd hj (by omega),zR _ _⟩
 case round =>
  obtain⟨k,hk,rfl,hall,hbr⟩:=hrel
  by_cases hlt:k<l.length
  ·have hltI:(k:Int)<(l.length:Int):=by omega
   have hdr:=hdW.up hbr
   obtain⟨b,off,cap,hv,hcap,hlb,hc⟩:=hdr.some_ (by omega)
   simp only[Value.slice.injEq,true_and] at hv
   obtain⟨rfl,rfl⟩:=hv
   obtain⟨a,ha⟩:∃a,l[k]=a:=⟨_,rfl⟩
   have hck:=hc k hlt
   rw[ha] at hck
   have d0:wr.cell? ⟨b,off+k*4,none⟩=some (.int .i64 a.x):=hck 0 (show 0<4 by decide)
   have d1:wr.cell? ⟨b,off+k*4+1,none⟩=some (.int .i64 a.y):=hck 1 (show 1<4 by decide)
   have d2:wr.cell? ⟨b,off+k*4+2,none⟩=some (.int .i64 a.k):=hck 2 (show 2<4 by decide)
   have d3:wr.cell? ⟨b,off+k*4+3,none⟩=some (.int .i64 a.i):=hck 3 (show 3<4 by decide)
   have c0:wr.cell? ⟨w.heap.size+1,0,none⟩=some (.slice (some ⟨b,off,none⟩) l.length dc):=(k3.below hbr k3.lt).cell 0
   have hk0:(0:Int)≤(k:Int):=by omega
   have hkc:(k:Int)≤(dc:Int):=by omega
   clear hck hc
   go_wp2_with fail
   have kA:=Blk.new wr #[.int .i64 a.x,.int .i64 a.y,.int .i64 a.k,.int .i64 a.i] 54
   have hbA:Below W.heap.size W (wr.alloc (.cells #[.int .i64 a.x,.int .i64 a.y,.int .i64 a.k,.int .i64 a.i] 54)):=hbr.alloc hbr.size _
   obtain⟨WA,hWA⟩:∃X,wr.alloc (.cells #[.int .i64 a.x,.int .i64 a.y,.int .i64 a.k,.int .i64 a.i] 54)=X:=⟨_,rfl⟩
   rw[hWA] at kA hbA ⊢
   obtain⟨BA,hBA⟩:∃X,wr.heap.size=X:=⟨_,rfl⟩
   rw[hBA] at kA ⊢
   clear hWA hBA d0 d1 d2 d3 c0 hdr hlb hbr
   go_loopw [21] (fun jj wi=>∃j:Nat,j≤k∧jj= .int .i64 (j:Nat)∧(∀(i:Nat) (x:Dt),i<j→l[i]? =some x→okW s.g a x=true)∧Below WA.heap.size WA wi) (fun jj _=>k-(intOf jj).toNat)
   case atStart=>exact⟨0,Nat.zero_le _,rfl,fun i x hi=>absurd hi (by omega),zR _ _⟩
   case round =>
    obtain⟨j,hj,rfl,halj,hbi⟩:=hrel
    by_cases hjk:j<k
    ·have hjI:(j:Int)<(k:Int):=by omega
     have hbW:Below W.heap.size W wr:=hbA.trans (hbi.mono hbA.size)
     have hdi:=hdW.up hbW
     obtain⟨b',off',cap',hv,-,-,hc⟩:=hdi.some_ (by omega)
     simp only[Value.slice.injEq,Option.some.injEq,Addr.mk.injEq,and_true,true_and] at hv
     obtain⟨⟨rfl,rfl⟩,rfl⟩:=hv
     have hjl:j<l.length:=by omega
     obtain⟨x,hx⟩:∃x,l[j]=x:=⟨_,rfl⟩
     have hcj:=hc j hjl
     rw[hx] at hcj
     have e0:wr.cell? ⟨b,off+j*4,none⟩=some (.int .i64 x.x):=hcj 0 (show 0<4 by decide)
     have e1:wr.cell? ⟨b,off+j*4+1,none⟩=some (.int .i64 x.y):=hcj 1 (show 1<4 by decide)
     have e2:wr.cell? ⟨b,off+j*4+2,none⟩=some (.int .i64 x.k):=hcj 2 (show 2<4 by decide)
     have e3:wr.cell? ⟨b,off+j*4+3,none⟩=some (.int .i64 x.i):=hcj 3 (show 3<4 by decide)
     have kA':=kA.below hbi kA.lt
     obtain⟨a0,a1,a2,a3⟩:wr.cell? ⟨BA,0,none⟩=some (.int .i64 a.x)∧wr.cell? ⟨BA,1,none⟩=some (.int .i64 a.y)∧wr.cell? ⟨BA,2,none⟩=some (.int .i64 a.k)∧wr.cell? ⟨BA,3,none⟩=some (.int .i64 a.i):=⟨kA'.cell 0,kA'.cell 1,kA'.cell 2,kA'.cell 3⟩
     have s5:wr.cell? ⟨w.heap.size,5,none⟩=some (.int .i64 s.g):=(k2.below hbW k2.lt).cell 5
     have hN:=near_any30 a x s.g
     have hlj:l[j]? =some x:=by rw[List.getElem?_eq_getElem hjl,hx]
     have hlk:l[k]? =some a:=by rw[List.getElem?_eq_getElem hlt,ha]
     obtain⟨nr,hnr⟩:∃r,nearW s.g a x=r:=⟨_,rfl⟩
     rw[hnr] at hN
     have hnx:∀ {W':World},okW s.g a x=true→Below wr.heap.size wr W'→∃i:Nat,i≤k∧((.int .i64 ((j+1:Nat):Int):Value))= .int .i64 (i:Nat)∧(∀(i':Nat) (x:Dt),i'<i→l[i']? =some x→okW s.g a x=true)∧Below WA.heap.size WA W':=fun {W'} ho hb'=>⟨j+1,by omega,rfl,fun i' y hi' hy=>by
      by_cases he:i'=j
      ·subst he
       rw[hlj] at hy
       cases hy
       exact ho
      ·exact halj i' y (by omega) hy,hbi.trans (hb'.mono hbi.size)⟩
     clear hcj hc kA' hdi
     by_cases hfree:a.k≠3∧x.k≠3
     ·have h1:(a.k != 3)=true:=by simpa using hfree.1
      have h2:(x.k != 3)=true:=by simpa using hfree.2
      have ho:okW s.g a x=true:=by unfold okW;simp[hfree.1,hfree.2]
      clear hN hnr
      go_wp2_with (first
       |(go_at_call 106;go_loud (refine (must_yes 41 _).mono ?_);rintro e w9⟨rfl,rfl⟩)
       |fail)
      go_roundw
      case rel=>exact hnx ho (by repeat' (first|with_reducible (first|exact zR _ _|exact yR _|assumption|refine zG ?_ ?_ _|refine zA ?_ ?_ _|refine zS ?_ ?_ _|refine zD ?_|refine yA ?_|refine yG ?_|refine yS ?_|refine yD ?_)|omega|(dsimp only;omega)))
      case measure=>simp[intOf];omega
     ·have hfr:a.k=3∨x.k=3:=by omega
      have hoT:nr=false→okW s.g a x=true:=fun h=>by unfold okW;rw[hnr,h];simp
      have hoF:nr=true→okW s.g a x=false:=fun h=>by unfold okW;rw[hnr,h];simp;exact fun h=>hfr.resolve_left h
      clear hnr hfree
      by_cases ha3:a.k=3
      ·have h1:(a.k != 3)=false:=by simpa using ha3
       clear hfr ha3
       cases nr
       ·have ho:=hoT rfl
        clear hoT hoF
        go_wp2_with (first
         |(go_at_call 88;(with_reducible refine (hN _).mono ?_);rintro e w8⟨rfl,hb8⟩;have hb8':Below wr.heap.size wr w8:=((zR _ _).alloc (yR _) _).trans (hb8.mono (by simp)))
         |(go_at_call 106;refine (must_yes 41 _).mono ?_;rintro e w9⟨rfl,rfl⟩)
         |fail)
        go_roundw
        case rel=>exact hnx ho hb8'
        case measure=>simp[intOf];omega
       ·have ho:=hoF rfl
        clear hoT hoF
        go_wp2_with (first
         |(go_at_call 88;(with_reducible refine (hN _).mono ?_);rintro e w8⟨rfl,hb8⟩;have hb8':Below wr.heap.size wr w8:=((zR _ _).alloc (yR _) _).trans (hb8.mono (by simp)))
         |(go_at_call 106;refine (must_no 41 _).mono ?_;rintro e w9⟨rfl,rfl⟩)
         |fail)
        exact⟨rfl,.inr ⟨gapsW_no hlk hlj hjk ho,rfl⟩,hb.trans ((hbA.trans ((hbi.trans (hb8'.mono hbi.size)).mono hbA.size)).mono hb.size)⟩
      ·have h1:(a.k != 3)=true:=by simpa using ha3
       have h2:(x.k != 3)=false:=by simpa using hfr.resolve_left ha3
       clear hfr ha3
       cases nr
       ·have ho:=hoT rfl
        clear hoT hoF
        go_wp2_with (first
         |(go_at_call 88;(with_reducible refine (hN _).mono ?_);rintro e w8⟨rfl,hb8⟩;have hb8':Below wr.heap.size wr w8:=((zR _ _).alloc (yR _) _).trans (hb8.mono (by simp)))
         |(go_at_call 106;refine (must_yes 41 _).mono ?_;rintro e w9⟨rfl,rfl⟩)
         |fail)
        go_roundw
        case rel=>exact hnx ho hb8'
        case measure=>simp[intOf];omega
       ·have ho:=hoF rfl
        clear hoT hoF
        go_wp2_with (first
         |(go_at_call 88;(with_reducible refine (hN _).mono ?_);rintro e w8⟨rfl,hb8⟩;have hb8':Below wr.heap.size wr w8:=((zR _ _).alloc (yR _) _).trans (hb8.mono (by simp)))
         |(go_at_call 106;refine (must_no 41 _).mono ?_;rintro e w9⟨rfl,rfl⟩)
         |fail)
        exact⟨rfl,.inr ⟨gapsW_no hlk hlj hjk ho,rfl⟩,hb.trans ((hbA.trans ((hbi.trans (hb8'.mono hbi.size)).mono hbA.size)).mono hb.size)⟩
    ·obtain rfl:j=k:=by omega
     have hge:¬(j:Int)<(j:Int):=by omega
     go_wp2_with fail
     go_roundw
     case rel =>
      refine⟨j+1,by omega,by go_num,fun i hi=> ?_,hbA.trans (hbi.mono hbA.size)⟩
      by_cases he:i=j
      ·subst he
       unfold gapRow
       rw[List.getElem?_eq_getElem hlt,ha]
       refine List.all_eq_true.2 fun x hx=> ?_
       obtain⟨i',hi'⟩:=List.mem_iff_getElem?.1 hx
       rw[List.getElem?_take] at hi'
       split at hi'
       ·exact halj i' x (by assumption) hi'
       ·cases hi'
      ·exact hall i (by omega)
     case measure=>simp[intOf];omega
  ·obtain rfl:k=l.length:=by omega
   have hge:¬(l.length:Int)<(l.length:Int):=by omega
   go_wp2_with fail
   refine⟨rfl,_,results_none rfl _ _ _,.inl ⟨gapsW_of hall,rfl⟩,hb.trans (hbr.mono hb.size)⟩
end
end Go.Proofs.YtfocdbjceedagaaGreatDoor
