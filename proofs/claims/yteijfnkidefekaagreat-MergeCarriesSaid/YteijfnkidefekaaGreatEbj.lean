/-
  Parts.
-/
import Derived.Test.YteijfnkidefekaaGreatEbi
set_option linter.unusedVariables false
set_option linter.unusedSimpArgs false
set_option linter.unusedSectionVars false
set_option maxHeartbeats 4000000
set_option maxRecDepth 100000
namespace Go.Proofs.YteijfnkidefekaaGreat
open Tryz
section
open Go Go.RowKit Go.Shelf Go.Lib Go.Maps
theorem a0y {W:Wd}{base:Nat}{e t:Td}{s:Nat}{v:Vu}{n:Nat}{xs:List Value}{B:Nat}{cs:Array Value}(h:W.ownsRow base e s v n xs)(hb:Blk W B cs t)(he:e≠t):v.ownBlock≠some B:=by
 intro ho;rcases h.2 with⟨rfl,-⟩|⟨g,cap,cur,rfl,h3,h4,-⟩
 ·cases ho
 ·cases ho
  have h5:W.heap[g]? =some (.cells cs t (0,0)):=hb;exact ykd
theorem EI.push {n0 Bo:Nat}{w A A1 w9:Wd}{pre:List Et}{x:Et}(h:EI n0 Bo w pre A)(hn:n0<=w.heap.size)(rJ:n0<=Bo)(hx:KxE Bo pre x A){v v':Vu}(kb:Blk A Bo #[v] 37)(ag:A.ownsRow n0 50 25 v pre.length (pre.flatMap etE.enc))(hA1:Below A.heap.size A A1)
 (bG:w9.ownsRow n0 50 25 v' (pre++[x]).length ((pre++[x]).flatMap etE.enc)) (aU:A1.grownBy w9 v.ownBlock) (uz:v'.ownBlock=v.ownBlock\/v'.ownBlock=some A1.heap.size) :
 Blk w9 Bo #[v] 37/\EI n0 Bo w (pre++[x]) (w9.setCell ⟨Bo,0,none⟩ v')/\KeepP (a3u Bo) n0 A (w9.setCell ⟨Bo,0,none⟩ v'):=by
 have pH:=h.outC_of;have aA:=λg=>h.own (g:=g) kb ag
 have Oe:n0<=A.heap.size:=Nat.le_trans hn h.bel.size;have Of:=a0y ag kb jM;have k9:Blk w9 Bo #[v] 37:=(kb.below hA1 kb.lt).kept aU Of;have aB:=a0d w9 Bo 0 v';have k6:=k9.set 0 v';have Gh:=a0y bG k9 jM;obtain⟨W6,fU⟩:=zE (w9.setCell ⟨Bo,0,none⟩ v');rw[fU]at aB k6 ⊢;have Js:Blk W6 Bo #[v'] 37:=k6;have bU:=hA1.size;have cX:=aU.size;have mA:=aB.size;have aG:∀k,k<A.heap.size->¬a3u Bo A k->W6.heap[k]? =A.heap[k]? :=λk hk hc =>
  (aB.block k xM (λe=>hc (by cases e;exact pH))).trans ((aU.block k xM (λe=>hc (aA k e.symm))).trans (hA1.block k hk))
 have rZ:∀k,a3u Bo W6 k->a3u Bo A k\/A.heap.size<=k:=λk hc=>by
  rcases hc.2 with rfl|⟨off,len,cap,cC⟩
  ·exact .inl pH
  ·rw[Js.cell 0]at cC
   have hv:v'= .slice (some ⟨k,off,none⟩) len cap:=by simpa using cC
   have ho:v'.ownBlock=some k:=by
    rcases bG.2 with⟨e1,_⟩|⟨g,bk,cur,e1,_⟩
    ·rw[e1]at hv;cases hv
    ·rw[hv]at e1
     simp only[Value.slice.injEq,Option.some.injEq,Addr.mk.injEq]at e1;rw[hv,e1.1.2.1];rfl
   rcases uz with e|e
   ·exact .inl (aA k (e▸ho))
   ·rw[ho]at e
    simp only[Option.some.injEq]at e;exact .inr xM
 have aW:Below n0 A W6:=((hA1.mono Oe).trans (a0f aU xM (λr e=>(a6t ag e).1))).trans (a0f aB xM (λr e=>by cases e;exact rJ));have r8:∀y:Et,(∀a,y.w.la=some a->a.block<A.heap.size/\¬a3u Bo A a.block)->Ln A.heap.size A y.w.sl y.w.line->Ln W6.heap.size W6 y.w.sl y.w.line:=λy hy hl =>
  hl.other λq hq=>⟨by have:=(hy q hq).1;omega,aG _ (hy q hq).1 (hy q hq).2⟩
 have ig:∀y:Et,(∀a,y.w.la=some a->a.block<A.heap.size/\¬a3u Bo A a.block)->∀a,y.w.la=some a->a.block<W6.heap.size/\¬a3u Bo W6 a.block:=λy hy a ha =>
  ⟨by have:=(hy a ha).1;omega,λhc=>(rZ _ hc).elim (hy a ha).2 (λh=>by have:=(hy a ha).1;omega)⟩
 refine⟨k9,⟨⟨v',Js,bG.kept aB (by cases ho:v'.ownBlock with
  |none=>exact .inl rfl
  |some g=>exact .inr λe=>Gh (ho.trans e))⟩,λy hy=> ?_,λy hy=> ?_,h.bel.trans aW⟩,⟨⟨xM,aG,rZ⟩,aW⟩⟩
 ·rcases List.mem_append.1 hy with hy|hy
  ·exact⟨r8 y (h.la y hy) (h.ln y hy).1,(h.ln y hy).2⟩
  ·obtain rfl:y=x:=by simpa using hy
   exact⟨r8 y hx.la hx.ln,hx.wi,hx.pi⟩
 ·rcases List.mem_append.1 hy with hy|hy
  ·exact ig y (h.la y hy)
  ·obtain rfl:y=x:=by simpa using hy
   exact ig y hx.la
theorem Lst.off {α:Type}{E:El α}{n:Nat}{W W':Wd}{v:Vu}{l:List α}(h:Lst E n W v l)(h0:∀x,∃i,(E.enc x)[0]? =some (.int .i64 i))(hs:0<E.s){Bs:Nat->Prop}
 (hB:∀B,Bs B->∀i u,W.cell? ⟨B,i,none⟩=some u->∃a k c,u= .slice a k c) (aG:∀k,¬Bs k->W'.heap[k]? =W.heap[k]?):Lst E n W' v l:=by
 obtain⟨a,cap,e,c1,c2,c3⟩:=h;refine⟨a,cap,e,c1,c2,λj hj=> ?_⟩;obtain⟨b,off,rfl,hb,hc⟩:=c3 j hj;refine⟨b,off,rfl,hb,λi hi=>(a1r (aG b λvQ=> ?_)).trans (hc i hi)⟩;obtain⟨i0,bV⟩:=h0 l[j];have:=hc 0 hs;rw[bV]at this;obtain⟨a,k,c,hu⟩:=hB b vQ _ _ this
 cases hu
theorem MapV.off {n:Nat}{W W':Wd}{ev fv wv pv:Vu}{E:List Eg}{Fa:List Fc}{Y:List Wq}{P:List Pc}(h:MapV n W ev fv wv pv E Fa Y P){Bs:Nat->Prop}
 (hB:∀B,Bs B->∀i u,W.cell? ⟨B,i,none⟩=some u->∃a k c,u= .slice a k c) (aG:∀k,¬Bs k->W'.heap[k]? =W.heap[k]?):MapV n W' ev fv wv pv E Fa Y P :=
 { h with
   e:=h.e.off (λ_=>⟨_,rfl⟩) jM hB aG
   el:=λx hx=>⟨(h.el x hx).lst.off (λ_=>⟨_,rfl⟩) jM hB aG,(h.el x hx).frm,(h.el x hx).len⟩
   f:=h.f.off (λ_=>⟨_,rfl⟩) jM hB aG
   w:=h.w.off (λ_=>⟨_,rfl⟩) jM hB aG
   wl:=λx hx=>⟨(h.wl x hx).lst.off (λ_=>⟨_,rfl⟩) jM hB aG,(h.wl x hx).frm,(h.wl x hx).len⟩
   p:=h.p.off (λ_=>⟨_,rfl⟩) jM hB aG }
theorem a1w {W:Wd}{B:Nat}{a0 a1 a2 a3:Option Addr}{n0 n1 n2 n3 c0 c1 c2 c3:Nat}{t:Td}(h:Blk W B #[.slice a0 n0 c0,.slice a1 n1 c1,.slice a2 n2 c2,.slice a3 n3 c3] t):∀i u,W.cell? ⟨B,i,none⟩=some u->∃a k c,u= .slice a k c:=by
 intro i u hc;rw[h.cell i]at hc;match i,hc with
 |0,hc=>exact yjb
 |1,hc=>exact yjb
 |2,hc=>exact yjb
 |3,hc=>exact yjb
 |k+4,hc=>simp at hc
theorem c6f (x:Et)(W:Wd)(B:Nat)(h:Blk W B (etA x) 50):(Instr.loadAt 50 (.pointer (some ⟨B,0,none⟩))).run prog W= .ok (etV x) W:=by
 have hc:W.rangeAt B 0 (etA x).toList:=λj v hv=>by
  rw[Nat.zero_add,h.cell j];simpa using hv
 have:=run_loadAt_mid W B 0 50 (etA x).toList _ hc underlying50 rfl zM;simpa using this
theorem c4i (x:Et)(W:Wd):(Instr.buildSlice 37 1 #[(0,etV x)]).run prog W= .ok (.slice (some ⟨W.heap.size,0,none⟩) 1 1) (W.alloc (.cells (etA x) 50)):=by
 obtain⟨i0,bV,dm,aH,bn⟩:=info_parts (P:=prog) (e:=50) (z:=etV default) (size:=25) (bytes:=264) zM;refine run_buildSlice W 37 50 1 _ (etA x) i0 (etV default) underlying37 bV (by first|exact dm|exact aH|exact bn) xM xM ?_;rw[aH];kernel_rfl
theorem a7k (W:Wd)(t:Td):∀(vs post pre:List Value),post.length=vs.length->(W.alloc (.cells (pre++post).toArray t)).setCells W.heap.size pre.length vs=W.alloc (.cells (pre++vs).toArray t)
 |[],post,pre,h=>by
  obtain rfl:post=[]:=List.eq_nil_of_length_eq_zero h;rfl
 |v::vs,[],pre,h=>by simp at h
 |v::vs,p::post,pre,h=>by
  show((W.alloc (.cells (pre++p::post).toArray t)).setCell ⟨W.heap.size,pre.length,none⟩ v).setCells W.heap.size (pre.length+1) vs=_;rw[World.setCell_alloc_new];have e:(pre++p::post).toArray.setIfInBounds pre.length v=((pre++[v])++post).toArray:=by simp
  rw[e,show pre.length+1=(pre++[v]).length by simp,a7k W t vs post (pre++[v]) (by simpa using h)];simp
theorem b7l (x:Et)(W:Wd):(Instr.storeAt 50 (.pointer (some ⟨W.heap.size,0,none⟩)) (etV x)).run prog (W.alloc (.cells (etA default) 50))= .ok () (W.alloc (.cells (etA x) 50)):=by
 have hk:=Blk.new W (etA default) 50;have ht:(W.alloc (.cells (etA default) 50)).there W.heap.size 0 (etA x).size:=λj hj=>by
  have h25:(etA default).size=25:=rfl;have gK:j<25:=hj;rw[Nat.zero_add];exact⟨by rw[hk.cell j,Array.getElem?_eq_getElem xM];rfl,hk.frozen j⟩
 have:=run_storeAt_mid (P:=prog) (W.alloc (.cells (etA default) 50)) W.heap.size 0 50 (etA x) ht zM (all_oneCell_toArray (cs:=etE.enc x) (λv hv=>etOk.one x v hv));rw[this];have h2:=a7k W 50 (etA x).toList (etA default).toList [] rfl;exact congrArg (Result.ok ()) h2
section
variable {F:Fence}{n:Nat}{ops:Array Oper}{rest:List Oper}{o:Oper}{a:Act}{w:Wd}{Q:Exit->Act->World->Prop}
theorem c2a (bP:o.guard=none)(p:Operand)(ho:o.op= .load 50 p)(B:Nat)(hp:a.eval p= .pointer (some ⟨B,0,none⟩))(x:Et)(hB:Blk w B (etA x) 50)(xv:Vu)(aO:etV x=xv)
 (h:wpListIn F n prog ops Q rest (a.put o.dst xv) w):wpListIn F n prog ops Q (o::rest) a w:=by
 refine wpListIn_plain bP λK hK=> ?_
 unfold Oper.wpIn;refine⟨λf hf=>by simp[Oper.about,ho]at hf,?_⟩;unfold Oper.semAt execOp
 cases oo:F.round <;>
 ·simp only[ho,hp,Sem.run_bind,Sem.run_pure,Result.andThen_ok,c6f x w B hB,aO]
  exact hK _ _ h
theorem b8x (bP:o.guard=none)(p:Operand)(ho:o.op= .buildSlice 37 1 #[(0,p)])(x:Et)(hp:a.eval p=etV x)
 (h:wpListIn F n prog ops Q rest (a.put o.dst (.slice (some ⟨w.heap.size,0,none⟩) 1 1)) (w.alloc (.cells (etA x) 50))):wpListIn F n prog ops Q (o::rest) a w:=by
 refine wpListIn_plain bP λK hK=> ?_
 unfold Oper.wpIn;refine⟨λf hf=>by simp[Oper.about,ho]at hf,?_⟩;unfold Oper.semAt execOp
 cases oo:F.round <;>
 ·simp only[ho,List.map_toArray,List.map_cons,List.map_nil,hp,Sem.run_bind,Sem.run_pure,Result.andThen_ok,c4i x w]
  exact hK _ _ h
theorem b8y (bP:o.guard=none)(p v:Operand)(ho:o.op= .store 50 p v)(hp:a.eval p= .pointer (some ⟨w.heap.size,0,none⟩))(x:Et)(hv:a.eval v=etV x)
 (h:wpListIn F n prog ops Q rest (a.put o.dst undef) (w.alloc (.cells (etA x) 50))):wpListIn F n prog ops Q (o::rest) a (w.alloc (.cells (etA default) 50)):=by
 refine wpListIn_plain bP λK hK=> ?_
 unfold Oper.wpIn;refine⟨λf hf=>by simp[Oper.about,ho]at hf,?_⟩;unfold Oper.semAt execOp
 cases oo:F.round <;>
 ·simp only[ho,hp,hv,Sem.run_bind,Sem.run_pure,Result.andThen_ok,b7l x w]
  exact hK _ _ h
end
end
section
open Go Go.RowKit Go.Shelf Go.Lib
structure NlR (L g go k:Nat)(a:Option Addr)(ne d o:Nat)(la:Option Addr)(ln lc:Nat)(line:List a3v)(w0:Wd)(W:Wd):Prop where
 c:W.cell? ⟨L,o,none⟩=some (.slice (some ⟨g,go,none⟩) ne d)
 l:Ln W.heap.size W (.slice la ln lc) line
 bel:Below w0.heap.size w0 W
theorem NlR.up {L g go k:Nat}{a:Option Addr}{ne d o:Nat}{la:Option Addr}{ln lc:Nat}{line:List a3v}{w0 W W':Wd}(h:NlR L g go k a ne d o la ln lc line w0 W)(hb:Below W.heap.size W W'):NlR L g go k a ne d o la ln lc line w0 W' :=
 ⟨(hb.cell (p:=⟨L,o,none⟩) (World.block_lt_of_cell? _ _ h.c)).trans h.c,h.l.up hb,h.bel.trans (hb.mono h.bel.size)⟩
structure LnsE (n0:Nat)(w W:Wd)(E:List Eg)(k:Nat):Prop where
 new:∀i,(h:i<E.length)->i<k->W.ownsRow n0 41 2 E[i].sl E[i].line.length (E[i].line.flatMap ptE.enc)
 old:∀i,(h:i<E.length)->k<=i->Ln w.heap.size w E[i].sl E[i].line
 len:∀x∈E,x.line.length<=1000
structure LnsY (n0:Nat)(w W:Wd)(E:List Wq)(k:Nat):Prop where
 new:∀i,(h:i<E.length)->i<k->W.ownsRow n0 41 2 E[i].sl E[i].line.length (E[i].line.flatMap ptE.enc)
 old:∀i,(h:i<E.length)->k<=i->Ln w.heap.size w E[i].sl E[i].line
 len:∀x∈E,x.line.length<=1000
section
variable {n0 k g:Nat}{w W W1:Wd}
theorem LnsE.step {E:List Eg}(h:LnsE n0 w W E k)(hk:k<E.length){cur:Array Value}{i:Nat}{a:Option Addr}{n c:Nat}(hb:Below W.heap.size W W1)(kg:Blk W1 g cur 71)(hr:W1.ownsRow n0 41 2 (.slice a n c) E[k].line.length (E[k].line.flatMap ptE.enc)) :
 LnsE n0 w (W1.setCell ⟨g,i,none⟩ (.slice a n c)) (E.set k { E[k]with la:=a,ln:=n,lc:=c }) (k+1):=by
 exact ycn
theorem LnsY.step {E:List Wq}(h:LnsY n0 w W E k)(hk:k<E.length){cur:Array Value}{i:Nat}{a:Option Addr}{n c:Nat}(hb:Below W.heap.size W W1)(kg:Blk W1 g cur 46)(hr:W1.ownsRow n0 41 2 (.slice a n c) E[k].line.length (E[k].line.flatMap ptE.enc)) :
 LnsY n0 w (W1.setCell ⟨g,i,none⟩ (.slice a n c)) (E.set k { E[k]with la:=a,ln:=n,lc:=c }) (k+1):=by
 exact ycn
theorem LnsE.keep {E:List Eg}(h:LnsE n0 w W E k){tg:Td}{cur:Array Value}{i:Nat}{v:Vu}(hb:Below W.heap.size W W1)(kg:Blk W1 g cur tg)(ht:41≠tg):LnsE n0 w (W1.setCell ⟨g,i,none⟩ v) E k :=
 ⟨λj hj gq=>a0i (a0c (h.new j hj gq) hb) (a0d W1 g i v) kg ht,h.old,h.len⟩
theorem LnsY.keep {E:List Wq}(h:LnsY n0 w W E k){tg:Td}{cur:Array Value}{i:Nat}{v:Vu}(hb:Below W.heap.size W W1)(kg:Blk W1 g cur tg)(ht:41≠tg):LnsY n0 w (W1.setCell ⟨g,i,none⟩ v) E k :=
 ⟨λj hj gq=>a0i (a0c (h.new j hj gq) hb) (a0d W1 g i v) kg ht,h.old,h.len⟩
theorem LnsE.up {E:List Eg}(h:LnsE n0 w W E k)(hb:Below W.heap.size W W1):LnsE n0 w W1 E k:=⟨λj hj gq=>a0c (h.new j hj gq) hb,h.old,h.len⟩
theorem LnsY.up {E:List Wq}(h:LnsY n0 w W E k)(hb:Below W.heap.size W W1):LnsY n0 w W1 E k:=⟨λj hj gq=>a0c (h.new j hj gq) hb,h.old,h.len⟩
theorem c4j {E:List Eg}{l:List Ek}(h:E.map Eg.key=l){k:Nat}(hk:k<E.length)(a:Option Addr)(n c:Nat):(E.set k { E[k]with la:=a,ln:=n,lc:=c }).map Eg.key=l:=by
 rw[List.map_set,<-h];refine List.ext_getElem vM λi h1 h2=> ?_
 by_cases e:k=i
 ·subst e;simp[Eg.key]
 ·rw[List.getElem_set_ne e]
theorem c4k {E:List Wq}{l:List Wk}(h:E.map Wq.key=l){k:Nat}(hk:k<E.length)(a:Option Addr)(n c:Nat):(E.set k { E[k]with la:=a,ln:=n,lc:=c }).map Wq.key=l:=by
 rw[List.map_set,<-h];refine List.ext_getElem vM λi h1 h2=> ?_
 by_cases e:k=i
 ·subst e;simp[Wq.key]
 ·rw[List.getElem_set_ne e]
end
theorem c4l {E E':List Eg}{F:List Fc}{Y Y':List Wq}{P:List Pc}(hE:E'.map Eg.key=(a0w Eg.id E).map Eg.key)(hY:Y'.map Wq.key=(a0w Wq.id Y).map Wq.key):NormR (a1d E F Y P) (a1d E' (a0w Fc.id F) Y' (a0w Pc.id P)):=by
 refine⟨⟨?_,?_⟩,a1b _ _,⟨?_,?_⟩,a1b _ _⟩
 ·show(E.map Eg.key).Perm (E'.map Eg.key)
  rw[hE];exact(a1b Eg.id E).1.map _
 ·show Inc Ek.id (E'.map Eg.key)
  rw[hE];exact List.pairwise_map.2 (a1b Eg.id E).2
 ·show(Y.map Wq.key).Perm (Y'.map Wq.key)
  rw[hY];exact(a1b Wq.id Y).1.map _
 ·show Inc Wk.id (Y'.map Wq.key)
  rw[hY];exact List.pairwise_map.2 (a1b Wq.id Y).2
theorem c4m {E E':List Eg}(h:E'.map Eg.key=(a0w Eg.id E).map Eg.key){x:Eg}(hx:x∈E'):∃y∈E,y.id=x.id/\y.line=x.line:=by
 have h1:x.key∈(a0w Eg.id E).map Eg.key:=h▸List.mem_map.2 ⟨x,hx,rfl⟩;obtain⟨y,hy,e⟩:=List.mem_map.1 h1;simp only[Eg.key,Ek.mk.injEq]at e;exact⟨y,(a1b Eg.id E).1.mem_iff.2 hy,e.1,e.2.1⟩
theorem c4n {E E':List Wq}(h:E'.map Wq.key=(a0w Wq.id E).map Wq.key){x:Wq}(hx:x∈E'):∃y∈E,y.id=x.id/\y.line=x.line:=by
 have h1:x.key∈(a0w Wq.id E).map Wq.key:=h▸List.mem_map.2 ⟨x,hx,rfl⟩;obtain⟨y,hy,e⟩:=List.mem_map.1 h1;simp only[Wq.key,Wk.mk.injEq]at e;exact⟨y,(a1b Wq.id E).1.mem_iff.2 hy,e.1,e.2.1⟩
structure NmL (n0 L BO ka ky:Nat)(w W1:Wd)(a0 a1 a2 a3:Option Addr)(d0 d1 d2 d3:Nat)(E0 E:List Eg)(F:List Fc)(Y0 Y:List Wq)(P:List Pc)(W:Wd):Prop where
 r:Rw4 n0 L W a0 a1 a2 a3 d0 d1 d2 d3 E F Y P
 e:LnsE n0 w W E ka
 y:LnsY n0 w W Y ky
 ke:E.map Eg.key=E0.map Eg.key
 ky:Y.map Wq.key=Y0.map Wq.key
 o:Blk W BO a1s 32
 bel:Below n0 W1 W
section
variable {n0 L BO ka ky:Nat}{w W1 W W2:Wd}{a0 a1 a2 a3:Option Addr}{d0 d1 d2 d3:Nat}{E0 E:List Eg}{F:List Fc}{Y0 Y:List Wq}{P:List Pc}
theorem NmL.up (h:NmL n0 L BO ka ky w W1 a0 a1 a2 a3 d0 d1 d2 d3 E0 E F Y0 Y P W)(hb:Below W.heap.size W W2):NmL n0 L BO ka ky w W1 a0 a1 a2 a3 d0 d1 d2 d3 E0 E F Y0 Y P W2 :=
 ⟨h.r.up hb,h.e.up hb,h.y.up hb,h.ke,h.ky,h.o.below hb h.o.lt,h.bel.trans (hb.mono h.r.z)⟩
theorem NmL.lenE (h:NmL n0 L BO ka ky w W1 a0 a1 a2 a3 d0 d1 d2 d3 E0 E F Y0 Y P W):E.length=E0.length:=by simpa using congrArg List.length h.ke
theorem NmL.lenY (h:NmL n0 L BO ka ky w W1 a0 a1 a2 a3 d0 d1 d2 d3 E0 E F Y0 Y P W):Y.length=Y0.length:=by simpa using congrArg List.length h.ky
theorem NmL.setE {g go k:Nat}(h:NmL n0 L BO k ky w W1 a0 a1 a2 a3 d0 d1 d2 d3 E0 E F Y0 Y P W)(cG:go=0)(ha:a0=some ⟨g,go,none⟩)(hk:k<E.length)(jI:BO≠g)(hg:n0<=g)(hb:Below W.heap.size W W2){a:Option Addr}{n c:Nat}(hr:W2.ownsRow n0 41 2 (.slice a n c) E[k].line.length (E[k].line.flatMap ptE.enc)) :
 NmL n0 L BO (k+1) ky w W1 a0 a1 a2 a3 d0 d1 d2 d3 E0 (E.set k { E[k]with la:=a,ln:=n,lc:=c }) F Y0 Y P (W2.setCell ⟨g,go+k*4+1,none⟩ (.slice a n c)):=by
 have h2:=h.up hb;subst cG;subst ha;rw[Nat.zero_add];obtain⟨cur,kg⟩:=a3g h2.r.e rfl;exact⟨h2.r.setE hk jM rfl,h.e.step hk hb kg hr,h2.y.keep (zR _ _) kg jM,c4j h.ke hk a n c,h.ky,h2.o.other jI _ _,h2.bel.setCell hg _⟩
theorem NmL.setY {g go k:Nat}(h:NmL n0 L BO ka k w W1 a0 a1 a2 a3 d0 d1 d2 d3 E0 E F Y0 Y P W)(cG:go=0)(ha:a2=some ⟨g,go,none⟩)(hk:k<Y.length)(jI:BO≠g)(hg:n0<=g)(hb:Below W.heap.size W W2){a:Option Addr}{n c:Nat}(hr:W2.ownsRow n0 41 2 (.slice a n c) Y[k].line.length (Y[k].line.flatMap ptE.enc)) :
 NmL n0 L BO ka (k+1) w W1 a0 a1 a2 a3 d0 d1 d2 d3 E0 E F Y0 (Y.set k { Y[k]with la:=a,ln:=n,lc:=c }) P (W2.setCell ⟨g,go+k*8+1,none⟩ (.slice a n c)):=by
 have h2:=h.up hb;subst cG;subst ha;rw[Nat.zero_add];obtain⟨cur,kg⟩:=a3g h2.r.w rfl;exact⟨h2.r.setY hk jM rfl,h2.e.keep (zR _ _) kg jM,h.y.step hk hb kg hr,h.ke,c4k h.ky hk a n c,h2.o.other jI _ _,h2.bel.setCell hg _⟩
theorem NmL.cellE {k:Nat}(h:NmL n0 L BO ka ky w W1 a0 a1 a2 a3 d0 d1 d2 d3 E0 E F Y0 Y P W)(hk:k<E.length)(hl:E.length<=1000):∃g go,go=0/\a0=some ⟨g,go,none⟩/\n0<=g/\W.cell? ⟨g,go+k*4+1,none⟩=some (.slice E[k].la E[k].ln E[k].lc)/\(∀i,W.frozen? ⟨g,i,none⟩=false)/\g<W.heap.size:=by
 obtain⟨b,off,cap,e,-,ab,hc⟩:=(a0g a9b h.r.e xM).some_ xM;rcases h.r.e.2 with⟨e2,h0⟩|⟨g,mN,cur,e2,h1,h3,-⟩
 ·omega
 ·simp only[Value.slice.injEq,true_and]at e e2
  obtain⟨rfl,rfl⟩:=e2;obtain⟨e3,-⟩:=e;simp only[Option.some.injEq,Addr.mk.injEq,and_true]at e3;obtain⟨rfl,rfl⟩:=e3;have:=hc k hk 1 jM;exact⟨g,0,rfl,rfl,h1,this,λi=>(show Blk W g cur 71 from h3).frozen i,ab⟩
theorem NmL.cellY {k:Nat}(h:NmL n0 L BO ka ky w W1 a0 a1 a2 a3 d0 d1 d2 d3 E0 E F Y0 Y P W)(hk:k<Y.length)(hl:Y.length<=1000):∃g go,go=0/\a2=some ⟨g,go,none⟩/\n0<=g/\W.cell? ⟨g,go+k*8+1,none⟩=some (.slice Y[k].la Y[k].ln Y[k].lc)/\(∀i,W.frozen? ⟨g,i,none⟩=false)/\g<W.heap.size:=by
 obtain⟨b,off,cap,e,-,ab,hc⟩:=(a0g a6d h.r.w xM).some_ xM;rcases h.r.w.2 with⟨e2,h0⟩|⟨g,mN,cur,e2,h1,h3,-⟩
 ·omega
 ·simp only[Value.slice.injEq,true_and]at e e2
  obtain⟨rfl,rfl⟩:=e2;obtain⟨e3,-⟩:=e;simp only[Option.some.injEq,Addr.mk.injEq,and_true]at e3;obtain⟨rfl,rfl⟩:=e3;have:=hc k hk 1 jM;exact⟨g,0,rfl,rfl,h1,this,λi=>(show Blk W g cur 46 from h3).frozen i,ab⟩
end
def FNm (n0 BM:Nat)(x0 x1 x2 x3:Option Addr)(k0 k1 k2 k3 c0 c1 c2 c3:Nat)(E:List Eg)(Fa:List Fc)(Y:List Wq)(P:List Pc)(i:Nat)(v:Vu)(w:Wd):Prop :=
 match i with
 |0=>v= .agg #[.slice x0 k0 c0,.slice x1 k1 c1,.slice x2 k2 c2,.slice x3 k3 c3]
 |1=>v= .agg #[.slice x0 k0 c0,.func (.func 54) #[] #[]]
 |2=>w.ownsRow n0 71 4 v E.length ((a0w Eg.id E).flatMap egE.enc)
 |3=>v= .agg #[.slice x0 k0 c0,.slice x1 k1 c1,.slice x2 k2 c2,.slice x3 k3 c3]
 |4=>v= .agg #[.slice x1 k1 c1,.func (.func 59) #[] #[]]
 |5=>w.ownsRow n0 43 5 v Fa.length ((a0w Fc.id Fa).flatMap fcE.enc)
 |6=>v= .agg #[.slice x0 k0 c0,.slice x1 k1 c1,.slice x2 k2 c2,.slice x3 k3 c3]
 |7=>v= .agg #[.slice x2 k2 c2,.func (.func 63) #[] #[]]
 |8=>w.ownsRow n0 46 8 v Y.length ((a0w Wq.id Y).flatMap wqE.enc)
 |9=>v= .agg #[.slice x0 k0 c0,.slice x1 k1 c1,.slice x2 k2 c2,.slice x3 k3 c3]
 |10=>v= .agg #[.slice x3 k3 c3,.func (.func 67) #[] #[]]
 |11=>w.ownsRow n0 48 7 v P.length ((a0w Pc.id P).flatMap plE.enc)
 |12=>∃a0 d0 a1 d1 a2 d2 a3 d3,v= .agg #[.slice a0 E.length d0,.slice a1 Fa.length d1,.slice a2 Y.length d2,.slice a3 P.length d3]/\w.ownsRow n0 71 4 (.slice a0 E.length d0) E.length ((a0w Eg.id E).flatMap egE.enc)/\w.ownsRow n0 43 5 (.slice a1 Fa.length d1) Fa.length ((a0w Fc.id Fa).flatMap fcE.enc)/\w.ownsRow n0 46 8 (.slice a2 Y.length d2) Y.length ((a0w Wq.id Y).flatMap wqE.enc)/\w.ownsRow n0 48 7 (.slice a3 P.length d3) P.length ((a0w Pc.id P).flatMap plE.enc)
 |13=>∃L,v= .pointer (some ⟨L,0,none⟩)/\n0<=L/\Blk w L a1s 32
 |_=>False
theorem FNm.kept {n0 BM:Nat}{x0 x1 x2 x3:Option Addr}{k0 k1 k2 k3 c0 c1 c2 c3:Nat}{E:List Eg}{Fa:List Fc}{Y:List Wq}{P:List Pc}{i:Nat}{v:Vu}{w w':Wd}(h:FNm n0 BM x0 x1 x2 x3 k0 k1 k2 k3 c0 c1 c2 c3 E Fa Y P i v w)(hg:Below w.heap.size w w'):FNm n0 BM x0 x1 x2 x3 k0 k1 k2 k3 c0 c1 c2 c3 E Fa Y P i v w':=by
 unfold FNm at *;split at h
 all_goals first|exact h|(exact a0c h hg)|(obtain⟨a0,d0,a1,d1,a2,d2,a3,d3,h1,h2,h3,h4,h5⟩:=h;exact⟨a0,d0,a1,d1,a2,d2,a3,d3,h1,a0c h2 hg,a0c h3 hg,a0c h4 hg,a0c h5 hg⟩)|(obtain⟨L,h1,h2,h3⟩:=h;exact⟨L,h1,h2,h3.below hg h3.lt⟩)
def FNe (n0 L g go k ne dc:Nat)(la:Option Addr)(ln lc:Nat)(li:List a3v)(i:Nat)(v:Vu)(w:Wd):Prop :=
 match i with
 |0=>v= .pointer (some ⟨L,0,none⟩)
 |1=>v= .slice (some ⟨g,go,none⟩) ne dc
 |2=>v= .int .i64 (k:Nat)
 |3=>v= .pointer (some ⟨L,0,none⟩)
 |4=>v= .slice (some ⟨g,go,none⟩) ne dc
 |5=>v= .int .i64 (k:Nat)
 |6=>v= .pointer (some ⟨g,go+k*4,none⟩)
 |7=>v= .pointer (some ⟨g,go+k*4+1,none⟩)
 |8=>v= .slice la ln lc
 |9=>w.ownsRow n0 41 2 v li.length (li.flatMap ptE.enc)
 |_=>False
theorem FNe.kept {n0 L g go k ne dc:Nat}{la:Option Addr}{ln lc:Nat}{li:List a3v}{i:Nat}{v:Vu}{w w':Wd}(h:FNe n0 L g go k ne dc la ln lc li i v w)(hg:Below w.heap.size w w'):FNe n0 L g go k ne dc la ln lc li i v w':=by
 unfold FNe at *;split at h
 all_goals first|exact h|(exact a0c h hg)
def FNy (n0 L g go k ne dc:Nat)(la:Option Addr)(ln lc:Nat)(li:List a3v)(i:Nat)(v:Vu)(w:Wd):Prop :=
 match i with
 |0=>v= .pointer (some ⟨L,2,none⟩)
 |1=>v= .slice (some ⟨g,go,none⟩) ne dc
 |2=>v= .int .i64 (k:Nat)
 |3=>v= .pointer (some ⟨L,2,none⟩)
 |4=>v= .slice (some ⟨g,go,none⟩) ne dc
 |5=>v= .int .i64 (k:Nat)
 |6=>v= .pointer (some ⟨g,go+k*8,none⟩)
 |7=>v= .pointer (some ⟨g,go+k*8+1,none⟩)
 |8=>v= .slice la ln lc
 |9=>w.ownsRow n0 41 2 v li.length (li.flatMap ptE.enc)
 |_=>False
theorem FNy.kept {n0 L g go k ne dc:Nat}{la:Option Addr}{ln lc:Nat}{li:List a3v}{i:Nat}{v:Vu}{w w':Wd}(h:FNy n0 L g go k ne dc la ln lc li i v w)(hg:Below w.heap.size w w'):FNy n0 L g go k ne dc la ln lc li i v w':=by
 unfold FNy at *;split at h
 all_goals first|exact h|(exact a0c h hg)
theorem a7x (ev fv wv pv:Vu)(E:List Eg)(Fa:List Fc)(Y:List Wq)(P:List Pc)(w:Wd)(hM:MapV w.heap.size w ev fv wv pv E Fa Y P) :
 Calls prog 9 #[.agg #[ev,fv,wv,pv]] w λe w'=>∃a0 d0 a1 d1 a2 d2 a3 d3 E' F' Y' P',e= .returned (.agg #[.slice a0 E'.length d0,.slice a1 F'.length d1,.slice a2 Y'.length d2,.slice a3 P'.length d3])/\MapV w'.heap.size w' (.slice a0 E'.length d0) (.slice a1 F'.length d1) (.slice a2 Y'.length d2) (.slice a3 P'.length d3) E' F' Y' P'/\NormR (a1d E Fa Y P) (a1d E' F' Y' P')/\Below w.heap.size w w':=by
 obtain⟨x0,c0,rfl,-⟩:=hM.e.form;obtain⟨x1,c1,rfl,-⟩:=hM.f.form;obtain⟨x2,c2,rfl,-⟩:=hM.w.form;obtain⟨x3,c3,rfl,-⟩:=hM.p.form;have an:=hM.ne;have bZ:=hM.nf;have je:=hM.nw;have iK:=hM.np;go_enter func9,ntmps9;go_upto_region 1 with fail;have kM:=(Blk.new w #[.slice x0 E.length c0,.slice x1 Fa.length c1,.slice x2 Y.length c2,.slice x3 P.length c3] 32).alloc (.cells a1s 32);have kO:=Blk.new (w.alloc (.cells #[.slice x0 E.length c0,.slice x1 Fa.length c1,.slice x2 Y.length c2,.slice x3 P.length c3] 32)) a1s 32;rw[World.size_alloc]at kO;have ah:Below w.heap.size w ((w.alloc (.cells #[.slice x0 E.length c0,.slice x1 Fa.length c1,.slice x2 Y.length c2,.slice x3 P.length c3] 32)).alloc (.cells a1s 32)):=by exact zC
 obtain⟨W1,ao⟩:=zE ((w.alloc (.cells #[.slice x0 E.length c0,.slice x1 Fa.length c1,.slice x2 Y.length c2,.slice x3 P.length c3] 32)).alloc (.cells a1s 32));have aH:W1.heap.size=w.heap.size+1+1:=by rw[<-ao];simp
 rw[ao]at kM kO ah ⊢;clear ao;obtain⟨BM,bu⟩:=zE w.heap.size;obtain⟨BO,dW⟩:=zE (BM+1);rw[bu]at kM kO aH ⊢;rw[dW]at kO ⊢;have bR:NmR W1.heap.size BM W1 x0 x1 x2 x3 c0 c1 c2 c3 E Fa Y P W1:=⟨kM,hM.up ah,yR _,zR _ _⟩;obtain⟨n0,bX⟩:=zE W1.heap.size;rw[bX]at bR aH;refine Go.wp_region_rel 14 zM zM (λ_ W=>NmR n0 BM W1 x0 x1 x2 x3 c0 c1 c2 c3 E Fa Y P W) (λw w'=>Below w.heap.size w w') (FNm n0 BM x0 x1 x2 x3 E.length Fa.length Y.length P.length c0 c1 c2 c3 E Fa Y P) (λ_ _ _ _ h g=>h.kept g) (bR.up (zR _ _).drew) ?step1 ?tail1
 case step1 =>
  obtain⟨k0,e0⟩:=zE E.length;obtain⟨k1,e1⟩:=zE Fa.length;obtain⟨k2,e2⟩:=zE Y.length;obtain⟨k3,e3⟩:=zE P.length;rw[e0,e1,e2,e3];clear hM bR kM kO ah aH an bZ je iK;intro i o hi ho c bb W hc hM hA hD K hK;match i,hi,ho with
  |0,_,ho =>
   exact yad
  |1,_,ho =>
   cases ho;have f6:=a0a (v:= .agg #[.slice x0 k0 c0,.slice x1 k1 c1,.slice x2 k2 c2,.slice x3 k3 c3]) (a0b hD 0 6 zM rfl rfl);exact yjs
  |2,_,ho =>
   cases ho;have f7:=a0a (v:= .agg #[.slice x0 k0 c0,.func (.func 54) #[] #[]]) (a0b hD 1 7 zM rfl rfl);go_simp;refine(b2t _ E W (e0▸hM.m.e) (e0▸hM.m.ef) hM.m.ne).mono ?_;exact ybw
  |3,_,ho =>
   exact yad
  |4,_,ho =>
   cases ho;have f9:=a0a (v:= .agg #[.slice x0 k0 c0,.slice x1 k1 c1,.slice x2 k2 c2,.slice x3 k3 c3]) (a0b hD 3 9 zM rfl rfl);exact yjt
  |5,_,ho =>
   cases ho;have f10:=a0a (v:= .agg #[.slice x1 k1 c1,.func (.func 59) #[] #[]]) (a0b hD 4 10 zM rfl rfl);go_simp;refine(b2w _ Fa W (e1▸hM.m.f) (e1▸hM.m.ff) hM.m.nf).mono ?_;exact ybw
  |6,_,ho =>
   exact yad
  |7,_,ho =>
   cases ho;have f12:=a0a (v:= .agg #[.slice x0 k0 c0,.slice x1 k1 c1,.slice x2 k2 c2,.slice x3 k3 c3]) (a0b hD 6 12 zM rfl rfl);exact yju
  |8,_,ho =>
   cases ho;have f13:=a0a (v:= .agg #[.slice x2 k2 c2,.func (.func 63) #[] #[]]) (a0b hD 7 13 zM rfl rfl);go_simp;refine(b2z _ Y W (e2▸hM.m.w) (e2▸hM.m.wf) hM.m.nw).mono ?_;exact ybw
  |9,_,ho =>
   exact yad
  |10,_,ho =>
   cases ho;have f15:=a0a (v:= .agg #[.slice x0 k0 c0,.slice x1 k1 c1,.slice x2 k2 c2,.slice x3 k3 c3]) (a0b hD 9 15 zM rfl rfl);exact yjv
  |11,_,ho =>
   cases ho;have f16:=a0a (v:= .agg #[.slice x3 k3 c3,.func (.func 67) #[] #[]]) (a0b hD 10 16 zM rfl rfl);go_simp;refine(b3c _ P W (e3▸hM.m.p) (e3▸hM.m.pf) hM.m.np).mono ?_;exact ybw
  |12,_,ho =>
   cases ho;have f8:=a0b hD 2 8 zM rfl rfl;have f11:=a0b hD 5 11 zM rfl rfl;have f14:=a0b hD 8 14 zM rfl rfl;have f17:=a0b hD 11 17 zM rfl rfl;obtain⟨va,ea⟩:=zE (bb.eval (.tmp 8));obtain⟨vb,eb⟩:=zE (bb.eval (.tmp 11));obtain⟨vc,ec⟩:=zE (bb.eval (.tmp 14));obtain⟨vd,ed⟩:=zE (bb.eval (.tmp 17));rw[ea]at f8;rw[eb]at f11;rw[ec]at f14;rw[ed]at f17;obtain⟨a0,d0,rfl⟩:=a2v f8;obtain⟨a1,d1,rfl⟩:=a2v f11;obtain⟨a2,d2,rfl⟩:=a2v f14;obtain⟨a3,d3,rfl⟩:=a2v f17;have h8:=f8;have h11:=f11;have h14:=f14;have h17:=f17;have f8:=a0a ea;have f11:=a0a eb;have f14:=a0a ec;have f17:=a0a ed;go_simp;exact hK _ W ⟨_,_,_,_,_,_,_,_,(by rw[e0,e1,e2,e3]),h8,h11,h14,h17⟩ (zR _ _) hM
  |13,_,ho =>
   cases ho;go_simp;have hb:Below W.heap.size W (W.alloc (.cells #[.slice none 0 0,.slice none 0 0,.slice none 0 0,.slice none 0 0] 32)):=(zR _ _).alloc (yR _) _;exact hK (.pointer (some ⟨W.heap.size,0,none⟩)) _ ⟨_,rfl,hM.z,Blk.new _ _ _⟩ hb (hM.up hb)
  |i+14,hi,_=>exact absurd hi xM
 case tail1 =>
  intro bb W' au hA aa;obtain⟨a0,d0,a1,d1,a2,d2,a3,d3,h18,r0,r1,r2,r3⟩:=(show ∃a0 d0 a1 d1 a2 d2 a3 d3,bb.eval (.tmp 18)= .agg #[.slice a0 E.length d0,.slice a1 Fa.length d1,.slice a2 Y.length d2,.slice a3 P.length d3]/\W'.ownsRow n0 71 4 (.slice a0 E.length d0) E.length ((a0w Eg.id E).flatMap egE.enc)/\W'.ownsRow n0 43 5 (.slice a1 Fa.length d1) Fa.length ((a0w Fc.id Fa).flatMap fcE.enc)/\W'.ownsRow n0 46 8 (.slice a2 Y.length d2) Y.length ((a0w Wq.id Y).flatMap wqE.enc)/\W'.ownsRow n0 48 7 (.slice a3 P.length d3) P.length ((a0w Pc.id P).flatMap plE.enc)from aa 12 xM _ _ rfl rfl);obtain⟨L,h3,hL,kL⟩:=(show ∃L,bb.eval (.tmp 3)= .pointer (some ⟨L,0,none⟩)/\n0<=L/\Blk W' L a1s 32 from aa 13 xM _ _ rfl rfl);have az:=hA.frame (rT 3 (rF 1 (rT 2 (rF 13 (rT 39 ([])))))) _ rfl zM;clear aa hA;obtain⟨f,hf⟩:=zDt bb;have g18:f 18= .agg #[.slice a0 E.length d0,.slice a1 Fa.length d1,.slice a2 Y.length d2,.slice a3 P.length d3]:=by rw[<-hf,<-h18];rfl
  have g3:f 3= .pointer (some ⟨L,0,none⟩):=by rw[<-hf,<-h3];rfl
  rw[hf]at az;clear hf h18 h3;subst az;simp only[rT,rF,a1j,g18,g3,Nat.reduceAdd];clear g18 g3;simp only[zU];have pI:=kO.below (bX▸au.bel) xM;have e0:W'.cell? ⟨L,0,none⟩=some (.slice none 0 0):=kL.cell 0;have e1:W'.cell? ⟨L,1,none⟩=some (.slice none 0 0):=kL.cell 1;have e2:W'.cell? ⟨L,2,none⟩=some (.slice none 0 0):=kL.cell 2;have e3:W'.cell? ⟨L,3,none⟩=some (.slice none 0 0):=kL.cell 3;have fL:=kL.frozen;have s0:=(a2k Eg.id E).symm;have s1:=(a2k Fc.id Fa).symm;have s2:=(a2k Wq.id Y).symm;have s3:=(a2k Pc.id P).symm;have Jt:=(((kL.set 0 (.slice a0 E.length d0)).set 1 (.slice a1 Fa.length d1)).set 2 (.slice a2 Y.length d2)).set 3 (.slice a3 P.length d3);have g1:=a0d W' L 0 (.slice a0 E.length d0);have q1:=kL.set 0 (.slice a0 E.length d0);have g2:=a0d (W'.setCell ⟨L,0,none⟩ (.slice a0 E.length d0)) L 1 (.slice a1 Fa.length d1);have q2:=q1.set 1 (.slice a1 Fa.length d1);have g3:=a0d ((W'.setCell ⟨L,0,none⟩ (.slice a0 E.length d0)).setCell ⟨L,1,none⟩ (.slice a1 Fa.length d1)) L 2 (.slice a2 Y.length d2);have q3:=q2.set 2 (.slice a2 Y.length d2);have g4:=a0d (((W'.setCell ⟨L,0,none⟩ (.slice a0 E.length d0)).setCell ⟨L,1,none⟩ (.slice a1 Fa.length d1)).setCell ⟨L,2,none⟩ (.slice a2 Y.length d2)) L 3 (.slice a3 P.length d3);have rr:∀ {t:Td} {s n:Nat} {v:Vu} {xs:List Value},W'.ownsRow n0 t s v n xs->t≠32->World.ownsRow _ n0 t s v n xs:=λh ht=>a0i (a0i (a0i (a0i h g1 kL ht) g2 q1 ht) g3 q2 ht) g4 q3 ht
  have F4:=hM.mono (yR _);have qB:NmL n0 L BO 0 0 w W1 a0 a1 a2 a3 d0 d1 d2 d3 (a0w Eg.id E) (a0w Eg.id E) (a0w Fc.id Fa) (a0w Wq.id Y) (a0w Wq.id Y) (a0w Pc.id P) ((((W'.setCell ⟨L,0,none⟩ (.slice a0 E.length d0)).setCell ⟨L,1,none⟩ (.slice a1 Fa.length d1)).setCell ⟨L,2,none⟩ (.slice a2 Y.length d2)).setCell ⟨L,3,none⟩ (.slice a3 P.length d3)):=by
   refine⟨⟨?_,?_,?_,?_,?_,hL,by simpa using au.z⟩,⟨λi _ hi=>by omega,λi hi _=> ?_,λx hx=> ?_⟩,⟨λi _ hi=>by omega,λi hi _=> ?_,λx hx=> ?_⟩,rfl,rfl,?_,?_⟩
   ·rw[<-s0];exact rr r0 jM
   ·rw[<-s1];exact rr r1 jM
   ·rw[<-s2];exact rr r2 jM
   ·rw[<-s3];exact rr r3 jM
   ·rw[<-s0,<-s1,<-s2,<-s3];simpa using Jt
   ·exact hM.el _ ((a1b Eg.id E).1.mem_iff.2 (List.getElem_mem hi))
   ·exact(hM.el x ((a1b Eg.id E).1.mem_iff.2 hx)).len
   ·exact hM.wl _ ((a1b Wq.id Y).1.mem_iff.2 (List.getElem_mem hi))
   ·exact(hM.wl x ((a1b Wq.id Y).1.mem_iff.2 hx)).len
   ·exact((((pI.other xM 0 _).other xM 1 _).other xM 2 _).other xM 3 _)
   ·exact(((au.bel.setCell hL _).setCell hL _).setCell hL _).setCell hL _
  clear g1 q1 g2 q2 g3 q3 g4 rr Jt F4;replace qB:=Lib.hid qB;clear r0 r1 r2 r3 kL pI;replace s0:=Lib.hid s0;replace s1:=Lib.hid s1;replace s2:=Lib.hid s2;replace s3:=Lib.hid s3;go_upto_region 2 with fail;obtain⟨W2,bQ⟩:=zE ((((W'.setCell ⟨L,0,none⟩ (.slice a0 E.length d0)).setCell ⟨L,1,none⟩ (.slice a1 Fa.length d1)).setCell ⟨L,2,none⟩ (.slice a2 Y.length d2)).setCell ⟨L,3,none⟩ (.slice a3 P.length d3));rw[bQ]at qB ⊢;have QU:w.heap.size<=n0:=xM;clear bQ e0 e1 e2 e3 fL au;obtain⟨E0,Cn⟩:=zE (a0w Eg.id E);obtain⟨Y0,wg⟩:=zE (a0w Wq.id Y);obtain⟨F0,Co⟩:=zE (a0w Fc.id Fa);obtain⟨P0,jz⟩:=zE (a0w Pc.id P);replace s0:=s0.out;replace s1:=s1.out;replace s2:=s2.out;replace s3:=s3.out;rw[Cn]at s0;rw[wg]at s2;rw[Co]at s1;rw[jz]at s3;rw[Cn,wg,Co,jz]at qB;have h0:W2.cell? ⟨L,0,none⟩=some (.slice a0 E.length d0):=by rw[s0];exact qB.out.r.b.cell 0
  replace s0:=Lib.hid s0;replace s1:=Lib.hid s1;replace s2:=Lib.hid s2;replace s3:=Lib.hid s3;go_wp2_with fail;clear h0;go_loopw [22] (λvk wr=>∃(k:Nat) (E2:List Eg),vk= .int .i64 (k:Nat)/\k<=E.length/\Hid (NmL n0 L BO k 0 w W1 a0 a1 a2 a3 d0 d1 d2 d3 E0 E2 F0 Y0 Y0 P0 wr)) (λvk _=>E.length+1-(intOf vk).toNat)
  case atStart=>exact⟨0,E0,rfl,xM,qB⟩
  case round =>
   obtain⟨k,E2,rfl,hk,hR⟩:=hrel;by_cases ab:k<E.length
   ·have aj:(k:Int)<(E.length:Int):=xM
    have cW:k<E2.length:=by rw[hR.out.lenE,<-s0.out];exact ab
    have Og:E2.length<=1000:=by rw[hR.out.lenE,<-s0.out];exact an
    obtain⟨g,go,cG,oS,xT,bO,du,gO⟩:=hR.out.cellE cW Og;have gV:wr.cell? ⟨L,0,none⟩=some (.slice (some ⟨g,go,none⟩) E.length d0):=by rw[<-oS];have:=hR.out.r.b.cell 0;rw[hR.out.lenE,<-s0.out]at this;exact this
    have eZ:=(hR.out.e.old k cW (yR _)).below ((ah.trans (hR.out.bel.mono xM)):Below w.heap.size w wr);have fg:=eZ.mono (show w.heap.size<=wr.heap.size from(ah.trans (hR.out.bel.mono xM)).size);have rj:NlR L g go k a0 E.length d0 0 E2[k].la E2[k].ln E2[k].lc E2[k].line wr wr:=⟨gV,fg,zR _ _⟩;have dX:=hR.out.r.z;obtain⟨la,ig⟩:=zE (E2[k].la);obtain⟨ln,kr⟩:=zE (E2[k].ln);obtain⟨lc,dZ⟩:=zE (E2[k].lc);obtain⟨li,gZ⟩:=zE (E2[k].line);rw[ig,kr,dZ]at bO;rw[ig,kr,dZ,gZ]at rj;replace gZ:=Lib.hid gZ;replace oS:=Lib.hid oS;replace cG:=Lib.hid cG;clear ig kr dZ eZ fg gV;go_upto_region 5 with fail;refine Go.wp_region_rel 10 zM zM (λ_ W=>NlR L g go k a0 E.length d0 0 la ln lc li wr W) (λw w'=>Below w.heap.size w w') (FNe n0 L g go k E.length d0 la ln lc li) (λ_ _ _ _ h g=>h.kept g) (rj.up (zR _ _).drew) ?step2 ?tail2
    case step2 =>
     obtain⟨ne,eW⟩:=zE E.length;obtain⟨dc,jH⟩:=zE d0;rw[eW,jH];rw[eW]at aj;have bX:=dX;clear rj hR hM qB bR kM kO ah aH du eW;intro i o hi ho c bb W hc hM hA hD K hK;match i,hi,ho with
     |0,_,ho =>
      exact yfz
     |1,_,ho =>
      cases ho;have f25:=a0a (v:= .pointer (some ⟨L,0,none⟩)) (a0b hD 0 25 zM rfl rfl);exact yjc
     |2,_,ho =>
      exact ycv
     |3,_,ho =>
      exact yfz
     |4,_,ho =>
      cases ho;have f28:=a0a (v:= .pointer (some ⟨L,0,none⟩)) (a0b hD 3 28 zM rfl rfl);exact yjc
     |5,_,ho =>
      exact ycv
     |6,_,ho =>
      cases ho;have f29:=a0a (v:= .slice (some ⟨g,go,none⟩) ne dc) (a0b hD 4 29 zM rfl rfl);have f30:=a0a (v:= .int .i64 (k:Nat)) (a0b hD 5 30 zM rfl rfl);exact yke
     |7,_,ho =>
      cases ho;have f31:=a0a (v:= .pointer (some ⟨g,go+k*4,none⟩)) (a0b hD 6 31 zM rfl rfl);exact yka
     |8,_,ho =>
      cases ho;have f32:=a0a (v:= .pointer (some ⟨g,go+k*4+1,none⟩)) (a0b hD 7 32 zM rfl rfl);have z0:W.cell? ⟨g,go+k*4+1,none⟩=some (.slice la ln lc):=(hM.bel.cell (p:=⟨g,go+k*4+1,none⟩) gO).trans bO;exact yil
     |9,_,ho =>
      cases ho;have f33:=a0a (v:= .slice la ln lc) (a0b hD 8 33 zM rfl rfl);exact yfb
     |i+10,hi,_=>exact absurd hi xM
    case tail2 =>
     intro bb W3 jT hA aa;have ri:=(show W3.ownsRow n0 41 2 (bb.eval (.tmp 34)) li.length (li.flatMap ptE.enc)from aa 9 xM _ _ rfl rfl);have h26:bb.eval (.tmp 26)= .slice (some ⟨g,go,none⟩) E.length d0:=aa 1 xM _ _ rfl rfl;have h27:bb.eval (.tmp 27)= .int .i64 (k:Nat):=aa 2 xM _ _ rfl rfl;obtain⟨ua,uc,h34⟩:=a2v ri;rw[h34]at ri;have az:=hA.frame (rT 25 (rF 10 (rT 23 ([])))) _ rfl zM;clear aa hA;obtain⟨f,hf⟩:=zDt bb;have Ju:f 26= .slice (some ⟨g,go,none⟩) E.length d0:=by rw[<-hf,<-h26];rfl
     have nh:f 27= .int .i64 (k:Nat):=by rw[<-hf,<-h27];rfl
     have A6:f 34= .slice ua li.length uc:=by rw[<-hf,<-h34];rfl
     rw[hf]at az;clear hf h26 h27 h34;subst az;simp only[rT,rF,a1j,Ju,nh,A6,Nat.reduceAdd];clear Ju nh A6;simp only[zU];have Gi:W3.cell? ⟨g,go+k*4+1,none⟩=some (.slice la ln lc):=(jT.bel.cell (p:=⟨g,go+k*4+1,none⟩) gO).trans bO;have Gj:W3.frozen? ⟨g,go+k*4+1,none⟩=false:=(a4k (jT.bel.block g gO) _).trans (du _);have pX:W3.ownsRow n0 41 2 (.slice ua li.length uc) E2[k].line.length (E2[k].line.flatMap ptE.enc):=by rw[gZ.out];exact ri
     have sK:=Lib.hid (hR.out.setE cG.out oS.out cW xM xT jT.bel pX);exact yeg
   ·have aT:¬(k:Int)<(E.length:Int):=xM
    obtain rfl:k=E.length:=xM;have Gk:=hR;have c2:wr.cell? ⟨L,2,none⟩=some (.slice a2 Y.length d2):=by rw[s2.out];exact hR.out.r.b.cell 2
    clear hR;go_wp2_with fail;clear c2;go_loopw [41] (λvk wr=>∃(k:Nat) (Y2:List Wq),vk= .int .i64 (k:Nat)/\k<=Y.length/\Hid (NmL n0 L BO E.length k w W1 a0 a1 a2 a3 d0 d1 d2 d3 E0 E2 F0 Y0 Y2 P0 wr)) (λvk _=>Y.length+1-(intOf vk).toNat)
    case atStart=>exact⟨0,Y0,rfl,xM,Gk⟩
    case round =>
     obtain⟨k,Y2,rfl,hk,hR⟩:=hrel;by_cases ab:k<Y.length
     ·have aj:(k:Int)<(Y.length:Int):=xM
      have cW:k<Y2.length:=by rw[hR.out.lenY,<-s2.out];exact ab
      have fW:Y2.length<=1000:=by rw[hR.out.lenY,<-s2.out];exact je
      obtain⟨g,go,cG,pJ,xT,bO,du,gO⟩:=hR.out.cellY cW fW;have gV:wr.cell? ⟨L,2,none⟩=some (.slice (some ⟨g,go,none⟩) Y.length d2):=by rw[<-pJ];have:=hR.out.r.b.cell 2;rw[hR.out.lenY,<-s2.out]at this;exact this
      have eZ:=(hR.out.y.old k cW (yR _)).below ((ah.trans (hR.out.bel.mono xM)):Below w.heap.size w wr);have fg:=eZ.mono (show w.heap.size<=wr.heap.size from(ah.trans (hR.out.bel.mono xM)).size);have rj:NlR L g go k a2 Y.length d2 2 Y2[k].la Y2[k].ln Y2[k].lc Y2[k].line wr wr:=⟨gV,fg,zR _ _⟩;have dX:=hR.out.r.z;obtain⟨la,ig⟩:=zE (Y2[k].la);obtain⟨ln,kr⟩:=zE (Y2[k].ln);obtain⟨lc,dZ⟩:=zE (Y2[k].lc);obtain⟨li,gZ⟩:=zE (Y2[k].line);rw[ig,kr,dZ]at bO;rw[ig,kr,dZ,gZ]at rj;replace gZ:=Lib.hid gZ;replace pJ:=Lib.hid pJ;replace cG:=Lib.hid cG;clear ig kr dZ eZ fg gV;go_upto_region 10 with fail;refine Go.wp_region_rel 10 zM zM (λ_ W=>NlR L g go k a2 Y.length d2 2 la ln lc li wr W) (λw w'=>Below w.heap.size w w') (FNy n0 L g go k Y.length d2 la ln lc li) (λ_ _ _ _ h g=>h.kept g) (rj.up (zR _ _).drew) ?step2 ?tail2
      case step2 =>
       obtain⟨ne,eW⟩:=zE Y.length;obtain⟨dc,jH⟩:=zE d2;rw[eW,jH];rw[eW]at aj;have bX:=dX;clear rj hR Gk hM qB bR kM kO ah aH du eW;intro i o hi ho c bb W hc hM hA hD K hK;match i,hi,ho with
       |0,_,ho =>
        exact yfn
       |1,_,ho =>
        cases ho;have f44:=a0a (v:= .pointer (some ⟨L,2,none⟩)) (a0b hD 0 44 zM rfl rfl);exact yiv
       |2,_,ho =>
        exact yft
       |3,_,ho =>
        exact yfn
       |4,_,ho =>
        cases ho;have f47:=a0a (v:= .pointer (some ⟨L,2,none⟩)) (a0b hD 3 47 zM rfl rfl);exact yiv
       |5,_,ho =>
        exact yft
       |6,_,ho =>
        cases ho;have f48:=a0a (v:= .slice (some ⟨g,go,none⟩) ne dc) (a0b hD 4 48 zM rfl rfl);have f49:=a0a (v:= .int .i64 (k:Nat)) (a0b hD 5 49 zM rfl rfl);exact ykb
       |7,_,ho =>
        cases ho;have f50:=a0a (v:= .pointer (some ⟨g,go+k*8,none⟩)) (a0b hD 6 50 zM rfl rfl);go_simp;exact hK (.pointer (some ⟨g,go+k*8+1,none⟩)) W rfl (zR _ _) hM
       |8,_,ho =>
        cases ho;have f51:=a0a (v:= .pointer (some ⟨g,go+k*8+1,none⟩)) (a0b hD 7 51 zM rfl rfl);have z0:W.cell? ⟨g,go+k*8+1,none⟩=some (.slice la ln lc):=(hM.bel.cell (p:=⟨g,go+k*8+1,none⟩) gO).trans bO;exact yil
       |9,_,ho =>
        cases ho;have f52:=a0a (v:= .slice la ln lc) (a0b hD 8 52 zM rfl rfl);exact yfb
       |i+10,hi,_=>exact absurd hi xM
      case tail2 =>
       intro bb W3 jT hA aa;have ri:=(show W3.ownsRow n0 41 2 (bb.eval (.tmp 53)) li.length (li.flatMap ptE.enc)from aa 9 xM _ _ rfl rfl);have h45:bb.eval (.tmp 45)= .slice (some ⟨g,go,none⟩) Y.length d2:=aa 1 xM _ _ rfl rfl;have h46:bb.eval (.tmp 46)= .int .i64 (k:Nat):=aa 2 xM _ _ rfl rfl;obtain⟨ua,uc,h53⟩:=a2v ri;rw[h53]at ri;have az:=hA.frame (rT 44 (rF 10 (rT 4 ([])))) _ rfl zM;clear aa hA;obtain⟨f,hf⟩:=zDt bb;have xD:f 45= .slice (some ⟨g,go,none⟩) Y.length d2:=by rw[<-hf,<-h45];rfl
       have qT:f 46= .int .i64 (k:Nat):=by rw[<-hf,<-h46];rfl
       have Jv:f 53= .slice ua li.length uc:=by rw[<-hf,<-h53];rfl
       rw[hf]at az;clear hf h45 h46 h53;subst az;simp only[rT,rF,a1j,xD,qT,Jv,Nat.reduceAdd];clear xD qT Jv;simp only[zU];have Gi:W3.cell? ⟨g,go+k*8+1,none⟩=some (.slice la ln lc):=(jT.bel.cell (p:=⟨g,go+k*8+1,none⟩) gO).trans bO;have Gj:W3.frozen? ⟨g,go+k*8+1,none⟩=false:=(a4k (jT.bel.block g gO) _).trans (du _);have pX:W3.ownsRow n0 41 2 (.slice ua li.length uc) Y2[k].line.length (Y2[k].line.flatMap ptE.enc):=by rw[gZ.out];exact ri
       have sK:=Lib.hid (hR.out.setY cG.out pJ.out cW xM xT jT.bel pX);exact yeg
     ·have aT:¬(k:Int)<(Y.length:Int):=xM
      obtain rfl:k=Y.length:=xM;have hF:=hR.out;obtain⟨kL,kO⟩:=And.intro hF.r.b hF.o;rw[hF.lenE,hF.lenY]at kL;rw[<-s0.out,<-s1.out,<-s2.out,<-s3.out]at kL;have e0:wr.cell? ⟨L,0,none⟩=some (.slice a0 E.length d0):=kL.cell 0;have e1:wr.cell? ⟨L,1,none⟩=some (.slice a1 Fa.length d1):=kL.cell 1;have e2:wr.cell? ⟨L,2,none⟩=some (.slice a2 Y.length d2):=kL.cell 2;have e3:wr.cell? ⟨L,3,none⟩=some (.slice a3 P.length d3):=kL.cell 3;have o0:wr.cell? ⟨BO,0,none⟩=some (.slice none 0 0):=kO.cell 0;have o1:wr.cell? ⟨BO,1,none⟩=some (.slice none 0 0):=kO.cell 1;have o2:wr.cell? ⟨BO,2,none⟩=some (.slice none 0 0):=kO.cell 2;have o3:wr.cell? ⟨BO,3,none⟩=some (.slice none 0 0):=kO.cell 3;have fO:=kO.frozen;have kF:=(((kO.set 0 (.slice a0 E.length d0)).set 1 (.slice a1 Fa.length d1)).set 2 (.slice a2 Y.length d2)).set 3 (.slice a3 P.length d3);have g1:=a0d wr BO 0 (.slice a0 E.length d0);have q1:=kO.set 0 (.slice a0 E.length d0);have g2:=a0d (wr.setCell ⟨BO,0,none⟩ (.slice a0 E.length d0)) BO 1 (.slice a1 Fa.length d1);have q2:=q1.set 1 (.slice a1 Fa.length d1);have g3:=a0d ((wr.setCell ⟨BO,0,none⟩ (.slice a0 E.length d0)).setCell ⟨BO,1,none⟩ (.slice a1 Fa.length d1)) BO 2 (.slice a2 Y.length d2);have q3:=q2.set 2 (.slice a2 Y.length d2);have g4:=a0d (((wr.setCell ⟨BO,0,none⟩ (.slice a0 E.length d0)).setCell ⟨BO,1,none⟩ (.slice a1 Fa.length d1)).setCell ⟨BO,2,none⟩ (.slice a2 Y.length d2)) BO 3 (.slice a3 P.length d3);obtain⟨WF,xY⟩:=zE ((((wr.setCell ⟨BO,0,none⟩ (.slice a0 E.length d0)).setCell ⟨BO,1,none⟩ (.slice a1 Fa.length d1)).setCell ⟨BO,2,none⟩ (.slice a2 Y.length d2)).setCell ⟨BO,3,none⟩ (.slice a3 P.length d3));have rr:∀ {t:Td} {s n:Nat} {v:Vu} {xs:List Value},wr.ownsRow n0 t s v n xs->t≠32->WF.ownsRow n0 t s v n xs:=λh ht=>xY▸a0i (a0i (a0i (a0i h g1 kO ht) g2 q1 ht) g3 q2 ht) g4 q3 ht
      have pN:Below w.heap.size w WF:=by
       rw[<-xY];have h0:Below w.heap.size w wr:=ah.trans (hF.bel.mono xM);have jI:w.heap.size<=BO:=xM;exact(((h0.setCell jI _).setCell jI _).setCell jI _).setCell jI _
      have r1:=rr hF.r.e jM;have r2:=rr hF.r.f jM;have r3:=rr hF.r.w jM;have r4:=rr hF.r.p jM;have le:E2.length=E.length:=by rw[hF.lenE,<-s0.out]
      have lf:F0.length=Fa.length:=s1.out.symm;have ly:Y2.length=Y.length:=by rw[hF.lenY,<-s2.out]
      have lp:P0.length=P.length:=s3.out.symm;have uA:MapV WF.heap.size WF (.slice a0 E2.length d0) (.slice a1 F0.length d1) (.slice a2 Y2.length d2) (.slice a3 P0.length d3) E2 F0 Y2 P0:=by
       refine⟨a0g a9b r1 xM,a0o r1,λx hx=> ?_,a0g a9t r2 xM,a0o r2,a0g a6d r3 xM,a0o r3,λx hx=> ?_,a0g a2n r4 xM,a0o r4,xM,xM,xM,xM,λx hx=> ?_,λx hx=> ?_,λx hx=> ?_,λx hx=> ?_⟩
       ·obtain⟨i,hi,rfl⟩:=List.getElem_of_mem hx
        exact a8p (rr (hF.e.new i hi xM) jM) (hF.e.len _ hx)
       ·obtain⟨i,hi,rfl⟩:=List.getElem_of_mem hx
        exact a8p (rr (hF.y.new i hi xM) jM) (hF.y.len _ hx)
       ·obtain⟨y,hy,e,-⟩:=c4m (E:=E) (by rw[hF.ke,Cn]) hx
        rw[<-e];exact hM.ei y hy
       ·exact hM.fi x ((a1b Fc.id Fa).1.mem_iff.2 (by rw[Co];exact hx))
       ·obtain⟨y,hy,e,-⟩:=c4n (E:=Y) (by rw[hF.ky,wg]) hx
        rw[<-e];exact hM.wi y hy
       ·exact hM.pi x ((a1b Pc.id P).1.mem_iff.2 (by rw[jz];exact hx))
      have se:NormR (a1d E Fa Y P) (a1d E2 F0 Y2 P0):=by
       rw[<-Co,<-jz];exact c4l (by rw[hF.ke,Cn]) (by rw[hF.ky,wg])
      have zN:(.agg #[.slice a0 E.length d0,.slice a1 Fa.length d1,.slice a2 Y.length d2,.slice a3 P.length d3]:Value)= .agg #[.slice a0 E2.length d0,.slice a1 F0.length d1,.slice a2 Y2.length d2,.slice a3 P0.length d3]:=by rw[le,lf,ly,lp]
      have Oh:Blk WF BO #[.slice a0 E.length d0,.slice a1 Fa.length d1,.slice a2 Y.length d2,.slice a3 P.length d3] 32:=by rw[<-xY];simpa using kF
      have aF:=Lib.hid (And.intro zN (And.intro uA (And.intro se pN)));clear zN uA se pN le lf ly lp r1 r2 r3 r4 rr g1 q1 g2 q2 g3 q3 g4 kF hF hR Gk kL kO hM bR qB;go_wp2_with fail;exact bodyPost_ret (results_cell_row qM _ _ _ 32 _ (0,0) _ qM Oh underlying32 qM zM) rfl ⟨_,_,_,_,_,_,_,_,E2,F0,Y2,P0,by rw[aF.out.1],aF.out.2.1,aF.out.2.2.1,by first|exact aF.out.2.2.2|(rw[<-bu];exact aF.out.2.2.2)⟩
end
end Go.Proofs.YteijfnkidefekaaGreat
