/-
  Parts.
-/
import Derived.Test.YtfocdbjceedagaaGreatDoorCaf
import Derived.Test.YtfocdbjceedagaaGreatDoorCal
import Derived.Sort.WalkA
set_option linter.unusedVariables false
set_option linter.unusedSimpArgs false
set_option maxHeartbeats 8000000
set_option maxRecDepth 100000
namespace Go.Proofs.YtfocdbjceedagaaGreatDoor
open Tryz
section
open Go.RowKit Go.Shelf
section
variable {α:Type}{E:El α}{P:Program}{st:Td}{w:Wd}{l:List α}
theorem El.pushO (hE:E.Ok)(hI:E.In P st){ops:Array Oper}{rest:List Oper}{o:Oper}{a:Act}{Q:Exit->Act->World->Prop}(dI:o.guard=none)(sO xO:Operand)(ho:o.op= .call { callee:= .builtin .append,args:= #[sO,xO],argTypes:= #[st,st] })
 {base:Nat} {v:Vu} (hs:a.eval sO=v) (ae:w.ownsRow base E.t E.s v l.length (l.flatMap E.enc)) (x:α) {H:Nat} (hx:a.eval xO= .slice (some ⟨H,0,none⟩) 1 1) (hH:w.heap.size=H) (aD:base<=w.heap.size) (hl:l.length<=100000)
 (h:∀v' w',w'.ownsRow base E.t E.s v' (l++[x]).length ((l++[x]).flatMap E.enc)->(∀g,v'.ownBlock=some g->v.ownBlock=some g\/w.heap.size<=g)->w.grownBy w' v.ownBlock->Below base w w'->wpList P ops Q rest (a.put o.dst v') w') :
 wpList P ops Q (o::rest) a (w.alloc (.cells (E.enc x).toArray E.t)):=by
 subst hH;obtain⟨i,z,hi,hz,bu,o9,kj⟩:=hI.info;have hlen:=hE.len x;refine wpList_append_lies _ dI sO xO st ho base E.t i z E.s i.bytes hI.under hi hz bu rfl kj hE.pos v l.length _ hs (ae.alloc _) ⟨w.heap.size,0,none⟩ 1 1 (E.enc x) hx (by rw[hlen,Nat.one_mul]) (World.news_of_block (heap_alloc_new _ _)) (hE.one x) oM oK (Nat.le_trans (Nat.mul_le_mul (Nat.add_le_add_right hl 1) o9) jM) uM _ rfl ?_;intro g cap w' aj hg fD ag;have fg:w.grownBy w' v.ownBlock:=by
  exact yex
 refine h _ w' ?_ (λg' e=> ?_) fg ⟨fg.os,fg.tape,fg.output,fg.size,λk hk=>fg.block k oM (λe=> ?_)⟩
 ·simpa[List.flatMap_append]using aj
 ·simp only[Value.ownBlock,Option.some.injEq]at e
  subst e;rcases fD with h1|h1
  ·exact .inl h1
  ·right
   rw[h1];simp
 ·have:=(ae.lt k e.symm).1
  omega
end
theorem DY.callG {n₀ D:Nat}{sv:Vu}{xs:List Int}{S0 S:BS}{W0 W:Wd}{L:b0f}{T:SlL}(h:DY n₀ D sv xs S0 W0 S W L T)(m:Int)(cV:1<=m)(fO:m<=4611686018427387904) :
 Calls prog 73 #[.pointer (some ⟨D,0,none⟩),.int .i64 m] W λe W'=>∃v,e= .returned (.int .i64 v)/\0<=v/\v<m/\DY n₀ D sv xs S0 W0 S W' L T/\W.grownBy W' (some D):=by
 refine(h.st.call m cV fO).mono ?_;rintro e W'⟨v,rfl,h0,h1,h2,hg,h3⟩;exact⟨v,rfl,h0,h1,⟨h2,λp hp=>by
  obtain⟨k1,k2,k3,k4⟩:=h.bx p hp;exact⟨k1.kept hg (λe=>k3 (Option.some.inj e).symm),k2,k3,k4⟩,h.ne,λq hq=>h3.sl (h.sl q hq)⟩,hg⟩
theorem DY.other {n₀ D:Nat}{sv:Vu}{xs:List Int}{S0 S:BS}{W0 W W':Wd}{L:b0f}{T:SlL}{o:Option Nat}(h:DY n₀ D sv xs S0 W0 S W L T)(hg:W.grownBy W' o)(ho:∀g,o=some g->¬S g/\g≠D/\W0.heap.size<=g/\∀p∈L,p.1≠g):DY n₀ D sv xs S0 W0 S W' L T:=by
 have aM:∀b,S b->W'.heap[b]? =W.heap[b]? :=λb hb=>hg.block b (h.tw.lt hb) (λe=>(ho b e.symm).1 hb)
 have bC:=h.st.ev.own hg (λr e=>⟨(ho r e).1,(ho r e).2.2.1⟩);have ag:=h.st.td.lt;have jr:=h.st.lo;obtain⟨j,hj,hb⟩:=h.st.td.box;have bU:Below n₀ W W':=Below.of_grown hg (by have:=h.st.td.le;omega) (λq e=>by have:=(ho q e).2.2.1;omega);have bO:Shp S W W':=λb c e hb hc=>⟨c,(aM b hb).trans hc,rfl⟩
 refine⟨⟨⟨bC.ok,⟨j,hj,hb.kept hg (λe=>(ho D e).2.1 rfl)⟩,h.st.td.ints.below bU,h.st.td.le,h.st.td.len,h.st.td.low,h.st.td.not⟩,bC,jr⟩,λp hp=> ?_,h.ne,λq hq=>(h.sl q hq).mono (λ_ h=>h) bO⟩;obtain⟨k1,k2,k3,k4⟩:=h.bx p hp;exact⟨k1.kept hg (λe=>(ho p.1 e).2.2.2 p hp rfl),k2,k3,k4⟩
structure DP (n₀ D:Nat)(sv:Vu)(xs:List Int)(S0:BS)(W0:Wd)(S:BS)(W:Wd)(L:b0f)(T:SlL)(ov:Vu)(l:List Pc):Prop where
 d:DY n₀ D sv xs S0 W0 S W L T
 row:W.ownsRow W0.heap.size 66 7 ov l.length (l.flatMap plE.enc)
 off:∀g,ov.ownBlock=some g->¬S g/\g≠D/\∀p∈L,p.1≠g
section
variable {n₀ D:Nat}{sv:Vu}{xs:List Int}{S0 S S':BS}{W0 W W':Wd}{L:b0f}{T:SlL}{B i:Nat}{c c':Array Value}{t:Td}{ov v:Vu}{l:List Pc}{p:Nat×Array Value×TypeId}
theorem DP.call (h:DP n₀ D sv xs S0 W0 S W L T ov l)(m:Int)(cV:1<=m)(fO:m<=4611686018427387904) :
 Calls prog 73 #[.pointer (some ⟨D,0,none⟩),.int .i64 m] W λe W'=>∃v,e= .returned (.int .i64 v)/\0<=v/\v<m/\DP n₀ D sv xs S0 W0 S W' L T ov l:=by
 refine(h.d.callG m cV fO).mono ?_;rintro e W'⟨v,rfl,h0,h1,h2,hg⟩;refine⟨v,rfl,h0,h1,h2,h.row.kept hg ?_,h.off⟩
 cases hp:ov.ownBlock with
 |none=>exact .inl rfl
 |some g=>exact .inr (λe=>(h.off g hp).2.1 (Option.some.inj e))
theorem DP.up (h:DP n₀ D sv xs S0 W0 S W L T ov l)(hb:Below W.heap.size W W'):DP n₀ D sv xs S0 W0 S W' L T ov l:=⟨h.d.up hb,a0r h.row hb,h.off⟩
theorem DP.box (h:DP n₀ D sv xs S0 W0 S W L T ov l)(c:Array Value)(t:Td):DP n₀ D sv xs S0 W0 S (W.alloc (.cells c t)) ((W.heap.size,c,t)::L) T ov l :=
 ⟨h.d.box c t,h.row.alloc _,λg hg=>by
  obtain⟨h1,h2,h3⟩:=h.off g hg;refine⟨h1,h2,λp hp=> ?_⟩;rcases List.mem_cons.1 hp with rfl|hp
  ·have:=(h.row.lt g hg).2
   intro e;simp only at e;omega
  ·exact h3 p hp⟩
theorem DP.put (h:DP n₀ D sv xs S0 W0 S W ((B,c,t)::L) T ov l)(hW:W'=W.setCell ⟨B,i,none⟩ v)(hc:c.setIfInBounds i v=c'):DP n₀ D sv xs S0 W0 S W' ((B,c',t)::L) T ov l:=by
 refine⟨h.d.put hW hc,?_,λg hg=> ?_⟩
 ·rw[hW]
  refine h.row.kept (a0z W B i v) ?_
  cases hp:ov.ownBlock with
  |none=>exact .inl rfl
  |some g=>exact .inr (λe=>(h.off g hp).2.2 _ (List.mem_cons_self ..) (Option.some.inj e).symm)
 ·obtain⟨h1,h2,h3⟩:=h.off g hg
  refine⟨h1,h2,λp hp=> ?_⟩;rcases List.mem_cons.1 hp with rfl|hp
  ·exact h3 (B,c,t) (List.mem_cons_self ..)
  ·exact h3 p (List.mem_cons_of_mem _ hp)
theorem DP.tail (h:DP n₀ D sv xs S0 W0 S W (p::L) T ov l):DP n₀ D sv xs S0 W0 S W L T ov l:=⟨h.d.tail,h.row,λg hg=>⟨(h.off g hg).1,(h.off g hg).2.1,λp hp=>(h.off g hg).2.2 p (List.mem_cons_of_mem _ hp)⟩⟩
theorem DP.more {l':List Pc}(h:DP n₀ D sv xs S0 W0 S W L T ov l)(hr:W'.ownsRow W0.heap.size 66 7 v l'.length (l'.flatMap plE.enc))(hg:W.grownBy W' ov.ownBlock)(hn:∀g,v.ownBlock=some g->ov.ownBlock=some g\/W.heap.size<=g):DP n₀ D sv xs S0 W0 S W' L T v l':=by
 refine⟨h.d.other hg (λg e=>⟨(h.off g e).1,(h.off g e).2.1,(h.row.lt g e).1,(h.off g e).2.2⟩),hr,λg e=> ?_⟩;rcases hn g e with h1|h1
 ·exact h.off g h1
 ·exact⟨λhs=>by have:=h.d.tw.lt hs;omega,λe2=>by have:=h.d.td.lt;omega,λp hp e2=>by have:=(h.d.bx p hp).1.lt;omega⟩
end
structure PlsOk (l:List Pc):Prop where
 id:∀(k:Nat) p,l[k]? =some p->p.id=61+(k:Int)
 ok:∀p∈l,PcOk p
 cl:∀p∈l,p.cls.size<=1000
theorem PlsOk.nil :PlsOk []:=⟨λk p h=>by simp at h,λp h=>by simp at h,λp h=>by simp at h⟩
theorem PlsOk.push {l:List Pc}{p:Pc}(h:PlsOk l)(hp:PcOk p)(hc:p.cls.size<=1000)(hi:p.id=61+(l.length:Int)):PlsOk (l++[p]):=by
 refine⟨λk q hq=> ?_,λq hq=> ?_,λq hq=> ?_⟩
 ·by_cases hk:k<l.length
  ·rw[List.getElem?_append_left hk]at hq
   exact h.id k q hq
  ·rw[List.getElem?_append_right oM]at hq
   have iB:k=l.length:=by
    have:=(List.getElem?_eq_some_iff.1 hq).1;simp at this;omega
   subst iB;simp at hq;subst hq;exact hi
 ·rcases List.mem_append.1 hq with h1|h1
  ·exact h.ok q h1
  ·rw[List.mem_singleton.1 h1]
   exact hp
 ·rcases List.mem_append.1 hq with h1|h1
  ·exact h.cl q h1
  ·rw[List.mem_singleton.1 h1]
   exact hc
def PlV (n₀ D:Nat)(sv:Vu)(xs:List Int)(S:BS)(w:Wd)(M B2:Nat)(ev fv wv pv:Vu)(ne nf:Nat)(ov kk:Vu)(wr:Wd):Prop :=
 ∃(k:Nat) (S':BS) (l:List Pc),k<=M/\kk= .int .i64 (k:Nat)/\l.length<=k/\PlsOk l/\DP n₀ D sv xs S w S' wr [(B2,b8m ev fv wv pv,37)] [(206,ev,ne),(140,fv,nf)] ov l
theorem DP.pd {n₀ D:Nat}{sv:Vu}{xs:List Int}{S0 S:BS}{W0 W W':Wd}{L:b0f}{T:SlL}{B:Nat}{id x y wt d:Int}{cs ns:Bw}{t:Td}{ov:Vu}{l:List Pc}(h:DP n₀ D sv xs S0 W0 S W ((B,e0o id x y cs ns wt 0,t)::L) T ov l)(hW:W'=W.setCell ⟨B,6,none⟩ (.int .i64 d)):DP n₀ D sv xs S0 W0 S W' ((B,e0o id x y cs ns wt d,t)::L) T ov l:=h.put hW rfl
theorem b7e (n₀:Nat)(S:BS)(w:Wd)(hT:TW S w)(eM:∀b,S b->n₀<=b)(fE:n₀<=w.heap.size)(sv:Vu)(xs:List Int)(hI:Intz n₀ w sv xs)
 (ev fv:Vu) (ne nf:Nat) (dX:SL S w 206 ev ne) (av:ne<=100) (gA:SL S w 140 fv nf) (ir:nf<=200) (wa pa:Option Addr) (wn wc pn pc:Nat) :
 Calls prog 75 #[.agg (b8m ev fv (.slice wa wn wc) (.slice pa pn pc)),sv] w λe w'=>∃S' v l,e= .returned v/\l.length<=6/\PlsOk l/\w'.ownsRow w.heap.size 66 7 v l.length (l.flatMap plE.enc)/\(∀g,v.ownBlock=some g->¬S' g)/\Ev noB S w S' w':=by
 obtain⟨ea,ec,rfl,-⟩:=dX.form;obtain⟨fa,fc,rfl,-⟩:=gA.form;obtain⟨sa,sc,rfl⟩:∃a c,sv= .slice a xs.length c:=by
  obtain⟨⟨a,c,e,-⟩,-⟩:=hI;exact⟨a,c,e⟩
 have aw:Below w.heap.size w (w.alloc (.cells (b8m (.slice ea ne ec) (.slice fa nf fc) (.slice wa wn wc) (.slice pa pn pc)) 37)):=zC;have sB:=TD.new (Ev.of_below (X:=noB) hT aw).ok eM (Nat.le_trans fE aw.size) (hI.below (aw.mono fE));have az:Below w.heap.size w ((w.alloc (.cells (b8m (.slice ea ne ec) (.slice fa nf fc) (.slice wa wn wc) (.slice pa pn pc)) 37)).alloc (.cells #[.slice sa xs.length sc,.int .i64 0] 137)):=zC;have hB:=(Blk.new w (b8m (.slice ea ne ec) (.slice fa nf fc) (.slice wa wn wc) (.slice pa pn pc)) 37).alloc (.cells #[.slice sa xs.length sc,.int .i64 0] 137);simp only[World.size_alloc]at sB;go_enter func75,ntmps75;go_upto_region 3 with fail;refine a0m (λW1 aH=> ?_);rw[<-aH]at sB az hB;have qO:¬S w.heap.size:=λh=>Nat.lt_irrefl _ (hT.lt h)
 obtain⟨B2,aG⟩:=zE w.heap.size;obtain⟨D,hD⟩:=zE (w.heap.size+1);obtain⟨sv,bH⟩:=zE (Value.slice sa xs.length sc);have Ai:w.heap.size<=D:=oM;have mI:DY n₀ D sv xs S w S W1 [(B2,b8m (.slice ea ne ec) (.slice fa nf fc) (.slice wa wn wc) (.slice pa pn pc),37)] [(206,.slice ea ne ec,ne),(140,.slice fa nf fc,nf)]:=by
  have hE:=Ev.of_below (X:=b1b D) hT az;rw[hD,bH]at sB;refine⟨⟨sB,hE,fE⟩,λp hp=> ?_,by simp,λq hq=> ?_⟩
  ·simp only[List.mem_cons,List.not_mem_nil,or_false]at hp
   subst hp;exact⟨by rw[<-aG];exact hB,by rw[<-aG];exact qO,by show B2≠D;omega,by show w.heap.size<=B2;omega⟩
  ·simp only[List.mem_cons,List.not_mem_nil,or_false]at hq
   rcases hq with rfl|rfl
   ·exact hE.sl dX
   ·exact hE.sl gA
 rw[hD,aG,bH];clear sB aw az hB aH hD bH hI qO aG eM fE;go_wp2_with (first
  |(go_at_call 73;(with_reducible refine(mI.call 7 oM oM).mono ?_);rintro e W2⟨many,rfl,m0,m1,dW⟩))
 obtain⟨M,rfl⟩:∃M:Nat,many=M:=⟨many.toNat,oM⟩;have FN:M<=6:=oM;obtain⟨ev,bC⟩:=zE (Value.slice ea ne ec);obtain⟨fv,sC⟩:=zE (Value.slice fa nf fc);obtain⟨wv,vC⟩:=zE (Value.slice wa wn wc);obtain⟨pv,kn⟩:=zE (Value.slice pa pn pc);rw[bC,sC,vC,kn]at dW;rw[bC,sC,vC,kn];have NQ:∀(S:BS) (W:Wd),TW S W->SL S W 140 fv nf->∀id,Calls prog 135 #[.agg (b8m ev fv wv pv),.int .i64 id] W λe w'=>(∃x,e= .returned (.int .i64 x)/\fits x)/\Below W.heap.size W w':=λS W h1 h2 id=>by
  rw[<-bC,<-sC,<-vC,<-kn];rw[<-sC]at h2;exact b1n S W h1 _ _ _ _ _ _ _ _ _ _ _ nf h2 ir id
 clear bC sC vC kn;go_loopw [6,8] (λov kk wr=>PlV n₀ D sv xs S w M B2 ev fv wv pv ne nf ov kk wr) (λ_ kk _=>M-(intOf kk).toNat)
 case atStart=>exact⟨0,S,[],oM,rfl,by simp,PlsOk.nil,dW,⟨by simp,.inl ⟨rfl,by simp⟩⟩,λg e=>by cases e⟩
 case round =>
  clear mI dW;obtain⟨k,S',l,hk,rfl,hn,a7,hd⟩:=hrel;by_cases ag:k<M
  ·have aA:(k:Int)<(M:Int):=oM
   obtain⟨oa,oc,rfl,-⟩:=(a0d a4f hd.row oM).form;go_upto_if 28 with(first
    |(go_at_call 73;(with_reducible refine(hd.call 10 oM oM).mono ?_);rintro e W2⟨s,rfl,s0,s1,dW⟩)
    |(go_at_call 73;(with_reducible refine(dW.call 2 oM oM).mono ?_);rintro e W3⟨q,rfl,q0,q1,zV⟩))
   by_cases hq:q=1
   ·subst hq
    exact yad
   ·have wJ:(q==1)=false:=by simpa using hq
    exact yad
  ·have aY:¬(k:Int)<(M:Int):=oM
   go_wp2_with fail;go_ret;exact⟨S',_,rfl,l,oM,a7,hd.row,λg e=>(hd.off g e).1,hd.d.fin (Ev.refl hT) Ai⟩
theorem b3m {b:Act}{k:Nat}{v:Vu}(h:b.tmps[k]?.getD undef=v):b.eval (.tmp k)=v:=by
 simpa[Act.eval]using h
def Own (n:Nat)(v:Vu):Prop:=∀a k c,v= .slice (some a) k c->n<=a.block
theorem b7f (n:Nat):Own n (.slice none 0 0):=λ_ _ _ e=>by cases e
theorem a7y {base b:Nat}(hb:base<=b):∀(vs:List Value) (o:Nat) (W:Wd),base<=W.heap.size->Below base W (W.setCells b o vs)
 |[],_,_,_=>zR _ _
 |v::vs,o,W,hW=>by
  have h1:Below base W (W.setCell ⟨b,o,none⟩ v):=(zR _ W).grown (a0z W b o v) hW (λq e=>by cases e;exact hb);have h2:=a7y hb vs (o+1) (W.setCell ⟨b,o,none⟩ v) (by simpa using hW);exact h1.trans h2
theorem b0i {X S:BS}{W:Wd}(hT:TW S W){t e ty:Td}{s:Nat}(ht:prog.underlying t=some (.slice e))(he:ET e s){sv xv:Vu}{n m:Nat}(hv:SL S W e sv n)(hx:SL S W e xv m)(hl:n+m<=1000000){base:Nat}(aD:base<=W.heap.size)(aj:Own base sv) :
 ∃v' S' W',(Builtin.append_ #[t,t] ty #[sv,xv]).run prog W= .ok v' W'/\SL S' W' e v' (n+m)/\Ev X S W S' W'/\Below base W W'/\Own base v':=by
 obtain⟨i,z,hi,hz,bu,o9,kj,GQ⟩:=he.info;have hp:=he.pos;have jo:=he.size;obtain⟨xa,xc,news,rfl,LR,iO,nW,wL,eP,nX⟩:=hx.cells hT he;exact yae
theorem CT.ok.flat {U S:BS}{W:Wd}{ct:CT}{u:Vu}(h:ct.ok U W u)(hk:ct.k≠3):ct.ok S W u:=⟨h.lt,h.i,h.s,h.b,λe=>absurd e hk,h.a⟩
theorem c3a {X S U:BS}{W:Wd}(hT:TW S W)(hU:TW U W){t e ty:Td}{s:Nat}(ht:prog.underlying t=some (.slice e))(he:ET e s){sv xv:Vu}{n m:Nat}(hv:SL S W e sv n)(hx:SL U W e xv m)(jC:∀ct∈a2x e,ct.k≠3)(hl:n+m<=1000000){base:Nat}(aD:base<=W.heap.size)(aj:Own base sv) :
 ∃v' S' W',(Builtin.append_ #[t,t] ty #[sv,xv]).run prog W= .ok v' W'/\SL S' W' e v' (n+m)/\Ev X S W S' W'/\Below base W W'/\Own base v':=by
 obtain⟨i,z,hi,hz,bu,o9,kj,GQ⟩:=he.info;have hp:=he.pos;have jo:=he.size;obtain⟨xa,xc,news,rfl,LR,iO,nW,wL,eP,nX⟩:=hx.cells hU he;replace wL:∀j u ct,news[j]? =some u->(a2x e)[j % s]? =some ct->ct.ok S W u:=λj u ct h1 h2=>(wL j u ct h1 h2).flat (jC ct (List.mem_of_getElem? h2))
 exact yae
structure OY (S0:BS)(W0:Wd)(S:BS)(W:Wd)(L:b0f)(T:SlL):Prop where
 o:OW S0 W0 S W L T
 bel:Below W0.heap.size W0 W
section
variable {S0 S S':BS}{W0 W W':Wd}{L:b0f}{T:SlL}{B i:Nat}{c c2 c':Array Value}{t t2 e:Td}{p:Nat×Array Value×TypeId}{v:Vu}{n:Nat}
theorem OY.init (hT:TW S W):OY S W S W [] []:=⟨OW.init hT,zR _ _⟩
theorem OY.tw (h:OY S0 W0 S W L T):TW S W:=h.o.tw
theorem OY.size (h:OY S0 W0 S W L T):W0.heap.size<=W.heap.size:=h.bel.size
theorem OY.evo (h:OY S0 W0 S W L T)(he:Ev noB S W S' W')(hb:Below W0.heap.size W W'):OY S0 W0 S' W' L T:=⟨h.o.evo he,h.bel.trans hb⟩
theorem OY.up (h:OY S0 W0 S W L T)(hb:Below W.heap.size W W'):OY S0 W0 S W' L T:=⟨h.o.up hb,h.bel.trans (hb.mono h.size)⟩
theorem OY.drew (h:OY S0 W0 S W L T):OY S0 W0 S W.drew L T:=h.up (zR _ _).drew
theorem OY.fresh (h:OY S0 W0 S W L T)(hb:Below W.heap.size W W')(hB:W.heap.size<=B)(hk:Blk W' B c t):OY S0 W0 S W' ((B,c,t)::L) T:=⟨h.o.fresh hb hB hk,h.bel.trans (hb.mono h.size)⟩
theorem OY.box (h:OY S0 W0 S W L T)(c:Array Value)(t:Td):OY S0 W0 S (W.alloc (.cells c t)) ((W.heap.size,c,t)::L) T:=h.fresh ((zR _ _).alloc (yR _) _) (yR _) (Blk.new _ _ _)
theorem OY.cellT (h:OY S0 W0 S W L T){c:Array Value}{e:Td}(hc:TB S W e c):OY S0 W0 (λb=>S b\/b=W.heap.size) (W.alloc (.cells c e)) L T:=h.evo (Ev.alloc h.tw hc) ((zR _ _).alloc h.size _)
theorem OY.add (h:OY S0 W0 S W L T){e:Td}{v:Vu}{n:Nat}(hv:SL S W e v n):OY S0 W0 S W L ((e,v,n)::T):=⟨h.o.add hv,h.bel⟩
theorem OY.tail (h:OY S0 W0 S W (p::L) T):OY S0 W0 S W L T:=⟨h.o.tail,h.bel⟩
theorem OY.tailT {q:TypeId×Value×Nat}(h:OY S0 W0 S W L (q::T)):OY S0 W0 S W L T:=⟨h.o.tailT,h.bel⟩
theorem OY.swap {q:Nat×Array Value×TypeId}(h:OY S0 W0 S W (p::q::L) T):OY S0 W0 S W (q::p::L) T:=⟨h.o.swap,h.bel⟩
theorem OY.set (h:OY S0 W0 S W ((B,c,t)::L) T)(i:Nat)(v:Vu)(hc:c.setIfInBounds i v=c'):OY S0 W0 S (W.setCell ⟨B,i,none⟩ v) ((B,c',t)::L) T :=
 ⟨h.o.set i v hc,h.bel.grown (a0z W B i v) h.size (λq e=>by cases e;exact(h.o.bx _ (List.mem_cons_self ..)).2.2)⟩
theorem OY.put {v:Vu}(h:OY S0 W0 S W ((B,c,t)::L) T)(hW:W'=W.setCell ⟨B,i,none⟩ v)(hc:c.setIfInBounds i v=c'):OY S0 W0 S W' ((B,c',t)::L) T:=hW▸h.set i v hc
theorem OY.b0 (h:OY S0 W0 S W ((B,c,t)::L) T):Blk W B c t:=h.o.b0
theorem OY.b1 (h:OY S0 W0 S W (p::(B,c,t)::L) T):Blk W B c t:=h.o.b1
theorem OY.b2 {p2:Nat×Array Value×TypeId}(h:OY S0 W0 S W (p::p2::(B,c,t)::L) T):Blk W B c t:=h.tail.b1
theorem OY.s0 {e:Td}{v:Vu}{n:Nat}(h:OY S0 W0 S W L ((e,v,n)::T)):SL S W e v n:=h.o.s0
theorem OY.s1 {q:TypeId×Value×Nat}{e:Td}{v:Vu}{n:Nat}(h:OY S0 W0 S W L (q::(e,v,n)::T)):SL S W e v n:=h.o.s1
theorem OY.s2 {q q2:TypeId×Value×Nat}{e:Td}{v:Vu}{n:Nat}(h:OY S0 W0 S W L (q::q2::(e,v,n)::T)):SL S W e v n:=h.o.s2
theorem b1x {U:BS}{n0:Nat}(hT:TW U W)(hb:Below n0 W W')(hU:∀b,U b->b<n0):TW U W':=λb hu=>by
 obtain⟨c,e,hc,ht⟩:=hT b hu;exact⟨c,e,hc.below hb (hU b hu),ht.mono (λ_ h=>h) (λb' c' e' gW gj=>⟨c',gj.below hb (hU b' gW),rfl⟩)⟩
theorem a4y {U:BS}{n0:Nat}(hb:Below n0 W W')(hU:∀b,U b->b<n0)(h:SL U W e v n):SL U W' e v n:=h.mono (λ_ h=>h) (λb' c' e' gW gj=>⟨c',gj.below hb (hU b' gW),rfl⟩)
theorem OY.old (h:OY S0 W0 S W L T){U:BS}(hT:TW U W0):TW U W:=b1x hT h.bel (λb hb=>hT.lt hb)
theorem OY.oldS (h:OY S0 W0 S W L T){U:BS}(hT:TW U W0){v:Vu}{n:Nat}(hs:SL U W0 e v n):SL U W e v n:=a4y h.bel (λb hb=>hT.lt hb) hs
theorem OY.evn (h:OY noB W0 S W L T)(he:Ev noB noB W S' W'):OY noB W0 (λb=>S b\/S' b) W' L T:=by
 have hb:Below W.heap.size W W':=he.low;have hS:∀b,S b->b<W.heap.size:=λb hb=>h.tw.lt hb
 have h1:TW S W':=b1x h.tw hb hS;have hn:∀b,S' b->W.heap.size<=b:=λb hb=>(he.new b hb).elim (λh=>h.elim) id
 refine h.evo ⟨λ_ hb=> .inl hb,λb hb=>hb.elim .inl (λh=> .inr (hn b h)),he.os,he.tape,he.output,he.size,λb gW _ _=>hb.block b gW,λb c e gW hc=>⟨c,hc.below hb (hS b gW),rfl⟩,λb gW=> ?_⟩ (hb.mono h.size);rcases gW with gW|gW
 ·obtain⟨c,e,hc,ht⟩:=h1 b gW
  exact⟨c,e,hc,ht.mono (λ_ h=> .inl h) (Shp.refl _ _)⟩
 ·obtain⟨c,e,hc,ht⟩:=he.ok b gW
  exact⟨c,e,hc,ht.mono (λ_ h=> .inr h) (Shp.refl _ _)⟩
theorem b3n {S S':BS}(h:SL S' W e v n):SL (λb=>S b\/S' b) W e v n:=h.mono (λ_ h=> .inr h) (Shp.refl _ _)
theorem OY.store (h:OY S0 W0 S W L T){e:Td}{b off n cap s:Nat}(he:ET e s)(hv:SL S W e (.slice (some ⟨b,off,none⟩) n cap) n)(ho:Own W0.heap.size (.slice (some ⟨b,off,none⟩) n cap))(k i:Nat)(ct:CT)(su:(a2x e)[i]? =some ct)(u:Vu)(hu:ct.ok S W u) :
 OY S0 W0 S (W.setCell ⟨b,off+k*s+i,none⟩ u) L T/\W.frozen? ⟨b,off+k*s+i,none⟩=false:=by
 obtain⟨h1,h2⟩:=SL.store (X:=noB) h.tw he hv k i ct su u hu;exact⟨h.evo h1 ((zR _ W).grown (a0z W b _ u) h.size (λq e=>by cases e;exact ho _ _ _ rfl)),h2⟩
theorem OY.append (h0:OY S0 W0 S W L T){o:Oper}{a:Act}{K:Act->World->Prop}{Q:Exit->Act->World->Prop}(sO xO:Operand)(t:Td)(ho:o.op= .call { callee:= .builtin .append,args:= #[sO,xO],argTypes:= #[t,t] })
 {e:Td} {s:Nat} (ht:prog.underlying t=some (.slice e)) (he:ET e s) {sv xv:Vu} {n m:Nat} (bH:a.eval sO=sv) (hv:SL S W e sv n) (aj:Own W0.heap.size sv) (dH:a.eval xO=xv) (hx:SL S W e xv m) (hl:n+m<=1000000)
 (h:∀v' S' w',OY S0 W0 S' w' L ((e,v',n+m)::T)->Own W0.heap.size v'->K (a.put o.dst v') w'):Oper.wp prog o a W K Q:=by
 obtain⟨v',S',w',hr,h2,h3,h4,h5⟩:=b0i (X:=noB) h0.tw (ty:=o.type) ht he hv hx hl h0.size aj;exact yfo
theorem OY.append_l (h0:OY S0 W0 S W L T){ops:Array Oper}{rest:List Oper}{o:Oper}{a:Act}{Q:Exit->Act->World->Prop}(dI:o.guard=none)(sO xO:Operand)(t:Td)(ho:o.op= .call { callee:= .builtin .append,args:= #[sO,xO],argTypes:= #[t,t] })
 {e:Td} {s:Nat} (ht:prog.underlying t=some (.slice e)) (he:ET e s) {sv xv:Vu} {n m:Nat} (bH:a.eval sO=sv) (hv:SL S W e sv n) (aj:Own W0.heap.size sv) (dH:a.eval xO=xv) (hx:SL S W e xv m) (hl:n+m<=1000000)
 (h:∀v' S' w',OY S0 W0 S' w' L ((e,v',n+m)::T)->Own W0.heap.size v'->wpList prog ops Q rest (a.put o.dst v') w'):wpList prog ops Q (o::rest) a W :=
 wpList_plain dI λ_ hK=>h0.append sO xO t ho ht he bH hv aj dH hx hl λv' S' w' h2 h3=>hK _ _ (h v' S' w' h2 h3)
theorem OY.append_f {U:BS}(h0:OY S0 W0 S W L T)(hU:TW U W){o:Oper}{a:Act}{K:Act->World->Prop}{Q:Exit->Act->World->Prop}(sO xO:Operand)(t:Td)(ho:o.op= .call { callee:= .builtin .append,args:= #[sO,xO],argTypes:= #[t,t] })
 {e:Td} {s:Nat} (ht:prog.underlying t=some (.slice e)) (he:ET e s) (jC:∀ct∈a2x e,ct.k≠3) {sv xv:Vu} {n m:Nat} (bH:a.eval sO=sv) (hv:SL S W e sv n) (aj:Own W0.heap.size sv) (dH:a.eval xO=xv) (hx:SL U W e xv m) (hl:n+m<=1000000)
 (h:∀v' S' w',OY S0 W0 S' w' L ((e,v',n+m)::T)->Own W0.heap.size v'->Ev noB S W S' w'->K (a.put o.dst v') w'):Oper.wp prog o a W K Q:=by
 obtain⟨v',S',w',hr,h2,h3,h4,h5⟩:=c3a (X:=noB) h0.tw hU (ty:=o.type) ht he hv hx jC hl h0.size aj;exact yfn
theorem OY.append_fl {U:BS}(h0:OY S0 W0 S W L T)(hU:TW U W){ops:Array Oper}{rest:List Oper}{o:Oper}{a:Act}{Q:Exit->Act->World->Prop}(dI:o.guard=none)(sO xO:Operand)(t:Td)(ho:o.op= .call { callee:= .builtin .append,args:= #[sO,xO],argTypes:= #[t,t] })
 {e:Td} {s:Nat} (ht:prog.underlying t=some (.slice e)) (he:ET e s) (jC:∀ct∈a2x e,ct.k≠3) {sv xv:Vu} {n m:Nat} (bH:a.eval sO=sv) (hv:SL S W e sv n) (aj:Own W0.heap.size sv) (dH:a.eval xO=xv) (hx:SL U W e xv m) (hl:n+m<=1000000)
 (h:∀v' S' w',OY S0 W0 S' w' L ((e,v',n+m)::T)->Own W0.heap.size v'->Ev noB S W S' w'->wpList prog ops Q rest (a.put o.dst v') w'):wpList prog ops Q (o::rest) a W :=
 wpList_plain dI λ_ hK=>h0.append_f hU sO xO t ho ht he jC bH hv aj dH hx hl λv' S' w' h2 h3 h4=>hK _ _ (h v' S' w' h2 h3 h4)
theorem OY.append_n (h0:OY S0 W0 S W L T){ops:Array Oper}{rest:List Oper}{o:Oper}{a:Act}{Q:Exit->Act->World->Prop}(dI:o.guard=none)(sO xO:Operand)(t:Td)(ho:o.op= .call { callee:= .builtin .append,args:= #[sO,xO],argTypes:= #[t,t] })
 {e:Td} {s:Nat} (ht:prog.underlying t=some (.slice e)) (he:ET e s) {v:Vu} {n:Nat} (bH:a.eval sO=v) (hv:SL S W e v n) (aj:Own W0.heap.size v) {H:Nat} (dH:a.eval xO= .slice (some ⟨H,0,none⟩) 1 1) (hH:W.heap.size=H) {c:Array Value} (hc:TB S W e c) (dN:c.size=s) (hl:n<=100000)
 (h:∀v' S' w',OY S0 W0 S' w' L ((e,v',n+1)::T)->Own W0.heap.size v'->wpList prog ops Q rest (a.put o.dst v') w'):wpList prog ops Q (o::rest) a (W.alloc (.cells c e)):=by
 subst hH;have h1:=h0.cellT hc;have hA:=Ev.alloc (X:=noB) h0.tw hc;exact yhp
end
theorem OY.empty {S0 S:BS}{W0 W:Wd}{L:b0f}{T:SlL}(h:OY S0 W0 S W L T)(e:Td):OY S0 W0 (λb=>S b\/b=W.heap.size) (W.alloc (.cells #[] e)) L ((e,.slice (some ⟨W.heap.size,0,none⟩) 0 0,0)::T) :=
 (h.cellT c5q).add (SL.blk (.inr rfl) (Blk.new W #[] e) vM)
theorem c5v {n b k c:Nat}(h:n<=b)(o:Nat):Own n (.slice (some ⟨b,o,none⟩) k c):=λa k' c' e=>by cases e;exact h
theorem b5t :∀ct∈a2x 26,ct.k≠3:=jM
theorem c0a :∀ct∈a2x 140,ct.k≠3:=jM
theorem b5u (U:BS)(w:Wd)(hT:TW U w)(v:Vu)(n:Nat)(hv:SL U w 26 v n)(hn:n<=1000) :
 Calls prog 136 #[v] w λe w'=>∃S' v',e= .returned v'/\SL S' w' 26 v' n/\Ev noB noB w S' w':=by
 have ho:=(OY.init (TW.none w)).empty 26;have Qa:=ho.old hT;have iI:=ho.oldS hT hv;obtain⟨a,cap,rfl,-⟩:=hv.form;go_enter func136,ntmps136;go_wp2_with (first
  |(at_builtin;refine ho.append_fl Qa qM _ _ 147 qM underlying147 a1z b5t qM ho.s0 (c5v (yR _) _) qM iI oM ?_;intro v9 S9 w9 oJ cM _))
 go_ret;refine⟨S9,_,rfl,?_,oJ.o.ev⟩;have:=oJ.s0;rwa [Nat.zero_add]at this
abbrev c3b :Array Value:= #[.string ⟨#[]⟩,.string ⟨#[77,111,111,114]⟩,.string ⟨#[71,97,116,101]⟩,.string ⟨#[120,32,121]⟩,.string ⟨#[32,120]⟩,.string ⟨#[120,32]⟩,.string ⟨#[97,34,98]⟩,.string ⟨#[97,98,99,100,101,102,103,104,105,106,107,108,109,110,111,112,113,114,115,116,117,118,119,120,121]⟩,.string ⟨#[65]⟩,.string ⟨#[31]⟩]
theorem a7k (k:Nat)(hk:k<1000):∃s:ByteArray,s.size<=30/\∀w:World,Zc prog 79 #[.int .i64 (k:Nat)] w (.string s):=by
 obtain⟨m,hm,fO⟩:∃m:Nat,(k:Int) % 10=(m:Int)/\m<10:=⟨k % 10,oM,oM⟩;obtain⟨s,hs,hc⟩:∃s:ByteArray,s.size<=30/\c3b[m]? =some (.string s):=by
  match m,fO with
  |0,_=>exact⟨_,jM,rfl⟩
  |1,_=>exact⟨_,jM,rfl⟩
  |2,_=>exact⟨_,jM,rfl⟩
  |3,_=>exact⟨_,jM,rfl⟩
  |4,_=>exact⟨_,jM,rfl⟩
  |5,_=>exact⟨_,jM,rfl⟩
  |6,_=>exact⟨_,jM,rfl⟩
  |7,_=>exact⟨_,jM,rfl⟩
  |8,_=>exact⟨_,jM,rfl⟩
  |9,_=>exact⟨_,jM,rfl⟩
 refine⟨s,hs,λw=> ?_⟩;have kB:=Blk.new w c3b 9;have cs:(w.alloc (.cells c3b 9)).cell? ⟨w.heap.size,m,none⟩=some (.string s):=(kB.cell m).trans hc;have tj:(m:Int)<10:=oM;have nG:Int.tmod (k:Int) 10=(m:Int):=by rw[Int.tmod_eq_emod_of_nonneg oM];exact hm
 clear kB hc;go_enter func79,ntmps79;exact yeo
theorem e0q (dx dy dk di ex ey ek ei:Int)(w:Wd):(binOp .neq 54 (.agg #[.int .i64 dx,.int .i64 dy,.int .i64 dk,.int .i64 di]) (.agg #[.int .i64 ex,.int .i64 ey,.int .i64 ek,.int .i64 ei])).run prog w= .ok (.bool (!decide ((⟨dx,dy,dk,di⟩:Dt)=⟨ex,ey,ek,ei⟩))) w:=by
 have u3:=underlying3;have a3:=isAgg3;have z3:=sizeOf3;have hS:prog.underlying 54=some (.struct (prog.fieldsOf 54)):=by kernel_rfl
 have hp:prog.stoodInHeld 54=false:=by kernel_rfl
 rw[run_neq_struct,show(10000:Nat)=9999+1 from rfl,run_equalIn_agg w 9999 54 _ _ hS hp];simp only[Program.fieldsOf,underlying54];go_simp;by_cases h1:dx=ex <;> by_cases h2:dy=ey <;> by_cases h3:dk=ek <;> by_cases h4:di=ei <;> simp[h1,h2,h3,h4]
theorem d4y (op:BinOp)(a b:Operand)(xs ys:Array Value)(w:Wd):(eqGuard op 54 a b (.agg xs) (.agg ys)).run prog w= .ok () w:=run_eqGuard_agg w op 54 a b xs ys zM
theorem d4z (m k:Int)(d e:Dt):c2d m d e<=k↔m<=k\/apD d e<=k:=by
 unfold c2d;split <;> omega
theorem c0b (d:Dt)(k:Int):∀(b:List Dt) (m:Int),a4r d m b<=k↔m<=k\/∃e∈b,apD d e<=k
 |[],m=>by simp[a4r]
 |e::b,m=>by
  have ih:=c0b d k b (c2d m d e);have h:a4r d m (e::b)=a4r d (c2d m d e) b:=rfl;rw[h,ih,d4z];simp only[List.mem_cons,exists_eq_or_imp,or_assoc]
theorem c0c (b:List Dt)(k:Int):∀(a:List Dt) (m:Int),a.foldl (λm d=>a4r d m b) m<=k↔m<=k\/∃d∈a,∃e∈b,apD d e<=k
 |[],m=>by simp
 |d::a,m=>by
  have ih:=c0c b k a (a4r d m b);simp only[List.foldl_cons];rw[ih,c0b];simp only[List.mem_cons,exists_eq_or_imp,or_assoc]
theorem d0r {a b:List Dt}{k:Int}:a1x a b<=k↔80<=k\/∃d∈a,∃e∈b,apD d e<=k:=c0c b k a 80
def e2s (w:Wd)(e:Ending)(w':Wd):Prop :=
 ∃S' ev fv wv pv l,e= .returned (.agg #[ev,fv,wv,pv])/\((∃n,SL S' w' 206 ev n/\n<=30)/\(∃n,SL S' w' 140 fv n/\n<=200)/\(∃n,SL S' w' 149 wv n/\n<=20))/\l.length<=6/\PlsOk l/\w'.ownsRow w.heap.size 66 7 pv l.length (l.flatMap plE.enc)/\(∀g,pv.ownBlock=some g->¬S' g)/\Ev noB noB w S' w'
theorem c3c (lv:Vu)(rows:List (Value×List Int))(w:Wd)(hM:Mat w.heap.size w lv rows) :
 Calls prog 30 #[lv] w λe w'=>e2s w e w':=by
 have qF:=hM;obtain⟨la,ar,rfl,eU,-⟩:=hM;obtain⟨m,hm⟩:=zE (min rows.length 3);have tj:min (rows.length:Int) 3=(m:Nat):=oM;have om:0<=(m:Int):=oM;have Qb:(m:Int)<=(ar:Int):=oM;have Mq:m<=ar:=oM;have ho:=((OW.init (TW.none w)).box e0p 37).box e0p 37;have aw:=ho.low;have AA:=((qF.below aw).mono aw.size).take m oM;simp only[World.size_alloc]at ho;replace hm:=Lib.hid hm;go_enter func30,ntmps30;go_upto_region 2 with fail;refine a0m (λW1 aH=> ?_);rw[<-aH]at ho AA;obtain⟨B2,aG⟩:=zE w.heap.size;obtain⟨B3,aN⟩:=zE (w.heap.size+1);rw[aN,aG]at ho;rw[aN,aG];have du:w.heap.size<=B2:=oM;clear aH aG aN aw;go_upto_region 3 with(first
  |(go_at_call 71;(with_reducible refine(d0q _ _ W1 AA).mono ?_);rintro e W2⟨S1,ev,fv,rfl,⟨ne,nf,dX,av,gA,ir⟩,gn⟩;obtain⟨ea,ec,rfl,-⟩:=dX.form;obtain⟨fa,fc,rfl,-⟩:=gA.form;have Dg:=((ho.evo gn).add dX).add gA;obtain⟨z0,z1,z2,z3⟩:=a2c Dg.b0;have Qc:=Dg.b0.frozen 0;have Qd:=Dg.b0.frozen 1))
 refine a0m (λW3 ez=> ?_);have vl:OW noB w S1 W3 [(B3,b8m (.slice ea ne ec) (.slice fa nf fc) (.slice none 0 0) (.slice none 0 0),37),(B2,e0p,37)] [(140,.slice fa nf fc,nf),(206,.slice ea ne ec,ne)]:=by
  rw[ez];exact(Dg.set 0 _ rfl).set 1 _ rfl
 clear ho Dg ez z0 z1 z2 z3 Qc Qd AA gn dX gA;have sT:=b0h (qF.below vl.low) 3;have ph:Calls prog 72 #[.slice la rows.length ar,.int .i64 3] W3 λe w'=>e= .returned (b4x rows 3)/\W3=w':=b7d _ W3 _ rows (qF.below vl.low) 3
 obtain⟨v3,sD⟩:=zE (b4x rows 3);obtain⟨x3,ma⟩:=zE (d8q rows 3);rw[sD]at sT ph;rw[ma]at sT;obtain⟨sa,sc,rfl⟩:∃a c,v3= .slice a x3.length c:=by
  obtain⟨⟨a,c,e,-⟩,-⟩:=sT;exact⟨a,c,e⟩
 clear sD ma;have hd:=vl.draw vl.lows (yR _) sT;go_upto_region 4 with(first
  |(go_at_call 72;(with_reducible refine ph.mono ?_);rintro e W'⟨rfl,rfl⟩))
 refine a0m (λW4 cQ=> ?_);rw[<-cQ]at hd;have mF:w.heap.size<=W3.heap.size:=vl.low.size;obtain⟨D,hD⟩:=zE W3.heap.size;obtain⟨sv,bH⟩:=zE (Value.slice sa x3.length sc);rw[hD,bH]at hd;rw[hD]at mF;rw[hD,bH];clear ph sT vl cQ hD bH;go_wp2_with fail;go_loopw [5] (λkk wr=>∃k:Nat,k<=nf/\kk= .int .i64 (k:Nat)/\DY w.heap.size D sv x3 noB w S1 wr [(B3,b8m (.slice ea ne ec) (.slice fa nf fc) (.slice none 0 0) (.slice none 0 0),37),(B2,e0p,37)] [(140,.slice fa nf fc,nf),(206,.slice ea ne ec,ne)]) (λkk _=>nf-(intOf kk).toNat)
 case atStart=>exact⟨0,Nat.zero_le _,rfl,hd⟩
 case round =>
  clear hd;obtain⟨k,hk,rfl,hd⟩:=hrel;by_cases ag:k<nf
  ·have aA:(k:Int)<(nf:Int):=oM
   obtain⟨b,off,aI,bL,-,-⟩:=hd.s0.some_ oM;simp only[Value.slice.injEq,true_and]at bL;obtain⟨rfl,rfl⟩:=bL;obtain⟨m0,m1,m2,m3⟩:=a2c hd.b0;go_upto_region 8 with fail;clear m0 m1 m2 m3;have st1:Strs #[.string ⟨#[102,105,101,108,100]⟩,.string ⟨#[119,111,111,100]⟩,.string ⟨#[108,97,107,101]⟩]:=b0g [⟨#[102,105,101,108,100]⟩,⟨#[119,111,111,100]⟩,⟨#[108,97,107,101]⟩] jM;go_upto_region 9 with(first
    |(go_at_call 73;(with_reducible refine((hd.box _ _).call 3 oM oM).mono ?_);rintro e Wb⟨q,rfl,q0,q1,hb⟩;obtain⟨q,rfl⟩:=Int.eq_ofNat_of_zero_le q0;obtain⟨s1,uL,fB⟩:=st1.at_ hb.b0 (q:=q) uM;have lK:=hb.tail;obtain⟨u,cu,-⟩:=SL.cell lK.tw a1v lK.s0 ag 1 .str rfl;obtain⟨au,zf⟩:=SL.store (X:=noB) lK.tw a1v lK.s0 k 1 .str rfl (.string s1) (CT.ok_str fB)))
   refine a0m (λWC uN=> ?_);have sQ:=lK.evo au;rw[<-uN]at sQ;clear hd lK hb uN zf uL st1 cu au;have st2:Strs #[.string ⟨#[]⟩,.string ⟨#[]⟩,.string ⟨#[]⟩,.string ⟨#[77,111,111,114]⟩,.string ⟨#[72,111,108,109]⟩,.string ⟨#[78,111,114,116,104,32,77,111,111,114]⟩]:=b0g [⟨#[]⟩,⟨#[]⟩,⟨#[]⟩,⟨#[77,111,111,114]⟩,⟨#[72,111,108,109]⟩,⟨#[78,111,114,116,104,32,77,111,111,114]⟩] jM;go_upto_region 10 with(first
    |(go_at_call 73;(with_reducible refine((sQ.box _ _).call 6 oM oM).mono ?_);rintro e Wd⟨q',rfl,A6,Lg,hb⟩;obtain⟨q',rfl⟩:=Int.eq_ofNat_of_zero_le A6;obtain⟨s2,rR,cH⟩:=st2.at_ hb.b0 (q:=q') uM;have lL:=hb.tail;obtain⟨u',cu,-⟩:=SL.cell lL.tw a1v lL.s0 ag 2 .str rfl;obtain⟨au,zf⟩:=SL.store (X:=noB) lL.tw a1v lL.s0 k 2 .str rfl (.string s2) (CT.ok_str cH)))
   refine a0m (λWE jl=> ?_);have nM:=lL.evo au;rw[<-jl]at nM;clear sQ lL hb jl zf rR st2 cu au;go_upto_region 11 with(first
    |(go_at_call 73;(with_reducible refine(nM.call 60 oM oM).mono ?_);rintro e Wf⟨t,rfl,t0,t1,lM⟩;obtain⟨u2,cu,-⟩:=SL.cell lM.tw a1v lM.s0 ag 3 .int rfl;obtain⟨au,zf⟩:=SL.store (X:=noB) lM.tw a1v lM.s0 k 3 .int rfl (.int .i64 (1+t)) (CT.ok_int ⟨oM,oM⟩)))
   refine a0m (λWG uP=> ?_);have nN:=lM.evo au;rw[<-uP]at nN;clear nM lM uP zf cu au;go_upto_region 6 with(first
    |(go_at_call 73;(with_reducible refine(nN.call 4 oM oM).mono ?_);rintro e Wh⟨x,rfl,x0,x1,xR⟩)
    |(go_at_call 73;(with_reducible refine(xR.call 2 oM oM).mono ?_);rintro e Wi⟨y,rfl,y0,y1,pH⟩;obtain⟨u3,cu,-⟩:=SL.cell pH.tw a1v pH.s0 ag 4 .int rfl;obtain⟨-,zf⟩:=SL.store (X:=noB) pH.tw a1v pH.s0 k 4 .int rfl (.int .i64 0) (CT.ok_int ⟨jM,jM⟩)))
   refine a0m (λWJ Mr=> ?_);have FJ:DY w.heap.size D sv x3 noB w S1 WJ [(B3,b8m (.slice ea ne ec) (.slice (some ⟨b,off,none⟩) nf fc) (.slice none 0 0) (.slice none 0 0),37),(B2,e0p,37)] [(140,.slice (some ⟨b,off,none⟩) nf fc,nf),(206,.slice ea ne ec,ne)]:=by
    rw[Mr];exact pH.evo (SL.store (X:=noB) pH.tw a1v pH.s0 k 4 .int rfl _ (CT.ok_int zF)).1
   clear nN xR pH Mr zf cu;go_wp2_with fail;go_roundw
   case rel=>exact⟨k+1,oM,by go_num,FJ⟩
   case measure=>simp[intOf];omega
  ·have aY:¬(k:Int)<(nf:Int):=oM
   obtain⟨m0,m1,m2,m3⟩:=a2c hd.b0;have ho:=hd.ow (TW.none w) mF;go_upto_region 12 with fail;clear hd m0 m1 m2 m3 ag aY;have Ms:=b0h (qF.below ho.low) 4;have FO:Calls prog 72 #[.slice la rows.length ar,.int .i64 4] wr λe w'=>e= .returned (b4x rows 4)/\wr=w':=b7d _ wr _ rows (qF.below ho.low) 4
   go_upto_region 13 with(first
    |(go_at_call 72;(with_reducible refine FO.mono ?_);rintro e W'⟨rfl,rfl⟩)
    |(go_at_call 74;(with_reducible refine(c7f _ S1 wr ho.tw ho.lows ho.low.size _ _ Ms).mono ?_);rintro e W5⟨S5,wv,rfl,⟨nw,ql,xU⟩,Dh⟩;obtain⟨wa,wc,rfl,-⟩:=ql.form;have FP:=(ho.evo Dh).add ql;obtain⟨z0,z1,z2,z3⟩:=a2c FP.b0;have zf:=FP.b0.frozen 2))
   refine a0m (λW6 qP=> ?_);have Di:=FP.put qP (c':=b8m (.slice ea ne ec) (.slice fa nf fc) (.slice wa nw wc) (.slice none 0 0)) rfl;clear ho FP Dh ql qP Ms FO z0 z1 z2 z3 zf;have FN:=qF.below Di.low;have Dj:=Di.low.size;obtain⟨m0,m1,m2,m3⟩:=a2c Di.b0;first|with_reducible refine a0h 3 zM zM ?_|with_reducible refine a0i 3 zM zM ?_
   simp only[zT];repeat(first|go_big_quiet_step ((go_at_call 72;exact Calls.grow_of_same (b7d w.heap.size _ _ rows (FN.below ((Go.below_growBy _ _).mono Dj)) 5)))|quiet_step ((go_at_call 72;exact Calls.grow_of_same (b7d w.heap.size _ _ rows (FN.below ((Go.below_growBy _ _).mono Dj)) 5))))
   refine wpQuiet_nil ?_;intro _ bh;obtain⟨p,bh⟩:=bh;subst bh;have tT:=Di.up (Go.below_growBy W6 p);have Mt:=b0h (qF.below tT.low) 5;clear m0 m1 m2 m3 Di FN;go_upto_region 14 with(first
    |(go_at_call 75;(with_reducible refine(b7e w.heap.size S5 _ tT.tw tT.lows tT.low.size _ _ Mt _ _ ne nf tT.s2 (Nat.le_trans av jM) tT.s1 ir _ _ _ _ _ _).mono ?_);rintro e W8⟨S8,pv,l,rfl,AB,a7,gE,cN,Dk⟩;replace gE:=b9e gE tT.low.size;obtain⟨pa,pc,rfl,-⟩:=(a0d a4f gE oM).form;have Dl:=tT.evo Dk;obtain⟨z0,z1,z2,z3⟩:=a2c Dl.b0;have zf:=Dl.b0.frozen 3))
   refine a0m (λW9 fP=> ?_);have aU:W9.ownsRow w.heap.size 66 7 (.slice pa l.length pc) l.length (l.flatMap plE.enc):=by
    rw[fP];exact gE.kept (a0z _ B3 3 _) (.inr (a0n gE Dl.b0 jM))
   have oJ:=Dl.put fP (c':=b8m (.slice ea ne ec) (.slice fa nf fc) (.slice wa nw wc) (.slice pa l.length pc)) rfl;clear tT Dl Dk gE fP Mt z0 z1 z2 z3 zf;obtain⟨z0,z1,z2,z3⟩:=a2c oJ.b0;obtain⟨y0,y1,y2,y3⟩:=a2c oJ.b1;have f0:=oJ.b1.frozen 0;have f1:=oJ.b1.frozen 1;have f2:=oJ.b1.frozen 2;have f3:=oJ.b1.frozen 3;have Ik:=oJ.swap;have Il:=aU.kept (a0z _ B2 0 (.slice ea ne ec)) (.inr (a0n aU Ik.b0 jM));have Im:=Ik.set 0 (.slice ea ne ec) rfl;have Io:=Il.kept (a0z _ B2 1 (.slice fa nf fc)) (.inr (a0n Il Im.b0 jM));have Iq:=Im.set 1 (.slice fa nf fc) rfl;have Ir:=Io.kept (a0z _ B2 2 (.slice wa nw wc)) (.inr (a0n Io Iq.b0 jM));have Is:=Iq.set 2 (.slice wa nw wc) rfl;have Qe:=Ir.kept (a0z _ B2 3 (.slice pa l.length pc)) (.inr (a0n Ir Is.b0 jM));have Dn:=Is.set 3 (.slice pa l.length pc) (c':=b8m (.slice ea ne ec) (.slice fa nf fc) (.slice wa nw wc) (.slice pa l.length pc)) rfl;clear oJ Ik Im Iq Is aU Il Io Ir;go_wp2_with fail;exact bodyPost_ret (results_cell_row qM _ _ B2 37 _ (0,0) _ qM Dn.b0 underlying37 qM zM) rfl ⟨S8,_,_,_,_,l,rfl,⟨⟨ne,Dn.s2,av⟩,⟨nf,Dn.s1,ir⟩,⟨nw,Dn.s0,xU⟩⟩,AB,a7,Qe,cN,Dn.ev⟩
section
variable {H:Type}{enc:TypeId×Value->H}{P:Program}{W:Wd}{base:Nat}{sp:Nat->Bool}{hd:Bool}{t e:Td}{v:Vu}
theorem d0s {fuel:Nat}{x:DataW H×List MemPlace}(ht:P.underlying t=some (.slice e))(he:P.underlying e=some (.int .i64))(hc:P.cellsOf e=1)
 (h:DataW.trod enc P W base sp hd fuel t [v]=some x):∃xs,Intz W.heap.size W v xs:=by
 rcases Go.ChangeShapes.open_ints ht he hc h with⟨h1,-⟩|⟨a,len,cap,zs,h1,-,h2,h2m,h3,-,h4,h5⟩
 ·obtain rfl:v= .slice none 0 0:=by simpa using h1
  exact⟨[],Intz.nil _ _⟩
 ·obtain rfl:v= .slice (some a) len cap:=by simpa using h1
  have hz:len<=zs.length:=by rw[h3];split <;> omega
  refine⟨zs.take len,⟨some a,cap,by rw[List.length_take,Nat.min_eq_left hz],λj hj=> ?_⟩,?_⟩
  ·have nh:j<len:=by rw[List.length_take]at hj;omega
   obtain⟨b,off,rfl,h6⟩:=Go.ints_at h4 oM;have h7:=h6 j oM;have hg:zs.getD j 0=zs[j]:=by rw[List.getD_eq_getElem?_getD,List.getElem?_eq_getElem oM];rfl
   rw[List.getElem_take];rw[hg]at h7;exact⟨b,off,rfl,World.block_lt_of_cell? _ _ h7,d4j _ (h5 _ (List.getElem_mem _)),h7⟩
  ·rw[List.length_take,Nat.min_eq_left hz]
   unfold maxLen at h2m;show len<=9223372036854775807;omega
theorem d8r {t2:Td}(FQ:P.underlying t2=some (.slice t))(bK:P.cellsOf t=1)(ht:P.underlying t=some (.slice e))(he:P.underlying e=some (.int .i64))(hc:P.cellsOf e=1)(hv:∀cs,v≠.agg cs)
 (h:∃d p,DataW.Trod enc P W base sp hd t2 v d p):∃rows,Mat W.heap.size W v rows/\b6w rows.length:=by
 obtain⟨d,p,fuel,h⟩:=h;have dN:v.cells.toList=[v]:=by cases v <;> first|rfl|exact absurd rfl (hv _)
 rw[dN]at h;rcases Go.Deep.open_slice1 FQ bK h with⟨h1,-⟩|⟨a,len,cap,m,n,V,D,Pl,h1,-,h2,h2m,h3,-,h4⟩
 ·obtain rfl:v= .slice none 0 0:=by simpa using h1
  exact⟨[],⟨none,0,rfl,yR _,λj hj=>by simp at hj⟩,Nat.zero_le _⟩
 ·obtain rfl:v= .slice (some a) len cap:=by simpa using h1
  have hm:len<=m:=by rw[h3];split <;> omega
  have each:∀i,i<len->∃r:Value×List Int,W.cell? (a.add i)=some r.1/\Intz W.heap.size W r.1 r.2:=λi hi=>by
   obtain⟨h5,h6⟩:=h4 i oM;obtain⟨xs,hx⟩:=d0s ht he hc h6;exact⟨(V i,xs),h5,hx⟩
  have Uo:Inhabited (Value×List Int):=⟨(.bool false,[])⟩;obtain⟨f,hf⟩:=Go.Deep.choose_lt each;refine⟨(List.range len).map f,⟨some a,cap,by simp,by simpa using h2,λj hj=> ?_⟩,?_⟩
  ·have nh:j<len:=by simpa using hj
   obtain⟨c0,hi⟩:=hf j nh;have vD:a.spot=none:=by
    have d0:=(hf 0 oM).1;simpa[Addr.add]using World.cell?_spot d0
   obtain⟨b,off,spot⟩:=a;simp only at vD;subst vD;rw[Go.WideShapes.add_plain]at c0;have hg:((List.range len).map f)[j]=f j:=by simp
   rw[hg];exact⟨b,off,rfl,World.block_lt_of_cell? _ _ c0,c0,hi⟩
  ·rw[List.length_map,List.length_range]
   unfold maxLen at h2m;show len<=9223372036854775807;omega
end
section
variable {P:Program}{W:Wd}{r:Reach}{base:Nat}{t:Td}{v:Vu}
end
end
section
open Go Go.RowKit Go.Shelf
theorem Ev.row {S S':BS}{W W':Wd}(h:Ev noB S W S' W'){base:Nat}{e:Td}{s:Nat}{v:Vu}{n:Nat}{xs:List Value}(hr:W.ownsRow base e s v n xs)(ho:∀b,v.ownBlock=some b->¬S b):W'.ownsRow base e s v n xs/\∀b,v.ownBlock=some b->¬S' b:=by
 obtain⟨h1,h2⟩:=hr;rcases h2 with⟨rfl,h3⟩|⟨g,cap,cur,rfl,h3,h4,h5⟩
 ·exact⟨⟨h1,.inl ⟨rfl,h3⟩⟩,λb e=>by cases e⟩
 ·have hb:Blk W g cur e:=h4
  have hn:¬S g:=ho g rfl;exact⟨⟨h1,.inr ⟨g,cap,cur,rfl,h3,h.blk hb hn (λh=>h),h5⟩⟩,λb e=>by cases e;exact h.not hb.lt hn⟩
theorem e0r {W:Wd}{base:Nat}{e:Td}{s:Nat}{v:Vu}{n:Nat}{xs:List Value}(hr:W.ownsRow base e s v n xs):∀g,v.ownBlock=some g->∃cur,Blk W g cur e:=λg hg=>by
 rcases hr.2 with⟨rfl,h3⟩|⟨g',cap,cur,rfl,h3,h4,h5⟩
 ·cases hg
 ·cases hg;exact⟨cur,h4⟩
theorem a6y {S:BS}{W:Wd}{e:Td}{v:Vu}{n m:Nat}(h:SL S W e v n)(hS:∀b,S b->m<=b):Own m v:=λa k c e=>by
 obtain⟨a',c',e',-,h2⟩:=h;rw[e']at e
 cases e;rcases h2 with⟨e3,-⟩|⟨b,o,c2,e3,hb,-⟩
 ·cases e3
 ·cases e3;exact hS b hb
theorem OY.known {S0 S:BS}{W0 W:Wd}{L:b0f}{T:SlL}{B:Nat}{c:Array Value}{t:Td}(h:OY S0 W0 S W L T)(hk:Blk W B c t)(hS:¬S B)(hB:W0.heap.size<=B)(av:∀p∈L,p.1≠B):OY S0 W0 S W ((B,c,t)::L) T :=
 ⟨⟨h.o.ev,λp hp=>by
   rcases List.mem_cons.1 hp with rfl|hp
   ·exact⟨hk,hS,hB⟩
   ·exact h.o.bx p hp,by
   rw[List.map_cons];exact List.nodup_cons.2 ⟨λhm=>by
    obtain⟨p,hp,e⟩:=List.mem_map.1 hm;exact av p hp e,h.o.ne⟩,h.o.sl⟩,h.bel⟩
theorem OY.sub {S0 S:BS}{W0 W:Wd}{L:b0f}{T T':SlL}(h:OY S0 W0 S W L T)(hs:∀q∈T',q∈T):OY S0 W0 S W L T':=⟨⟨h.o.ev,h.o.bx,h.o.ne,λq hq=>h.o.sl q (hs q hq)⟩,h.bel⟩
structure MapI (U:BS)(W:Wd)(ev fv wv pv:Vu)(ne nf nw:Nat)(l:List Pc):Prop where
 tw:TW U W
 e:SL U W 206 ev ne
 f:SL U W 140 fv nf
 w:SL U W 149 wv nw
 p:Lst plE W.heap.size W pv l
 frm:Frm pv l.length
 ne:ne<=1000
 nf:nf<=1000
 nw:nw<=1000
 np:l.length<=1000
theorem MapI.up {U:BS}{W W':Wd}{ev fv wv pv:Vu}{ne nf nw:Nat}{l:List Pc}(h:MapI U W ev fv wv pv ne nf nw l)(hb:Below W.heap.size W W'):MapI U W' ev fv wv pv ne nf nw l :=
 have hU:=λb hb=>h.tw.lt (b:=b) hb
 ⟨b1x h.tw hb hU,a4y hb hU h.e,a4y hb hU h.f,a4y hb hU h.w,h.p.up hb,h.frm,h.ne,h.nf,h.nw,h.np⟩
structure OP (S0:BS)(W0:Wd)(S:BS)(W:Wd)(L:b0f)(T:SlL)(ov:Vu)(l:List Pc):Prop where
 b:OY S0 W0 S W L T
 row:W.ownsRow W0.heap.size 66 7 ov l.length (l.flatMap plE.enc)
 off:∀g,ov.ownBlock=some g->¬S g
 np:∀p∈L,p.2.2≠66
section
variable {S0 S S':BS}{W0 W W':Wd}{L:b0f}{T:SlL}{B i:Nat}{c c':Array Value}{t e:Td}{ov v:Vu}{l:List Pc}{p:Nat×Array Value×TypeId}{n:Nat}
theorem OP.evo (h:OP S0 W0 S W L T ov l)(he:Ev noB S W S' W')(hb:Below W0.heap.size W W'):OP S0 W0 S' W' L T ov l:=by
 obtain⟨h1,h2⟩:=he.row h.row h.off;exact⟨h.b.evo he hb,h1,h2,h.np⟩
theorem OP.up (h:OP S0 W0 S W L T ov l)(hb:Below W.heap.size W W'):OP S0 W0 S W' L T ov l:=h.evo (Ev.of_below h.b.tw hb) (hb.mono h.b.size)
theorem OP.box (h:OP S0 W0 S W L T ov l)(c:Array Value)(t:Td)(ht:t≠66):OP S0 W0 S (W.alloc (.cells c t)) ((W.heap.size,c,t)::L) T ov l:=by
 have hb:Below W.heap.size W (W.alloc (.cells c t)):=(zR _ _).alloc (yR _) _;have h1:=h.up hb;exact⟨h.b.box c t,h1.row,h1.off,λp hp=>by
  rcases List.mem_cons.1 hp with rfl|hp
  ·exact ht
  ·exact h.np p hp⟩
theorem OP.add (h:OP S0 W0 S W L T ov l){e:Td}{v:Vu}{n:Nat}(hv:SL S W e v n):OP S0 W0 S W L ((e,v,n)::T) ov l:=⟨h.b.add hv,h.row,h.off,h.np⟩
theorem OP.tail (h:OP S0 W0 S W (p::L) T ov l):OP S0 W0 S W L T ov l:=⟨h.b.tail,h.row,h.off,λq hq=>h.np q (List.mem_cons_of_mem _ hq)⟩
theorem OP.sub {T':SlL}(h:OP S0 W0 S W L T ov l)(hs:∀q∈T',q∈T):OP S0 W0 S W L T' ov l:=⟨h.b.sub hs,h.row,h.off,h.np⟩
theorem OP.swap {q:Nat×Array Value×TypeId}(h:OP S0 W0 S W (p::q::L) T ov l):OP S0 W0 S W (q::p::L) T ov l:=⟨h.b.swap,h.row,h.off,λr hr=>h.np r (by
 rcases List.mem_cons.1 hr with rfl|hr
 ·exact List.mem_cons_of_mem _ (List.mem_cons_self ..)
 ·rcases List.mem_cons.1 hr with rfl|hr
  ·exact List.mem_cons_self ..
  ·exact List.mem_cons_of_mem _ (List.mem_cons_of_mem _ hr))⟩
theorem OP.put {v:Vu}(h:OP S0 W0 S W ((B,c,t)::L) T ov l)(hW:W'=W.setCell ⟨B,i,none⟩ v)(hc:c.setIfInBounds i v=c'):OP S0 W0 S W' ((B,c',t)::L) T ov l:=by
 subst hW;refine⟨h.b.set i v hc,a0s h.row (a0z W B i v) ?_,h.off,λp hp=> ?_⟩
 ·intro g hg
  cases hg;refine⟨_,h.b.b0,λcur e2=> ?_⟩;have:=h.np _ (List.mem_cons_self ..);simp only[Obj.cells.injEq]at e2;exact this e2.2.1
 ·rcases List.mem_cons.1 hp with rfl|hp
  ·exact h.np (B,c,t) (List.mem_cons_self ..)
  ·exact h.np p (List.mem_cons_of_mem _ hp)
theorem OP.evn (h:OP noB W0 S W L T ov l)(he:Ev noB noB W S' W'):OP noB W0 (λb=>S b\/S' b) W' L T ov l:=by
 have hb:Below W.heap.size W W':=he.low;have h1:=h.up hb;refine⟨h.b.evn he,h1.row,λg hg hs=> ?_,h.np⟩;obtain⟨cur,hk⟩:=e0r h.row g hg;rcases hs with hs|hs
 ·exact h.off g hg hs
 ·exact(he.new g hs).elim (λh=>h.elim) (λh=>by have:=hk.lt;omega)
theorem OP.append (h0:OP S0 W0 S W L T ov l){o:Oper}{a:Act}{K:Act->World->Prop}{Q:Exit->Act->World->Prop}(sO xO:Operand)(t:Td)(ho:o.op= .call { callee:= .builtin .append,args:= #[sO,xO],argTypes:= #[t,t] })
 {e:Td} {s:Nat} (ht:prog.underlying t=some (.slice e)) (he:ET e s) {sv xv:Vu} {n m:Nat} (bH:a.eval sO=sv) (hv:SL S W e sv n) (aj:Own W0.heap.size sv) (dH:a.eval xO=xv) (hx:SL S W e xv m) (hl:n+m<=1000000)
 (h:∀v' S' w',OP S0 W0 S' w' L ((e,v',n+m)::T) ov l->Own W0.heap.size v'->K (a.put o.dst v') w'):Oper.wp prog o a W K Q:=by
 obtain⟨v',S',w',hr,h2,h3,h4,h5⟩:=b0i (X:=noB) h0.b.tw (ty:=o.type) ht he hv hx hl h0.b.size aj;exact yfo
theorem OP.append_l (h0:OP S0 W0 S W L T ov l){ops:Array Oper}{rest:List Oper}{o:Oper}{a:Act}{Q:Exit->Act->World->Prop}(dI:o.guard=none)(sO xO:Operand)(t:Td)(ho:o.op= .call { callee:= .builtin .append,args:= #[sO,xO],argTypes:= #[t,t] })
 {e:Td} {s:Nat} (ht:prog.underlying t=some (.slice e)) (he:ET e s) {sv xv:Vu} {n m:Nat} (bH:a.eval sO=sv) (hv:SL S W e sv n) (aj:Own W0.heap.size sv) (dH:a.eval xO=xv) (hx:SL S W e xv m) (hl:n+m<=1000000)
 (h:∀v' S' w',OP S0 W0 S' w' L ((e,v',n+m)::T) ov l->Own W0.heap.size v'->wpList prog ops Q rest (a.put o.dst v') w'):wpList prog ops Q (o::rest) a W :=
 wpList_plain dI λ_ hK=>h0.append sO xO t ho ht he bH hv aj dH hx hl λv' S' w' h2 h3=>hK _ _ (h v' S' w' h2 h3)
theorem OP.append_n (h0:OP S0 W0 S W L T ov l){ops:Array Oper}{rest:List Oper}{o:Oper}{a:Act}{Q:Exit->Act->World->Prop}(dI:o.guard=none)(sO xO:Operand)(t:Td)(ho:o.op= .call { callee:= .builtin .append,args:= #[sO,xO],argTypes:= #[t,t] })
 {e:Td} {s:Nat} (ht:prog.underlying t=some (.slice e)) (he:ET e s) {v:Vu} {n:Nat} (bH:a.eval sO=v) (hv:SL S W e v n) (aj:Own W0.heap.size v) {H:Nat} (dH:a.eval xO= .slice (some ⟨H,0,none⟩) 1 1) (hH:W.heap.size=H) {c:Array Value} (hc:TB S W e c) (dN:c.size=s) (hl:n<=100000)
 (h:∀v' S' w',OP S0 W0 S' w' L ((e,v',n+1)::T) ov l->Own W0.heap.size v'->wpList prog ops Q rest (a.put o.dst v') w'):wpList prog ops Q (o::rest) a (W.alloc (.cells c e)):=by
 subst hH;have hA:=Ev.alloc (X:=noB) h0.b.tw hc;have h1:=h0.evo hA ((zR _ _).alloc h0.b.size _);exact yhp
end
theorem SL.way {S:BS}{W:Wd}{b off n cap:Nat}(hT:TW S W)(h:SL S W 149 (.slice (some ⟨b,off,none⟩) n cap) n){k:Nat}(hk:k<n):∃id lv m dG cs ns st wt ds,W.cell? ⟨b,off+k*8,none⟩=some (.int .i64 id)/\W.cell? ⟨b,off+k*8+1,none⟩=some lv/\W.cell? ⟨b,off+k*8+2,none⟩=some (.int .i64 dG)/\W.cell? ⟨b,off+k*8+3,none⟩=some (.string cs)/\W.cell? ⟨b,off+k*8+4,none⟩=some (.string ns)/\W.cell? ⟨b,off+k*8+5,none⟩=some (.bool st)/\W.cell? ⟨b,off+k*8+6,none⟩=some (.int .i64 wt)/\W.cell? ⟨b,off+k*8+7,none⟩=some (.int .i64 ds) /\
 fits id/\SL S W 26 lv m/\m<=100/\fits dG/\cs.size<=30/\ns.size<=30/\fits wt/\fits ds:=by
 obtain⟨u0,c0,h0⟩:=h.cell hT a5p hk 0 .int rfl;obtain⟨u1,c1,h1⟩:=h.cell hT a5p hk 1 (.sl 26) rfl;obtain⟨u2,c2,h2⟩:=h.cell hT a5p hk 2 .int rfl;obtain⟨u3,c3,h3⟩:=h.cell hT a5p hk 3 .str rfl;obtain⟨u4,c4,h4⟩:=h.cell hT a5p hk 4 .str rfl;obtain⟨u5,c5,h5⟩:=h.cell hT a5p hk 5 .bool rfl;obtain⟨u6,c6,h6⟩:=h.cell hT a5p hk 6 .int rfl;obtain⟨u7,c7,h7⟩:=h.cell hT a5p hk 7 .int rfl;obtain⟨id,rfl,f0⟩:=h0.i rfl;obtain⟨m,hm,hl⟩:=h1.l rfl;obtain⟨dG,rfl,f2⟩:=h2.i rfl;obtain⟨cs,rfl,f3⟩:=h3.s rfl;obtain⟨ns,rfl,f4⟩:=h4.s rfl;obtain⟨st,rfl⟩:=h5.b rfl;obtain⟨wt,rfl,f6⟩:=h6.i rfl;obtain⟨ds,rfl,f7⟩:=h7.i rfl;exact⟨id,u1,m,dG,cs,ns,st,wt,ds,c0,c1,c2,c3,c4,c5,c6,c7,f0,hl,hm,f2,f3,f4,f6,f7⟩
section
variable {α:Type}{E:El α}{P:Program}{st:Td}
theorem El.append_freshO (hE:E.Ok)(hI:E.In P st)(W:Wd)(base Z:Nat)(xv:Vu)(l:List α)(ty:Td)(hZ:W.ownsRow base E.t E.s (.slice (some ⟨Z,0,none⟩) 0 0) 0 []){n0:Nat}(hx:Lst E n0 W xv l)(hf:Frm xv l.length)(hl:l.length<=100000)(hb:base<=W.heap.size) :
 ∃v' W',(Builtin.append_ #[st,st] ty #[.slice (some ⟨Z,0,none⟩) 0 0,xv]).run P W= .ok v' W'/\W'.ownsRow base E.t E.s v' l.length (l.flatMap E.enc)/\Below W.heap.size W W'/\∃g cap,v'= .slice (some ⟨g,0,none⟩) l.length cap/\(g=Z\/W.heap.size<=g):=by
 obtain⟨i0,z,aT,bM,aW,bF,lZ⟩:=hI.info;by_cases av:l=[]
 ·subst av
  have hs:Src P i0.size st xv 0 [] W:=by
   exact yeu
  have hr:=run_append_room_src (P:=P) W st st ty E.t i0 hI.under aT Z 0 0 0 xv 0 [] hs oM vM vM;exact⟨_,W,hr,hZ,zR _ _,Z,0,rfl,.inl rfl⟩
 ·have dR:0<l.length:=List.length_pos_iff.2 av
  obtain⟨b,off,cap,rfl,bY,lT,-⟩:=hx.some_ dR;have cC:∀j u,(l.flatMap E.enc)[j]? =some u->W.cell? ((⟨b,off,none⟩:Addr).add j)=some u:=λj u hj=>by
   exact yji
  obtain⟨v',W',hr,aj,-,-,-⟩:=run_append_own_at (P:=P) W base st ty E.t i0 _ E.s i0.bytes hI.under aT bM aW rfl lZ hE.pos _ 0 [] hZ ⟨b,off,none⟩ l.length cap (l.flatMap E.enc) (a0w hE l) cC (a4q hE l) oK (Nat.le_trans (Nat.mul_le_mul (show 0+l.length<=100000 by omega) bF) jM) hb;have hs:Src P i0.size st (.slice (some ⟨b,off,none⟩) l.length cap) l.length (l.flatMap E.enc) W:=Src.ofSlice W hI.under _ _ cap _ (by rw[aW];exact a0w hE l) cC (a4q hE l);have hold:(Builtin.firstCells i0.size 0 (.slice (some ⟨Z,0,none⟩) 0 0)).run P W.drew= .ok (([]:List Value).toArray) W.drew:=run_firstCells_some W.drew i0.size 0 ⟨Z,0,none⟩ 0 0 [] vM vM;have bY:Builtin.nextslicecap (0+l.length) 0*i0.bytes<=281474976710656:=growslice_fits oM (Nat.le_trans (Nat.mul_le_mul (show 0+l.length<=100000 by omega) bF) jM);have bB:=run_append_grow_src (P:=P) W st st ty E.t i0 _ hI.under aT bM (some ⟨Z,0,none⟩) 0 0 [] hold _ l.length _ hs oM oM bY;rw[bB]at hr;injection hr with h1 h2;subst h1 h2;have bW:=aj;rw[Nat.zero_add,List.nil_append]at bW;exact⟨_,_,bB,by simpa using aj,(zR _ W).drew.alloc (yR _) _,W.heap.size,grownCap W (0+l.length) 0 E.t,by rw[Nat.zero_add],.inr (yR _)⟩
theorem El.step_freshO (hE:E.Ok)(hI:E.In P st){o:Oper}{a:Act}{w:Wd}{K:Act->World->Prop}{Q:Exit->Act->World->Prop}(s x:Operand)
 (ho:o.op= .call { callee:= .builtin .append,args:= #[s,x],argTypes:= #[st,st] })
 (base Z:Nat) (hs:a.eval s= .slice (some ⟨Z,0,none⟩) 0 0) (hZ:w.ownsRow base E.t E.s (.slice (some ⟨Z,0,none⟩) 0 0) 0 []) (xv:Vu) (l:List α) (dH:a.eval x=xv) {n0:Nat} (hx:Lst E n0 w xv l) (hf:Frm xv l.length) (hl:l.length<=100000) (hb:base<=w.heap.size)
 (h:∀v' w',w'.ownsRow base E.t E.s v' l.length (l.flatMap E.enc)->Below w.heap.size w w'->(∃g cap,v'= .slice (some ⟨g,0,none⟩) l.length cap/\(g=Z\/w.heap.size<=g))->K (a.put o.dst v') w') :
 Oper.wp P o a w K Q:=by
 obtain⟨v',w',hr,h2,h3,h4⟩:=El.append_freshO hE hI w base Z xv l o.type hZ hx hf hl hb;unfold Oper.wp execOp;simp only[ho,resolve,invoke,builtin,Sem.run_bind,Sem.run_pure,Result.andThen_ok,List.map_toArray,List.map_cons,List.map_nil,hs,dH,hr];exact h v' w' h2 h3 h4
end
structure MapR (n0:Nat)(S:BS)(W:Wd)(ev fv wv pv:Vu)(ne nf nw:Nat)(l:List Pc):Prop where
 e:SL S W 206 ev ne
 f:SL S W 140 fv nf
 w:SL S W 149 wv nw
 row:W.ownsRow n0 66 7 pv l.length (l.flatMap plE.enc)
 off:∀g,pv.ownBlock=some g->¬S g
def FCp (n0 BM BR nf:Nat)(ev fv wv pv:Vu)(l:List Pc)(i:Nat)(v:Vu)(g:BS)(w:Wd):Prop :=
 match i with
 |0=>SL g w 140 v 0/\Own n0 v
 |1=>v= .pointer (some ⟨BM,1,none⟩)
 |2=>v=fv
 |3=>SL g w 140 v nf/\Own n0 v
 |4=>∃Z,v= .slice (some ⟨Z,0,none⟩) 0 0/\n0<=Z/\Blk w Z #[] 66/\¬g Z
 |5=>v= .pointer (some ⟨BM,3,none⟩)
 |6=>v=pv
 |7=>w.ownsRow n0 66 7 v l.length (l.flatMap plE.enc)/\∀b,v.ownBlock=some b->¬g b
 |8=>∃a b,v= .agg #[.slice none 0 0,a,.slice none 0 0,b]/\(SL g w 140 a nf/\Own n0 a)/\w.ownsRow n0 66 7 b l.length (l.flatMap plE.enc)/\∀c,b.ownBlock=some c->¬g c
 |9=>∃L,v= .pointer (some ⟨L,0,none⟩)/\n0<=L/\BR<L/\Blk w L #[.slice none 0 0,.slice none 0 0,.slice none 0 0,.slice none 0 0] 37/\¬g L
 |_=>False
theorem FCp.kept {n0 BM BR nf:Nat}{ev fv wv pv:Vu}{l:List Pc}{i:Nat}{v:Vu}{g g':BS}{w w':Wd}(h:FCp n0 BM BR nf ev fv wv pv l i v g w)(hg:Ev noB g w g' w'):FCp n0 BM BR nf ev fv wv pv l i v g' w':=by
 unfold FCp at *;split at h
 all_goals first|exact h|(exact⟨hg.sl h.1,h.2⟩)|(obtain⟨Z,h1,h2,h3,h4⟩:=h;exact⟨Z,h1,h2,hg.blk h3 h4 (λh=>h),hg.not h3.lt h4⟩)|(exact hg.row h.1 h.2)|(obtain⟨a,b,h1,h2,h3⟩:=h;exact⟨a,b,h1,⟨hg.sl h2.1,h2.2⟩,hg.row h3.1 h3.2⟩)|(obtain⟨L,h1,h2,h3,h4,h5⟩:=h;exact⟨L,h1,h2,h3,hg.blk h4 h5 (λh=>h),hg.not h4.lt h5⟩)
theorem c7g (U:BS)(w:Wd)(ev fv wv pv:Vu)(ne nf nw:Nat)(l:List Pc)(hI:MapI U w ev fv wv pv ne nf nw l) :
 Calls prog 76 #[.agg #[ev,fv,wv,pv]] w λe w'=>∃S' jV jW pJ mJ,e= .returned (.agg #[jV,jW,pJ,mJ])/\MapR w.heap.size S' w' jV jW pJ mJ ne nf nw l/\Ev noB noB w S' w':=by
 have ir:=hI.nf;have av:=hI.ne;have xU:=hI.nw;have tU:=hI.np;have h0:=(OY.init (TW.none w)).box #[ev,fv,wv,pv] 37;go_enter func76,ntmps76;go_upto_region 1 with fail;refine a0m (λW1 aH=> ?_);have h1:=h0.box #[.slice none 0 0,.slice none 0 0,.slice none 0 0,.slice none 0 0] 37;rw[show(w.alloc (.cells #[ev,fv,wv,pv] 37)).heap.size=w.heap.size+1 from by simp,<-aH]at h1;obtain⟨BR,sx⟩:=zE (w.heap.size+1);obtain⟨BM,pK⟩:=zE w.heap.size;rw[sx,pK]at h1;rw[sx,pK];have Up:BM<BR:=oM;replace h1:=h1.swap;clear h0 aH;refine Go.wp_region_reln 10 zM zM (λ_ g W=>OY noB w g W [(BM,#[ev,fv,wv,pv],37),(BR,#[.slice none 0 0,.slice none 0 0,.slice none 0 0,.slice none 0 0],37)] []) (λg W g' W'=>Ev noB g W g' W') (FCp w.heap.size BM BR nf ev fv wv pv l) (λ_ _ _ _ _ _ h g=>h.kept g) noB h1.drew ?_ ?_
 ·intro i o hi ho c bb g W hc hM hA hD K hK
  match i,hi,ho with
  |0,_,ho =>
   cases ho;have hE:=Ev.alloc (X:=noB) hM.tw (c5q (S:=g) (W:=W) (e:=140));go_simp;exact hK (.slice (some ⟨W.heap.size,0,none⟩) 0 0) _ _ ⟨SL.blk (.inr rfl) (Blk.new _ _ _) vM,c5v hM.size _⟩ hE (hM.evo hE ((zR _ _).alloc hM.size _))
  |1,_,ho =>
   cases ho;have f1:=a0a (v:= .pointer (some ⟨BM,0,none⟩)) (hA.at_ (k:=1) zM);go_simp;exact hK (.pointer (some ⟨BM,1,none⟩)) g W rfl (Ev.refl hM.tw) hM
  |2,_,ho =>
   cases ho;have f9:=a0a (v:= .pointer (some ⟨BM,1,none⟩)) (a0f hD 1 9 zM rfl rfl);have z0:W.cell? ⟨BM,1,none⟩=some (fv):=hM.b0.cell 1;go_simp;exact hK (fv) g W rfl (Ev.refl hM.tw) hM
  |3,_,ho =>
   cases ho;have f8:=a0f hD 0 8 zM rfl rfl;have f10:=a0a (v:=fv) (a0f hD 2 10 zM rfl rfl);exact hM.append_f (hM.old hI.tw) _ _ 33 rfl underlying33 a1v c0a rfl f8.1 f8.2 (b3m f10) (hM.oldS hI.tw hI.f) oM (λv9 S9 w9 h1 h2 h3=>hK v9 S9 w9 ⟨by have:=h1.s0;rwa [Nat.zero_add]at this,h2⟩ h3 h1.tailT)
  |4,_,ho =>
   cases ho;go_simp;have hb:Below W.heap.size W (W.alloc (.cells #[] 66)):=(zR _ _).alloc (yR _) _;exact hK (.slice (some ⟨W.heap.size,0,none⟩) 0 0) g _ ⟨_,rfl,hM.size,Blk.new _ _ _,λhs=>Nat.lt_irrefl _ (hM.tw.lt hs)⟩ (Ev.of_below hM.tw hb) (hM.up hb)
  |5,_,ho =>
   cases ho;have f1:=a0a (v:= .pointer (some ⟨BM,0,none⟩)) (hA.at_ (k:=1) zM);go_simp;exact hK (.pointer (some ⟨BM,3,none⟩)) g W rfl (Ev.refl hM.tw) hM
  |6,_,ho =>
   cases ho;have f13:=a0a (v:= .pointer (some ⟨BM,3,none⟩)) (a0f hD 5 13 zM rfl rfl);have z0:W.cell? ⟨BM,3,none⟩=some (pv):=hM.b0.cell 3;go_simp;exact hK (pv) g W rfl (Ev.refl hM.tw) hM
  |7,_,ho =>
   cases ho;have f12:=a0f hD 4 12 zM rfl rfl;have f14:=a0a (v:=pv) (a0f hD 6 14 zM rfl rfl);obtain⟨Z,h1,h2,h3,h4⟩:=f12;have Dp:Lst plE w.heap.size W pv l:=hI.p.below hM.bel;refine El.step_freshO a4f d7c _ _ qM w.heap.size Z h1 (a6u h3 h2) pv l (b3m f14) Dp hI.frm oM hM.size ?_;rintro v9 w9 aU br⟨gu,cap,rfl,Fs⟩;have Qf:¬g gu:=λhs=>Fs.elim (λe=>h4 (e▸hs)) (λh=>Nat.not_lt.2 h (hM.tw.lt hs))
   exact hK _ g w9 ⟨aU,λb hb=>by cases hb;exact Qf⟩ (Ev.of_below hM.tw br) (hM.up br)
  |8,_,ho =>
   cases ho;have f11:=a0f hD 3 11 zM rfl rfl;have f15:=a0f hD 7 15 zM rfl rfl;obtain⟨fa,Iu⟩:=zE (bb.eval (.tmp 11));obtain⟨pa,Iv⟩:=zE (bb.eval (.tmp 15));rw[Iu]at f11;rw[Iv]at f15;have h11:=f11;have h15:=f15;obtain⟨a1,c1,rfl,-⟩:=h11.1.form;obtain⟨a2,c2,rfl,-⟩:=(a0d a4f h15.1 oM).form;have f11:=a0a Iu;have f15:=a0a Iv;go_simp;exact hK _ g W ⟨_,_,rfl,h11,h15⟩ (Ev.refl hM.tw) hM
  |9,_,ho =>
   cases ho;go_simp;have hb:Below W.heap.size W (W.alloc (.cells #[.slice none 0 0,.slice none 0 0,.slice none 0 0,.slice none 0 0] 37)):=(zR _ _).alloc (yR _) _;exact hK (.pointer (some ⟨W.heap.size,0,none⟩)) g _ ⟨_,rfl,hM.size,hM.b1.lt,Blk.new _ _ _,λhs=>Nat.lt_irrefl _ (hM.tw.lt hs)⟩ (Ev.of_below hM.tw hb) (hM.up hb)
  |i+10,hi,_=>exact absurd hi oM
 ·intro bb g W hM hA ah
  obtain⟨fa,pa,h16,⟨wT,og⟩,cK,bB⟩:=(show ∃a b,bb.eval (.tmp 16)= .agg #[.slice none 0 0,a,.slice none 0 0,b]/\(SL g W 140 a nf/\Own w.heap.size a)/\W.ownsRow w.heap.size 66 7 b l.length (l.flatMap plE.enc)/\∀c,b.ownBlock=some c->¬g c from ah 8 oM _ _ rfl rfl);obtain⟨BL,h3,AD,vn,xV,Mu⟩:=(show ∃L,bb.eval (.tmp 3)= .pointer (some ⟨L,0,none⟩)/\w.heap.size<=L/\BR<L/\Blk W L #[.slice none 0 0,.slice none 0 0,.slice none 0 0,.slice none 0 0] 37/\¬g L from ah 9 oM _ _ rfl rfl);have aC:=hA.frame (rT 3 (rF 1 (rT 4 (rF 9 (rT 45 ([])))))) _ rfl zM;clear ah hA;obtain⟨f,hf⟩:=zDt bb;have g3:f 3= .pointer (some ⟨BL,0,none⟩):=by rw[<-hf,<-h3];rfl
  have g16:f 16= .agg #[.slice none 0 0,fa,.slice none 0 0,pa]:=by rw[<-hf,<-h16];rfl
  rw[hf]at aC;clear hf h3 h16;subst aC;simp only[rT,rF,a2d,g3,g16,Nat.reduceAdd];clear g3 g16;simp only[zU];clear h1;obtain⟨l0,l1,l2,l3⟩:=a2c xV;have z0:=xV.frozen 0;have z1:=xV.frozen 1;have z2:=xV.frozen 2;have z3:=xV.frozen 3;obtain⟨xW,xX,rfl,Mv⟩:=wT.form;obtain⟨xY,xZ,rfl,ie⟩:=(a0d a4f cK oM).form;have jq:OP noB w g W [(BL,#[.slice none 0 0,.slice none 0 0,.slice none 0 0,.slice none 0 0],37),(BM,#[ev,fv,wv,pv],37),(BR,#[.slice none 0 0,.slice none 0 0,.slice none 0 0,.slice none 0 0],37)] [(140,.slice xW nf xX,nf)] (.slice xY l.length xZ) l :=
   ⟨(hM.known xV Mu AD uM).add wT,cK,bB,by simp⟩
  clear hM cK bB xV Mu wT;go_upto_region 2 with fail;refine a0m (λW2 bV=> ?_);have tP:=(((jq.put rfl rfl).put rfl rfl).put rfl rfl).put bV rfl;clear bV jq l0 l1 l2 l3 z0 z1 z2 z3;simp at tP;go_wp2_with fail;go_loopw [4] (λkk wr=>∃(k:Nat) (S:BS) (e1:Vu),k<=ne/\kk= .int .i64 (k:Nat)/\OP noB w S wr [(BL,#[e1,.slice xW nf xX,.slice none 0 0,.slice xY l.length xZ],37),(BM,#[ev,fv,wv,pv],37),(BR,#[.slice none 0 0,.slice none 0 0,.slice none 0 0,.slice none 0 0],37)] [(206,e1,k),(140,.slice xW nf xX,nf)] (.slice xY l.length xZ) l/\Own w.heap.size e1) (λkk _=>ne-(intOf kk).toNat)
  case atStart=>exact⟨0,g,.slice none 0 0,Nat.zero_le _,rfl,tP.add (SL.nil _ _ _),b7f _⟩
  case round =>
   obtain⟨k,S,e1,hk,rfl,hP,aj⟩:=hrel;have mK:=hI.up hP.b.bel;obtain⟨m0,m1,m2,m3⟩:=a2c hP.b.b1;by_cases ag:k<ne
   ·have aA:(k:Int)<(ne:Int):=oM
    obtain⟨eb,eo,ec,rfl,xJ,-⟩:=mK.e.some_ oM;obtain⟨id,ll,rr,lv,m,c0,c1,c2,c3,f0,f2,f3,aJ,hm⟩:=SL.edge mK.tw mK.e ag;obtain⟨la,lc,rfl,eU⟩:=aJ.form;have tV:IntKind.i64.wrap ((k:Int)+1)=((k+1:Nat):Int):=by rw[a0j oM oM];omega
    go_upto_region 6 with fail;refine a0m (λWE jl=> ?_);have jX:=hP.box #[.int .i64 id,.slice la m lc,.int .i64 ll,.int .i64 rr] 206 jM;obtain⟨BE,mG⟩:=zE wr.heap.size;have qQ:Below wr.heap.size wr WE:=by rw[jl];exact(zR _ _).alloc (yR _) _
    rw[<-jl,mG]at jX;rw[mG];have Dq:=mK.up qQ;have kN:=a4y qQ (λb hb=>mK.tw.lt hb) aJ;clear hP jl mG c0 c1 c2 c3 m0 m1 m2 m3 mK aJ qQ;have kE:=jX.b.b0;have k1:=kE.cell 1;go_upto_region 7 with(first
     |(go_at_call 136;(with_reducible refine(b5u U WE Dq.tw _ m kN oM).mono ?_);rintro e WL⟨S3,v3,rfl,sD,qR⟩;obtain⟨a3,c3,rfl,nD⟩:=sD.form;have eW:=jX.evn qR;have q1:=eW.b.b0.cell 1;have y1:=eW.b.b0.frozen 1))
    refine a0m (λWM vE=> ?_);have gp:=(eW.add (b3n sD)).put vE rfl;simp at gp;clear jX eW vE q1 y1 qR sD kN kE k1 Dq;obtain⟨AE,je,rfl,x7⟩:=gp.b.s1.form;obtain⟨q0,q1,q2,q3⟩:=ed4 gp.b.b0;have q4:WM.cell? ⟨BL,0,none⟩=some _:=gp.b.b1.cell 0;obtain⟨HS,x8⟩:=zE WM.heap.size;go_wp2_with (first
     |(at_builtin;refine gp.append_n qM _ _ 32 qM underlying32 a2g qM gp.b.s1 aj qM x8 (b3i f0 f2 f3 gp.b.s0 hm) rfl oM ?_;intro e9 S9 W9 bE cM;obtain⟨Iw,Ix,rfl,Iy⟩:=bE.b.s0.form;have y4:=bE.b.b1.frozen 0;have q5:W9.cell? ⟨BL,0,none⟩=some _:=bE.b.b1.cell 0))
    refine⟨⟨k+1,S9,.slice Iw (k+1) Ix,ag,rfl,(bE.tail.put rfl rfl).sub vM,cM⟩,?_⟩;exact yhh
   ·have aY:((k:Int)<(ne:Int))=False:=by simp;omega
    obtain rfl:k=ne:=oM;obtain⟨ea,ec,rfl,xJ⟩:=hI.e.form;obtain⟨fb,Qg,rfl,-⟩:=hI.f.form;clear mK tP AD vn;go_wp2_with fail;go_loopw [6] (λkk wr=>∃(j:Nat) (S:BS) (w1:Vu),j<=nw/\kk= .int .i64 (j:Nat)/\OP noB w S wr [(BL,#[e1,.slice xW nf xX,w1,.slice xY l.length xZ],37),(BM,#[.slice ea k ec,.slice fb nf Qg,wv,pv],37),(BR,#[.slice none 0 0,.slice none 0 0,.slice none 0 0,.slice none 0 0],37)] [(149,w1,j),(206,e1,k),(140,.slice xW nf xX,nf)] (.slice xY l.length xZ) l/\Own w.heap.size w1) (λkk _=>nw-(intOf kk).toNat)
    case atStart=>exact⟨0,S,.slice none 0 0,Nat.zero_le _,rfl,hP.add (SL.nil _ _ _),b7f _⟩
    case round =>
     clear hP m0 m1 m2 m3;obtain⟨j,S,w1,hj,rfl,hP,aj⟩:=hrel;have mK:=hI.up hP.b.bel;obtain⟨m0,m1,m2,m3⟩:=a2c hP.b.b1;by_cases ag:j<nw
     ·have aA:(j:Int)<(nw:Int):=oM
      obtain⟨wb,wo,wc,rfl,pr,-⟩:=mK.w.some_ oM;obtain⟨id,lv,m,dG,cs,ns,st,wt,ds,c0,c1,c2,c3,c4,c5,c6,c7,f0,aJ,hm,f2,f3,f4,f6,f7⟩:=SL.way mK.tw mK.w ag;obtain⟨la,lc,rfl,eU⟩:=aJ.form;have tV:IntKind.i64.wrap ((j:Int)+1)=((j+1:Nat):Int):=by rw[a0j oM oM];omega
      go_upto_region 12 with fail;refine a0m (λWE jl=> ?_);have jX:=hP.box (c5u id (.slice la m lc) dG cs ns st wt ds) 149 jM;obtain⟨BE,mG⟩:=zE wr.heap.size;have qQ:Below wr.heap.size wr WE:=by rw[jl];exact(zR _ _).alloc (yR _) _
      rw[<-jl,mG]at jX;rw[mG];have Dq:=mK.up qQ;have kN:=a4y qQ (λb hb=>mK.tw.lt hb) aJ;clear hP jl mG c0 c1 c2 c3 c4 c5 c6 c7 m0 m1 m2 m3 mK aJ qQ;have kE:=jX.b.b0;have k1:WE.cell? ⟨BE,1,none⟩=some (.slice la m lc):=kE.cell 1;go_upto_region 13 with(first
       |(go_at_call 136;(with_reducible refine(b5u U WE Dq.tw _ m kN oM).mono ?_);rintro e WL⟨S3,v3,rfl,sD,qR⟩;obtain⟨a3,c3,rfl,nD⟩:=sD.form;have eW:=jX.evn qR;have q1:=eW.b.b0.cell 1;have y1:=eW.b.b0.frozen 1))
      refine a0m (λWM vE=> ?_);have gp:OP _ _ _ _ ((BE,c5u id (.slice a3 m c3) dG cs ns st wt ds,_)::_) _ _ _:=(eW.add (b3n sD)).put vE rfl;clear jX eW vE q1 y1 qR sD kN kE k1 Dq;obtain⟨gh,Iz,rfl,IA⟩:=gp.b.s1.form;obtain⟨q0,q1,q2,q3,q4,q5,q6,q7⟩:=a6x gp.b.b0;have q8:WM.cell? ⟨BL,2,none⟩=some _:=gp.b.b1.cell 2;obtain⟨HS,x8⟩:=zE WM.heap.size;go_wp2_with (first
       |(at_builtin;refine gp.append_n qM _ _ 34 qM underlying34 a5p qM gp.b.s1 aj qM x8 (d0p f0 f2 f3 f4 f6 f7 gp.b.s0 hm) rfl oM ?_;intro e9 S9 W9 bE cM;obtain⟨Iw,Ix,rfl,Iy⟩:=bE.b.s0.form;have y4:=bE.b.b1.frozen 2;have q5:W9.cell? ⟨BL,2,none⟩=some _:=bE.b.b1.cell 2))
      refine⟨⟨j+1,S9,.slice Iw (j+1) Ix,ag,rfl,(bE.tail.put rfl rfl).sub vM,cM⟩,?_⟩;exact yhh
     ·have aY:((j:Int)<(nw:Int))=False:=by simp;omega
      obtain rfl:j=nw:=oM;obtain⟨wa,Uq,rfl,-⟩:=hI.w.form;obtain⟨AE,je,rfl,x7⟩:=hP.b.s1.form;obtain⟨gh,Iz,rfl,IA⟩:=hP.b.s0.form;obtain⟨b0,b1,b2,b3⟩:=a2c hP.b.b0;obtain⟨r0,r1,r2,r3⟩:=a2c hP.b.b2;have z0:=hP.b.b2.frozen 0;have z1:=hP.b.b2.frozen 1;have z2:=hP.b.b2.frozen 2;have z3:=hP.b.b2.frozen 3;have hX:=((((hP.tail.swap.put (i:=0) (v:= .slice AE k je) rfl rfl).put (i:=1) (v:= .slice xW nf xX) rfl rfl).put (i:=2) (v:= .slice gh j Iz) rfl rfl).put (i:=3) (v:= .slice xY l.length xZ) (c':= #[.slice AE k je,.slice xW nf xX,.slice gh j Iz,.slice xY l.length xZ]) rfl rfl);clear mK m0 m1 m3 hP aj hI;go_wp2_with fail;exact bodyPost_ret (results_cell_row qM _ _ BR 37 _ (0,0) _ qM hX.b.b0 underlying37 qM zM) rfl ⟨S,_,_,_,_,rfl,⟨hX.b.s1,hX.b.s2,hX.b.s0,hX.row,hX.off⟩,hX.b.o.ev⟩
theorem b3o {α:Type}{E:El α}(hE:E.Ok):∀(l:List α) (p i:Nat) (hp:p<l.length) (hi:i<E.s) (y:α) (u:Vu),E.enc y=(E.enc l[p]).set i u->(l.flatMap E.enc).set (p*E.s+i) u=(l.set p y).flatMap E.enc
 |x::l,0,i,hp,hi,y,u,h=>by
  have hl:(E.enc x).length=E.s:=hE.len x;rw[List.set_cons_zero,List.flatMap_cons,List.flatMap_cons,Nat.zero_mul,Nat.zero_add,List.set_append_left _ _ oM,h];rfl
 |x::l,p+1,i,hp,hi,y,u,h=>by
  have hl:(E.enc x).length=E.s:=hE.len x;have rW:p<l.length:=by simpa using hp
  rw[List.set_cons_succ,List.flatMap_cons,List.flatMap_cons,List.set_append_right _ _ (by rw[hl,Nat.add_mul];omega),hl,show(p+1)*E.s+i-E.s=p*E.s+i from by rw[Nat.add_mul];omega];rw[b3o hE l p i rW hi y u h]
theorem El.setRow {α:Type}{E:El α}(hE:E.Ok){W:Wd}{base g cap:Nat}{l:List α}(hr:W.ownsRow base E.t E.s (.slice (some ⟨g,0,none⟩) l.length cap) l.length (l.flatMap E.enc)){p i:Nat}(hp:p<l.length)(hi:i<E.s){y:α}{u:Vu}(h:E.enc y=(E.enc l[p]).set i u) :
 (W.setCell ⟨g,p*E.s+i,none⟩ u).ownsRow base E.t E.s (.slice (some ⟨g,0,none⟩) l.length cap) (l.set p y).length ((l.set p y).flatMap E.enc):=by
 obtain⟨h1,⟨h2,-⟩|⟨g',aI,cur,h2,h3,h4,h5,h6,h7,h8⟩⟩:=hr
 ·cases h2
 ·cases h2
  have hk:Blk W g cur E.t:=h4;have h9:=b3o hE l p i hp hi y u h;have ag:p*E.s+i<l.length*E.s:=by
   have:=Nat.mul_le_mul_right E.s (show p+1<=l.length by omega);rw[Nat.add_mul]at this;omega
  rw[List.length_set];refine⟨by rw[<-h9,List.length_set];exact h1,.inr ⟨g,cap,cur.setIfInBounds (p*E.s+i) u,rfl,h3,hk.set _ _,h5,h6,by rw[Array.size_setIfInBounds];exact h7,?_⟩⟩;rw[<-h9,<-h8];simp only[Array.toList_setIfInBounds];rw[List.take_set]
section
variable {α:Type}{E:El α}{P:Program}{st:Td}{w:Wd}{l:List α}
end
section
variable {S0 S S':BS}{W0 W W':Wd}{L:b0f}{T:SlL}{ov v:Vu}{l:List Pc}
theorem OY.other {o:Option Nat}(h:OY S0 W0 S W L T)(hg:W.grownBy W' o)(ho:∀g,o=some g->¬S g/\W0.heap.size<=g/\∀p∈L,p.1≠g):OY S0 W0 S W' L T:=by
 have aM:∀b,S b->W'.heap[b]? =W.heap[b]? :=λb hb=>hg.block b (h.tw.lt hb) (λe=>(ho b e.symm).1 hb)
 have bC:=h.o.ev.own hg (λr e=>⟨(ho r e).1,(ho r e).2.1⟩);have bU:Below W0.heap.size W W':=Below.of_grown hg h.size (λq e=>(ho q e).2.1);have bO:Shp S W W':=λb c e hb hc=>⟨c,(aM b hb).trans hc,rfl⟩
 refine⟨⟨bC,λp hp=> ?_,h.o.ne,λq hq=>(h.o.sl q hq).mono (λ_ h=>h) bO⟩,h.bel.trans bU⟩;obtain⟨k1,k2,k3⟩:=h.o.bx p hp;exact⟨k1.kept hg (λe=>(ho p.1 e).2.2 p hp rfl),k2,k3⟩
theorem OP.offL (h:OP S0 W0 S W L T ov l):∀g,ov.ownBlock=some g->¬S g/\W0.heap.size<=g/\∀p∈L,p.1≠g:=λg hg=>by
 have h1:=(h.row.lt g hg).1;refine⟨h.off g hg,h1,λp hp e=> ?_⟩;rcases h.row.2 with⟨rfl,h3⟩|⟨g',cap,cur,rfl,h3,h4,h5⟩
 ·cases hg
 ·cases hg
  have k1:=(h.b.o.bx p hp).1;unfold Blk at k1;rw[e,h4]at k1;simp only[Option.some.injEq,Obj.cells.injEq]at k1;exact h.np p hp k1.2.1.symm
theorem OP.more {l':List Pc}(h:OP S0 W0 S W L T ov l)(hr:W'.ownsRow W0.heap.size 66 7 v l'.length (l'.flatMap plE.enc))(hg:W.grownBy W' ov.ownBlock)(hn:∀g,v.ownBlock=some g->ov.ownBlock=some g\/W.heap.size<=g):OP S0 W0 S W' L T v l':=by
 refine⟨h.b.other hg h.offL,hr,λg e hs=> ?_,h.np⟩;rcases hn g e with h1|h1
 ·exact h.off g h1 hs
 ·have:=h.b.tw.lt hs
  omega
theorem OP.setRow {g cap:Nat}(h:OP S0 W0 S W L T (.slice (some ⟨g,0,none⟩) l.length cap) l){p i:Nat}(hp:p<l.length)(hi:i<7){y:Pc}{u:Vu}(he:plE.enc y=(plE.enc l[p]).set i u) :
 OP S0 W0 S (W.setCell ⟨g,p*7+i,none⟩ u) L T (.slice (some ⟨g,0,none⟩) l.length cap) (l.set p y):=by
 have:=El.setRow a4f h.row hp hi he;refine h.more (by rw[List.length_set]at this ⊢;exact this) (a0z W g _ u) (λg' e=> .inl e)
end
end
section
open Go.RowKit Go.Shelf
theorem a3d (c:Int)(b:Bool)(hb:(decide (48<=c)&&decide (c<=57))=b)(w:Wd):Calls prog 167 #[.int .u8 c] w λe w'=>e= .returned (.bool b)/\w=w':=by
 by_cases h0:48<=c
 ·by_cases h1:c<=57
  ·have:b=true:=by rw[<-hb];simp[h0,h1]
   exact yiy
  ·have:b=false:=by rw[<-hb];simp[h1]
   exact yiy
 ·have:b=false:=by rw[<-hb];simp[h0]
  exact yiy
theorem a3m (w:Wd):Calls prog 168 #[] w λe w'=>e= .returned (.slice (some ⟨w.heap.size,0,none⟩) 26 26)/\w'=w.alloc (.cells b8l 3):=by
 go_enter func168,ntmps168;exact ybd
theorem a8f (w:Wd):Calls prog 147 #[] w λe w'=>e= .returned (.slice (some ⟨w.heap.size,0,none⟩) 11 11)/\w'=w.alloc (.cells a2w 9):=by
 go_enter func147,ntmps147;exact ybd
theorem c0d (s:Bw)(hd:d7y s)(hl:s.size<=1000)(w:Wd):Zc prog 144 #[.string s] w (.bool true):=by
 go_enter func144,ntmps144;go_wp2_with fail;go_loop [3] (λk=>∃n:Nat,n<=s.size/\k= .int .i64 n) (λk=>s.size-(intOf k).toNat)
 case atStart=>exact⟨0,Nat.zero_le _,rfl⟩
 case round =>
  obtain⟨n,hn,rfl⟩:=hrel;by_cases ag:n<s.size
  ·obtain⟨h0,h1⟩:=hd n ag
   obtain⟨c,hc⟩:=zE ((s[n]'ag).toNat);rw[hc]at h0 h1;have k0:¬(c:Int)<32:=oM;have k1:¬(126:Int)<c:=oM;have k2:¬(c:Int)=34:=oM;have aA:(n:Int)<(s.size:Int):=oM;go_wp2_with (first|(refine a0k qM 9 _ _ qM s .i64 (n:Nat) qM qM underlying9 c oM oM (by rw[<-hc];rfl) ?_)|fail);go_round
   case rel=>exact⟨n+1,oM,by go_num⟩
   case measure=>simp[intOf];omega
  ·exact yeo
theorem d8s (t:Bw)(h0:0<t.size)(hc:(t[0]'h0).toNat<=57)(x:Bw)(hx:x∈wordsL):¬t.extract 0 x.size=x:=by
 intro h;have hz:0<x.size/\∀hh:0<x.size,97<=(x[0]'hh).toNat:=by
  simp only[wordsL,List.mem_cons,List.not_mem_nil,or_false]at hx;rcases hx with rfl|rfl|rfl|rfl|rfl|rfl|rfl|rfl|rfl|rfl|rfl <;> exact⟨jM,jM⟩
 have h2:=hz.2 hz.1;have h3:(x[0]'hz.1)=t[0]'h0:=by
  have h4:∀(y:Bw) (hy:y=x) (hh:0<y.size),(y[0]'hh)=x[0]'hz.1:=by intro y hy hh;subst hy;rfl
  have h5:=h4 _ h (by rw[h];exact hz.1);rw[<-h5,ByteArray.getElem_extract]
 rw[h3]at h2;omega
theorem d5a {a b:Bw}(h:¬a=b):(a.toList==b.toList)=false:=by
 rw[beq_eq_false_iff_ne,ByteArray.toList_eq,ByteArray.toList_eq];intro e;exact h (ByteArray.ext (Array.toList_inj.1 e))
theorem c5w (n:Nat)(h:n<11):wordsL[n]!∈wordsL/\(wordsL[n]!).size<=4:=by
 match n,h with
 |0,_=>exact yfm
 |1,_=>exact yfm
 |2,_=>exact yfm
 |3,_=>exact yfm
 |4,_=>exact yfm
 |5,_=>exact yfm
 |6,_=>exact yfm
 |7,_=>exact yfm
 |8,_=>exact yfm
 |9,_=>exact yfm
 |10,_=>exact yfm
theorem b5v (w:Wd)(j:Nat)(hj:j<11):(w.alloc (.cells a2w 9)).cell? ⟨w.heap.size,j,none⟩=some (Value.string wordsL[j]!):=by
 refine(a3h (heap_alloc_last w _) j).trans ?_;match j,hj with
 |0,_=>rfl
 |1,_=>rfl
 |2,_=>rfl
 |3,_=>rfl
 |4,_=>rfl
 |5,_=>rfl
 |6,_=>rfl
 |7,_=>rfl
 |8,_=>rfl
 |9,_=>rfl
 |10,_=>rfl
theorem b1f (t:Bw)(h0:0<t.size)(hc:(t[0]'h0).toNat<=57)(hl:t.size<=1000)(w:Wd):Zc prog 145 #[.string t] w (.int .i64 (-1)):=by
 have aK:=d8s t h0 hc;clear hc;go_enter func145,ntmps145;go_wp2_with (first|(go_at_call 147;refine(a8f _).mono ?_;rintro e w'⟨rfl,rfl⟩)|fail);have ao:=b5v w;have hb:Below w.heap.size w (w.alloc (.cells a2w 9)):=zC;obtain⟨W,hW⟩:=zE (w.alloc (.cells a2w 9));rw[hW]at ao hb ⊢;clear hW;obtain⟨B,hB⟩:=zE w.heap.size;rw[hB]at ao ⊢;replace hB:=Lib.hid hB;go_loopw [4] (λk W=>∃n:Nat,n<=11/\k= .int .i64 n/\(∀j,j<11->W.cell? ⟨B,j,none⟩=some (Value.string wordsL[j]!))/\Below w.heap.size w W) (λk _=>11-(intOf k).toNat)
 case atStart=>exact⟨0,oM,rfl,ao,hb⟩
 case round =>
  clear ao hb;obtain⟨n,hn,rfl,ao,hb⟩:=hrel;have wS:=Lib.hid ao;by_cases ag:n<11
  ·have cj:=ao n ag
   obtain⟨hm,mi⟩:=c5w n ag;have hx:=d5a (aK _ hm);obtain⟨x,pt⟩:=zE (wordsL[n]!);rw[pt]at cj hx mi;clear ao aK hm pt;have aA:(n:Int)<11:=oM;by_cases aY:x.size<=t.size
   ·exact yfz
   ·exact yfz
  ·obtain rfl:n=11:=oM
   clear ao;go_wp2_with fail;go_ret;exact⟨rfl,hb⟩
end
section
open Go.RowKit Go.Shelf
attribute [local go_sem] l0 l1 l2 l3 l4 l5 l6 l7 l8 l9
theorem b1y (w:Wd)(cs:Array Value):Blk ((w.alloc (.cells b8l 3)).alloc (.cells cs 3)) (w.heap.size+1) cs 3:=by
 have h:=Blk.new (w.alloc (.cells b8l 3)) cs 3;rw[World.size_alloc]at h;exact h
theorem c0e (s:Bw)(h0:0<s.size)(c:Nat)(hc:(s[0]'h0).toNat=c)(c0:48<=c)(c1:c<=57)(hl:s.size<=1000)(w:Wd) :
 Calls prog 148 #[.string s,.int .i64 0] w λe w'=>∃B,e= .returned (.slice (some ⟨B,0,none⟩) 2 2)/\Below w.heap.size w w'/\Blk w' B #[.int .i64 60,.int .i64 (a8u c:Nat)] 3:=by
 have ag:(0:Int)<(s.size:Int):=oM;rcases(show c=48\/c=49\/c=50\/c=51\/c=52\/c=53\/c=54\/c=55\/c=56\/c=57 from oM)with rfl|rfl|rfl|rfl|rfl|rfl|rfl|rfl|rfl|rfl <;>
 ·go_enter func148,ntmps148
  go_wp2_with (first
   |(refine a0k qM 9 _ _ qM s .i64 0 qM qM underlying9 _ oM oM (by rw[<-hc];rfl) ?_)
   |(go_at_call 168;refine(a3m _).mono ?_;rintro e w'⟨rfl,rfl⟩)
   |(go_at_call 167;refine(a3d _ true jM _).mono ?_;rintro e w'⟨rfl,rfl⟩))
  go_ret;exact⟨_,rfl,zC,b1y _ _⟩
theorem c3d (s:Bw)(n:Nat)(fE:0<n)(h0:n<s.size)(c:Nat)(hc:(s[n]'h0).toNat=c)(c0:48<=c)(c1:c<=57)(d:Nat)(hd:(s[n-1]'(by omega)).toNat=d)(d0:48<=d)(d1:d<=57)(hl:s.size<=1000)(w:Wd) :
 Calls prog 148 #[.string s,.int .i64 n] w λe w'=>∃B,e= .returned (.slice (some ⟨B,0,none⟩) 1 1)/\Below w.heap.size w w'/\Blk w' B #[.int .i64 (a8u c:Nat)] 3:=by
 have ag:(n:Int)<(s.size:Int):=oM;have hp:0<(n:Int):=oM;have qa:IntKind.i64.wrap ((n:Int)-1)=(n:Int)-1:=a1i oM oM;rcases(show c=48\/c=49\/c=50\/c=51\/c=52\/c=53\/c=54\/c=55\/c=56\/c=57 from oM)with rfl|rfl|rfl|rfl|rfl|rfl|rfl|rfl|rfl|rfl <;>
 ·go_enter func148,ntmps148
  go_wp2_with (first
   |(refine a0k qM 9 _ _ qM s .i64 (n:Nat) qM qM underlying9 _ oM oM (by rw[<-hc];rfl) ?_)
   |(refine a0k qM 9 _ _ qM s .i64 ((n:Int)-1) qM qM underlying9 d oM oM (by rw[<-hd];congr 2;congr 1;omega) ?_)
   |(go_at_call 168;refine(a3m _).mono ?_;rintro e w'⟨rfl,rfl⟩)
   |(go_at_call 167;with_reducible refine(a3d d true uM _).mono ?_;rintro e w'⟨rfl,rfl⟩)
   |(go_at_call 167;refine(a3d _ true jM _).mono ?_;rintro e w'⟨rfl,rfl⟩))
  go_ret;exact⟨_,rfl,zC,b1y _ _⟩
end
section
open Go Go.RowKit Go.Shelf
variable{t:Bw}{j:Nat}
theorem c3e (s:Bw)(hl:s.size<=1000)(w:Wd):Zc prog 144 #[.string s] w (.bool (a6h s)):=by
 go_enter func144,ntmps144;go_wp2_with fail;go_loop [3] (λk=>∃n:Nat,n<=s.size/\k= .int .i64 n/\Hid (∀i (hi:i<n) (hs:i<s.size),okB (s[i]'hs)=true)) (λk=>s.size-(intOf k).toNat)
 case atStart=>exact⟨0,Nat.zero_le _,rfl,Lib.hid λi hi=>absurd hi oM⟩
 case round =>
  obtain⟨n,hn,rfl,ah⟩:=hrel;by_cases ag:n<s.size
  ·have aA:(n:Int)<(s.size:Int):=oM
   obtain⟨c,hc⟩:=zE ((s[n]'ag).toNat);by_cases fH:okB (s[n]'ag)=false
   ·have aK:=Lib.hid (b2v n ag fH)
    unfold okB at fH;rw[hc]at fH;have kr:c<32\/126<c\/c=34:=by simp at fH;omega
    clear ah fH;rcases(show c<32\/(¬c<32/\126<c)\/c=34 from oM)with h0|⟨h0,h1⟩|rfl
    ·have k0:(c:Int)<32:=oM
     exact yfp
    ·have k0:¬(c:Int)<32:=oM
     have k1:(126:Int)<c:=oM;exact yfp
    ·clear kr
     go_wp2_with (first|(refine a0k qM 9 _ _ qM s .i64 (n:Nat) qM qM underlying9 34 oM oM (by rw[<-hc];rfl) ?_)|fail);go_ret;exact⟨by rw[aK.out];rfl,zC⟩
   ·have a7:okB (s[n]'ag)=true:=by simpa using fH
    have aq:=Lib.hid (show ∀i (hi:i<n+1) (hs:i<s.size),okB (s[i]'hs)=true from λi hi hs=>by
     by_cases h:i=n
     ·subst h;exact a7
     ·exact ah.out i oM hs)
    have bK:32<=c/\c<=126/\c≠34:=by
     unfold okB at a7;rw[hc]at a7;simpa[and_assoc]using a7
    have k0:¬(c:Int)<32:=oM;have k1:¬(126:Int)<c:=oM;have k2:¬(c:Int)=34:=oM;clear fH a7 ah bK;go_wp2_with (first|(refine a0k qM 9 _ _ qM s .i64 (n:Nat) qM qM underlying9 c oM oM (by rw[<-hc];rfl) ?_)|fail);go_round
    case rel=>exact⟨n+1,oM,by go_num,aq⟩
    case measure=>simp[intOf];omega
  ·have aF:=b9h λi hi=>ah.out i oM hi
   clear ah;go_wp2_with fail;go_ret;exact⟨by first|rfl|(rw[aF];rfl),zC⟩
def c7h (t:Bw):Option Nat:=wordsL.findIdx? λx=>Lib.hasPrefix t.data.toList x.data.toList
theorem c7i {n:Nat}(h:n<11)(hp:Lib.hasPrefix t.data.toList (wordsL[n]!).data.toList=true)(hb:∀j,j<n->Lib.hasPrefix t.data.toList (wordsL[j]!).data.toList=false):c7h t=some n:=by
 refine List.findIdx?_eq_some_iff_getElem.2 ⟨h,?_,λj hj=> ?_⟩
 ·rwa [getElem!_pos wordsL n h]at hp
 ·have:=hb j hj
  rw[getElem!_pos wordsL j (show j<wordsL.length from Nat.lt_trans hj h)]at this;exact λe=>absurd (this.symm.trans e) jM
theorem c7j (hb:∀j,j<11->Lib.hasPrefix t.data.toList (wordsL[j]!).data.toList=false):c7h t=none:=by
 refine List.findIdx?_eq_none_iff.2 λx hx=> ?_
 obtain⟨j,hj,rfl⟩:=List.getElem_of_mem hx;have:=hb j hj;rwa [getElem!_pos wordsL j hj]at this
theorem d5b (s:Bw)(k:Nat):c7h (s.extract k s.size)=a6r s k:=by
 unfold c7h a6r;rw[ByteArray.data_extract,Array.toList_extract]
theorem c3f (t:Bw)(hl:t.size<=1000)(w:Wd):Zc prog 145 #[.string t] w (.int .i64 (a8n (c7h t))):=by
 obtain⟨r,hr⟩:=zE (c7h t);rw[hr];replace hr:=Lib.hid hr;go_enter func145,ntmps145;go_wp2_with (first|(go_at_call 147;refine(a8f _).mono ?_;rintro e w'⟨rfl,rfl⟩)|fail);have ao:=b5v w;have hb:Below w.heap.size w (w.alloc (.cells a2w 9)):=zC;obtain⟨W,hW⟩:=zE (w.alloc (.cells a2w 9));rw[hW]at ao hb ⊢;clear hW;obtain⟨B,hB⟩:=zE w.heap.size;rw[hB]at ao ⊢;replace hB:=Lib.hid hB;go_loopw [4] (λk W=>∃n:Nat,n<=11/\k= .int .i64 n/\(∀j,j<11->W.cell? ⟨B,j,none⟩=some (Value.string wordsL[j]!))/\Below w.heap.size w W/\Hid (∀j,j<n->Lib.hasPrefix t.data.toList (wordsL[j]!).data.toList=false)) (λk _=>11-(intOf k).toNat)
 case atStart=>exact⟨0,oM,rfl,ao,hb,Lib.hid λj hj=>absurd hj oM⟩
 case round =>
  clear ao hb;obtain⟨n,hn,rfl,ao,hb,aK⟩:=hrel;have wS:=Lib.hid ao;by_cases ag:n<11
  ·have cj:=ao n ag
   obtain⟨hm,mi⟩:=c5w n ag;have kq:=Lib.hasPrefix_raw t wordsL[n]!;have aF:=Lib.hid λh:Lib.hasPrefix t.data.toList (wordsL[n]!).data.toList=true=>c7i ag h aK.out
   have aq:=Lib.hid λh:Lib.hasPrefix t.data.toList (wordsL[n]!).data.toList=false=>(show ∀j,j<n+1->Lib.hasPrefix t.data.toList (wordsL[j]!).data.toList=false from λj hj=>by
    by_cases e:j=n
    ·subst e;exact h
    ·exact aK.out j oM)
   obtain⟨x,pt⟩:=zE (wordsL[n]!);rw[pt]at cj mi kq aF;replace pt:=Lib.hid pt;clear ao aK hm;have aA:(n:Int)<11:=oM;by_cases aY:x.size<=t.size
   ·rw[decide_eq_true aY,Bool.true_and]at kq
    obtain⟨q,hx⟩:=zE (((t.extract 0 x.size).toList==x.toList));rw[hx]at kq
    cases q
    ·exact yec
    ·have hy:=aF.out kq.symm
     rw[hr.out]at hy;subst hy;clear kq aq aF hr;go_wp2_with fail;go_quiet (fail)
     go_wp2_with fail;go_ret;exact⟨rfl,a3r hb _⟩
   ·rw[decide_eq_false aY,Bool.false_and]at kq
    exact yec
  ·obtain rfl:n=11:=oM
   have hy:=c7j aK.out;rw[hr.out]at hy;subst hy;clear ao hr aK;go_wp2_with fail;go_ret;exact⟨rfl,hb⟩
def e0s (c:Nat):Int:=if c=32 then 0 else if c=44 then 2 else if c=39 then 4 else if c=45 then 36 else if c=46 then 50 else -1
theorem d8t {c:Nat}(h:c<128):e0s c=if 0<=a5m c then((signedB[(a5m c).toNat]!).toNat:Int)else -1:=by
 have:∀c:Fin 128,e0s c.1=if 0<=a5m c.1 then((signedB[(a5m c.1).toNat]!).toNat:Int)else -1:=by decide +kernel
 exact this ⟨c,h⟩
theorem c7k (c:Nat)(w:Wd):Calls prog 169 #[.int .u8 c] w λe w'=>e= .returned (.int .i64 (e0s c))/\w=w':=by
 obtain⟨r,hr⟩:=zE (e0s c);rw[hr];unfold e0s at hr;rcases(show c=32\/c=44\/c=39\/c=45\/c=46\/(c≠32/\c≠44/\c≠39/\c≠45/\c≠46)from oM)with rfl|rfl|rfl|rfl|rfl|⟨h1,h2,h3,h4,h5⟩
 ·obtain rfl:r=0:=by simpa using hr.symm
  exact yhm
 ·obtain rfl:r=2:=by simpa using hr.symm
  exact yhm
 ·obtain rfl:r=4:=by simpa using hr.symm
  exact yhm
 ·obtain rfl:r=36:=by simpa using hr.symm
  exact yhm
 ·obtain rfl:r=50:=by simpa using hr.symm
  exact yhm
 ·rw[if_neg h1,if_neg h2,if_neg h3,if_neg h4,if_neg h5]at hr
  subst hr;have k1:((c:Int)==32)=false:=by simp;omega
  have k2:((c:Int)==44)=false:=by simp;omega
  have k3:((c:Int)==39)=false:=by simp;omega
  have k4:((c:Int)==45)=false:=by simp;omega
  have k5:((c:Int)==46)=false:=by simp;omega
  clear h1 h2 h3 h4 h5;exact yhm
theorem b5w (h:j<26):b8l[j]? =some (.int .i64 ((lettersB[j]!).toNat:Int)):=by
 match j,h with
 |0,_=>rfl
 |1,_=>rfl
 |2,_=>rfl
 |3,_=>rfl
 |4,_=>rfl
 |5,_=>rfl
 |6,_=>rfl
 |7,_=>rfl
 |8,_=>rfl
 |9,_=>rfl
 |10,_=>rfl
 |11,_=>rfl
 |12,_=>rfl
 |13,_=>rfl
 |14,_=>rfl
 |15,_=>rfl
 |16,_=>rfl
 |17,_=>rfl
 |18,_=>rfl
 |19,_=>rfl
 |20,_=>rfl
 |21,_=>rfl
 |22,_=>rfl
 |23,_=>rfl
 |24,_=>rfl
 |25,_=>rfl
 |j+26,h=>exact absurd h oM
def d0t :Array Value:= #[.int .i64 62,.int .i64 46,.int .i64 47,.int .i64 63,.int .i64 44,.int .i64 55,.int .i64 33,.int .i64 41,.int .i64 57,.int .i64 12,.int .i64 59]
theorem d5c (h:j<11):d0t[j]? =some (.int .i64 ((a4m[j]!).toNat:Int)):=by
 match j,h with
 |0,_=>rfl
 |1,_=>rfl
 |2,_=>rfl
 |3,_=>rfl
 |4,_=>rfl
 |5,_=>rfl
 |6,_=>rfl
 |7,_=>rfl
 |8,_=>rfl
 |9,_=>rfl
 |10,_=>rfl
 |j+11,h=>exact absurd h oM
theorem c3g (w:Wd):Calls prog 146 #[] w λe w'=>e= .returned (.slice (some ⟨w.heap.size,0,none⟩) 11 11)/\w'=w.alloc (.cells d0t 3):=by
 go_enter func146,ntmps146;exact ybd
end
section
open Go.Sort
section
variable {α:Type}{lt:α->α->Bool}
def eqv (lt:α->α->Bool)(a b:α):Bool:= !lt a b&& !lt b a
def Asc (lt:α->α->Bool)(l:List α):Prop:=l.Pairwise (λa b=>lt b a=false)
structure Stb (lt:α->α->Bool)(l r:List α):Prop where
 perm:l.Perm r
 same:∀c,l.filter (eqv lt c)=r.filter (eqv lt c)
theorem Stb.refl (l:List α):Stb lt l l:=⟨.refl _,λ_=>rfl⟩
theorem Stb.symm {l r:List α}(h:Stb lt l r):Stb lt r l:=⟨h.perm.symm,λc=>(h.same c).symm⟩
theorem Stb.trans {l r s:List α}(h:Stb lt l r)(g:Stb lt r s):Stb lt l s:=⟨h.perm.trans g.perm,λc=>(h.same c).trans (g.same c)⟩
theorem Stb.append {l r l2 r2:List α}(h:Stb lt l r)(g:Stb lt l2 r2):Stb lt (l++l2) (r++r2) :=
 ⟨h.perm.append g.perm,λc=>by rw[List.filter_append,List.filter_append,h.same,g.same]⟩
theorem Stb.swap (hS:SWO lt){U V:List α}(h:∀u∈U,∀v∈V,lt v u=true):Stb lt (U++V) (V++U):=by
 refine⟨List.perm_append_comm,λc=> ?_⟩;rw[List.filter_append,List.filter_append];by_cases hu:∃u∈U,eqv lt c u=true
 ·obtain⟨u,hu,he⟩:=hu
  have:V.filter (eqv lt c)=[]:=by
   rw[List.filter_eq_nil_iff];intro v hv hc;have h1:=h u hu v hv;simp only[eqv,Bool.and_eq_true,Bool.not_eq_true']at he hc;have:=hS.ntrans v c u hc.2 he.1;rw[h1]at this
   cases this
  rw[this,List.append_nil,List.nil_append]
 ·have:U.filter (eqv lt c)=[]:=by
   rw[List.filter_eq_nil_iff];intro u Dr hc;exact hu ⟨u,Dr,hc⟩
  rw[this,List.append_nil,List.nil_append]
theorem d5d (hS:SWO lt)(x:α):eqv lt x x=true:=by simp[eqv,hS.irrefl]
theorem Asc.unique (hS:SWO lt):∀ {l r:List α},Asc lt l->Asc lt r->Stb lt l r->l=r
 |[],r,_,_,h=>by
  have:=h.perm.length_eq;exact(List.eq_nil_of_length_eq_zero (by simpa using this.symm)).symm
 |x::l,[],_,_,h=>by
  have:=h.perm.length_eq;simp at this
 |x::l,y::r,hl,hr,h=>by
  have pC:=List.pairwise_cons.1 hl;have lV:=List.pairwise_cons.1 hr;have Mw:lt y x=false:=by
   have hm:y∈x::l:=h.perm.mem_iff.2 vM;rcases List.mem_cons.1 hm with rfl|hm
   ·exact hS.irrefl _
   ·exact pC.1 y hm
  have L6:lt x y=false:=by
   have hm:x∈y::r:=h.perm.mem_iff.1 vM;rcases List.mem_cons.1 hm with rfl|hm
   ·exact hS.irrefl _
   ·exact lV.1 x hm
  have h1:=h.same x;rw[List.filter_cons_of_pos (d5d hS x),List.filter_cons_of_pos (by simp[eqv,Mw,L6])]at h1;obtain⟨rfl,-⟩:=List.cons.inj h1;rw[Asc.unique hS pC.2 lV.2 ⟨(List.perm_cons _).1 h.perm,λc=> ?_⟩];have h2:=h.same c;by_cases hc:eqv lt c x=true
  ·rw[List.filter_cons_of_pos hc,List.filter_cons_of_pos hc]at h2
   exact(List.cons.inj h2).2
  ·rw[List.filter_cons_of_neg hc,List.filter_cons_of_neg hc]at h2
   exact h2
end
section
variable {α:Type} [Inhabited α]{lt:α->α->Bool}
def ext (d:Array α)(a b:Nat):List α:=(List.range' a (b-a)).map (λi=>d[i]!)
theorem a0y (d:Array α){a s b:Nat}(h1:a<=s)(h2:s<=b):ext d a b=ext d a s++ext d s b:=by
 unfold ext;rw[<-List.map_append,show b-a=(s-a)+(b-s) by omega,<-List.range'_append_1,show a+(s-a)=s by omega]
theorem b7g (d:Array α){a b:Nat}(h:b<=a):ext d a b=[]:=by
 unfold ext;rw[show b-a=0 by omega];rfl
theorem a4e (d:Array α)(a:Nat):ext d a (a+1)=[d[a]!]:=by
 unfold ext;rw[show a+1-a=1 by omega];rfl
theorem b3p (d:Array α)(a b:Nat):(ext d a b).length=b-a:=by simp[ext]
theorem b0j {d:Array α}{a b:Nat}{x:α}:x∈ext d a b↔∃i,a<=i/\i<b/\d[i]! =x:=by
 unfold ext;rw[List.mem_map];constructor
 ·rintro⟨i,hi,rfl⟩
  have:=List.mem_range'_1.1 hi;exact⟨i,oM,oM,rfl⟩
 ·rintro⟨i,h1,h2,rfl⟩
  exact⟨i,List.mem_range'_1.2 ⟨h1,oM⟩,rfl⟩
theorem a3n {d d':Array α}{a b:Nat}(h:∀i,a<=i->i<b->d'[i]! =d[i]!):ext d' a b=ext d a b:=by
 unfold ext;refine List.map_congr_left λi hi=> ?_
 have:=List.mem_range'_1.1 hi;exact h i oM oM
theorem a9d {d d':Array α}{a b n:Nat}(h:∀i,i<n->d'[a+i]! =d[b+i]!):ext d' a (a+n)=ext d b (b+n):=by
 unfold ext;rw[show a+n-a=n by omega,show b+n-b=n by omega];apply List.ext_getElem
 ·simp
 ·intro k h1 h2
  simp only[List.length_map,List.length_range']at h1;simp only[List.getElem_map,List.getElem_range',Nat.one_mul];exact h k h1
theorem b7h (d:Array α):ext d 0 d.size=d.toList:=by
 apply List.ext_getElem
 ·simp[ext]
 ·intro k h1 h2
  simp only[ext,List.length_map,List.length_range']at h1;have hk:k<d.size:=oM;simp[ext,getElem!_pos d k hk]
theorem c3h {d:Array α}{a b:Nat}:Asc lt (ext d a b)↔SortedIn lt a b d:=by
 unfold Asc SortedIn;rw[List.pairwise_iff_getElem];constructor
 ·intro h i j hi ee hj
  have:=h (i-a) (j-a) (by rw[b3p];omega) (by rw[b3p];omega) oM;simpa[ext,show a+(i-a)=i by omega,show a+(j-a)=j by omega]using this
 ·intro h i j hi hj ee
  rw[b3p]at hi hj;have:=h (a+i) (a+j) oM oM oM;simpa[ext]using this
def Out (a b:Nat)(d d':Array α):Prop:=d'.size=d.size/\∀i,i<a\/b<=i->d'[i]! =d[i]!
theorem Out.refl (a b:Nat)(d:Array α):Out a b d d:=⟨rfl,λ_ _=>rfl⟩
theorem Out.trans {a b:Nat}{d d' Mx:Array α}(h:Out a b d d')(g:Out a b d' Mx):Out a b d Mx:=⟨g.1.trans h.1,λi hi=>(g.2 i hi).trans (h.2 i hi)⟩
theorem Out.mono {a b a' b':Nat}{d d':Array α}(h:Out a b d d')(ha:a'<=a)(hb:b<=b'):Out a' b' d d':=⟨h.1,λi hi=>h.2 i oM⟩
theorem Out.swp {d:Array α}{a b i j:Nat}(hi:a<=i/\i<b)(hj:a<=j/\j<b):Out a b d (swp d i j) :=
 ⟨size_swp _ _ _,λk hk=>swp_other _ _ _ _ oM oM⟩
structure Srt (lt:α->α->Bool)(a b:Nat)(d d':Array α):Prop where
 out:Out a b d d'
 asc:SortedIn lt a b d'
 stb:Stb lt (ext d a b) (ext d' a b)
theorem Srt.whole {a b a' b':Nat}{d d':Array α}(h:Srt lt a b d d')(ha:a'<=a)(bL:a<=b)(hb:b<=b'):Stb lt (ext d a' b') (ext d' a' b'):=by
 rw[a0y d ha (Nat.le_trans bL hb),a0y d bL hb,a0y d' ha (Nat.le_trans bL hb),a0y d' bL hb];rw[a3n (d:=d) (d':=d') (λi _ hi=>h.out.2 i oM),a3n (d:=d) (d':=d') (a:=b) (b:=b') (λi hi _=>h.out.2 i oM)];exact(Stb.refl _).append (h.stb.append (Stb.refl _))
/-! insertion sort is stable -/
theorem d0u (hS:SWO lt){d:Array α}{j:Nat}(hj:j+1<d.size)(hl:lt d[j+1]! d[j]! =true){a b:Nat}(ha:a<=j)(hb:j+1<b):Stb lt (ext d a b) (ext (swp d (j+1) j) a b):=by
 have h0:∀e:Array α,ext e a b=ext e a j++((ext e j (j+1)++ext e (j+1) (j+1+1))++ext e (j+1+1) b):=λe=>by
  rw[a0y e ha (show j<=b by omega),a0y e (show j<=j+1 by omega) (show j+1<=b by omega),a0y e (show j+1<=j+1+1 by omega) (show j+1+1<=b by omega)];simp only[List.append_assoc]
 rw[h0 d,h0 (swp d (j+1) j)];rw[a3n (d:=d) (d':=swp d (j+1) j) (a:=a) (b:=j) (λi _ hi=>swp_other _ _ _ _ oM oM),a3n (d:=d) (d':=swp d (j+1) j) (a:=j+1+1) (b:=b) (λi hi _=>swp_other _ _ _ _ oM oM)];refine(Stb.refl _).append (Stb.append ?_ (Stb.refl _));rw[a4e,a4e,a4e,a4e,swp_left _ _ _ hj oM,swp_right _ _ _ oM];refine Stb.swap hS ?_;simp only[List.mem_cons,List.not_mem_nil,or_false];rintro u rfl v rfl;exact hl
theorem b1g (hS:SWO lt)(a b:Nat):∀(j:Nat) (d:Array α),j<b->b<=d.size->Stb lt (ext d a b) (ext (insInner lt a j d) a b)
 |0,d,_,_=>Stb.refl _
 |j+1,d,hj,hb=>by
  unfold insInner;split
  ·rename_i h
   simp only[Bool.and_eq_true,decide_eq_true_eq]at h;exact(d0u hS oM h.2 oM hj).trans (b1g hS a b j _ oM (by rw[size_swp];exact hb))
  ·exact Stb.refl _
theorem a9e (lt:α->α->Bool)(a:Nat):∀(j:Nat) (d:Array α),(insInner lt a j d).size=d.size
 |0,d=>rfl
 |j+1,d=>by
  unfold insInner;split
  ·rw[a9e lt a j,size_swp]
  ·rfl
theorem b1h (hS:SWO lt)(a b:Nat):∀(n i:Nat) (d:Array α),b-i=n->b<=d.size->Stb lt (ext d a b) (ext (insOuter lt a b i d) a b)
 |0,i,d,h,_=>by rw[insOuter_stop _ _ _ _ _ oM];exact Stb.refl _
 |n+1,i,d,h,hb=>by
  rw[insOuter_go _ _ _ _ _ oM];exact(b1g hS a b i d oM hb).trans (b1h hS a b n (i+1) _ oM (by rw[a9e];exact hb))
theorem a2v (hS:SWO lt)(d:Array α){a b:Nat}(bL:a<=b)(hb:b<=d.size):Srt lt a b d (insertionSort lt d a b):=by
 obtain⟨⟨h1,h2,-⟩,h3⟩:=insertionSort_holds (lt:=lt) hS d a b bL hb;exact⟨⟨h1,h2⟩,h3,b1h hS a b _ _ d rfl hb⟩
/-! SymMerge -/
theorem c3i {a m b:Nat}{d d':Array α}(ho:Out a b d d')(IB:a<=m)(xE:m<=b)(h1:SortedIn lt a m d')(h2:SortedIn lt m b d')(h12:∀i j,a<=i->i<m->m<=j->j<b->lt d'[j]! d'[i]! =false)(hs:Stb lt (ext d a b) (ext d' a b)):Srt lt a b d d':=by
 refine⟨ho,λi j hi ee hj=> ?_,hs⟩;by_cases IC:j<m
 ·exact h1 i j hi ee IC
 ·by_cases tW:i<m
  ·exact h12 i j hi tW oM hj
  ·exact h2 i j oM ee hj
structure Cut (lt:α->α->Bool)(a m b s e:Nat)(d:Array α):Prop where
 la:a<=s
 sm:s<=m
 me:m<=e
 eb:e<=b
 less:∀i j,s<=i->i<m->m<=j->j<e->lt d[j]! d[i]! =true
 more:∀i j,a<=i->i<s->e<=j->j<b->lt d[j]! d[i]! =false
structure Rot (s m e:Nat)(d d':Array α):Prop where
 out:Out s e d d'
 eq:ext d' s e=ext d m e++ext d s m
theorem Rot.low {s m e:Nat}{d d':Array α}(h:Rot s m e d d')(h1:s<=m)(h2:m<=e):ext d' s (s+(e-m))=ext d m e/\ext d' (s+(e-m)) e=ext d s m:=by
 have hx:=h.eq;rw[a0y d' (show s<=s+(e-m) by omega) (show s+(e-m)<=e by omega)]at hx;exact List.append_inj hx (by rw[b3p,b3p];omega)
theorem Rot.idx {s m e:Nat}{d d':Array α}(h:Rot s m e d d')(h1:s<=m)(h2:m<=e):(∀i,i<e-m->d'[s+i]! =d[m+i]!)/\(∀i,i<m-s->d'[s+(e-m)+i]! =d[s+i]!):=by
 obtain⟨g1,g2⟩:=h.low h1 h2;constructor
 ·intro i hi
  have:=congrArg (λl=>l[i]?) g1;simpa[ext,hi,show i<s+(e-m)-s by omega]using this
 ·intro i hi
  have:=congrArg (λl=>l[i]?) g2;simpa[ext,hi,show i<e-(s+(e-m)) by omega]using this
theorem Rot.none {s m e:Nat}{d:Array α}(h:s=m\/m=e)(h1:s<=m)(h2:m<=e):Rot s m e d d:=by
 refine⟨.refl _ _ _,?_⟩;rcases h with rfl|rfl
 ·rw[b7g d (yR s),List.append_nil]
 ·rw[b7g d (yR m),List.nil_append]
theorem Cut.step (hS:SWO lt){a m b s e:Nat}{d d1 d2 d3:Array α}(hc:Cut lt a m b s e d)(hL:SortedIn lt a m d)(hR:SortedIn lt m b d)(hr:Rot s m e d d1) :
 (SortedIn lt a s d1/\SortedIn lt s (s+(e-m)) d1/\SortedIn lt (s+(e-m)) e d1/\SortedIn lt e b d1) /\
 (Srt lt a (s+(e-m)) d1 d2->Srt lt (s+(e-m)) b d2 d3->Srt lt a b d d3):=by
 obtain⟨has,bR,pL,FR,vG,Ds⟩:=hc;obtain⟨i1,i2⟩:=hr.idx bR pL;have o1:=hr.out.2;have j1:∀i,s<=i->i<s+(e-m)->d1[i]! =d[i-s+m]! :=λi h1 h2=>by
  have:=i1 (i-s) oM;rw[show s+(i-s)=i by omega]at this;rw[this,Nat.add_comm]
 have j2:∀i,s+(e-m)<=i->i<e->d1[i]! =d[i-(e-m)]! :=λi h1 h2=>by
  have:=i2 (i-(s+(e-m))) oM;rw[show s+(e-m)+(i-(s+(e-m)))=i by omega]at this;rw[this,show s+(i-(s+(e-m)))=i-(e-m) by omega]
 refine⟨⟨?_,?_,?_,?_⟩,?_⟩
 ·intro i j hi ee hj
  rw[o1 i oM,o1 j oM];exact hL i j hi ee oM
 ·intro i j hi ee hj
  rw[j1 i hi oM,j1 j oM hj];exact hR _ _ oM oM oM
 ·intro i j hi ee hj
  rw[j2 i hi oM,j2 j oM hj];exact hL _ _ oM oM oM
 ·intro i j hi ee hj
  rw[o1 i oM,o1 j oM];exact hR i j oM ee hj
 ·intro h2 h3
  have ho:Out a b d d3:=(hr.out.mono has FR).trans ((h2.out.mono (yR _) oM).trans (h3.out.mono oM (yR _)));have au:Stb lt (ext d a b) (ext d1 a b):=by
   have h0:∀x:Array α,ext x a b=ext x a s++(ext x s e++ext x e b):=λx=>by
    rw[a0y x has (show s<=b by omega),a0y x (show s<=e by omega) FR]
   rw[h0 d,h0 d1,hr.eq,a0y d bR pL];rw[a3n (d:=d) (d':=d1) (a:=a) (b:=s) (λi _ hi=>o1 i oM),a3n (d:=d) (d':=d1) (a:=e) (b:=b) (λi hi _=>o1 i oM)];refine(Stb.refl _).append (Stb.append (Stb.swap hS ?_) (Stb.refl _));intro u hu v hv;obtain⟨i,el,sS,rfl⟩:=b0j.1 hu;obtain⟨j,gC,ot,rfl⟩:=b0j.1 hv;exact vG i j el sS gC ot
  refine c3i (m:=s+(e-m)) ho oM oM ?_ h3.asc ?_ (au.trans ((h2.whole (yR _) oM oM).trans (h3.whole oM oM (yR _))))
  ·intro i j hi ee hj
   rw[h3.out.2 i oM,h3.out.2 j oM];exact h2.asc i j hi ee hj
  ·intro i j hi tW ID hj
   rw[h3.out.2 i oM];have m2:d2[i]!∈ext d1 a (s+(e-m)):=h2.stb.perm.mem_iff.2 (b0j.2 ⟨i,hi,tW,rfl⟩);have m3:d3[j]!∈ext d2 (s+(e-m)) b:=h3.stb.perm.mem_iff.2 (b0j.2 ⟨j,ID,hj,rfl⟩);obtain⟨i',el,sS,e1⟩:=b0j.1 m2;obtain⟨j',gC,ot,e2⟩:=b0j.1 m3;rw[<-e1,<-e2,h2.out.2 j' oM];by_cases c1:i'<s
   ·rw[o1 i' oM]
    by_cases c2:j'<e
    ·rw[j2 j' gC c2]
     exact hL _ _ el oM oM
    ·rw[o1 j' oM]
     exact Ds i' j' el c1 oM ot
   ·rw[j1 i' oM sS]
    by_cases c2:j'<e
    ·rw[j2 j' gC c2]
     have h5:=vG (j'-(e-m)) (i'-s+m) oM oM oM oM
     cases h6:lt d[j'-(e-m)]! d[i'-s+m]! with
     |false=>rfl
     |true=>have:=hS.trans _ _ _ h6 h5;rw[hS.irrefl]at this;cases this
    ·rw[o1 j' oM]
     exact hR _ _ oM oM ot
theorem e0t {a m b s n:Nat}(hS:SWO lt){d:Array α}(hL:SortedIn lt a m d)(hR:SortedIn lt m b d)(has:a<=s)(bR:s<=m)(pL:m+s<=n)(FR:n<=b+s)
 (h1:s<m->m+s<n->lt d[n-1-s]! d[s]! =true) (h2:a<s->n<b+s->lt d[n-1-(s-1)]! d[s-1]! =false):Cut lt a m b s (n-s) d:=by
 refine⟨has,bR,oM,oM,?_,?_⟩
 ·intro i j hi tW ID hj
  have h3:=h1 oM oM
  cases h4:lt d[j]! d[i]! with
  |true=>rfl
  |false =>
   have h5:lt d[n-1-s]! d[j]! =false:=by
    rcases Nat.lt_or_ge j (n-1-s)with h|h
    ·exact hR j _ ID h oM
    ·rw[show j=n-1-s by omega];exact hS.irrefl _
   have h6:lt d[i]! d[s]! =false:=by
    rcases Nat.lt_or_ge s i with h|h
    ·exact hL s i has h tW
    ·rw[show i=s by omega];exact hS.irrefl _
   have h7:=hS.ntrans _ _ _ (hS.ntrans _ _ _ h5 h4) h6;rw[h3]at h7
   cases h7
 ·intro i j hi Ur hj sE
  have h3:=h2 oM oM;have h5:lt d[j]! d[n-1-(s-1)]! =false:=by
   rcases Nat.lt_or_ge (n-1-(s-1)) j with h|h
   ·exact hR _ j oM h sE
   ·rw[show n-1-(s-1)=j by omega];exact hS.irrefl _
  have h6:lt d[s-1]! d[i]! =false:=by
   rcases Nat.lt_or_ge i (s-1)with h|h
   ·exact hL i _ hi h oM
   ·rw[show i=s-1 by omega];exact hS.irrefl _
  exact hS.ntrans _ _ _ (hS.ntrans _ _ _ h5 h3) h6
theorem a3s {a b:Nat}{d:Array α}(h:SortedIn lt a b d):Srt lt a b d d:=⟨.refl _ _ _,h,.refl _⟩
end
end
end Go.Proofs.YtfocdbjceedagaaGreatDoor
