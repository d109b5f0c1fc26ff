/-
  Parts.
-/
import Derived.Test.YteijfnkidefekaaGreatEah
set_option linter.unusedVariables false
set_option linter.unusedSimpArgs false
set_option linter.unusedSectionVars false
set_option maxHeartbeats 4000000
set_option maxRecDepth 100000
namespace Go.Proofs.YteijfnkidefekaaGreat
open Tryz
section
open Go Go.RowKit Go.Shelf
theorem Ev.row {S S':BS}{W W':Wd}(h:Ev noB S W S' W'){base:Nat}{e:Td}{s:Nat}{v:Vu}{n:Nat}{xs:List Value}(hr:W.ownsRow base e s v n xs)(ho:∀b,v.ownBlock=some b->¬S b):W'.ownsRow base e s v n xs/\∀b,v.ownBlock=some b->¬S' b:=by
 obtain⟨h1,h2⟩:=hr;rcases h2 with⟨rfl,h3⟩|⟨g,cap,cur,rfl,h3,h4,h5⟩
 ·exact⟨⟨h1,.inl ⟨rfl,h3⟩⟩,λb e=>by cases e⟩
 ·have hb:Blk W g cur e:=h4
  have hn:¬S g:=ho g rfl;exact⟨⟨h1,.inr ⟨g,cap,cur,rfl,h3,h.blk hb hn (λh=>h),h5⟩⟩,λb e=>by cases e;exact h.not hb.lt hn⟩
theorem c0a {W:Wd}{base:Nat}{e:Td}{s:Nat}{v:Vu}{n:Nat}{xs:List Value}(hr:W.ownsRow base e s v n xs):∀g,v.ownBlock=some g->∃cur,Blk W g cur e:=λg hg=>by
 rcases hr.2 with⟨rfl,h3⟩|⟨g',cap,cur,rfl,h3,h4,h5⟩
 ·cases hg
 ·cases hg;exact⟨cur,h4⟩
theorem a4i {S:BS}{W:Wd}{e:Td}{v:Vu}{n m:Nat}(h:SL S W e v n)(hS:∀b,S b->m<=b):Own m v:=λa k c e=>by
 obtain⟨a',c',e',-,h2⟩:=h;rw[e']at e
 cases e;rcases h2 with⟨e3,-⟩|⟨b,o,c2,e3,hb,-⟩
 ·cases e3
 ·cases e3;exact hS b hb
theorem OY.known {S0 S:BS}{W0 W:Wd}{L:a5g}{T:SlL}{B:Nat}{c:Array Value}{t:Td}(h:OY S0 W0 S W L T)(hk:Blk W B c t)(hS:¬S B)(hB:W0.heap.size<=B)(an:∀p∈L,p.1≠B):OY S0 W0 S W ((B,c,t)::L) T :=
 ⟨⟨h.o.ev,λp hp=>by
   rcases List.mem_cons.1 hp with rfl|hp
   ·exact⟨hk,hS,hB⟩
   ·exact h.o.bx p hp,by
   rw[List.map_cons];exact List.nodup_cons.2 ⟨λhm=>by
    obtain⟨p,hp,e⟩:=List.mem_map.1 hm;exact an p hp e,h.o.ne⟩,h.o.sl⟩,h.bel⟩
theorem OY.sub {S0 S:BS}{W0 W:Wd}{L:a5g}{T T':SlL}(h:OY S0 W0 S W L T)(hs:∀q∈T',q∈T):OY S0 W0 S W L T':=⟨⟨h.o.ev,h.o.bx,h.o.ne,λq hq=>h.o.sl q (hs q hq)⟩,h.bel⟩
structure MapI (U:BS)(W:Wd)(ev fv wv pv:Vu)(ne nf nw:Nat)(l:List Pc):Prop where
 tw:TW U W
 e:SL U W 71 ev ne
 f:SL U W 43 fv nf
 w:SL U W 46 wv nw
 p:Lst plE W.heap.size W pv l
 frm:Frm pv l.length
 ne:ne<=1000
 nf:nf<=1000
 nw:nw<=1000
 np:l.length<=1000
theorem MapI.up {U:BS}{W W':Wd}{ev fv wv pv:Vu}{ne nf nw:Nat}{l:List Pc}(h:MapI U W ev fv wv pv ne nf nw l)(hb:Below W.heap.size W W'):MapI U W' ev fv wv pv ne nf nw l :=
 have hU:=λb hb=>h.tw.lt (b:=b) hb
 ⟨a7u h.tw hb hU,a3e hb hU h.e,a3e hb hU h.f,a3e hb hU h.w,h.p.up hb,h.frm,h.ne,h.nf,h.nw,h.np⟩
structure OP (S0:BS)(W0:Wd)(S:BS)(W:Wd)(L:a5g)(T:SlL)(ov:Vu)(l:List Pc):Prop where
 b:OY S0 W0 S W L T
 row:W.ownsRow W0.heap.size 48 7 ov l.length (l.flatMap plE.enc)
 off:∀g,ov.ownBlock=some g->¬S g
 np:∀p∈L,p.2.2≠48
section
variable {S0 S S':BS}{W0 W W':Wd}{L:a5g}{T:SlL}{B i:Nat}{c c':Array Value}{t e:Td}{ov v:Vu}{l:List Pc}{p:Nat×Array Value×TypeId}{n:Nat}
theorem OP.evo (h:OP S0 W0 S W L T ov l)(he:Ev noB S W S' W')(hb:Below W0.heap.size W W'):OP S0 W0 S' W' L T ov l:=by
 obtain⟨h1,h2⟩:=he.row h.row h.off;exact⟨h.b.evo he hb,h1,h2,h.np⟩
theorem OP.up (h:OP S0 W0 S W L T ov l)(hb:Below W.heap.size W W'):OP S0 W0 S W' L T ov l:=h.evo (Ev.of_below h.b.tw hb) (hb.mono h.b.size)
theorem OP.box (h:OP S0 W0 S W L T ov l)(c:Array Value)(t:Td)(ht:t≠48):OP S0 W0 S (W.alloc (.cells c t)) ((W.heap.size,c,t)::L) T ov l:=by
 have hb:Below W.heap.size W (W.alloc (.cells c t)):=(zR _ _).alloc (yR _) _;have h1:=h.up hb;exact⟨h.b.box c t,h1.row,h1.off,λp hp=>by
  rcases List.mem_cons.1 hp with rfl|hp
  ·exact ht
  ·exact h.np p hp⟩
theorem OP.add (h:OP S0 W0 S W L T ov l){e:Td}{v:Vu}{n:Nat}(hv:SL S W e v n):OP S0 W0 S W L ((e,v,n)::T) ov l:=⟨h.b.add hv,h.row,h.off,h.np⟩
theorem OP.tail (h:OP S0 W0 S W (p::L) T ov l):OP S0 W0 S W L T ov l:=⟨h.b.tail,h.row,h.off,λq hq=>h.np q (List.mem_cons_of_mem _ hq)⟩
theorem OP.sub {T':SlL}(h:OP S0 W0 S W L T ov l)(hs:∀q∈T',q∈T):OP S0 W0 S W L T' ov l:=⟨h.b.sub hs,h.row,h.off,h.np⟩
theorem OP.swap {q:Nat×Array Value×TypeId}(h:OP S0 W0 S W (p::q::L) T ov l):OP S0 W0 S W (q::p::L) T ov l:=⟨h.b.swap,h.row,h.off,λr hr=>h.np r (by
 rcases List.mem_cons.1 hr with rfl|hr
 ·exact List.mem_cons_of_mem _ (List.mem_cons_self ..)
 ·rcases List.mem_cons.1 hr with rfl|hr
  ·exact List.mem_cons_self ..
  ·exact List.mem_cons_of_mem _ (List.mem_cons_of_mem _ hr))⟩
theorem OP.put {v:Vu}(h:OP S0 W0 S W ((B,c,t)::L) T ov l)(hW:W'=W.setCell ⟨B,i,none⟩ v)(hc:c.setIfInBounds i v=c'):OP S0 W0 S W' ((B,c',t)::L) T ov l:=by
 subst hW;refine⟨h.b.set i v hc,a6z h.row (a0u W B i v) ?_,h.off,λp hp=> ?_⟩
 ·intro g hg
  cases hg;refine⟨_,h.b.b0,λcur e2=> ?_⟩;have:=h.np _ (List.mem_cons_self ..);simp only[Obj.cells.injEq]at e2;exact this e2.2.1
 ·rcases List.mem_cons.1 hp with rfl|hp
  ·exact h.np (B,c,t) (List.mem_cons_self ..)
  ·exact h.np p (List.mem_cons_of_mem _ hp)
theorem OP.evn (h:OP noB W0 S W L T ov l)(he:Ev noB noB W S' W'):OP noB W0 (λb=>S b\/S' b) W' L T ov l:=by
 have hb:Below W.heap.size W W':=he.low;have h1:=h.up hb;refine⟨h.b.evn he,h1.row,λg hg hs=> ?_,h.np⟩;obtain⟨cur,hk⟩:=c0a h.row g hg;rcases hs with hs|hs
 ·exact h.off g hg hs
 ·exact(he.new g hs).elim (λh=>h.elim) (λh=>by have:=hk.lt;omega)
theorem OP.append (h0:OP S0 W0 S W L T ov l){o:Oper}{a:Act}{K:Act->World->Prop}{Q:Exit->Act->World->Prop}(sO xO:Operand)(t:Td)(ho:o.op= .call { callee:= .builtin .append,args:= #[sO,xO],argTypes:= #[t,t] })
 {e:Td} {s:Nat} (ht:prog.underlying t=some (.slice e)) (he:ET e s) {sv xv:Vu} {n m:Nat} (bj:a.eval sO=sv) (hv:SL S W e sv n) (aA:Own W0.heap.size sv) (aO:a.eval xO=xv) (hx:SL S W e xv m) (hl:n+m<=1000000)
 (h:∀v' S' w',OP S0 W0 S' w' L ((e,v',n+m)::T) ov l->Own W0.heap.size v'->K (a.put o.dst v') w'):Oper.wp prog o a W K Q:=by
 obtain⟨v',S',w',hr,h2,h3,h4,h5⟩:=a6j (X:=noB) h0.b.tw (ty:=o.type) ht he hv hx hl h0.b.size aA;exact yff
theorem OP.append_l (h0:OP S0 W0 S W L T ov l){ops:Array Oper}{rest:List Oper}{o:Oper}{a:Act}{Q:Exit->Act->World->Prop}(bP:o.guard=none)(sO xO:Operand)(t:Td)(ho:o.op= .call { callee:= .builtin .append,args:= #[sO,xO],argTypes:= #[t,t] })
 {e:Td} {s:Nat} (ht:prog.underlying t=some (.slice e)) (he:ET e s) {sv xv:Vu} {n m:Nat} (bj:a.eval sO=sv) (hv:SL S W e sv n) (aA:Own W0.heap.size sv) (aO:a.eval xO=xv) (hx:SL S W e xv m) (hl:n+m<=1000000)
 (h:∀v' S' w',OP S0 W0 S' w' L ((e,v',n+m)::T) ov l->Own W0.heap.size v'->wpList prog ops Q rest (a.put o.dst v') w'):wpList prog ops Q (o::rest) a W :=
 wpList_plain bP λ_ hK=>h0.append sO xO t ho ht he bj hv aA aO hx hl λv' S' w' h2 h3=>hK _ _ (h v' S' w' h2 h3)
theorem OP.append_n (h0:OP S0 W0 S W L T ov l){ops:Array Oper}{rest:List Oper}{o:Oper}{a:Act}{Q:Exit->Act->World->Prop}(bP:o.guard=none)(sO xO:Operand)(t:Td)(ho:o.op= .call { callee:= .builtin .append,args:= #[sO,xO],argTypes:= #[t,t] })
 {e:Td} {s:Nat} (ht:prog.underlying t=some (.slice e)) (he:ET e s) {v:Vu} {n:Nat} (bj:a.eval sO=v) (hv:SL S W e v n) (aA:Own W0.heap.size v) {H:Nat} (aO:a.eval xO= .slice (some ⟨H,0,none⟩) 1 1) (hH:W.heap.size=H) {c:Array Value} (hc:TB S W e c) (lq:c.size=s) (hl:n<=100000)
 (h:∀v' S' w',OP S0 W0 S' w' L ((e,v',n+1)::T) ov l->Own W0.heap.size v'->wpList prog ops Q rest (a.put o.dst v') w'):wpList prog ops Q (o::rest) a (W.alloc (.cells c e)):=by
 subst hH;have hA:=Ev.alloc (X:=noB) h0.b.tw hc;have h1:=h0.evo hA ((zR _ _).alloc h0.b.size _);exact yha
end
theorem SL.way {S:BS}{W:Wd}{b off n cap:Nat}(hT:TW S W)(h:SL S W 46 (.slice (some ⟨b,off,none⟩) n cap) n){k:Nat}(hk:k<n):∃id lv m cF cs ns st wt ds,W.cell? ⟨b,off+k*8,none⟩=some (.int .i64 id)/\W.cell? ⟨b,off+k*8+1,none⟩=some lv/\W.cell? ⟨b,off+k*8+2,none⟩=some (.int .i64 cF)/\W.cell? ⟨b,off+k*8+3,none⟩=some (.string cs)/\W.cell? ⟨b,off+k*8+4,none⟩=some (.string ns)/\W.cell? ⟨b,off+k*8+5,none⟩=some (.bool st)/\W.cell? ⟨b,off+k*8+6,none⟩=some (.int .i64 wt)/\W.cell? ⟨b,off+k*8+7,none⟩=some (.int .i64 ds) /\
 a0l id/\SL S W 41 lv m/\m<=100/\a0l cF/\cs.size<=30/\ns.size<=30/\a0l wt/\a0l ds:=by
 obtain⟨u0,c0,h0⟩:=h.cell hT a3l hk 0 .int rfl;obtain⟨u1,c1,h1⟩:=h.cell hT a3l hk 1 (.sl 41) rfl;obtain⟨u2,c2,h2⟩:=h.cell hT a3l hk 2 .int rfl;obtain⟨u3,c3,h3⟩:=h.cell hT a3l hk 3 .str rfl;obtain⟨u4,c4,h4⟩:=h.cell hT a3l hk 4 .str rfl;obtain⟨u5,c5,h5⟩:=h.cell hT a3l hk 5 .bool rfl;obtain⟨u6,c6,h6⟩:=h.cell hT a3l hk 6 .int rfl;obtain⟨u7,c7,h7⟩:=h.cell hT a3l hk 7 .int rfl;obtain⟨id,rfl,f0⟩:=h0.i rfl;obtain⟨m,hm,hl⟩:=h1.l rfl;obtain⟨cF,rfl,f2⟩:=h2.i rfl;obtain⟨cs,rfl,f3⟩:=h3.s rfl;obtain⟨ns,rfl,f4⟩:=h4.s rfl;obtain⟨st,rfl⟩:=h5.b rfl;obtain⟨wt,rfl,f6⟩:=h6.i rfl;obtain⟨ds,rfl,f7⟩:=h7.i rfl;exact⟨id,u1,m,cF,cs,ns,st,wt,ds,c0,c1,c2,c3,c4,c5,c6,c7,f0,hl,hm,f2,f3,f4,f6,f7⟩
section
variable {α:Type}{E:El α}{P:Program}{st:Td}
theorem El.append_freshO (hE:E.Ok)(hI:E.In P st)(W:Wd)(base Z:Nat)(xv:Vu)(l:List α)(ty:Td)(hZ:W.ownsRow base E.t E.s (.slice (some ⟨Z,0,none⟩) 0 0) 0 []){n0:Nat}(hx:Lst E n0 W xv l)(hf:Frm xv l.length)(hl:l.length<=100000)(hb:base<=W.heap.size) :
 ∃v' W',(Builtin.append_ #[st,st] ty #[.slice (some ⟨Z,0,none⟩) 0 0,xv]).run P W= .ok v' W'/\W'.ownsRow base E.t E.s v' l.length (l.flatMap E.enc)/\Below W.heap.size W W'/\∃g cap,v'= .slice (some ⟨g,0,none⟩) l.length cap/\(g=Z\/W.heap.size<=g):=by
 obtain⟨i0,z,bV,dm,aH,bn,gm⟩:=hI.info;by_cases an:l=[]
 ·subst an
  have hs:Src P i0.size st xv 0 [] W:=by
   exact yen
  have hr:=run_append_room_src (P:=P) W st st ty E.t i0 hI.under bV Z 0 0 0 xv 0 [] hs xM vM vM;exact⟨_,W,hr,hZ,zR _ _,Z,0,rfl,.inl rfl⟩
 ·have jW:0<l.length:=List.length_pos_iff.2 an
  obtain⟨b,off,cap,rfl,dq,bz,-⟩:=hx.some_ jW;have eM:∀j u,(l.flatMap E.enc)[j]? =some u->W.cell? ((⟨b,off,none⟩:Addr).add j)=some u:=λj u hj=>by
   exact yij
  obtain⟨v',W',hr,aA,-,-,-⟩:=run_append_own_at (P:=P) W base st ty E.t i0 _ E.s i0.bytes hI.under bV dm aH rfl gm hE.pos _ 0 [] hZ ⟨b,off,none⟩ l.length cap (l.flatMap E.enc) (a0t hE l) eM (a2q hE l) gM (Nat.le_trans (Nat.mul_le_mul (show 0+l.length<=100000 by omega) bn) jM) hb;have hs:Src P i0.size st (.slice (some ⟨b,off,none⟩) l.length cap) l.length (l.flatMap E.enc) W:=Src.ofSlice W hI.under _ _ cap _ (by rw[aH];exact a0t hE l) eM (a2q hE l);have hold:(Builtin.firstCells i0.size 0 (.slice (some ⟨Z,0,none⟩) 0 0)).run P W.drew= .ok (([]:List Value).toArray) W.drew:=run_firstCells_some W.drew i0.size 0 ⟨Z,0,none⟩ 0 0 [] vM vM;have dq:Builtin.nextslicecap (0+l.length) 0*i0.bytes<=281474976710656:=growslice_fits xM (Nat.le_trans (Nat.mul_le_mul (show 0+l.length<=100000 by omega) bn) jM);have aL:=run_append_grow_src (P:=P) W st st ty E.t i0 _ hI.under bV dm (some ⟨Z,0,none⟩) 0 0 [] hold _ l.length _ hs xM xM dq;rw[aL]at hr;injection hr with h1 h2;subst h1 h2;have ep:=aA;rw[Nat.zero_add,List.nil_append]at ep;exact⟨_,_,aL,by simpa using aA,(zR _ W).drew.alloc (yR _) _,W.heap.size,grownCap W (0+l.length) 0 E.t,by rw[Nat.zero_add],.inr (yR _)⟩
theorem El.step_freshO (hE:E.Ok)(hI:E.In P st){o:Oper}{a:Act}{w:Wd}{K:Act->World->Prop}{Q:Exit->Act->World->Prop}(s x:Operand)
 (ho:o.op= .call { callee:= .builtin .append,args:= #[s,x],argTypes:= #[st,st] })
 (base Z:Nat) (hs:a.eval s= .slice (some ⟨Z,0,none⟩) 0 0) (hZ:w.ownsRow base E.t E.s (.slice (some ⟨Z,0,none⟩) 0 0) 0 []) (xv:Vu) (l:List α) (aO:a.eval x=xv) {n0:Nat} (hx:Lst E n0 w xv l) (hf:Frm xv l.length) (hl:l.length<=100000) (hb:base<=w.heap.size)
 (h:∀v' w',w'.ownsRow base E.t E.s v' l.length (l.flatMap E.enc)->Below w.heap.size w w'->(∃g cap,v'= .slice (some ⟨g,0,none⟩) l.length cap/\(g=Z\/w.heap.size<=g))->K (a.put o.dst v') w') :
 Oper.wp P o a w K Q:=by
 obtain⟨v',w',hr,h2,h3,h4⟩:=El.append_freshO hE hI w base Z xv l o.type hZ hx hf hl hb;unfold Oper.wp execOp;simp only[ho,resolve,invoke,builtin,Sem.run_bind,Sem.run_pure,Result.andThen_ok,List.map_toArray,List.map_cons,List.map_nil,hs,aO,hr];exact h v' w' h2 h3 h4
end
structure MapR (n0:Nat)(S:BS)(W:Wd)(ev fv wv pv:Vu)(ne nf nw:Nat)(l:List Pc):Prop where
 e:SL S W 71 ev ne
 f:SL S W 43 fv nf
 w:SL S W 46 wv nw
 row:W.ownsRow n0 48 7 pv l.length (l.flatMap plE.enc)
 off:∀g,pv.ownBlock=some g->¬S g
def FCp (n0 BM BR nf:Nat)(ev fv wv pv:Vu)(l:List Pc)(i:Nat)(v:Vu)(g:BS)(w:Wd):Prop :=
 match i with
 |0=>SL g w 43 v 0/\Own n0 v
 |1=>v= .pointer (some ⟨BM,1,none⟩)
 |2=>v=fv
 |3=>SL g w 43 v nf/\Own n0 v
 |4=>∃Z,v= .slice (some ⟨Z,0,none⟩) 0 0/\n0<=Z/\Blk w Z #[] 48/\¬g Z
 |5=>v= .pointer (some ⟨BM,3,none⟩)
 |6=>v=pv
 |7=>w.ownsRow n0 48 7 v l.length (l.flatMap plE.enc)/\∀b,v.ownBlock=some b->¬g b
 |8=>∃a b,v= .agg #[.slice none 0 0,a,.slice none 0 0,b]/\(SL g w 43 a nf/\Own n0 a)/\w.ownsRow n0 48 7 b l.length (l.flatMap plE.enc)/\∀c,b.ownBlock=some c->¬g c
 |9=>∃L,v= .pointer (some ⟨L,0,none⟩)/\n0<=L/\BR<L/\Blk w L #[.slice none 0 0,.slice none 0 0,.slice none 0 0,.slice none 0 0] 32/\¬g L
 |_=>False
theorem FCp.kept {n0 BM BR nf:Nat}{ev fv wv pv:Vu}{l:List Pc}{i:Nat}{v:Vu}{g g':BS}{w w':Wd}(h:FCp n0 BM BR nf ev fv wv pv l i v g w)(hg:Ev noB g w g' w'):FCp n0 BM BR nf ev fv wv pv l i v g' w':=by
 unfold FCp at *;split at h
 all_goals first|exact h|(exact⟨hg.sl h.1,h.2⟩)|(obtain⟨Z,h1,h2,h3,h4⟩:=h;exact⟨Z,h1,h2,hg.blk h3 h4 (λh=>h),hg.not h3.lt h4⟩)|(exact hg.row h.1 h.2)|(obtain⟨a,b,h1,h2,h3⟩:=h;exact⟨a,b,h1,⟨hg.sl h2.1,h2.2⟩,hg.row h3.1 h3.2⟩)|(obtain⟨L,h1,h2,h3,h4,h5⟩:=h;exact⟨L,h1,h2,h3,hg.blk h4 h5 (λh=>h),hg.not h4.lt h5⟩)
theorem b8b (U:BS)(w:Wd)(ev fv wv pv:Vu)(ne nf nw:Nat)(l:List Pc)(hI:MapI U w ev fv wv pv ne nf nw l) :
 Calls prog 90 #[.agg #[ev,fv,wv,pv]] w λe w'=>∃S' iH iI mD iJ,e= .returned (.agg #[iH,iI,mD,iJ])/\MapR w.heap.size S' w' iH iI mD iJ ne nf nw l/\Ev noB noB w S' w':=by
 have bZ:=hI.nf;have an:=hI.ne;have je:=hI.nw;have iK:=hI.np;have h0:=(OY.init (TW.none w)).box #[ev,fv,wv,pv] 32;go_enter func90,ntmps90;go_upto_region 1 with fail;refine a0n (λW1 ao=> ?_);have h1:=h0.box #[.slice none 0 0,.slice none 0 0,.slice none 0 0,.slice none 0 0] 32;rw[show(w.alloc (.cells #[ev,fv,wv,pv] 32)).heap.size=w.heap.size+1 from by simp,<-ao]at h1;obtain⟨BR,fC⟩:=zE (w.heap.size+1);obtain⟨BM,bu⟩:=zE w.heap.size;rw[fC,bu]at h1;rw[fC,bu];have P8:BM<BR:=xM;replace h1:=h1.swap;clear h0 ao;refine Go.wp_region_reln 10 zM zM (λ_ g W=>OY noB w g W [(BM,#[ev,fv,wv,pv],32),(BR,#[.slice none 0 0,.slice none 0 0,.slice none 0 0,.slice none 0 0],32)] []) (λg W g' W'=>Ev noB g W g' W') (FCp w.heap.size BM BR nf ev fv wv pv l) (λ_ _ _ _ _ _ h g=>h.kept g) noB h1.drew ?_ ?_
 ·intro i o hi ho c bb g W hc hM hA hD K hK
  match i,hi,ho with
  |0,_,ho =>
   cases ho;have hE:=Ev.alloc (X:=noB) hM.tw (b6s (S:=g) (W:=W) (e:=43));go_simp;exact hK (.slice (some ⟨W.heap.size,0,none⟩) 0 0) _ _ ⟨SL.blk (.inr rfl) (Blk.new _ _ _) vM,b6v hM.size _⟩ hE (hM.evo hE ((zR _ _).alloc hM.size _))
  |1,_,ho =>
   cases ho;have f1:=a0a (v:= .pointer (some ⟨BM,0,none⟩)) (hA.at_ (k:=1) zM);go_simp;exact hK (.pointer (some ⟨BM,1,none⟩)) g W rfl (Ev.refl hM.tw) hM
  |2,_,ho =>
   cases ho;have f9:=a0a (v:= .pointer (some ⟨BM,1,none⟩)) (a0e hD 1 9 zM rfl rfl);have z0:W.cell? ⟨BM,1,none⟩=some (fv):=hM.b0.cell 1;go_simp;exact hK (fv) g W rfl (Ev.refl hM.tw) hM
  |3,_,ho =>
   cases ho;have f8:=a0e hD 0 8 zM rfl rfl;have f10:=a0a (v:=fv) (a0e hD 2 10 zM rfl rfl);exact hM.append_f (hM.old hI.tw) _ _ 28 rfl underlying28 a1f b2i rfl f8.1 f8.2 (a4a f10) (hM.oldS hI.tw hI.f) xM (λv9 S9 w9 h1 h2 h3=>hK v9 S9 w9 ⟨by have:=h1.s0;rwa [Nat.zero_add]at this,h2⟩ h3 h1.tailT)
  |4,_,ho =>
   cases ho;go_simp;have hb:Below W.heap.size W (W.alloc (.cells #[] 48)):=(zR _ _).alloc (yR _) _;exact hK (.slice (some ⟨W.heap.size,0,none⟩) 0 0) g _ ⟨_,rfl,hM.size,Blk.new _ _ _,λhs=>Nat.lt_irrefl _ (hM.tw.lt hs)⟩ (Ev.of_below hM.tw hb) (hM.up hb)
  |5,_,ho =>
   cases ho;have f1:=a0a (v:= .pointer (some ⟨BM,0,none⟩)) (hA.at_ (k:=1) zM);go_simp;exact hK (.pointer (some ⟨BM,3,none⟩)) g W rfl (Ev.refl hM.tw) hM
  |6,_,ho =>
   cases ho;have f13:=a0a (v:= .pointer (some ⟨BM,3,none⟩)) (a0e hD 5 13 zM rfl rfl);have z0:W.cell? ⟨BM,3,none⟩=some (pv):=hM.b0.cell 3;go_simp;exact hK (pv) g W rfl (Ev.refl hM.tw) hM
  |7,_,ho =>
   cases ho;have f12:=a0e hD 4 12 zM rfl rfl;have f14:=a0a (v:=pv) (a0e hD 6 14 zM rfl rfl);obtain⟨Z,h1,h2,h3,h4⟩:=f12;have Bf:Lst plE w.heap.size W pv l:=hI.p.below hM.bel;refine El.step_freshO a2n b9t _ _ qM w.heap.size Z h1 (a3m h3 h2) pv l (a4a f14) Bf hI.frm xM hM.size ?_;rintro v9 w9 bG eS⟨gu,cap,rfl,H2⟩;have xT:¬g gu:=λhs=>H2.elim (λe=>h4 (e▸hs)) (λh=>Nat.not_lt.2 h (hM.tw.lt hs))
   exact hK _ g w9 ⟨bG,λb hb=>by cases hb;exact xT⟩ (Ev.of_below hM.tw eS) (hM.up eS)
  |8,_,ho =>
   cases ho;have f11:=a0e hD 3 11 zM rfl rfl;have f15:=a0e hD 7 15 zM rfl rfl;obtain⟨fa,xU⟩:=zE (bb.eval (.tmp 11));obtain⟨pa,xV⟩:=zE (bb.eval (.tmp 15));rw[xU]at f11;rw[xV]at f15;have h11:=f11;have h15:=f15;obtain⟨a1,c1,rfl,-⟩:=h11.1.form;obtain⟨a2,c2,rfl,-⟩:=(a0g a2n h15.1 xM).form;have f11:=a0a xU;have f15:=a0a xV;go_simp;exact hK _ g W ⟨_,_,rfl,h11,h15⟩ (Ev.refl hM.tw) hM
  |9,_,ho =>
   cases ho;go_simp;have hb:Below W.heap.size W (W.alloc (.cells #[.slice none 0 0,.slice none 0 0,.slice none 0 0,.slice none 0 0] 32)):=(zR _ _).alloc (yR _) _;exact hK (.pointer (some ⟨W.heap.size,0,none⟩)) g _ ⟨_,rfl,hM.size,hM.b1.lt,Blk.new _ _ _,λhs=>Nat.lt_irrefl _ (hM.tw.lt hs)⟩ (Ev.of_below hM.tw hb) (hM.up hb)
  |i+10,hi,_=>exact absurd hi xM
 ·intro bb g W hM hA aa
  obtain⟨fa,pa,h16,⟨w8,sJ⟩,aN,aL⟩:=(show ∃a b,bb.eval (.tmp 16)= .agg #[.slice none 0 0,a,.slice none 0 0,b]/\(SL g W 43 a nf/\Own w.heap.size a)/\W.ownsRow w.heap.size 48 7 b l.length (l.flatMap plE.enc)/\∀c,b.ownBlock=some c->¬g c from aa 8 xM _ _ rfl rfl);obtain⟨BL,h3,Bg,Mh,th,IG⟩:=(show ∃L,bb.eval (.tmp 3)= .pointer (some ⟨L,0,none⟩)/\w.heap.size<=L/\BR<L/\Blk W L #[.slice none 0 0,.slice none 0 0,.slice none 0 0,.slice none 0 0] 32/\¬g L from aa 9 xM _ _ rfl rfl);have az:=hA.frame (rT 3 (rF 1 (rT 4 (rF 9 (rT 45 ([])))))) _ rfl zM;clear aa hA;obtain⟨f,hf⟩:=zDt bb;have g3:f 3= .pointer (some ⟨BL,0,none⟩):=by rw[<-hf,<-h3];rfl
  have g16:f 16= .agg #[.slice none 0 0,fa,.slice none 0 0,pa]:=by rw[<-hf,<-h16];rfl
  rw[hf]at az;clear hf h3 h16;subst az;simp only[rT,rF,a1j,g3,g16,Nat.reduceAdd];clear g3 g16;simp only[zU];clear h1;obtain⟨l0,l1,l2,l3⟩:=a1o th;have z0:=th.frozen 0;have z1:=th.frozen 1;have z2:=th.frozen 2;have z3:=th.frozen 3;obtain⟨ti,tj,rfl,IH⟩:=w8.form;obtain⟨tm,tn,rfl,AZ⟩:=(a0g a2n aN xM).form;have jz:OP noB w g W [(BL,#[.slice none 0 0,.slice none 0 0,.slice none 0 0,.slice none 0 0],32),(BM,#[ev,fv,wv,pv],32),(BR,#[.slice none 0 0,.slice none 0 0,.slice none 0 0,.slice none 0 0],32)] [(43,.slice ti nf tj,nf)] (.slice tm l.length tn) l :=
   ⟨(hM.known th IG Bg uM).add w8,aN,aL,by simp⟩
  clear hM aN aL th IG w8;go_upto_region 2 with fail;refine a0n (λW2 bQ=> ?_);have eC:=(((jz.put rfl rfl).put rfl rfl).put rfl rfl).put bQ rfl;clear bQ jz l0 l1 l2 l3 z0 z1 z2 z3;simp at eC;go_wp2_with fail;go_loopw [4] (λkk wr=>∃(k:Nat) (S:BS) (e1:Vu),k<=ne/\kk= .int .i64 (k:Nat)/\OP noB w S wr [(BL,#[e1,.slice ti nf tj,.slice none 0 0,.slice tm l.length tn],32),(BM,#[ev,fv,wv,pv],32),(BR,#[.slice none 0 0,.slice none 0 0,.slice none 0 0,.slice none 0 0],32)] [(71,e1,k),(43,.slice ti nf tj,nf)] (.slice tm l.length tn) l/\Own w.heap.size e1) (λkk _=>ne-(intOf kk).toNat)
  case atStart=>exact⟨0,g,.slice none 0 0,Nat.zero_le _,rfl,eC.add (SL.nil _ _ _),b0o _⟩
  case round =>
   obtain⟨k,S,e1,hk,rfl,hP,aA⟩:=hrel;have jZ:=hI.up hP.b.bel;obtain⟨m0,m1,m2,m3⟩:=a1o hP.b.b1;by_cases ab:k<ne
   ·have aj:(k:Int)<(ne:Int):=xM
    obtain⟨eb,eo,ec,rfl,sX,-⟩:=jZ.e.some_ xM;obtain⟨id,ll,rr,lv,m,c0,c1,c2,c3,f0,f2,f3,aC,hm⟩:=SL.edge jZ.tw jZ.e ab;obtain⟨la,lc,rfl,dZ⟩:=aC.form;have DA:IntKind.i64.wrap ((k:Int)+1)=((k+1:Nat):Int):=by rw[a0p xM xM];omega
    go_upto_region 6 with fail;refine a0n (λWE gD=> ?_);have dN:=hP.box #[.int .i64 id,.slice la m lc,.int .i64 ll,.int .i64 rr] 71 jM;obtain⟨BE,jX⟩:=zE wr.heap.size;have nx:Below wr.heap.size wr WE:=by rw[gD];exact(zR _ _).alloc (yR _) _
    rw[<-gD,jX]at dN;rw[jX];have xW:=jZ.up nx;have jf:=a3e nx (λb hb=>jZ.tw.lt hb) aC;clear hP gD jX c0 c1 c2 c3 m0 m1 m2 m3 jZ aC nx;have kE:=dN.b.b0;have k1:=kE.cell 1;go_upto_region 7 with(first
     |(go_at_call 116;(with_reducible refine(a9r U WE xW.tw _ m jf xM).mono ?_);rintro e WL⟨S3,v3,rfl,lN,nC⟩;obtain⟨a3,c3,rfl,lM⟩:=lN.form;have iL:=dN.evn nC;have q1:=iL.b.b0.cell 1;have y1:=iL.b.b0.frozen 1))
    refine a0n (λWM rG=> ?_);have dM:=(iL.add (a8i lN)).put rG rfl;simp at dM;clear dN iL rG q1 y1 nC lN jf kE k1 xW;obtain⟨bH,gz,rfl,tp⟩:=dM.b.s1.form;obtain⟨q0,q1,q2,q3⟩:=ed4 dM.b.b0;have q4:WM.cell? ⟨BL,0,none⟩=some _:=dM.b.b1.cell 0;obtain⟨HS,tq⟩:=zE WM.heap.size;go_wp2_with (first
     |(at_builtin;refine dM.append_n qM _ _ 27 qM underlying27 a1u qM dM.b.s1 aA qM tq (a8e f0 f2 f3 dM.b.s0 hm) rfl xM ?_;intro e9 S9 W9 cV gL;obtain⟨DB,DC,rfl,DD⟩:=cV.b.s0.form;have y4:=cV.b.b1.frozen 0;have q5:W9.cell? ⟨BL,0,none⟩=some _:=cV.b.b1.cell 0))
    refine⟨⟨k+1,S9,.slice DB (k+1) DC,ab,rfl,(cV.tail.put rfl rfl).sub vM,gL⟩,?_⟩;exact ygy
   ·have aT:((k:Int)<(ne:Int))=False:=by simp;omega
    obtain rfl:k=ne:=xM;obtain⟨ea,ec,rfl,sX⟩:=hI.e.form;obtain⟨fb,Mi,rfl,-⟩:=hI.f.form;clear jZ eC Bg Mh;go_wp2_with fail;go_loopw [6] (λkk wr=>∃(j:Nat) (S:BS) (w1:Vu),j<=nw/\kk= .int .i64 (j:Nat)/\OP noB w S wr [(BL,#[e1,.slice ti nf tj,w1,.slice tm l.length tn],32),(BM,#[.slice ea k ec,.slice fb nf Mi,wv,pv],32),(BR,#[.slice none 0 0,.slice none 0 0,.slice none 0 0,.slice none 0 0],32)] [(46,w1,j),(71,e1,k),(43,.slice ti nf tj,nf)] (.slice tm l.length tn) l/\Own w.heap.size w1) (λkk _=>nw-(intOf kk).toNat)
    case atStart=>exact⟨0,S,.slice none 0 0,Nat.zero_le _,rfl,hP.add (SL.nil _ _ _),b0o _⟩
    case round =>
     clear hP m0 m1 m2 m3;obtain⟨j,S,w1,hj,rfl,hP,aA⟩:=hrel;have jZ:=hI.up hP.b.bel;obtain⟨m0,m1,m2,m3⟩:=a1o hP.b.b1;by_cases ab:j<nw
     ·have aj:(j:Int)<(nw:Int):=xM
      obtain⟨wb,wo,wc,rfl,DE,-⟩:=jZ.w.some_ xM;obtain⟨id,lv,m,cF,cs,ns,st,wt,ds,c0,c1,c2,c3,c4,c5,c6,c7,f0,aC,hm,f2,f3,f4,f6,f7⟩:=SL.way jZ.tw jZ.w ab;obtain⟨la,lc,rfl,dZ⟩:=aC.form;have DA:IntKind.i64.wrap ((j:Int)+1)=((j+1:Nat):Int):=by rw[a0p xM xM];omega
      go_upto_region 12 with fail;refine a0n (λWE gD=> ?_);have dN:=hP.box (b6u id (.slice la m lc) cF cs ns st wt ds) 46 jM;obtain⟨BE,jX⟩:=zE wr.heap.size;have nx:Below wr.heap.size wr WE:=by rw[gD];exact(zR _ _).alloc (yR _) _
      rw[<-gD,jX]at dN;rw[jX];have xW:=jZ.up nx;have jf:=a3e nx (λb hb=>jZ.tw.lt hb) aC;clear hP gD jX c0 c1 c2 c3 c4 c5 c6 c7 m0 m1 m2 m3 jZ aC nx;have kE:=dN.b.b0;have k1:WE.cell? ⟨BE,1,none⟩=some (.slice la m lc):=kE.cell 1;go_upto_region 13 with(first
       |(go_at_call 116;(with_reducible refine(a9r U WE xW.tw _ m jf xM).mono ?_);rintro e WL⟨S3,v3,rfl,lN,nC⟩;obtain⟨a3,c3,rfl,lM⟩:=lN.form;have iL:=dN.evn nC;have q1:=iL.b.b0.cell 1;have y1:=iL.b.b0.frozen 1))
      refine a0n (λWM rG=> ?_);have dM:OP _ _ _ _ ((BE,b6u id (.slice a3 m c3) cF cs ns st wt ds,_)::_) _ _ _:=(iL.add (a8i lN)).put rG rfl;clear dN iL rG q1 y1 nC lN jf kE k1 xW;obtain⟨DF,DG,rfl,DH⟩:=dM.b.s1.form;obtain⟨q0,q1,q2,q3,q4,q5,q6,q7⟩:=a4h dM.b.b0;have q8:WM.cell? ⟨BL,2,none⟩=some _:=dM.b.b1.cell 2;obtain⟨HS,tq⟩:=zE WM.heap.size;go_wp2_with (first
       |(at_builtin;refine dM.append_n qM _ _ 29 qM underlying29 a3l qM dM.b.s1 aA qM tq (b9z f0 f2 f3 f4 f6 f7 dM.b.s0 hm) rfl xM ?_;intro e9 S9 W9 cV gL;obtain⟨DB,DC,rfl,DD⟩:=cV.b.s0.form;have y4:=cV.b.b1.frozen 2;have q5:W9.cell? ⟨BL,2,none⟩=some _:=cV.b.b1.cell 2))
      refine⟨⟨j+1,S9,.slice DB (j+1) DC,ab,rfl,(cV.tail.put rfl rfl).sub vM,gL⟩,?_⟩;exact ygy
     ·have aT:((j:Int)<(nw:Int))=False:=by simp;omega
      obtain rfl:j=nw:=xM;obtain⟨wa,P9,rfl,-⟩:=hI.w.form;obtain⟨bH,gz,rfl,tp⟩:=hP.b.s1.form;obtain⟨DF,DG,rfl,DH⟩:=hP.b.s0.form;obtain⟨b0,b1,b2,b3⟩:=a1o hP.b.b0;obtain⟨r0,r1,r2,r3⟩:=a1o hP.b.b2;have z0:=hP.b.b2.frozen 0;have z1:=hP.b.b2.frozen 1;have z2:=hP.b.b2.frozen 2;have z3:=hP.b.b2.frozen 3;have hX:=((((hP.tail.swap.put (i:=0) (v:= .slice bH k gz) rfl rfl).put (i:=1) (v:= .slice ti nf tj) rfl rfl).put (i:=2) (v:= .slice DF j DG) rfl rfl).put (i:=3) (v:= .slice tm l.length tn) (c':= #[.slice bH k gz,.slice ti nf tj,.slice DF j DG,.slice tm l.length tn]) rfl rfl);clear jZ m0 m1 m3 hP aA hI;go_wp2_with fail;exact bodyPost_ret (results_cell_row qM _ _ BR 32 _ (0,0) _ qM hX.b.b0 underlying32 qM zM) rfl ⟨S,_,_,_,_,rfl,⟨hX.b.s1,hX.b.s2,hX.b.s0,hX.row,hX.off⟩,hX.b.o.ev⟩
end
end Go.Proofs.YteijfnkidefekaaGreat
