/-
  Parts.
-/
import Derived.Test.YtfocdbjceedagaaGreatDoorXbk
set_option linter.unusedVariables false
set_option linter.unusedSimpArgs false
set_option maxHeartbeats 8000000
set_option maxRecDepth 100000
namespace Go.Proofs.YtfocdbjceedagaaGreatDoor
open Tryz
section
open Go Go.RowKit Go.Shelf
attribute [local go_sem] Oper.semAt_some
attribute [local go_sem ↓] Go.wp_at_zero Go.wp_at_succ
theorem Ev.row {S S':BS}{W W':World}(h:Ev noB S W S' W'){base:Nat}{e:TypeId}{s:Nat}{v:Value}{n:Nat}{xs:List Value}(hr:W.ownsRow base e s v n xs)(ho:∀b,v.ownBlock=some b→¬S b):W'.ownsRow base e s v n xs∧∀b,v.ownBlock=some b→¬S' b:=by
 obtain⟨h1,h2⟩:=hr;rcases h2 with ⟨rfl,h3⟩|⟨g,cap,cur,rfl,h3,h4,h5⟩
 ·exact⟨⟨h1,.inl ⟨rfl,h3⟩⟩,fun b e=>by cases e⟩
 ·have hb:Blk W g cur e:=h4
  have hn:¬S g:=ho g rfl;exact⟨⟨h1,.inr ⟨g,cap,cur,rfl,h3,h.blk hb hn (fun h=>h),h5⟩⟩,fun b e=>by cases e;exact h.not hb.lt hn⟩
theorem d3k {W:World}{base:Nat}{e:TypeId}{s:Nat}{v:Value}{n:Nat}{xs:List Value}(hr:W.ownsRow base e s v n xs):∀g,v.ownBlock=some g→∃cur,Blk W g cur e:=fun g hg=>by
 rcases hr.2 with ⟨rfl,h3⟩|⟨g',cap,cur,rfl,h3,h4,h5⟩
 ·cases hg
 ·cases hg;exact⟨cur,h4⟩
theorem a0y {S:BS}{W:World}{e:TypeId}{v:Value}{n m:Nat}(h:SL S W e v n)(hS:∀b,S b→m≤b):Own m v:=fun a k c e=>by
 obtain⟨a',c',e',-,h2⟩:=h;rw[e'] at e
 cases e;rcases h2 with ⟨e3,-⟩|⟨b,o,c2,e3,hb,-⟩
 ·cases e3
 ·cases e3;exact hS b hb
theorem OY.known {S0 S:BS}{W0 W:World}{L:a8t}{T:SlL}{B:Nat}{c:Array Value}{t:TypeId}(h:OY S0 W0 S W L T)(hk:Blk W B c t)(hS:¬S B)(hB:W0.heap.size≤B)(hne:∀p∈L,p.1≠B):OY S0 W0 S W ((B,c,t)::L) T :=
 ⟨⟨h.o.ev,fun p hp=>by
   rcases List.mem_cons.1 hp with rfl|hp
   ·exact⟨hk,hS,hB⟩
   ·exact h.o.bx p hp,by
   rw[List.map_cons];exact List.nodup_cons.2 ⟨fun hm=>by
    obtain⟨p,hp,e⟩:=List.mem_map.1 hm;exact hne p hp e,h.o.ne⟩,h.o.sl⟩,h.bel⟩
theorem OY.sub {S0 S:BS}{W0 W:World}{L:a8t}{T T':SlL}(h:OY S0 W0 S W L T)(hs:∀q∈T',q∈T):OY S0 W0 S W L T':=⟨⟨h.o.ev,h.o.bx,h.o.ne,fun q hq=>h.o.sl q (hs q hq)⟩,h.bel⟩
structure MapI (U:BS)(W:World)(ev fv wv pv:Value)(ne nf nw:Nat)(l:List Pc):Prop where
 tw:TW U W
 e:SL U W 206 ev ne
 f:SL U W 140 fv nf
 w:SL U W 149 wv nw
 p:Lst plE W.heap.size W pv l
 frm:Frm pv l.length
 ne:ne≤1000
 nf:nf≤1000
 nw:nw≤1000
 np:l.length≤1000
theorem MapI.up {U:BS}{W W':World}{ev fv wv pv:Value}{ne nf nw:Nat}{l:List Pc}(h:MapI U W ev fv wv pv ne nf nw l)(hb:Below W.heap.size W W'):MapI U W' ev fv wv pv ne nf nw l :=
 have hU:=fun b hb=>h.tw.lt (b:=b) hb
 ⟨a6g h.tw hb hU,a2x hb hU h.e,a2x hb hU h.f,a2x hb hU h.w,h.p.up hb,h.frm,h.ne,h.nf,h.nw,h.np⟩
structure OP (S0:BS)(W0:World)(S:BS)(W:World)(L:a8t)(T:SlL)(ov:Value)(l:List Pc):Prop where
 b:OY S0 W0 S W L T
 row:W.ownsRow W0.heap.size 66 7 ov l.length (l.flatMap plE.enc)
 off:∀g,ov.ownBlock=some g→¬S g
 np:∀p∈L,p.2.2≠66
section
variable {S0 S S':BS}{W0 W W':World}{L:a8t}{T:SlL}{B i:Nat}{c c':Array Value}{t e:TypeId}{ov v:Value}{l:List Pc}{p:Nat×Array Value×TypeId}{n:Nat}
theorem OP.evo (h:OP S0 W0 S W L T ov l)(he:Ev noB S W S' W')(hb:Below W0.heap.size W W'):OP S0 W0 S' W' L T ov l:=by
 obtain⟨h1,h2⟩:=he.row h.row h.off;exact⟨h.b.evo he hb,h1,h2,h.np⟩
theorem OP.up (h:OP S0 W0 S W L T ov l)(hb:Below W.heap.size W W'):OP S0 W0 S W' L T ov l:=h.evo (Ev.of_below h.b.tw hb) (hb.mono h.b.size)
theorem OP.box (h:OP S0 W0 S W L T ov l)(c:Array Value)(t:TypeId)(ht:t≠66):OP S0 W0 S (W.alloc (.cells c t)) ((W.heap.size,c,t)::L) T ov l:=by
 have hb:Below W.heap.size W (W.alloc (.cells c t)):=(zR _ _).alloc (yR _) _;have h1:=h.up hb;exact⟨h.b.box c t,h1.row,h1.off,fun p hp=>by
  rcases List.mem_cons.1 hp with rfl|hp
  ·exact ht
  ·exact h.np p hp⟩
theorem OP.add (h:OP S0 W0 S W L T ov l){e:TypeId}{v:Value}{n:Nat}(hv:SL S W e v n):OP S0 W0 S W L ((e,v,n)::T) ov l:=⟨h.b.add hv,h.row,h.off,h.np⟩
theorem OP.tail (h:OP S0 W0 S W (p::L) T ov l):OP S0 W0 S W L T ov l:=⟨h.b.tail,h.row,h.off,fun q hq=>h.np q (List.mem_cons_of_mem _ hq)⟩
theorem OP.sub {T':SlL}(h:OP S0 W0 S W L T ov l)(hs:∀q∈T',q∈T):OP S0 W0 S W L T' ov l:=⟨h.b.sub hs,h.row,h.off,h.np⟩
theorem OP.swap {q:Nat×Array Value×TypeId}(h:OP S0 W0 S W (p::q::L) T ov l):OP S0 W0 S W (q::p::L) T ov l:=⟨h.b.swap,h.row,h.off,fun r hr=>h.np r (by
 rcases List.mem_cons.1 hr with rfl|hr
 ·exact List.mem_cons_of_mem _ (List.mem_cons_self ..)
 ·rcases List.mem_cons.1 hr with rfl|hr
  ·exact List.mem_cons_self ..
  ·exact List.mem_cons_of_mem _ (List.mem_cons_of_mem _ hr))⟩
theorem OP.put {v:Value}(h:OP S0 W0 S W ((B,c,t)::L) T ov l)(hW:W'=W.setCell ⟨B,i,none⟩ v)(hc:c.setIfInBounds i v=c'):OP S0 W0 S W' ((B,c',t)::L) T ov l:=by
 subst hW;refine⟨h.b.set i v hc,a0x h.row (a1g W B i v) ?_,h.off,fun p hp=> ?_⟩
 ·intro g hg
  cases hg;refine⟨_,h.b.b0,fun cur e2=> ?_⟩;have:=h.np _ (List.mem_cons_self ..);simp only[Obj.cells.injEq] at e2;exact this e2.2.1
 ·rcases List.mem_cons.1 hp with rfl|hp
  ·exact h.np (B,c,t) (List.mem_cons_self ..)
  ·exact h.np p (List.mem_cons_of_mem _ hp)
theorem OP.evn (h:OP noB W0 S W L T ov l)(he:Ev noB noB W S' W'):OP noB W0 (fun b=>S b∨S' b) W' L T ov l:=by
 have hb:Below W.heap.size W W':=he.low;have h1:=h.up hb;refine⟨h.b.evn he,h1.row,fun g hg hs=> ?_,h.np⟩;obtain⟨cur,hk⟩:=d3k h.row g hg;rcases hs with hs|hs
 ·exact h.off g hg hs
 ·exact (he.new g hs).elim (fun h=>h.elim) (fun h=>by have:=hk.lt;omega)
theorem OP.append (h0:OP S0 W0 S W L T ov l){o:Oper}{a:Act}{K:Act→World→Prop}{Q:Exit→Act→World→Prop}(sO xO:Operand)(t:TypeId)(ho:o.op= .call { callee:= .builtin .append,args:= #[sO,xO],argTypes:= #[t,t] })
 {e:TypeId} {s:Nat} (ht:prog.underlying t=some (.slice e)) (he:ET e s) {sv xv:Value} {n m:Nat} (hsv:a.eval sO=sv) (hv:SL S W e sv n) (hown:Own W0.heap.size sv) (hxv:a.eval xO=xv) (hx:SL S W e xv m) (hl:n+m≤1000000)
 (h:∀v' S' w',OP S0 W0 S' w' L ((e,v',n+m)::T) ov l→Own W0.heap.size v'→K (a.put o.dst v') w'):Oper.wp prog o a W K Q:=by
 obtain⟨v',S',w',hr,h2,h3,h4,h5⟩:=a8v (X:=noB) h0.b.tw (ty:=o.type) ht he hv hx hl h0.b.size hown;unfold Oper.wp execOp;simp only[ho,resolve,invoke,builtin,Sem.run_bind,Sem.run_pure,Result.andThen_ok,List.map_toArray,List.map_cons,List.map_nil,hsv,hxv,hr];exact h v' S' w' ((h0.evo h3 h4).add h2) h5
theorem OP.append_l (h0:OP S0 W0 S W L T ov l){ops:Array Oper}{rest:List Oper}{o:Oper}{a:Act}{Q:Exit→Act→World→Prop}(hgd:o.guard=none)(sO xO:Operand)(t:TypeId)(ho:o.op= .call { callee:= .builtin .append,args:= #[sO,xO],argTypes:= #[t,t] })
 {e:TypeId} {s:Nat} (ht:prog.underlying t=some (.slice e)) (he:ET e s) {sv xv:Value} {n m:Nat} (hsv:a.eval sO=sv) (hv:SL S W e sv n) (hown:Own W0.heap.size sv) (hxv:a.eval xO=xv) (hx:SL S W e xv m) (hl:n+m≤1000000)
 (h:∀v' S' w',OP S0 W0 S' w' L ((e,v',n+m)::T) ov l→Own W0.heap.size v'→wpList prog ops Q rest (a.put o.dst v') w'):wpList prog ops Q (o::rest) a W :=
 wpList_plain hgd fun _ hK=>h0.append sO xO t ho ht he hsv hv hown hxv hx hl fun v' S' w' h2 h3=>hK _ _ (h v' S' w' h2 h3)
theorem OP.append_n (h0:OP S0 W0 S W L T ov l){ops:Array Oper}{rest:List Oper}{o:Oper}{a:Act}{Q:Exit→Act→World→Prop}(hgd:o.guard=none)(sO xO:Operand)(t:TypeId)(ho:o.op= .call { callee:= .builtin .append,args:= #[sO,xO],argTypes:= #[t,t] })
 {e:TypeId} {s:Nat} (ht:prog.underlying t=some (.slice e)) (he:ET e s) {v:Value} {n:Nat} (hsv:a.eval sO=v) (hv:SL S W e v n) (hown:Own W0.heap.size v) {H:Nat} (hxv:a.eval xO= .slice (some ⟨H,0,none⟩) 1 1) (hH:W.heap.size=H) {c:Array Value} (hc:TB S W e c) (hcs:c.size=s) (hl:n≤100000)
 (h:∀v' S' w',OP S0 W0 S' w' L ((e,v',n+1)::T) ov l→Own W0.heap.size v'→wpList prog ops Q rest (a.put o.dst v') w'):wpList prog ops Q (o::rest) a (W.alloc (.cells c e)):=by
 subst hH;have hA:=Ev.alloc (X:=noB) h0.b.tw hc;have h1:=h0.evo hA ((zR _ _).alloc h0.b.size _);exact h1.append_l hgd sO xO t ho ht he hsv (hA.sl hv) hown hxv (SL.blk (.inr rfl) (Blk.new W c e) (by rw[he.size,hcs,Nat.one_mul];exact yR _)) (by omega) h
end
theorem SL.way {S:BS}{W:World}{b off n cap:Nat}(hT:TW S W)(h:SL S W 149 (.slice (some ⟨b,off,none⟩) n cap) n){k:Nat}(hk:k<n):∃id lv m lev cs ns st wt ds,W.cell? ⟨b,off+k*8,none⟩=some (.int .i64 id)∧W.cell? ⟨b,off+k*8+1,none⟩=some lv∧W.cell? ⟨b,off+k*8+2,none⟩=some (.int .i64 lev)∧W.cell? ⟨b,off+k*8+3,none⟩=some (.string cs)∧W.cell? ⟨b,off+k*8+4,none⟩=some (.string ns)∧W.cell? ⟨b,off+k*8+5,none⟩=some (.bool st)∧W.cell? ⟨b,off+k*8+6,none⟩=some (.int .i64 wt)∧W.cell? ⟨b,off+k*8+7,none⟩=some (.int .i64 ds) ∧
 a0k id∧SL S W 26 lv m∧m≤100∧a0k lev∧cs.size≤30∧ns.size≤30∧a0k wt∧a0k ds:=by
 obtain⟨u0,c0,h0⟩:=h.cell hT a4b hk 0 .int rfl;obtain⟨u1,c1,h1⟩:=h.cell hT a4b hk 1 (.sl 26) rfl;obtain⟨u2,c2,h2⟩:=h.cell hT a4b hk 2 .int rfl;obtain⟨u3,c3,h3⟩:=h.cell hT a4b hk 3 .str rfl;obtain⟨u4,c4,h4⟩:=h.cell hT a4b hk 4 .str rfl;obtain⟨u5,c5,h5⟩:=h.cell hT a4b hk 5 .bool rfl;obtain⟨u6,c6,h6⟩:=h.cell hT a4b hk 6 .int rfl;obtain⟨u7,c7,h7⟩:=h.cell hT a4b hk 7 .int rfl;obtain⟨id,rfl,f0⟩:=h0.i rfl;obtain⟨m,hm,hl⟩:=h1.l rfl;obtain⟨lev,rfl,f2⟩:=h2.i rfl;obtain⟨cs,rfl,f3⟩:=h3.s rfl;obtain⟨ns,rfl,f4⟩:=h4.s rfl;obtain⟨st,rfl⟩:=h5.b rfl;obtain⟨wt,rfl,f6⟩:=h6.i rfl;obtain⟨ds,rfl,f7⟩:=h7.i rfl;exact⟨id,u1,m,lev,cs,ns,st,wt,ds,c0,c1,c2,c3,c4,c5,c6,c7,f0,hl,hm,f2,f3,f4,f6,f7⟩
section
variable {α:Type}{E:El α}{P:Program}{st:TypeId}
theorem El.append_freshO (hE:E.Ok)(hI:E.In P st)(W:World)(base Z:Nat)(xv:Value)(l:List α)(ty:TypeId)(hZ:W.ownsRow base E.t E.s (.slice (some ⟨Z,0,none⟩) 0 0) 0 []){n0:Nat}(hx:Lst E n0 W xv l)(hf:Frm xv l.length)(hl:l.length≤100000)(hb:base≤W.heap.size) :
 ∃v' W',(Builtin.append_ #[st,st] ty #[.slice (some ⟨Z,0,none⟩) 0 0,xv]).run P W= .ok v' W'∧W'.ownsRow base E.t E.s v' l.length (l.flatMap E.enc)∧Below W.heap.size W W'∧∃g cap,v'= .slice (some ⟨g,0,none⟩) l.length cap∧(g=Z∨W.heap.size≤g):=by
 obtain⟨i0,z,hi0,hz0,hz1,hz2,hz3⟩:=hI.info;by_cases hne:l=[]
 ·subst hne
  have hs:Src P i0.size st xv 0 [] W:=by
   rcases hf with rfl|⟨b,off,cap,rfl⟩
   ·exact Src.ofNil W hI.under 0
   ·exact Src.ofSlice W hI.under _ 0 cap [] (by simp) (by simp) (by simp)
  have hr:=run_append_room_src (P:=P) W st st ty E.t i0 hI.under hi0 Z 0 0 0 xv 0 [] hs (by omega) (by simp) (by simp);exact⟨_,W,hr,hZ,zR _ _,Z,0,rfl,.inl rfl⟩
 ·have hpos:0<l.length:=List.length_pos_iff.2 hne
  obtain⟨b,off,cap,rfl,hcap,hbn,-⟩:=hx.some_ hpos;have hnews:∀j u,(l.flatMap E.enc)[j]? =some u→W.cell? ((⟨b,off,none⟩:Addr).add j)=some u:=fun j u hj=>by
   rw[Addr.add_lit];exact hx.flat hE j u hj
  obtain⟨v',W',hr,hown,-,-,-⟩:=run_append_own_at (P:=P) W base st ty E.t i0 _ E.s i0.bytes hI.under hi0 hz0 hz1 rfl hz3 hE.pos _ 0 [] hZ ⟨b,off,none⟩ l.length cap (l.flatMap E.enc) (a1c hE l) hnews (a4x hE l) (by unfold maxLen;omega) (Nat.le_trans (Nat.mul_le_mul (show 0+l.length≤100000 by omega) hz2) (by decide)) hb;have hs:Src P i0.size st (.slice (some ⟨b,off,none⟩) l.length cap) l.length (l.flatMap E.enc) W:=Src.ofSlice W hI.under _ _ cap _ (by rw[hz1];exact a1c hE l) hnews (a4x hE l);have hold:(Builtin.firstCells i0.size 0 (.slice (some ⟨Z,0,none⟩) 0 0)).run P W.drew= .ok (([]:List Value).toArray) W.drew:=run_firstCells_some W.drew i0.size 0 ⟨Z,0,none⟩ 0 0 [] (by simp) (by simp);have hcap:Builtin.nextslicecap (0+l.length) 0*i0.bytes≤281474976710656:=growslice_fits (by omega) (Nat.le_trans (Nat.mul_le_mul (show 0+l.length≤100000 by omega) hz2) (by decide));have hr2:=run_append_grow_src (P:=P) W st st ty E.t i0 _ hI.under hi0 hz0 (some ⟨Z,0,none⟩) 0 0 [] hold _ l.length _ hs (by omega) (by omega) hcap;rw[hr2] at hr;injection hr with h1 h2;subst h1 h2;have hown':=hown;rw[Nat.zero_add,List.nil_append] at hown';exact⟨_,_,hr2,by simpa using hown,(zR _ W).drew.alloc (yR _) _,W.heap.size,grownCap W (0+l.length) 0 E.t,by rw[Nat.zero_add],.inr (yR _)⟩
theorem El.step_freshO (hE:E.Ok)(hI:E.In P st){o:Oper}{a:Act}{w:World}{K:Act→World→Prop}{Q:Exit→Act→World→Prop}(s x:Operand)
 (ho:o.op= .call { callee:= .builtin .append,args:= #[s,x],argTypes:= #[st,st] })
 (base Z:Nat) (hs:a.eval s= .slice (some ⟨Z,0,none⟩) 0 0) (hZ:w.ownsRow base E.t E.s (.slice (some ⟨Z,0,none⟩) 0 0) 0 []) (xv:Value) (l:List α) (hxv:a.eval x=xv) {n0:Nat} (hx:Lst E n0 w xv l) (hf:Frm xv l.length) (hl:l.length≤100000) (hb:base≤w.heap.size)
 (h:∀v' w',w'.ownsRow base E.t E.s v' l.length (l.flatMap E.enc)→Below w.heap.size w w'→(∃g cap,v'= .slice (some ⟨g,0,none⟩) l.length cap∧(g=Z∨w.heap.size≤g))→K (a.put o.dst v') w') :
 Oper.wp P o a w K Q:=by
 obtain⟨v',w',hr,h2,h3,h4⟩:=El.append_freshO hE hI w base Z xv l o.type hZ hx hf hl hb;unfold Oper.wp execOp;simp only[ho,resolve,invoke,builtin,Sem.run_bind,Sem.run_pure,Result.andThen_ok,List.map_toArray,List.map_cons,List.map_nil,hs,hxv,hr];exact h v' w' h2 h3 h4
end
structure MapR (n0:Nat)(S:BS)(W:World)(ev fv wv pv:Value)(ne nf nw:Nat)(l:List Pc):Prop where
 e:SL S W 206 ev ne
 f:SL S W 140 fv nf
 w:SL S W 149 wv nw
 row:W.ownsRow n0 66 7 pv l.length (l.flatMap plE.enc)
 off:∀g,pv.ownBlock=some g→¬S g
def FCp (n0 BM BR nf:Nat)(ev fv wv pv:Value)(l:List Pc)(i:Nat)(v:Value)(g:BS)(w:World):Prop :=
 match i with
 |0=>SL g w 140 v 0∧Own n0 v
 |1=>v= .pointer (some ⟨BM,1,none⟩)
 |2=>v=fv
 |3=>SL g w 140 v nf∧Own n0 v
 |4=>∃Z,v= .slice (some ⟨Z,0,none⟩) 0 0∧n0≤Z∧Blk w Z #[] 66∧¬g Z
 |5=>v= .pointer (some ⟨BM,3,none⟩)
 |6=>v=pv
 |7=>w.ownsRow n0 66 7 v l.length (l.flatMap plE.enc)∧∀b,v.ownBlock=some b→¬g b
 |8=>∃a b,v= .agg #[.slice none 0 0,a,.slice none 0 0,b]∧(SL g w 140 a nf∧Own n0 a)∧w.ownsRow n0 66 7 b l.length (l.flatMap plE.enc)∧∀c,b.ownBlock=some c→¬g c
 |9=>∃L,v= .pointer (some ⟨L,0,none⟩)∧n0≤L∧BR<L∧Blk w L #[.slice none 0 0,.slice none 0 0,.slice none 0 0,.slice none 0 0] 37∧¬g L
 |_=>False
theorem FCp.kept {n0 BM BR nf:Nat}{ev fv wv pv:Value}{l:List Pc}{i:Nat}{v:Value}{g g':BS}{w w':World}(h:FCp n0 BM BR nf ev fv wv pv l i v g w)(hg:Ev noB g w g' w'):FCp n0 BM BR nf ev fv wv pv l i v g' w':=by
 unfold FCp at *;split at h
 all_goals first|exact h|(exact⟨hg.sl h.1,h.2⟩)|(obtain⟨Z,h1,h2,h3,h4⟩:=h;exact⟨Z,h1,h2,hg.blk h3 h4 (fun h=>h),hg.not h3.lt h4⟩)|(exact hg.row h.1 h.2)|(obtain⟨a,b,h1,h2,h3⟩:=h;exact⟨a,b,h1,⟨hg.sl h2.1,h2.2⟩,hg.row h3.1 h3.2⟩)|(obtain⟨L,h1,h2,h3,h4,h5⟩:=h;exact⟨L,h1,h2,h3,hg.blk h4 h5 (fun h=>h),hg.not h4.lt h5⟩)
theorem a1j (U:BS)(w:World)(ev fv wv pv:Value)(ne nf nw:Nat)(l:List Pc)(hI:MapI U w ev fv wv pv ne nf nw l) :
 Calls prog 76 #[.agg #[ev,fv,wv,pv]] w fun e w'=>∃S' ev' fv' wv' pv',e= .returned (.agg #[ev',fv',wv',pv'])∧MapR w.heap.size S' w' ev' fv' wv' pv' ne nf nw l∧Ev noB noB w S' w':=by
 have hnf:=hI.nf;have hne:=hI.ne;have hnw:=hI.nw;have hnp:=hI.np;have h0:=(OY.init (TW.none w)).box #[ev,fv,wv,pv] 37;go_enter func76,ntmps76;go_upto_region 1 with fail;refine a0g (fun W1 hW1=> ?_);have h1:=h0.box #[.slice none 0 0,.slice none 0 0,.slice none 0 0,.slice none 0 0] 37;rw[show (w.alloc (.cells #[ev,fv,wv,pv] 37)).heap.size=w.heap.size+1 from by simp,←hW1] at h1;obtain⟨BR,hBR⟩:∃b,w.heap.size+1=b:=⟨_,rfl⟩;obtain⟨BM,hBM⟩:∃b,w.heap.size=b:=⟨_,rfl⟩;rw[hBR,hBM] at h1;rw[hBR,hBM];have hMR:BM<BR:=by omega
 replace h1:=h1.swap;clear h0 hW1;refine Go.wp_region_reln 10 (by kernel_rfl) (by kernel_rfl) (fun _ g W=>OY noB w g W [(BM,#[ev,fv,wv,pv],37),(BR,#[.slice none 0 0,.slice none 0 0,.slice none 0 0,.slice none 0 0],37)] []) (fun g W g' W'=>Ev noB g W g' W') (FCp w.heap.size BM BR nf ev fv wv pv l) (fun _ _ _ _ _ _ h g=>h.kept g) noB h1.drew ?_ ?_
 ·intro i o hi ho c bb g W hc hM hA hD K hK
  match i,hi,ho with
  |0,_,ho =>
   cases ho;have hE:=Ev.alloc (X:=noB) hM.tw (b3c (S:=g) (W:=W) (e:=140));go_simp;exact hK (.slice (some ⟨W.heap.size,0,none⟩) 0 0) _ _ ⟨SL.blk (.inr rfl) (Blk.new _ _ _) (by simp),a9o hM.size _⟩ hE (hM.evo hE ((zR _ _).alloc hM.size _))
  |1,_,ho =>
   cases ho;have f1:=a0a (v:= .pointer (some ⟨BM,0,none⟩)) (hA.at_ (k:=1) (by kernel_rfl));go_simp;exact hK (.pointer (some ⟨BM,1,none⟩)) g W rfl (Ev.refl hM.tw) hM
  |2,_,ho =>
   cases ho;have f9:=a0a (v:= .pointer (some ⟨BM,1,none⟩)) (a0f hD 1 9 (by kernel_rfl) rfl rfl);have z0:W.cell? ⟨BM,1,none⟩=some (fv):=hM.b0.cell 1;go_simp;exact hK (fv) g W rfl (Ev.refl hM.tw) hM
  |3,_,ho =>
   cases ho;have f8:=a0f hD 0 8 (by kernel_rfl) rfl rfl;have f10:=a0a (v:=fv) (a0f hD 2 10 (by kernel_rfl) rfl rfl);exact hM.append_f (hM.old hI.tw) _ _ 33 rfl underlying33 a1m a8e rfl f8.1 f8.2 (b3k f10) (hM.oldS hI.tw hI.f) (by omega) (fun v9 S9 w9 h1 h2 h3=>hK v9 S9 w9 ⟨by have:=h1.s0;rwa [Nat.zero_add] at this,h2⟩ h3 h1.tailT)
  |4,_,ho =>
   cases ho;go_simp;have hb:Below W.heap.size W (W.alloc (.cells #[] 66)):=(zR _ _).alloc (yR _) _;exact hK (.slice (some ⟨W.heap.size,0,none⟩) 0 0) g _ ⟨_,rfl,hM.size,Blk.new _ _ _,fun hs=>Nat.lt_irrefl _ (hM.tw.lt hs)⟩ (Ev.of_below hM.tw hb) (hM.up hb)
  |5,_,ho =>
   cases ho;have f1:=a0a (v:= .pointer (some ⟨BM,0,none⟩)) (hA.at_ (k:=1) (by kernel_rfl));go_simp;exact hK (.pointer (some ⟨BM,3,none⟩)) g W rfl (Ev.refl hM.tw) hM
  |6,_,ho =>
   cases ho;have f13:=a0a (v:= .pointer (some ⟨BM,3,none⟩)) (a0f hD 5 13 (by kernel_rfl) rfl rfl);have z0:W.cell? ⟨BM,3,none⟩=some (pv):=hM.b0.cell 3;go_simp;exact hK (pv) g W rfl (Ev.refl hM.tw) hM
  |7,_,ho =>
   cases ho;have f12:=a0f hD 4 12 (by kernel_rfl) rfl rfl;have f14:=a0a (v:=pv) (a0f hD 6 14 (by kernel_rfl) rfl rfl);obtain⟨Z,h1,h2,h3,h4⟩:=f12;have hLp:Lst plE w.heap.size W pv l:=hI.p.below hM.bel;refine El.step_freshO a2l d2f _ _ (by rfl) w.heap.size Z h1 (a6b h3 h2) pv l (b3k f14) hLp hI.frm (by omega) hM.size ?_;rintro v9 w9 hr9 hb9⟨gu,cap,rfl,hgu⟩;have hgn:¬g gu:=fun hs=>hgu.elim (fun e=>h4 (e▸hs)) (fun h=>Nat.not_lt.2 h (hM.tw.lt hs))
   exact hK _ g w9 ⟨hr9,fun b hb=>by cases hb;exact hgn⟩ (Ev.of_below hM.tw hb9) (hM.up hb9)
  |8,_,ho =>
   cases ho;have f11:=a0f hD 3 11 (by kernel_rfl) rfl rfl;have f15:=a0f hD 7 15 (by kernel_rfl) rfl rfl;obtain⟨fa,e11⟩:∃v,bb.eval (.tmp 11)=v:=⟨_,rfl⟩;obtain⟨pa,e15⟩:∃v,bb.eval (.tmp 15)=v:=⟨_,rfl⟩;rw[e11] at f11;rw[e15] at f15;have h11:=f11;have h15:=f15;obtain⟨a1,c1,rfl,-⟩:=h11.1.form;obtain⟨a2,c2,rfl,-⟩:=(a0b a2l h15.1 (by omega)).form;have f11:=a0a e11;have f15:=a0a e15;go_simp;exact hK _ g W ⟨_,_,rfl,h11,h15⟩ (Ev.refl hM.tw) hM
  |9,_,ho =>
   cases ho;go_simp;have hb:Below W.heap.size W (W.alloc (.cells #[.slice none 0 0,.slice none 0 0,.slice none 0 0,.slice none 0 0] 37)):=(zR _ _).alloc (yR _) _;exact hK (.pointer (some ⟨W.heap.size,0,none⟩)) g _ ⟨_,rfl,hM.size,hM.b1.lt,Blk.new _ _ _,fun hs=>Nat.lt_irrefl _ (hM.tw.lt hs)⟩ (Ev.of_below hM.tw hb) (hM.up hb)
  |i+10,hi,_=>exact absurd hi (by omega)
 ·intro bb g W hM hA hall
  obtain⟨fa,pa,h16,⟨hf1,hf2⟩,hr1,hr2⟩:=(show ∃a b,bb.eval (.tmp 16)= .agg #[.slice none 0 0,a,.slice none 0 0,b]∧(SL g W 140 a nf∧Own w.heap.size a)∧W.ownsRow w.heap.size 66 7 b l.length (l.flatMap plE.enc)∧∀c,b.ownBlock=some c→¬g c from hall 8 (by omega) _ _ rfl rfl);obtain⟨BL,h3,hL1,hL2,hL3,hL4⟩:=(show ∃L,bb.eval (.tmp 3)= .pointer (some ⟨L,0,none⟩)∧w.heap.size≤L∧BR<L∧Blk W L #[.slice none 0 0,.slice none 0 0,.slice none 0 0,.slice none 0 0] 37∧¬g L from hall 9 (by omega) _ _ rfl rfl);have hfr:=hA.frame [T,T,T,F,T,T,T,T,F,F,F,F,F,F,F,F,F,T,T,T,T,T,T,T,T,T,T,T,T,T,T,T,T,T,T,T,T,T,T,T,T,T,T,T,T,T,T,T,T,T,T,T,T,T,T,T,T,T,T,T,T,T] _ rfl (by kernel_rfl);clear hall hA;obtain⟨f,hf⟩:∃f:Nat→Value,(fun k=>bb.tmps.getD k undef)=f:=⟨_,rfl⟩;have g3:f 3= .pointer (some ⟨BL,0,none⟩):=by rw[←hf,←h3];rfl
  have g16:f 16= .agg #[.slice none 0 0,fa,.slice none 0 0,pa]:=by rw[←hf,←h16];rfl
  rw[hf] at hfr;clear hf h3 h16;subst hfr;simp only[a2k,g3,g16,Nat.reduceAdd];clear g3 g16;simp only[List.drop_succ_cons,List.drop_zero];clear h1;obtain⟨l0,l1,l2,l3⟩:=a0l hL3;have z0:=hL3.frozen 0;have z1:=hL3.frozen 1;have z2:=hL3.frozen 2;have z3:=hL3.frozen 3;obtain⟨fa0,fc0,rfl,hfc⟩:=hf1.form;obtain⟨pa0,pc0,rfl,hpc⟩:=(a0b a2l hr1 (by omega)).form;have hP0:OP noB w g W [(BL,#[.slice none 0 0,.slice none 0 0,.slice none 0 0,.slice none 0 0],37),(BM,#[ev,fv,wv,pv],37),(BR,#[.slice none 0 0,.slice none 0 0,.slice none 0 0,.slice none 0 0],37)] [(140,.slice fa0 nf fc0,nf)] (.slice pa0 l.length pc0) l :=
   ⟨(hM.known hL3 hL4 hL1 (by simp;omega)).add hf1,hr1,hr2,by simp⟩
  clear hM hr1 hr2 hL3 hL4 hf1;go_upto_region 2 with fail;refine a0g (fun W2 hW2=> ?_);have hP1:=(((hP0.put rfl rfl).put rfl rfl).put rfl rfl).put hW2 rfl;clear hW2 hP0 l0 l1 l2 l3 z0 z1 z2 z3;simp at hP1;go_wp2_with fail;go_loopw [4] (fun kk wr=>∃(k:Nat) (S:BS) (e1:Value),k≤ne∧kk= .int .i64 (k:Nat)∧OP noB w S wr [(BL,#[e1,.slice fa0 nf fc0,.slice none 0 0,.slice pa0 l.length pc0],37),(BM,#[ev,fv,wv,pv],37),(BR,#[.slice none 0 0,.slice none 0 0,.slice none 0 0,.slice none 0 0],37)] [(206,e1,k),(140,.slice fa0 nf fc0,nf)] (.slice pa0 l.length pc0) l∧Own w.heap.size e1) (fun kk _=>ne-(intOf kk).toNat)
  case atStart=>exact⟨0,g,.slice none 0 0,Nat.zero_le _,rfl,hP1.add (SL.nil _ _ _),a7b _⟩
  case round =>
   obtain⟨k,S,e1,hk,rfl,hP,hown⟩:=hrel;have hIk:=hI.up hP.b.bel;obtain⟨m0,m1,m2,m3⟩:=a0l hP.b.b1;by_cases hlt:k<ne
   ·have hltI:(k:Int)<(ne:Int):=by omega
    obtain⟨eb,eo,ec,rfl,hec,-⟩:=hIk.e.some_ (by omega);obtain⟨id,ll,rr,lv,m,c0,c1,c2,c3,f0,f2,f3,hlv,hm⟩:=SL.edge hIk.tw hIk.e hlt;obtain⟨la,lc,rfl,hlc⟩:=hlv.form;have hwk:IntKind.i64.wrap ((k:Int)+1)=((k+1:Nat):Int):=by rw[a0u (by omega) (by omega)];omega
    go_upto_region 6 with fail;refine a0g (fun WE hWE=> ?_);have hP2:=hP.box #[.int .i64 id,.slice la m lc,.int .i64 ll,.int .i64 rr] 206 (by decide);obtain⟨BE,hBE⟩:∃b,wr.heap.size=b:=⟨_,rfl⟩;have hUE:Below wr.heap.size wr WE:=by rw[hWE];exact (zR _ _).alloc (yR _) _
    rw[←hWE,hBE] at hP2;rw[hBE];have hIE:=hIk.up hUE;have hlvE:=a2x hUE (fun b hb=>hIk.tw.lt hb) hlv;clear hP hWE hBE c0 c1 c2 c3 m0 m1 m2 m3 hIk hlv hUE;have kE:=hP2.b.b0;have k1:=kE.cell 1;go_upto_region 7 with (first
     |(go_at_call 136;(with_reducible refine (b3l U WE hIE.tw _ m hlvE (by omega)).mono ?_);rintro e WL⟨S3,v3,rfl,hv3,hev3⟩;obtain⟨a3,c3,rfl,hc3⟩:=hv3.form;have hP3:=hP2.evn hev3;have q1:=hP3.b.b0.cell 1;have y1:=hP3.b.b0.frozen 1)
     |fail)
    refine a0g (fun WM hWM=> ?_);have hP4:=(hP3.add (a0z hv3)).put hWM rfl;simp at hP4;clear hP2 hP3 hWM q1 y1 hev3 hv3 hlvE kE k1 hIE;obtain⟨e10,e1c,rfl,he1c⟩:=hP4.b.s1.form;obtain⟨q0,q1,q2,q3⟩:=ed4 hP4.b.b0;have q4:WM.cell? ⟨BL,0,none⟩=some _:=hP4.b.b1.cell 0;obtain⟨HS,hHS⟩:∃b,WM.heap.size=b:=⟨_,rfl⟩;go_wp2_with (first
     |(at_builtin;refine hP4.append_n (by rfl) _ _ 32 (by rfl) underlying32 a1u (by rfl) hP4.b.s1 hown (by rfl) hHS (a6z f0 f2 f3 hP4.b.s0 hm) rfl (by omega) ?_;intro e9 S9 W9 hP9 hown9;obtain⟨e90,e9c,rfl,he9c⟩:=hP9.b.s0.form;have y4:=hP9.b.b1.frozen 0;have q5:W9.cell? ⟨BL,0,none⟩=some _:=hP9.b.b1.cell 0)
     |fail)
    refine⟨⟨k+1,S9,.slice e90 (k+1) e9c,hlt,rfl,(hP9.tail.put rfl rfl).sub (by simp),hown9⟩,?_⟩;simp only[intOf,Int.toNat_natCast];omega
   ·have hge:((k:Int)<(ne:Int))=False:=by simp;omega
    obtain rfl:k=ne:=by omega
    obtain⟨ea,ec,rfl,hec⟩:=hI.e.form;obtain⟨fb,fbc,rfl,-⟩:=hI.f.form;clear hIk hP1 hL1 hL2;go_wp2_with fail;go_loopw [6] (fun kk wr=>∃(j:Nat) (S:BS) (w1:Value),j≤nw∧kk= .int .i64 (j:Nat)∧OP noB w S wr [(BL,#[e1,.slice fa0 nf fc0,w1,.slice pa0 l.length pc0],37),(BM,#[.slice ea k ec,.slice fb nf fbc,wv,pv],37),(BR,#[.slice none 0 0,.slice none 0 0,.slice none 0 0,.slice none 0 0],37)] [(149,w1,j),(206,e1,k),(140,.slice fa0 nf fc0,nf)] (.slice pa0 l.length pc0) l∧Own w.heap.size w1) (fun kk _=>nw-(intOf kk).toNat)
    case atStart=>exact⟨0,S,.slice none 0 0,Nat.zero_le _,rfl,hP.add (SL.nil _ _ _),a7b _⟩
    case round =>
     clear hP m0 m1 m2 m3;obtain⟨j,S,w1,hj,rfl,hP,hown⟩:=hrel;have hIk:=hI.up hP.b.bel;obtain⟨m0,m1,m2,m3⟩:=a0l hP.b.b1;by_cases hlt:j<nw
     ·have hltI:(j:Int)<(nw:Int):=by omega
      obtain⟨wb,wo,wc,rfl,hwc,-⟩:=hIk.w.some_ (by omega);obtain⟨id,lv,m,lev,cs,ns,st,wt,ds,c0,c1,c2,c3,c4,c5,c6,c7,f0,hlv,hm,f2,f3,f4,f6,f7⟩:=SL.way hIk.tw hIk.w hlt;obtain⟨la,lc,rfl,hlc⟩:=hlv.form;have hwk:IntKind.i64.wrap ((j:Int)+1)=((j+1:Nat):Int):=by rw[a0u (by omega) (by omega)];omega
      go_upto_region 12 with fail;refine a0g (fun WE hWE=> ?_);have hP2:=hP.box (b7h id (.slice la m lc) lev cs ns st wt ds) 149 (by decide);obtain⟨BE,hBE⟩:∃b,wr.heap.size=b:=⟨_,rfl⟩;have hUE:Below wr.heap.size wr WE:=by rw[hWE];exact (zR _ _).alloc (yR _) _
      rw[←hWE,hBE] at hP2;rw[hBE];have hIE:=hIk.up hUE;have hlvE:=a2x hUE (fun b hb=>hIk.tw.lt hb) hlv;clear hP hWE hBE c0 c1 c2 c3 c4 c5 c6 c7 m0 m1 m2 m3 hIk hlv hUE;have kE:=hP2.b.b0;have k1:WE.cell? ⟨BE,1,none⟩=some (.slice la m lc):=kE.cell 1;go_upto_region 13 with (first
       |(go_at_call 136;(with_reducible refine (b3l U WE hIE.tw _ m hlvE (by omega)).mono ?_);rintro e WL⟨S3,v3,rfl,hv3,hev3⟩;obtain⟨a3,c3,rfl,hc3⟩:=hv3.form;have hP3:=hP2.evn hev3;have q1:=hP3.b.b0.cell 1;have y1:=hP3.b.b0.frozen 1)
       |fail)
      refine a0g (fun WM hWM=> ?_);have hP4:OP _ _ _ _ ((BE,b7h id (.slice a3 m c3) lev cs ns st wt ds,_)::_) _ _ _:=(hP3.add (a0z hv3)).put hWM rfl;clear hP2 hP3 hWM q1 y1 hev3 hv3 hlvE kE k1 hIE;obtain⟨w10,w1c,rfl,hw1c⟩:=hP4.b.s1.form;obtain⟨q0,q1,q2,q3,q4,q5,q6,q7⟩:=a3u hP4.b.b0;have q8:WM.cell? ⟨BL,2,none⟩=some _:=hP4.b.b1.cell 2;obtain⟨HS,hHS⟩:∃b,WM.heap.size=b:=⟨_,rfl⟩;go_wp2_with (first
       |(at_builtin;refine hP4.append_n (by rfl) _ _ 34 (by rfl) underlying34 a4b (by rfl) hP4.b.s1 hown (by rfl) hHS (c6c f0 f2 f3 f4 f6 f7 hP4.b.s0 hm) rfl (by omega) ?_;intro e9 S9 W9 hP9 hown9;obtain⟨e90,e9c,rfl,he9c⟩:=hP9.b.s0.form;have y4:=hP9.b.b1.frozen 2;have q5:W9.cell? ⟨BL,2,none⟩=some _:=hP9.b.b1.cell 2)
       |fail)
      refine⟨⟨j+1,S9,.slice e90 (j+1) e9c,hlt,rfl,(hP9.tail.put rfl rfl).sub (by simp),hown9⟩,?_⟩;simp only[intOf,Int.toNat_natCast];omega
     ·have hge:((j:Int)<(nw:Int))=False:=by simp;omega
      obtain rfl:j=nw:=by omega
      obtain⟨wa,wac,rfl,-⟩:=hI.w.form;obtain⟨e10,e1c,rfl,he1c⟩:=hP.b.s1.form;obtain⟨w10,w1c,rfl,hw1c⟩:=hP.b.s0.form;obtain⟨b0,b1,b2,b3⟩:=a0l hP.b.b0;obtain⟨r0,r1,r2,r3⟩:=a0l hP.b.b2;have z0:=hP.b.b2.frozen 0;have z1:=hP.b.b2.frozen 1;have z2:=hP.b.b2.frozen 2;have z3:=hP.b.b2.frozen 3;have hX:=((((hP.tail.swap.put (i:=0) (v:= .slice e10 k e1c) rfl rfl).put (i:=1) (v:= .slice fa0 nf fc0) rfl rfl).put (i:=2) (v:= .slice w10 j w1c) rfl rfl).put (i:=3) (v:= .slice pa0 l.length pc0) (c':= #[.slice e10 k e1c,.slice fa0 nf fc0,.slice w10 j w1c,.slice pa0 l.length pc0]) rfl rfl);clear hIk m0 m1 m3 hP hown hI;go_wp2_with fail;exact bodyPost_ret (results_cell_row (by rfl) _ _ BR 37 _ (0,0) _ (by rfl) hX.b.b0 underlying37 (by rfl) (by kernel_rfl)) rfl ⟨S,_,_,_,_,rfl,⟨hX.b.s1,hX.b.s2,hX.b.s0,hX.row,hX.off⟩,hX.b.o.ev⟩
end
section
open Go Go.RowKit Go.Shelf Go.Lib
theorem c6e {S:BS}{W:World}{v:Value}{n:Nat}(hT:TW S W)(h:SL S W 26 v n):∃ps:List a0r,ps.length=n∧Pts W.heap.size W v ps:=by
 by_cases hn:n=0
 ·subst hn
  obtain⟨a,cap,rfl,-⟩:=h.form;exact⟨[],rfl,a,cap,rfl,fun j hj=>absurd hj (by simp)⟩
 ·obtain⟨b,off,cap,rfl,-,hS⟩:=h.some_ (by omega)
  have H:∀k:Fin n,∃p:a0r,W.cell? ⟨b,off+k.1*2,none⟩=some (.int .i64 p.1)∧W.cell? ⟨b,off+k.1*2+1,none⟩=some (.int .i64 p.2):=fun k=>by
   obtain⟨u0,c0,h0⟩:=h.cell hT a1k k.2 0 .int rfl;obtain⟨u1,c1,h1⟩:=h.cell hT a1k k.2 1 .int rfl;obtain⟨x,rfl,-⟩:=h0.i rfl;obtain⟨y,rfl,-⟩:=h1.i rfl;exact⟨(x,y),c0,c1⟩
  refine⟨List.ofFn fun k=>Classical.choose (H k),by simp,some ⟨b,off,none⟩,cap,by simp,fun j hj=>⟨b,off,rfl,hT.lt hS,?_⟩⟩;have hj':j<n:=by simpa using hj
  have:=Classical.choose_spec (H ⟨j,hj'⟩);simpa using this
theorem b1t {S:BS}{W:World}{v:Value}{n:Nat}(hT:TW S W)(h:SL S W 149 v n):∃ws:List Wy,ws.length=n∧Wys W.heap.size W v ws∧∀y∈ws,a0k y.id∧y.line.length≤100:=by
 by_cases hn:n=0
 ·subst hn
  obtain⟨a,cap,rfl,-⟩:=h.form;exact⟨[],rfl,⟨a,cap,rfl,fun j hj=>absurd hj (by simp)⟩,fun y hy=>absurd hy (by simp)⟩
 ·obtain⟨b,off,cap,rfl,-,hS⟩:=h.some_ (by omega)
  have H:∀k:Fin n,∃y:Wy,WyAt W.heap.size W b (off+k.1*8) y∧a0k y.id∧y.line.length≤100:=fun k=>by
   obtain⟨id,lv,m,lev,cs,ns,st,wt,ds,c0,c1,c2,c3,c4,c5,c6,c7,f0,hl,hm,-⟩:=h.way hT k.2;obtain⟨ps,hps,hP⟩:=c6e hT hl;exact⟨⟨id,ps,lv,lev,cs,ns,st,wt,ds⟩,⟨c0,c1,c2,c3,c4,c5,c6,c7,hP⟩,f0,by simp only;omega⟩
  refine⟨List.ofFn fun k=>Classical.choose (H k),by simp,⟨some ⟨b,off,none⟩,cap,by simp,fun j hj=>⟨b,off,rfl,hT.lt hS,?_⟩⟩,fun y hy=> ?_⟩
  ·have hj':j<n:=by simpa using hj
   have:=(Classical.choose_spec (H ⟨j,hj'⟩)).1;simpa using this
  ·obtain⟨j,hj,rfl⟩:=List.getElem_of_mem hy
   have hj':j<n:=by simpa using hj
   have:=(Classical.choose_spec (H ⟨j,hj'⟩)).2;simpa using this
end
section
open Go.RowKit Go.Shelf
attribute [local go_sem] Oper.semAt_some
attribute [local go_sem ↓] Go.wp_at_zero Go.wp_at_succ
def d4p (w:World)(e:Ending)(w':World):Prop :=
 ∃S' ev fv wv pv l,e= .returned (.agg #[ev,fv,wv,pv])∧((∃n,SL S' w' 206 ev n∧n≤30)∧(∃n,SL S' w' 140 fv n∧n≤200)∧(∃n,SL S' w' 149 wv n∧n≤20))∧l.length≤6∧PlsOk l∧w'.ownsRow w.heap.size 66 7 pv l.length (l.flatMap plE.enc)∧(∀g,pv.ownBlock=some g→¬S' g)∧Ev noB noB w S' w'
theorem b9t (lv:Value)(rows:List (Value×List Int))(w:World)(hM:Mat w.heap.size w lv rows) :
 Calls prog 30 #[lv] w fun e w'=>d4p w e w':=by
 have hM0:=hM;obtain⟨la,lcap,rfl,hlc,-⟩:=hM;obtain⟨m,hm⟩:∃m,min rows.length 3=m:=⟨_,rfl⟩;have hmI:min (rows.length:Int) 3=(m:Nat):=by omega
 have hm0:0≤(m:Int):=by omega
 have hmc:(m:Int)≤(lcap:Int):=by omega
 have hmn:m≤lcap:=by omega
 have ho:=((OW.init (TW.none w)).box d3j 37).box d3j 37;have hb1:=ho.low;have hM1:=((hM0.below hb1).mono hb1.size).take m (by omega);simp only[World.size_alloc] at ho;replace hm:=Lib.hid hm;go_enter func30,ntmps30;go_upto_region 2 with fail;refine a0g (fun W1 hW1=> ?_);rw[←hW1] at ho hM1;obtain⟨B2,hB2⟩:∃b,w.heap.size=b:=⟨_,rfl⟩;obtain⟨B3,hB3⟩:∃b,w.heap.size+1=b:=⟨_,rfl⟩;rw[hB3,hB2] at ho;rw[hB3,hB2];have hl2:w.heap.size≤B2:=by omega
 clear hW1 hB2 hB3 hb1;go_upto_region 3 with (first
  |(go_at_call 71;(with_reducible refine (c6d _ _ W1 hM1).mono ?_);rintro e W2⟨S1,ev,fv,rfl,⟨ne,nf,hse,hne,hsf,hnf⟩,hev2⟩;obtain⟨ea,ec,rfl,-⟩:=hse.form;obtain⟨fa,fc,rfl,-⟩:=hsf.form;have ho2:=((ho.evo hev2).add hse).add hsf;obtain⟨z0,z1,z2,z3⟩:=a0l ho2.b0;have zf0:=ho2.b0.frozen 0;have zf1:=ho2.b0.frozen 1)
  |fail)
 refine a0g (fun W3 hW3=> ?_);have ho3:OW noB w S1 W3 [(B3,b4z (.slice ea ne ec) (.slice fa nf fc) (.slice none 0 0) (.slice none 0 0),37),(B2,d3j,37)] [(140,.slice fa nf fc,nf),(206,.slice ea ne ec,ne)]:=by
  rw[hW3];exact (ho2.set 0 _ rfl).set 1 _ rfl
 clear ho ho2 hW3 z0 z1 z2 z3 zf0 zf1 hM1 hev2 hse hsf;have hi3:=a8u (hM0.below ho3.low) 3;have hp3:Calls prog 72 #[.slice la rows.length lcap,.int .i64 3] W3 fun e w'=>e= .returned (b2j rows 3)∧W3=w':=b5a _ W3 _ rows (hM0.below ho3.low) 3
 obtain⟨v3,hv3⟩:∃v,b2j rows 3=v:=⟨_,rfl⟩;obtain⟨x3,hx3⟩:∃v,d1y rows 3=v:=⟨_,rfl⟩;rw[hv3] at hi3 hp3;rw[hx3] at hi3;obtain⟨sa,sc,rfl⟩:∃a c,v3= .slice a x3.length c:=by
  obtain⟨⟨a,c,e,-⟩,-⟩:=hi3;exact⟨a,c,e⟩
 clear hv3 hx3;have hd:=ho3.draw ho3.lows (yR _) hi3;go_upto_region 4 with (first
  |(go_at_call 72;(with_reducible refine hp3.mono ?_);rintro e W'⟨rfl,rfl⟩)
  |fail)
 refine a0g (fun W4 hW4=> ?_);rw[←hW4] at hd;have hDl:w.heap.size≤W3.heap.size:=ho3.low.size;obtain⟨D,hD⟩:∃b,W3.heap.size=b:=⟨_,rfl⟩;obtain⟨sv,hsv⟩:∃v,Value.slice sa x3.length sc=v:=⟨_,rfl⟩;rw[hD,hsv] at hd;rw[hD] at hDl;rw[hD,hsv];clear hp3 hi3 ho3 hW4 hD hsv;go_wp2_with fail;go_loopw [5] (fun kk wr=>∃k:Nat,k≤nf∧kk= .int .i64 (k:Nat)∧DY w.heap.size D sv x3 noB w S1 wr [(B3,b4z (.slice ea ne ec) (.slice fa nf fc) (.slice none 0 0) (.slice none 0 0),37),(B2,d3j,37)] [(140,.slice fa nf fc,nf),(206,.slice ea ne ec,ne)]) (fun kk _=>nf-(intOf kk).toNat)
 case atStart=>exact⟨0,Nat.zero_le _,rfl,hd⟩
 case round =>
  clear hd;obtain⟨k,hk,rfl,hd⟩:=hrel;by_cases hlt:k<nf
  ·have hltI:(k:Int)<(nf:Int):=by omega
   obtain⟨b,off,cap',hab,-,-⟩:=hd.s0.some_ (by omega);simp only[Value.slice.injEq,true_and] at hab;obtain⟨rfl,rfl⟩:=hab;obtain⟨m0,m1,m2,m3⟩:=a0l hd.b0;go_upto_region 8 with fail;clear m0 m1 m2 m3;have st1:Strs #[.string ⟨#[102,105,101,108,100]⟩,.string ⟨#[119,111,111,100]⟩,.string ⟨#[108,97,107,101]⟩]:=a5z [⟨#[102,105,101,108,100]⟩,⟨#[119,111,111,100]⟩,⟨#[108,97,107,101]⟩] (by decide);go_upto_region 9 with (first
    |(go_at_call 73;(with_reducible refine ((hd.box _ _).call 3 (by omega) (by omega)).mono ?_);rintro e Wb⟨q,rfl,q0,q1,hb⟩;obtain⟨q,rfl⟩:=Int.eq_ofNat_of_zero_le q0;obtain⟨s1,cs1,hs1⟩:=st1.at_ hb.b0 (q:=q) (by simp;omega);have hdB:=hb.tail;obtain⟨u,cu,-⟩:=SL.cell hdB.tw a1m hdB.s0 hlt 1 .str rfl;obtain⟨hst,zf⟩:=SL.store (X:=noB) hdB.tw a1m hdB.s0 k 1 .str rfl (.string s1) (CT.ok_str hs1))
    |fail)
   refine a0g (fun WC hWC=> ?_);have hdC:=hdB.evo hst;rw[←hWC] at hdC;clear hd hdB hb hWC zf cs1 st1 cu hst;have st2:Strs #[.string ⟨#[]⟩,.string ⟨#[]⟩,.string ⟨#[]⟩,.string ⟨#[77,111,111,114]⟩,.string ⟨#[72,111,108,109]⟩,.string ⟨#[78,111,114,116,104,32,77,111,111,114]⟩]:=a5z [⟨#[]⟩,⟨#[]⟩,⟨#[]⟩,⟨#[77,111,111,114]⟩,⟨#[72,111,108,109]⟩,⟨#[78,111,114,116,104,32,77,111,111,114]⟩] (by decide);go_upto_region 10 with (first
    |(go_at_call 73;(with_reducible refine ((hdC.box _ _).call 6 (by omega) (by omega)).mono ?_);rintro e Wd⟨q',rfl,q'0,q'1,hb⟩;obtain⟨q',rfl⟩:=Int.eq_ofNat_of_zero_le q'0;obtain⟨s2,cs2,hs2⟩:=st2.at_ hb.b0 (q:=q') (by simp;omega);have hdD:=hb.tail;obtain⟨u',cu,-⟩:=SL.cell hdD.tw a1m hdD.s0 hlt 2 .str rfl;obtain⟨hst,zf⟩:=SL.store (X:=noB) hdD.tw a1m hdD.s0 k 2 .str rfl (.string s2) (CT.ok_str hs2))
    |fail)
   refine a0g (fun WE hWE=> ?_);have hdE:=hdD.evo hst;rw[←hWE] at hdE;clear hdC hdD hb hWE zf cs2 st2 cu hst;go_upto_region 11 with (first
    |(go_at_call 73;(with_reducible refine (hdE.call 60 (by omega) (by omega)).mono ?_);rintro e Wf⟨t,rfl,t0,t1,hdF⟩;obtain⟨u2,cu,-⟩:=SL.cell hdF.tw a1m hdF.s0 hlt 3 .int rfl;obtain⟨hst,zf⟩:=SL.store (X:=noB) hdF.tw a1m hdF.s0 k 3 .int rfl (.int .i64 (1+t)) (CT.ok_int ⟨by omega,by omega⟩))
    |fail)
   refine a0g (fun WG hWG=> ?_);have hdG:=hdF.evo hst;rw[←hWG] at hdG;clear hdE hdF hWG zf cu hst;go_upto_region 6 with (first
    |(go_at_call 73;(with_reducible refine (hdG.call 4 (by omega) (by omega)).mono ?_);rintro e Wh⟨x,rfl,x0,x1,hdH⟩)
    |(go_at_call 73;(with_reducible refine (hdH.call 2 (by omega) (by omega)).mono ?_);rintro e Wi⟨y,rfl,y0,y1,hdI⟩;obtain⟨u3,cu,-⟩:=SL.cell hdI.tw a1m hdI.s0 hlt 4 .int rfl;obtain⟨-,zf⟩:=SL.store (X:=noB) hdI.tw a1m hdI.s0 k 4 .int rfl (.int .i64 0) (CT.ok_int ⟨by decide,by decide⟩))
    |fail)
   refine a0g (fun WJ hWJ=> ?_);have hdJ:DY w.heap.size D sv x3 noB w S1 WJ [(B3,b4z (.slice ea ne ec) (.slice (some ⟨b,off,none⟩) nf fc) (.slice none 0 0) (.slice none 0 0),37),(B2,d3j,37)] [(140,.slice (some ⟨b,off,none⟩) nf fc,nf),(206,.slice ea ne ec,ne)]:=by
    rw[hWJ];exact hdI.evo (SL.store (X:=noB) hdI.tw a1m hdI.s0 k 4 .int rfl _ (CT.ok_int (by first|with_reducible (first|exact a0j _|exact a0m _|assumption|exact a0n (by omega))|exact⟨by omega,by omega⟩))).1
   clear hdG hdH hdI hWJ zf cu;go_wp2_with fail;go_roundw
   case rel=>exact⟨k+1,by omega,by go_num,hdJ⟩
   case measure=>simp[intOf];omega
  ·have hge:¬(k:Int)<(nf:Int):=by omega
   obtain⟨m0,m1,m2,m3⟩:=a0l hd.b0;have ho:=hd.ow (TW.none w) hDl;go_upto_region 12 with fail;clear hd m0 m1 m2 m3 hlt hge;have hi4:=a8u (hM0.below ho.low) 4;have hp4:Calls prog 72 #[.slice la rows.length lcap,.int .i64 4] wr fun e w'=>e= .returned (b2j rows 4)∧wr=w':=b5a _ wr _ rows (hM0.below ho.low) 4
   go_upto_region 13 with (first
    |(go_at_call 72;(with_reducible refine hp4.mono ?_);rintro e W'⟨rfl,rfl⟩)
    |(go_at_call 74;(with_reducible refine (c2r _ S1 wr ho.tw ho.lows ho.low.size _ _ hi4).mono ?_);rintro e W5⟨S5,wv,rfl,⟨nw,hsw,hnw⟩,hev5⟩;obtain⟨wa,wc,rfl,-⟩:=hsw.form;have ho5:=(ho.evo hev5).add hsw;obtain⟨z0,z1,z2,z3⟩:=a0l ho5.b0;have zf:=ho5.b0.frozen 2)
    |fail)
   refine a0g (fun W6 hW6=> ?_);have ho6:=ho5.put hW6 (c':=b4z (.slice ea ne ec) (.slice fa nf fc) (.slice wa nw wc) (.slice none 0 0)) rfl;clear ho ho5 hev5 hsw hW6 hi4 hp4 z0 z1 z2 z3 zf;have hM6:=hM0.below ho6.low;have hle6:=ho6.low.size;obtain⟨m0,m1,m2,m3⟩:=a0l ho6.b0;first|with_reducible refine a0c 3 (by kernel_rfl) (by kernel_rfl) ?_|with_reducible refine a0d 3 (by kernel_rfl) (by kernel_rfl) ?_
   simp only[List.take_succ_cons,List.take_zero,List.drop_succ_cons,List.drop_zero];repeat (first|go_big_quiet_step ((go_at_call 72;exact Calls.grow_of_same (b5a w.heap.size _ _ rows (hM6.below ((Go.below_growBy _ _).mono hle6)) 5)))|quiet_step ((go_at_call 72;exact Calls.grow_of_same (b5a w.heap.size _ _ rows (hM6.below ((Go.below_growBy _ _).mono hle6)) 5))))
   refine wpQuiet_nil ?_;intro _ hw_;obtain⟨p,hw_⟩:=hw_;subst hw_;have ho7:=ho6.up (Go.below_growBy W6 p);have hi5:=a8u (hM0.below ho7.low) 5;clear m0 m1 m2 m3 ho6 hM6;go_upto_region 14 with (first
    |(go_at_call 75;(with_reducible refine (b5b w.heap.size S5 _ ho7.tw ho7.lows ho7.low.size _ _ hi5 _ _ ne nf ho7.s2 (Nat.le_trans hne (by decide)) ho7.s1 hnf _ _ _ _ _ _).mono ?_);rintro e W8⟨S8,pv,l,rfl,hl6,hok,hr8,hof,hev8⟩;replace hr8:=b6h hr8 ho7.low.size;obtain⟨pa,pc,rfl,-⟩:=(a0b a2l hr8 (by omega)).form;have ho8:=ho7.evo hev8;obtain⟨z0,z1,z2,z3⟩:=a0l ho8.b0;have zf:=ho8.b0.frozen 3)
    |fail)
   refine a0g (fun W9 hW9=> ?_);have hr9:W9.ownsRow w.heap.size 66 7 (.slice pa l.length pc) l.length (l.flatMap plE.enc):=by
    rw[hW9];exact hr8.kept (a1g _ B3 3 _) (.inr (a0s hr8 ho8.b0 (by decide)))
   have ho9:=ho8.put hW9 (c':=b4z (.slice ea ne ec) (.slice fa nf fc) (.slice wa nw wc) (.slice pa l.length pc)) rfl;clear ho7 ho8 hev8 hr8 hW9 hi5 z0 z1 z2 z3 zf;obtain⟨z0,z1,z2,z3⟩:=a0l ho9.b0;obtain⟨y0,y1,y2,y3⟩:=a0l ho9.b1;have f0:=ho9.b1.frozen 0;have f1:=ho9.b1.frozen 1;have f2:=ho9.b1.frozen 2;have f3:=ho9.b1.frozen 3;have hoA:=ho9.swap;have hrA:=hr9.kept (a1g _ B2 0 (.slice ea ne ec)) (.inr (a0s hr9 hoA.b0 (by decide)));have hoB:=hoA.set 0 (.slice ea ne ec) rfl;have hrB:=hrA.kept (a1g _ B2 1 (.slice fa nf fc)) (.inr (a0s hrA hoB.b0 (by decide)));have hoC:=hoB.set 1 (.slice fa nf fc) rfl;have hrC:=hrB.kept (a1g _ B2 2 (.slice wa nw wc)) (.inr (a0s hrB hoC.b0 (by decide)));have hoD:=hoC.set 2 (.slice wa nw wc) rfl;have hrD:=hrC.kept (a1g _ B2 3 (.slice pa l.length pc)) (.inr (a0s hrC hoD.b0 (by decide)));have hoX:=hoD.set 3 (.slice pa l.length pc) (c':=b4z (.slice ea ne ec) (.slice fa nf fc) (.slice wa nw wc) (.slice pa l.length pc)) rfl;clear ho9 hoA hoB hoC hoD hr9 hrA hrB hrC;go_wp2_with fail;exact bodyPost_ret (results_cell_row (by rfl) _ _ B2 37 _ (0,0) _ (by rfl) hoX.b0 underlying37 (by rfl) (by kernel_rfl)) rfl ⟨S8,_,_,_,_,l,rfl,⟨⟨ne,hoX.s2,hne⟩,⟨nf,hoX.s1,hnf⟩,⟨nw,hoX.s0,hnw⟩⟩,hl6,hok,hrD,hof,hoX.ev⟩
end
end Go.Proofs.YtfocdbjceedagaaGreatDoor
