/-
  Parts.
-/
import Derived.Test.YtfocdbjceedagaaGreatDoorZbj
set_option linter.unusedVariables false
set_option linter.unusedSimpArgs false
set_option maxHeartbeats 4000000
set_option maxRecDepth 100000
namespace Go.Proofs.YtfocdbjceedagaaGreatDoor
open Tryz
section
open Go Go.RowKit Go.Shelf
attribute [local go_sem] Oper.semAt_some
attribute [local go_sem ↓] Go.wp_at_zero Go.wp_at_succ
theorem Ev.row {S S':BS}{W W':World}(h:Ev noB S W S' W'){base:Nat}{e:TypeId}{s:Nat}{v:Value}{n:Nat}{xs:List Value}(hr:W.ownsRow base e s v n xs)(ho:∀b,v.ownBlock=some b→¬S b):W'.ownsRow base e s v n xs∧∀b,v.ownBlock=some b→¬S' b:=by
 obtain⟨h1,h2⟩:=hr
 rcases h2 with ⟨rfl,h3⟩|⟨g,cap,cur,rfl,h3,h4,h5⟩
 ·exact⟨⟨h1,.inl ⟨rfl,h3⟩⟩,fun b e=>by cases e⟩
 ·have hb:Blk W g cur e:=h4
  have hn:¬S g:=ho g rfl
  exact⟨⟨h1,.inr ⟨g,cap,cur,rfl,h3,h.blk hb hn (fun h=>h),h5⟩⟩,fun b e=>by cases e;exact h.not hb.lt hn⟩
theorem row_lt {W:World}{base:Nat}{e:TypeId}{s:Nat}{v:Value}{n:Nat}{xs:List Value}(hr:W.ownsRow base e s v n xs):∀g,v.ownBlock=some g→∃cur,Blk W g cur e:=fun g hg=>by
 rcases hr.2 with ⟨rfl,h3⟩|⟨g',cap,cur,rfl,h3,h4,h5⟩
 ·cases hg
 ·cases hg;exact⟨cur,h4⟩
theorem own_of {S:BS}{W:World}{e:TypeId}{v:Value}{n m:Nat}(h:SL S W e v n)(hS:∀b,S b→m≤b):Own m v:=fun a k c e=>by
 obtain⟨a',c',e',-,h2⟩:=h
 rw[e'] at e
 cases e
 rcases h2 with ⟨e3,-⟩|⟨b,o,c2,e3,hb,-⟩
 ·cases e3
 ·cases e3;exact hS b hb
theorem OY.known {S0 S:BS}{W0 W:World}{L:OwnL}{T:SlL}{B:Nat}{c:Array Value}{t:TypeId}(h:OY S0 W0 S W L T)(hk:Blk W B c t)(hS:¬S B)(hB:W0.heap.size≤B)(hne:∀p∈L,p.1≠B):OY S0 W0 S W ((B,c,t)::L) T :=
 ⟨⟨h.o.ev,fun p hp=>by
   rcases List.mem_cons.1 hp with rfl|hp
   ·exact⟨hk,hS,hB⟩
   ·exact h.o.bx p hp,by
   rw[List.map_cons]
   exact List.nodup_cons.2 ⟨fun hm=>by
    obtain⟨p,hp,e⟩:=List.mem_map.1 hm
    exact hne p hp e,h.o.ne⟩,h.o.sl⟩,h.bel⟩
theorem OY.sub {S0 S:BS}{W0 W:World}{L:OwnL}{T T':SlL}(h:OY S0 W0 S W L T)(hs:∀q∈T',q∈T):OY S0 W0 S W L T':=⟨⟨h.o.ev,h.o.bx,h.o.ne,fun q hq=>h.o.sl q (hs q hq)⟩,h.bel⟩
structure MapI (U:BS)(W:World)(ev fv wv pv:Value)(ne nf nw:Nat)(l:List Pc):Prop where
 tw:TW U W
 e:SL U W 206 ev ne
 f:SL U W 140 fv nf
 w:SL U W 149 wv nw
 p:Lst plE W.heap.size W pv l
 frm:Frm pv l.length
 ne:ne≤1000
 nf:nf≤1000
 nw:nw≤1000
 np:l.length≤1000
theorem MapI.up {U:BS}{W W':World}{ev fv wv pv:Value}{ne nf nw:Nat}{l:List Pc}(h:MapI U W ev fv wv pv ne nf nw l)(hb:Below W.heap.size W W'):MapI U W' ev fv wv pv ne nf nw l :=
 have hU:=fun b hb=>h.tw.lt (b:=b) hb
 ⟨tw_below h.tw hb hU,sl_below hb hU h.e,sl_below hb hU h.f,sl_below hb hU h.w,h.p.up hb,h.frm,h.ne,h.nf,h.nw,h.np⟩
structure OP (S0:BS)(W0:World)(S:BS)(W:World)(L:OwnL)(T:SlL)(ov:Value)(l:List Pc):Prop where
 b:OY S0 W0 S W L T
 row:W.ownsRow W0.heap.size 66 7 ov l.length (l.flatMap plE.enc)
 off:∀g,ov.ownBlock=some g→¬S g
 np:∀p∈L,p.2.2≠66
section
variable {S0 S S':BS}{W0 W W':World}{L:OwnL}{T:SlL}{B i:Nat}{c c':Array Value}{t e:TypeId}{ov v:Value}{l:List Pc}{p:Nat×Array Value×TypeId}{n:Nat}
theorem OP.evo (h:OP S0 W0 S W L T ov l)(he:Ev noB S W S' W')(hb:Below W0.heap.size W W'):OP S0 W0 S' W' L T ov l:=by
 obtain⟨h1,h2⟩:=he.row h.row h.off
 exact⟨h.b.evo he hb,h1,h2,h.np⟩
theorem OP.up (h:OP S0 W0 S W L T ov l)(hb:Below W.heap.size W W'):OP S0 W0 S W' L T ov l:=h.evo (Ev.of_below h.b.tw hb) (hb.mono h.b.size)
theorem OP.box (h:OP S0 W0 S W L T ov l)(c:Array Value)(t:TypeId)(ht:t≠66):OP S0 W0 S (W.alloc (.cells c t)) ((W.heap.size,c,t)::L) T ov l:=by
 have hb:Below W.heap.size W (W.alloc (.cells c t)):=(zR _ _).alloc (yR _) _
 have h1:=h.up hb
 exact⟨h.b.box c t,h1.row,h1.off,fun p hp=>by
  rcases List.mem_cons.1 hp with rfl|hp
  ·exact ht
  ·exact h.np p hp⟩
theorem OP.add (h:OP S0 W0 S W L T ov l){e:TypeId}{v:Value}{n:Nat}(hv:SL S W e v n):OP S0 W0 S W L ((e,v,n)::T) ov l:=⟨h.b.add hv,h.row,h.off,h.np⟩
theorem OP.tail (h:OP S0 W0 S W (p::L) T ov l):OP S0 W0 S W L T ov l:=⟨h.b.tail,h.row,h.off,fun q hq=>h.np q (List.mem_cons_of_mem _ hq)⟩
theorem OP.tailT {q:TypeId×Value×Nat}(h:OP S0 W0 S W L (q::T) ov l):OP S0 W0 S W L T ov l:=⟨h.b.tailT,h.row,h.off,h.np⟩
theorem OP.sub {T':SlL}(h:OP S0 W0 S W L T ov l)(hs:∀q∈T',q∈T):OP S0 W0 S W L T' ov l:=⟨h.b.sub hs,h.row,h.off,h.np⟩
theorem OP.swap {q:Nat×Array Value×TypeId}(h:OP S0 W0 S W (p::q::L) T ov l):OP S0 W0 S W (q::p::L) T ov l:=⟨h.b.swap,h.row,h.off,fun r hr=>h.np r (by
 rcases List.mem_cons.1 hr with rfl|hr
 ·exact List.mem_cons_of_mem _ (List.mem_cons_self ..)
 ·rcases List.mem_cons.1 hr with rfl|hr
  ·exact List.mem_cons_self ..
  ·exact List.mem_cons_of_mem _ (List.mem_cons_of_mem _ hr))⟩
theorem OP.put {v:Value}(h:OP S0 W0 S W ((B,c,t)::L) T ov l)(hW:W'=W.setCell ⟨B,i,none⟩ v)(hc:c.setIfInBounds i v=c'):OP S0 W0 S W' ((B,c',t)::L) T ov l:=by
 subst hW
 refine⟨h.b.set i v hc,ownsRow_turn h.row (grown_set W B i v) ?_,h.off,fun p hp=> ?_⟩
 ·intro g hg
  cases hg
  refine⟨_,h.b.b0,fun cur e2=> ?_⟩
  have:=h.np _ (List.mem_cons_self ..)
  simp only[Obj.cells.injEq] at e2
  exact this e2.2.1
 ·rcases List.mem_cons.1 hp with rfl|hp
  ·exact h.np (B,c,t) (List.mem_cons_self ..)
  ·exact h.np p (List.mem_cons_of_mem _ hp)
theorem OP.evn (h:OP noB W0 S W L T ov l)(he:Ev noB noB W S' W'):OP noB W0 (fun b=>S b∨S' b) W' L T ov l:=by
 have hb:Below W.heap.size W W':=he.low
 have h1:=h.up hb
 refine⟨h.b.evn he,h1.row,fun g hg hs=> ?_,h.np⟩
 obtain⟨cur,hk⟩:=row_lt h.row g hg
 rcases hs with hs|hs
 ·exact h.off g hg hs
 ·exact (he.new g hs).elim (fun h=>h.elim) (fun h=>by have:=hk.lt;omega)
theorem OP.append (h0:OP S0 W0 S W L T ov l){o:Oper}{a:Act}{K:Act→World→Prop}{Q:Exit→Act→World→Prop}(sO xO:Operand)(t:TypeId)(ho:o.op= .call { callee:= .builtin .append,args:= #[sO,xO],argTypes:= #[t,t] })
 {e:TypeId} {s:Nat} (ht:prog.underlying t=some (.slice e)) (he:ET e s) {sv xv:Value} {n m:Nat} (hsv:a.eval sO=sv) (hv:SL S W e sv n) (hown:Own W0.heap.size sv) (hxv:a.eval xO=xv) (hx:SL S W e xv m) (hl:n+m≤1000000)
 (h:∀v' S' w',OP S0 W0 S' w' L ((e,v',n+m)::T) ov l→Own W0.heap.size v'→K (a.put o.dst v') w'):Oper.wp prog o a W K Q:=by
 obtain⟨v',S',w',hr,h2,h3,h4,h5⟩:=append_twB (X:=noB) h0.b.tw (ty:=o.type) ht he hv hx hl h0.b.size hown
 unfold Oper.wp execOp
 simp only[ho,resolve,invoke,builtin,Sem.run_bind,Sem.run_pure,Result.andThen_ok,List.map_toArray,List.map_cons,List.map_nil,hsv,hxv,hr]
 exact h v' S' w' ((h0.evo h3 h4).add h2) h5
theorem OP.append_l (h0:OP S0 W0 S W L T ov l){ops:Array Oper}{rest:List Oper}{o:Oper}{a:Act}{Q:Exit→Act→World→Prop}(hgd:o.guard=none)(sO xO:Operand)(t:TypeId)(ho:o.op= .call { callee:= .builtin .append,args:= #[sO,xO],argTypes:= #[t,t] })
 {e:TypeId} {s:Nat} (ht:prog.underlying t=some (.slice e)) (he:ET e s) {sv xv:Value} {n m:Nat} (hsv:a.eval sO=sv) (hv:SL S W e sv n) (hown:Own W0.heap.size sv) (hxv:a.eval xO=xv) (hx:SL S W e xv m) (hl:n+m≤1000000)
 (h:∀v' S' w',OP S0 W0 S' w' L ((e,v',n+m)::T) ov l→Own W0.heap.size v'→wpList prog ops Q rest (a.put o.dst v') w'):wpList prog ops Q (o::rest) a W :=
 wpList_plain hgd fun _ hK=>h0.append sO xO t ho ht he hsv hv hown hxv hx hl fun v' S' w' h2 h3=>hK _ _ (h v' S' w' h2 h3)
theorem OP.append_n (h0:OP S0 W0 S W L T ov l){ops:Array Oper}{rest:List Oper}{o:Oper}{a:Act}{Q:Exit→Act→World→Prop}(hgd:o.guard=none)(sO xO:Operand)(t:TypeId)(ho:o.op= .call { callee:= .builtin .append,args:= #[sO,xO],argTypes:= #[t,t] })
 {e:TypeId} {s:Nat} (ht:prog.underlying t=some (.slice e)) (he:ET e s) {v:Value} {n:Nat} (hsv:a.eval sO=v) (hv:SL S W e v n) (hown:Own W0.heap.size v) {H:Nat} (hxv:a.eval xO= .slice (some ⟨H,0,none⟩) 1 1) (hH:W.heap.size=H) {c:Array Value} (hc:TB S W e c) (hcs:c.size=s) (hl:n≤100000)
 (h:∀v' S' w',OP S0 W0 S' w' L ((e,v',n+1)::T) ov l→Own W0.heap.size v'→wpList prog ops Q rest (a.put o.dst v') w'):wpList prog ops Q (o::rest) a (W.alloc (.cells c e)):=by
 subst hH
 have hA:=Ev.alloc (X:=noB) h0.b.tw hc
 have h1:=h0.evo hA ((zR _ _).alloc h0.b.size _)
 exact h1.append_l hgd sO xO t ho ht he hsv (hA.sl hv) hown hxv (SL.blk (.inr rfl) (Blk.new W c e) (by rw[he.size,hcs,Nat.one_mul];exact yR _)) (by omega) h
end
theorem SL.way {S:BS}{W:World}{b off n cap:Nat}(hT:TW S W)(h:SL S W 149 (.slice (some ⟨b,off,none⟩) n cap) n){k:Nat}(hk:k<n):∃id lv m lev cs ns st wt ds,W.cell? ⟨b,off+k*8,none⟩=some (.int .i64 id)∧W.cell? ⟨b,off+k*8+1,none⟩=some lv∧W.cell? ⟨b,off+k*8+2,none⟩=some (.int .i64 lev)∧W.cell? ⟨b,off+k*8+3,none⟩=some (.string cs)∧W.cell? ⟨b,off+k*8+4,none⟩=some (.string ns)∧W.cell? ⟨b,off+k*8+5,none⟩=some (.bool st)∧W.cell? ⟨b,off+k*8+6,none⟩=some (.int .i64 wt)∧W.cell? ⟨b,off+k*8+7,none⟩=some (.int .i64 ds) ∧
 fits id∧SL S W 26 lv m∧m≤100∧fits lev∧cs.size≤30∧ns.size≤30∧fits wt∧fits ds:=by
 obtain⟨u0,c0,h0⟩:=h.cell hT et_way hk 0 .int rfl
 obtain⟨u1,c1,h1⟩:=h.cell hT et_way hk 1 (.sl 26) rfl
 obtain⟨u2,c2,h2⟩:=h.cell hT et_way hk 2 .int rfl
 obtain⟨u3,c3,h3⟩:=h.cell hT et_way hk 3 .str rfl
 obtain⟨u4,c4,h4⟩:=h.cell hT et_way hk 4 .str rfl
 obtain⟨u5,c5,h5⟩:=h.cell hT et_way hk 5 .bool rfl
 obtain⟨u6,c6,h6⟩:=h.cell hT et_way hk 6 .int rfl
 obtain⟨u7,c7,h7⟩:=h.cell hT et_way hk 7 .int rfl
 obtain⟨id,rfl,f0⟩:=h0.i rfl
 obtain⟨m,hm,hl⟩:=h1.l rfl
 obtain⟨lev,rfl,f2⟩:=h2.i rfl
 obtain⟨cs,rfl,f3⟩:=h3.s rfl
 obtain⟨ns,rfl,f4⟩:=h4.s rfl
 obtain⟨st,rfl⟩:=h5.b rfl
 obtain⟨wt,rfl,f6⟩:=h6.i rfl
 obtain⟨ds,rfl,f7⟩:=h7.i rfl
 exact⟨id,u1,m,lev,cs,ns,st,wt,ds,c0,c1,c2,c3,c4,c5,c6,c7,f0,hl,hm,f2,f3,f4,f6,f7⟩
section
variable {α:Type}{E:El α}{P:Program}{st:TypeId}
theorem El.append_freshO (hE:E.Ok)(hI:E.In P st)(W:World)(base Z:Nat)(xv:Value)(l:List α)(ty:TypeId)(hZ:W.ownsRow base E.t E.s (.slice (some ⟨Z,0,none⟩) 0 0) 0 []){n0:Nat}(hx:Lst E n0 W xv l)(hf:Frm xv l.length)(hl:l.length≤100000)(hb:base≤W.heap.size) :
 ∃v' W',(Builtin.append_ #[st,st] ty #[.slice (some ⟨Z,0,none⟩) 0 0,xv]).run P W= .ok v' W'∧W'.ownsRow base E.t E.s v' l.length (l.flatMap E.enc)∧Below W.heap.size W W'∧∃g cap,v'= .slice (some ⟨g,0,none⟩) l.length cap∧(g=Z∨W.heap.size≤g):=by
 obtain⟨i0,z,hi0,hz0,hz1,hz2,hz3⟩:=hI.info
 by_cases hne:l=[]
 ·subst hne
  have hs:Src P i0.size st xv 0 [] W:=by
   rcases hf with rfl|⟨b,off,cap,rfl⟩
   ·exact Src.ofNil W hI.under 0
   ·exact Src.ofSlice W hI.under _ 0 cap [] (by simp) (by simp) (by simp)
  have hr:=run_append_room_src (P:=P) W st st ty E.t i0 hI.under hi0 Z 0 0 0 xv 0 [] hs (by omega) (by simp) (by simp)
  exact⟨_,W,hr,hZ,zR _ _,Z,0,rfl,.inl rfl⟩
 ·have hpos:0<l.length:=List.length_pos_iff.2 hne
  obtain⟨b,off,cap,rfl,hcap,hbn,-⟩:=hx.some_ hpos
  have hnews:∀j u,(l.flatMap E.enc)[j]? =some u→W.cell? ((⟨b,off,none⟩:Addr).add j)=some u:=fun j u hj=>by
   rw[Addr.add_lit]
   exact hx.flat hE j u hj
  obtain⟨v',W',hr,hown,-,-,-⟩:=run_append_own_at (P:=P) W base st ty E.t i0 _ E.s i0.bytes hI.under hi0 hz0 hz1 rfl hz3 hE.pos _ 0 [] hZ ⟨b,off,none⟩ l.length cap (l.flatMap E.enc) (flat_length hE l) hnews (flat_one hE l) (by unfold maxLen;omega) (Nat.le_trans (Nat.mul_le_mul (show 0+l.length≤100000 by omega) hz2) (by decide)) hb
  have hs:Src P i0.size st (.slice (some ⟨b,off,none⟩) l.length cap) l.length (l.flatMap E.enc) W:=Src.ofSlice W hI.under _ _ cap _ (by rw[hz1];exact flat_length hE l) hnews (flat_one hE l)
  have hold:(Builtin.firstCells i0.size 0 (.slice (some ⟨Z,0,none⟩) 0 0)).run P W.drew= .ok (([]:List Value).toArray) W.drew:=run_firstCells_some W.drew i0.size 0 ⟨Z,0,none⟩ 0 0 [] (by simp) (by simp)
  have hcap:Builtin.nextslicecap (0+l.length) 0*i0.bytes≤281474976710656:=growslice_fits (by omega) (Nat.le_trans (Nat.mul_le_mul (show 0+l.length≤100000 by omega) hz2) (by decide))
  have hr2:=run_append_grow_src (P:=P) W st st ty E.t i0 _ hI.under hi0 hz0 (some ⟨Z,0,none⟩) 0 0 [] hold _ l.length _ hs (by omega) (by omega) hcap
  rw[hr2] at hr
  injection hr with h1 h2
  subst h1 h2
  have hown':=hown
  rw[Nat.zero_add,List.nil_append] at hown'
  exact⟨_,_,hr2,by simpa using hown,(zR _ W).drew.alloc (yR _) _,W.heap.size,grownCap W (0+l.length) 0 E.t,by rw[Nat.zero_add],.inr (yR _)⟩
theorem El.step_freshO (hE:E.Ok)(hI:E.In P st){o:Oper}{a:Act}{w:World}{K:Act→World→Prop}{Q:Exit→Act→World→Prop}(s x:Operand)
 (ho:o.op= .call { callee:= .builtin .append,args:= #[s,x],argTypes:= #[st,st] })
 (base Z:Nat) (hs:a.eval s= .slice (some ⟨Z,0,none⟩) 0 0) (hZ:w.ownsRow base E.t E.s (.slice (some ⟨Z,0,none⟩) 0 0) 0 []) (xv:Value) (l:List α) (hxv:a.eval x=xv) {n0:Nat} (hx:Lst E n0 w xv l) (hf:Frm xv l.length) (hl:l.length≤100000) (hb:base≤w.heap.size)
 (h:∀v' w',w'.ownsRow base E.t E.s v' l.length (l.flatMap E.enc)→Below w.heap.size w w'→(∃g cap,v'= .slice (some ⟨g,0,none⟩) l.length cap∧(g=Z∨w.heap.size≤g))→K (a.put o.dst v') w') :
 Oper.wp P o a w K Q:=by
 obtain⟨v',w',hr,h2,h3,h4⟩:=El.append_freshO hE hI w base Z xv l o.type hZ hx hf hl hb
 unfold Oper.wp execOp
 simp only[ho,resolve,invoke,builtin,Sem.run_bind,Sem.run_pure,Result.andThen_ok,List.map_toArray,List.map_cons,List.map_nil,hs,hxv,hr]
 exact h v' w' h2 h3 h4
end
structure MapR (n0:Nat)(S:BS)(W:World)(ev fv wv pv:Value)(ne nf nw:Nat)(l:List Pc):Prop where
 e:SL S W 206 ev ne
 f:SL S W 140 fv nf
 w:SL S W 149 wv nw
 row:W.ownsRow n0 66 7 pv l.length (l.flatMap plE.enc)
 off:∀g,pv.ownBlock=some g→¬S g
def FCp (n0 BM BR nf:Nat)(ev fv wv pv:Value)(l:List Pc)(i:Nat)(v:Value)(g:BS)(w:World):Prop :=
 match i with
 |0=>SL g w 140 v 0∧Own n0 v
 |1=>v= .pointer (some ⟨BM,1,none⟩)
 |2=>v=fv
 |3=>SL g w 140 v nf∧Own n0 v
 |4=>∃Z,v= .slice (some ⟨Z,0,none⟩) 0 0∧n0≤Z∧Blk w Z #[] 66∧¬g Z
 |5=>v= .pointer (some ⟨BM,3,none⟩)
 |6=>v=pv
 |7=>w.ownsRow n0 66 7 v l.length (l.flatMap plE.enc)∧∀b,v.ownBlock=some b→¬g b
 |8=>∃a b,v= .agg #[.slice none 0 0,a,.slice none 0 0,b]∧(SL g w 140 a nf∧Own n0 a)∧w.ownsRow n0 66 7 b l.length (l.flatMap plE.enc)∧∀c,b.ownBlock=some c→¬g c
 |9=>∃L,v= .pointer (some ⟨L,0,none⟩)∧n0≤L∧BR<L∧Blk w L #[.slice none 0 0,.slice none 0 0,.slice none 0 0,.slice none 0 0] 37∧¬g L
 |_=>False
theorem FCp.kept {n0 BM BR nf:Nat}{ev fv wv pv:Value}{l:List Pc}{i:Nat}{v:Value}{g g':BS}{w w':World}(h:FCp n0 BM BR nf ev fv wv pv l i v g w)(hg:Ev noB g w g' w'):FCp n0 BM BR nf ev fv wv pv l i v g' w':=by
 unfold FCp at *
 split at h
 all_goals first|exact h|(exact⟨hg.sl h.1,h.2⟩)|(obtain⟨Z,h1,h2,h3,h4⟩:=h;exact⟨Z,h1,h2,hg.blk h3 h4 (fun h=>h),hg.not h3.lt h4⟩)|(exact hg.row h.1 h.2)|(obtain⟨a,b,h1,h2,h3⟩:=h;exact⟨a,b,h1,⟨hg.sl h2.1,h2.2⟩,hg.row h3.1 h3.2⟩)|(obtain⟨L,h1,h2,h3,h4,h5⟩:=h;exact⟨L,h1,h2,h3,hg.blk h4 h5 (fun h=>h),hg.not h4.lt h5⟩)
theorem copy10_any (U:BS)(w:World)(ev fv wv pv:Value)(ne nf nw:Nat)(l:List Pc)(hI:MapI U w ev fv wv pv ne nf nw l) :
 Calls prog 76 #[.agg #[ev,fv,wv,pv]] w fun e w'=>∃S' ev' fv' wv' pv',e= .returned (.agg #[ev',fv',wv',pv'])∧MapR w.heap.size S' w' ev' fv' wv' pv' ne nf nw l∧Ev noB noB w S' w':=by
 have hnf:=hI.nf
 have hne:=hI.ne
 have hnw:=hI.nw
 have hnp:=hI.np
 have h0:=(OY.init (TW.none w)).box #[ev,fv,wv,pv] 37
 go_enter func76,ntmps76
 go_upto_region 1 with fail
 refine wp_world (fun W1 hW1=> ?_)
 have h1:=h0.box #[.slice none 0 0,.slice none 0 0,.slice none 0 0,.slice none 0 0] 37
 rw[show (w.alloc (.cells #[ev,fv,wv,pv] 37)).heap.size=w.heap.size+1 from by simp,←hW1] at h1
 obtain⟨BR,hBR⟩:∃b,w.heap.size+1=b:=⟨_,rfl⟩
 obtain⟨BM,hBM⟩:∃b,w.heap.size=b:=⟨_,rfl⟩
 rw[hBR,hBM] at h1
 rw[hBR,hBM]
 have hMR:BM<BR:=by omega
 replace h1:=h1.swap
 clear h0 hW1
 refine Go.wp_region_reln 10 (by kernel_rfl) (by kernel_rfl) (fun _ g W=>OY noB w g W [(BM,#[ev,fv,wv,pv],37),(BR,#[.slice none 0 0,.slice none 0 0,.slice none 0 0,.slice none 0 0],37)] []) (fun g W g' W'=>Ev noB g W g' W') (FCp w.heap.size BM BR nf ev fv wv pv l) (fun _ _ _ _ _ _ h g=>h.kept g) noB h1.drew ?_ ?_
 ·intro i o hi ho c bb g W hc hM hA hD K hK
  match i,hi,ho with
  |0,_,ho =>
   cases ho
   have hE:=Ev.alloc (X:=noB) hM.tw (tb_nil (S:=g) (W:=W) (e:=140))
   go_simp
   exact hK (.slice (some ⟨W.heap.size,0,none⟩) 0 0) _ _ ⟨SL.blk (.inr rfl) (Blk.new _ _ _) (by simp),own_at hM.size _⟩ hE (hM.evo hE ((zR _ _).alloc hM.size _))
  |1,_,ho =>
   cases ho
   have f1:=evalAt (v:= .pointer (some ⟨BM,0,none⟩)) (hA.at_ (k:=1) (by kernel_rfl))
   go_simp
   exact hK (.pointer (some ⟨BM,1,none⟩)) g W rfl (Ev.refl hM.tw) hM
  |2,_,ho =>
   cases ho
   have f9:=evalAt (v:= .pointer (some ⟨BM,1,none⟩)) (dep_atN hD 1 9 (by kernel_rfl) rfl rfl)
   have z0:W.cell? ⟨BM,1,none⟩=some (fv):=hM.b0.cell 1
   go_simp
   exact hK (fv) g W rfl (Ev.refl hM.tw) hM
  |3,_,ho =>
   cases ho
   have f8:=dep_atN hD 0 8 (by kernel_rfl) rfl rfl
   have f10:=evalAt (v:=fv) (dep_atN hD 2 10 (by kernel_rfl) rfl rfl)
   exact hM.append_f (hM.old hI.tw) _ _ 33 rfl underlying33 et_face flat_face rfl f8.1 f8.2 (evalEq f10) (hM.oldS hI.tw hI.f) (by omega) (fun v9 S9 w9 h1 h2 h3=>hK v9 S9 w9 ⟨by have:=h1.s0;rwa [Nat.zero_add] at this,h2⟩ h3 h1.tailT)
  |4,_,ho =>
   cases ho
   go_simp
   have hb:Below W.heap.size W (W.alloc (.cells #[] 66)):=(zR _ _).alloc (yR _) _
   exact hK (.slice (some ⟨W.heap.size,0,none⟩) 0 0) g _ ⟨_,rfl,hM.size,Blk.new _ _ _,fun hs=>Nat.lt_irrefl _ (hM.tw.lt hs)⟩ (Ev.of_below hM.tw hb) (hM.up hb)
  |5,_,ho =>
   cases ho
   have f1:=evalAt (v:= .pointer (some ⟨BM,0,none⟩)) (hA.at_ (k:=1) (by kernel_rfl))
   go_simp
   exact hK (.pointer (some ⟨BM,3,none⟩)) g W rfl (Ev.refl hM.tw) hM
  |6,_,ho =>
   cases ho
   have f13:=evalAt (v:= .pointer (some ⟨BM,3,none⟩)) (dep_atN hD 5 13 (by kernel_rfl) rfl rfl)
   have z0:W.cell? ⟨BM,3,none⟩=some (pv):=hM.b0.cell 3
   go_simp
   exact hK (pv) g W rfl (Ev.refl hM.tw) hM
  |7,_,ho =>
   cases ho
   have f12:=dep_atN hD 4 12 (by kernel_rfl) rfl rfl
   have f14:=evalAt (v:=pv) (dep_atN hD 6 14 (by kernel_rfl) rfl rfl)
   obtain⟨Z,h1,h2,h3,h4⟩:=f12
   have hLp:Lst plE w.heap.size W pv l:=hI.p.below hM.bel
   refine El.step_freshO plOk plIn _ _ (by rfl) w.heap.size Z h1 (fresh_row h3 h2) pv l (evalEq f14) hLp hI.frm (by omega) hM.size ?_
   rintro v9 w9 hr9 hb9⟨gu,cap,rfl,hgu⟩
   have hgn:¬g gu:=fun hs=>hgu.elim (fun e=>h4 (e▸hs)) (fun h=>Nat.not_lt.2 h (hM.tw.lt hs))
   exact hK _ g w9 ⟨hr9,fun b hb=>by cases hb;exact hgn⟩ (Ev.of_below hM.tw hb9) (hM.up hb9)
  |8,_,ho =>
   cases ho
   have f11:=dep_atN hD 3 11 (by kernel_rfl) rfl rfl
   have f15:=dep_atN hD 7 15 (by kernel_rfl) rfl rfl
   obtain⟨fa,e11⟩:∃v,bb.eval (.tmp 11)=v:=⟨_,rfl⟩
   obtain⟨pa,e15⟩:∃v,bb.eval (.tmp 15)=v:=⟨_,rfl⟩
   rw[e11] at f11
   rw[e15] at f15
   have h11:=f11
   have h15:=f15
   obtain⟨a1,c1,rfl,-⟩:=h11.1.form
   obtain⟨a2,c2,rfl,-⟩:=(lst_of_row plOk h15.1 (by omega)).form
   have f11:=evalAt e11
   have f15:=evalAt e15
   go_simp
   exact hK _ g W ⟨_,_,rfl,h11,h15⟩ (Ev.refl hM.tw) hM
  |9,_,ho =>
   cases ho
   go_simp
   have hb:Below W.heap.size W (W.alloc (.cells #[.slice none 0 0,.slice none 0 0,.slice none 0 0,.slice none 0 0] 37)):=(zR _ _).alloc (yR _) _
   exact hK (.pointer (some ⟨W.heap.size,0,none⟩)) g _ ⟨_,rfl,hM.size,hM.b1.lt,Blk.new _ _ _,fun hs=>Nat.lt_irrefl _ (hM.tw.lt hs)⟩ (Ev.of_below hM.tw hb) (hM.up hb)
  |i+10,hi,_=>exact absurd hi (by omega)
 ·intro bb g W hM hA hall
  obtain⟨fa,pa,h16,⟨hf1,hf2⟩,hr1,hr2⟩:=(show ∃a b,bb.eval (.tmp 16)= .agg #[.slice none 0 0,a,.slice none 0 0,b]∧(SL g W 140 a nf∧Own w.heap.size a)∧W.ownsRow w.heap.size 66 7 b l.length (l.flatMap plE.enc)∧∀c,b.ownBlock=some c→¬g c from hall 8 (by omega) _ _ rfl rfl)
  obtain⟨BL,h3,hL1,hL2,hL3,hL4⟩:=(show ∃L,bb.eval (.tmp 3)= .pointer (some ⟨L,0,none⟩)∧w.heap.size≤L∧BR<L∧Blk W L #[.slice none 0 0,.slice none 0 0,.slice none 0 0,.slice none 0 0] 37∧¬g L from hall 9 (by omega) _ _ rfl rfl)
  have hfr:=hA.frame [T,T,T,F,T,T,T,T,F,F,F,F,F,F,F,F,F,T,T,T,T,T,T,T,T,T,T,T,T,T,T,T,T,T,T,T,T,T,T,T,T,T,T,T,T,T,T,T,T,T,T,T,T,T,T,T,T,T,T,T,T,T] _ rfl (by kernel_rfl)
  clear hall hA
  obtain⟨f,hf⟩:∃f:Nat→Value,(fun k=>bb.tmps.getD k undef)=f:=⟨_,rfl⟩
  have g3:f 3= .pointer (some ⟨BL,0,none⟩):=by rw[←hf,←h3];rfl
  have g16:f 16= .agg #[.slice none 0 0,fa,.slice none 0 0,pa]:=by rw[←hf,←h16];rfl
  rw[hf] at hfr
  clear hf h3 h16
  subst hfr
  simp only[pickL,g3,g16,Nat.reduceAdd]
  clear g3 g16
  simp only[List.drop_succ_cons,List.drop_zero]
  clear h1
  obtain⟨l0,l1,l2,l3⟩:=cellsM4 hL3
  have z0:=hL3.frozen 0
  have z1:=hL3.frozen 1
  have z2:=hL3.frozen 2
  have z3:=hL3.frozen 3
  obtain⟨fa0,fc0,rfl,hfc⟩:=hf1.form
  obtain⟨pa0,pc0,rfl,hpc⟩:=(lst_of_row plOk hr1 (by omega)).form
  have hP0:OP noB w g W [(BL,#[.slice none 0 0,.slice none 0 0,.slice none 0 0,.slice none 0 0],37),(BM,#[ev,fv,wv,pv],37),(BR,#[.slice none 0 0,.slice none 0 0,.slice none 0 0,.slice none 0 0],37)] [(140,.slice fa0 nf fc0,nf)] (.slice pa0 l.length pc0) l :=
   ⟨(hM.known hL3 hL4 hL1 (by simp;omega)).add hf1,hr1,hr2,by simp⟩
  clear hM hr1 hr2 hL3 hL4 hf1
  go_upto_region 2 with fail
  refine wp_world (fun W2 hW2=> ?_)
  have hP1:=(((hP0.put rfl rfl).put rfl rfl).put rfl rfl).put hW2 rfl
  clear hW2 hP0 l0 l1 l2 l3 z0 z1 z2 z3
  simp at hP1
  go_wp2_with fail
  go_loopw [4] (fun kk wr=>∃(k:Nat) (S:BS) (e1:Value),k≤ne∧kk= .int .i64 (k:Nat)∧OP noB w S wr [(BL,#[e1,.slice fa0 nf fc0,.slice none 0 0,.slice pa0 l.length pc0],37),(BM,#[ev,fv,wv,pv],37),(BR,#[.slice none 0 0,.slice none 0 0,.slice none 0 0,.slice none 0 0],37)] [(206,e1,k),(140,.slice fa0 nf fc0,nf)] (.slice pa0 l.length pc0) l∧Own w.heap.size e1) (fun kk _=>ne-(intOf kk).toNat)
  case atStart=>exact⟨0,g,.slice none 0 0,Nat.zero_le _,rfl,hP1.add (SL.nil _ _ _),own_nil _⟩
  case round =>
   obtain⟨k,S,e1,hk,rfl,hP,hown⟩:=hrel
   have hIk:=hI.up hP.b.bel
   obtain⟨m0,m1,m2,m3⟩:=cellsM4 hP.b.b1
   by_cases hlt:k<ne
   ·have hltI:(k:Int)<(ne:Int):=by omega
    obtain⟨eb,eo,ec,rfl,hec,-⟩:=hIk.e.some_ (by omega)
    obtain⟨id,ll,rr,lv,m,c0,c1,c2,c3,f0,f2,f3,hlv,hm⟩:=SL.edge hIk.tw hIk.e hlt
    obtain⟨la,lc,rfl,hlc⟩:=hlv.form
    have hwk:IntKind.i64.wrap ((k:Int)+1)=((k+1:Nat):Int):=by rw[wrap_in7 (by omega) (by omega)];omega
    go_upto_region 6 with fail
    refine wp_world (fun WE hWE=> ?_)
    have hP2:=hP.box #[.int .i64 id,.slice la m lc,.int .i64 ll,.int .i64 rr] 206 (by decide)
    obtain⟨BE,hBE⟩:∃b,wr.heap.size=b:=⟨_,rfl⟩
    have hUE:Below wr.heap.size wr WE:=by rw[hWE];exact (zR _ _).alloc (yR _) _
    rw[←hWE,hBE] at hP2
    rw[hBE]
    have hIE:=hIk.up hUE
    have hlvE:=sl_below hUE (fun b hb=>hIk.tw.lt hb) hlv
    clear hP hWE hBE c0 c1 c2 c3 m0 m1 m2 m3 hIk hlv hUE
    have kE:=hP2.b.b0
    have k1:=kE.cell 1
    go_upto_region 7 with (first
     |(go_at_call 136;(with_reducible refine (line10_any U WE hIE.tw _ m hlvE (by omega)).mono ?_);rintro e WL⟨S3,v3,rfl,hv3,hev3⟩;obtain⟨a3,c3,rfl,hc3⟩:=hv3.form;have hP3:=hP2.evn hev3;have q1:=hP3.b.b0.cell 1;have y1:=hP3.b.b0.frozen 1)
     |fail)
    refine wp_world (fun WM hWM=> ?_)
    have hP4:=(hP3.add (sl_inr hv3)).put hWM rfl
    simp at hP4
    clear hP2 hP3 hWM q1 y1 hev3 hv3 hlvE kE k1 hIE
    obtain⟨e10,e1c,rfl,he1c⟩:=hP4.b.s1.form
    obtain⟨q0,q1,q2,q3⟩:=ed4 hP4.b.b0
    have q4:WM.cell? ⟨BL,0,none⟩=some _:=hP4.b.b1.cell 0
    obtain⟨HS,hHS⟩:∃b,WM.heap.size=b:=⟨_,rfl⟩
    go_wp2_with (first
     |(at_builtin;refine hP4.append_n (by rfl) _ _ 32 (by rfl) underlying32 et_edge (by rfl) hP4.b.s1 hown (by rfl) hHS (tb_edge f0 f2 f3 hP4.b.s0 hm) rfl (by omega) ?_;intro e9 S9 W9 hP9 hown9;obtain⟨e90,e9c,rfl,he9c⟩:=hP9.b.s0.form;have y4:=hP9.b.b1.frozen 0;have q5:W9.cell? ⟨BL,0,none⟩=some _:=hP9.b.b1.cell 0)
     |fail)
    refine⟨⟨k+1,S9,.slice e90 (k+1) e9c,hlt,rfl,(hP9.tail.put rfl rfl).sub (by simp),hown9⟩,?_⟩
    simp only[intOf,Int.toNat_natCast]
    omega
   ·have hge:((k:Int)<(ne:Int))=False:=by simp;omega
    obtain rfl:k=ne:=by omega
    obtain⟨ea,ec,rfl,hec⟩:=hI.e.form
    obtain⟨fb,fbc,rfl,-⟩:=hI.f.form
    clear hIk hP1 hL1 hL2
    go_wp2_with fail
    go_loopw [6] (fun kk wr=>∃(j:Nat) (S:BS) (w1:Value),j≤nw∧kk= .int .i64 (j:Nat)∧OP noB w S wr [(BL,#[e1,.slice fa0 nf fc0,w1,.slice pa0 l.length pc0],37),(BM,#[.slice ea k ec,.slice fb nf fbc,wv,pv],37),(BR,#[.slice none 0 0,.slice none 0 0,.slice none 0 0,.slice none 0 0],37)] [(149,w1,j),(206,e1,k),(140,.slice fa0 nf fc0,nf)] (.slice pa0 l.length pc0) l∧Own w.heap.size w1) (fun kk _=>nw-(intOf kk).toNat)
    case atStart=>exact⟨0,S,.slice none 0 0,Nat.zero_le _,rfl,hP.add (SL.nil _ _ _),own_nil _⟩
    case round =>
     clear hP m0 m1 m2 m3
     obtain⟨j,S,w1,hj,rfl,hP,hown⟩:=hrel
     have hIk:=hI.up hP.b.bel
     obtain⟨m0,m1,m2,m3⟩:=cellsM4 hP.b.b1
     by_cases hlt:j<nw
     ·have hltI:(j:Int)<(nw:Int):=by omega
      obtain⟨wb,wo,wc,rfl,hwc,-⟩:=hIk.w.some_ (by omega)
      obtain⟨id,lv,m,lev,cs,ns,st,wt,ds,c0,c1,c2,c3,c4,c5,c6,c7,f0,hlv,hm,f2,f3,f4,f6,f7⟩:=SL.way hIk.tw hIk.w hlt
      obtain⟨la,lc,rfl,hlc⟩:=hlv.form
      have hwk:IntKind.i64.wrap ((j:Int)+1)=((j+1:Nat):Int):=by rw[wrap_in7 (by omega) (by omega)];omega
      go_upto_region 12 with fail
      refine wp_world (fun WE hWE=> ?_)
      have hP2:=hP.box (wyC7 id (.slice la m lc) lev cs ns st wt ds) 149 (by decide)
      obtain⟨BE,hBE⟩:∃b,wr.heap.size=b:=⟨_,rfl⟩
      have hUE:Below wr.heap.size wr WE:=by rw[hWE];exact (zR _ _).alloc (yR _) _
      rw[←hWE,hBE] at hP2
      rw[hBE]
      have hIE:=hIk.up hUE
      have hlvE:=sl_below hUE (fun b hb=>hIk.tw.lt hb) hlv
      clear hP hWE hBE c0 c1 c2 c3 c4 c5 c6 c7 m0 m1 m2 m3 hIk hlv hUE
      have kE:=hP2.b.b0
      have k1:WE.cell? ⟨BE,1,none⟩=some (.slice la m lc):=kE.cell 1
      go_upto_region 13 with (first
       |(go_at_call 136;(with_reducible refine (line10_any U WE hIE.tw _ m hlvE (by omega)).mono ?_);rintro e WL⟨S3,v3,rfl,hv3,hev3⟩;obtain⟨a3,c3,rfl,hc3⟩:=hv3.form;have hP3:=hP2.evn hev3;have q1:=hP3.b.b0.cell 1;have y1:=hP3.b.b0.frozen 1)
       |fail)
      refine wp_world (fun WM hWM=> ?_)
      have hP4:OP _ _ _ _ ((BE,wyC7 id (.slice a3 m c3) lev cs ns st wt ds,_)::_) _ _ _:=(hP3.add (sl_inr hv3)).put hWM rfl
      clear hP2 hP3 hWM q1 y1 hev3 hv3 hlvE kE k1 hIE
      obtain⟨w10,w1c,rfl,hw1c⟩:=hP4.b.s1.form
      obtain⟨q0,q1,q2,q3,q4,q5,q6,q7⟩:=cells8 hP4.b.b0
      have q8:WM.cell? ⟨BL,2,none⟩=some _:=hP4.b.b1.cell 2
      obtain⟨HS,hHS⟩:∃b,WM.heap.size=b:=⟨_,rfl⟩
      go_wp2_with (first
       |(at_builtin;refine hP4.append_n (by rfl) _ _ 34 (by rfl) underlying34 et_way (by rfl) hP4.b.s1 hown (by rfl) hHS (tb_way f0 f2 f3 f4 f6 f7 hP4.b.s0 hm) rfl (by omega) ?_;intro e9 S9 W9 hP9 hown9;obtain⟨e90,e9c,rfl,he9c⟩:=hP9.b.s0.form;have y4:=hP9.b.b1.frozen 2;have q5:W9.cell? ⟨BL,2,none⟩=some _:=hP9.b.b1.cell 2)
       |fail)
      refine⟨⟨j+1,S9,.slice e90 (j+1) e9c,hlt,rfl,(hP9.tail.put rfl rfl).sub (by simp),hown9⟩,?_⟩
      simp only[intOf,Int.toNat_natCast]
      omega
     ·have hge:((j:Int)<(nw:Int))=False:=by simp;omega
      obtain rfl:j=nw:=by omega
      obtain⟨wa,wac,rfl,-⟩:=hI.w.form
      obtain⟨e10,e1c,rfl,he1c⟩:=hP.b.s1.form
      obtain⟨w10,w1c,rfl,hw1c⟩:=hP.b.s0.form
      obtain⟨b0,b1,b2,b3⟩:=cellsM4 hP.b.b0
      obtain⟨r0,r1,r2,r3⟩:=cellsM4 hP.b.b2
      have z0:=hP.b.b2.frozen 0
      have z1:=hP.b.b2.frozen 1
      have z2:=hP.b.b2.frozen 2
      have z3:=hP.b.b2.frozen 3
      have hX:=((((hP.tail.swap.put (i:=0) (v:= .slice e10 k e1c) rfl rfl).put (i:=1) (v:= .slice fa0 nf fc0) rfl rfl).put (i:=2) (v:= .slice w10 j w1c) rfl rfl).put (i:=3) (v:= .slice pa0 l.length pc0) (c':= #[.slice e10 k e1c,.slice fa0 nf fc0,.slice w10 j w1c,.slice pa0 l.length pc0]) rfl rfl)
      clear hIk m0 m1 m3 hP hown hI
      go_wp2_with fail
      exact bodyPost_ret (results_cell_row (by rfl) _ _ BR 37 _ (0,0) _ (by rfl) hX.b.b0 underlying37 (by rfl) (by kernel_rfl)) rfl ⟨S,_,_,_,_,rfl,⟨hX.b.s1,hX.b.s2,hX.b.s0,hX.row,hX.off⟩,hX.b.o.ev⟩
end
section
open Go Go.RowKit Go.Shelf Go.Lib
theorem pts_typed {S:BS}{W:World}{v:Value}{n:Nat}(hT:TW S W)(h:SL S W 26 v n):∃ps:List Spot,ps.length=n∧Pts W.heap.size W v ps:=by
 by_cases hn:n=0
 ·subst hn
  obtain⟨a,cap,rfl,-⟩:=h.form
  exact⟨[],rfl,a,cap,rfl,fun j hj=>absurd hj (by simp)⟩
 ·obtain⟨b,off,cap,rfl,-,hS⟩:=h.some_ (by omega)
  have H:∀k:Fin n,∃p:Spot,W.cell? ⟨b,off+k.1*2,none⟩=some (.int .i64 p.1)∧W.cell? ⟨b,off+k.1*2+1,none⟩=some (.int .i64 p.2):=fun k=>by
   obtain⟨u0,c0,h0⟩:=h.cell hT et_point k.2 0 .int rfl
   obtain⟨u1,c1,h1⟩:=h.cell hT et_point k.2 1 .int rfl
   obtain⟨x,rfl,-⟩:=h0.i rfl
   obtain⟨y,rfl,-⟩:=h1.i rfl
   exact⟨(x,y),c0,c1⟩
  refine⟨List.ofFn fun k=>Classical.choose (H k),by simp,some ⟨b,off,none⟩,cap,by simp,fun j hj=>⟨b,off,rfl,hT.lt hS,?_⟩⟩
  have hj':j<n:=by simpa using hj
  have:=Classical.choose_spec (H ⟨j,hj'⟩)
  simpa using this
theorem wys_typed {S:BS}{W:World}{v:Value}{n:Nat}(hT:TW S W)(h:SL S W 149 v n):∃ws:List Wy,ws.length=n∧Wys W.heap.size W v ws∧∀y∈ws,fits y.id∧y.line.length≤100:=by
 by_cases hn:n=0
 ·subst hn
  obtain⟨a,cap,rfl,-⟩:=h.form
  exact⟨[],rfl,⟨a,cap,rfl,fun j hj=>absurd hj (by simp)⟩,fun y hy=>absurd hy (by simp)⟩
 ·obtain⟨b,off,cap,rfl,-,hS⟩:=h.some_ (by omega)
  have H:∀k:Fin n,∃y:Wy,WyAt W.heap.size W b (off+k.1*8) y∧fits y.id∧y.line.length≤100:=fun k=>by
   obtain⟨id,lv,m,lev,cs,ns,st,wt,ds,c0,c1,c2,c3,c4,c5,c6,c7,f0,hl,hm,-⟩:=h.way hT k.2
   obtain⟨ps,hps,hP⟩:=pts_typed hT hl
   exact⟨⟨id,ps,lv,lev,cs,ns,st,wt,ds⟩,⟨c0,c1,c2,c3,c4,c5,c6,c7,hP⟩,f0,by simp only;omega⟩
  refine⟨List.ofFn fun k=>Classical.choose (H k),by simp,⟨some ⟨b,off,none⟩,cap,by simp,fun j hj=>⟨b,off,rfl,hT.lt hS,?_⟩⟩,fun y hy=> ?_⟩
  ·have hj':j<n:=by simpa using hj
   have:=(Classical.choose_spec (H ⟨j,hj'⟩)).1
   simpa using this
  ·obtain⟨j,hj,rfl⟩:=List.getElem_of_mem hy
   have hj':j<n:=by simpa using hj
   have:=(Classical.choose_spec (H ⟨j,hj'⟩)).2
   simpa using this
end
section
open Go Go.RowKit Go.Shelf
theorem flatMap_set {α:Type}{E:El α}(hE:E.Ok):∀(l:List α)(p i:Nat)(hp:p<l.length)(hi:i<E.s)(y:α)(u:Value),E.enc y=(E.enc l[p]).set i u→(l.flatMap E.enc).set (p*E.s+i) u=(l.set p y).flatMap E.enc
 |x::l,0,i,hp,hi,y,u,h=>by
  have hl:(E.enc x).length=E.s:=hE.len x
  rw[List.set_cons_zero,List.flatMap_cons,List.flatMap_cons,Nat.zero_mul,Nat.zero_add,List.set_append_left _ _ (by omega),h]
  rfl
 |x::l,p+1,i,hp,hi,y,u,h=>by
  have hl:(E.enc x).length=E.s:=hE.len x
  have hp':p<l.length:=by simpa using hp
  rw[List.set_cons_succ,List.flatMap_cons,List.flatMap_cons,List.set_append_right _ _ (by rw[hl,Nat.add_mul];omega),hl,show (p+1)*E.s+i-E.s=p*E.s+i from by rw[Nat.add_mul];omega]
  rw[flatMap_set hE l p i hp' hi y u h]
theorem El.setRow {α:Type}{E:El α}(hE:E.Ok){W:World}{base g cap:Nat}{l:List α}(hr:W.ownsRow base E.t E.s (.slice (some ⟨g,0,none⟩) l.length cap) l.length (l.flatMap E.enc)){p i:Nat}(hp:p<l.length)(hi:i<E.s){y:α}{u:Value}(h:E.enc y=(E.enc l[p]).set i u) :
 (W.setCell ⟨g,p*E.s+i,none⟩ u).ownsRow base E.t E.s (.slice (some ⟨g,0,none⟩) l.length cap) (l.set p y).length ((l.set p y).flatMap E.enc):=by
 obtain⟨h1,⟨h2,-⟩|⟨g',cap',cur,h2,h3,h4,h5,h6,h7,h8⟩⟩:=hr
 ·cases h2
 ·cases h2
  have hk:Blk W g cur E.t:=h4
  have h9:=flatMap_set hE l p i hp hi y u h
  have hlt:p*E.s+i<l.length*E.s:=by
   have:=Nat.mul_le_mul_right E.s (show p+1≤l.length by omega)
   rw[Nat.add_mul] at this
   omega
  rw[List.length_set]
  refine⟨by rw[←h9,List.length_set];exact h1,.inr ⟨g,cap,cur.setIfInBounds (p*E.s+i) u,rfl,h3,hk.set _ _,h5,h6,by rw[Array.size_setIfInBounds];exact h7,?_⟩⟩
  rw[←h9,←h8]
  simp only[Array.toList_setIfInBounds]
  rw[List.take_set]
section
variable {α:Type}{E:El α}{P:Program}{st:TypeId}{w:World}{l:List α}
end
section
variable {S0 S S':BS}{W0 W W':World}{L:OwnL}{T:SlL}{ov v:Value}{l:List Pc}
theorem OY.other {o:Option Nat}(h:OY S0 W0 S W L T)(hg:W.grownBy W' o)(ho:∀g,o=some g→¬S g∧W0.heap.size≤g∧∀p∈L,p.1≠g):OY S0 W0 S W' L T:=by
 have hsame:∀b,S b→W'.heap[b]? =W.heap[b]? :=fun b hb=>hg.block b (h.tw.lt hb) (fun e=>(ho b e.symm).1 hb)
 have hev:=h.o.ev.own hg (fun r e=>⟨(ho r e).1,(ho r e).2.1⟩)
 have hbel:Below W0.heap.size W W':=Below.of_grown hg h.size (fun q e=>(ho q e).2.1)
 have hsh:Shp S W W':=fun b c e hb hc=>⟨c,(hsame b hb).trans hc,rfl⟩
 refine⟨⟨hev,fun p hp=> ?_,h.o.ne,fun q hq=>(h.o.sl q hq).mono (fun _ h=>h) hsh⟩,h.bel.trans hbel⟩
 obtain⟨k1,k2,k3⟩:=h.o.bx p hp
 exact⟨k1.kept hg (fun e=>(ho p.1 e).2.2 p hp rfl),k2,k3⟩
theorem OP.offL (h:OP S0 W0 S W L T ov l):∀g,ov.ownBlock=some g→¬S g∧W0.heap.size≤g∧∀p∈L,p.1≠g:=fun g hg=>by
 have h1:=(h.row.lt g hg).1
 refine⟨h.off g hg,h1,fun p hp e=> ?_⟩
 rcases h.row.2 with ⟨rfl,h3⟩|⟨g',cap,cur,rfl,h3,h4,h5⟩
 ·cases hg
 ·cases hg
  have k1:=(h.b.o.bx p hp).1
  unfold Blk at k1
  rw[e,h4] at k1
  simp only[Option.some.injEq,Obj.cells.injEq] at k1
  exact h.np p hp k1.2.1.symm
theorem OP.more {l':List Pc}(h:OP S0 W0 S W L T ov l)(hr:W'.ownsRow W0.heap.size 66 7 v l'.length (l'.flatMap plE.enc))(hg:W.grownBy W' ov.ownBlock)(hn:∀g,v.ownBlock=some g→ov.ownBlock=some g∨W.heap.size≤g):OP S0 W0 S W' L T v l':=by
 refine⟨h.b.other hg h.offL,hr,fun g e hs=> ?_,h.np⟩
 rcases hn g e with h1|h1
 ·exact h.off g h1 hs
 ·have:=h.b.tw.lt hs
  omega
theorem OP.setRow {g cap:Nat}(h:OP S0 W0 S W L T (.slice (some ⟨g,0,none⟩) l.length cap) l){p i:Nat}(hp:p<l.length)(hi:i<7){y:Pc}{u:Value}(he:plE.enc y=(plE.enc l[p]).set i u) :
 OP S0 W0 S (W.setCell ⟨g,p*7+i,none⟩ u) L T (.slice (some ⟨g,0,none⟩) l.length cap) (l.set p y):=by
 have:=El.setRow plOk h.row hp hi he
 refine h.more (by rw[List.length_set] at this ⊢;exact this) (grown_set W g _ u) (fun g' e=> .inl e)
end
end
section
open Go.RowKit Go.Shelf
attribute [local go_sem] Oper.semAt_some
attribute [local go_sem ↓] Go.wp_at_zero Go.wp_at_succ
abbrev texts10:Array Value:= #[.string ⟨#[]⟩,.string ⟨#[77,111,111,114]⟩,.string ⟨#[71,97,116,101]⟩,.string ⟨#[120,32,121]⟩,.string ⟨#[32,120]⟩,.string ⟨#[120,32]⟩,.string ⟨#[97,34,98]⟩,.string ⟨#[97,98,99,100,101,102,103,104,105,106,107,108,109,110,111,112,113,114,115,116,117,118,119,120,121]⟩,.string ⟨#[65]⟩,.string ⟨#[31]⟩]
theorem text10_fun (k:Nat)(hk:k<1000):∃s:ByteArray,s.size≤30∧∀w:World,Calls prog 79 #[.int .i64 (k:Nat)] w fun e w'=>e= .returned (.string s)∧Below w.heap.size w w':=by
 obtain⟨m,hm,hm2⟩:∃m:Nat,(k:Int) % 10=(m:Int)∧m<10:=⟨k % 10,by omega,by omega⟩
 obtain⟨s,hs,hc⟩:∃s:ByteArray,s.size≤30∧texts10[m]? =some (.string s):=by
  match m,hm2 with
  |0,_=>exact⟨_,by decide,rfl⟩
  |1,_=>exact⟨_,by decide,rfl⟩
  |2,_=>exact⟨_,by decide,rfl⟩
  |3,_=>exact⟨_,by decide,rfl⟩
  |4,_=>exact⟨_,by decide,rfl⟩
  |5,_=>exact⟨_,by decide,rfl⟩
  |6,_=>exact⟨_,by decide,rfl⟩
  |7,_=>exact⟨_,by decide,rfl⟩
  |8,_=>exact⟨_,by decide,rfl⟩
  |9,_=>exact⟨_,by decide,rfl⟩
 refine⟨s,hs,fun w=> ?_⟩
 have kB:=Blk.new w texts10 9
 have cs:(w.alloc (.cells texts10 9)).cell? ⟨w.heap.size,m,none⟩=some (.string s):=(kB.cell m).trans hc
 have hmI:(m:Int)<10:=by omega
 have hkm:Int.tmod (k:Int) 10=(m:Int):=by rw[Int.tmod_eq_emod_of_nonneg (by omega)];exact hm
 clear kB hc
 go_enter func79,ntmps79
 go_wp2_with fail
 go_ret
 exact⟨rfl,(by repeat' (first|with_reducible (first|exact zR _ _|exact yR _|assumption|refine zG ?_ ?_ _|refine zA ?_ ?_ _|refine zS ?_ ?_ _|refine zD ?_|refine yA ?_|refine yG ?_|refine yS ?_|refine yD ?_)|omega|(dsimp only;omega)))⟩
end
end Go.Proofs.YtfocdbjceedagaaGreatDoor
