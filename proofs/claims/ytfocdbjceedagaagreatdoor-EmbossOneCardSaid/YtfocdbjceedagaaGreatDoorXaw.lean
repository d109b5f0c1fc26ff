/-
  Parts.
-/
import Derived.Test.YtfocdbjceedagaaGreatDoorXav
set_option linter.unusedVariables false
set_option linter.unusedSimpArgs false
set_option maxHeartbeats 4000000
set_option maxRecDepth 100000
namespace Go.Proofs.YtfocdbjceedagaaGreatDoor
open Tryz
section
open Go Go.RowKit Go.Shelf Go.Lib Go.Maps
def b2a (Bw Bc Bm:Nat)(W:World)(k:Nat):Prop:=(∃o,W.heap[k]? =some o∧a5u o=false)∧(k=Bw∨k=Bc∨k=Bm∨∃off len cap,W.cell? ⟨Bw,0,none⟩=some (.slice (some ⟨k,off,none⟩) len cap))
theorem b9m {Bw Bc Bm:Nat}{W:World}{k:Nat}(h:b2a Bw Bc Bm W k):k<W.heap.size:=by
 obtain⟨⟨o,ho,-⟩,-⟩:=h;exact (Array.getElem?_eq_some_iff.1 ho).1
theorem b4l (Bw Bc Bm:Nat)(W:World)(l:Nat)(o:Obj)(h:W.heap[l]? =some o)(ho:a5u o=true):¬b2a Bw Bc Bm W l:=by
 rintro⟨⟨o',h',hc⟩,-⟩;rw[h] at h'
 cases h';rw[ho] at hc
 cases hc
theorem c8t (Bw Bc Bm:Nat)(W:World)(l k:Nat)(o o':Obj)(h:W.heap[l]? =some o)(ho:a5u o=true)(ho':a5u o'=true):b2a Bw Bc Bm (W.putObj l o') k↔b2a Bw Bc Bm W k:=by
 have hlt:l<W.heap.size:=(Array.getElem?_eq_some_iff.1 h).1;have hl':(W.putObj l o').heap[l]? =some o':=World.putObj_heap_same hlt;by_cases hk:k=l
 ·subst hk
  exact⟨fun hc=>absurd hc (b4l Bw Bc Bm _ k o' hl' ho'),fun hc=>absurd hc (b4l Bw Bc Bm W k o h ho)⟩
 ·have e1:(W.putObj l o').heap[k]? =W.heap[k]? :=World.putObj_heap_other hk
  have e2:(W.putObj l o').cell? ⟨Bw,0,none⟩=W.cell? ⟨Bw,0,none⟩:=by
   by_cases hb:Bw=l
   ·subst hb
    rw[a3n hl' (a1s ho'),a3n h (a1s ho)]
   ·exact a4u (World.putObj_heap_other hb)
  unfold b2a;simp only[e1,e2]
theorem c2e (Bw Bc Bm:Nat)(W:World)(k:Nat)(o:Obj)(h:b2a Bw Bc Bm (W.alloc o) k)(ho:a5u o=true):b2a Bw Bc Bm W k:=by
 have hnew:(W.alloc o).heap[W.heap.size]? =some o:=World.alloc_heap_new W o;have hk:k≠W.heap.size:=fun e=>b4l Bw Bc Bm _ k o (by rw[e];exact hnew) ho h
 have hlt:=b9m h;rw[World.size_alloc] at hlt;have e1:(W.alloc o).heap[k]? =W.heap[k]? :=Below.heap_alloc W o k (by omega);obtain⟨⟨o',h1,h2⟩,h3⟩:=h;refine⟨⟨o',e1.symm.trans h1,h2⟩,h3.imp id (Or.imp id (Or.imp id ?_))⟩;rintro⟨off,len,cap,hc⟩;have hb:Bw<(W.alloc o).heap.size:=World.block_lt_of_cell? _ _ hc;rw[World.size_alloc] at hb;by_cases hbo:Bw=W.heap.size
 ·rw[hbo,a3n hnew (a1s ho)] at hc
  cases hc
 ·exact⟨off,len,cap,by rw[←a4u (Below.heap_alloc W o Bw (by omega))];exact hc⟩
structure DIr (n0:Nat)(w:World)(Bw Bc Bm:Nat)(L:List (Nat×Array Value×TypeId))(v:Value)(c:Int)(m:Nat)(en:List (Int×Bool))(want:List Dt)(W:World):Prop where
 b:Blk W Bw #[v] 41
 row:W.ownsRow n0 54 4 v want.length (want.flatMap dtE.enc)
 c:Blk W Bc #[.int .i64 c] 3
 mp:MapK prog idK boV W Bm m en
 o:∀q∈L,Blk W q.1 q.2.1 q.2.2
 ne:∀q∈L,q.1≠Bw∧q.1≠Bc∧q.1≠Bm∧q.2.2≠54
 bw:n0≤Bw
 bc:n0≤Bc
 bm:n0≤Bm
 d1:Bw≠Bc
 d2:Bw≠Bm
 d3:Bc≠Bm
 bel:Below n0 w W
 nw:n0≤w.heap.size
section
variable {n0 Bw Bc Bm m:Nat}{w W W':World}{L:List (Nat×Array Value×TypeId)}{v:Value}{c:Int}{en:List (Int×Bool)}{want:List Dt}
theorem DIr.hz (h:DIr n0 w Bw Bc Bm L v c m en want W):n0≤W.heap.size:=Nat.le_trans h.nw h.bel.size
theorem DIr.cm (h:DIr n0 w Bw Bc Bm L v c m en want W):b2a Bw Bc Bm W Bm:=by
 obtain⟨D,⟨es,clock,he,-⟩,-⟩:=h.mp;exact⟨⟨_,he,rfl⟩,.inr (.inr (.inl rfl))⟩
theorem DIr.cb (h:DIr n0 w Bw Bc Bm L v c m en want W):b2a Bw Bc Bm W Bw:=⟨⟨_,h.b,rfl⟩,.inl rfl⟩
theorem DIr.cc (h:DIr n0 w Bw Bc Bm L v c m en want W):b2a Bw Bc Bm W Bc:=⟨⟨_,h.c,rfl⟩,.inr (.inl rfl)⟩
theorem DIr.cr (h:DIr n0 w Bw Bc Bm L v c m en want W){k:Nat}(hk:v.ownBlock=some k):b2a Bw Bc Bm W k:=by
 rcases h.row.2 with ⟨rfl,-⟩|⟨g,cap,cur,rfl,-,hg,-⟩
 ·cases hk
 ·cases hk
  exact⟨⟨_,hg,rfl⟩,.inr (.inr (.inr ⟨0,_,cap,h.b.cell 0⟩))⟩
theorem DIr.c_row (h:DIr n0 w Bw Bc Bm L v c m en want W)(hp:Blk W' Bw #[v] 41){k:Nat}(hc:b2a Bw Bc Bm W' k):k=Bw∨k=Bc∨k=Bm∨v.ownBlock=some k:=by
 obtain⟨-,rfl|rfl|rfl|⟨off,len,cap,hcell⟩⟩:=hc
 ·exact .inl rfl
 ·exact .inr (.inl rfl)
 ·exact .inr (.inr (.inl rfl))
 ·refine .inr (.inr (.inr ?_))
  rw[hp.cell 0] at hcell;have hv:v= .slice (some ⟨k,off,none⟩) len cap:=by simpa using hcell
  rcases h.row.2 with ⟨e,-⟩|⟨g,cap',cur,e,-⟩
  ·rw[e] at hv;cases hv
  ·rw[e] at hv
   simp only[Value.slice.injEq,Option.some.injEq,Addr.mk.injEq] at hv;rw[e,←hv.1.1];rfl
theorem DIr.keep_row (h:DIr n0 w Bw Bc Bm L v c m en want W){row:Option Nat}(hg:W.grownBy W' row)(hr:∀r,row=some r→n0≤r∧r≠Bw∧r≠Bc∧r≠Bm∧v.ownBlock≠some r)(ho:∀q∈L,some q.1≠row):DIr n0 w Bw Bc Bm L v c m en want W':=by
 have hk:W'.ownsRow n0 54 4 v want.length (want.flatMap dtE.enc):=h.row.kept hg (by
  cases hb:v.ownBlock with
  |none=>exact .inl rfl
  |some b=>exact .inr fun e=>(hr b e.symm).2.2.2.2 hb)
 exact⟨h.b.kept hg (fun e=>(hr Bw e).2.1 rfl),hk,h.c.kept hg (fun e=>(hr Bc e).2.2.1 rfl),h.mp.kept hg (fun e=>(hr Bm e).2.2.2.1 rfl),fun q hq=>(h.o q hq).kept hg (fun e=>ho q hq e.symm),h.ne,h.bw,h.bc,h.bm,h.d1,h.d2,h.d3,h.bel.grown hg h.hz fun r e=>(hr r e).1,h.nw⟩
theorem DIr.below (h:DIr n0 w Bw Bc Bm L v c m en want W)(hb:Below W.heap.size W W'):DIr n0 w Bw Bc Bm L v c m en want W':=h.keep_row (a2h none hb) (fun r e=>by cases e) (fun q _ e=>by cases e)
theorem DIr.turn (h:DIr n0 w Bw Bc Bm L v c m en want W){Z:Nat}(hz:n0≤Z)(hL:∀q∈L,q.1<Z){row:Option Nat}(hg:W.grownBy W' row)(hr:∀r,row=some r→Z≤r∧¬b2a Bw Bc Bm W r):DIr n0 w Bw Bc Bm L v c m en want W' :=
 h.keep_row hg (fun r e=>⟨Nat.le_trans hz (hr r e).1,fun e2=>(hr r e).2 (e2▸h.cb),fun e2=>(hr r e).2 (e2▸h.cc),fun e2=>(hr r e).2 (e2▸h.cm),fun e2=>(hr r e).2 (h.cr e2)⟩) (fun q hq e=>by
  have:=(hr _ e.symm).1;have:=hL q hq;omega)
theorem DIr.mine (h:DIr n0 w Bw Bc Bm L v c m en want W){row:Option Nat}{k:Nat}(hg:W.grownBy W' row)(hr:∀r,row=some r→¬b2a Bw Bc Bm W r)(hc:b2a Bw Bc Bm W' k):b2a Bw Bc Bm W k:=by
 rcases h.c_row (h.b.kept hg (fun e=>hr _ e h.cb)) hc with rfl|rfl|rfl|hk
 ·exact h.cb
 ·exact h.cc
 ·exact h.cm
 ·exact h.cr hk
theorem DIr.keepP (h:DIr n0 w Bw Bc Bm L v c m en want W)(hb:Below W.heap.size W W'):KeepP (b2a Bw Bc Bm) n0 W W' :=
 ⟨⟨hb.size,fun k hk _=>hb.block k hk,fun k hc=> .inl (h.mine (a2h none hb) (fun r e=>by cases e) hc)⟩,hb.mono h.hz⟩
theorem DIr.count (h:DIr n0 w Bw Bc Bm L v c m en want W)(c':Int):DIr n0 w Bw Bc Bm L v c' m en want (W.setCell ⟨Bc,0,none⟩ (.int .i64 c'))∧KeepP (b2a Bw Bc Bm) n0 W (W.setCell ⟨Bc,0,none⟩ (.int .i64 c')):=by
 have hg:=a0h W Bc 0 (.int .i64 c');have hlt:=h.c.lt;have hrow:(W.setCell ⟨Bc,0,none⟩ (.int .i64 c')).ownsRow n0 54 4 v want.length (want.flatMap dtE.enc):=a0x h.row hg fun r e=>by
  cases e;exact⟨_,h.c,fun cur e2=>by simp only[Obj.cells.injEq] at e2;exact absurd e2.2.1 (by decide)⟩
 have hD:DIr n0 w Bw Bc Bm L v c' m en want (W.setCell ⟨Bc,0,none⟩ (.int .i64 c')) :=
  ⟨h.b.kept hg (fun e=>by cases e;exact h.d1 rfl),hrow,h.c.set 0 _,h.mp.kept hg (fun e=>by cases e;exact h.d3 rfl),fun q hq=>(h.o q hq).kept hg (fun e=>by cases e;exact (h.ne q hq).2.1 rfl),h.ne,h.bw,h.bc,h.bm,h.d1,h.d2,h.d3,h.bel.grown hg h.hz fun r e=>by cases e;exact h.bc,h.nw⟩
 refine⟨hD,⟨⟨hg.size,fun k hk hn=>hg.block k hk fun e=>hn (by cases e;exact h.cc),fun k hc=> .inl ?_⟩,(show Below n0 W W from zR _ _).grown hg h.hz fun r e=>by cases e;exact h.bc⟩⟩;rcases h.c_row hD.b hc with rfl|rfl|rfl|hk
 ·exact h.cb
 ·exact h.cc
 ·exact h.cm
 ·exact h.cr hk
theorem DIr.set (h:DIr n0 w Bw Bc Bm L v c m en want W){m':Nat}{en':List (Int×Bool)}(hm:MapK prog idK boV W' Bm m' en')(hg:W.grownBy W' (some Bm)):DIr n0 w Bw Bc Bm L v c m' en' want W'∧KeepP (b2a Bw Bc Bm) n0 W W':=by
 have hrow:W'.ownsRow n0 54 4 v want.length (want.flatMap dtE.enc):=a0x h.row hg fun r e=>by
  cases e;obtain⟨D,⟨es,clock,he,-⟩,-⟩:=h.mp;exact⟨_,he,fun cur e2=>by cases e2⟩
 have hD:DIr n0 w Bw Bc Bm L v c m' en' want W' :=
  ⟨h.b.kept hg (fun e=>by cases e;exact h.d2 rfl),hrow,h.c.kept hg (fun e=>by cases e;exact h.d3 rfl),hm,fun q hq=>(h.o q hq).kept hg (fun e=>by cases e;exact (h.ne q hq).2.2.1 rfl),h.ne,h.bw,h.bc,h.bm,h.d1,h.d2,h.d3,h.bel.grown hg h.hz fun r e=>by cases e;exact h.bm,h.nw⟩
 refine⟨hD,⟨⟨hg.size,fun k hk hn=>hg.block k hk fun e=>hn (by cases e;exact h.cm),fun k hc=> .inl ?_⟩,(show Below n0 W W from zR _ _).grown hg h.hz fun r e=>by cases e;exact h.bm⟩⟩;rcases h.c_row hD.b hc with rfl|rfl|rfl|hk
 ·exact h.cb
 ·exact h.cc
 ·exact h.cm
 ·exact h.cr hk
theorem DIr.add (h:DIr n0 w Bw Bc Bm L v c m en want W){v':Value}{l2:List Dt}(hg:W.grownBy W' v.ownBlock)(hr:W'.ownsRow n0 54 4 v' (want++l2).length ((want++l2).flatMap dtE.enc))(hv:v'.ownBlock=v.ownBlock∨∃b,v'.ownBlock=some b∧W.heap.size≤b) :
 Blk W' Bw #[v] 41∧DIr n0 w Bw Bc Bm L v' c m en (want++l2) (W'.setCell ⟨Bw,0,none⟩ v')∧KeepP (b2a Bw Bc Bm) n0 W (W'.setCell ⟨Bw,0,none⟩ v'):=by
 have hlo:∀r,v.ownBlock=some r→n0≤r∧r<W.heap.size:=fun r e=>h.row.lt r e
 have kb:Blk W' Bw #[v] 41:=h.b.kept hg (fun e=>a0s h.row h.b (by decide) e);have kc:Blk W' Bc #[.int .i64 c] 3:=h.c.kept hg (fun e=>a0s h.row h.c (by decide) e);have hg2:=a0h W' Bw 0 v';have hobj:∀r,v.ownBlock=some r→∃cur,W.heap[r]? =some (.cells cur 54 (0,0)):=fun r e=>by
  rcases h.row.2 with ⟨rfl,-⟩|⟨g,cap,cur,rfl,-,hgg,-⟩
  ·cases e
  ·cases e
   exact⟨cur,hgg⟩
 have km:MapK prog idK boV W' Bm m en:=h.mp.kept hg fun e=>by
  obtain⟨cur,hc⟩:=hobj _ e;obtain⟨D,⟨es,clock,he,-⟩,-⟩:=h.mp;rw[hc] at he
  cases he
 have hrow:(W'.setCell ⟨Bw,0,none⟩ v').ownsRow n0 54 4 v' (want++l2).length ((want++l2).flatMap dtE.enc):=a0x hr hg2 fun r e=>by
  cases e;exact⟨_,kb,fun cur e2=>by simp only[Obj.cells.injEq] at e2;exact absurd e2.2.1 (by decide)⟩
 have hD:DIr n0 w Bw Bc Bm L v' c m en (want++l2) (W'.setCell ⟨Bw,0,none⟩ v'):=by
  refine⟨kb.set 0 v',hrow,kc.kept hg2 (fun e=>by cases e;exact h.d1 rfl),km.kept hg2 (fun e=>by cases e;exact h.d2 rfl),fun q hq=> ?_,h.ne,h.bw,h.bc,h.bm,h.d1,h.d2,h.d3,?_,h.nw⟩
  ·refine ((h.o q hq).kept hg (fun e=> ?_)).kept hg2 (fun e=> ?_)
   ·obtain⟨cur,hc⟩:=hobj _ e
    have h2:=h.o q hq;unfold Blk at h2;rw[hc] at h2;simp only[Option.some.injEq,Obj.cells.injEq] at h2;exact absurd h2.2.1.symm (h.ne q hq).2.2.2
   ·cases e
    exact (h.ne q hq).1 rfl
  ·exact (h.bel.grown hg h.hz fun r e=>(hlo r e).1).grown hg2 (Nat.le_trans h.hz hg.size) fun r e=>by cases e;exact h.bw
 refine⟨kb,hD,⟨⟨Nat.le_trans hg.size hg2.size,fun k hk hn=> ?_,fun k hc=> ?_⟩,?_⟩⟩
 ·exact (hg2.block k (Nat.lt_of_lt_of_le hk hg.size) fun e=>hn (by cases e;exact h.cb)).trans (hg.block k hk fun e=>hn (h.cr e.symm))
 ·rcases hD.c_row hD.b hc with rfl|rfl|rfl|hk
  ·exact .inl h.cb
  ·exact .inl h.cc
  ·exact .inl h.cm
  ·rcases hv with h1|⟨b,h1,h2⟩
   ·exact .inl (h.cr (h1▸hk))
   ·rw[h1] at hk
    cases hk;exact .inr h2
 ·exact ((show Below n0 W W from zR _ _).grown hg h.hz fun r e=>(hlo r e).1).grown hg2 (Nat.le_trans h.hz hg.size) fun r e=>by cases e;exact h.bw
end
end
section
open Go Go.RowKit Go.Shelf Go.Lib Go.Maps
attribute [local go_sem] Oper.semAt_some
attribute [local go_sem ↓] Go.wp_at_zero Go.wp_at_succ
abbrev cdN (s:Sh)(pl:Pn)(wd:List Dt)(qs:List Pc):Option CD:=qs.foldlM (a2q (pfS s) pl) ⟨wd,0,[]⟩
theorem c8u (s:Sh)(pl:Pn)(wd:List Dt)(qs:List Pc)(p:Pc):cdN s pl wd (qs++[p])=(cdN s pl wd qs).bind fun st=>a2q (pfS s) pl st p:=by
 unfold cdN;rw[List.foldlM_append]
 cases h:List.foldlM (a2q (pfS s) pl) ⟨wd,0,[]⟩ qs <;> simp
theorem c8v (s:Sh)(pl:Pn)(wd:List Dt)(qs rs:List Pc)(p:Pc)(h:cdN s pl wd (qs++[p])=none):cdN s pl wd (qs++p::rs)=none:=by
 unfold cdN at h ⊢;rw[show qs++p::rs=(qs++[p])++rs by simp,List.foldlM_append,h];rfl
def CI (n0:Nat)(w:World)(Bw Bc Bm:Nat)(L:List (Nat×Array Value×TypeId))(s:Sh)(pl:Pn)(wd:List Dt)(pre:List (Pc×Value))(W:World):Prop :=
 ∃v m en st,cdN s pl wd (pre.map Prod.fst)=some st∧m≤pre.length∧st.left≤pre.length∧st.want.length≤wd.length+33*pre.length∧SetI en st.last∧DIr n0 w Bw Bc Bm L v (st.left:Nat) m en st.want W
theorem c5o {l:List Dt}{v:Value}{W W':World}{Bm:Nat}{m:Nat}{en:List (Int×Bool)}(h:Lst dtE W.heap.size W v l)(hg:W.grownBy W' (some Bm))(hm:MapK prog idK boV W Bm m en):Lst dtE W'.heap.size W' v l:=by
 obtain⟨D,⟨es,clock,ho,-⟩,-⟩:=hm;obtain⟨a,cap,e,c1,c2,c3⟩:=h;refine⟨a,cap,e,c1,c2,fun j hj=> ?_⟩;obtain⟨b,off,rfl,hb,hc⟩:=c3 j hj;refine⟨b,off,rfl,Nat.lt_of_lt_of_le hb hg.size,fun i hi=> ?_⟩;have h0:=hc i hi;have hne:b≠Bm:=fun e=>by
  subst e;have h1:W.cell? ⟨b,off+j*dtE.s+i,none⟩=none:=a3n ho rfl;rw[h1] at h0;have h2:i<(dtE.enc l[j]).length:=hi;rw[List.getElem?_eq_getElem h2] at h0
  cases h0
 exact (a4u (hg.block b hb fun e=>hne (by cases e;rfl))).trans h0
def a3g (s:Sh)(n Bl Bm:Nat)(dv kv lv:Value):List (Nat×Array Value×TypeId):=[(n+1,#[.int .i64 s.ax,.int .i64 s.ay,.int .i64 s.st,.int .i64 s.w,.int .i64 s.h,.int .i64 s.g],28),(n+1+1,#[dv,kv,lv],45),(Bl,#[.map (some Bm)],169)]
theorem a3y {s:Sh}{n Bl Bm:Nat}{dv kv lv:Value}{Q:Nat×Array Value×TypeId→Prop}(h1:Q (n+1,#[.int .i64 s.ax,.int .i64 s.ay,.int .i64 s.st,.int .i64 s.w,.int .i64 s.h,.int .i64 s.g],28))(h2:Q (n+1+1,#[dv,kv,lv],45))(h3:Q (Bl,#[.map (some Bm)],169)):∀q∈a3g s n Bl Bm dv kv lv,Q q:=by
 intro q hq;unfold a3g at hq;rw[List.mem_cons,List.mem_cons,List.mem_singleton] at hq;rcases hq with rfl|rfl|rfl
 ·exact h1
 ·exact h2
 ·exact h3
theorem c8w (s:Sh)(f0:a0k s.ax)(f1:a0k s.ay)(hs:a1x s=0)(ev fv wv pv dv kv lv:Value)(l:List Pc)(ws:List Wy)(pl:Pn)(w:World)(hL:Lst plE w.heap.size w pv l)(hF:Frm pv l.length)(hl:l.length≤100)(hok:∀p∈l,PcOk p∧p.cls.size≤1000)
 (hW:Wys w.heap.size w wv ws) (hid:∀y∈ws,a0k y.id) (hlen:ws.length≤100) (hpl:∀y∈ws,y.line.length≤100) (hPow:∀W,Below w.heap.size w W→Pow W)
 (hd:Lst dtE w.heap.size w dv pl.dots) (hlf:Lst lfE w.heap.size w lv pl.left) (hff:Frm lv pl.left.length) :
 Calls prog 48 #[c0p ev fv wv pv,shV s,a2f dv kv lv] w fun e w'=>(cdF (pfS s) pl (wdF s ws) (a1d l)=true∧e= .returned (.tuple #[])∨cdF (pfS s) pl (wdF s ws) (a1d l)=false∧e= .panicked (b9i 42))∧Below w.heap.size w w':=by
 have hsk:=a6o hs;obtain⟨pa,pc,rfl,-⟩:=hL.form;obtain⟨da,dc,rfl,-⟩:=hd.form;obtain⟨la,lc,rfl,-⟩:=hlf.form;have hWy:=fun w4 (hb:Below w.heap.size w w4)=>(callsIn_wide (n:=3)).1 (c5c s wv ws w4 hs hid (hW.up hb hb.size) hlen hpl)
 have hCa:=fun w4=>a4o s ev fv wv (.slice pa l.length pc) w4
 refine (callsIn_wide (n:=3)).1 ?_;refine a7z (f:=48) func48 rfl trivial rfl ?_;simp only[ntmps48,List.size_toArray,List.length_cons,List.length_nil,Nat.reduceAdd,Nat.reduceSub,Array.replicate_succ,Array.replicate_zero,List.push_toArray,List.append_toArray,List.nil_append,List.cons_append];refine AtFn.seq (AtFn.of (wpIn_wide.2 ?_));go_wp2_with fail;have k1:=((Blk.new w #[ev,fv,wv,.slice pa l.length pc] 37).alloc (.cells #[.int .i64 s.ax,.int .i64 s.ay,.int .i64 s.st,.int .i64 s.w,.int .i64 s.h,.int .i64 s.g] 28)).alloc (.cells #[.slice da pl.dots.length dc,kv,.slice la pl.left.length lc] 45);have k2:=(Blk.new (w.alloc (.cells #[ev,fv,wv,.slice pa l.length pc] 37)) #[.int .i64 s.ax,.int .i64 s.ay,.int .i64 s.st,.int .i64 s.w,.int .i64 s.h,.int .i64 s.g] 28).alloc (.cells #[.slice da pl.dots.length dc,kv,.slice la pl.left.length lc] 45);have k3:=Blk.new ((w.alloc (.cells #[ev,fv,wv,.slice pa l.length pc] 37)).alloc (.cells #[.int .i64 s.ax,.int .i64 s.ay,.int .i64 s.st,.int .i64 s.w,.int .i64 s.h,.int .i64 s.g] 28)) #[.slice da pl.dots.length dc,kv,.slice la pl.left.length lc] 45;have hw1:Below w.heap.size w (((w.alloc (.cells #[ev,fv,wv,.slice pa l.length pc] 37)).alloc (.cells #[.int .i64 s.ax,.int .i64 s.ay,.int .i64 s.st,.int .i64 s.w,.int .i64 s.h,.int .i64 s.g] 28)).alloc (.cells #[.slice da pl.dots.length dc,kv,.slice la pl.left.length lc] 45)):=(((zR _ _).alloc (yR _) _).alloc (by simp) _).alloc (by simp;omega) _;obtain⟨W1,hW1⟩:∃W1,((w.alloc (.cells #[ev,fv,wv,.slice pa l.length pc] 37)).alloc (.cells #[.int .i64 s.ax,.int .i64 s.ay,.int .i64 s.st,.int .i64 s.w,.int .i64 s.h,.int .i64 s.g] 28)).alloc (.cells #[.slice da pl.dots.length dc,kv,.slice la pl.left.length lc] 45)=W1:=⟨_,rfl⟩;have hz1:W1.heap.size=w.heap.size+1+1+1:=by rw[←hW1];simp
 simp only[World.size_alloc] at k1 k2 k3;rw[hW1] at k1 k2 k3 hw1 ⊢;clear hW1;refine AtFn.seq (AtFn.of (wpIn_wide.2 ?_));obtain⟨m0,m1,m2,m3⟩:W1.cell? ⟨w.heap.size,0,none⟩=some ev∧W1.cell? ⟨w.heap.size,1,none⟩=some fv∧W1.cell? ⟨w.heap.size,2,none⟩=some wv∧W1.cell? ⟨w.heap.size,3,none⟩=some (.slice pa l.length pc):=⟨k1.cell 0,k1.cell 1,k1.cell 2,k1.cell 3⟩;obtain⟨s0,s1,s2,s3,s4,s5⟩:W1.cell? ⟨w.heap.size+1,0,none⟩=some (.int .i64 s.ax)∧W1.cell? ⟨w.heap.size+1,1,none⟩=some (.int .i64 s.ay)∧W1.cell? ⟨w.heap.size+1,2,none⟩=some (.int .i64 s.st)∧W1.cell? ⟨w.heap.size+1,3,none⟩=some (.int .i64 s.w)∧W1.cell? ⟨w.heap.size+1,4,none⟩=some (.int .i64 s.h)∧W1.cell? ⟨w.heap.size+1,5,none⟩=some (.int .i64 s.g):=⟨k2.cell 0,k2.cell 1,k2.cell 2,k2.cell 3,k2.cell 4,k2.cell 5⟩;go_wp2_with (first
  |(go_at_call 34;(with_reducible refine (hWy _ hw1).mono ?_);rintro e W2⟨v,base,rfl,hbase,hrow,hb2⟩
    clear m0 m1 m2 m3 s0 s1 s2 s3 s4 s5;obtain⟨va,vc,rfl⟩:∃a c,v= .slice a (wdF s ws).length c:=by
     obtain⟨a,c,h,-⟩:=(a0b a6m hrow (by have:=b1k hsk ws;unfold wdF at this;omega)).form;exact⟨a,c,h⟩)
  |fail)
 have hz2:=hb2.size;refine AtFn.seq (AtFn.of (wpIn_wide.2 ?_));go_wp2_with fail;have hmm:= @run_makeMap prog;refine AtFn.seq (AtFn.of (wpIn_wide.2 ?_));go_wp2_with fail;clear hmm;refine AtFn.seq (AtFn.seq (AtFn.of (wpIn_wide.2 ?_)));have hkw:=((((Blk.new W2 #[.slice va (wdF s ws).length vc] 41).alloc (.cells #[.int .i64 0] 3)).alloc (.map #[] 0)).alloc (.cells #[.map (some (W2.heap.size+1+1))] 169));have hkc:=(((Blk.new (W2.alloc (.cells #[.slice va (wdF s ws).length vc] 41)) #[.int .i64 0] 3).alloc (.map #[] 0)).alloc (.cells #[.map (some (W2.heap.size+1+1))] 169));have hkm:=(MapK.made prog idK boV ((W2.alloc (.cells #[.slice va (wdF s ws).length vc] 41)).alloc (.cells #[.int .i64 0] 3))).alloc (.cells #[.map (some (W2.heap.size+1+1))] 169);have hkl:=Blk.new (((W2.alloc (.cells #[.slice va (wdF s ws).length vc] 41)).alloc (.cells #[.int .i64 0] 3)).alloc (.map #[] 0)) #[.map (some (W2.heap.size+1+1))] 169;have hrow4:=((((c0q hrow (Nat.le_trans hw1.size hbase)).alloc (.cells #[.slice va (wdF s ws).length vc] 41)).alloc (.cells #[.int .i64 0] 3)).alloc (.map #[] 0)).alloc (.cells #[.map (some (W2.heap.size+1+1))] 169);have hb24:Below W1.heap.size W1 ((((W2.alloc (.cells #[.slice va (wdF s ws).length vc] 41)).alloc (.cells #[.int .i64 0] 3)).alloc (.map #[] 0)).alloc (.cells #[.map (some (W2.heap.size+1+1))] 169)):=(((hb2.alloc hz2 _).alloc (by simp;omega) _).alloc (by simp;omega) _).alloc (by simp;omega) _;simp only[World.size_alloc] at hkw hkc hkm hkl;obtain⟨W4,hW4⟩:∃W4,(((W2.alloc (.cells #[.slice va (wdF s ws).length vc] 41)).alloc (.cells #[.int .i64 0] 3)).alloc (.map #[] 0)).alloc (.cells #[.map (some (W2.heap.size+1+1))] 169)=W4:=⟨_,rfl⟩;have hz4:W4.heap.size=W2.heap.size+1+1+1+1:=by rw[←hW4];simp
 rw[hW4] at hkw hkc hkm hkl hrow4 hb24 ⊢;clear hW4;have kl1:=k2.below hb24 k2.lt;have kl2:=k3.below hb24 k3.lt;have km1:=k1.below hb24 k1.lt;obtain⟨Bw,hBw⟩:∃B,W2.heap.size=B:=⟨_,rfl⟩;rw[hBw] at hkw hkc hkm hkl hz4 hz2 ⊢;have hw4:Below w.heap.size w W4:=hw1.trans (hb24.mono hw1.size);have hD0:DIr w.heap.size w Bw (Bw+1) (Bw+1+1) (a3g s w.heap.size (Bw+1+1+1) (Bw+1+1) (.slice da pl.dots.length dc) kv (.slice la pl.left.length lc)) (.slice va (wdF s ws).length vc) ((0:Nat):Int) 0 [] (wdF s ws) W4:=by
  refine⟨hkw,hrow4,hkc,hkm,a3y kl1 kl2 hkl,a3y ⟨?_,?_,?_,show (28:Nat)≠54 by decide⟩ ⟨?_,?_,?_,show (45:Nat)≠54 by decide⟩ ⟨?_,?_,?_,show (169:Nat)≠54 by decide⟩,by omega,by omega,by omega,by omega,by omega,by omega,hw4,yR _⟩
  all_goals (simp only;omega)
 obtain⟨m0,m1,m2,m3⟩:W4.cell? ⟨w.heap.size,0,none⟩=some ev∧W4.cell? ⟨w.heap.size,1,none⟩=some fv∧W4.cell? ⟨w.heap.size,2,none⟩=some wv∧W4.cell? ⟨w.heap.size,3,none⟩=some (.slice pa l.length pc):=⟨km1.cell 0,km1.cell 1,km1.cell 2,km1.cell 3⟩;obtain⟨s0,s1,s2,s3,s4,s5⟩:W4.cell? ⟨w.heap.size+1,0,none⟩=some (.int .i64 s.ax)∧W4.cell? ⟨w.heap.size+1,1,none⟩=some (.int .i64 s.ay)∧W4.cell? ⟨w.heap.size+1,2,none⟩=some (.int .i64 s.st)∧W4.cell? ⟨w.heap.size+1,3,none⟩=some (.int .i64 s.w)∧W4.cell? ⟨w.heap.size+1,4,none⟩=some (.int .i64 s.h)∧W4.cell? ⟨w.heap.size+1,5,none⟩=some (.int .i64 s.g):=⟨kl1.cell 0,kl1.cell 1,kl1.cell 2,kl1.cell 3,kl1.cell 4,kl1.cell 5⟩;go_wp2_with (first
  |(go_at_call 35;(with_reducible refine (hCa _).mono ?_);rintro e W5⟨rfl,km,ks,hb5⟩)
  |fail)
 rw[hz4] at km ks hb5;have hw5:Below w.heap.size w W5:=hw4.trans (hb5.mono (by have:=hw4.size;omega));have hD5:=hD0.below (by rw[hz4];exact hb5);have hz5:=hb5.size;clear hD0 m0 m1 m2 m3 s0 s1 s2 s3 s4 s5 k1 k2 k3 kl1 kl2 km1 hkw hkc hkm hkl hrow4 hrow hb24 hb2 hCa hWy hw1 hBw hbase;have hZ:∀q∈(a3g s w.heap.size (Bw+1+1+1) (Bw+1+1) (.slice da pl.dots.length dc) kv (.slice la pl.left.length lc)),q.1<W5.heap.size:=a3y (by simp only;omega) (by simp only;omega) (by simp only;omega);have hseq:=b4f 2 (by omega) s f0 f1 ev fv wv (.slice pa l.length pc) l hl hok (b2a Bw (Bw+1) (Bw+1+1)) w.heap.size W5 (Bw+1+1+1+1) (Bw+1+1+1+1+1) km ks (hL.up hw5) hF hw5.size
  (fun W k hb hc=>by
   have hDW:=hD5.below hb;rcases hD5.c_row hDW.b hc with rfl|rfl|rfl|hk
   ·exact⟨by omega,by omega⟩
   ·exact⟨by omega,by omega⟩
   ·exact⟨by omega,by omega⟩
   ·refine⟨fun e=> ?_,fun e=> ?_⟩
    ·subst e
     exact a0s hD5.row km (by decide) hk
    ·subst e
     exact a0s hD5.row ks (by decide) hk)
  (fun W hb=>hPow W (hw5.trans (hb.mono (yR _))))
 refine AtFn.block ?_;refine a6r (α:=Pc×Value) 19 9 (fun x=>d2q s x) rfl (by omega) rfl trivial (enters_of func84 (by kernel_rfl) rfl) (c8t Bw (Bw+1) (Bw+1+1)) (b4l Bw (Bw+1) (Bw+1+1)) (c2e Bw (Bw+1) (Bw+1+1)) (fun k=>b9m) (n0:=w.heap.size) hw5.size (Kx:=KxC s (a1d l)) (fun pre x W l o o' h1 h2 h3=>KxC.put h1 (a1s h2) (a1s h3)) (S:=fun xs=>xs.map Prod.fst=a1d l) (N:=101) (w0:=W5) hseq (zR _ _)
  (fun pre W=>CI w.heap.size w Bw (Bw+1) (Bw+1+1) (a3g s w.heap.size (Bw+1+1+1) (Bw+1+1) (.slice da pl.dots.length dc) kv (.slice la pl.left.length lc)) s pl (wdF s ws) pre W) ?hI ?hIC ?h0 (fun ch W=>ch=b9i 42∧cdF (pfS s) pl (wdF s ws) (a1d l)=false∧Below w.heap.size w W) ⟨_,func48⟩ trivial 92 (fun x=> #[.int .i64 x.1.id,.int .i64 x.1.x,.int .i64 x.1.y,.string x.1.cls,.string x.1.nm,.int .i64 x.1.wt,.int .i64 x.1.ds,x.2,.bool (pfS s x.1).1]) (fun pre x W o h=>h.alloc o) (fun pre W k h hc=>b9m hc) ?assign ?body ?hpan ?done
 case hI =>
  rintro pre A A' row⟨v,m,en,st,h1,h2,h3,h4,h5,h6⟩ hg hr;exact⟨v,m,en,st,h1,h2,h3,h4,h5,h6.turn hw5.size hZ hg hr⟩
 case hIC =>
  rintro pre A A' row k⟨v,m,en,st,h1,h2,h3,h4,h5,h6⟩ hg hr hc;exact h6.mine hg hr hc
 case h0=>exact⟨_,0,[],⟨wdF s ws,0,[]⟩,rfl,yR _,yR _,yR _,SetI.nil,hD5⟩
 case assign =>
  intro l pre x W K hx hK;obtain⟨p,xv⟩:=x;obtain⟨xa,xn,xc,rfl⟩:∃a n c,xv= .slice a n c:=by
   rcases hx.2.2 with h|⟨b,o,c,h⟩
   ·exact⟨_,_,_,h⟩
   ·exact⟨_,_,_,h⟩
  gi_wp2;first|done|exact hK _ (by first|rfl|simp)
 case body =>
  clear hseq km ks hD5;rintro ly pre⟨⟨id,x,y,cls,nm,wt,ds⟩,xv⟩ W B ⟨v,m,en,st,hcn,hm,hlf',hwl',hset,hD⟩ ⟨⟨rs,hsp⟩,hdl,hdf⟩ hB hBge hBne hlt;have hpm:(⟨id,x,y,cls,nm,wt,ds⟩:Pc)∈a1d l:=by rw[hsp];simp
  obtain⟨hpo,hpc⟩:=hok _ ((a1q l).mem_iff.1 hpm);have hwl:=b1k hsk ws;have hpl33:=b4e s ⟨id,x,y,cls,nm,wt,ds⟩;have hst:cdN s pl (wdF s ws) ((pre++[((⟨id,x,y,cls,nm,wt,ds⟩:Pc),xv)]).map Prod.fst)=a2q (pfS s) pl st ⟨id,x,y,cls,nm,wt,ds⟩:=by
   rw[List.map_append];refine (c8u s pl (wdF s ws) (pre.map Prod.fst) _).trans ?_;rw[hcn];rfl
  have hno:a2q (pfS s) pl st ⟨id,x,y,cls,nm,wt,ds⟩=none→cdF (pfS s) pl (wdF s ws) (a1d l)=false:=fun h=>by
   rw[h,List.map_append] at hst;have h2:=c8v s pl (wdF s ws) (pre.map Prod.fst) rs _ hst;unfold cdF;have h3:List.foldlM (a2q (pfS s) pl) ⟨wdF s ws,0,[]⟩ (a1d l)=none:=by rw[hsp];exact h2
   rw[h3]
  have hkr:KeepP (b2a Bw (Bw+1) (Bw+1+1)) w.heap.size W W:=⟨⟨yR _,fun _ _ _=>rfl,fun k hc=> .inl hc⟩,zR _ _⟩;have hWy:=fun (X:World) (hb:Below w.heap.size w X)=>b9j (.slice da pl.dots.length dc) kv (.slice la pl.left.length lc) pl id X (hlf.up hb) hff
  obtain⟨⟨on,dl⟩,hpf⟩:∃r,pfS s ⟨id,x,y,cls,nm,wt,ds⟩=r:=⟨_,rfl⟩;unfold a2q at hst hno;simp only[hpf] at hB hdl hdf hpl33 hst hno;obtain⟨xa,xc,rfl,-⟩:=hdl.form;obtain⟨wn,lf,las⟩:=st;simp only at hlf' hwl' hset hD hst hno;have hzW:=hD.hz;have b0:W.cell? ⟨B,0,none⟩=some (.int .i64 id):=hB.cell 0;have hLl:Blk W (Bw+1+1+1) #[.map (some (Bw+1+1))] 169:=hD.o (Bw+1+1+1,#[.map (some (Bw+1+1))],169) (by unfold a3g;simp);have l0:W.cell? ⟨Bw+1+1+1,0,none⟩=some (.map (some (Bw+1+1))):=hLl.cell 0;have hLk:=b9l hD.mp hpo.id;rw[hset id] at hLk;by_cases hin:id∈las
  ·rw[decide_eq_true hin] at hLk
   rw[if_pos hin] at hno;clear hst;gi_wp2_with (first
    |(refine⟨trivial,?_⟩;gi_at_call 106;refine (CallsIn.inRound ly (callsIn_wide.2 (a2j 42 _))).mono ?_;rintro e w9⟨rfl,rfl⟩)
    |fail)
   exact⟨by rw[←hsp];exact hno (by simp),hD.bel⟩
  ·rw[decide_eq_false hin] at hLk
   rw[if_neg hin] at hno hst;clear hin;gi_upto_region 8 with (first
    |(refine⟨trivial,?_⟩;gi_at_call 106;refine (CallsIn.inRound ly (callsIn_wide.2 (a2o 42 _))).mono ?_;rintro e w9⟨rfl,rfl⟩)
    |(gi_at_mapUpdate;refine MapK.wpIn_store d2y (by rfl) _ _ _ 169 (by rfl) underlying169 (by rfl) hD.mp (by unfold maxLen;omega) hpo.id (by rfl) (y:=true) (by rfl) (plainElem_bool underlying4 true) ?_;intro w7 hM7 hg7)
    |fail)
   obtain⟨hD7,hk7⟩:=hD.set hM7 hg7;have hB7:=(hk7.k.same B hB.lt (fun h=>hBne _ h rfl)).trans hB;replace hB7:Blk w7 B _ _:=hB7;have hP7:Blk w7 (w.heap.size+1+1) #[.slice da pl.dots.length dc,kv,.slice la pl.left.length lc] 45:=hD7.o (w.heap.size+1+1,#[.slice da pl.dots.length dc,kv,.slice la pl.left.length lc],45) (by unfold a3g;simp);obtain⟨q0,q1,q2⟩:w7.cell? ⟨w.heap.size+1+1,0,none⟩=some (.slice da pl.dots.length dc)∧w7.cell? ⟨w.heap.size+1+1,1,none⟩=some kv∧w7.cell? ⟨w.heap.size+1+1,2,none⟩=some (.slice la pl.left.length lc):=⟨hP7.cell 0,hP7.cell 1,hP7.cell 2⟩;have r0:w7.cell? ⟨B,0,none⟩=some (.int .i64 id):=hB7.cell 0;have hset7:=hset.put id;have hdl7:=c5o hdl hg7 hD.mp;have hWy7:=hWy w7 hD7.bel;clear b0 l0 hLk hLl hM7 hg7 hWy
   cases hwy:why pl id with
   |some k =>
    rw[hwy] at hWy7 hno hst;simp only[b7y] at hWy7 hno hst;have hk0:¬((k:Nat):Int)<0:=by omega
    have hk1:(0:Int)≤(k:Nat):=by omega
    clear hwy;by_cases hkl:k=lf
    ·rw[if_pos hkl] at hst
     have hkI:(((k:Nat):Int)==((lf:Nat):Int))=true:=by simp[hkl]
     have hwr:IntKind.i64.wrap ((lf:Int)+1)=((lf+1:Nat):Int):=by rw[a0u (by omega) (by omega)];omega
     clear hkl hno;gi_wp2_with (first
      |(refine⟨trivial,?_⟩;gi_at_call 107;refine (CallsIn.inRound ly (callsIn_wide.2 hWy7)).mono ?_;rintro e w8⟨rfl,hb8⟩
        have hD8:=hD7.below hb8;have hk8:=hk7.trans (hD7.keepP hb8);have u0:w8.cell? ⟨Bw+1,0,none⟩=some (.int .i64 (lf:Nat)):=hD8.c.cell 0;have u9:=hD8.c.frozen 0)
      |(refine⟨trivial,?_⟩;gi_at_call 106;refine (CallsIn.inRound ly (callsIn_wide.2 (a2o 42 _))).mono ?_;rintro e w9⟨rfl,rfl⟩)
      |fail)
     obtain⟨hD10,hk10⟩:=hD8.count ((lf:Int)+1);exact⟨hk8.trans hk10,_,m+1,_,_,hst,by simp;omega,by simp;omega,by simp;omega,hset7,hD10⟩
    ·rw[if_neg hkl] at hno
     have hkI:(((k:Nat):Int)==((lf:Nat):Int))=false:=by simp;omega
     clear hst hkl;gi_wp2_with (first
      |(refine⟨trivial,?_⟩;gi_at_call 107;refine (CallsIn.inRound ly (callsIn_wide.2 hWy7)).mono ?_;rintro e w8⟨rfl,hb8⟩
        have hD8:=hD7.below hb8;have hk8:=hk7.trans (hD7.keepP hb8);have u0:w8.cell? ⟨Bw+1,0,none⟩=some (.int .i64 (lf:Nat)):=hD8.c.cell 0)
      |(refine⟨trivial,?_⟩;gi_at_call 106;refine (CallsIn.inRound ly (callsIn_wide.2 (a2j 42 _))).mono ?_;rintro e w9⟨rfl,rfl⟩)
      |fail)
     exact⟨by rw[←hsp];exact hno (by simp),hD8.bel⟩
   |none =>
    rw[hwy] at hWy7 hno hst;simp only[b7y] at hWy7 hno hst;obtain⟨wa,wc,hwv,-⟩:=(a0b a6m hD7.row (by omega)).form;subst hwv;clear hwy
    cases on
    ·rw[if_neg (by decide)] at hno
     clear hst;gi_wp2_with (first
      |(refine⟨trivial,?_⟩;gi_at_call 107;refine (CallsIn.inRound ly (callsIn_wide.2 hWy7)).mono ?_;rintro e w8⟨rfl,hb8⟩
        have hD8:=hD7.below hb8;have hk8:=hk7.trans (hD7.keepP hb8);have hB8:=hB7.below hb8 hB7.lt;have u7:w8.cell? ⟨B,7,none⟩=some (.slice xa dl.length xc):=hB8.cell 7;have u8:w8.cell? ⟨B,8,none⟩=some (.bool false):=hB8.cell 8;have uw:w8.cell? ⟨Bw,0,none⟩=some (.slice wa wn.length wc):=hD8.b.cell 0)
      |(refine⟨trivial,?_⟩;gi_at_call 106;refine (CallsIn.inRound ly (callsIn_wide.2 (a2j 42 _))).mono ?_;rintro e w9⟨rfl,rfl⟩)
      |fail)
     exact⟨by rw[←hsp];exact hno (by simp),hD8.bel⟩
    ·rw[if_pos rfl] at hst
     clear hno;gi_wp2_with (first
      |(refine⟨trivial,?_⟩;gi_at_call 107;refine (CallsIn.inRound ly (callsIn_wide.2 hWy7)).mono ?_;rintro e w8⟨rfl,hb8⟩
        have hD8:=hD7.below hb8;have hk8:=hk7.trans (hD7.keepP hb8);have hB8:=hB7.below hb8 hB7.lt;have u7:w8.cell? ⟨B,7,none⟩=some (.slice xa dl.length xc):=hB8.cell 7;have u8:w8.cell? ⟨B,8,none⟩=some (.bool true):=hB8.cell 8;have uw:w8.cell? ⟨Bw,0,none⟩=some (.slice wa wn.length wc):=hD8.b.cell 0)
      |(refine⟨trivial,?_⟩;gi_at_call 106;refine (CallsIn.inRound ly (callsIn_wide.2 (a2o 42 _))).mono ?_;rintro e w9⟨rfl,rfl⟩)
      |(gi_at_builtin;refine El.allIn a6m d3o (by rfl) _ _ (by rfl) w.heap.size (by rfl) wn hD8.row dl (by rfl) (hdl7.up hb8) hdf (by omega) hD8.hz (fun _ _=>trivial) ?_
        intro v9 w10 hr9 hg9 hb9 hat;obtain⟨kp9,hD9,hk9⟩:=hD8.add hg9 hr9 (hat.imp (fun e=>e) fun e=>⟨_,e,yR _⟩);obtain⟨a9,n9,c9,rfl⟩:∃a n c,v9= .slice a n c:=by
         obtain⟨a,c,h,-⟩:=(a0b a6m hr9 (by simp;omega)).form;exact⟨_,_,_,h⟩
        have t0:w10.cell? ⟨Bw,0,none⟩=some (.slice wa wn.length wc):=kp9.cell 0;have t9:=kp9.frozen 0;clear hr9 hg9 hb9 hat)
      |fail)
     exact⟨hk8.trans hk9,_,m+1,_,_,hst,by simp;omega,by simp;omega,by simp;omega,hset7,hD9⟩
 case hpan =>
  rintro D ch W hDs⟨rfl,hcf,hbw⟩ hK;have hg1:=grownBy_putObj' W D (.deferred none);refine⟨by simp,.inl ⟨_,_,rfl,run_takeDeferred hK,?_⟩⟩;exact⟨.inr ⟨hcf,rfl⟩,hbw.grown hg1 hbw.size fun r e=>by cases e;have:=hw5.size;omega⟩
 case done =>
  rintro D xs W hDs hS⟨v,m,en,st,h1,-,-,h4,-,h6⟩ hK;have hxl:xs.length≤100:=by have:=congrArg List.length hS;rw[List.length_map,(a1q l).length_eq] at this;omega
  rw[hS] at h1;have hwl:=b1k hsk ws;obtain⟨wn,lf,la_⟩:=st;simp only at h4 h6;have hP:Blk W (w.heap.size+1+1) #[.slice da pl.dots.length dc,kv,.slice la pl.left.length lc] 45:=h6.o (w.heap.size+1+1,#[.slice da pl.dots.length dc,kv,.slice la pl.left.length lc],45) (by unfold a3g;simp);have c0:W.cell? ⟨w.heap.size+1+1,0,none⟩=some (.slice da pl.dots.length dc):=hP.cell 0;have c2:W.cell? ⟨w.heap.size+1+1,2,none⟩=some (.slice la pl.left.length lc):=hP.cell 2;have cl:W.cell? ⟨Bw+1,0,none⟩=some (.int .i64 (lf:Nat)):=h6.c.cell 0;have cw:W.cell? ⟨Bw,0,none⟩=some v:=h6.b.cell 0;have hEq:=d2t v (.slice da pl.dots.length dc) wn pl.dots W (a0b a6m h6.row (by omega)) (hd.up h6.bel);obtain⟨xa,xc,rfl,-⟩:=(a0b a6m h6.row (by omega)).form;have hbel:=h6.bel;have hzb:=hbel.size;have hcd:cdF (pfS s) pl (wdF s ws) (a1d l)=(decide (lf=pl.left.length)&&decide (wn=pl.dots)):=by
   unfold cdF;have h1':List.foldlM (a2q (pfS s) pl) ⟨wdF s ws,0,[]⟩ (a1d l)=some ⟨wn,lf,la_⟩:=h1;rw[h1']
  have hfin:∀(W9:World),Below W.heap.size W W9→(W9.heap[D]? =some (.deferred (some []))∧Below w.heap.size w (W9.putObj D (.deferred none))):=fun W9 hb9=>by
   have hDlt:D<W.heap.size:=(Array.getElem?_eq_some_iff.1 hK).1;have hg1:=grownBy_putObj' W9 D (.deferred none);exact⟨(hb9.block D hDlt).trans hK,(hbel.trans (hb9.mono hbel.size)).grown hg1 (Nat.le_trans hbel.size hb9.size) fun r e=>by cases e;have:=hw5.size;omega⟩
  clear hseq hS hD5 km ks h6 h1 hP hd hlf hff hZ hPow hL hF;refine AtFn.of (wpIn_wide.2 ?_);by_cases hl1:lf=pl.left.length
  ·have hlI:(((lf:Nat):Int)==((pl.left.length:Nat):Int))=true:=by simp[hl1]
   have hdl:decide (lf=pl.left.length)=true:=decide_eq_true hl1;clear hl1;by_cases he:wn=pl.dots
   ·rw[decide_eq_true he] at hEq
    rw[hdl,decide_eq_true he] at hcd;clear he hdl;go_wp2_with (first
     |(go_at_call 56;(with_reducible refine hEq.mono ?_);rintro e w8⟨rfl,hb8⟩)
     |(go_at_call 106;refine (a2o 42 _).mono ?_;rintro e w9⟨rfl,rfl⟩)
     |fail)
    obtain⟨hK9,hB9⟩:=hfin _ hb8;refine⟨by simp,.inl ⟨_,_,rfl,run_takeDeferred hK9,?_⟩⟩;exact⟨_,results_none rfl _ _ _,by first|exact .inl ⟨hcd,rfl⟩|rfl,hB9⟩
   ·rw[decide_eq_false he] at hEq
    rw[hdl,decide_eq_false he] at hcd;clear he hdl;go_wp2_with (first
     |(go_at_call 56;(with_reducible refine hEq.mono ?_);rintro e w8⟨rfl,hb8⟩)
     |(go_at_call 106;refine (a2j 42 _).mono ?_;rintro e w9⟨rfl,rfl⟩)
     |fail)
    obtain⟨hK9,hB9⟩:=hfin _ hb8;refine⟨by simp,.inl ⟨_,_,rfl,run_takeDeferred hK9,?_⟩⟩;exact⟨by first|exact .inr ⟨hcd,rfl⟩|rfl,hB9⟩
  ·have hlI:(((lf:Nat):Int)==((pl.left.length:Nat):Int))=false:=by simp;omega
   rw[decide_eq_false hl1] at hcd;clear hl1;go_wp2_with (first
    |(go_at_call 106;refine (a2j 42 _).mono ?_;rintro e w9⟨rfl,rfl⟩)
    |fail)
   obtain⟨hK9,hB9⟩:=hfin _ (zR _ _);refine⟨by simp,.inl ⟨_,_,rfl,run_takeDeferred hK9,?_⟩⟩;exact⟨by first|exact .inr ⟨hcd,rfl⟩|rfl,hB9⟩
end
section
open Go Go.RowKit Go.Shelf Go.Lib
attribute [local go_sem] Oper.semAt_some
attribute [local go_sem ↓] Go.wp_at_zero Go.wp_at_succ
theorem b1m (v:Value)(l:List Dt)(w:World)(h:Lst dtE w.heap.size w v l)(hf:Frm v l.length)(hl:l.length≤100000) :
 Calls prog 109 #[v] w fun e w'=>∃u,e= .returned u∧w'.ownsRow w.heap.size 54 4 u l.length (l.flatMap dtE.enc)∧Below w.heap.size w w':=by
 rcases hf with rfl|⟨b,off,cap,rfl⟩
 ·obtain⟨a,cap,e,-⟩:=h.form
  simp only[Value.slice.injEq] at e;obtain⟨-,e,-⟩:=e;obtain rfl:=List.eq_nil_of_length_eq_zero e.symm;refine (AnyE.slices_Clone_nil Tryz.cloneDt 0 0 w).mono ?_;rintro e w'⟨rfl,rfl⟩;exact⟨_,rfl,⟨by simp,.inl ⟨rfl,rfl⟩⟩,zR _ _⟩
 ·obtain⟨i0,hi0,hz0,hz1,hz2⟩:=info_parts (P:=prog) (e:=54) (z:= .agg #[.int .i64 0,.int .i64 0,.int .i64 0,.int .i64 0]) (size:=4) (bytes:=32) (by kernel_rfl)
  refine (AnyE.slices_Clone Tryz.cloneDt i0 _ 4 32 hi0 hz0 hz1 hz2 (by rfl) (by omega) sizeOf54 b off l.length cap (l.flatMap dtE.enc) w (a1c a6m l) (by unfold maxLen;omega) (by omega) (h.flat a6m) (a4x a6m l)).mono ?_;rintro e w'⟨u,rfl,hr,-,hb⟩;exact⟨u,rfl,hr,hb⟩
def a4c (k i:Int)(d:Dt):Bool:=decide (d.k≠k)||decide (d.i≠i)
theorem a9k (d:Dt)(B:Nat)(p k i:Int)(w:World)(h:Blk w B #[.int .i64 p,.int .i64 k,.int .i64 i] 68) :
 Calls prog 110 #[.agg (b5y d).toArray,.pointer (some ⟨B,0,none⟩)] w fun e w'=>e= .returned (.bool (a4c k i d))∧Below w.heap.size w w':=by
 obtain⟨dx,dy,dk,di⟩:=d;have hBl:=h.lt;have c1:w.cell? ⟨B,1,none⟩=some (.int .i64 k):=h.cell 1;have c2:w.cell? ⟨B,2,none⟩=some (.int .i64 i):=h.cell 2;unfold a4c;by_cases h1:dk=k
 ·have hb1:(dk != k)=false:=by simpa using h1
  by_cases h2:di=i
  ·have hb2:(di != i)=false:=by simpa using h2
   have hr:(decide (dk≠k)||decide (di≠i))=false:=by simp[h1,h2]
   rw[hr];clear h1 h2 hr h;go_enter func110,ntmps110;go_wp2_with fail;go_ret;exact⟨rfl,zC⟩
  ·have hb2:(di != i)=true:=by simpa using h2
   have hr:(decide (dk≠k)||decide (di≠i))=true:=by simp[h2]
   rw[hr];clear h1 h2 hr h;go_enter func110,ntmps110;go_wp2_with fail;go_ret;exact⟨rfl,zC⟩
 ·have hb1:(dk != k)=true:=by simpa using h1
  have hr:(decide (dk≠k)||decide (di≠i))=true:=by simp[h1]
  rw[hr];clear h1 hr h;go_enter func110,ntmps110;go_wp2_with fail;go_ret;exact⟨rfl,zC⟩
end
section
open Go
theorem d2z {g:Int}{a b:Dt}(ha:Sm a)(hb:Sm b):okW g a b=c3z g a b:=by
 unfold okW c3z;rw[b3y ha hb]
theorem b1n {α:Type}{p q:α→Bool}:∀ {l:List α},(∀x∈l,p x=q x)→l.all p=l.all q
 |[],_=>rfl
 |x::l,h=>by
  rw[List.all_cons,List.all_cons,h x (List.mem_cons_self ..),b1n fun y hy=>h y (List.mem_cons_of_mem _ hy)]
theorem d1j {g:Int}{l:List Dt}(h:∀d∈l,Sm d):b9k g l=c1j g l:=by
 unfold b9k c1j;refine b1n fun k hk=> ?_
 unfold b3e
 cases hl:l[k]? with
 |none=>simp
 |some a =>
  have ha:=h a (List.mem_of_getElem? hl);exact b1n fun b hb=>d2z ha (h b (List.mem_of_mem_take hb))
end
end Go.Proofs.YtfocdbjceedagaaGreatDoor
