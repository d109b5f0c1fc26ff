/-
  Parts.
-/
import Derived.Test.YtfocdbjceedagaaGreatDoorXas
set_option linter.unusedVariables false
set_option linter.unusedSimpArgs false
namespace Go.Proofs.YtfocdbjceedagaaGreatDoor
section
open Go Go.RowKit Go.Shelf Go.Lib
attribute [local go_sem] Oper.semAt_some
attribute [local go_sem ↓] Go.wp_at_zero Go.wp_at_succ
theorem c8m {s:Sh}(hs:OkS s){d:Dt}(h:onS s d.x d.y=true):Sm d:=by
 obtain⟨⟨h0,h1⟩,h2,h3⟩:=b0h.1 h;exact⟨by omega,by have:=hs.w1;omega,by omega,by have:=hs.h1;omega⟩
theorem c8n (s:Sh)(p:Pc):∀d∈(pfS s p).2,onS s d.x d.y=true:=by
 unfold pfS plF;split
 ·rename_i h
  simp only[Bool.and_eq_true,List.all_eq_true] at h;exact c8j h.2
 ·intro d hd
  simp at hd
theorem d2r (s:Sh)(ks:List (Int×List a0r)):∀d∈a2d 2 (a4m s [] ks),onS s d.x d.y=true:=by
 intro d hd;rw[a6e] at hd;exact b8u s _ [] (by simp) _ (b2z hd)
theorem b4h {g:Int}{l o:List Dt}(hl:∀d∈l,Sm d)(ho:∀d∈o,Sm d):c0i g l o=a4g g l o:=by
 unfold c0i a4g;have:∀a∈l,o.any (a6n g a)=o.any (b3s g a):=fun a ha=>by
  rw[Bool.eq_iff_iff,List.any_eq_true,List.any_eq_true];exact⟨fun ⟨b,hb,h⟩=>⟨b,hb,by rw[←b3y (hl a ha) (ho b hb)];exact h⟩,fun ⟨b,hb,h⟩=>⟨b,hb,by rw[b3y (hl a ha) (ho b hb)];exact h⟩⟩
 clear hl ho;induction l with
 |nil=>rfl
 |cons x l ih =>
  rw[List.find?_cons,List.find?_cons,this x (List.mem_cons_self ..),ih fun a ha=>this a (List.mem_cons_of_mem _ ha)]
theorem b9g {α:Type}{E:El α}(hE:E.Ok)(w:World)(x:α):Lst E (w.heap.size+1) (w.alloc (.cells (E.enc x).toArray E.t)) (.slice (some ⟨w.heap.size,0,none⟩) 1 1) [x]:=by
 refine⟨_,1,rfl,yR _,by simp,fun j hj=> ?_⟩;obtain rfl:j=0:=by simpa using hj
 refine⟨w.heap.size,0,rfl,Nat.lt_succ_self _,fun i hi=> ?_⟩;have hk:=Blk.new w (E.enc x).toArray E.t;have:=hk.cell i;rw[show (0:Nat)+0*E.s+i=i by omega,this];simp
def a3m (B:Nat)(W:World)(k:Nat):Prop:=(∃o,W.heap[k]? =some o∧o.isCells=true)∧(k=B∨∃i,i<3∧∃off len cap,W.cell? ⟨B,i,none⟩=some (.slice (some ⟨k,off,none⟩) len cap))
theorem b4i {B:Nat}{W:World}{k:Nat}(h:a3m B W k):k<W.heap.size:=by
 obtain⟨⟨o,ho,-⟩,-⟩:=h;exact (Array.getElem?_eq_some_iff.1 ho).1
theorem a9z (B:Nat)(W:World)(l:Nat)(o:Obj)(h:W.heap[l]? =some o)(ho:o.isCells=false):¬a3m B W l:=by
 rintro⟨⟨o',h',hc⟩,-⟩;rw[h] at h'
 cases h';rw[ho] at hc
 cases hc
theorem a3n {W:World}{b i:Nat}{o:Obj}(h:W.heap[b]? =some o)(ho:o.isCells=false):W.cell? ⟨b,i,none⟩=none:=by
 unfold World.cell?;simp only[h]
 cases o <;> simp_all [Obj.isCells]
theorem a4u {W W':World}{b i:Nat}(h:W'.heap[b]? =W.heap[b]?):W'.cell? ⟨b,i,none⟩=W.cell? ⟨b,i,none⟩:=by
 unfold World.cell?;simp only[h]
theorem c5j (B:Nat)(W:World)(l k:Nat)(o o':Obj)(h:W.heap[l]? =some o)(ho:o.isCells=false)(ho':o'.isCells=false):a3m B (W.putObj l o') k↔a3m B W k:=by
 have hlt:l<W.heap.size:=(Array.getElem?_eq_some_iff.1 h).1;have hl':(W.putObj l o').heap[l]? =some o':=World.putObj_heap_same hlt;by_cases hk:k=l
 ·subst hk
  exact⟨fun hc=>absurd hc (a9z B _ k o' hl' ho'),fun hc=>absurd hc (a9z B W k o h ho)⟩
 ·have e1:(W.putObj l o').heap[k]? =W.heap[k]? :=World.putObj_heap_other hk
  have e2:∀i,(W.putObj l o').cell? ⟨B,i,none⟩=W.cell? ⟨B,i,none⟩:=fun i=>by
   by_cases hb:B=l
   ·subst hb
    rw[a3n hl' ho',a3n h ho]
   ·exact a4u (World.putObj_heap_other hb)
  unfold a3m;simp only[e1,e2]
theorem b9h (B:Nat)(W:World)(k:Nat)(o:Obj)(h:a3m B (W.alloc o) k)(ho:o.isCells=false):a3m B W k:=by
 have hnew:(W.alloc o).heap[W.heap.size]? =some o:=World.alloc_heap_new W o;have hk:k≠W.heap.size:=fun e=>a9z B _ k o (by rw[e];exact hnew) ho h
 have hlt:=b4i h;rw[World.size_alloc] at hlt;have e1:(W.alloc o).heap[k]? =W.heap[k]? :=Below.heap_alloc W o k (by omega);obtain⟨⟨o',h1,h2⟩,h3⟩:=h;refine⟨⟨o',e1.symm.trans h1,h2⟩,h3.imp id ?_⟩;rintro⟨i,hi,off,len,cap,hc⟩;have hb:B<(W.alloc o).heap.size:=World.block_lt_of_cell? _ _ hc;rw[World.size_alloc] at hb;by_cases hbo:B=W.heap.size
 ·rw[hbo,a3n hnew ho] at hc
  cases hc
 ·exact⟨i,hi,off,len,cap,by rw[←a4u (Below.heap_alloc W o B (by omega))];exact hc⟩
theorem KeepP.trans {C:World→Nat→Prop}{n0:Nat}{a b c:World}(h:KeepP C n0 a b)(k:KeepP C n0 b c):KeepP C n0 a c :=
 ⟨⟨Nat.le_trans h.k.size k.k.size,fun i hi hn=>(k.k.same i (Nat.lt_of_lt_of_le hi h.k.size) fun hc=>(h.k.mine i hc).elim hn fun e=>by omega).trans (h.k.same i hi hn),fun i hi=>(k.k.mine i hi).elim (fun hc=>h.k.mine i hc) fun e=> .inr (Nat.le_trans h.k.size e)⟩,h.b.trans k.b⟩
abbrev a2f (dv kv lv:Value):Value:= .agg #[dv,kv,lv]
structure PIr (n0:Nat)(w:World)(Bp:Nat)(L:List (Nat×Array Value×TypeId))(dv kv lv:Value)(pl:Pn)(W:World):Prop where
 p:Blk W Bp #[dv,kv,lv] 45
 d:W.ownsRow n0 54 4 dv pl.dots.length (pl.dots.flatMap dtE.enc)
 k:W.ownsRow n0 82 3 kv pl.keys.length (pl.keys.flatMap keE.enc)
 l:W.ownsRow n0 68 3 lv pl.left.length (pl.left.flatMap lfE.enc)
 o:∀q∈L,Blk W q.1 q.2.1 q.2.2
 ne:∀q∈L,q.1≠Bp∧q.2.2≠54∧q.2.2≠82∧q.2.2≠68
 bp:n0≤Bp
 bel:Below n0 w W
 nw:n0≤w.heap.size
theorem PIr.hz {n0:Nat}{w:World}{Bp:Nat}{L:List (Nat×Array Value×TypeId)}{dv kv lv:Value}{pl:Pn}{W:World}(h:PIr n0 w Bp L dv kv lv pl W):n0≤W.heap.size:=Nat.le_trans h.nw h.bel.size
section
variable {n0 Bp:Nat}{w W W':World}{L:List (Nat×Array Value×TypeId)}{dv kv lv:Value}{pl:Pn}
theorem PIr.row_c (h:PIr n0 w Bp L dv kv lv pl W){k:Nat}(hk:dv.ownBlock=some k∨kv.ownBlock=some k∨lv.ownBlock=some k):a3m Bp W k:=by
 have hr:∀ {v:Value} {e:TypeId} {s n:Nat} {xs:List Value} {i:Nat},W.ownsRow n0 e s v n xs→#[dv,kv,lv][i]? =some v→i<3→v.ownBlock=some k→a3m Bp W k:=fun {v e s n xs i} hw hi hlt hv=>by
  rcases hw.2 with ⟨rfl,-⟩|⟨g,cap,cur,rfl,-,hg,-⟩
  ·cases hv
  ·cases hv
   exact⟨⟨_,hg,rfl⟩,.inr ⟨i,hlt,0,_,cap,(h.p.cell i).trans hi⟩⟩
 rcases hk with hk|hk|hk
 ·exact hr h.d (i:=0) rfl (by omega) hk
 ·exact hr h.k (i:=1) rfl (by omega) hk
 ·exact hr h.l (i:=2) rfl (by omega) hk
theorem PIr.box_c (h:PIr n0 w Bp L dv kv lv pl W):a3m Bp W Bp:=⟨⟨_,h.p,rfl⟩,.inl rfl⟩
theorem PIr.c_row (h:PIr n0 w Bp L dv kv lv pl W)(hp:Blk W' Bp #[dv,kv,lv] 45){k:Nat}(hc:a3m Bp W' k):k=Bp∨dv.ownBlock=some k∨kv.ownBlock=some k∨lv.ownBlock=some k:=by
 have hz:∀ {v:Value} {e:TypeId} {s n:Nat} {xs:List Value},W.ownsRow n0 e s v n xs→∀ {off len cap:Nat},v= .slice (some ⟨k,off,none⟩) len cap→v.ownBlock=some k:=fun {v e s n xs} hw {off len cap} hv=>by
  rcases hw.2 with ⟨rfl,-⟩|⟨g,cap',cur,rfl,-⟩
  ·cases hv
  ·simp only[Value.slice.injEq,Option.some.injEq,Addr.mk.injEq] at hv
   rw[←hv.1.1];rfl
 obtain⟨-,rfl|⟨i,hi,off,len,cap,hcell⟩⟩:=hc
 ·exact .inl rfl
 ·rw[hp.cell i] at hcell
  match i,hi with
  |0,_=>exact .inr (.inl (hz h.d (by simpa using hcell)))
  |1,_=>exact .inr (.inr (.inl (hz h.k (by simpa using hcell))))
  |2,_=>exact .inr (.inr (.inr (hz h.l (by simpa using hcell))))
theorem PIr.keep_row (h:PIr n0 w Bp L dv kv lv pl W){row:Option Nat}(hg:W.grownBy W' row)(hr:∀r,row=some r→n0≤r∧r≠Bp∧dv.ownBlock≠some r∧kv.ownBlock≠some r∧lv.ownBlock≠some r)(ho:∀q∈L,some q.1≠row):PIr n0 w Bp L dv kv lv pl W':=by
 have hk:∀ {v:Value} {e:TypeId} {s n:Nat} {xs:List Value},W.ownsRow n0 e s v n xs→(∀r,row=some r→v.ownBlock≠some r)→W'.ownsRow n0 e s v n xs:=fun {v e s n xs} hw hv=>hw.kept hg (by
  cases hb:v.ownBlock with
  |none=>exact .inl rfl
  |some b=>exact .inr fun e=>hv b e.symm hb)
 exact⟨h.p.kept hg (fun e=>(hr Bp e).2.1 rfl),hk h.d fun r e=>(hr r e).2.2.1,hk h.k fun r e=>(hr r e).2.2.2.1,hk h.l fun r e=>(hr r e).2.2.2.2,fun q hq=>(h.o q hq).kept hg (fun e=>ho q hq e.symm),h.ne,h.bp,h.bel.grown hg h.hz (fun r e=>(hr r e).1),h.nw⟩
theorem PIr.below (h:PIr n0 w Bp L dv kv lv pl W)(hb:Below W.heap.size W W'):PIr n0 w Bp L dv kv lv pl W':=h.keep_row (a2h none hb) (fun r e=>by cases e) (fun q _ e=>by cases e)
theorem PIr.keepP (h:PIr n0 w Bp L dv kv lv pl W)(hb:Below W.heap.size W W'):KeepP (a3m Bp) n0 W W':=by
 have h':=h.below hb;have hk:∀ {v:Value} {e:TypeId} {s n:Nat} {xs:List Value} {k:Nat},W.ownsRow n0 e s v n xs→v.ownBlock=some k→∃o,W.heap[k]? =some o∧o.isCells=true:=fun {v e s n xs k} hw hv=>by
  rcases hw.2 with ⟨rfl,-⟩|⟨g,cap,cur,rfl,-,hg,-⟩
  ·cases hv
  ·cases hv
   exact⟨_,hg,rfl⟩
 refine⟨⟨hb.size,fun k hk _=>hb.block k hk,fun k hc=> .inl ?_⟩,hb.mono h.hz⟩;rcases h.c_row h'.p hc with rfl|hk
 ·exact h.box_c
 ·exact h.row_c hk
theorem PIr.add_dots (h:PIr n0 w Bp L dv kv lv pl W){v':Value}{l2:List Dt}(hg:W.grownBy W' dv.ownBlock)(hr:W'.ownsRow n0 54 4 v' (pl.dots++l2).length ((pl.dots++l2).flatMap dtE.enc))(hv:v'.ownBlock=dv.ownBlock∨∃b,v'.ownBlock=some b∧W.heap.size≤b) :
 Blk W' Bp #[dv,kv,lv] 45∧PIr n0 w Bp L v' kv lv { pl with dots:=pl.dots++l2 } (W'.setCell ⟨Bp,0,none⟩ v')∧KeepP (a3m Bp) n0 W (W'.setCell ⟨Bp,0,none⟩ v'):=by
 have hlo:∀r,dv.ownBlock=some r→n0≤r∧r<W.heap.size:=fun r e=>h.d.lt r e
 have kp:Blk W' Bp #[dv,kv,lv] 45:=h.p.kept hg (fun e=>a0s h.d h.p (by decide) e);have hg2:=a0h W' Bp 0 v';have hobj:∀r,dv.ownBlock=some r→∃cur,W.heap[r]? =some (.cells cur 54 (0,0)):=fun r e=>by
  rcases h.d.2 with ⟨rfl,-⟩|⟨g,cap,cur,rfl,-,hgg,-⟩
  ·cases e
  ·cases e
   exact⟨cur,hgg⟩
 have r_kv:W'.ownsRow n0 82 3 kv pl.keys.length (pl.keys.flatMap keE.enc):=a0x h.k hg fun r e=>by
  obtain⟨cur,hc⟩:=hobj r e;exact⟨_,hc,fun cur2 e2=>by simp only[Obj.cells.injEq] at e2;exact absurd e2.2.1 (by decide)⟩
 have r_lv:W'.ownsRow n0 68 3 lv pl.left.length (pl.left.flatMap lfE.enc):=a0x h.l hg fun r e=>by
  obtain⟨cur,hc⟩:=hobj r e;exact⟨_,hc,fun cur2 e2=>by simp only[Obj.cells.injEq] at e2;exact absurd e2.2.1 (by decide)⟩
 have hsz:Bp<W'.heap.size:=kp.lt;have bx:∀r,some Bp=some r→∃o:Obj,W'.heap[r]? =some o∧∀(cur:Array Value) (e:TypeId),e≠45→o≠.cells cur e (0,0):=fun r e=>by
  cases e;exact⟨_,kp,fun cur e he e2=>by simp only[Obj.cells.injEq] at e2;exact he e2.2.1.symm⟩
 have tn:∀ {v:Value} {e:TypeId} {s n:Nat} {xs:List Value},W'.ownsRow n0 e s v n xs→e≠45→(W'.setCell ⟨Bp,0,none⟩ v').ownsRow n0 e s v n xs:=fun {v e s n xs} hw he=>a0x hw hg2 fun r er=>by
  obtain⟨o,h1,h2⟩:=bx r er;exact⟨o,h1,fun cur=>h2 cur e he⟩
 have hP:PIr n0 w Bp L v' kv lv { pl with dots:=pl.dots++l2 } (W'.setCell ⟨Bp,0,none⟩ v'):=by
  refine⟨kp.set 0 v',tn hr (by decide),tn r_kv (by decide),tn r_lv (by decide),fun q hq=> ?_,h.ne,h.bp,?_,h.nw⟩
  ·have h1:=h.ne q hq
   refine ((h.o q hq).kept hg (fun e=> ?_)).kept hg2 (fun e=> ?_)
   ·obtain⟨cur,hc⟩:=hobj _ e
    have h2:=h.o q hq;unfold Blk at h2;rw[hc] at h2;simp only[Option.some.injEq,Obj.cells.injEq] at h2;exact absurd h2.2.1.symm h1.2.1
   ·cases e
    exact h1.1 rfl
  ·exact (h.bel.grown hg h.hz fun r e=>(hlo r e).1).grown hg2 (Nat.le_trans h.hz hg.size) fun r e=>by cases e;exact h.bp
 refine⟨kp,hP,⟨⟨Nat.le_trans hg.size hg2.size,fun k hk hn=> ?_,fun k hc=> ?_⟩,?_⟩⟩
 ·exact (hg2.block k (Nat.lt_of_lt_of_le hk hg.size) fun e=>hn (by cases e;exact h.box_c)).trans (hg.block k hk fun e=>hn (h.row_c (.inl e.symm)))
 ·rcases hP.c_row hP.p hc with rfl|hk
  ·exact .inl h.box_c
  ·have hold:dv.ownBlock=some k∨kv.ownBlock=some k∨lv.ownBlock=some k→a3m Bp W k:=h.row_c
   have hnew:v'.ownBlock=some k→a3m Bp W k∨W.heap.size≤k:=fun e=>by
    rcases hv with h1|⟨b,h1,h2⟩
    ·exact .inl (hold (.inl (h1▸e)))
    ·rw[h1] at e
     cases e;exact .inr h2
   rcases hk with hk|hk|hk
   ·exact hnew hk
   ·exact .inl (hold (.inr (.inl hk)))
   ·exact .inl (hold (.inr (.inr hk)))
 ·exact ((show Below n0 W W from zR _ _).grown hg h.hz fun r e=>(hlo r e).1).grown hg2 (Nat.le_trans h.hz hg.size) fun r e=>by cases e;exact h.bp
theorem PIr.add_keys (h:PIr n0 w Bp L dv kv lv pl W){v':Value}{l2:List Ke}(hg:W.grownBy W' kv.ownBlock)(hr:W'.ownsRow n0 82 3 v' (pl.keys++l2).length ((pl.keys++l2).flatMap keE.enc))(hv:v'.ownBlock=kv.ownBlock∨∃b,v'.ownBlock=some b∧W.heap.size≤b) :
 Blk W' Bp #[dv,kv,lv] 45∧PIr n0 w Bp L dv v' lv { pl with keys:=pl.keys++l2 } (W'.setCell ⟨Bp,1,none⟩ v')∧KeepP (a3m Bp) n0 W (W'.setCell ⟨Bp,1,none⟩ v'):=by
 have hlo:∀r,kv.ownBlock=some r→n0≤r∧r<W.heap.size:=fun r e=>h.k.lt r e
 have kp:Blk W' Bp #[dv,kv,lv] 45:=h.p.kept hg (fun e=>a0s h.k h.p (by decide) e);have hg2:=a0h W' Bp 1 v';have hobj:∀r,kv.ownBlock=some r→∃cur,W.heap[r]? =some (.cells cur 82 (0,0)):=fun r e=>by
  rcases h.k.2 with ⟨rfl,-⟩|⟨g,cap,cur,rfl,-,hgg,-⟩
  ·cases e
  ·cases e
   exact⟨cur,hgg⟩
 have r_dv:W'.ownsRow n0 54 4 dv pl.dots.length (pl.dots.flatMap dtE.enc):=a0x h.d hg fun r e=>by
  obtain⟨cur,hc⟩:=hobj r e;exact⟨_,hc,fun cur2 e2=>by simp only[Obj.cells.injEq] at e2;exact absurd e2.2.1 (by decide)⟩
 have r_lv:W'.ownsRow n0 68 3 lv pl.left.length (pl.left.flatMap lfE.enc):=a0x h.l hg fun r e=>by
  obtain⟨cur,hc⟩:=hobj r e;exact⟨_,hc,fun cur2 e2=>by simp only[Obj.cells.injEq] at e2;exact absurd e2.2.1 (by decide)⟩
 have hsz:Bp<W'.heap.size:=kp.lt;have bx:∀r,some Bp=some r→∃o:Obj,W'.heap[r]? =some o∧∀(cur:Array Value) (e:TypeId),e≠45→o≠.cells cur e (0,0):=fun r e=>by
  cases e;exact⟨_,kp,fun cur e he e2=>by simp only[Obj.cells.injEq] at e2;exact he e2.2.1.symm⟩
 have tn:∀ {v:Value} {e:TypeId} {s n:Nat} {xs:List Value},W'.ownsRow n0 e s v n xs→e≠45→(W'.setCell ⟨Bp,1,none⟩ v').ownsRow n0 e s v n xs:=fun {v e s n xs} hw he=>a0x hw hg2 fun r er=>by
  obtain⟨o,h1,h2⟩:=bx r er;exact⟨o,h1,fun cur=>h2 cur e he⟩
 have hP:PIr n0 w Bp L dv v' lv { pl with keys:=pl.keys++l2 } (W'.setCell ⟨Bp,1,none⟩ v'):=by
  refine⟨kp.set 1 v',tn r_dv (by decide),tn hr (by decide),tn r_lv (by decide),fun q hq=> ?_,h.ne,h.bp,?_,h.nw⟩
  ·have h1:=h.ne q hq
   refine ((h.o q hq).kept hg (fun e=> ?_)).kept hg2 (fun e=> ?_)
   ·obtain⟨cur,hc⟩:=hobj _ e
    have h2:=h.o q hq;unfold Blk at h2;rw[hc] at h2;simp only[Option.some.injEq,Obj.cells.injEq] at h2;exact absurd h2.2.1.symm h1.2.2.1
   ·cases e
    exact h1.1 rfl
  ·exact (h.bel.grown hg h.hz fun r e=>(hlo r e).1).grown hg2 (Nat.le_trans h.hz hg.size) fun r e=>by cases e;exact h.bp
 refine⟨kp,hP,⟨⟨Nat.le_trans hg.size hg2.size,fun k hk hn=> ?_,fun k hc=> ?_⟩,?_⟩⟩
 ·exact (hg2.block k (Nat.lt_of_lt_of_le hk hg.size) fun e=>hn (by cases e;exact h.box_c)).trans (hg.block k hk fun e=>hn (h.row_c (.inr (.inl e.symm))))
 ·rcases hP.c_row hP.p hc with rfl|hk
  ·exact .inl h.box_c
  ·have hold:dv.ownBlock=some k∨kv.ownBlock=some k∨lv.ownBlock=some k→a3m Bp W k:=h.row_c
   have hnew:v'.ownBlock=some k→a3m Bp W k∨W.heap.size≤k:=fun e=>by
    rcases hv with h1|⟨b,h1,h2⟩
    ·exact .inl (hold (.inr (.inl (h1▸e))))
    ·rw[h1] at e
     cases e;exact .inr h2
   rcases hk with hk|hk|hk
   ·exact .inl (hold (.inl hk))
   ·exact hnew hk
   ·exact .inl (hold (.inr (.inr hk)))
 ·exact ((show Below n0 W W from zR _ _).grown hg h.hz fun r e=>(hlo r e).1).grown hg2 (Nat.le_trans h.hz hg.size) fun r e=>by cases e;exact h.bp
theorem PIr.add_left (h:PIr n0 w Bp L dv kv lv pl W){v':Value}{l2:List Lf}(hg:W.grownBy W' lv.ownBlock)(hr:W'.ownsRow n0 68 3 v' (pl.left++l2).length ((pl.left++l2).flatMap lfE.enc))(hv:v'.ownBlock=lv.ownBlock∨∃b,v'.ownBlock=some b∧W.heap.size≤b) :
 Blk W' Bp #[dv,kv,lv] 45∧PIr n0 w Bp L dv kv v' { pl with left:=pl.left++l2 } (W'.setCell ⟨Bp,2,none⟩ v')∧KeepP (a3m Bp) n0 W (W'.setCell ⟨Bp,2,none⟩ v'):=by
 have hlo:∀r,lv.ownBlock=some r→n0≤r∧r<W.heap.size:=fun r e=>h.l.lt r e
 have kp:Blk W' Bp #[dv,kv,lv] 45:=h.p.kept hg (fun e=>a0s h.l h.p (by decide) e);have hg2:=a0h W' Bp 2 v';have hobj:∀r,lv.ownBlock=some r→∃cur,W.heap[r]? =some (.cells cur 68 (0,0)):=fun r e=>by
  rcases h.l.2 with ⟨rfl,-⟩|⟨g,cap,cur,rfl,-,hgg,-⟩
  ·cases e
  ·cases e
   exact⟨cur,hgg⟩
 have r_dv:W'.ownsRow n0 54 4 dv pl.dots.length (pl.dots.flatMap dtE.enc):=a0x h.d hg fun r e=>by
  obtain⟨cur,hc⟩:=hobj r e;exact⟨_,hc,fun cur2 e2=>by simp only[Obj.cells.injEq] at e2;exact absurd e2.2.1 (by decide)⟩
 have r_kv:W'.ownsRow n0 82 3 kv pl.keys.length (pl.keys.flatMap keE.enc):=a0x h.k hg fun r e=>by
  obtain⟨cur,hc⟩:=hobj r e;exact⟨_,hc,fun cur2 e2=>by simp only[Obj.cells.injEq] at e2;exact absurd e2.2.1 (by decide)⟩
 have hsz:Bp<W'.heap.size:=kp.lt;have bx:∀r,some Bp=some r→∃o:Obj,W'.heap[r]? =some o∧∀(cur:Array Value) (e:TypeId),e≠45→o≠.cells cur e (0,0):=fun r e=>by
  cases e;exact⟨_,kp,fun cur e he e2=>by simp only[Obj.cells.injEq] at e2;exact he e2.2.1.symm⟩
 have tn:∀ {v:Value} {e:TypeId} {s n:Nat} {xs:List Value},W'.ownsRow n0 e s v n xs→e≠45→(W'.setCell ⟨Bp,2,none⟩ v').ownsRow n0 e s v n xs:=fun {v e s n xs} hw he=>a0x hw hg2 fun r er=>by
  obtain⟨o,h1,h2⟩:=bx r er;exact⟨o,h1,fun cur=>h2 cur e he⟩
 have hP:PIr n0 w Bp L dv kv v' { pl with left:=pl.left++l2 } (W'.setCell ⟨Bp,2,none⟩ v'):=by
  refine⟨kp.set 2 v',tn r_dv (by decide),tn r_kv (by decide),tn hr (by decide),fun q hq=> ?_,h.ne,h.bp,?_,h.nw⟩
  ·have h1:=h.ne q hq
   refine ((h.o q hq).kept hg (fun e=> ?_)).kept hg2 (fun e=> ?_)
   ·obtain⟨cur,hc⟩:=hobj _ e
    have h2:=h.o q hq;unfold Blk at h2;rw[hc] at h2;simp only[Option.some.injEq,Obj.cells.injEq] at h2;exact absurd h2.2.1.symm h1.2.2.2
   ·cases e
    exact h1.1 rfl
  ·exact (h.bel.grown hg h.hz fun r e=>(hlo r e).1).grown hg2 (Nat.le_trans h.hz hg.size) fun r e=>by cases e;exact h.bp
 refine⟨kp,hP,⟨⟨Nat.le_trans hg.size hg2.size,fun k hk hn=> ?_,fun k hc=> ?_⟩,?_⟩⟩
 ·exact (hg2.block k (Nat.lt_of_lt_of_le hk hg.size) fun e=>hn (by cases e;exact h.box_c)).trans (hg.block k hk fun e=>hn (h.row_c (.inr (.inr e.symm))))
 ·rcases hP.c_row hP.p hc with rfl|hk
  ·exact .inl h.box_c
  ·have hold:dv.ownBlock=some k∨kv.ownBlock=some k∨lv.ownBlock=some k→a3m Bp W k:=h.row_c
   have hnew:v'.ownBlock=some k→a3m Bp W k∨W.heap.size≤k:=fun e=>by
    rcases hv with h1|⟨b,h1,h2⟩
    ·exact .inl (hold (.inr (.inr (h1▸e))))
    ·rw[h1] at e
     cases e;exact .inr h2
   rcases hk with hk|hk|hk
   ·exact .inl (hold (.inl hk))
   ·exact .inl (hold (.inr (.inl hk)))
   ·exact hnew hk
 ·exact ((show Below n0 W W from zR _ _).grown hg h.hz fun r e=>(hlo r e).1).grown hg2 (Nat.le_trans h.hz hg.size) fun r e=>by cases e;exact h.bp
end
def wdF (s:Sh)(ws:List Wy):List Dt:=a2d 2 (a4m s [] (ws.map Wy.key))
abbrev a3f (s:Sh)(ws:List Wy)(qs:List Pc):Pn:=a1t s.g (pfS s) a5s (wdF s ws) qs
structure PlanIn (W:World)(v:Value)(pl:Pn):Prop where
 ex:∃dv kv lv,v=a2f dv kv lv∧(Lst dtE W.heap.size W dv pl.dots∧Frm dv pl.dots.length)∧(Lst keE W.heap.size W kv pl.keys∧Frm kv pl.keys.length)∧Lst lfE W.heap.size W lv pl.left∧Frm lv pl.left.length
theorem b4j (s:Sh)(ws:List Wy)(qs:List Pc):(a3f s ws qs).dots.length≤(wdF s ws).length+33*qs.length∧(a3f s ws qs).keys.length≤qs.length∧(a3f s ws qs).left.length≤qs.length:=by
 refine a7n (Q:=fun qs=>(a3f s ws qs).dots.length≤(wdF s ws).length+33*qs.length∧(a3f s ws qs).keys.length≤qs.length∧(a3f s ws qs).left.length≤qs.length) ?_ ?_ qs
 ·simp[a3f,a1t]
 ·rintro qs p⟨h1,h2,h3⟩
  unfold a3f at h1 h2 h3 ⊢;rw[a2n];have hp:=b4e s p;have hk:(a5s p).length≤1:=by unfold a5s;cases d0g p <;> simp
  unfold a3x;split <;> simp only[List.length_append,List.length_cons,List.length_nil] <;> omega
theorem b1k {s:Sh}(hs:OkS s)(ws:List Wy):(wdF s ws).length≤6480:=by
 unfold wdF;rw[a4f];exact a9f hs _
theorem c5k {s:Sh}(hs:OkS s)(ws:List Wy)(qs:List Pc):∀d∈(a3f s ws qs).dots,Sm d:=fun d hd=>by
 rcases b0o _ _ d hd with h|⟨p,-,h⟩
 ·exact c8m hs (d2r s _ d h)
 ·exact c8m hs (c8n s p d h)
theorem KxC.alloc {s:Sh}{ps:List Pc}{pre:List (Pc×Value)}{x:Pc×Value}{W:World}(o:Obj)(h:KxC s ps pre x W):KxC s ps pre x (W.alloc o) :=
 ⟨h.1,h.2.1.up ((zR _ _).alloc (yR _) _),h.2.2⟩
theorem c0q {W:World}{base b2:Nat}{e:TypeId}{s:Nat}{v:Value}{n:Nat}{xs:List Value}(h:W.ownsRow base e s v n xs)(hb:b2≤base):W.ownsRow b2 e s v n xs :=
 ⟨h.1,h.2.imp id fun ⟨g,cap,cur,e1,h1,h2⟩=>⟨g,cap,cur,e1,Nat.le_trans hb h1,h2⟩⟩
def PlI (n0:Nat)(w:World)(Bp:Nat)(L:List (Nat×Array Value×TypeId))(s:Sh)(ws:List Wy)(pre:List (Pc×Value))(W:World):Prop:=∃dv kv lv,PIr n0 w Bp L dv kv lv (a3f s ws (pre.map Prod.fst)) W
section
variable {n0 Bp:Nat}{w W W':World}{L:List (Nat×Array Value×TypeId)}{s:Sh}{ws:List Wy}{pre:List (Pc×Value)}
theorem PlI.turn (h:PlI n0 w Bp L s ws pre W){Z:Nat}(hz:n0≤Z)(hL:∀q∈L,q.1<Z){row:Option Nat}(hg:W.grownBy W' row)(hr:∀r,row=some r→Z≤r∧¬a3m Bp W r):PlI n0 w Bp L s ws pre W':=by
 obtain⟨dv,kv,lv,h⟩:=h;refine⟨dv,kv,lv,h.keep_row hg (fun r e=> ?_) (fun q hq e=> ?_)⟩
 ·have h1:=hr r e
  exact⟨Nat.le_trans hz h1.1,fun e=>h1.2 (e▸h.box_c),fun e=>h1.2 (h.row_c (.inl e)),fun e=>h1.2 (h.row_c (.inr (.inl e))),fun e=>h1.2 (h.row_c (.inr (.inr e)))⟩
 ·have:=(hr _ e.symm).1
  have:=hL q hq;omega
theorem PlI.mine (h:PlI n0 w Bp L s ws pre W){row:Option Nat}{k:Nat}(hg:W.grownBy W' row)(hr:∀r,row=some r→¬a3m Bp W r)(hc:a3m Bp W' k):a3m Bp W k:=by
 obtain⟨dv,kv,lv,h⟩:=h;rcases h.c_row (h.p.kept hg (fun e=>hr _ e h.box_c)) hc with rfl|hk
 ·exact h.box_c
 ·exact h.row_c hk
end
end
section
open Go Go.RowKit
def AtFn (f:FuncId)(F:Fence)(n:Nat)(P:Program)(c:Code)(Q:Exit→Act→World→Prop)(a:Act)(w:World):Prop :=
 ∀(b:Frame) (k:List Item) (cs:List Frame),b.fn=f→b.roundOf=F.round→F.fn b.fn→F.room (cs.length+1+n) →
  ∃e a' w',Q e a' w'∧ArrivesIn (Machine.fenced P F) P (lone (b.atR a (.code c::k)) cs w) b k cs e a' w'
section
variable {f:FuncId}{F:Fence}{n:Nat}{P:Program}{Q:Exit→Act→World→Prop}{a:Act}{w:World}
theorem AtFn.of {c:Code}(h:c.wpIn F n P Q a w):AtFn f F n P c Q a w:=fun b k cs _=>h b k cs
theorem AtFn.seq {x y:Code}(h:AtFn f F n P x (Exit.then (AtFn f F n P y Q) Q) a w):AtFn f F n P (.seq x y) Q a w:=by
 intro b k cs h1 h2 h3 h4;have s0:StepsIn (Machine.fenced P F) P (lone (b.atR a (.code (.seq x y)::k)) cs w) (lone (b.atR a (.code x:: .code y::k)) cs w):= .one (fenced_calm h3 h4 rfl) stepR_seq;obtain⟨e,a₁,w₁,hq,r⟩:=h b (.code y::k) cs h1 h2 h3 h4;by_cases hn:e= .normal
 ·subst hn
  obtain⟨e₂,a₂,w₂,hq₂,r₂⟩:=hq b k cs h1 h2 h3 h4;exact⟨e₂,a₂,w₂,hq₂,.of_steps (s0.trans r) r₂⟩
 ·refine⟨e,a₁,w₁,?_,.of_steps s0 (.pass (x:= .code y) rfl (fun _ _=> .inl hn) r)⟩
  cases e
  case normal=>exact absurd rfl hn
  all_goals exact hq
theorem AtFn.block {id:Nat}{c:Code}(h:AtFn f F n P c (fun e a w=>match e with | .normal=>Q .normal a w | .exit i=>i=id∧Q .normal a w | .panic ch=>Q (.panic ch) a w|_=>False) a w):AtFn f F n P (.block id c) Q a w:=by
 intro b k cs h1 h2 h3 h4;have hc:=fenced_calm (P:=P) (w:=w) (fr:=b.atR a (.code (.block id c)::k)) h3 h4 rfl;obtain⟨e,a₁,w₁,hq,r⟩:=h b (.inBlock id::k) cs h1 h2 h3 h4
 cases e with
 |normal=>exact⟨.normal,a₁,w₁,hq,.head hc stepR_block (StepsIn.trans r (.one (fenced_calm h3 h4 rfl) stepR_inBlock))⟩
 |exit i =>
  obtain⟨rfl,hq⟩:=hq;exact⟨.normal,a₁,w₁,hq,.head hc stepR_block (r.1 k (by simp[exitTo]))⟩
 |panic ch=>exact⟨.panic ch,a₁,w₁,hq,.of_steps (.one hc stepR_block) (show ArrivesIn (Machine.fenced P F) P _ b k cs (.panic ch) a₁ w₁ from r)⟩
 |goto l=>exact hq.elim
 |ret=>exact hq.elim
 |outgrown=>exact hq.elim
def c8o (P:Program)(l:Nat)(Q:Exit→Act→World→Prop)(a':Act):Ending→World→Prop
 |.returned _,W=>∃W',(Instr.endLoop l).run P W= .ok none W'∧Q .normal a' W'
 |.panicked ch,W=>Q (.panic ch) a' W
 |.outgrown,_=>False
theorem AtFn.range {g:Operand}{ps:Array Tmp}{assign body:Code}{l:Nat}{mark:List Deferred}{w₁ w₁' w₂:World}{d:Deferred}{gf:FuncId}{args:Array Value}
 (he:(Instr.enterLoop f a.tmps ps assign body F.round).run P w= .ok (l,mark) w₁) (hres:(resolve a.eval (rangeCall g l) 0).run P w₁= .ok d w₁') (hlead:∀f',Target.leads P w₁' d.target d.args=some f'→F.fn f')
 (hinv:(invoke d.target d.args).run P w₁'= .ok (.enter gf args) w₂) (hn:F.depth.isSome=true→1≤n) (hcall:CallsIn F (n-1) P gf args w₂ (c8o P l Q { a with defers:=mark++a.defers })) :
 AtFn f F n P (.rangeFunc g ps assign body) Q a w:=by
 intro b k cs h1 h2 h3 h4;subst h1;rw[←h2] at he;have hf0:(lone (b.atR a (.code (.rangeFunc g ps assign body)::k)) cs w).fenced P F:=by
  refine fenced_lone (.inl h3) (fun f' hf'=>hlead f' ?_) (Fence.room_le h4 (by omega));have hev:=Frame.eval_atR b a (.code (.rangeFunc g ps assign body)::k);simp only[Frame.atR] at hev;simpa only [Frame.about,Frame.atR,he,hev,hres] using hf'
 have hin:=stepR_rangeFunc (P:=P) (b:=b) (a:=a) (k:=k) (cs:=cs) (w:=w) he hres hinv;have hro:F.room ((b.atR { a with defers:=mark++a.defers } (.inRangeFunc l::k)::cs).length+1+(n-1)):=Fence.room_enter h4 hn;obtain⟨e,w₃,fr,hR,hs,hfn,hl⟩:=hcall.2 (b.atR { a with defers:=mark++a.defers } (.inRangeFunc l::k)::cs) hro
 cases e with
 |outgrown=>exact hR.elim
 |returned v =>
  have hfl:=fenced_leaving (hfn▸hcall.1) hro hl;obtain⟨w₄,hend,hq⟩:=hR;refine⟨.normal,_,w₄,hq,.head hf0 hin (StepsIn.trans hs (.head hfl ?_ (.one (fenced_calm (fr:=b.atR { a with defers:=mark++a.defers } (.endRangeFunc l::k)) h3 h4 rfl) (stepR_endRangeFunc hend))))⟩;rw[←finish_atR_inRangeFunc l v];exact step_leave_returned hl
 |panicked ch =>
  have hfl:=fenced_leaving (hfn▸hcall.1) hro hl;refine⟨.panic ch,_,w₃,hR,.inRangeFunc l::k,.head hf0 hin (StepsIn.trans hs (.one hfl ?_))⟩;rw[←Frame.raise_atR];exact step_leave_panicked hl
theorem a7z {fn:Func}{c:Code}{args:Array Value}{R:Ending→World→Prop}(hf:P.funcs[f]? =some fn)(hb:fn.body=some c)(hF:F.fn f)(hro:F.round=none)
 (h:AtFn f F n P c (fun e a w=>match e with | .normal=>LeavesInM F n P fn a.tmps R a.defers .returning w | .ret=>LeavesInM F n P fn a.tmps R a.defers .returning w | .panic ch=>LeavesInM F n P fn a.tmps R a.defers (.panicking ch) w|_=>False) { tmps:=args++Array.replicate (fn.ntmps-args.size) undef,defers:=[] } w):CallsIn F n P f args w R:=by
 refine⟨hF,fun cs hr=> ?_⟩;obtain⟨b,hbd⟩:∃b:Frame,b={ (default:Frame) with fn:=f,kind:= .normal,roundOf:=none }:=⟨_,rfl⟩;have hb1:b.fn=f:=by rw[hbd]
 have hb2:b.roundOf=none:=by rw[hbd]
 have hb3:b.kind= .normal:=by rw[hbd]
 have hin:Frame.enter P f args .normal=b.atR { tmps:=args++Array.replicate (fn.ntmps-args.size) undef,defers:=[] } [.code c]:=by
  rw[hbd];simp[Frame.enter,Frame.atR,hf,hb]
 obtain⟨e,a',w',hq,r⟩:=h b [] cs hb1 (hb2.trans hro.symm) (hb1▸hF) hr;rw[←hin] at r;have hlv:∀(u:FrameMode) (todo:List Item),LeavesInM F n P fn a'.tmps R a'.defers u w'→∃e w'' fr,R e w''∧ComesIn (Machine.fenced P F) P (lone { b.atR a' todo with mode:=u } cs w') (lone fr cs w'') e∧fr.fn=f∧fr.leaving P w'' e:=fun u todo hL=>by
  obtain⟨e,w'',fr,h1,h2,h3,h4⟩:=leaves_stepsInM a'.defers u w' { b.atR a' todo with mode:=u } cs rfl rfl rfl (show P.funcs[b.fn]? =some fn by rw[hb1];exact hf) hb3 (show F.fn b.fn from hb1▸hF) hr hL;exact⟨e,w'',fr,h1,h2,h3.trans hb1,h4⟩
 cases e with
 |normal =>
  obtain⟨e,w'',fr,h1,h2,h3⟩:=hlv .returning [] hq;exact⟨e,w'',fr,h1,ComesIn.of_steps (StepsIn.trans r (.one (fenced_calm (fr:=b.atR a' []) (hb1▸hF) hr rfl) (stepR_end hb2))) h2,h3⟩
 |ret =>
  obtain⟨todo,hs⟩:=r.1 hb2;obtain⟨e,w'',fr,h1,h2,h3⟩:=hlv .returning todo hq;exact⟨e,w'',fr,h1,ComesIn.of_steps hs h2,h3⟩
 |panic ch =>
  obtain⟨todo,hs⟩:=r;obtain⟨e,w'',fr,h1,h2,h3⟩:=hlv (.panicking ch) todo hq;exact⟨e,w'',fr,h1,ComesIn.of_steps hs h2,h3⟩
 |exit i=>exact hq.elim
 |goto l=>exact hq.elim
 |outgrown=>exact hq.elim
end
theorem b4k {f:FuncId}{F:Fence}{n:Nat}{P:Program}{α:Type}{g:Operand}{ps:Array Tmp}{assign body:Code}{Q:Exit→Act→World→Prop}{a:Act}{w:World}
 (hro:F.round=none) (h1:1≤n) {gf:Nat} {lb:Array Value} (hg:a.eval g= .func (.func gf) #[] lb) (hFg:F.fn gf) (eg:∀args w,(callFunc gf args).run P w= .ok (.enter gf args) w)
 {encs:α→Array Value} {C:World→Nat→Prop} (hC:∀(W:World) (l k:Nat) (o o':Obj),W.heap[l]? =some o→a5u o=true→a5u o'=true→(C (W.putObj l o') k↔C W k)) (hCl:∀(W:World) (l:Nat) (o:Obj),W.heap[l]? =some o→a5u o=true→¬C W l)
 (hCa:∀(W:World) (k:Nat) (o:Obj),C (W.alloc o) k→a5u o=true→C W k) (hC0:∀k,C w k→k<w.heap.size)
 {n0:Nat} (hn0:n0≤w.heap.size) {Kx:List α→α→World→Prop} (hKp:∀pre x (W:World) (l:Nat) (o o':Obj),W.heap[l]? =some o→a5u o=true→a5u o'=true→Kx pre x W→Kx pre x (W.putObj l o')) {S:List α→Prop} {N:Nat} {w0:World} (hseq:d2n F (n-1) P gf lb encs C n0 Kx S N w0) (hb0:Below w0.heap.size w0 w) (hps:∀x,(encs x).size=ps.size)
 (I:List α→World→Prop) (hI:∀pre A A' row,I pre A→A.grownBy A' row→(∀r,row=some r→w.heap.size≤r∧¬C A r)→I pre A') (hIC:∀pre A A' row k,I pre A→A.grownBy A' row→(∀r,row=some r→¬C A r)→C A' k→C A k) (h0:I [] w) (Ip:List PanicEntry→World→Prop) (hfs:∃x,P.funcs[f]? =some x) (hFf:F.fn f) (tb:TypeId) (bx:α→Array Value) (hKa:∀pre x (W:World) (o:Obj),Kx pre x W→Kx pre x (W.alloc o)) (hCs:∀pre W k,I pre W→C W k→k<W.heap.size) (a₁:α→Nat→Act)
 (hassign:∀(l:Nat) (pre:List α) (x:α) (W:World) (K:Act→World→Prop),Kx pre x W→K (a₁ x W.heap.size) (W.alloc (.cells (bx x) tb))→assign.wpIn (F.inRound l) (n-1-1) P (Exit.then K (fun _ _ _=>False)) { tmps:=(ps.zip (encs x)).foldl (fun t (p,v)=>t.setIfInBounds p v) a.tmps,defers:=[] } W)
 (hbody:∀(l:Nat) (pre:List α) (x:α) (W:World) (B:Nat),I pre W→Kx pre x W→Blk W B (bx x) tb→w.heap.size≤B→(∀k,C W k→k≠B)→pre.length<N→body.wpIn (F.inRound l) (n-1-1) P (fun e a' W'=>(e= .normal∧KeepP C n0 W W'∧I (pre++[x]) W')∨∃ch,e= .panic ch∧a'.defers=[]∧KeepP C n0 W W'∧Ip ch W') (a₁ x B) W)
 (hpan:∀(D:Nat) (ch:List PanicEntry) (W:World),w.heap.size≤D→Ip ch W→W.heap[D]? =some (.deferred (some []))→Q (.panic ch) { a with defers:={ target:= .collected D,args:= #[] }::a.defers } W)
 (hdone:∀(D:Nat) (xs:List α) (W:World),w.heap.size≤D→S xs→I xs W→W.heap[D]? =some (.deferred (some []))→Q .normal { a with defers:={ target:= .collected D,args:= #[] }::a.defers } W) :
 AtFn f F n P (.rangeFunc g ps assign body) Q a w:=by
 have hfn:=hFf;obtain⟨fn,hfne⟩:∃fn,fn=f:=⟨_,rfl⟩;subst hfne
 -- the two blocks of the statement: the rounds' deferred calls, and the loop's record, in its states
 obtain⟨D,hD⟩:∃D,w.heap.size=D:=⟨_,rfl⟩;let R:LoopState→Option Code→Loop:=fun st pe=>{ state:=st,pending:=pe,fn,tmps:=a.tmps,params:=ps,assign,body,defers:=D }
 let W1:World:=(w.alloc (.deferred (some []))).alloc (.loop (R .ready none))
 have s1:W1.heap.size=D+2:=by simp[W1,hD]
 have g1:w.grownBy W1 none:=by
  have e1:=World.grownBy_alloc w (.deferred (some [])) none;have e2:=World.grownBy_alloc (w.alloc (.deferred (some []))) (.loop (R .ready none)) none;exact⟨e2.os.trans e1.os,e2.tape.trans e1.tape,e2.output.trans e1.output,Nat.le_trans e1.size e2.size,fun k hk hn=>(e2.block k (by simp;omega) hn).trans (e1.block k hk hn)⟩
 have l1:W1.heap[D+1]? =some (.loop (R .ready none)):=by
  have:=World.alloc_heap_new (w.alloc (.deferred (some []))) (.loop (R .ready none));rwa [World.size_alloc,hD] at this
 have d1:W1.heap[D]? =some (.deferred (some [])):=by
  have:=(Below.heap_alloc (w.alloc (.deferred (some []))) (.loop (R .ready none)) w.heap.size (by simp)).trans (World.alloc_heap_new w _);rwa [hD] at this
 have hCW:∀k,C W1 k→k<W1.heap.size:=fun k hk=>by
  have:=hC0 k (hCa _ k _ (hCa _ k _ hk rfl) rfl);omega
 refine AtFn.range (l:=D+1) (mark:=[{ target:= .collected D,args:= #[] }]) (w₁:=W1) (w₁':=W1) (w₂:=W1) (d:={ target:= .fn (.func gf) lb,args:= #[.func (.yield (D+1)) #[] #[]] }) (gf:=gf) (args:= #[.func (.yield (D+1)) #[] #[]]++lb) ?_ ?_ ?_ ?_ (fun _=>h1) ?_
 ·rw[hro]
  subst hD;exact run_enterLoop_outer _ _ _ _ _
 ·simp only[resolve,hg]
  simp[go_sem]
 ·intro f' hf'
  simp[Target.leads] at hf';subst hf';exact hFg
 ·simp[invoke,go_sem,eg]
 ·have hb1:Below w0.heap.size w0 W1:=hb0.trans ((show Below w.heap.size w W1 from ⟨g1.os,g1.tape,g1.output,g1.size,fun k hk=>g1.block k hk (by simp)⟩).mono hb0.size)
  refine (hseq (D+1) (fun pre W=>I pre W∧W.heap[D+1]? =some (.loop (R .ready none))∧W.heap[D]? =some (.deferred (some []))) (fun ch W=>Ip ch W∧W.heap[D]? =some (.deferred (some []))) W1 hb1 ?_ (fun s A A' row k hJ=>hIC s A A' row k hJ.1) hCW ?_ ⟨hI [] w W1 none h0 g1 (by simp),l1,d1⟩).mono ?_
  ·rintro s A A' row⟨hi,hl,hd⟩ hgr hr
   have hne:∀k,k<D+2→some k≠row:=fun k hk e=>by have:=(hr k e.symm).1;omega
   exact⟨hI s A A' row hi hgr (fun r e=>⟨by have:=(hr r e).1;omega,(hr r e).2⟩),(hgr.block _ (Array.getElem?_eq_some_iff.1 hl).1 (hne _ (by omega))).trans hl,(hgr.block _ (Array.getElem?_eq_some_iff.1 hd).1 (hne _ (by omega))).trans hd⟩
  ·rintro pre x W⟨hi,hl,hd⟩ hkx hlen
   have hlt:D+1<W.heap.size:=(Array.getElem?_eq_some_iff.1 hl).1;have hy:=run_yield (P:=P) (args:=encs x) hl (hps x);refine⟨fn,_,assign,body,hy,b6n hfn (fun ch w hR=>hfs) (hassign _ pre x W _ hkx ?_)⟩;have hgA:W.grownBy (W.alloc (.cells (bx x) tb)) none:=World.grownBy_alloc W _ none;obtain⟨Wa,hWa⟩:∃Wa,W.alloc (.cells (bx x) tb)=Wa:=⟨_,rfl⟩;have hsa:Wa.heap.size=W.heap.size+1:=by rw[←hWa];simp
   have hba:∀k,k<W.heap.size→Wa.heap[k]? =W.heap[k]? :=fun k hk=>by rw[←hWa];exact hgA.block k hk (by simp)
   have hka:Blk Wa W.heap.size (bx x) tb:=by rw[←hWa];exact Blk.new _ _ _
   have hia:I pre Wa:=by rw[←hWa];exact hI pre W _ none hi hgA (by simp)
   have hca:∀k,C Wa k→C W k:=fun k hk=>by rw[←hWa] at hk;exact hIC pre W _ none k hi hgA (by simp) hk
   have hxa:Kx pre x Wa:=by rw[←hWa];exact hKa pre x W _ hkx
   have hla:Wa.heap[D+1]? =some (.loop (R .ready none)):=(hba _ hlt).trans hl;have hda:Wa.heap[D]? =some (.deferred (some [])):=(hba _ (by omega)).trans hd;have hlW:W.heap[D+1]? =some (.loop (R .ready none)):=hl;have hsz:D+1<W.heap.size:=hlt;have hbWa:Below n0 W Wa:=by rw[←hWa];exact a1i hgA (by omega) (fun r e=>by cases e)
   rw[hWa];refine⟨_,run_beginRound hla rfl,?_⟩;obtain⟨W2,hW2⟩:∃W2,Wa.putObj (D+1) (.loop { R .ready none with state:= .busy })=W2:=⟨_,rfl⟩;have hlta:D+1<Wa.heap.size:=by omega
   have hl2:W2.heap[D+1]? =some (.loop { R .ready none with state:= .busy }):=by rw[←hW2];exact World.putObj_heap_same hlta
   have hd2:W2.heap[D]? =some (.deferred (some [])):=by rw[←hW2];exact (World.putObj_heap_other (by omega)).trans hda
   have hi2:I pre W2:=by
    rw[←hW2];exact hI pre Wa _ (some (D+1)) hia (grownBy_putObj' Wa _ _) (fun r e=>by cases e;exact⟨by omega,hCl Wa _ _ hla rfl⟩)
   have hkx2:Kx pre x W2:=by rw[←hW2];exact hKp pre x Wa _ _ _ hla rfl rfl hxa
   have hbW:Below n0 W W2:=hbWa.trans (by rw[←hW2];exact a1i (grownBy_putObj' Wa (D+1) _) (by omega) (fun r e=>by cases e;omega));have hs2:W2.heap.size=W.heap.size+1:=by rw[←hW2,←hsa];simp
   have hc2:∀k,C W2 k→C W k:=fun k h=>by rw[←hW2] at h;exact hca k ((hC Wa _ k _ _ hla rfl rfl).1 h)
   have hb2:∀k,k<W.heap.size→k≠D+1→W2.heap[k]? =W.heap[k]? :=fun k hk hne=>by rw[←hW2];exact (World.putObj_heap_other hne).trans (hba k hk)
   have hB2:Blk W2 W.heap.size (bx x) tb:=by rw[←hW2];exact (World.putObj_heap_other (by omega)).trans hka
   show body.wpIn (F.inRound (D+1)) (n-1-1) P _ _ (Wa.putObj (D+1) (.loop { R .ready none with state:= .busy }));rw[hW2];refine wpIn_mono (hbody _ pre x W2 W.heap.size hi2 hkx2 hB2 (by omega) (fun k hk=>by have:=hCs pre W k hi (hc2 k hk);omega) hlen) ?_;rintro e a3 W3 (⟨rfl,⟨hk,hkb⟩,hi3⟩|⟨ch,rfl,hd0,⟨hk,hkb⟩,hp3⟩)
   rotate_left
   ·exact⟨hd0,.inr ⟨ch,rfl,hp3,(hk.same _ (by omega) (hCl W2 _ _ hd2 rfl)).trans hd2⟩⟩
   have hl3:W3.heap[D+1]? =some (.loop { R .ready none with state:= .busy }):=(hk.same _ (by omega) (hCl W2 _ _ hl2 rfl)).trans hl2;have hd3:W3.heap[D]? =some (.deferred (some [])):=(hk.same _ (by omega) (hCl W2 _ _ hd2 rfl)).trans hd2;have hlt3:D+1<W3.heap.size:=(Array.getElem?_eq_some_iff.1 hl3).1;have hr:=run_endRound (P:=P) none hl3;refine⟨_,_,hr,.inl ⟨rfl,⟨?_,World.putObj_heap_same hlt3,(World.putObj_heap_other (by omega)).trans hd3⟩,⟨⟨?_,fun k hlk hnc=> ?_,fun k hc=> ?_⟩,(hbW.trans hkb).trans (a1i (grownBy_putObj' W3 (D+1) _) (by have:=hbW.size;have:=hkb.size;omega) (fun r e=>by cases e;omega))⟩⟩⟩
   ·exact hI _ W3 _ (some (D+1)) hi3 (grownBy_putObj' W3 _ _) (fun r e=>by cases e;exact⟨by omega,hCl W3 _ _ hl3 rfl⟩)
   ·have:=hk.size
    rw[hs2] at this;simp;omega
   ·by_cases hkl:k=D+1
    ·subst hkl
     rw[hl];exact World.putObj_heap_same hlt3
    ·exact (World.putObj_heap_other hkl).trans ((hk.same k (by omega) (fun h=>hnc (hc2 k h))).trans (hb2 k hlk hkl))
   ·rcases hk.mine k ((hC W3 _ k _ _ hl3 rfl rfl).1 hc) with h|h
    ·exact .inl (hc2 k h)
    ·exact .inr (by omega)
  ·rintro e W2 (⟨⟨v,rfl⟩,xs,hS,hi,hl,hd⟩|⟨ch,rfl,hp,hd⟩)
   rotate_left
   ·exact hpan D ch W2 (by omega) hp hd
   have hr:=run_endLoop (P:=P) hl (by simp[R]);refine⟨_,hr,?_⟩;exact hdone D xs _ (by omega) hS (hI _ W2 _ (some (D+1)) hi (grownBy_putObj' W2 _ _) (fun r e=>by cases e;exact⟨by omega,hCl W2 _ _ hl rfl⟩)) ((World.putObj_heap_other (by omega)).trans hd)
theorem a6r {f:FuncId}{F:Fence}{n:Nat}{P:Program}{α:Type}{g:Operand}(slot sbox:Nat)(encV:α→Value){assign body:Code}{Q:Exit→Act→World→Prop}{a:Act}{w:World}
 (hro:F.round=none) (h1:1≤n) {gf:Nat} {lb:Array Value} (hg:a.eval g= .func (.func gf) #[] lb) (hFg:F.fn gf) (eg:∀args w,(callFunc gf args).run P w= .ok (.enter gf args) w)
 {C:World→Nat→Prop} (hC:∀(W:World) (l k:Nat) (o o':Obj),W.heap[l]? =some o→a5u o=true→a5u o'=true→(C (W.putObj l o') k↔C W k)) (hCl:∀(W:World) (l:Nat) (o:Obj),W.heap[l]? =some o→a5u o=true→¬C W l)
 (hCa:∀(W:World) (k:Nat) (o:Obj),C (W.alloc o) k→a5u o=true→C W k) (hC0:∀k,C w k→k<w.heap.size)
 {n0:Nat} (hn0:n0≤w.heap.size) {Kx:List α→α→World→Prop} (hKp:∀pre x (W:World) (l:Nat) (o o':Obj),W.heap[l]? =some o→a5u o=true→a5u o'=true→Kx pre x W→Kx pre x (W.putObj l o')) {S:List α→Prop} {N:Nat} {w0:World} (hseq:d2n F (n-1) P gf lb (fun x=> #[encV x]) C n0 Kx S N w0) (hb0:Below w0.heap.size w0 w)
 (I:List α→World→Prop) (hI:∀pre A A' row,I pre A→A.grownBy A' row→(∀r,row=some r→w.heap.size≤r∧¬C A r)→I pre A') (hIC:∀pre A A' row k,I pre A→A.grownBy A' row→(∀r,row=some r→¬C A r)→C A' k→C A k) (h0:I [] w) (Ip:List PanicEntry→World→Prop) (hfs:∃x,P.funcs[f]? =some x) (hFf:F.fn f) (tb:TypeId) (bx:α→Array Value) (hKa:∀pre x (W:World) (o:Obj),Kx pre x W→Kx pre x (W.alloc o)) (hCs:∀pre W k,I pre W→C W k→k<W.heap.size)
 (hassign:∀(l:Nat) (pre:List α) (x:α) (W:World) (K:Act→World→Prop),Kx pre x W→(∀a',a'={ tmps:=(a.tmps.setIfInBounds slot (encV x)).setIfInBounds sbox (.pointer (some ⟨W.heap.size,0,none⟩)),defers:=[] }→K a' (W.alloc (.cells (bx x) tb)))→assign.wpIn (F.inRound l) (n-1-1) P (Exit.then K (fun _ _ _=>False)) { tmps:=a.tmps.setIfInBounds slot (encV x),defers:=[] } W)
 (hbody:∀(l:Nat) (pre:List α) (x:α) (W:World) (B:Nat),I pre W→Kx pre x W→Blk W B (bx x) tb→w.heap.size≤B→(∀k,C W k→k≠B)→pre.length<N→body.wpIn (F.inRound l) (n-1-1) P (fun e a' W'=>(e= .normal∧KeepP C n0 W W'∧I (pre++[x]) W')∨∃ch,e= .panic ch∧a'.defers=[]∧KeepP C n0 W W'∧Ip ch W') ({ tmps:=(a.tmps.setIfInBounds slot (encV x)).setIfInBounds sbox (.pointer (some ⟨B,0,none⟩)),defers:=[] }:Act) W)
 (hpan:∀(D:Nat) (ch:List PanicEntry) (W:World),w.heap.size≤D→Ip ch W→W.heap[D]? =some (.deferred (some []))→Q (.panic ch) { a with defers:={ target:= .collected D,args:= #[] }::a.defers } W)
 (hdone:∀(D:Nat) (xs:List α) (W:World),w.heap.size≤D→S xs→I xs W→W.heap[D]? =some (.deferred (some []))→Q .normal { a with defers:={ target:= .collected D,args:= #[] }::a.defers } W) :
 AtFn f F n P (.rangeFunc g #[slot] assign body) Q a w :=
 b4k hro h1 hg hFg eg hC hCl hCa hC0 hn0 hKp hseq hb0 (fun _=>rfl) I hI hIC h0 Ip hfs hFf tb bx hKa hCs (fun x B=>{ tmps:=(a.tmps.setIfInBounds slot (encV x)).setIfInBounds sbox (.pointer (some ⟨B,0,none⟩)),defers:=[] }) (fun l pre x W K hx hK=>by simpa using hassign l pre x W K hx fun a' ha=>ha▸hK) hbody hpan hdone
end
end Go.Proofs.YtfocdbjceedagaaGreatDoor
