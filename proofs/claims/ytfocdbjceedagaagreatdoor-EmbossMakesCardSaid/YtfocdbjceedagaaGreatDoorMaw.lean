/-
  Parts.
-/
import Derived.Test.YtfocdbjceedagaaGreatDoorMav
set_option linter.unusedVariables false
set_option linter.unusedSimpArgs false
set_option maxHeartbeats 400000
set_option maxRecDepth 100000
namespace Go.Proofs.YtfocdbjceedagaaGreatDoor
open Tryz
section
open Go Go.RowKit Go.Shelf Go.Lib
attribute [local go_sem] Oper.semAt_some
attribute [local go_sem ↓] Go.wp_at_zero Go.wp_at_succ
theorem d3g {s:Sh}(hs:OkS s){d:Dt}(h:onS s d.x d.y=true):Sm d:=by
 obtain⟨⟨h0,h1⟩,h2,h3⟩:=a6c.1 h;exact⟨oM,by have:=hs.w1;omega,oM,by have:=hs.h1;omega⟩
theorem d3h (s:Sh)(p:Pc):∀d∈(pfS s p).2,onS s d.x d.y=true:=by
 unfold pfS plF;split
 ·rename_i h
  simp only[Bool.and_eq_true,List.all_eq_true]at h;exact b5z h.2
 ·intro d hd
  simp at hd
theorem d9x (s:Sh)(ks:List (Int×List a0m)):∀d∈a1h 2 (a3r s [] ks),onS s d.x d.y=true:=by
 intro d hd;rw[a9g]at hd;exact b2h s _ [] vM _ (a9j hd)
theorem c4z {g:Int}{l o:List Dt}(hl:∀d∈l,Sm d)(ho:∀d∈o,Sm d):c4j g l o=a6f g l o:=by
 unfold c4j a6f;have:∀a∈l,o.any (a7d g a)=o.any (b5s g a):=λa ha=>by
  rw[Bool.eq_iff_iff,List.any_eq_true,List.any_eq_true];exact⟨λ⟨b,hb,h⟩=>⟨b,hb,by rw[<-b5v (hl a ha) (ho b hb)];exact h⟩,λ⟨b,hb,h⟩=>⟨b,hb,by rw[b5v (hl a ha) (ho b hb)];exact h⟩⟩
 clear hl ho;induction l with
 |nil=>rfl
 |cons x l ih =>
  rw[List.find?_cons,List.find?_cons,this x (List.mem_cons_self ..),ih λa ha=>this a (List.mem_cons_of_mem _ ha)]
theorem b6p {α:Type}{E:El α}(hE:E.Ok)(w:World)(x:α):Lst E (w.heap.size+1) (w.alloc (.cells (E.enc x).toArray E.t)) (.slice (some ⟨w.heap.size,0,none⟩) 1 1) [x]:=by
 refine⟨_,1,rfl,yR _,by simp,λj hj=> ?_⟩;obtain rfl:j=0:=by simpa using hj
 refine⟨w.heap.size,0,rfl,Nat.lt_succ_self _,λi hi=> ?_⟩;have hk:=Blk.new w (E.enc x).toArray E.t;have:=hk.cell i;rw[show(0:Nat)+0*E.s+i=i by omega,this];simp
def a3i (B:Nat)(W:World)(k:Nat):Prop:=(∃o,W.heap[k]? =some o/\o.isCells=true)/\(k=B\/∃i,i<3/\∃off len cap,W.cell? ⟨B,i,none⟩=some (.slice (some ⟨k,off,none⟩) len cap))
theorem b6q {B:Nat}{W:World}{k:Nat}(h:a3i B W k):k<W.heap.size:=by
 exact yhm
theorem b1i (B:Nat)(W:World)(l:Nat)(o:Obj)(h:W.heap[l]? =some o)(ho:o.isCells=false):¬a3i B W l:=by
 exact yhj
theorem a3j {W:World}{b i:Nat}{o:Obj}(h:W.heap[b]? =some o)(ho:o.isCells=false):W.cell? ⟨b,i,none⟩=none:=by
 unfold World.cell?;simp only[h]
 cases o <;> simp_all [Obj.isCells]
theorem a5f {W W':World}{b i:Nat}(h:W'.heap[b]? =W.heap[b]?):W'.cell? ⟨b,i,none⟩=W.cell? ⟨b,i,none⟩:=by
 unfold World.cell?;simp only[h]
theorem c9z (B:Nat)(W:World)(l k:Nat)(o o':Obj)(h:W.heap[l]? =some o)(ho:o.isCells=false)(ho':o'.isCells=false):a3i B (W.putObj l o') k↔a3i B W k:=by
 have hlt:l<W.heap.size:=(Array.getElem?_eq_some_iff.1 h).1;have hl':(W.putObj l o').heap[l]? =some o':=World.putObj_heap_same hlt;by_cases hk:k=l
 ·subst hk
  exact⟨λhc=>absurd hc (b1i B _ k o' hl' ho'),λhc=>absurd hc (b1i B W k o h ho)⟩
 ·have e1:(W.putObj l o').heap[k]? =W.heap[k]? :=World.putObj_heap_other hk
  have e2:∀i,(W.putObj l o').cell? ⟨B,i,none⟩=W.cell? ⟨B,i,none⟩:=λi=>by
   by_cases hb:B=l
   ·subst hb
    rw[a3j hl' ho',a3j h ho]
   ·exact a5f (World.putObj_heap_other hb)
  unfold a3i;simp only[e1,e2]
theorem c2q (B:Nat)(W:World)(k:Nat)(o:Obj)(h:a3i B (W.alloc o) k)(ho:o.isCells=false):a3i B W k:=by
 have hnew:(W.alloc o).heap[W.heap.size]? =some o:=World.alloc_heap_new W o;have hk:k≠W.heap.size:=λe=>b1i B _ k o (by rw[e];exact hnew) ho h
 have hlt:=b6q h;rw[World.size_alloc]at hlt;have e1:(W.alloc o).heap[k]? =W.heap[k]? :=Below.heap_alloc W o k oM;obtain⟨⟨o',h1,h2⟩,h3⟩:=h;refine⟨⟨o',e1.symm.trans h1,h2⟩,h3.imp id ?_⟩;rintro⟨i,hi,off,len,cap,hc⟩;have hb:B<(W.alloc o).heap.size:=World.block_lt_of_cell? _ _ hc;rw[World.size_alloc]at hb;by_cases hbo:B=W.heap.size
 ·rw[hbo,a3j hnew ho]at hc
  cases hc
 ·exact⟨i,hi,off,len,cap,by rw[<-a5f (Below.heap_alloc W o B oM)];exact hc⟩
theorem KeepP.trans {C:World->Nat->Prop}{n0:Nat}{a b c:World}(h:KeepP C n0 a b)(k:KeepP C n0 b c):KeepP C n0 a c :=
 ⟨⟨Nat.le_trans h.k.size k.k.size,λi hi hn=>(k.k.same i (Nat.lt_of_lt_of_le hi h.k.size) λhc=>(h.k.mine i hc).elim hn λe=>by omega).trans (h.k.same i hi hn),λi hi=>(k.k.mine i hi).elim (λhc=>h.k.mine i hc) λe=> .inr (Nat.le_trans h.k.size e)⟩,h.b.trans k.b⟩
abbrev a3s (dv kv lv:Value):Value:= .agg #[dv,kv,lv]
structure PIr (n0:Nat)(w:World)(Bp:Nat)(L:List (Nat×Array Value×TypeId))(dv kv lv:Value)(pl:Pn)(W:World):Prop where
 p:Blk W Bp #[dv,kv,lv] 45
 d:W.ownsRow n0 54 4 dv pl.dots.length (pl.dots.flatMap dtE.enc)
 k:W.ownsRow n0 82 3 kv pl.keys.length (pl.keys.flatMap keE.enc)
 l:W.ownsRow n0 68 3 lv pl.left.length (pl.left.flatMap lfE.enc)
 o:∀q∈L,Blk W q.1 q.2.1 q.2.2
 ne:∀q∈L,q.1≠Bp/\q.2.2≠54/\q.2.2≠82/\q.2.2≠68
 bp:n0<=Bp
 bel:Below n0 w W
 nw:n0<=w.heap.size
theorem PIr.hz {n0:Nat}{w:World}{Bp:Nat}{L:List (Nat×Array Value×TypeId)}{dv kv lv:Value}{pl:Pn}{W:World}(h:PIr n0 w Bp L dv kv lv pl W):n0<=W.heap.size:=Nat.le_trans h.nw h.bel.size
section
variable {n0 Bp:Nat}{w W W':World}{L:List (Nat×Array Value×TypeId)}{dv kv lv:Value}{pl:Pn}
theorem PIr.row_c (h:PIr n0 w Bp L dv kv lv pl W){k:Nat}(hk:dv.ownBlock=some k\/kv.ownBlock=some k\/lv.ownBlock=some k):a3i Bp W k:=by
 have hr:∀ {v:Value} {e:TypeId} {s n:Nat} {xs:List Value} {i:Nat},W.ownsRow n0 e s v n xs->#[dv,kv,lv][i]? =some v->i<3->v.ownBlock=some k->a3i Bp W k:=λ{v e s n xs i} hw hi hlt hv=>by
  rcases hw.2 with⟨rfl,-⟩|⟨g,cap,cur,rfl,-,hg,-⟩
  ·cases hv
  ·cases hv
   exact⟨⟨_,hg,rfl⟩,.inr ⟨i,hlt,0,_,cap,(h.p.cell i).trans hi⟩⟩
 rcases hk with hk|hk|hk
 ·exact hr h.d (i:=0) rfl oM hk
 ·exact hr h.k (i:=1) rfl oM hk
 ·exact hr h.l (i:=2) rfl oM hk
theorem PIr.box_c (h:PIr n0 w Bp L dv kv lv pl W):a3i Bp W Bp:=⟨⟨_,h.p,rfl⟩,.inl rfl⟩
theorem PIr.c_row (h:PIr n0 w Bp L dv kv lv pl W)(hp:Blk W' Bp #[dv,kv,lv] 45){k:Nat}(hc:a3i Bp W' k):k=Bp\/dv.ownBlock=some k\/kv.ownBlock=some k\/lv.ownBlock=some k:=by
 have hz:∀ {v:Value} {e:TypeId} {s n:Nat} {xs:List Value},W.ownsRow n0 e s v n xs->∀ {off len cap:Nat},v= .slice (some ⟨k,off,none⟩) len cap->v.ownBlock=some k:=λ{v e s n xs} hw {off len cap} hv=>by
  rcases hw.2 with⟨rfl,-⟩|⟨g,cap',cur,rfl,-⟩
  ·cases hv
  ·simp only[Value.slice.injEq,Option.some.injEq,Addr.mk.injEq]at hv
   rw[<-hv.1.1];rfl
 obtain⟨-,rfl|⟨i,hi,off,len,cap,hcell⟩⟩:=hc
 ·exact .inl rfl
 ·rw[hp.cell i]at hcell
  match i,hi with
  |0,_=>exact .inr (.inl (hz h.d (by simpa using hcell)))
  |1,_=>exact .inr (.inr (.inl (hz h.k (by simpa using hcell))))
  |2,_=>exact .inr (.inr (.inr (hz h.l (by simpa using hcell))))
theorem PIr.keep_row (h:PIr n0 w Bp L dv kv lv pl W){row:Option Nat}(hg:W.grownBy W' row)(hr:∀r,row=some r->n0<=r/\r≠Bp/\dv.ownBlock≠some r/\kv.ownBlock≠some r/\lv.ownBlock≠some r)(ho:∀q∈L,some q.1≠row):PIr n0 w Bp L dv kv lv pl W':=by
 have hk:∀ {v:Value} {e:TypeId} {s n:Nat} {xs:List Value},W.ownsRow n0 e s v n xs->(∀r,row=some r->v.ownBlock≠some r)->W'.ownsRow n0 e s v n xs:=λ{v e s n xs} hw hv=>hw.kept hg (by
  cases hb:v.ownBlock with
  |none=>exact .inl rfl
  |some b=>exact .inr λe=>hv b e.symm hb)
 exact⟨h.p.kept hg (λe=>(hr Bp e).2.1 rfl),hk h.d λr e=>(hr r e).2.2.1,hk h.k λr e=>(hr r e).2.2.2.1,hk h.l λr e=>(hr r e).2.2.2.2,λq hq=>(h.o q hq).kept hg (λe=>ho q hq e.symm),h.ne,h.bp,h.bel.grown hg h.hz (λr e=>(hr r e).1),h.nw⟩
theorem PIr.below (h:PIr n0 w Bp L dv kv lv pl W)(hb:Below W.heap.size W W'):PIr n0 w Bp L dv kv lv pl W':=h.keep_row (a2f none hb) (λr e=>by cases e) (λq _ e=>by cases e)
theorem PIr.keepP (h:PIr n0 w Bp L dv kv lv pl W)(hb:Below W.heap.size W W'):KeepP (a3i Bp) n0 W W':=by
 have h':=h.below hb;have hk:∀ {v:Value} {e:TypeId} {s n:Nat} {xs:List Value} {k:Nat},W.ownsRow n0 e s v n xs->v.ownBlock=some k->∃o,W.heap[k]? =some o/\o.isCells=true:=λ{v e s n xs k} hw hv=>by
  rcases hw.2 with⟨rfl,-⟩|⟨g,cap,cur,rfl,-,hg,-⟩
  ·cases hv
  ·cases hv
   exact⟨_,hg,rfl⟩
 refine⟨⟨hb.size,λk hk _=>hb.block k hk,λk hc=> .inl ?_⟩,hb.mono h.hz⟩;rcases h.c_row h'.p hc with rfl|hk
 ·exact h.box_c
 ·exact h.row_c hk
theorem PIr.add_dots (h:PIr n0 w Bp L dv kv lv pl W){v':Value}{l2:List Dt}(hg:W.grownBy W' dv.ownBlock)(hr:W'.ownsRow n0 54 4 v' (pl.dots++l2).length ((pl.dots++l2).flatMap dtE.enc))(hv:v'.ownBlock=dv.ownBlock\/∃b,v'.ownBlock=some b/\W.heap.size<=b) :
 Blk W' Bp #[dv,kv,lv] 45/\PIr n0 w Bp L v' kv lv { pl with dots:=pl.dots++l2 } (W'.setCell ⟨Bp,0,none⟩ v')/\KeepP (a3i Bp) n0 W (W'.setCell ⟨Bp,0,none⟩ v'):=by
 have hlo:∀r,dv.ownBlock=some r->n0<=r/\r<W.heap.size:=λr e=>h.d.lt r e
 have kp:Blk W' Bp #[dv,kv,lv] 45:=h.p.kept hg (λe=>a0o h.d h.p jM e);have hg2:=a0u W' Bp 0 v';have hobj:∀r,dv.ownBlock=some r->∃cur,W.heap[r]? =some (.cells cur 54 (0,0)):=λr e=>by
  rcases h.d.2 with⟨rfl,-⟩|⟨g,cap,cur,rfl,-,hgg,-⟩
  ·cases e
  ·cases e
   exact⟨cur,hgg⟩
 have r_kv:W'.ownsRow n0 82 3 kv pl.keys.length (pl.keys.flatMap keE.enc):=a0r h.k hg λr e=>by
  exact ycb
 have r_lv:W'.ownsRow n0 68 3 lv pl.left.length (pl.left.flatMap lfE.enc):=a0r h.l hg λr e=>by
  exact ycb
 have hsz:Bp<W'.heap.size:=kp.lt;have bx:∀r,some Bp=some r->∃o:Obj,W'.heap[r]? =some o/\∀(cur:Array Value) (e:TypeId),e≠45->o≠.cells cur e (0,0):=λr e=>by
  exact yfl
 have tn:∀ {v:Value} {e:TypeId} {s n:Nat} {xs:List Value},W'.ownsRow n0 e s v n xs->e≠45->(W'.setCell ⟨Bp,0,none⟩ v').ownsRow n0 e s v n xs:=λ{v e s n xs} hw he=>a0r hw hg2 λr er=>by
  exact yhy
 have hP:PIr n0 w Bp L v' kv lv { pl with dots:=pl.dots++l2 } (W'.setCell ⟨Bp,0,none⟩ v'):=by
  refine⟨kp.set 0 v',tn hr jM,tn r_kv jM,tn r_lv jM,λq hq=> ?_,h.ne,h.bp,?_,h.nw⟩
  ·have h1:=h.ne q hq
   refine((h.o q hq).kept hg (λe=> ?_)).kept hg2 (λe=> ?_)
   ·obtain⟨cur,hc⟩:=hobj _ e
    have h2:=h.o q hq;unfold Blk at h2;rw[hc]at h2;simp only[Option.some.injEq,Obj.cells.injEq]at h2;exact absurd h2.2.1.symm h1.2.1
   ·cases e
    exact h1.1 rfl
  ·exact yev
 refine⟨kp,hP,⟨⟨Nat.le_trans hg.size hg2.size,λk hk hn=> ?_,λk hc=> ?_⟩,?_⟩⟩
 ·exact(hg2.block k (Nat.lt_of_lt_of_le hk hg.size) λe=>hn (by cases e;exact h.box_c)).trans (hg.block k hk λe=>hn (h.row_c (.inl e.symm)))
 ·rcases hP.c_row hP.p hc with rfl|hk
  ·exact .inl h.box_c
  ·have hold:dv.ownBlock=some k\/kv.ownBlock=some k\/lv.ownBlock=some k->a3i Bp W k:=h.row_c
   have hnew:v'.ownBlock=some k->a3i Bp W k\/W.heap.size<=k:=λe=>by
    rcases hv with h1|⟨b,h1,h2⟩
    ·exact .inl (hold (.inl (h1▸e)))
    ·exact yjv
   rcases hk with hk|hk|hk
   ·exact hnew hk
   ·exact .inl (hold (.inr (.inl hk)))
   ·exact .inl (hold (.inr (.inr hk)))
 ·exact ydz
theorem PIr.add_keys (h:PIr n0 w Bp L dv kv lv pl W){v':Value}{l2:List Ke}(hg:W.grownBy W' kv.ownBlock)(hr:W'.ownsRow n0 82 3 v' (pl.keys++l2).length ((pl.keys++l2).flatMap keE.enc))(hv:v'.ownBlock=kv.ownBlock\/∃b,v'.ownBlock=some b/\W.heap.size<=b) :
 Blk W' Bp #[dv,kv,lv] 45/\PIr n0 w Bp L dv v' lv { pl with keys:=pl.keys++l2 } (W'.setCell ⟨Bp,1,none⟩ v')/\KeepP (a3i Bp) n0 W (W'.setCell ⟨Bp,1,none⟩ v'):=by
 have hlo:∀r,kv.ownBlock=some r->n0<=r/\r<W.heap.size:=λr e=>h.k.lt r e
 have kp:Blk W' Bp #[dv,kv,lv] 45:=h.p.kept hg (λe=>a0o h.k h.p jM e);have hg2:=a0u W' Bp 1 v';have hobj:∀r,kv.ownBlock=some r->∃cur,W.heap[r]? =some (.cells cur 82 (0,0)):=λr e=>by
  rcases h.k.2 with⟨rfl,-⟩|⟨g,cap,cur,rfl,-,hgg,-⟩
  ·cases e
  ·cases e
   exact⟨cur,hgg⟩
 have r_dv:W'.ownsRow n0 54 4 dv pl.dots.length (pl.dots.flatMap dtE.enc):=a0r h.d hg λr e=>by
  exact ycb
 have r_lv:W'.ownsRow n0 68 3 lv pl.left.length (pl.left.flatMap lfE.enc):=a0r h.l hg λr e=>by
  exact ycb
 have hsz:Bp<W'.heap.size:=kp.lt;have bx:∀r,some Bp=some r->∃o:Obj,W'.heap[r]? =some o/\∀(cur:Array Value) (e:TypeId),e≠45->o≠.cells cur e (0,0):=λr e=>by
  exact yfl
 have tn:∀ {v:Value} {e:TypeId} {s n:Nat} {xs:List Value},W'.ownsRow n0 e s v n xs->e≠45->(W'.setCell ⟨Bp,1,none⟩ v').ownsRow n0 e s v n xs:=λ{v e s n xs} hw he=>a0r hw hg2 λr er=>by
  exact yhy
 have hP:PIr n0 w Bp L dv v' lv { pl with keys:=pl.keys++l2 } (W'.setCell ⟨Bp,1,none⟩ v'):=by
  refine⟨kp.set 1 v',tn r_dv jM,tn hr jM,tn r_lv jM,λq hq=> ?_,h.ne,h.bp,?_,h.nw⟩
  ·have h1:=h.ne q hq
   refine((h.o q hq).kept hg (λe=> ?_)).kept hg2 (λe=> ?_)
   ·obtain⟨cur,hc⟩:=hobj _ e
    have h2:=h.o q hq;unfold Blk at h2;rw[hc]at h2;simp only[Option.some.injEq,Obj.cells.injEq]at h2;exact absurd h2.2.1.symm h1.2.2.1
   ·cases e
    exact h1.1 rfl
  ·exact yev
 refine⟨kp,hP,⟨⟨Nat.le_trans hg.size hg2.size,λk hk hn=> ?_,λk hc=> ?_⟩,?_⟩⟩
 ·exact(hg2.block k (Nat.lt_of_lt_of_le hk hg.size) λe=>hn (by cases e;exact h.box_c)).trans (hg.block k hk λe=>hn (h.row_c (.inr (.inl e.symm))))
 ·rcases hP.c_row hP.p hc with rfl|hk
  ·exact .inl h.box_c
  ·have hold:dv.ownBlock=some k\/kv.ownBlock=some k\/lv.ownBlock=some k->a3i Bp W k:=h.row_c
   have hnew:v'.ownBlock=some k->a3i Bp W k\/W.heap.size<=k:=λe=>by
    rcases hv with h1|⟨b,h1,h2⟩
    ·exact .inl (hold (.inr (.inl (h1▸e))))
    ·exact yjv
   rcases hk with hk|hk|hk
   ·exact .inl (hold (.inl hk))
   ·exact hnew hk
   ·exact .inl (hold (.inr (.inr hk)))
 ·exact ydz
theorem PIr.add_left (h:PIr n0 w Bp L dv kv lv pl W){v':Value}{l2:List Lf}(hg:W.grownBy W' lv.ownBlock)(hr:W'.ownsRow n0 68 3 v' (pl.left++l2).length ((pl.left++l2).flatMap lfE.enc))(hv:v'.ownBlock=lv.ownBlock\/∃b,v'.ownBlock=some b/\W.heap.size<=b) :
 Blk W' Bp #[dv,kv,lv] 45/\PIr n0 w Bp L dv kv v' { pl with left:=pl.left++l2 } (W'.setCell ⟨Bp,2,none⟩ v')/\KeepP (a3i Bp) n0 W (W'.setCell ⟨Bp,2,none⟩ v'):=by
 have hlo:∀r,lv.ownBlock=some r->n0<=r/\r<W.heap.size:=λr e=>h.l.lt r e
 have kp:Blk W' Bp #[dv,kv,lv] 45:=h.p.kept hg (λe=>a0o h.l h.p jM e);have hg2:=a0u W' Bp 2 v';have hobj:∀r,lv.ownBlock=some r->∃cur,W.heap[r]? =some (.cells cur 68 (0,0)):=λr e=>by
  rcases h.l.2 with⟨rfl,-⟩|⟨g,cap,cur,rfl,-,hgg,-⟩
  ·cases e
  ·cases e
   exact⟨cur,hgg⟩
 have r_dv:W'.ownsRow n0 54 4 dv pl.dots.length (pl.dots.flatMap dtE.enc):=a0r h.d hg λr e=>by
  exact ycb
 have r_kv:W'.ownsRow n0 82 3 kv pl.keys.length (pl.keys.flatMap keE.enc):=a0r h.k hg λr e=>by
  exact ycb
 have hsz:Bp<W'.heap.size:=kp.lt;have bx:∀r,some Bp=some r->∃o:Obj,W'.heap[r]? =some o/\∀(cur:Array Value) (e:TypeId),e≠45->o≠.cells cur e (0,0):=λr e=>by
  exact yfl
 have tn:∀ {v:Value} {e:TypeId} {s n:Nat} {xs:List Value},W'.ownsRow n0 e s v n xs->e≠45->(W'.setCell ⟨Bp,2,none⟩ v').ownsRow n0 e s v n xs:=λ{v e s n xs} hw he=>a0r hw hg2 λr er=>by
  exact yhy
 have hP:PIr n0 w Bp L dv kv v' { pl with left:=pl.left++l2 } (W'.setCell ⟨Bp,2,none⟩ v'):=by
  refine⟨kp.set 2 v',tn r_dv jM,tn r_kv jM,tn hr jM,λq hq=> ?_,h.ne,h.bp,?_,h.nw⟩
  ·have h1:=h.ne q hq
   refine((h.o q hq).kept hg (λe=> ?_)).kept hg2 (λe=> ?_)
   ·obtain⟨cur,hc⟩:=hobj _ e
    have h2:=h.o q hq;unfold Blk at h2;rw[hc]at h2;simp only[Option.some.injEq,Obj.cells.injEq]at h2;exact absurd h2.2.1.symm h1.2.2.2
   ·cases e
    exact h1.1 rfl
  ·exact yev
 refine⟨kp,hP,⟨⟨Nat.le_trans hg.size hg2.size,λk hk hn=> ?_,λk hc=> ?_⟩,?_⟩⟩
 ·exact(hg2.block k (Nat.lt_of_lt_of_le hk hg.size) λe=>hn (by cases e;exact h.box_c)).trans (hg.block k hk λe=>hn (h.row_c (.inr (.inr e.symm))))
 ·rcases hP.c_row hP.p hc with rfl|hk
  ·exact .inl h.box_c
  ·have hold:dv.ownBlock=some k\/kv.ownBlock=some k\/lv.ownBlock=some k->a3i Bp W k:=h.row_c
   have hnew:v'.ownBlock=some k->a3i Bp W k\/W.heap.size<=k:=λe=>by
    rcases hv with h1|⟨b,h1,h2⟩
    ·exact .inl (hold (.inr (.inr (h1▸e))))
    ·exact yjv
   rcases hk with hk|hk|hk
   ·exact .inl (hold (.inl hk))
   ·exact .inl (hold (.inr (.inl hk)))
   ·exact hnew hk
 ·exact ydz
end
def wdF (s:Sh)(ws:List Wy):List Dt:=a1h 2 (a3r s [] (ws.map Wy.key))
abbrev a2k (s:Sh)(ws:List Wy)(qs:List Pc):Pn:=b0s s.g (pfS s) a7e (wdF s ws) qs
structure PlanIn (W:World)(v:Value)(pl:Pn):Prop where
 ex:∃dv kv lv,v=a3s dv kv lv/\(Lst dtE W.heap.size W dv pl.dots/\Frm dv pl.dots.length)/\(Lst keE W.heap.size W kv pl.keys/\Frm kv pl.keys.length)/\Lst lfE W.heap.size W lv pl.left/\Frm lv pl.left.length
theorem a8t (s:Sh)(ws:List Wy)(qs:List Pc):(a2k s ws qs).dots.length<=(wdF s ws).length+33*qs.length/\(a2k s ws qs).keys.length<=qs.length/\(a2k s ws qs).left.length<=qs.length:=by
 refine b1d (Q:=λqs=>(a2k s ws qs).dots.length<=(wdF s ws).length+33*qs.length/\(a2k s ws qs).keys.length<=qs.length/\(a2k s ws qs).left.length<=qs.length) ?_ ?_ qs
 ·simp[a2k,b0s]
 ·rintro qs p⟨h1,h2,h3⟩
  unfold a2k at h1 h2 h3 ⊢;rw[a6u];have hp:=b2z s p;have hk:(a7e p).length<=1:=by unfold a7e;cases d1k p <;> simp
  unfold a2y;split <;> simp only[List.length_append,List.length_cons,List.length_nil] <;> omega
theorem a7l {s:Sh}(hs:OkS s)(ws:List Wy):(wdF s ws).length<=6480:=by
 unfold wdF;rw[a4i];exact b0a hs _
theorem c2r {s:Sh}(hs:OkS s)(ws:List Wy)(qs:List Pc):∀d∈(a2k s ws qs).dots,Sm d:=λd hd=>by
 rcases c8n _ _ d hd with h|⟨p,-,h⟩
 ·exact d3g hs (d9x s _ d h)
 ·exact d3g hs (d3h s p d h)
theorem KxC.alloc {s:Sh}{ps:List Pc}{pre:List (Pc×Value)}{x:Pc×Value}{W:World}(o:Obj)(h:KxC s ps pre x W):KxC s ps pre x (W.alloc o) :=
 ⟨h.1,h.2.1.up ((zR _ _).alloc (yR _) _),h.2.2⟩
theorem b6r {W:World}{base b2:Nat}{e:TypeId}{s:Nat}{v:Value}{n:Nat}{xs:List Value}(h:W.ownsRow base e s v n xs)(hb:b2<=base):W.ownsRow b2 e s v n xs :=
 ⟨h.1,h.2.imp id λ⟨g,cap,cur,e1,h1,h2⟩=>⟨g,cap,cur,e1,Nat.le_trans hb h1,h2⟩⟩
def PlI (n0:Nat)(w:World)(Bp:Nat)(L:List (Nat×Array Value×TypeId))(s:Sh)(ws:List Wy)(pre:List (Pc×Value))(W:World):Prop:=∃dv kv lv,PIr n0 w Bp L dv kv lv (a2k s ws (pre.map Prod.fst)) W
section
variable {n0 Bp:Nat}{w W W':World}{L:List (Nat×Array Value×TypeId)}{s:Sh}{ws:List Wy}{pre:List (Pc×Value)}
theorem PlI.turn (h:PlI n0 w Bp L s ws pre W){Z:Nat}(hz:n0<=Z)(hL:∀q∈L,q.1<Z){row:Option Nat}(hg:W.grownBy W' row)(hr:∀r,row=some r->Z<=r/\¬a3i Bp W r):PlI n0 w Bp L s ws pre W':=by
 obtain⟨dv,kv,lv,h⟩:=h;refine⟨dv,kv,lv,h.keep_row hg (λr e=> ?_) (λq hq e=> ?_)⟩
 ·have h1:=hr r e
  exact⟨Nat.le_trans hz h1.1,λe=>h1.2 (e▸h.box_c),λe=>h1.2 (h.row_c (.inl e)),λe=>h1.2 (h.row_c (.inr (.inl e))),λe=>h1.2 (h.row_c (.inr (.inr e)))⟩
 ·have:=(hr _ e.symm).1
  have:=hL q hq;omega
theorem PlI.mine (h:PlI n0 w Bp L s ws pre W){row:Option Nat}{k:Nat}(hg:W.grownBy W' row)(hr:∀r,row=some r->¬a3i Bp W r)(hc:a3i Bp W' k):a3i Bp W k:=by
 obtain⟨dv,kv,lv,h⟩:=h;rcases h.c_row (h.p.kept hg (λe=>hr _ e h.box_c)) hc with rfl|hk
 ·exact h.box_c
 ·exact h.row_c hk
end
def a7v (s:Sh)(n:Nat):List (Nat×Array Value×TypeId):=[(n+1,#[.int .i64 s.ax,.int .i64 s.ay,.int .i64 s.st,.int .i64 s.w,.int .i64 s.h,.int .i64 s.g],28),(n+1+1,#[.slice none 0 0,.slice none 0 0,.slice none 0 0],45)]
theorem a6r {s:Sh}{n:Nat}{Q:Nat×Array Value×TypeId->Prop}(h1:Q (n+1,#[.int .i64 s.ax,.int .i64 s.ay,.int .i64 s.st,.int .i64 s.w,.int .i64 s.h,.int .i64 s.g],28))(h2:Q (n+1+1,#[.slice none 0 0,.slice none 0 0,.slice none 0 0],45)):∀q∈a7v s n,Q q:=by
 intro q hq;unfold a7v at hq;rw[List.mem_cons,List.mem_singleton]at hq;rcases hq with rfl|rfl
 ·exact h1
 ·exact h2
theorem b4z (s:Sh)(f0:fits s.ax)(f1:fits s.ay)(hs:a1g s=0)(ev fv wv pv:Value)(l:List Pc)(ws:List Wy)(w:World)(hL:Lst plE w.heap.size w pv l)(hF:Frm pv l.length)(hl:l.length<=80)(hok:∀p∈l,PcOk p/\p.cls.size<=1000)
 (hW:Wys w.heap.size w wv ws) (hid:∀y∈ws,fits y.id) (hlen:ws.length<=100) (hpl:∀y∈ws,y.line.length<=100) (hPow:∀W,Below w.heap.size w W->Pow W) :
 Calls prog 10 #[b7q ev fv wv pv,shV s] w λe w'=>∃v,e= .returned (.tuple #[v,.int .i64 0])/\PlanIn w' v (a2k s ws (a0t l))/\Below w.heap.size w w':=by
 have hsk:=a4h hs;have hBg:=λpa pc w=>a8q s ev fv wv pa l.length pc w f0 f1
 unfold a3c at hBg;rw[if_pos hs,if_neg oM]at hBg;obtain⟨pa,pc,rfl,-⟩:=hL.form;refine(callsIn_wide (n:=3)).1 ?_;refine callsIn_of_wp_marks func10 rfl trivial ?_ rfl;simp only[ntmps10,List.size_toArray,List.length_cons,List.length_nil,Nat.reduceAdd,Nat.reduceSub,Array.replicate_succ,Array.replicate_zero,List.push_toArray,List.append_toArray,List.nil_append,List.cons_append];refine wpIn_wide.2 ?_;have hWy:=λw4 (hb:Below w.heap.size w w4)=>(callsIn_wide (n:=3)).1 (c8s s wv ws w4 hs hid (hW.up hb hb.size) hlen hpl)
 have hCa:=λw4=>a4t s ev fv wv (.slice pa l.length pc) w4
 go_upto_region 5 with(first
  |(go_at_call 33;(with_reducible refine(hBg _ _ _).mono ?_);rintro e W1⟨rfl,hb1⟩
    have k1:=(((Blk.new w #[ev,fv,wv,.slice pa l.length pc] 37).alloc (.cells #[.int .i64 s.ax,.int .i64 s.ay,.int .i64 s.st,.int .i64 s.w,.int .i64 s.h,.int .i64 s.g] 28)).alloc (.cells #[.slice none 0 0,.slice none 0 0,.slice none 0 0] 45)).below hb1 uM;have k2:=((Blk.new (w.alloc (.cells #[ev,fv,wv,.slice pa l.length pc] 37)) #[.int .i64 s.ax,.int .i64 s.ay,.int .i64 s.st,.int .i64 s.w,.int .i64 s.h,.int .i64 s.g] 28).alloc (.cells #[.slice none 0 0,.slice none 0 0,.slice none 0 0] 45)).below hb1 vM;have k3:=(Blk.new ((w.alloc (.cells #[ev,fv,wv,.slice pa l.length pc] 37)).alloc (.cells #[.int .i64 s.ax,.int .i64 s.ay,.int .i64 s.st,.int .i64 s.w,.int .i64 s.h,.int .i64 s.g] 28)) #[.slice none 0 0,.slice none 0 0,.slice none 0 0] 45).below hb1 vM;have hw1:Below w.heap.size w W1:=((((zR _ _).alloc (yR _) _).alloc vM _).alloc uM _).trans (hb1.mono uM);have hz1:=hb1.size;simp only[World.size_alloc]at k1 k2 k3 hz1;clear hb1;obtain⟨m0,m1,m2,m3⟩:=zN4 k1;obtain⟨s0,s1,s2,s3,s4,s5⟩:W1.cell? ⟨w.heap.size+1,0,none⟩=some (.int .i64 s.ax)/\W1.cell? ⟨w.heap.size+1,1,none⟩=some (.int .i64 s.ay)/\W1.cell? ⟨w.heap.size+1,2,none⟩=some (.int .i64 s.st)/\W1.cell? ⟨w.heap.size+1,3,none⟩=some (.int .i64 s.w)/\W1.cell? ⟨w.heap.size+1,4,none⟩=some (.int .i64 s.h)/\W1.cell? ⟨w.heap.size+1,5,none⟩=some (.int .i64 s.g):=⟨k2.cell 0,k2.cell 1,k2.cell 2,k2.cell 3,k2.cell 4,k2.cell 5⟩)
  |(go_at_call 34;(with_reducible refine(hWy _ hw1).mono ?_);rintro e W2⟨v,base,rfl,hbase,hrow,hb2⟩
    clear m0 m1 m2 m3 s0 s1 s2 s3 s4 s5;obtain⟨va,vc,rfl⟩:∃a c,v= .slice a (wdF s ws).length c:=by
     obtain⟨a,c,h,-⟩:=(a0h a8a hrow (by have:=a7l hsk ws;unfold wdF at this;omega)).form;exact⟨a,c,h⟩))
 have hz2:=hb2.size;have k1':=(k1.below hb2 k1.lt).alloc (.cells #[.slice va (wdF s ws).length vc,.slice none 0 0,.slice none 0 0] 45);have k2':=(k2.below hb2 k2.lt).alloc (.cells #[.slice va (wdF s ws).length vc,.slice none 0 0,.slice none 0 0] 45);have k3':=(k3.below hb2 k3.lt).alloc (.cells #[.slice va (wdF s ws).length vc,.slice none 0 0,.slice none 0 0] 45);have k4':=Blk.new W2 #[.slice va (wdF s ws).length vc,.slice none 0 0,.slice none 0 0] 45;have hrow':=(b6r hrow (Nat.le_trans hw1.size hbase)).alloc (.cells #[.slice va (wdF s ws).length vc,.slice none 0 0,.slice none 0 0] 45);have hw2:Below w.heap.size w (W2.alloc (.cells #[.slice va (wdF s ws).length vc,.slice none 0 0,.slice none 0 0] 45)):=(hw1.trans (hb2.mono hw1.size)).alloc (Nat.le_trans hw1.size hz2) _;obtain⟨W3,hW3⟩:=zE (W2.alloc (.cells #[.slice va (wdF s ws).length vc,.slice none 0 0,.slice none 0 0] 45));have hz3:W3.heap.size=W2.heap.size+1:=by rw[<-hW3];simp
 rw[hW3]at k1' k2' k3' k4' hrow' hw2 ⊢;clear hW3 k1 k2 k3 hrow hb2 hWy hBg;obtain⟨Bp,hBp⟩:=zE W2.heap.size;rw[hBp]at k4' hz3 hz2 ⊢;have hP0:PIr w.heap.size w Bp (a7v s w.heap.size) (.slice va (wdF s ws).length vc) (.slice none 0 0) (.slice none 0 0) (a2k s ws []) W3:=by
  refine⟨k4',hrow',⟨rfl,.inl ⟨rfl,rfl⟩⟩,⟨rfl,.inl ⟨rfl,rfl⟩⟩,a6r k2' k3',a6r ⟨by show w.heap.size+1≠Bp;omega,show(28:Nat)≠54 by decide,show(28:Nat)≠82 by decide,show(28:Nat)≠68 by decide⟩ ⟨by show w.heap.size+1+1≠Bp;omega,show(45:Nat)≠54 by decide,show(45:Nat)≠82 by decide,show(45:Nat)≠68 by decide⟩,oM,hw2,yR _⟩
 obtain⟨m0,m1,m2,m3⟩:=zN4 k1';obtain⟨s0,s1,s2,s3,s4,s5⟩:=zN6 k2';go_wp2_with (first
  |(go_at_call 35;(with_reducible refine(hCa _).mono ?_);rintro e W5⟨rfl,km,ks,hb5⟩))
 rw[hz3]at km ks;have hw5:Below w.heap.size w W5:=hw2.trans (hb5.mono hw2.size);have hP5:=hP0.below hb5;have hz5:=hb5.size;clear hP0 m0 m1 m2 m3 s0 s1 s2 s3 s4 s5 k1' k2' k3' k4' hrow' hb5 hCa;have hZ:∀q∈a7v s w.heap.size,q.1<W5.heap.size:=a6r (by show w.heap.size+1<_;omega) (by show w.heap.size+1+1<_;omega);have hseq:=b6n 2 oM s f0 f1 ev fv wv (.slice pa l.length pc) l oM hok (a3i Bp) w.heap.size W5 (Bp+1) (Bp+1+1) km ks (hL.up hw5) hF hw5.size
  (λW k hb hc=>by
   have hPW:=hP5.below hb;have hk1:=km.below hb km.lt;have hk2:=ks.below hb ks.lt;rcases hP5.c_row hPW.p hc with rfl|hk
   ·exact⟨oM,oM⟩
   ·refine⟨λe=> ?_,λe=> ?_⟩
    ·subst e
     exact hk.elim (a0o hP5.d km jM) λhk=>hk.elim (a0o hP5.k km jM) (a0o hP5.l km jM)
    ·subst e
     exact hk.elim (a0o hP5.d ks jM) λhk=>hk.elim (a0o hP5.k ks jM) (a0o hP5.l ks jM))
  (λW hb=>hPow W (hw5.trans (hb.mono (yR _))))
 refine(wpIn_wide (n:=3)).1 (a8r (α:=Pc×Value) 28 8 (λx=>d8l s x) rfl oM rfl trivial (enters_of func84 zM rfl) (λW l k o o' h1 h2 h3=>c9z Bp W l k o o' h1 (a1o h2) (a1o h3)) (λW l o h1 h2=>b1i Bp W l o h1 (a1o h2)) (λW k o h1 h2=>c2q Bp W k o h1 (a1o h2)) (λk=>b6q) (n0:=w.heap.size) hw5.size (Kx:=KxC s (a0t l)) (λpre x W l o o' h1 h2 h3=>KxC.put h1 (a1o h2) (a1o h3)) (S:=λxs=>xs.map Prod.fst=a0t l) (N:=101) (w0:=W5) hseq (zR _ _)
  (λpre W=>PlI w.heap.size w Bp (a7v s w.heap.size) s ws pre W) (λpre A A' row h hg hr=>h.turn hw5.size hZ hg hr) (λpre A A' row k h hg hr hc=>h.mine hg hr hc) ⟨_,_,_,hP5⟩ (λ_ _=>False) (λ_ _ h=>h.elim) 92 (λx=> #[.int .i64 x.1.id,.int .i64 x.1.x,.int .i64 x.1.y,.string x.1.cls,.string x.1.nm,.int .i64 x.1.wt,.int .i64 x.1.ds,x.2,.bool (pfS s x.1).1]) (λpre x W o h=>h.alloc o) (λpre W k h hc=>b6q hc) ?assign ?body (λ_ _ _ _ h=>h.elim) ?done)
 case assign =>
  exact ycp
 case body =>
  clear hseq km ks hP5;rintro ly pre⟨⟨id,x,y,cls,nm,wt,ds⟩,xv⟩ W B ⟨dv,kv,lv,hP⟩ ⟨⟨rs,hsp⟩,hdl,hdf⟩ hB hBge hBne hlt;have hpm:(⟨id,x,y,cls,nm,wt,ds⟩:Pc)∈a0t l:=by rw[hsp];simp
  obtain⟨hpo,hpc⟩:=hok _ ((a1c l).mem_iff.1 hpm);obtain⟨hl1,hl2,hl3⟩:=a8t s ws (pre.map Prod.fst);have hwl:=a7l hsk ws;have hsm:=c2r hsk ws (pre.map Prod.fst);have hps:=d3h s ⟨id,x,y,cls,nm,wt,ds⟩;have hpl33:=b2z s ⟨id,x,y,cls,nm,wt,ds⟩;have hst:a2k s ws ((pre++[((⟨id,x,y,cls,nm,wt,ds⟩:Pc),xv)]).map Prod.fst)=a2y s.g (pfS s) a7e (a2k s ws (pre.map Prod.fst)) ⟨id,x,y,cls,nm,wt,ds⟩:=by
   rw[List.map_append];exact a6u (g:=s.g) (pf:=pfS s) (kf:=a7e) (wdF s ws) (pre.map Prod.fst) _
  obtain⟨pl,hpl⟩:=zE (a2k s ws (pre.map Prod.fst));rw[hpl]at hl1 hl2 hl3 hsm hP hst;rw[List.length_map]at hl1 hl2 hl3;unfold PlI;rw[hst];unfold a2y d5e;clear hst hpl;obtain⟨⟨on,dl⟩,hpf⟩:∃r,pfS s ⟨id,x,y,cls,nm,wt,ds⟩=r:=⟨_,rfl⟩;simp only[hpf]at hB hdl hdf hps hpl33 ⊢;obtain⟨xa,xc,rfl,-⟩:=hdl.form;obtain⟨da,dc,hdv,-⟩:=(a0h a8a hP.d oM).form;obtain⟨ka,kc,hkv,-⟩:=(a0h c1q hP.k oM).form;obtain⟨la,lc,hlv,-⟩:=(a0h b8j hP.l oM).form;subst hdv hkv hlv;have hzW:=hP.hz;have b0:W.cell? ⟨B,0,none⟩=some (.int .i64 id):=hB.cell 0;have b7:W.cell? ⟨B,7,none⟩=some (.slice xa dl.length xc):=hB.cell 7;have b8:W.cell? ⟨B,8,none⟩=some (.bool on):=hB.cell 8;have p0:W.cell? ⟨Bp,0,none⟩=some (.slice da pl.dots.length dc):=hP.p.cell 0;have p2:W.cell? ⟨Bp,2,none⟩=some (.slice la pl.left.length lc):=hP.p.cell 2
  cases on
  ·rw[if_neg jM]
   gi_wp2_with (first
    |(gi_at_builtin;refine El.allIn b8j d9e qM _ _ qM w.heap.size qM pl.left (hP.l.alloc _) [⟨id,0,0⟩] qM (b6p b8j W ⟨id,0,0⟩) (.inr ⟨_,_,_,rfl⟩) uM uM (λ_ _=>trivial) ?_;intro v9 w9 hr9 hg9 hb9 hat
      obtain⟨kp9,hP9,hk9⟩:=hP.add_left ((World.grownBy_alloc W _ _).trans hg9) hr9 (hat.imp (λe=>e) λe=>⟨_,e,by simp⟩);obtain⟨a9,n9,c9,rfl⟩:∃a n c,v9= .slice a n c:=by
       exact yes
      have q2:w9.cell? ⟨Bp,2,none⟩=some (.slice la pl.left.length lc):=kp9.cell 2;have z2:=kp9.frozen 2;clear hr9 hg9 hb9 hat))
   exact⟨_,_,_,hP9⟩
  ·rw[if_pos rfl]
   have hsd:∀d∈dl,Sm d:=λd hd=>d3g hsk (hps d hd)
   have hcq:=c4z (g:=s.g) hsm hsd;have hCl:=b8k s.g (.slice da pl.dots.length dc) (.slice xa dl.length xc) pl.dots dl W (a0h a8a hP.d oM) (a1p hP.d) hdl hdf;rw[hcq]at hCl;have s5:W.cell? ⟨w.heap.size+1,5,none⟩=some (.int .i64 s.g):=(hP.o (w.heap.size+1,#[.int .i64 s.ax,.int .i64 s.ay,.int .i64 s.st,.int .i64 s.w,.int .i64 s.h,.int .i64 s.g],28) (by unfold a7v;simp)).cell 5;obtain⟨od,hod⟩:=zE (a6f s.g pl.dots dl);simp only[hod]at hCl ⊢;have hPf:∀W2,Below W.heap.size W W2->∀o,PIr w.heap.size w Bp (a7v s w.heap.size) (.slice da pl.dots.length dc) (.slice ka pl.keys.length kc) (.slice la pl.left.length lc) pl (W2.alloc o)/\KeepP (a3i Bp) w.heap.size W (W2.alloc o):=λW2 hb o =>
    ⟨(hP.below hb).below ((zR _ _).alloc (yR _) _),(hP.keepP hb).trans ((hP.below hb).keepP ((zR _ _).alloc (yR _) _))⟩
   cases od with
   |some d =>
    simp only[c8p,Option.map_some]at hCl ⊢;gi_upto_region 11 with(first
     |(refine⟨trivial,?_⟩;gi_at_call 36;refine(CallsIn.inRound ly (callsIn_wide.2 hCl)).mono ?_;rintro e W2⟨rfl,hb2⟩))
    obtain⟨hP3,hk3⟩:=hPf W2 hb2 (.cells #[.int .i64 d.x,.int .i64 d.y,.int .i64 d.k,.int .i64 d.i] 54);have hB3:Blk (W2.alloc (.cells #[.int .i64 d.x,.int .i64 d.y,.int .i64 d.k,.int .i64 d.i] 54)) B _ _:=(hB.below hb2 hB.lt).alloc _;have hD3:=Blk.new W2 #[.int .i64 d.x,.int .i64 d.y,.int .i64 d.k,.int .i64 d.i] 54;have hz3':=hP3.hz;have hBp3:=hP3.p.lt;obtain⟨W4,hW4⟩:=zE (W2.alloc (.cells #[.int .i64 d.x,.int .i64 d.y,.int .i64 d.k,.int .i64 d.i] 54));rw[hW4]at hP3 hk3 hB3 hD3 hz3' ⊢;obtain⟨Bd,hBd⟩:=zE W2.heap.size;rw[hBd]at hD3 ⊢;have e0:W4.cell? ⟨B,0,none⟩=some (.int .i64 id):=hB3.cell 0;have e2:W4.cell? ⟨Bp,2,none⟩=some (.slice la pl.left.length lc):=hP3.p.cell 2;have e3:W4.cell? ⟨Bd,2,none⟩=some (.int .i64 d.k):=hD3.cell 2;have e4:W4.cell? ⟨Bd,3,none⟩=some (.int .i64 d.i):=hD3.cell 3;clear hW4 hBd b0 b7 b8 p0 p2 s5 hCl hPf;gi_wp2_with (first
     |(gi_at_builtin;refine El.allIn b8j d9e qM _ _ qM w.heap.size qM pl.left (hP3.l.alloc _) [⟨id,d.k,d.i⟩] qM (b6p b8j W4 ⟨id,d.k,d.i⟩) (.inr ⟨_,_,_,rfl⟩) uM uM (λ_ _=>trivial) ?_;intro v9 w9 hr9 hg9 hb9 hat
       obtain⟨kp9,hP9,hk9⟩:=hP3.add_left ((World.grownBy_alloc _ _ _).trans hg9) hr9 (hat.imp (λe=>e) λe=>⟨_,e,by simp⟩);obtain⟨a9,n9,c9,rfl⟩:∃a n c,v9= .slice a n c:=by
        exact yes
       have q2:w9.cell? ⟨Bp,2,none⟩=some (.slice la pl.left.length lc):=kp9.cell 2;have z2:=kp9.frozen 2;clear hr9 hg9 hb9 hat))
    exact⟨hk3.trans hk9,_,_,_,hP9⟩
   |none =>
    simp only[c8p,Option.map_none]at hCl ⊢;obtain⟨kL,hkL⟩:=zE (a7e ⟨id,x,y,cls,nm,wt,ds⟩);rw[hkL];gi_upto_region 12 with(first
     |(refine⟨trivial,?_⟩;gi_at_call 36;refine(CallsIn.inRound ly (callsIn_wide.2 hCl)).mono ?_;rintro e W2⟨rfl,hb2⟩))
    obtain⟨hP3,hk3⟩:=hPf W2 hb2 (.cells #[.int .i64 0,.int .i64 0,.int .i64 0,.int .i64 0] 54);have hB3:Blk (W2.alloc (.cells #[.int .i64 0,.int .i64 0,.int .i64 0,.int .i64 0] 54)) B _ _:=(hB.below hb2 hB.lt).alloc _;have hb4:Below W.heap.size W (W2.alloc (.cells #[.int .i64 0,.int .i64 0,.int .i64 0,.int .i64 0] 54)):=hb2.alloc hb2.size _;obtain⟨W4,hW4⟩:=zE (W2.alloc (.cells #[.int .i64 0,.int .i64 0,.int .i64 0,.int .i64 0] 54));rw[hW4]at hP3 hk3 hB3 hb4 ⊢;obtain⟨Bd,hBd⟩:=zE W2.heap.size;rw[hBd];have e0:W4.cell? ⟨Bp,0,none⟩=some (.slice da pl.dots.length dc):=hP3.p.cell 0;have e7:W4.cell? ⟨B,7,none⟩=some (.slice xa dl.length xc):=hB3.cell 7;have hz4:=hP3.hz;clear hW4 hBd b0 b7 b8 p0 p2 s5 hCl hPf;gi_upto_region 13 with(first
     |(gi_at_builtin;go_loud (refine El.allIn a8a d9j qM _ _ qM w.heap.size qM pl.dots hP3.d dl qM (hdl.up hb4) hdf oM hz4 (λ_ _=>trivial) ?_);intro v9 w9 hr9 hg9 hb9 hat
       obtain⟨kp9,hP9,hk9⟩:=hP3.add_dots hg9 hr9 (hat.imp (λe=>e) λe=>⟨_,e,yR _⟩);obtain⟨a9,n9,c9,rfl⟩:∃a n c,v9= .slice a n c:=by
        exact ygo
       have q0:w9.cell? ⟨Bp,0,none⟩=some (.slice da pl.dots.length dc):=kp9.cell 0;have z0:=kp9.frozen 0;clear hr9 hg9 hb9 hat))
    have hkA:=hk3.trans hk9;obtain⟨W6,hW6⟩:=zE (w9.setCell ⟨Bp,0,none⟩ (.slice a9 n9 c9));rw[hW6]at hP9 hkA ⊢;clear hW6 hk9 q0 z0 kp9 e0 e7 hP3 hk3 hb4;have hB6:=(hkA.k.same B hB.lt (λh=>hBne _ h rfl)).trans hB;replace hB6:Blk W6 B _ _:=hB6;obtain⟨x0,x1,x2,x3,x4,x5,x6⟩:=zN7 hB6;have hKy:=c9s ⟨id,x,y,cls,nm,wt,ds⟩ hpo.nm W6;obtain⟨ok,hok2⟩:=zE (d1k ⟨id,x,y,cls,nm,wt,ds⟩);unfold a7e at hkL;unfold d8j at hKy;rw[hok2]at hKy hkL;have hz6:=hP9.hz
    cases ok with
    |none =>
     simp only[Option.isSome_none,Option.toList_none]at hKy hkL;subst hkL;gi_wp2_with (first
      |(refine⟨trivial,?_⟩;gi_at_call 37;refine(CallsIn.inRound ly (callsIn_wide.2 hKy)).mono ?_;rintro e W7⟨k,rfl,-,hb7⟩))
     have hb8:Below W6.heap.size W6 (W7.alloc (.cells #[.int .i64 k.n,.int .i64 k.p,.string k.c] 82)):=hb7.alloc hb7.size _;exact⟨hkA.trans (hP9.keepP hb8),_,_,_,hP9.below hb8⟩
    |some k0 =>
     simp only[Option.isSome_some,Option.toList_some]at hKy hkL;subst hkL;gi_upto_region 15 with(first
      |(refine⟨trivial,?_⟩;gi_at_call 37;refine(CallsIn.inRound ly (callsIn_wide.2 hKy)).mono ?_;rintro e W7⟨k,rfl,hkk,hb7⟩))
     obtain rfl:=hkk k0 rfl;have hb8:Below W6.heap.size W6 (W7.alloc (.cells #[.int .i64 k.n,.int .i64 k.p,.string k.c] 82)):=hb7.alloc hb7.size _;have hP8:=hP9.below hb8;have hk8:=hkA.trans (hP9.keepP hb8);have hD8:=Blk.new W7 #[.int .i64 k.n,.int .i64 k.p,.string k.c] 82;obtain⟨W8,hW8⟩:=zE (W7.alloc (.cells #[.int .i64 k.n,.int .i64 k.p,.string k.c] 82));rw[hW8]at hP8 hk8 hD8 ⊢;obtain⟨Bk,hBk⟩:=zE W7.heap.size;rw[hBk]at hD8 ⊢;obtain⟨y0,y1,y2⟩:=zN3 hD8;have e1:W8.cell? ⟨Bp,1,none⟩=some (.slice ka pl.keys.length kc):=hP8.p.cell 1;have hz8:=hP8.hz;clear hW8 hBk x0 x1 x2 x3 x4 x5 x6 hKy hb8 hkA hP9 hB6;gi_wp2_with (first
      |(gi_at_builtin;refine El.allIn c1q d9k qM _ _ qM w.heap.size qM pl.keys (hP8.k.alloc _) [k] qM (b6p c1q W8 k) (.inr ⟨_,_,_,rfl⟩) uM uM (λ_ _=>trivial) ?_;intro v9 w10 hr9 hg9 hb9 hat
        obtain⟨kp9,hP10,hk10⟩:=hP8.add_keys ((World.grownBy_alloc _ _ _).trans hg9) hr9 (hat.imp (λe=>e) λe=>⟨_,e,by simp⟩);obtain⟨a10,n10,c10,rfl⟩:∃a n c,v9= .slice a n c:=by
         exact yjk
        have q1:w10.cell? ⟨Bp,1,none⟩=some (.slice ka pl.keys.length kc):=kp9.cell 1;have z1:=kp9.frozen 1;clear hr9 hg9 hb9 hat))
     exact⟨hk8.trans hk10,_,_,_,hP10⟩
 case done =>
  intro D xs W hD hS hR hK;obtain⟨dv,kv,lv,hR⟩:=hR;rw[hS]at hR;have c0:W.cell? ⟨Bp,0,none⟩=some dv:=hR.p.cell 0;have c1:W.cell? ⟨Bp,1,none⟩=some kv:=hR.p.cell 1;have c2:W.cell? ⟨Bp,2,none⟩=some lv:=hR.p.cell 2;have hr:Blk W (w.heap.size+1+1) #[.slice none 0 0,.slice none 0 0,.slice none 0 0] 45:=hR.o (w.heap.size+1+1,#[.slice none 0 0,.slice none 0 0,.slice none 0 0],45) (by unfold a7v;simp);have r0:W.cell? ⟨w.heap.size+1+1,0,none⟩=some (.slice none 0 0):=hr.cell 0;have r1:W.cell? ⟨w.heap.size+1+1,1,none⟩=some (.slice none 0 0):=hr.cell 1;have r2:W.cell? ⟨w.heap.size+1+1,2,none⟩=some (.slice none 0 0):=hr.cell 2;have z0:=hr.frozen 0;have z1:=hr.frozen 1;have z2:=hr.frozen 2;obtain⟨hl1,hl2,hl3⟩:=a8t s ws (a0t l);have hwl:=a7l hsk ws;have hlS:(a0t l).length=l.length:=(a1c l).length_eq;obtain⟨da,dc,hdv,-⟩:=(a0h a8a hR.d oM).form;obtain⟨ka,kc,hkv,-⟩:=(a0h c1q hR.k oM).form;obtain⟨la,lc,hlv,-⟩:=(a0h b8j hR.l oM).form;subst hdv hkv hlv;clear hseq hS hP5 km ks;go_wp2_with fail;have hgA:=((a0u W (w.heap.size+1+1) 0 (.slice da (a2k s ws (a0t l)).dots.length dc)).trans (a0u _ (w.heap.size+1+1) 1 (.slice ka (a2k s ws (a0t l)).keys.length kc))).trans (a0u _ (w.heap.size+1+1) 2 (.slice la (a2k s ws (a0t l)).left.length lc));have kA:=((hr.set 0 (.slice da (a2k s ws (a0t l)).dots.length dc)).set 1 (.slice ka (a2k s ws (a0t l)).keys.length kc)).set 2 (.slice la (a2k s ws (a0t l)).left.length lc);obtain⟨W6,hW6⟩:=zE (((W.setCell ⟨w.heap.size+1+1,0,none⟩ (.slice da (a2k s ws (a0t l)).dots.length dc)).setCell ⟨w.heap.size+1+1,1,none⟩ (.slice ka (a2k s ws (a0t l)).keys.length kc)).setCell ⟨w.heap.size+1+1,2,none⟩ (.slice la (a2k s ws (a0t l)).left.length lc));rw[hW6]at hgA kA ⊢;clear hW6;have hDlt:D<W.heap.size:=(Array.getElem?_eq_some_iff.1 hK).1;have hK6:W6.heap[D]? =some (.deferred (some [])):=(hgA.block D hDlt (λe=>by cases e;omega)).trans hK;have hg1:=grownBy_putObj' W6 D (.deferred none);have tn:∀ {v:Value} {e:TypeId} {s n:Nat} {xs:List Value},W.ownsRow w.heap.size e s v n xs->e≠45->(W6.putObj D (.deferred none)).ownsRow w.heap.size e s v n xs:=λ{v e s n xs} hw he=>a0r (a0r hw hgA λr er=>by
   cases er;exact⟨_,hr,λcur e2=>by simp only[Obj.cells.injEq]at e2;exact he e2.2.1.symm⟩) hg1 λr er=>by
   cases er;exact⟨_,hK6,λcur e2=>by cases e2⟩
  have t0:=tn hR.d jM;have t1:=tn hR.k jM;have t2:=tn hR.l jM;have k9:=kA.kept hg1 (λe=>by cases e;omega);have hbel:Below w.heap.size w (W6.putObj D (.deferred none)):=(hR.bel.grown hgA hR.hz λr e=>by cases e;omega).grown hg1 (Nat.le_trans hR.hz hgA.size) λr e=>by cases e;omega
  refine⟨by simp,.inl ⟨_,_,rfl,run_takeDeferred hK6,?_⟩⟩;exact⟨_,a1i qM _ _ _ 45 _ (0,0) _ qM k9 underlying45 qM zM,_,rfl,⟨_,_,_,rfl,⟨a0h a8a t0 oM,a1p t0⟩,⟨a0h c1q t1 oM,a1p t1⟩,a0h b8j t2 oM,a1p t2⟩,hbel⟩
end
section
open Go Go.RowKit
def AtFn (f:FuncId)(F:Fence)(n:Nat)(P:Program)(c:Code)(Q:Exit->Act->World->Prop)(a:Act)(w:World):Prop :=
 ∀(b:Frame) (k:List Item) (cs:List Frame),b.fn=f->b.roundOf=F.round->F.fn b.fn->F.room (cs.length+1+n) ->
  ∃e a' w',Q e a' w'/\ArrivesIn (Machine.fenced P F) P (lone (b.atR a (.code c::k)) cs w) b k cs e a' w'
section
variable {f:FuncId}{F:Fence}{n:Nat}{P:Program}{Q:Exit->Act->World->Prop}{a:Act}{w:World}
theorem AtFn.of {c:Code}(h:c.wpIn F n P Q a w):AtFn f F n P c Q a w:=λb k cs _=>h b k cs
theorem AtFn.seq {x y:Code}(h:AtFn f F n P x (Exit.then (AtFn f F n P y Q) Q) a w):AtFn f F n P (.seq x y) Q a w:=by
 intro b k cs h1 h2 h3 h4;have s0:StepsIn (Machine.fenced P F) P (lone (b.atR a (.code (.seq x y)::k)) cs w) (lone (b.atR a (.code x:: .code y::k)) cs w):= .one (fenced_calm h3 h4 rfl) stepR_seq;obtain⟨e,a₁,w₁,hq,r⟩:=h b (.code y::k) cs h1 h2 h3 h4;by_cases hn:e= .normal
 ·subst hn
  obtain⟨e₂,a₂,w₂,hq₂,r₂⟩:=hq b k cs h1 h2 h3 h4;exact⟨e₂,a₂,w₂,hq₂,.of_steps (s0.trans r) r₂⟩
 ·refine⟨e,a₁,w₁,?_,.of_steps s0 (.pass (x:= .code y) rfl (λ_ _=> .inl hn) r)⟩
  cases e
  case normal=>exact absurd rfl hn
  all_goals exact hq
theorem AtFn.block {id:Nat}{c:Code}(h:AtFn f F n P c (λe a w=>match e with | .normal=>Q .normal a w | .exit i=>i=id/\Q .normal a w | .panic ch=>Q (.panic ch) a w|_=>False) a w):AtFn f F n P (.block id c) Q a w:=by
 intro b k cs h1 h2 h3 h4;have hc:=fenced_calm (P:=P) (w:=w) (fr:=b.atR a (.code (.block id c)::k)) h3 h4 rfl;obtain⟨e,a₁,w₁,hq,r⟩:=h b (.inBlock id::k) cs h1 h2 h3 h4
 cases e with
 |normal=>exact⟨.normal,a₁,w₁,hq,.head hc stepR_block (StepsIn.trans r (.one (fenced_calm h3 h4 rfl) stepR_inBlock))⟩
 |exit i =>
  obtain⟨rfl,hq⟩:=hq;exact⟨.normal,a₁,w₁,hq,.head hc stepR_block (r.1 k (by simp[exitTo]))⟩
 |panic ch=>exact⟨.panic ch,a₁,w₁,hq,.of_steps (.one hc stepR_block) (show ArrivesIn (Machine.fenced P F) P _ b k cs (.panic ch) a₁ w₁ from r)⟩
 |goto l=>exact hq.elim
 |ret=>exact hq.elim
 |outgrown=>exact hq.elim
def d3i (P:Program)(l:Nat)(Q:Exit->Act->World->Prop)(a':Act):Ending->World->Prop
 |.returned _,W=>∃W',(Instr.endLoop l).run P W= .ok none W'/\Q .normal a' W'
 |.panicked ch,W=>Q (.panic ch) a' W
 |.outgrown,_=>False
theorem AtFn.range {g:Operand}{ps:Array Tmp}{assign body:Code}{l:Nat}{mark:List Deferred}{w₁ w₁' w₂:World}{d:Deferred}{gf:FuncId}{args:Array Value}
 (he:(Instr.enterLoop f a.tmps ps assign body F.round).run P w= .ok (l,mark) w₁) (hres:(resolve a.eval (rangeCall g l) 0).run P w₁= .ok d w₁') (hlead:∀f',Target.leads P w₁' d.target d.args=some f'->F.fn f')
 (hinv:(invoke d.target d.args).run P w₁'= .ok (.enter gf args) w₂) (hn:F.depth.isSome=true->1<=n) (hcall:CallsIn F (n-1) P gf args w₂ (d3i P l Q { a with defers:=mark++a.defers })) :
 AtFn f F n P (.rangeFunc g ps assign body) Q a w:=by
 intro b k cs h1 h2 h3 h4;subst h1;rw[<-h2]at he;have hf0:(lone (b.atR a (.code (.rangeFunc g ps assign body)::k)) cs w).fenced P F:=by
  refine fenced_lone (.inl h3) (λf' hf'=>hlead f' ?_) (Fence.room_le h4 oM);have hev:=Frame.eval_atR b a (.code (.rangeFunc g ps assign body)::k);simp only[Frame.atR]at hev;simpa only[Frame.about,Frame.atR,he,hev,hres]using hf'
 have hin:=stepR_rangeFunc (P:=P) (b:=b) (a:=a) (k:=k) (cs:=cs) (w:=w) he hres hinv;have hro:F.room ((b.atR { a with defers:=mark++a.defers } (.inRangeFunc l::k)::cs).length+1+(n-1)):=Fence.room_enter h4 hn;obtain⟨e,w₃,fr,hR,hs,hfn,hl⟩:=hcall.2 (b.atR { a with defers:=mark++a.defers } (.inRangeFunc l::k)::cs) hro
 cases e with
 |outgrown=>exact hR.elim
 |returned v =>
  have hfl:=fenced_leaving (hfn▸hcall.1) hro hl;obtain⟨w₄,hend,hq⟩:=hR;refine⟨.normal,_,w₄,hq,.head hf0 hin (StepsIn.trans hs (.head hfl ?_ (.one (fenced_calm (fr:=b.atR { a with defers:=mark++a.defers } (.endRangeFunc l::k)) h3 h4 rfl) (stepR_endRangeFunc hend))))⟩;rw[<-finish_atR_inRangeFunc l v];exact step_leave_returned hl
 |panicked ch =>
  have hfl:=fenced_leaving (hfn▸hcall.1) hro hl;refine⟨.panic ch,_,w₃,hR,.inRangeFunc l::k,.head hf0 hin (StepsIn.trans hs (.one hfl ?_))⟩;rw[<-Frame.raise_atR];exact step_leave_panicked hl
theorem a8u {fn:Func}{c:Code}{args:Array Value}{R:Ending->World->Prop}(hf:P.funcs[f]? =some fn)(hb:fn.body=some c)(hF:F.fn f)(hro:F.round=none)
 (h:AtFn f F n P c (λe a w=>match e with | .normal=>LeavesInM F n P fn a.tmps R a.defers .returning w | .ret=>LeavesInM F n P fn a.tmps R a.defers .returning w | .panic ch=>LeavesInM F n P fn a.tmps R a.defers (.panicking ch) w|_=>False) { tmps:=args++Array.replicate (fn.ntmps-args.size) undef,defers:=[] } w):CallsIn F n P f args w R:=by
 refine⟨hF,λcs hr=> ?_⟩;obtain⟨b,hbd⟩:∃b:Frame,b={ (default:Frame)with fn:=f,kind:= .normal,roundOf:=none }:=⟨_,rfl⟩;have hb1:b.fn=f:=by rw[hbd]
 have hb2:b.roundOf=none:=by rw[hbd]
 have hb3:b.kind= .normal:=by rw[hbd]
 have hin:Frame.enter P f args .normal=b.atR { tmps:=args++Array.replicate (fn.ntmps-args.size) undef,defers:=[] } [.code c]:=by
  rw[hbd];simp[Frame.enter,Frame.atR,hf,hb]
 obtain⟨e,a',w',hq,r⟩:=h b [] cs hb1 (hb2.trans hro.symm) (hb1▸hF) hr;rw[<-hin]at r;have hlv:∀(u:FrameMode) (todo:List Item),LeavesInM F n P fn a'.tmps R a'.defers u w'->∃e w'' fr,R e w''/\ComesIn (Machine.fenced P F) P (lone { b.atR a' todo with mode:=u } cs w') (lone fr cs w'') e/\fr.fn=f/\fr.leaving P w'' e:=λu todo hL=>by
  obtain⟨e,w'',fr,h1,h2,h3,h4⟩:=leaves_stepsInM a'.defers u w' { b.atR a' todo with mode:=u } cs rfl rfl rfl (show P.funcs[b.fn]? =some fn by rw[hb1];exact hf) hb3 (show F.fn b.fn from hb1▸hF) hr hL;exact⟨e,w'',fr,h1,h2,h3.trans hb1,h4⟩
 cases e with
 |normal =>
  obtain⟨e,w'',fr,h1,h2,h3⟩:=hlv .returning [] hq;exact⟨e,w'',fr,h1,ComesIn.of_steps (StepsIn.trans r (.one (fenced_calm (fr:=b.atR a' []) (hb1▸hF) hr rfl) (stepR_end hb2))) h2,h3⟩
 |ret =>
  obtain⟨todo,hs⟩:=r.1 hb2;obtain⟨e,w'',fr,h1,h2,h3⟩:=hlv .returning todo hq;exact⟨e,w'',fr,h1,ComesIn.of_steps hs h2,h3⟩
 |panic ch =>
  obtain⟨todo,hs⟩:=r;obtain⟨e,w'',fr,h1,h2,h3⟩:=hlv (.panicking ch) todo hq;exact⟨e,w'',fr,h1,ComesIn.of_steps hs h2,h3⟩
 |exit i=>exact hq.elim
 |goto l=>exact hq.elim
 |outgrown=>exact hq.elim
end
theorem b6s {f:FuncId}{F:Fence}{n:Nat}{P:Program}{α:Type}{g:Operand}{ps:Array Tmp}{assign body:Code}{Q:Exit->Act->World->Prop}{a:Act}{w:World}
 (hro:F.round=none) (h1:1<=n) {gf:Nat} {lb:Array Value} (hg:a.eval g= .func (.func gf) #[] lb) (hFg:F.fn gf) (eg:∀args w,(callFunc gf args).run P w= .ok (.enter gf args) w)
 {encs:α->Array Value} {C:World->Nat->Prop} (hC:∀(W:World) (l k:Nat) (o o':Obj),W.heap[l]? =some o->a6q o=true->a6q o'=true->(C (W.putObj l o') k↔C W k)) (hCl:∀(W:World) (l:Nat) (o:Obj),W.heap[l]? =some o->a6q o=true->¬C W l)
 (hCa:∀(W:World) (k:Nat) (o:Obj),C (W.alloc o) k->a6q o=true->C W k) (hC0:∀k,C w k->k<w.heap.size)
 {n0:Nat} (hn0:n0<=w.heap.size) {Kx:List α->α->World->Prop} (hKp:∀pre x (W:World) (l:Nat) (o o':Obj),W.heap[l]? =some o->a6q o=true->a6q o'=true->Kx pre x W->Kx pre x (W.putObj l o')) {S:List α->Prop} {N:Nat} {w0:World} (hseq:d8k F (n-1) P gf lb encs C n0 Kx S N w0) (hb0:Below w0.heap.size w0 w) (hps:∀x,(encs x).size=ps.size)
 (I:List α->World->Prop) (hI:∀pre A A' row,I pre A->A.grownBy A' row->(∀r,row=some r->w.heap.size<=r/\¬C A r)->I pre A') (hIC:∀pre A A' row k,I pre A->A.grownBy A' row->(∀r,row=some r->¬C A r)->C A' k->C A k) (h0:I [] w) (Ip:List PanicEntry->World->Prop) (hfs:∃x,P.funcs[f]? =some x) (hFf:F.fn f) (tb:TypeId) (bx:α->Array Value) (hKa:∀pre x (W:World) (o:Obj),Kx pre x W->Kx pre x (W.alloc o)) (hCs:∀pre W k,I pre W->C W k->k<W.heap.size) (a₁:α->Nat->Act)
 (hassign:∀(l:Nat) (pre:List α) (x:α) (W:World) (K:Act->World->Prop),Kx pre x W->K (a₁ x W.heap.size) (W.alloc (.cells (bx x) tb))->assign.wpIn (F.inRound l) (n-1-1) P (Exit.then K (λ_ _ _=>False)) { tmps:=(ps.zip (encs x)).foldl (λt (p,v)=>t.setIfInBounds p v) a.tmps,defers:=[] } W)
 (hbody:∀(l:Nat) (pre:List α) (x:α) (W:World) (B:Nat),I pre W->Kx pre x W->Blk W B (bx x) tb->w.heap.size<=B->(∀k,C W k->k≠B)->pre.length<N->body.wpIn (F.inRound l) (n-1-1) P (λe a' W'=>(e= .normal/\KeepP C n0 W W'/\I (pre++[x]) W')\/∃ch,e= .panic ch/\a'.defers=[]/\KeepP C n0 W W'/\Ip ch W') (a₁ x B) W)
 (hpan:∀(D:Nat) (ch:List PanicEntry) (W:World),w.heap.size<=D->Ip ch W->W.heap[D]? =some (.deferred (some []))->Q (.panic ch) { a with defers:={ target:= .collected D,args:= #[] }::a.defers } W)
 (hdone:∀(D:Nat) (xs:List α) (W:World),w.heap.size<=D->S xs->I xs W->W.heap[D]? =some (.deferred (some []))->Q .normal { a with defers:={ target:= .collected D,args:= #[] }::a.defers } W) :
 AtFn f F n P (.rangeFunc g ps assign body) Q a w:=by
 have hfn:=hFf;obtain⟨fn,hfne⟩:∃fn,fn=f:=⟨_,rfl⟩;subst hfne
 -- the two blocks of the statement: the rounds' deferred calls, and the loop's record, in its states
 obtain⟨D,hD⟩:=zE w.heap.size;let R:LoopState->Option Code->Loop:=λst pe=>{ state:=st,pending:=pe,fn,tmps:=a.tmps,params:=ps,assign,body,defers:=D }
 let W1:World:=(w.alloc (.deferred (some []))).alloc (.loop (R .ready none))
 have s1:W1.heap.size=D+2:=by simp[W1,hD]
 have g1:w.grownBy W1 none:=by
  exact ydl
 have l1:W1.heap[D+1]? =some (.loop (R .ready none)):=by
  exact yie
 have d1:W1.heap[D]? =some (.deferred (some [])):=by
  exact ygu
 have hCW:∀k,C W1 k->k<W1.heap.size:=λk hk=>by
  have:=hC0 k (hCa _ k _ (hCa _ k _ hk rfl) rfl);omega
 refine AtFn.range (l:=D+1) (mark:=[{ target:= .collected D,args:= #[] }]) (w₁:=W1) (w₁':=W1) (w₂:=W1) (d:={ target:= .fn (.func gf) lb,args:= #[.func (.yield (D+1)) #[] #[]] }) (gf:=gf) (args:= #[.func (.yield (D+1)) #[] #[]]++lb) ?_ ?_ ?_ ?_ (λ_=>h1) ?_
 ·rw[hro]
  subst hD;exact run_enterLoop_outer _ _ _ _ _
 ·simp only[resolve,hg]
  simp[go_sem]
 ·intro f' hf'
  simp[Target.leads]at hf';subst hf';exact hFg
 ·simp[invoke,go_sem,eg]
 ·have hb1:Below w0.heap.size w0 W1:=hb0.trans ((show Below w.heap.size w W1 from⟨g1.os,g1.tape,g1.output,g1.size,λk hk=>g1.block k hk vM⟩).mono hb0.size)
  refine(hseq (D+1) (λpre W=>I pre W/\W.heap[D+1]? =some (.loop (R .ready none))/\W.heap[D]? =some (.deferred (some []))) (λch W=>Ip ch W/\W.heap[D]? =some (.deferred (some []))) W1 hb1 ?_ (λs A A' row k hJ=>hIC s A A' row k hJ.1) hCW ?_ ⟨hI [] w W1 none h0 g1 vM,l1,d1⟩).mono ?_
  ·exact yda
  ·rintro pre x W⟨hi,hl,hd⟩ hkx hlen
   have hlt:D+1<W.heap.size:=(Array.getElem?_eq_some_iff.1 hl).1;have hy:=run_yield (P:=P) (args:=encs x) hl (hps x);refine⟨fn,_,assign,body,hy,b9k hfn (λch w hR=>hfs) (hassign _ pre x W _ hkx ?_)⟩;exact yag
  ·rintro e W2 (⟨⟨v,rfl⟩,xs,hS,hi,hl,hd⟩|⟨ch,rfl,hp,hd⟩)
   rotate_left
   ·exact hpan D ch W2 oM hp hd
   have hr:=run_endLoop (P:=P) hl (by simp[R]);refine⟨_,hr,?_⟩;exact yfz
theorem a7m {f:FuncId}{F:Fence}{n:Nat}{P:Program}{α:Type}{g:Operand}(slot sbox:Nat)(encV:α->Value){assign body:Code}{Q:Exit->Act->World->Prop}{a:Act}{w:World}
 (hro:F.round=none) (h1:1<=n) {gf:Nat} {lb:Array Value} (hg:a.eval g= .func (.func gf) #[] lb) (hFg:F.fn gf) (eg:∀args w,(callFunc gf args).run P w= .ok (.enter gf args) w)
 {C:World->Nat->Prop} (hC:∀(W:World) (l k:Nat) (o o':Obj),W.heap[l]? =some o->a6q o=true->a6q o'=true->(C (W.putObj l o') k↔C W k)) (hCl:∀(W:World) (l:Nat) (o:Obj),W.heap[l]? =some o->a6q o=true->¬C W l)
 (hCa:∀(W:World) (k:Nat) (o:Obj),C (W.alloc o) k->a6q o=true->C W k) (hC0:∀k,C w k->k<w.heap.size)
 {n0:Nat} (hn0:n0<=w.heap.size) {Kx:List α->α->World->Prop} (hKp:∀pre x (W:World) (l:Nat) (o o':Obj),W.heap[l]? =some o->a6q o=true->a6q o'=true->Kx pre x W->Kx pre x (W.putObj l o')) {S:List α->Prop} {N:Nat} {w0:World} (hseq:d8k F (n-1) P gf lb (λx=> #[encV x]) C n0 Kx S N w0) (hb0:Below w0.heap.size w0 w)
 (I:List α->World->Prop) (hI:∀pre A A' row,I pre A->A.grownBy A' row->(∀r,row=some r->w.heap.size<=r/\¬C A r)->I pre A') (hIC:∀pre A A' row k,I pre A->A.grownBy A' row->(∀r,row=some r->¬C A r)->C A' k->C A k) (h0:I [] w) (Ip:List PanicEntry->World->Prop) (hfs:∃x,P.funcs[f]? =some x) (hFf:F.fn f) (tb:TypeId) (bx:α->Array Value) (hKa:∀pre x (W:World) (o:Obj),Kx pre x W->Kx pre x (W.alloc o)) (hCs:∀pre W k,I pre W->C W k->k<W.heap.size)
 (hassign:∀(l:Nat) (pre:List α) (x:α) (W:World) (K:Act->World->Prop),Kx pre x W->(∀a',a'={ tmps:=(a.tmps.setIfInBounds slot (encV x)).setIfInBounds sbox (.pointer (some ⟨W.heap.size,0,none⟩)),defers:=[] }->K a' (W.alloc (.cells (bx x) tb)))->assign.wpIn (F.inRound l) (n-1-1) P (Exit.then K (λ_ _ _=>False)) { tmps:=a.tmps.setIfInBounds slot (encV x),defers:=[] } W)
 (hbody:∀(l:Nat) (pre:List α) (x:α) (W:World) (B:Nat),I pre W->Kx pre x W->Blk W B (bx x) tb->w.heap.size<=B->(∀k,C W k->k≠B)->pre.length<N->body.wpIn (F.inRound l) (n-1-1) P (λe a' W'=>(e= .normal/\KeepP C n0 W W'/\I (pre++[x]) W')\/∃ch,e= .panic ch/\a'.defers=[]/\KeepP C n0 W W'/\Ip ch W') ({ tmps:=(a.tmps.setIfInBounds slot (encV x)).setIfInBounds sbox (.pointer (some ⟨B,0,none⟩)),defers:=[] }:Act) W)
 (hpan:∀(D:Nat) (ch:List PanicEntry) (W:World),w.heap.size<=D->Ip ch W->W.heap[D]? =some (.deferred (some []))->Q (.panic ch) { a with defers:={ target:= .collected D,args:= #[] }::a.defers } W)
 (hdone:∀(D:Nat) (xs:List α) (W:World),w.heap.size<=D->S xs->I xs W->W.heap[D]? =some (.deferred (some []))->Q .normal { a with defers:={ target:= .collected D,args:= #[] }::a.defers } W) :
 AtFn f F n P (.rangeFunc g #[slot] assign body) Q a w :=
 b6s hro h1 hg hFg eg hC hCl hCa hC0 hn0 hKp hseq hb0 (λ_=>rfl) I hI hIC h0 Ip hfs hFf tb bx hKa hCs (λx B=>{ tmps:=(a.tmps.setIfInBounds slot (encV x)).setIfInBounds sbox (.pointer (some ⟨B,0,none⟩)),defers:=[] }) (λl pre x W K hx hK=>by simpa using hassign l pre x W K hx λa' ha=>ha▸hK) hbody hpan hdone
end
section
open Go Go.RowKit Go.Shelf Go.Lib
attribute [local go_sem] Oper.semAt_some
attribute [local go_sem ↓] Go.wp_at_zero Go.wp_at_succ
abbrev c2s (e:Int):List PanicEntry:=[{ v:= .iface 101 (.int .i64 e),recovered:=false }]
theorem a3d (e:Int)(w:World):Calls prog 106 #[.bool true,.int .i64 e] w λx w'=>x= .returned (.tuple #[])/\w'=w:=by
 go_enter func106,ntmps106;go_wp2_with fail;exact⟨rfl,_,results_none rfl _ _ _,rfl,rfl⟩
theorem a2u (e:Int)(w:World):Calls prog 106 #[.bool false,.int .i64 e] w λx w'=>x= .panicked (c2s e)/\w'=w:=by
 go_enter func106,ntmps106;go_wp2_with fail;exact⟨rfl,rfl,rfl⟩
theorem d3j (x:Lf)(I:Nat)(id:Int)(w:World)(h:w.cell? ⟨I,0,none⟩=some (.int .i64 id)) :
 Calls prog 153 #[.agg (lfE.enc x).toArray,.pointer (some ⟨I,0,none⟩)] w λe w'=>e= .returned (.bool (decide (x.p=id)))/\Below w.heap.size w w':=by
 obtain⟨p,k,i⟩:=x;by_cases hp:p=id
 ·subst hp
  go_enter func153,ntmps153;exact yef
 ·have hb:(p==id)=false:=by simpa using hp
  go_enter func153,ntmps153;go_wp2_with fail;go_ret;exact⟨by simp[hp],zC⟩
theorem c2t (dv kv lv:Value)(pl:Pn)(id:Int)(w:World)(hl:Lst lfE w.heap.size w lv pl.left)(hf:Frm lv pl.left.length) :
 Calls prog 107 #[a3s dv kv lv,.int .i64 id] w λe w'=>e= .returned (.int .i64 (b2b (why pl id)))/\Below w.heap.size w w':=by
 obtain⟨W,hW⟩:=zE ((w.alloc (.cells #[dv,kv,lv] 45)).alloc (.cells #[.int .i64 id] 3));have hb:Below w.heap.size w W:=by rw[<-hW];exact zC
 have kI:Blk W (w.heap.size+1) #[.int .i64 id] 3:=by rw[<-hW];have:=Blk.new (w.alloc (.cells #[dv,kv,lv] 45)) #[.int .i64 id] 3;rwa [World.size_alloc]at this
 have h0:=c1r lv pl.left W (hl.up hb) hf (λx=>decide (x.p=id)) 153 #[.pointer (some ⟨w.heap.size+1,0,none⟩)] (enters_of func153 zM rfl)
  (λX x hx=>(d3j x (w.heap.size+1) id X ((kI.below hx kI.lt).cell 0)).mono λ_ _ ⟨he,h⟩=>⟨he,hx.trans (h.mono hx.size)⟩)
 rw[show pl.left.findIdx? (λx=>decide (x.p=id))=why pl id from rfl]at h0;obtain⟨r,hr⟩:=zE (b2b (why pl id));rw[hr]at h0 ⊢;obtain⟨la,lc,rfl,-⟩:=hl.form;rw[<-hW]at h0;clear hr hW hb kI hl hf;go_enter func107,ntmps107;have hmf:∀(fn:Fn) (first cap:Array Value) (w:World),(Instr.makeFunc fn first cap).run prog w= .ok (.func fn first cap) w:=λ_ _ _ _=>rfl
 go_wp2_with (go_at_call 152;refine(h0).mono ?_;rintro e w'⟨rfl,hb_⟩;obtain⟨p,rfl⟩:=a0b hb_;clear hb_);exact ybl
def okW (g:Int)(a b:Dt):Bool:=(decide (a.k≠3)&&decide (b.k≠3))|| !a7d g a b
end
end Go.Proofs.YtfocdbjceedagaaGreatDoor
