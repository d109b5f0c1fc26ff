/-
  Parts.
-/
import Derived.Test.YtfocdbjceedagaaGreatDoorYao
set_option linter.unusedVariables false
set_option linter.unusedSimpArgs false
set_option maxHeartbeats 8000000
set_option maxRecDepth 100000
namespace Go.Proofs.YtfocdbjceedagaaGreatDoor
open Tryz
section
open Go Go.RowKit Go.Shelf Go.Lib
attribute [local go_sem] Oper.semAt_some
attribute [local go_sem ↓] Go.wp_at_zero Go.wp_at_succ
theorem b3c {W W':World}{base:Nat}{e:TypeId}{s:Nat}{v:Value}{n:Nat}{xs:List Value}(h:W.ownsRow base e s v n xs)(hs:∀g,v.ownBlock=some g→g<W.heap.size→W'.heap[g]? =W.heap[g]?):W'.ownsRow base e s v n xs:=by
 obtain⟨h1,h2|⟨g,cap,cur,rfl,h3,h4,h5⟩⟩:=h
 ·exact⟨h1,.inl h2⟩
 ·exact⟨h1,.inr ⟨g,cap,cur,rfl,h3,(hs g rfl (Array.getElem?_eq_some_iff.1 h4).1).trans h4,h5⟩⟩
theorem d0a {W:World}{base:Nat}{e:TypeId}{s:Nat}{v:Value}{n:Nat}{xs:List Value}(h:W.ownsRow base e s v n xs){g:Nat}(hg:v.ownBlock=some g):base≤g∧g<W.heap.size:=by
 rcases h.2 with ⟨rfl,-⟩|⟨g',cap,cur,rfl,h3,h4,-⟩
 ·cases hg
 ·cases hg
  exact⟨h3,(Array.getElem?_eq_some_iff.1 h4).1⟩
structure ICs (C:World→Nat→Prop)(n0:Nat)(w:World)(Bm Bs:Nat)(mc sc:Array Value)(base:Nat)(v:Value)(ps:List Pc)(W:World):Prop where
 bm:Blk W Bm mc 37
 bs:Blk W Bs sc 28
 row:W.ownsRow base 66 7 v ps.length (ps.flatMap plE.enc)
 nm:¬C W Bm
 ns:¬C W Bs
 nr:∀g,v.ownBlock=some g→¬C W g
 bel:Below n0 w W
section
variable {C:World→Nat→Prop}{n0:Nat}{w:World}{Bm Bs:Nat}{mc sc:Array Value}{base:Nat}{v:Value}{ps:List Pc}{A B:World}
theorem ICs.keep (h:ICs C n0 w Bm Bs mc sc base v ps A)(hk:KeepP C n0 A B):ICs C n0 w Bm Bs mc sc base v ps B:=by
 have hn:∀g,g<A.heap.size→¬C A g→¬C B g:=fun g hg hc hb=>(hk.k.mine g hb).elim hc (fun h=>by omega)
 exact⟨(hk.k.same _ h.bm.lt h.nm).trans h.bm,(hk.k.same _ h.bs.lt h.ns).trans h.bs,b3c h.row fun g hg hlt=>hk.k.same g hlt (h.nr g hg),hn _ h.bm.lt h.nm,hn _ h.bs.lt h.ns,fun g hg=>hn g (d0a h.row hg).2 (h.nr g hg),h.bel.trans hk.b⟩
theorem ICs.below (h:ICs C n0 w Bm Bs mc sc base v ps A)(hb:Below A.heap.size A B)(hC:∀k,C B k→C A k)(hn:n0≤A.heap.size):ICs C n0 w Bm Bs mc sc base v ps B :=
 ⟨h.bm.below hb h.bm.lt,h.bs.below hb h.bs.lt,b3c h.row fun g hg hlt=>hb.block g hlt,fun hc=>h.nm (hC _ hc),fun hc=>h.ns (hC _ hc),fun g hg hc=>h.nr g hg (hC _ hc),h.bel.trans (hb.mono hn)⟩
end
theorem b4e (n:Nat)(hn:1≤n)(s:Sh)(f0:a0i s.ax)(f1:a0i s.ay)(ev fv wv pv:Value)(l:List Pc)(hl:l.length≤19)(hok:∀p∈l,PcOk p∧p.cls.size≤1000)(C:World→Nat→Prop)(n0:Nat)(w:World)(Bm Bs:Nat)
 (hm:Blk w Bm #[ev,fv,wv,pv] 37) (hs:Blk w Bs #[.int .i64 s.ax,.int .i64 s.ay,.int .i64 s.st,.int .i64 s.w,.int .i64 s.h,.int .i64 s.g] 28) (hL:Lst plE w.heap.size w pv l) (hF:Frm pv l.length) (hn0:n0≤w.heap.size)
 (hnc:∀W k,Below w.heap.size w W→C W k→k≠Bm∧k≠Bs) (hPow:∀W,Below n0 w W→Pow W) :
 d2d Fence.wide n prog 84 #[.pointer (some ⟨Bm,0,none⟩),.pointer (some ⟨Bs,0,none⟩)] (fun x=> #[d2f s x]) C n0 (KxC s (a0t l)) (fun xs=>xs.map Prod.fst=a0t l) 20 w:=by
 intro ly J Jp W hB hJ hCb hC0 hY h0;have hokS:∀p∈a0t l,PcOk p∧p.cls.size≤1000:=fun p hp=>hok p ((a1g l).mem_iff.1 hp)
 have hlS:(a0t l).length=l.length:=(a1g l).length_eq;obtain⟨ps,hps⟩:∃ps,a0t l=ps:=⟨_,rfl⟩;have hLW:=hL.up hB;have hO:=a6u ev fv wv pv l W hLW hF hl;rw[hps] at hO hokS hlS hY ⊢;have bmW:=hm.below hB hm.lt;have bsW:=hs.below hB hs.lt;have nmW:¬C W Bm:=fun hc=>(hnc W Bm hB hc).1 rfl
 have nsW:¬C W Bs:=fun hc=>(hnc W Bs hB hc).2 rfl
 have hbW:Below n0 w W:=hB.mono hn0;have hWs:=hB.size;clear hL hLW hm hs hnc hF hps;obtain⟨c0,c1,c2,c3⟩:W.cell? ⟨Bm,0,none⟩=some ev∧W.cell? ⟨Bm,1,none⟩=some fv∧W.cell? ⟨Bm,2,none⟩=some wv∧W.cell? ⟨Bm,3,none⟩=some pv:=⟨bmW.cell 0,bmW.cell 1,bmW.cell 2,bmW.cell 3⟩;refine callsIn_wide.2 ?_;go_enter func84,ntmps84;go_upto_block 0 with (first
  |(go_at_call 44;refine hO.mono ?_;rintro e W1⟨v,rfl,hr1,hb1⟩;rw[←hlS] at hr1;obtain⟨va,vc,rfl,hvc⟩:=(a0b a2h hr1 (by omega)).form)
  |fail)
 have hW1s:=hb1.size;have hC1:∀k,C W1 k→C W k:=fun k=>hCb [] W W1 none k h0 (a2e none hb1) (by simp)
 have hI1:ICs C n0 w Bm Bs _ _ W.heap.size (.slice va ps.length vc) ps W1:=⟨bmW.below hb1 bmW.lt,bsW.below hb1 bsW.lt,hr1,fun hc=>nmW (hC1 _ hc),fun hc=>nsW (hC1 _ hc),fun g hg hc=>by have:=hC0 _ (hC1 _ hc);have:=(d0a hr1 hg).1;omega,hbW.trans (hb1.mono (by omega))⟩;have hJ1:J [] W1:=hJ [] W W1 none h0 (a2e none hb1) (by simp);clear hO hr1 hC1 bmW bsW nmW nsW hbW c0 c1 c2 c3 h0 hC0 hb1;go_wp2_with fail;go_loopw [11] (fun kk wr=>∃(k:Nat) (pre:List (Pc×Value)),k≤ps.length∧kk= .int .i64 (k:Nat)∧pre.map Prod.fst=ps.take k∧J pre wr∧ICs C n0 w Bm Bs #[ev,fv,wv,pv] #[.int .i64 s.ax,.int .i64 s.ay,.int .i64 s.st,.int .i64 s.w,.int .i64 s.h,.int .i64 s.g] W.heap.size (.slice va ps.length vc) ps wr∧W.heap.size≤wr.heap.size) (fun kk _=>ps.length-(intOf kk).toNat)
 case atStart=>exact⟨0,[],Nat.zero_le _,rfl,by simp,hJ1,hI1,hW1s⟩
 case round =>
  clear hJ1 hI1;obtain⟨k,pre,hk,rfl,hpre,hJk,hI,hzr⟩:=hrel;by_cases hlt:k<ps.length
  ·have hltI:(k:Int)<(ps.length:Int):=by omega
   have hLr:=a0b a2h hI.row (by omega);obtain⟨b,off,cap,hv,-,hbl,hc⟩:=hLr.some_ (by omega);simp only[Value.slice.injEq,true_and] at hv;obtain⟨rfl,rfl⟩:=hv;obtain⟨p,hp⟩:∃p,ps[k]=p:=⟨_,rfl⟩;have hck:=hc k hlt;rw[hp] at hck;obtain⟨hpo,hpc⟩:=hokS p (hp▸List.getElem_mem hlt);have hsplit:ps=pre.map Prod.fst++p::ps.drop (k+1):=by
    rw[hpre,←hp,←List.drop_eq_getElem_cons hlt,List.take_append_drop]
   have hprel:pre.length=k:=by
    have:=congrArg List.length hpre;rw[List.length_map,List.length_take] at this;omega
   have hnext:(pre++[(p,(.slice none 0 0:Value))]).map Prod.fst=ps.take (k+1):=by
    rw[List.map_append,hpre,List.take_add_one,List.getElem?_eq_getElem hlt,hp];rfl
   have d0:wr.cell? ⟨b,off+k*7,none⟩=some (.int .i64 p.id):=hck 0 (show 0<7 by decide);have d1:wr.cell? ⟨b,off+k*7+1,none⟩=some (.int .i64 p.x):=hck 1 (show 1<7 by decide);have d2:wr.cell? ⟨b,off+k*7+2,none⟩=some (.int .i64 p.y):=hck 2 (show 2<7 by decide);have d3:wr.cell? ⟨b,off+k*7+3,none⟩=some (.string p.cls):=hck 3 (show 3<7 by decide);have d4:wr.cell? ⟨b,off+k*7+4,none⟩=some (.string p.nm):=hck 4 (show 4<7 by decide);have d5:wr.cell? ⟨b,off+k*7+5,none⟩=some (.int .i64 p.wt):=hck 5 (show 5<7 by decide);have d6:wr.cell? ⟨b,off+k*7+6,none⟩=some (.int .i64 p.ds):=hck 6 (show 6<7 by decide);obtain⟨s0,s1,s2,s3,s4,s5⟩:wr.cell? ⟨Bs,0,none⟩=some (.int .i64 s.ax)∧wr.cell? ⟨Bs,1,none⟩=some (.int .i64 s.ay)∧wr.cell? ⟨Bs,2,none⟩=some (.int .i64 s.st)∧wr.cell? ⟨Bs,3,none⟩=some (.int .i64 s.w)∧wr.cell? ⟨Bs,4,none⟩=some (.int .i64 s.h)∧wr.cell? ⟨Bs,5,none⟩=some (.int .i64 s.g):=⟨hI.bs.cell 0,hI.bs.cell 1,hI.bs.cell 2,hI.bs.cell 3,hI.bs.cell 4,hI.bs.cell 5⟩;obtain⟨id,x,y,cls,nm,wt,ds⟩:=p;have hPl:=c5i s id x y wt ds id cls nm;obtain⟨r,hr⟩:∃r,plF s x y id cls id=r:=⟨_,rfl⟩;have hpf:pfS s ⟨id,x,y,cls,nm,wt,ds⟩=r:=hr;simp only[hr] at hPl;obtain⟨on,dl⟩:=r;simp only at hPl d0 d1 d2 d3 d4 d5 d6;have hidf:=hpo.id;simp only at hidf hpc;have hPw:∀W',Below n0 wr W'→Pow W':=fun W' h=>hPow W' (hI.bel.trans h)
   clear hc hck hLr hp hr hpo;go_upto_region 4 with (first
    |(go_at_call 23;(with_reducible refine (hPl _ f0 f1 hidf hpc (hPw _ (((zR _ _).alloc (yR _) _).mono (by omega)))).mono ?_);rintro e W4⟨vd,rfl,hd4,hfd4,hb4⟩)
    |fail)
   have hs4:=hb4.size;rw[World.size_alloc] at hs4;have hb5:Below wr.heap.size wr W4:=((zR _ _).alloc (yR _) _).trans (hb4.mono (by rw[World.size_alloc];omega));have kp:Blk W4 wr.heap.size #[.int .i64 id,.int .i64 x,.int .i64 y,.string cls,.string nm,.int .i64 wt,.int .i64 ds] 66:=(Blk.new wr _ _).below hb4 (by rw[World.size_alloc];omega);have hg5:wr.grownBy W4 none:=a2e none hb5;have hJ4:J pre W4:=hJ pre wr W4 none hJk hg5 (by simp);have hI4:=hI.below hb5 (fun k=>hCb pre wr W4 none k hJk hg5 (by simp)) (by omega);have hKx:KxC s ps pre (⟨id,x,y,cls,nm,wt,ds⟩,vd) W4:=by
    refine⟨⟨_,hsplit⟩,?_,?_⟩
    ·show Lst dtE W4.heap.size W4 vd (pfS s ⟨id,x,y,cls,nm,wt,ds⟩).2
     rw[hpf];exact hd4
    ·show Frm vd (pfS s ⟨id,x,y,cls,nm,wt,ds⟩).2.length
     rw[hpf];exact hfd4
   obtain⟨fn,tmps,assign,body,hy,hRd⟩:=hY pre (⟨id,x,y,cls,nm,wt,ds⟩,vd) W4 hJ4 hKx (by omega);simp only[d2f,hpf] at hy;obtain⟨a4,n4,c4,rfl,-⟩:∃a n c,vd= .slice a n c∧n=dl.length:=by
    obtain⟨a,c,h,-⟩:=hd4.form;exact⟨a,_,c,h,rfl⟩
   obtain⟨p0,p1,p2,p3,p4,p5,p6⟩:W4.cell? ⟨wr.heap.size,0,none⟩=some (.int .i64 id)∧W4.cell? ⟨wr.heap.size,1,none⟩=some (.int .i64 x)∧W4.cell? ⟨wr.heap.size,2,none⟩=some (.int .i64 y)∧W4.cell? ⟨wr.heap.size,3,none⟩=some (.string cls)∧W4.cell? ⟨wr.heap.size,4,none⟩=some (.string nm)∧W4.cell? ⟨wr.heap.size,5,none⟩=some (.int .i64 wt)∧W4.cell? ⟨wr.heap.size,6,none⟩=some (.int .i64 ds):=⟨kp.cell 0,kp.cell 1,kp.cell 2,kp.cell 3,kp.cell 4,kp.cell 5,kp.cell 6⟩;clear hPl hb4 kp hKx hd4 hfd4 hJ4 hI hJk hg5;refine (wpIn_wide (n:=n)).1 ?_;gi_wp2;refine hRd.mono ?_;rintro e W5 (⟨rfl,hJ5,hk5⟩|⟨ch,rfl,hp⟩)
   ·gi_wp2
    go_wp2_with fail;go_roundw
    case rel =>
     have:=hk5.k.size;exact⟨k+1,pre++[(⟨id,x,y,cls,nm,wt,ds⟩,.slice a4 n4 c4)],by omega,by go_num,by rw[List.map_append] at hnext ⊢;exact hnext,hJ5,hI4.keep hk5,by omega⟩
    case measure=>simp[intOf];omega
   ·gi_wp2
    exact⟨rfl,.inr ⟨ch,rfl,hp⟩⟩
  ·obtain rfl:k=ps.length:=by omega
   have hge:¬(ps.length:Int)<(ps.length:Int):=by omega
   go_wp2_with fail;go_end0;exact .inl ⟨⟨_,rfl⟩,pre,by rw[hpre,List.take_length],hJk⟩
end
section
open Go Go.RowKit
theorem a8p {F:Fence}{n:Nat}{P:Program}{α:Type}{g:Operand}{ps:Array Tmp}{assign body:Code}{Q:Exit→Act→World→Prop}{a:Act}{w:World}
 (hro:F.round=none) (h1:1≤n) {gf:Nat} {lb:Array Value} (hg:a.eval g= .func (.func gf) #[] lb) (hFg:F.fn gf) (eg:∀args w,(callFunc gf args).run P w= .ok (.enter gf args) w)
 {encs:α→Array Value} {C:World→Nat→Prop} (hC:∀(W:World) (l k:Nat) (o o':Obj),W.heap[l]? =some o→a5t o=true→a5t o'=true→(C (W.putObj l o') k↔C W k)) (hCl:∀(W:World) (l:Nat) (o:Obj),W.heap[l]? =some o→a5t o=true→¬C W l)
 (hCa:∀(W:World) (k:Nat) (o:Obj),C (W.alloc o) k→a5t o=true→C W k) (hC0:∀k,C w k→k<w.heap.size)
 {n0:Nat} (hn0:n0≤w.heap.size) {Kx:List α→α→World→Prop} (hKp:∀pre x (W:World) (l:Nat) (o o':Obj),W.heap[l]? =some o→a5t o=true→a5t o'=true→Kx pre x W→Kx pre x (W.putObj l o')) {S:List α→Prop} {N:Nat} {w0:World} (hseq:d2d F (n-1) P gf lb encs C n0 Kx S N w0) (hb0:Below w0.heap.size w0 w) (hps:∀x,(encs x).size=ps.size)
 (I:List α→World→Prop) (hI:∀pre A A' row,I pre A→A.grownBy A' row→(∀r,row=some r→w.heap.size≤r∧¬C A r)→I pre A') (hIC:∀pre A A' row k,I pre A→A.grownBy A' row→(∀r,row=some r→¬C A r)→C A' k→C A k) (h0:I [] w) (Ip:List PanicEntry→World→Prop) (hfs:∀ch W,Ip ch W→∀fn,F.fn fn→∃x,P.funcs[fn]? =some x) (tb:TypeId) (bx:α→Array Value) (hKa:∀pre x (W:World) (o:Obj),Kx pre x W→Kx pre x (W.alloc o)) (hCs:∀pre W k,I pre W→C W k→k<W.heap.size) (a₁:α→Nat→Act)
 (hassign:∀(l:Nat) (pre:List α) (x:α) (W:World) (K:Act→World→Prop),Kx pre x W→K (a₁ x W.heap.size) (W.alloc (.cells (bx x) tb))→assign.wpIn (F.inRound l) (n-1-1) P (Exit.then K (fun _ _ _=>False)) { tmps:=(ps.zip (encs x)).foldl (fun t (p,v)=>t.setIfInBounds p v) a.tmps,defers:=[] } W)
 (hbody:∀(l:Nat) (pre:List α) (x:α) (W:World) (B:Nat),I pre W→Kx pre x W→Blk W B (bx x) tb→w.heap.size≤B→(∀k,C W k→k≠B)→pre.length<N→body.wpIn (F.inRound l) (n-1-1) P (fun e a' W'=>(e= .normal∧KeepP C n0 W W'∧I (pre++[x]) W')∨∃ch,e= .panic ch∧a'.defers=[]∧KeepP C n0 W W'∧Ip ch W') (a₁ x B) W)
 (hpan:∀(D:Nat) (ch:List PanicEntry) (W:World),w.heap.size≤D→Ip ch W→W.heap[D]? =some (.deferred (some []))→Q (.panic ch) { a with defers:={ target:= .collected D,args:= #[] }::a.defers } W)
 (hdone:∀(D:Nat) (xs:List α) (W:World),w.heap.size≤D→S xs→I xs W→W.heap[D]? =some (.deferred (some []))→Q .normal { a with defers:={ target:= .collected D,args:= #[] }::a.defers } W) :
 (Code.rangeFunc g ps assign body).wpIn F n P Q a w:=by
 refine wpIn_rangeFunc fun fn hfn=> ?_
 rw[hro]
 -- the two blocks of the statement: the rounds' deferred calls, and the loop's record, in its states
 obtain⟨D,hD⟩:∃D,w.heap.size=D:=⟨_,rfl⟩;let R:LoopState→Option Code→Loop:=fun st pe=>{ state:=st,pending:=pe,fn,tmps:=a.tmps,params:=ps,assign,body,defers:=D }
 let W1:World:=(w.alloc (.deferred (some []))).alloc (.loop (R .ready none))
 have s1:W1.heap.size=D+2:=by simp[W1,hD]
 have g1:w.grownBy W1 none:=by
  have e1:=World.grownBy_alloc w (.deferred (some [])) none;have e2:=World.grownBy_alloc (w.alloc (.deferred (some []))) (.loop (R .ready none)) none;exact⟨e2.os.trans e1.os,e2.tape.trans e1.tape,e2.output.trans e1.output,Nat.le_trans e1.size e2.size,fun k hk hn=>(e2.block k (by simp;omega) hn).trans (e1.block k hk hn)⟩
 have l1:W1.heap[D+1]? =some (.loop (R .ready none)):=by
  have:=World.alloc_heap_new (w.alloc (.deferred (some []))) (.loop (R .ready none));rwa [World.size_alloc,hD] at this
 have d1:W1.heap[D]? =some (.deferred (some [])):=by
  have:=(Below.heap_alloc (w.alloc (.deferred (some []))) (.loop (R .ready none)) w.heap.size (by simp)).trans (World.alloc_heap_new w _);rwa [hD] at this
 have hCW:∀k,C W1 k→k<W1.heap.size:=fun k hk=>by
  have:=hC0 k (hCa _ k _ (hCa _ k _ hk rfl) rfl);omega
 refine⟨D+1,[{ target:= .collected D,args:= #[] }],W1,{ target:= .fn (.func gf) lb,args:= #[.func (.yield (D+1)) #[] #[]] },W1,gf,#[.func (.yield (D+1)) #[] #[]]++lb,W1,?_,?_,?_,?_,fun _=>h1,?_⟩
 ·subst hD
  exact run_enterLoop_outer _ _ _ _ _
 ·simp only[resolve,hg]
  simp[go_sem]
 ·intro f' hf'
  simp[Target.leads] at hf';subst hf';exact hFg
 ·simp[invoke,go_sem,eg]
 ·have hb1:Below w0.heap.size w0 W1:=hb0.trans ((show Below w.heap.size w W1 from ⟨g1.os,g1.tape,g1.output,g1.size,fun k hk=>g1.block k hk (by simp)⟩).mono hb0.size)
  refine (hseq (D+1) (fun pre W=>I pre W∧W.heap[D+1]? =some (.loop (R .ready none))∧W.heap[D]? =some (.deferred (some []))) (fun ch W=>Ip ch W∧W.heap[D]? =some (.deferred (some []))) W1 hb1 ?_ (fun s A A' row k hJ=>hIC s A A' row k hJ.1) hCW ?_ ⟨hI [] w W1 none h0 g1 (by simp),l1,d1⟩).mono ?_
  ·rintro s A A' row⟨hi,hl,hd⟩ hgr hr
   have hne:∀k,k<D+2→some k≠row:=fun k hk e=>by have:=(hr k e.symm).1;omega
   exact⟨hI s A A' row hi hgr (fun r e=>⟨by have:=(hr r e).1;omega,(hr r e).2⟩),(hgr.block _ (Array.getElem?_eq_some_iff.1 hl).1 (hne _ (by omega))).trans hl,(hgr.block _ (Array.getElem?_eq_some_iff.1 hd).1 (hne _ (by omega))).trans hd⟩
  ·rintro pre x W⟨hi,hl,hd⟩ hkx hlen
   have hlt:D+1<W.heap.size:=(Array.getElem?_eq_some_iff.1 hl).1;have hy:=run_yield (P:=P) (args:=encs x) hl (hps x);refine⟨fn,_,assign,body,hy,b6m hfn (fun ch w hR=>hR.elim (fun h=>nomatch h.1) (fun h=>by obtain⟨ch',h1,h2⟩:=h;cases h1;exact hfs ch w h2.1 fn hfn)) (hassign _ pre x W _ hkx ?_)⟩;have hgA:W.grownBy (W.alloc (.cells (bx x) tb)) none:=World.grownBy_alloc W _ none;obtain⟨Wa,hWa⟩:∃Wa,W.alloc (.cells (bx x) tb)=Wa:=⟨_,rfl⟩;have hsa:Wa.heap.size=W.heap.size+1:=by rw[←hWa];simp
   have hba:∀k,k<W.heap.size→Wa.heap[k]? =W.heap[k]? :=fun k hk=>by rw[←hWa];exact hgA.block k hk (by simp)
   have hka:Blk Wa W.heap.size (bx x) tb:=by rw[←hWa];exact Blk.new _ _ _
   have hia:I pre Wa:=by rw[←hWa];exact hI pre W _ none hi hgA (by simp)
   have hca:∀k,C Wa k→C W k:=fun k hk=>by rw[←hWa] at hk;exact hIC pre W _ none k hi hgA (by simp) hk
   have hxa:Kx pre x Wa:=by rw[←hWa];exact hKa pre x W _ hkx
   have hla:Wa.heap[D+1]? =some (.loop (R .ready none)):=(hba _ hlt).trans hl;have hda:Wa.heap[D]? =some (.deferred (some [])):=(hba _ (by omega)).trans hd;have hlW:W.heap[D+1]? =some (.loop (R .ready none)):=hl;have hsz:D+1<W.heap.size:=hlt;have hbWa:Below n0 W Wa:=by rw[←hWa];exact a1i hgA (by omega) (fun r e=>by cases e)
   rw[hWa];refine⟨_,run_beginRound hla rfl,?_⟩;obtain⟨W2,hW2⟩:∃W2,Wa.putObj (D+1) (.loop { R .ready none with state:= .busy })=W2:=⟨_,rfl⟩;have hlta:D+1<Wa.heap.size:=by omega
   have hl2:W2.heap[D+1]? =some (.loop { R .ready none with state:= .busy }):=by rw[←hW2];exact World.putObj_heap_same hlta
   have hd2:W2.heap[D]? =some (.deferred (some [])):=by rw[←hW2];exact (World.putObj_heap_other (by omega)).trans hda
   have hi2:I pre W2:=by
    rw[←hW2];exact hI pre Wa _ (some (D+1)) hia (grownBy_putObj' Wa _ _) (fun r e=>by cases e;exact⟨by omega,hCl Wa _ _ hla rfl⟩)
   have hkx2:Kx pre x W2:=by rw[←hW2];exact hKp pre x Wa _ _ _ hla rfl rfl hxa
   have hbW:Below n0 W W2:=hbWa.trans (by rw[←hW2];exact a1i (grownBy_putObj' Wa (D+1) _) (by omega) (fun r e=>by cases e;omega));have hs2:W2.heap.size=W.heap.size+1:=by rw[←hW2,←hsa];simp
   have hc2:∀k,C W2 k→C W k:=fun k h=>by rw[←hW2] at h;exact hca k ((hC Wa _ k _ _ hla rfl rfl).1 h)
   have hb2:∀k,k<W.heap.size→k≠D+1→W2.heap[k]? =W.heap[k]? :=fun k hk hne=>by rw[←hW2];exact (World.putObj_heap_other hne).trans (hba k hk)
   have hB2:Blk W2 W.heap.size (bx x) tb:=by rw[←hW2];exact (World.putObj_heap_other (by omega)).trans hka
   show body.wpIn (F.inRound (D+1)) (n-1-1) P _ _ (Wa.putObj (D+1) (.loop { R .ready none with state:= .busy }));rw[hW2];refine wpIn_mono (hbody _ pre x W2 W.heap.size hi2 hkx2 hB2 (by omega) (fun k hk=>by have:=hCs pre W k hi (hc2 k hk);omega) hlen) ?_;rintro e a3 W3 (⟨rfl,⟨hk,hkb⟩,hi3⟩|⟨ch,rfl,hd0,⟨hk,hkb⟩,hp3⟩)
   rotate_left
   ·exact⟨hd0,.inr ⟨ch,rfl,hp3,(hk.same _ (by omega) (hCl W2 _ _ hd2 rfl)).trans hd2⟩⟩
   have hl3:W3.heap[D+1]? =some (.loop { R .ready none with state:= .busy }):=(hk.same _ (by omega) (hCl W2 _ _ hl2 rfl)).trans hl2;have hd3:W3.heap[D]? =some (.deferred (some [])):=(hk.same _ (by omega) (hCl W2 _ _ hd2 rfl)).trans hd2;have hlt3:D+1<W3.heap.size:=(Array.getElem?_eq_some_iff.1 hl3).1;have hr:=run_endRound (P:=P) none hl3;refine⟨_,_,hr,.inl ⟨rfl,⟨?_,World.putObj_heap_same hlt3,(World.putObj_heap_other (by omega)).trans hd3⟩,⟨⟨?_,fun k hlk hnc=> ?_,fun k hc=> ?_⟩,(hbW.trans hkb).trans (a1i (grownBy_putObj' W3 (D+1) _) (by have:=hbW.size;have:=hkb.size;omega) (fun r e=>by cases e;omega))⟩⟩⟩
   ·exact hI _ W3 _ (some (D+1)) hi3 (grownBy_putObj' W3 _ _) (fun r e=>by cases e;exact⟨by omega,hCl W3 _ _ hl3 rfl⟩)
   ·have:=hk.size
    rw[hs2] at this;simp;omega
   ·by_cases hkl:k=D+1
    ·subst hkl
     rw[hl];exact World.putObj_heap_same hlt3
    ·exact (World.putObj_heap_other hkl).trans ((hk.same k (by omega) (fun h=>hnc (hc2 k h))).trans (hb2 k hlk hkl))
   ·rcases hk.mine k ((hC W3 _ k _ _ hl3 rfl rfl).1 hc) with h|h
    ·exact .inl (hc2 k h)
    ·exact .inr (by omega)
  ·rintro e W2 (⟨⟨v,rfl⟩,xs,hS,hi,hl,hd⟩|⟨ch,rfl,hp,hd⟩)
   rotate_left
   ·exact hpan D ch W2 (by omega) hp hd
   have hr:=run_endLoop (P:=P) hl (by simp[R]);refine⟨none,_,hr,?_⟩;exact hdone D xs _ (by omega) hS (hI _ W2 _ (some (D+1)) hi (grownBy_putObj' W2 _ _) (fun r e=>by cases e;exact⟨by omega,hCl W2 _ _ hl rfl⟩)) ((World.putObj_heap_other (by omega)).trans hd)
theorem a7t {F:Fence}{n:Nat}{P:Program}{α:Type}{g:Operand}(slot sbox:Nat)(encV:α→Value){assign body:Code}{Q:Exit→Act→World→Prop}{a:Act}{w:World}
 (hro:F.round=none) (h1:1≤n) {gf:Nat} {lb:Array Value} (hg:a.eval g= .func (.func gf) #[] lb) (hFg:F.fn gf) (eg:∀args w,(callFunc gf args).run P w= .ok (.enter gf args) w)
 {C:World→Nat→Prop} (hC:∀(W:World) (l k:Nat) (o o':Obj),W.heap[l]? =some o→a5t o=true→a5t o'=true→(C (W.putObj l o') k↔C W k)) (hCl:∀(W:World) (l:Nat) (o:Obj),W.heap[l]? =some o→a5t o=true→¬C W l)
 (hCa:∀(W:World) (k:Nat) (o:Obj),C (W.alloc o) k→a5t o=true→C W k) (hC0:∀k,C w k→k<w.heap.size)
 {n0:Nat} (hn0:n0≤w.heap.size) {Kx:List α→α→World→Prop} (hKp:∀pre x (W:World) (l:Nat) (o o':Obj),W.heap[l]? =some o→a5t o=true→a5t o'=true→Kx pre x W→Kx pre x (W.putObj l o')) {S:List α→Prop} {N:Nat} {w0:World} (hseq:d2d F (n-1) P gf lb (fun x=> #[encV x]) C n0 Kx S N w0) (hb0:Below w0.heap.size w0 w)
 (I:List α→World→Prop) (hI:∀pre A A' row,I pre A→A.grownBy A' row→(∀r,row=some r→w.heap.size≤r∧¬C A r)→I pre A') (hIC:∀pre A A' row k,I pre A→A.grownBy A' row→(∀r,row=some r→¬C A r)→C A' k→C A k) (h0:I [] w) (Ip:List PanicEntry→World→Prop) (hfs:∀ch W,Ip ch W→∀fn,F.fn fn→∃x,P.funcs[fn]? =some x) (tb:TypeId) (bx:α→Array Value) (hKa:∀pre x (W:World) (o:Obj),Kx pre x W→Kx pre x (W.alloc o)) (hCs:∀pre W k,I pre W→C W k→k<W.heap.size)
 (hassign:∀(l:Nat) (pre:List α) (x:α) (W:World) (K:Act→World→Prop),Kx pre x W→(∀a',a'={ tmps:=(a.tmps.setIfInBounds slot (encV x)).setIfInBounds sbox (.pointer (some ⟨W.heap.size,0,none⟩)),defers:=[] }→K a' (W.alloc (.cells (bx x) tb)))→assign.wpIn (F.inRound l) (n-1-1) P (Exit.then K (fun _ _ _=>False)) { tmps:=a.tmps.setIfInBounds slot (encV x),defers:=[] } W)
 (hbody:∀(l:Nat) (pre:List α) (x:α) (W:World) (B:Nat),I pre W→Kx pre x W→Blk W B (bx x) tb→w.heap.size≤B→(∀k,C W k→k≠B)→pre.length<N→body.wpIn (F.inRound l) (n-1-1) P (fun e a' W'=>(e= .normal∧KeepP C n0 W W'∧I (pre++[x]) W')∨∃ch,e= .panic ch∧a'.defers=[]∧KeepP C n0 W W'∧Ip ch W') ({ tmps:=(a.tmps.setIfInBounds slot (encV x)).setIfInBounds sbox (.pointer (some ⟨B,0,none⟩)),defers:=[] }:Act) W)
 (hpan:∀(D:Nat) (ch:List PanicEntry) (W:World),w.heap.size≤D→Ip ch W→W.heap[D]? =some (.deferred (some []))→Q (.panic ch) { a with defers:={ target:= .collected D,args:= #[] }::a.defers } W)
 (hdone:∀(D:Nat) (xs:List α) (W:World),w.heap.size≤D→S xs→I xs W→W.heap[D]? =some (.deferred (some []))→Q .normal { a with defers:={ target:= .collected D,args:= #[] }::a.defers } W) :
 (Code.rangeFunc g #[slot] assign body).wpIn F n P Q a w :=
 a8p hro h1 hg hFg eg hC hCl hCa hC0 hn0 hKp hseq hb0 (fun _=>rfl) I hI hIC h0 Ip hfs tb bx hKa hCs (fun x B=>{ tmps:=(a.tmps.setIfInBounds slot (encV x)).setIfInBounds sbox (.pointer (some ⟨B,0,none⟩)),defers:=[] }) (fun l pre x W K hx hK=>by simpa using hassign l pre x W K hx fun a' ha=>ha▸hK) hbody hpan hdone
end
section
open Go Go.RowKit Go.Shelf Go.Lib
attribute [local go_sem] Oper.semAt_some
attribute [local go_sem ↓] Go.wp_at_zero Go.wp_at_succ
section
variable {P:Program}{α:Type}{E:El α}{st:TypeId}{F:Fence}{n:Nat}
theorem b4f (w:World)(t ty e:TypeId)(i:TypeInfo)(ht:P.underlying t=some (.slice e))(hi:P.info? e=some i):(Builtin.append_ #[t,t] ty #[.slice none 0 0,.slice none 0 0]).run P w= .ok (.slice none 0 0) w:=by
 have hn:(Builtin.firstCells i.size 0 (.slice none 0 0)).run P w= .ok #[] w:=run_firstCells_none _ _ _ _ _;simp[Builtin.append_,run_underlying ht,sizeOf,typeInfo,hi,Builtin.lenOf,hn]
theorem El.append_all (hE:E.Ok)(hI:E.In P st)(W:World)(base:Nat)(v xv:Value)(l l2:List α)(ty:TypeId)(hv:W.ownsRow base E.t E.s v l.length (l.flatMap E.enc)){n0:Nat}(hx:Lst E n0 W xv l2)(hf:Frm xv l2.length)(hl:l.length+l2.length≤100000)(hb:base≤W.heap.size) :
 ∃v' W',(Builtin.append_ #[st,st] ty #[v,xv]).run P W= .ok v' W'∧W'.ownsRow base E.t E.s v' (l++l2).length ((l++l2).flatMap E.enc)∧W.grownBy W' v.ownBlock∧Below base W W'∧(v'.ownBlock=v.ownBlock∨v'.ownBlock=some W.heap.size):=by
 obtain⟨i0,z,hi0,hz0,hz1,hz2,hz3⟩:=hI.info;rcases hf with rfl|⟨b,off,cap,rfl⟩
 ·obtain rfl:l2=[]:=by
   obtain⟨a,c,h,-⟩:=hx.form;simp only[Value.slice.injEq] at h;exact List.eq_nil_of_length_eq_zero h.2.1.symm
  by_cases hn:v= .slice none 0 0
  ·subst hn
   exact⟨_,W,b4f W st ty E.t i0 hI.under hi0,by rw[List.append_nil];exact hv,⟨rfl,rfl,rfl,yR _,fun _ _ _=>rfl⟩,⟨rfl,rfl,rfl,yR _,fun _ _=>rfl⟩,.inl rfl⟩
  ·have hsm:∃g c,v= .slice (some ⟨g,0,none⟩) l.length c:=by
    rcases hv.2 with ⟨e,-⟩|⟨g,c,cur,e,-⟩
    ·exact absurd e hn
    ·exact⟨g,c,e⟩
   obtain⟨v',W',hr,h2,h3,h4,-⟩:=El.append_join hE hI W base v (.slice none 0 0) l [] ty hv hsm hx (.inl rfl) hl hb;obtain⟨g,c,rfl⟩:=hsm;have hs:Src P i0.size st (.slice none 0 0) 0 [] W:=Src.ofNil W hI.under 0;have hlc:l.length+0≤c:=by
    rcases hv.2 with ⟨e,-⟩|⟨g',cap',cur,e,-,-,h1,-⟩
    ·cases e
    ·simp only[Value.slice.injEq,true_and] at e
     omega
   have hr2:=run_append_room_src (P:=P) W st st ty E.t i0 hI.under hi0 g 0 l.length c (.slice none 0 0) 0 [] hs hlc (by simp) (by simp);rw[hr] at hr2;simp only[Result.ok.injEq] at hr2;exact⟨v',W',hr,h2,h3,h4,.inl (by rw[hr2.1];rfl)⟩
 ·have hnews:∀j u,(l2.flatMap E.enc)[j]? =some u→W.cell? ((⟨b,off,none⟩:Addr).add j)=some u:=fun j u hj=>by
   rw[Addr.add_lit];exact hx.flat hE j u hj
  obtain⟨v',W',hr,hown,hg,-,h5⟩:=run_append_own_at (P:=P) W base st ty E.t i0 _ E.s i0.bytes hI.under hi0 hz0 hz1 rfl hz3 hE.pos _ l.length _ hv ⟨b,off,none⟩ l2.length cap (l2.flatMap E.enc) (a1c hE l2) hnews (a4w hE l2) (by unfold maxLen;omega) (Nat.le_trans (Nat.mul_le_mul (show l.length+l2.length≤100000 by omega) hz2) (by decide)) hb;refine⟨v',W',hr,?_,hg,a1i hg hb (fun k e=>(hv.lt k e).1),h5⟩;rw[List.length_append,List.flatMap_append];exact hown
theorem El.allIn (hE:E.Ok)(hI:E.In P st){ops:Array Oper}{rest:List Oper}{o:Oper}{a:Act}{w:World}{Q:Exit→Act→World→Prop}(hgd:o.guard=none)(s x:Operand)
 (ho:o.op= .call { callee:= .builtin .append,args:= #[s,x],argTypes:= #[st,st] }) (base:Nat) {v:Value} (hs:a.eval s=v) (l:List α) (hv:w.ownsRow base E.t E.s v l.length (l.flatMap E.enc)) {xv:Value} (l2:List α) (hxv:a.eval x=xv) {n0:Nat} (hx:Lst E n0 w xv l2) (hf:Frm xv l2.length) (hl:l.length+l2.length≤100000) (hb:base≤w.heap.size)
 (hab:∀f,o.about P w a.eval=some f→F.fn f)
 (h:∀v' w',w'.ownsRow base E.t E.s v' (l++l2).length ((l++l2).flatMap E.enc)→w.grownBy w' v.ownBlock→Below base w w'→(v'.ownBlock=v.ownBlock∨v'.ownBlock=some w.heap.size)→wpListIn F n P ops Q rest (a.put o.dst v') w') :
 wpListIn F n P ops Q (o::rest) a w:=by
 obtain⟨v',w',hr,h2,h3,h4,h5⟩:=El.append_all hE hI w base v xv l l2 o.type hv hx hf hl hb;refine wpListIn_plain hgd fun K hK=> ?_
 unfold Oper.wpIn;refine⟨hab,?_⟩;unfold Oper.semAt execOp
 cases hro:F.round <;>
 ·simp only[ho,resolve,invoke,builtin,Sem.run_bind,Sem.run_pure,Result.andThen_ok,List.map_toArray,List.map_cons,List.map_nil,hs,hxv,hr]
  exact hK _ _ (h v' w' h2 h3 h4 h5)
end
end
end Go.Proofs.YtfocdbjceedagaaGreatDoor
