/-
  Parts.
-/
import Derived.Test.YtfocdbjceedagaaGreatDoorXax
import Derived.Recover
import Derived.Defers
set_option linter.unusedVariables false
set_option linter.unusedSimpArgs false
set_option maxHeartbeats 4000000
set_option maxRecDepth 100000
namespace Go.Proofs.YtfocdbjceedagaaGreatDoor
open Tryz
section
open Go Go.RowKit Go.Shelf Go.Lib Go.Maps
attribute [local go_sem] Oper.semAt_some
attribute [local go_sem ↓] Go.wp_at_zero Go.wp_at_succ
theorem d3a {pl:Pn}{id:Int}{k:Nat}(h:why pl id=some k):∃hk:k<pl.left.length,pl.left[k]? =some pl.left[k]:=by
 unfold why at h;obtain⟨hk,-⟩:=List.findIdx?_eq_some_iff_getElem.1 h;exact⟨hk,List.getElem?_eq_getElem hk⟩
section
variable {g:Int}{pf:Pc→Bool×List Dt}{pl:Pn}{bef:List Int}{p:Pc}
theorem c5q (h:why pl p.id=none):a2e g pf pl bef p=some (p.id::bef):=by
 unfold a2e;rw[h];rfl
theorem c5r (h:p.id∈bef):a2e g pf pl bef p=some (p.id::bef):=by
 unfold a2e;split
 ·rfl
 ·rw[if_pos h]
theorem b9p {k:Nat}{l:Lf}(h:why pl p.id=some k)(hl:pl.left[k]? =some l)(hn:p.id∉bef):a2e g pf pl bef p=if b7w g pf pl bef p l then some (p.id::bef) else none:=by
 unfold a2e;rw[h,Option.bind_some,hl];simp only;rw[if_neg hn]
theorem c5s {l:Lf}(h:l.k=0∧l.i=0):b7w g pf pl bef p l= !(pf p).1:=by
 unfold b7w;rw[if_pos h]
theorem c9a {l:Lf}(h:¬(l.k=0∧l.i=0)):b7w g pf pl bef p l=((pf p).1&&(decide (l.k=2)||(decide (l.k=3)&&decide (l.i≠p.id)&&decide (l.i∈p.id::bef)))&&(a4g g (pl.dots.filter fun d=> !a4c l.k l.i d) (pf p).2).isSome):=by
 unfold b7w;rw[if_neg h,show (fun d:Dt=> !a4c l.k l.i d)=(fun d=>decide (d.k=l.k)&&decide (d.i=l.i)) from funext fun d=>by unfold a4c;simp]
end
theorem b9q (s:Sh)(f0:a0k s.ax)(f1:a0k s.ay)(hs:a1x s=0)(ev fv wv pv dv kv lv:Value)(l:List Pc)(pl:Pn)(w:World)(hL:Lst plE w.heap.size w pv l)(hF:Frm pv l.length)(hl:l.length≤100)(hok:∀p∈l,PcOk p∧p.cls.size≤1000)
 (hPow:∀W,Below w.heap.size w W→Pow W) (hd:Lst dtE w.heap.size w dv pl.dots) (hdf:Frm dv pl.dots.length) (hsm:∀d∈pl.dots,Sm d) (hpl:pl.dots.length≤10000) (hlf:Lst lfE w.heap.size w lv pl.left) (hff:Frm lv pl.left.length) (hfi:∀x∈pl.left,a0k x.i) :
 Calls prog 51 #[c0p ev fv wv pv,shV s,a2f dv kv lv] w fun e w'=>(a2v s.g (pfS s) pl (a1d l)=true∧e= .returned (.tuple #[])∨a2v s.g (pfS s) pl (a1d l)=false∧e= .panicked (b9i 42))∧Below w.heap.size w w':=by
 have hsk:=a6o hs;obtain⟨pa,pc,rfl,-⟩:=hL.form;obtain⟨da,dc,rfl,-⟩:=hd.form;obtain⟨la,lc,rfl,-⟩:=hlf.form;have hCa:=fun w4=>a4o s ev fv wv (.slice pa l.length pc) w4
 refine (callsIn_wide (n:=3)).1 ?_;refine a7z (f:=51) func51 rfl trivial rfl ?_;simp only[ntmps51,List.size_toArray,List.length_cons,List.length_nil,Nat.reduceAdd,Nat.reduceSub,Array.replicate_succ,Array.replicate_zero,List.push_toArray,List.append_toArray,List.nil_append,List.cons_append];refine AtFn.seq (AtFn.of (wpIn_wide.2 ?_));go_wp2_with fail;have k1:=((Blk.new w #[ev,fv,wv,.slice pa l.length pc] 37).alloc (.cells #[.int .i64 s.ax,.int .i64 s.ay,.int .i64 s.st,.int .i64 s.w,.int .i64 s.h,.int .i64 s.g] 28)).alloc (.cells #[.slice da pl.dots.length dc,kv,.slice la pl.left.length lc] 45);have k2:=(Blk.new (w.alloc (.cells #[ev,fv,wv,.slice pa l.length pc] 37)) #[.int .i64 s.ax,.int .i64 s.ay,.int .i64 s.st,.int .i64 s.w,.int .i64 s.h,.int .i64 s.g] 28).alloc (.cells #[.slice da pl.dots.length dc,kv,.slice la pl.left.length lc] 45);have k3:=Blk.new ((w.alloc (.cells #[ev,fv,wv,.slice pa l.length pc] 37)).alloc (.cells #[.int .i64 s.ax,.int .i64 s.ay,.int .i64 s.st,.int .i64 s.w,.int .i64 s.h,.int .i64 s.g] 28)) #[.slice da pl.dots.length dc,kv,.slice la pl.left.length lc] 45;have hw1:Below w.heap.size w (((w.alloc (.cells #[ev,fv,wv,.slice pa l.length pc] 37)).alloc (.cells #[.int .i64 s.ax,.int .i64 s.ay,.int .i64 s.st,.int .i64 s.w,.int .i64 s.h,.int .i64 s.g] 28)).alloc (.cells #[.slice da pl.dots.length dc,kv,.slice la pl.left.length lc] 45)):=(((zR _ _).alloc (yR _) _).alloc (by simp) _).alloc (by simp;omega) _;obtain⟨W1,hW1⟩:∃W1,((w.alloc (.cells #[ev,fv,wv,.slice pa l.length pc] 37)).alloc (.cells #[.int .i64 s.ax,.int .i64 s.ay,.int .i64 s.st,.int .i64 s.w,.int .i64 s.h,.int .i64 s.g] 28)).alloc (.cells #[.slice da pl.dots.length dc,kv,.slice la pl.left.length lc] 45)=W1:=⟨_,rfl⟩;have hz1:W1.heap.size=w.heap.size+1+1+1:=by rw[←hW1];simp
 simp only[World.size_alloc] at k1 k2 k3;rw[hW1] at k1 k2 k3 hw1 ⊢;clear hW1;replace hz1:=Lib.hid hz1;have hmm:= @run_makeMap prog;refine AtFn.seq (AtFn.of (wpIn_wide.2 ?_));go_wp2_with fail;clear hmm;refine AtFn.seq (AtFn.of (wpIn_wide.2 ?_));have hkm:=(MapK.made prog idK boV W1).alloc (.cells #[.map (some W1.heap.size)] 169);have hkl:=Blk.new (W1.alloc (.map #[] 0)) #[.map (some W1.heap.size)] 169;have hb24:Below W1.heap.size W1 ((W1.alloc (.map #[] 0)).alloc (.cells #[.map (some W1.heap.size)] 169)):=((zR _ _).alloc (yR _) _).alloc (by simp) _;simp only[World.size_alloc] at hkl;obtain⟨W4,hW4⟩:∃W4,(W1.alloc (.map #[] 0)).alloc (.cells #[.map (some W1.heap.size)] 169)=W4:=⟨_,rfl⟩;have hz4:W4.heap.size=W1.heap.size+1+1:=by rw[←hW4];simp
 rw[hW4] at hkm hkl hb24 ⊢;clear hW4;replace hz1:=hz1.out;have kl1:=k2.below hb24 k2.lt;have kl2:=k3.below hb24 k3.lt;have km1:=k1.below hb24 k1.lt;have hw4:Below w.heap.size w W4:=hw1.trans (hb24.mono hw1.size);obtain⟨Bm,hBm⟩:∃B,W1.heap.size=B:=⟨_,rfl⟩;rw[hBm] at hkm hkl hz4 hz1 ⊢;have hD0:RRr w.heap.size w Bm (a3g s w.heap.size (Bm+1) Bm (.slice da pl.dots.length dc) kv (.slice la pl.left.length lc)) 0 [] W4:=⟨hkm,a3y kl1 kl2 hkl,a3y (by simp only;omega) (by simp only;omega) (by simp only;omega),by omega,hw4,yR _⟩;obtain⟨m0,m1,m2,m3⟩:W4.cell? ⟨w.heap.size,0,none⟩=some ev∧W4.cell? ⟨w.heap.size,1,none⟩=some fv∧W4.cell? ⟨w.heap.size,2,none⟩=some wv∧W4.cell? ⟨w.heap.size,3,none⟩=some (.slice pa l.length pc):=⟨km1.cell 0,km1.cell 1,km1.cell 2,km1.cell 3⟩;obtain⟨s0,s1,s2,s3,s4,s5⟩:W4.cell? ⟨w.heap.size+1,0,none⟩=some (.int .i64 s.ax)∧W4.cell? ⟨w.heap.size+1,1,none⟩=some (.int .i64 s.ay)∧W4.cell? ⟨w.heap.size+1,2,none⟩=some (.int .i64 s.st)∧W4.cell? ⟨w.heap.size+1,3,none⟩=some (.int .i64 s.w)∧W4.cell? ⟨w.heap.size+1,4,none⟩=some (.int .i64 s.h)∧W4.cell? ⟨w.heap.size+1,5,none⟩=some (.int .i64 s.g):=⟨kl1.cell 0,kl1.cell 1,kl1.cell 2,kl1.cell 3,kl1.cell 4,kl1.cell 5⟩;go_wp2_with (first
  |(go_at_call 35;(with_reducible refine (hCa _).mono ?_);rintro e W5⟨rfl,km,ks,hb5⟩)
  |fail)
 rw[hz4] at km ks hb5;have hw5:Below w.heap.size w W5:=hw4.trans (hb5.mono (by have:=hw4.size;omega));have hD5:=hD0.below (by rw[hz4];exact hb5);have hz5:=hb5.size;clear hD0 m0 m1 m2 m3 s0 s1 s2 s3 s4 s5 k1 k2 k3 kl1 kl2 km1 hkm hkl hb24 hCa hw1 hBm;have hZ:∀q∈(a3g s w.heap.size (Bm+1) Bm (.slice da pl.dots.length dc) kv (.slice la pl.left.length lc)),q.1<W5.heap.size:=a3y (by simp only;omega) (by simp only;omega) (by simp only;omega);have hseq:=b4f 2 (by omega) s f0 f1 ev fv wv (.slice pa l.length pc) l hl hok (b9n Bm) w.heap.size W5 (Bm+1+1) (Bm+1+1+1) km ks (hL.up hw5) hF hw5.size
  (fun W k hb hc=>by
   obtain⟨-,rfl⟩:=hc;exact⟨by omega,by omega⟩)
  (fun W hb=>hPow W (hw5.trans (hb.mono (yR _))))
 have hBlt:w.heap.size+1+1<Bm:=by omega
 have hBW5:Bm+1+1+1<W5.heap.size:=ks.lt;rw[←hz1];clear hz1 hz4 hz5 hb5 hw4;refine AtFn.block ?_;refine a6r (α:=Pc×Value) 18 7 (fun x=>d2q s x) rfl (by omega) rfl trivial (enters_of func84 (by kernel_rfl) rfl) (c8x Bm) (b4m Bm) (c2i Bm) (fun k=>b9o) (n0:=w.heap.size) hw5.size (Kx:=KxC s (a1d l)) (fun pre x W l o o' h1 h2 h3=>KxC.put h1 (a1s h2) (a1s h3)) (S:=fun xs=>xs.map Prod.fst=a1d l) (N:=101) (w0:=W5) hseq (zR _ _)
  (fun pre W=>RC w.heap.size w Bm (a3g s w.heap.size (Bm+1) Bm (.slice da pl.dots.length dc) kv (.slice la pl.left.length lc)) s pl pre W) ?hI ?hIC ?h0 (fun ch W=>ch=b9i 42∧a2v s.g (pfS s) pl (a1d l)=false∧Below w.heap.size w W) ⟨_,func51⟩ trivial 92 (fun x=> #[.int .i64 x.1.id,.int .i64 x.1.x,.int .i64 x.1.y,.string x.1.cls,.string x.1.nm,.int .i64 x.1.wt,.int .i64 x.1.ds,x.2,.bool (pfS s x.1).1]) (fun pre x W o h=>h.alloc o) (fun pre W k h hc=>b9o hc) ?assign ?body ?hpan ?done
 case hI =>
  rintro pre A A' row⟨m,en,st,h1,h2,h5,h6⟩ hg hr;exact⟨m,en,st,h1,h2,h5,h6.turn hw5.size hZ hg hr⟩
 case hIC =>
  rintro pre A A' row k⟨m,en,st,h1,h2,h5,h6⟩ hg hr hc;exact h6.mine hc
 case h0=>exact⟨0,[],[],rfl,yR _,SetI.nil,hD5⟩
 case assign =>
  intro l pre x W K hx hK;obtain⟨p,xv⟩:=x;obtain⟨xa,xn,xc,rfl⟩:∃a n c,xv= .slice a n c:=by
   rcases hx.2.2 with h|⟨b,o,c,h⟩
   ·exact⟨_,_,_,h⟩
   ·exact⟨_,_,_,h⟩
  gi_wp2;first|done|exact hK _ (by first|rfl|simp)
 case body =>
  clear hseq km ks hD5;rintro ly pre⟨⟨id,x,y,cls,nm,wt,ds⟩,xv⟩ W B ⟨m,en,st,hcn,hm,hset,hD⟩ ⟨⟨rs,hsp⟩,hdl,hdfl⟩ hB hBge hBne hlt;have hpm:(⟨id,x,y,cls,nm,wt,ds⟩:Pc)∈a1d l:=by rw[hsp];simp
  obtain⟨hpo,hpc⟩:=hok _ ((a1q l).mem_iff.1 hpm);have hst:crN s pl ((pre++[((⟨id,x,y,cls,nm,wt,ds⟩:Pc),xv)]).map Prod.fst)=a2e s.g (pfS s) pl st ⟨id,x,y,cls,nm,wt,ds⟩:=by
   rw[List.map_append];refine (c8y s pl (pre.map Prod.fst) _).trans ?_;rw[hcn];rfl
  have hno:a2e s.g (pfS s) pl st ⟨id,x,y,cls,nm,wt,ds⟩=none→a2v s.g (pfS s) pl (a1d l)=false:=fun h=>by
   rw[h,List.map_append] at hst;have h2:=c8z s pl (pre.map Prod.fst) rs _ hst;unfold a2v;have h3:List.foldlM (a2e s.g (pfS s) pl) [] (a1d l)=none:=by rw[hsp];exact h2
   rw[h3];rfl
  clear hsp;have hkr:KeepP (b9n Bm) w.heap.size W W:=⟨⟨yR _,fun _ _ _=>rfl,fun k hc=> .inl hc⟩,zR _ _⟩;have hWy:=b9j (.slice da pl.dots.length dc) kv (.slice la pl.left.length lc) pl id W (hlf.up hD.bel) hff;have hdsm:∀d∈(pfS s ⟨id,x,y,cls,nm,wt,ds⟩).2,Sm d:=fun d hd=>c8m hsk (c8n s _ d hd)
  have hpl33:=b4e s ⟨id,x,y,cls,nm,wt,ds⟩;have hcr0:= @c5s s.g (pfS s) pl st ⟨id,x,y,cls,nm,wt,ds⟩;have hcr1:= @c9a s.g (pfS s) pl st ⟨id,x,y,cls,nm,wt,ds⟩;have hcs:= @b9p s.g (pfS s) pl st ⟨id,x,y,cls,nm,wt,ds⟩;have hci:= @c5r s.g (pfS s) pl st ⟨id,x,y,cls,nm,wt,ds⟩;have hcn0:= @c5q s.g (pfS s) pl st ⟨id,x,y,cls,nm,wt,ds⟩;obtain⟨⟨on,dl⟩,hpf⟩:∃r,pfS s ⟨id,x,y,cls,nm,wt,ds⟩=r:=⟨_,rfl⟩;simp only[hpf] at hB hdl hdfl hpl33 hdsm hcr0 hcr1;obtain⟨xa,xc,rfl,-⟩:=hdl.form;have hzW:=hD.hz;have b0:W.cell? ⟨B,0,none⟩=some (.int .i64 id):=hB.cell 0;have hP0:Blk W (w.heap.size+1+1) #[.slice da pl.dots.length dc,kv,.slice la pl.left.length lc] 45:=hD.o (w.heap.size+1+1,#[.slice da pl.dots.length dc,kv,.slice la pl.left.length lc],45) (by unfold a3g;simp);obtain⟨q0,q1,q2⟩:W.cell? ⟨w.heap.size+1+1,0,none⟩=some (.slice da pl.dots.length dc)∧W.cell? ⟨w.heap.size+1+1,1,none⟩=some kv∧W.cell? ⟨w.heap.size+1+1,2,none⟩=some (.slice la pl.left.length lc):=⟨hP0.cell 0,hP0.cell 1,hP0.cell 2⟩;obtain⟨kz,hkz⟩:∃z,b7y (why pl id)=z:=⟨_,rfl⟩;rw[hkz] at hWy;gi_upto_region 5 with (first
   |(refine⟨trivial,?_⟩;gi_at_call 107;refine (CallsIn.inRound ly (callsIn_wide.2 hWy)).mono ?_;rintro e w8⟨rfl,hb8⟩)
   |fail)
  have hD8:=hD.below hb8;have hk8:=hkr.trans (hD.keepP hb8);have hB8:=hB.below hb8 hB.lt;have hdl8:=hdl.up hb8;have hz8:=hb8.size;clear b0 hP0 q0 q1 q2 hWy hD hdl hb8 hkr;have b0:w8.cell? ⟨B,0,none⟩=some (.int .i64 id):=hB8.cell 0;have hLl:Blk w8 (Bm+1) #[.map (some Bm)] 169:=hD8.o (Bm+1,#[.map (some Bm)],169) (by unfold a3g;simp);have l0:w8.cell? ⟨Bm+1,0,none⟩=some (.map (some Bm)):=hLl.cell 0;have hLk:=b9l hD8.mp hpo.id;rw[hset id] at hLk;clear hLl;by_cases hgo:why pl id=none∨id∈st
  ·have hst':crN s pl ((pre++[((⟨id,x,y,cls,nm,wt,ds⟩:Pc),Value.slice xa dl.length xc)]).map Prod.fst)=some (id::st):=by
    rcases hgo with h|h
    ·rw[hst,hcn0 h]
    ·rw[hst,hci h]
   rcases hgo with h|h
   ·rw[h] at hkz
    subst hkz;clear hno hst hcr0 hcr1 hcs hci hcn0 h;simp only[b7y];gi_wp2_with (first
     |(gi_at_mapUpdate;refine MapK.wpIn_store d2y (by rfl) _ _ _ 169 (by rfl) underlying169 (by rfl) hD8.mp (by unfold maxLen;omega) hpo.id (by rfl) (y:=true) (by rfl) (plainElem_bool underlying4 true) ?_;intro w7 hM7 hg7
       obtain⟨hD7,hk7⟩:=hD8.set hM7 hg7)
     |fail)
    exact⟨hk8.trans hk7,m+1,_,_,hst',by simp;omega,hset.put id,hD7⟩
   ·rw[decide_eq_true h] at hLk
    by_cases hneg:kz<0
    ·clear hno hst hcr0 hcr1 hcs hci hcn0 h
     gi_wp2_with (first
      |(gi_at_mapUpdate;refine MapK.wpIn_store d2y (by rfl) _ _ _ 169 (by rfl) underlying169 (by rfl) hD8.mp (by unfold maxLen;omega) hpo.id (by rfl) (y:=true) (by rfl) (plainElem_bool underlying4 true) ?_;intro w7 hM7 hg7
        obtain⟨hD7,hk7⟩:=hD8.set hM7 hg7)
      |fail)
     exact⟨hk8.trans hk7,m+1,_,_,hst',by simp;omega,hset.put id,hD7⟩
    ·clear hno hst hcr0 hcr1 hcs hci hcn0 h
     gi_wp2_with (first
      |(gi_at_mapUpdate;refine MapK.wpIn_store d2y (by rfl) _ _ _ 169 (by rfl) underlying169 (by rfl) hD8.mp (by unfold maxLen;omega) hpo.id (by rfl) (y:=true) (by rfl) (plainElem_bool underlying4 true) ?_;intro w7 hM7 hg7
        obtain⟨hD7,hk7⟩:=hD8.set hM7 hg7)
      |fail)
     exact⟨hk8.trans hk7,m+1,_,_,hst',by simp;omega,hset.put id,hD7⟩
  ·obtain⟨hwn,hin⟩:=not_or.1 hgo
   obtain⟨k,hwk⟩:=Option.ne_none_iff_exists'.1 hwn;rw[decide_eq_false hin] at hLk;obtain⟨hkl,hlk⟩:=d3a hwk;rw[hwk] at hkz;subst hkz;simp only[b7y];obtain⟨⟨lp,lk,li⟩,hlv⟩:∃x,pl.left[k]=x:=⟨_,rfl⟩;rw[hlv] at hlk;have hfi':a0k li:=by have:=hfi _ (List.getElem_mem hkl);rw[hlv] at this;exact this
   have hF:b7w s.g (pfS s) pl st ⟨id,x,y,cls,nm,wt,ds⟩ ⟨lp,lk,li⟩=false→a2v s.g (pfS s) pl (a1d l)=false:=fun h=>hno (by rw[hcs hwk hlk hin,h];rfl)
   have hT:b7w s.g (pfS s) pl st ⟨id,x,y,cls,nm,wt,ds⟩ ⟨lp,lk,li⟩=true→crN s pl ((pre++[((⟨id,x,y,cls,nm,wt,ds⟩:Pc),Value.slice xa dl.length xc)]).map Prod.fst)=some (id::st):=fun h=>by rw[hst,hcs hwk hlk hin,h];rfl
   replace hcr0:= @hcr0 ⟨lp,lk,li⟩;replace hcr1:= @hcr1 ⟨lp,lk,li⟩;simp only at hcr0 hcr1;have hk0:¬((k:Nat):Int)<0:=by omega
   clear hno hst hcs hci hcn0 hgo hwn hwk hlk hcn hin;gi_upto_region 8 with (first
    |(gi_at_mapUpdate;refine MapK.wpIn_store d2y (by rfl) _ _ _ 169 (by rfl) underlying169 (by rfl) hD8.mp (by unfold maxLen;omega) hpo.id (by rfl) (y:=true) (by rfl) (plainElem_bool underlying4 true) ?_;intro w7 hM7 hg7)
    |fail)
   obtain⟨hD7,hk7⟩:=hD8.set hM7 hg7;replace hk7:=hk8.trans hk7;have hB7:=(hk7.k.same B hB.lt (fun h=>hBne _ h rfl)).trans hB;replace hB7:Blk w7 B _ _:=hB7;have hdl7:=c5o hdl8 hg7 hD8.mp;have hset7:=hset.put id;have hP7:Blk w7 (w.heap.size+1+1) #[.slice da pl.dots.length dc,kv,.slice la pl.left.length lc] 45:=hD7.o (w.heap.size+1+1,#[.slice da pl.dots.length dc,kv,.slice la pl.left.length lc],45) (by unfold a3g;simp);obtain⟨q0,q1,q2⟩:w7.cell? ⟨w.heap.size+1+1,0,none⟩=some (.slice da pl.dots.length dc)∧w7.cell? ⟨w.heap.size+1+1,1,none⟩=some kv∧w7.cell? ⟨w.heap.size+1+1,2,none⟩=some (.slice la pl.left.length lc):=⟨hP7.cell 0,hP7.cell 1,hP7.cell 2⟩;obtain⟨lb,loff,lcap,hv,-,hlb,hlc⟩:=(hlf.up hD7.bel).some_ (by omega);simp only[Value.slice.injEq,true_and] at hv;obtain⟨rfl,rfl⟩:=hv;have hck:=hlc k hkl;rw[hlv] at hck;obtain⟨c0,c1,c2⟩:w7.cell? ⟨lb,loff+k*3,none⟩=some (.int .i64 lp)∧w7.cell? ⟨lb,loff+k*3+1,none⟩=some (.int .i64 lk)∧w7.cell? ⟨lb,loff+k*3+2,none⟩=some (.int .i64 li):=⟨hck 0 (show 0<3 by decide),hck 1 (show 1<3 by decide),hck 2 (show 2<3 by decide)⟩;have hkI:(k:Int)<(pl.left.length:Int):=by omega
   clear b0 l0 hLk hM7 hg7 hlv hck hlc hP7 hset hD8 hk8 hB8 hB hdl8;gi_upto_region 9 with fail
   have kX:=Blk.new w7 #[.int .i64 lp,.int .i64 lk,.int .i64 li] 68;have hb79:Below w7.heap.size w7 (w7.alloc (.cells #[.int .i64 lp,.int .i64 lk,.int .i64 li] 68)):=(zR _ _).alloc (yR _) _;have hD9:=hD7.below hb79;have hk9:=hk7.trans (hD7.keepP hb79);have hB9:=hB7.below hb79 hB7.lt;have hdl9:=hdl7.up hb79;obtain⟨BX,hBX⟩:∃b,w7.heap.size=b:=⟨_,rfl⟩;obtain⟨w9,hw9⟩:∃X,w7.alloc (.cells #[.int .i64 lp,.int .i64 lk,.int .i64 li] 68)=X:=⟨_,rfl⟩;rw[hw9] at kX hD9 hk9 hB9 hdl9;rw[hw9];rw[hBX] at kX;rw[hBX];clear hw9 hBX c0 c1 c2 q0 q1 q2 hD7 hk7 hB7 hdl7 hb79 hkI hk0;obtain⟨x0,x1,x2⟩:w9.cell? ⟨BX,0,none⟩=some (.int .i64 lp)∧w9.cell? ⟨BX,1,none⟩=some (.int .i64 lk)∧w9.cell? ⟨BX,2,none⟩=some (.int .i64 li):=⟨kX.cell 0,kX.cell 1,kX.cell 2⟩;have r0:w9.cell? ⟨B,0,none⟩=some (.int .i64 id):=hB9.cell 0;have r7:w9.cell? ⟨B,7,none⟩=some (.slice xa dl.length xc):=hB9.cell 7;have r8:w9.cell? ⟨B,8,none⟩=some (.bool on):=hB9.cell 8;have hLl:Blk w9 (Bm+1) #[.map (some Bm)] 169:=hD9.o (Bm+1,#[.map (some Bm)],169) (by unfold a3g;simp);have l0:w9.cell? ⟨Bm+1,0,none⟩=some (.map (some Bm)):=hLl.cell 0;by_cases hz0:lk=0∧li=0
   ·have hc:=hcr0 hz0
    have hl0:(lk==0)=true:=by simpa using hz0.1
    have hi0:(li==0)=true:=by simpa using hz0.2
    clear hz0 hcr0 hcr1
    cases on
    ·gi_wp2_with (first
      |(refine⟨trivial,?_⟩;gi_at_call 106;refine (CallsIn.inRound ly (callsIn_wide.2 (a2o 42 _))).mono ?_;rintro e w10⟨rfl,rfl⟩)
      |fail)
     first|exact⟨hk9,m+1,_,_,hT hc,by simp;omega,hset7,hD9⟩|exact⟨m+1,_,_,hT hc,by simp;omega,hset7,hD9⟩
    ·gi_wp2_with (first
      |(refine⟨trivial,?_⟩;gi_at_call 106;refine (CallsIn.inRound ly (callsIn_wide.2 (a2j 42 _))).mono ?_;rintro e w10⟨rfl,rfl⟩)
      |fail)
     first|exact⟨hF hc,hD9.bel⟩|exact hD9.bel
   ·have hc:=hcr1 hz0
    have hi0:lk=0→(li==0)=false:=fun h=>by
     have:li≠0:=fun h'=>hz0 ⟨h,h'⟩
     simpa using this
    clear hz0 hcr0 hcr1;by_cases h0:lk=0
    ·have hi0':=hi0 h0
     have hl0:(lk==0)=true:=by simpa using h0
     have hl2:(lk==2)=false:=by rw[h0];rfl
     have hl3:(lk==3)=false:=by rw[h0];rfl
     have hc':b7w s.g (pfS s) pl st ⟨id,x,y,cls,nm,wt,ds⟩ ⟨lp,lk,li⟩=false:=by rw[hc,h0];simp
     clear hi0 h0 hc hT
     cases on
     ·gi_wp2_with (first
       |(refine⟨trivial,?_⟩;gi_at_call 106;refine (CallsIn.inRound ly (callsIn_wide.2 (a2j 42 _))).mono ?_;rintro e w10⟨rfl,rfl⟩)
       |fail)
      first|exact⟨hF hc',hD9.bel⟩|exact hD9.bel
     ·gi_wp2_with (first
       |(refine⟨trivial,?_⟩;gi_at_call 106;refine (CallsIn.inRound ly (callsIn_wide.2 (a2j 42 _))).mono ?_;rintro e w10⟨rfl,rfl⟩)
       |fail)
      first|exact⟨hF hc',hD9.bel⟩|exact hD9.bel
    ·have hl0:(lk==0)=false:=by simpa using h0
     clear hi0
     cases on
     ·have hc':b7w s.g (pfS s) pl st ⟨id,x,y,cls,nm,wt,ds⟩ ⟨lp,lk,li⟩=false:=by rw[hc];rfl
      clear h0 hc hT;gi_wp2_with (first
       |(refine⟨trivial,?_⟩;gi_at_call 106;refine (CallsIn.inRound ly (callsIn_wide.2 (a2j 42 _))).mono ?_;rintro e w10⟨rfl,rfl⟩)
       |fail)
      first|exact⟨hF hc',hD9.bel⟩|exact hD9.bel
     ·by_cases h2:lk=2
      ·have hl2:(lk==2)=true:=by simpa using h2
       have hc2:b7w s.g (pfS s) pl st ⟨id,x,y,cls,nm,wt,ds⟩ ⟨lp,lk,li⟩=(a4g s.g (pl.dots.filter fun d=> !a4c lk li d) dl).isSome:=by rw[hc,decide_eq_true h2];simp
       clear h0 h2 hc;gi_upto_region 12 with (first
        |(refine⟨trivial,?_⟩;gi_at_call 106;refine (CallsIn.inRound ly (callsIn_wide.2 (a2o 42 _))).mono ?_;rintro e w9⟨rfl,rfl⟩)
        |fail)
       have hmf:∀(fn:Fn) (first cap:Array Value) (w:World),(Instr.makeFunc fn first cap).run prog w= .ok (.func fn first cap) w:=fun _ _ _ _=>rfl
       have hP9:Blk w9 (w.heap.size+1+1) #[.slice da pl.dots.length dc,kv,.slice (some ⟨lb,loff,none⟩) pl.left.length lc] 45:=hD9.o (w.heap.size+1+1,#[.slice da pl.dots.length dc,kv,.slice (some ⟨lb,loff,none⟩) pl.left.length lc],45) (by unfold a3g;simp);have hS9:Blk w9 (w.heap.size+1) #[.int .i64 s.ax,.int .i64 s.ay,.int .i64 s.st,.int .i64 s.w,.int .i64 s.h,.int .i64 s.g] 28:=hD9.o (w.heap.size+1,#[.int .i64 s.ax,.int .i64 s.ay,.int .i64 s.st,.int .i64 s.w,.int .i64 s.h,.int .i64 s.g],28) (by unfold a3g;simp);have q0:w9.cell? ⟨w.heap.size+1+1,0,none⟩=some (.slice da pl.dots.length dc):=hP9.cell 0;have hCl:=b1m (.slice da pl.dots.length dc) pl.dots w9 (hd.up hD9.bel) hdf (by omega);have hfl:=List.length_filter_le (fun d=> !a4c lk li d) pl.dots;have hosm:∀d∈pl.dots.filter (fun d=> !a4c lk li d),Sm d:=fun d hd=>hsm d (List.mem_filter.1 hd).1
       gi_upto_region 13 with (first
        |(refine⟨trivial,?_⟩;gi_at_call 109;refine (CallsIn.inRound ly (callsIn_wide.2 hCl)).mono ?_;rintro e w10⟨uc,rfl,hr10,hb10⟩)
        |(refine⟨trivial,?_⟩;gi_at_call 108;refine (CallsIn.inRound ly (callsIn_wide.2 (a9l w9.heap.size uc pl.dots BX lp lk li w10 (by omega) (kX.below hb10 kX.lt) hr10))).mono ?_;rintro e w11⟨u,rfl,hr11,hg11,-⟩)
        |fail)
       clear hmf hCl q0 x0 x1 x2 r0 r7 r8 l0;have hb11:Below w9.heap.size w9 w11:=hb10.grown hg11 hb10.size fun r e=>(hr10.lt r e).1
       have hD11:=hD9.below hb11;have hk11:=hk9.trans (hD9.keepP hb11);have hB11:=hB9.below hb11 hB9.lt;have hS11:=hS9.below hb11 hS9.lt;have hdl11:=hdl9.up hb11;have r7:w11.cell? ⟨B,7,none⟩=some (.slice xa dl.length xc):=hB11.cell 7;have s5:w11.cell? ⟨w.heap.size+1,5,none⟩=some (.int .i64 s.g):=hS11.cell 5;have hCs:=b1a s.g u (.slice xa dl.length xc) (pl.dots.filter fun d=> !a4c lk li d) dl w11 (a0b a6m hr11 (by omega)) (a2b hr11) hdl11 hdfl;rw[b4h hosm hdsm] at hCs;clear hP9 hS9 hosm hfl hb10 hr10 hg11 hr11 hb11 hB11 hS11 hdl11 hD9 hk9 hB9 hdl9
       cases hq:a4g s.g (pl.dots.filter fun d=> !a4c lk li d) dl with
       |none =>
        rw[hq] at hCs hc2;replace hCs:Calls _ _ _ _ fun e w'=>e= .returned (.tuple #[dtV ⟨0,0,0,0⟩,.bool false])∧Below w11.heap.size w11 w':=hCs
        clear hq hT;gi_wp2_with (first
         |(refine⟨trivial,?_⟩;gi_at_call 36;refine (CallsIn.inRound ly (callsIn_wide.2 hCs)).mono ?_;rintro e w12⟨rfl,hb12⟩)
         |(refine⟨trivial,?_⟩;gi_at_call 106;refine (CallsIn.inRound ly (callsIn_wide.2 (a2j 42 _))).mono ?_;rintro e w10⟨rfl,rfl⟩)
         |fail)
        first|exact⟨hF hc2,((hD11.below hb12).below ((zR _ _).alloc (yR _) _)).bel⟩|exact⟨(hk11.trans (hD11.keepP hb12)).trans ((hD11.below hb12).keepP ((zR _ _).alloc (yR _) _)),((hD11.below hb12).below ((zR _ _).alloc (yR _) _)).bel⟩
       |some d =>
        rw[hq] at hCs hc2;obtain⟨d0,d1,d2,d3⟩:=d;replace hCs:Calls _ _ _ _ fun e w'=>e= .returned (.tuple #[dtV ⟨d0,d1,d2,d3⟩,.bool true])∧Below w11.heap.size w11 w':=hCs
        clear hq hF;gi_wp2_with (first
         |(refine⟨trivial,?_⟩;gi_at_call 36;refine (CallsIn.inRound ly (callsIn_wide.2 hCs)).mono ?_;rintro e w12⟨rfl,hb12⟩)
         |(refine⟨trivial,?_⟩;gi_at_call 106;refine (CallsIn.inRound ly (callsIn_wide.2 (a2o 42 _))).mono ?_;rintro e w10⟨rfl,rfl⟩)
         |fail)
        exact⟨(hk11.trans (hD11.keepP hb12)).trans ((hD11.below hb12).keepP ((zR _ _).alloc (yR _) _)),m+1,_,_,hT hc2,by simp;omega,hset7,(hD11.below hb12).below ((zR _ _).alloc (yR _) _)⟩
      ·have hl2:(lk==2)=false:=by simpa using h2
       by_cases h3:lk=3
       ·have hl3:(lk==3)=true:=by simpa using h3
        by_cases hid:li=id
        ·have hid':(li != id)=false:=by simpa using hid
         have hc':b7w s.g (pfS s) pl st ⟨id,x,y,cls,nm,wt,ds⟩ ⟨lp,lk,li⟩=false:=by rw[hc,decide_eq_false h2];simp[hid]
         clear h0 h2 h3 hid hc hT;gi_wp2_with (first
          |(refine⟨trivial,?_⟩;gi_at_call 106;refine (CallsIn.inRound ly (callsIn_wide.2 (a2j 42 _))).mono ?_;rintro e w10⟨rfl,rfl⟩)
          |fail)
         first|exact⟨hF hc',hD9.bel⟩|exact hD9.bel
        ·have hid':(li != id)=true:=by simpa using hid
         have hLk:=b9l hD9.mp hfi';rw[hset7 li] at hLk;by_cases hme:li∈id::st
         ·rw[decide_eq_true hme] at hLk
          have hc2:b7w s.g (pfS s) pl st ⟨id,x,y,cls,nm,wt,ds⟩ ⟨lp,lk,li⟩=(a4g s.g (pl.dots.filter fun d=> !a4c lk li d) dl).isSome:=by rw[hc,decide_eq_true h3,decide_eq_true hme,decide_eq_true hid];simp
          clear h0 h2 h3 hid hme hc;gi_upto_region 12 with (first
           |(refine⟨trivial,?_⟩;gi_at_call 106;refine (CallsIn.inRound ly (callsIn_wide.2 (a2o 42 _))).mono ?_;rintro e w9⟨rfl,rfl⟩)
           |fail)
          have hmf:∀(fn:Fn) (first cap:Array Value) (w:World),(Instr.makeFunc fn first cap).run prog w= .ok (.func fn first cap) w:=fun _ _ _ _=>rfl
          have hP9:Blk w9 (w.heap.size+1+1) #[.slice da pl.dots.length dc,kv,.slice (some ⟨lb,loff,none⟩) pl.left.length lc] 45:=hD9.o (w.heap.size+1+1,#[.slice da pl.dots.length dc,kv,.slice (some ⟨lb,loff,none⟩) pl.left.length lc],45) (by unfold a3g;simp);have hS9:Blk w9 (w.heap.size+1) #[.int .i64 s.ax,.int .i64 s.ay,.int .i64 s.st,.int .i64 s.w,.int .i64 s.h,.int .i64 s.g] 28:=hD9.o (w.heap.size+1,#[.int .i64 s.ax,.int .i64 s.ay,.int .i64 s.st,.int .i64 s.w,.int .i64 s.h,.int .i64 s.g],28) (by unfold a3g;simp);have q0:w9.cell? ⟨w.heap.size+1+1,0,none⟩=some (.slice da pl.dots.length dc):=hP9.cell 0;have hCl:=b1m (.slice da pl.dots.length dc) pl.dots w9 (hd.up hD9.bel) hdf (by omega);have hfl:=List.length_filter_le (fun d=> !a4c lk li d) pl.dots;have hosm:∀d∈pl.dots.filter (fun d=> !a4c lk li d),Sm d:=fun d hd=>hsm d (List.mem_filter.1 hd).1
          gi_upto_region 13 with (first
           |(refine⟨trivial,?_⟩;gi_at_call 109;refine (CallsIn.inRound ly (callsIn_wide.2 hCl)).mono ?_;rintro e w10⟨uc,rfl,hr10,hb10⟩)
           |(refine⟨trivial,?_⟩;gi_at_call 108;refine (CallsIn.inRound ly (callsIn_wide.2 (a9l w9.heap.size uc pl.dots BX lp lk li w10 (by omega) (kX.below hb10 kX.lt) hr10))).mono ?_;rintro e w11⟨u,rfl,hr11,hg11,-⟩)
           |fail)
          clear hmf hCl q0 x0 x1 x2 r0 r7 r8 l0;have hb11:Below w9.heap.size w9 w11:=hb10.grown hg11 hb10.size fun r e=>(hr10.lt r e).1
          have hD11:=hD9.below hb11;have hk11:=hk9.trans (hD9.keepP hb11);have hB11:=hB9.below hb11 hB9.lt;have hS11:=hS9.below hb11 hS9.lt;have hdl11:=hdl9.up hb11;have r7:w11.cell? ⟨B,7,none⟩=some (.slice xa dl.length xc):=hB11.cell 7;have s5:w11.cell? ⟨w.heap.size+1,5,none⟩=some (.int .i64 s.g):=hS11.cell 5;have hCs:=b1a s.g u (.slice xa dl.length xc) (pl.dots.filter fun d=> !a4c lk li d) dl w11 (a0b a6m hr11 (by omega)) (a2b hr11) hdl11 hdfl;rw[b4h hosm hdsm] at hCs;clear hP9 hS9 hosm hfl hb10 hr10 hg11 hr11 hb11 hB11 hS11 hdl11 hD9 hk9 hB9 hdl9
          cases hq:a4g s.g (pl.dots.filter fun d=> !a4c lk li d) dl with
          |none =>
           rw[hq] at hCs hc2;replace hCs:Calls _ _ _ _ fun e w'=>e= .returned (.tuple #[dtV ⟨0,0,0,0⟩,.bool false])∧Below w11.heap.size w11 w':=hCs
           clear hq hT;gi_wp2_with (first
            |(refine⟨trivial,?_⟩;gi_at_call 36;refine (CallsIn.inRound ly (callsIn_wide.2 hCs)).mono ?_;rintro e w12⟨rfl,hb12⟩)
            |(refine⟨trivial,?_⟩;gi_at_call 106;refine (CallsIn.inRound ly (callsIn_wide.2 (a2j 42 _))).mono ?_;rintro e w10⟨rfl,rfl⟩)
            |fail)
           first|exact⟨hF hc2,((hD11.below hb12).below ((zR _ _).alloc (yR _) _)).bel⟩|exact⟨(hk11.trans (hD11.keepP hb12)).trans ((hD11.below hb12).keepP ((zR _ _).alloc (yR _) _)),((hD11.below hb12).below ((zR _ _).alloc (yR _) _)).bel⟩
          |some d =>
           rw[hq] at hCs hc2;obtain⟨d0,d1,d2,d3⟩:=d;replace hCs:Calls _ _ _ _ fun e w'=>e= .returned (.tuple #[dtV ⟨d0,d1,d2,d3⟩,.bool true])∧Below w11.heap.size w11 w':=hCs
           clear hq hF;gi_wp2_with (first
            |(refine⟨trivial,?_⟩;gi_at_call 36;refine (CallsIn.inRound ly (callsIn_wide.2 hCs)).mono ?_;rintro e w12⟨rfl,hb12⟩)
            |(refine⟨trivial,?_⟩;gi_at_call 106;refine (CallsIn.inRound ly (callsIn_wide.2 (a2o 42 _))).mono ?_;rintro e w10⟨rfl,rfl⟩)
            |fail)
           exact⟨(hk11.trans (hD11.keepP hb12)).trans ((hD11.below hb12).keepP ((zR _ _).alloc (yR _) _)),m+1,_,_,hT hc2,by simp;omega,hset7,(hD11.below hb12).below ((zR _ _).alloc (yR _) _)⟩
         ·rw[decide_eq_false hme] at hLk
          have hc':b7w s.g (pfS s) pl st ⟨id,x,y,cls,nm,wt,ds⟩ ⟨lp,lk,li⟩=false:=by rw[hc,decide_eq_false h2,decide_eq_false hme];simp
          clear h0 h2 h3 hid hme hc hT;gi_wp2_with (first
           |(refine⟨trivial,?_⟩;gi_at_call 106;refine (CallsIn.inRound ly (callsIn_wide.2 (a2j 42 _))).mono ?_;rintro e w10⟨rfl,rfl⟩)
           |fail)
          first|exact⟨hF hc',hD9.bel⟩|exact hD9.bel
       ·have hl3:(lk==3)=false:=by simpa using h3
        have hc':b7w s.g (pfS s) pl st ⟨id,x,y,cls,nm,wt,ds⟩ ⟨lp,lk,li⟩=false:=by rw[hc,decide_eq_false h2,decide_eq_false h3];simp
        clear h0 h2 h3 hc hT;gi_wp2_with (first
         |(refine⟨trivial,?_⟩;gi_at_call 106;refine (CallsIn.inRound ly (callsIn_wide.2 (a2j 42 _))).mono ?_;rintro e w10⟨rfl,rfl⟩)
         |fail)
        first|exact⟨hF hc',hD9.bel⟩|exact hD9.bel
 case hpan =>
  rintro D ch W hDs⟨rfl,hcf,hbw⟩ hK;have hg1:=grownBy_putObj' W D (.deferred none);refine⟨by simp,.inl ⟨_,_,rfl,run_takeDeferred hK,?_⟩⟩;exact⟨.inr ⟨hcf,rfl⟩,hbw.grown hg1 hbw.size fun r e=>by cases e;have:=hw5.size;omega⟩
 case done =>
  rintro D xs W hDs hS⟨m,en,st,h1,-,-,h6⟩ hK;rw[hS] at h1;have hcf:a2v s.g (pfS s) pl (a1d l)=true:=by
   unfold a2v;have h1':List.foldlM (a2e s.g (pfS s) pl) [] (a1d l)=some st:=h1;rw[h1'];rfl
  have hg1:=grownBy_putObj' W D (.deferred none);have hbw:=h6.bel;refine⟨by simp,.inl ⟨_,_,rfl,run_takeDeferred hK,?_⟩⟩;exact⟨_,results_none rfl _ _ _,.inl ⟨hcf,rfl⟩,hbw.grown hg1 hbw.size fun r e=>by cases e;have:=hw5.size;omega⟩
end
section
open Go Go.RowKit
attribute [local go_sem] Oper.semAt_some
theorem b4n (q:Addr)(x e:Int)(w:World)(hc:w.cell? q=some (.int .i64 x))(hz:w.frozen? q=false) :
 CallsD prog 47 #[.pointer (some q)] (.panicking [{ v:= .iface 101 (.int .i64 e),recovered:=false }]) w fun r u' w' =>
  r= .returned (.tuple #[])∧u'= .panicking [{ v:= .iface 101 (.int .i64 e),recovered:=true }]∧w'=w.setCell q (.int .i64 e):=by
 refine callsD_of_wpS func47 rfl fun c₀ cs hu=> ?_
 apply wpS_seq;apply wpS_region;simp[wpOpsS,go_sem,recoverD,hu,ntmps47,Exit.thenS];apply wpS_seq;apply wpS_region;simp[wpOpsS,go_sem,Exit.thenS];refine wpS_cond (t:=true) (by simp[Act.eval]) ?_;simp only[if_true];refine wpS_of_wp ?_;simp[Array.replicate_succ,Array.replicate_zero];have hta:∀w,(Instr.typeAssert (.iface 101 (.int .i64 e)) 20 101 true).run prog w= .ok (.tuple #[.int .i64 e,.bool true]) w:=fun w=>by kernel_rfl
 go_wp2_with fail;simp[bodyPostS,results,results47]
theorem c5t (q:Addr)(w:World) :
 CallsD prog 47 #[.pointer (some q)] .returning w fun r u' w'=>r= .returned (.tuple #[])∧u'= .returning∧w'=w:=by
 refine callsD_of_wpS func47 rfl fun c₀ cs hu=> ?_
 apply wpS_seq;apply wpS_region;simp[wpOpsS,go_sem,recoverD,hu,ntmps47,Exit.thenS];apply wpS_seq;apply wpS_region;simp[wpOpsS,go_sem,Exit.thenS];refine wpS_cond (t:=false) (by simp[Act.eval]) ?_;simp only[Bool.false_eq_true,if_false];refine wpS_of_wp (wp_skip ?_)
 cases c₀;simp_all [bodyPostS,results,results47]
end
end Go.Proofs.YtfocdbjceedagaaGreatDoor
