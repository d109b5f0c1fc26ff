/-
  Parts.
-/
import Derived.Test.YtfocdbjceedagaaGreatDoorXat
import Derived.Sort.CutIn
set_option linter.unusedVariables false
set_option linter.unusedSimpArgs false
set_option maxHeartbeats 4000000
set_option maxRecDepth 100000
namespace Go.Proofs.YtfocdbjceedagaaGreatDoor
open Tryz
section
open Go Go.RowKit Go.Shelf Go.Lib
attribute [local go_sem] Oper.semAt_some
attribute [local go_sem ↓] Go.wp_at_zero Go.wp_at_succ
def b6x (s:Sh)(n:Nat):List (Nat×Array Value×TypeId):=[(n+1,#[.int .i64 s.ax,.int .i64 s.ay,.int .i64 s.st,.int .i64 s.w,.int .i64 s.h,.int .i64 s.g],28),(n+1+1,#[.slice none 0 0,.slice none 0 0,.slice none 0 0],45)]
theorem b1l {s:Sh}{n:Nat}{Q:Nat×Array Value×TypeId→Prop}(h1:Q (n+1,#[.int .i64 s.ax,.int .i64 s.ay,.int .i64 s.st,.int .i64 s.w,.int .i64 s.h,.int .i64 s.g],28))(h2:Q (n+1+1,#[.slice none 0 0,.slice none 0 0,.slice none 0 0],45)):∀q∈b6x s n,Q q:=by
 intro q hq;unfold b6x at hq;rw[List.mem_cons,List.mem_singleton] at hq;rcases hq with rfl|rfl
 ·exact h1
 ·exact h2
theorem a8o (s:Sh)(f0:a0k s.ax)(f1:a0k s.ay)(hs:a1x s=0)(ev fv wv pv:Value)(l:List Pc)(ws:List Wy)(w:World)(hL:Lst plE w.heap.size w pv l)(hF:Frm pv l.length)(hl:l.length≤80)(hok:∀p∈l,PcOk p∧p.cls.size≤1000)
 (hW:Wys w.heap.size w wv ws) (hid:∀y∈ws,a0k y.id) (hlen:ws.length≤100) (hpl:∀y∈ws,y.line.length≤100) (hPow:∀W,Below w.heap.size w W→Pow W) :
 Calls prog 10 #[c0p ev fv wv pv,shV s] w fun e w'=>∃v,e= .returned (.tuple #[v,.int .i64 0])∧PlanIn w' v (a3f s ws (a1d l))∧Below w.heap.size w w':=by
 have hsk:=a6o hs;have hBg:=fun pa pc w=>a5t s ev fv wv pa l.length pc w f0 f1
 unfold a9d at hBg;rw[if_pos hs,if_neg (by omega)] at hBg;obtain⟨pa,pc,rfl,-⟩:=hL.form;refine (callsIn_wide (n:=3)).1 ?_;refine callsIn_of_wp_marks func10 rfl trivial ?_ rfl;simp only[ntmps10,List.size_toArray,List.length_cons,List.length_nil,Nat.reduceAdd,Nat.reduceSub,Array.replicate_succ,Array.replicate_zero,List.push_toArray,List.append_toArray,List.nil_append,List.cons_append];refine wpIn_wide.2 ?_;have hWy:=fun w4 (hb:Below w.heap.size w w4)=>(callsIn_wide (n:=3)).1 (c5c s wv ws w4 hs hid (hW.up hb hb.size) hlen hpl)
 have hCa:=fun w4=>a4o s ev fv wv (.slice pa l.length pc) w4
 go_upto_region 5 with (first
  |(go_at_call 33;(with_reducible refine (hBg _ _ _).mono ?_);rintro e W1⟨rfl,hb1⟩
    have k1:=(((Blk.new w #[ev,fv,wv,.slice pa l.length pc] 37).alloc (.cells #[.int .i64 s.ax,.int .i64 s.ay,.int .i64 s.st,.int .i64 s.w,.int .i64 s.h,.int .i64 s.g] 28)).alloc (.cells #[.slice none 0 0,.slice none 0 0,.slice none 0 0] 45)).below hb1 (by simp;omega);have k2:=((Blk.new (w.alloc (.cells #[ev,fv,wv,.slice pa l.length pc] 37)) #[.int .i64 s.ax,.int .i64 s.ay,.int .i64 s.st,.int .i64 s.w,.int .i64 s.h,.int .i64 s.g] 28).alloc (.cells #[.slice none 0 0,.slice none 0 0,.slice none 0 0] 45)).below hb1 (by simp);have k3:=(Blk.new ((w.alloc (.cells #[ev,fv,wv,.slice pa l.length pc] 37)).alloc (.cells #[.int .i64 s.ax,.int .i64 s.ay,.int .i64 s.st,.int .i64 s.w,.int .i64 s.h,.int .i64 s.g] 28)) #[.slice none 0 0,.slice none 0 0,.slice none 0 0] 45).below hb1 (by simp);have hw1:Below w.heap.size w W1:=((((zR _ _).alloc (yR _) _).alloc (by simp) _).alloc (by simp;omega) _).trans (hb1.mono (by simp;omega));have hz1:=hb1.size;simp only[World.size_alloc] at k1 k2 k3 hz1;clear hb1;obtain⟨m0,m1,m2,m3⟩:W1.cell? ⟨w.heap.size,0,none⟩=some ev∧W1.cell? ⟨w.heap.size,1,none⟩=some fv∧W1.cell? ⟨w.heap.size,2,none⟩=some wv∧W1.cell? ⟨w.heap.size,3,none⟩=some (.slice pa l.length pc):=⟨k1.cell 0,k1.cell 1,k1.cell 2,k1.cell 3⟩;obtain⟨s0,s1,s2,s3,s4,s5⟩:W1.cell? ⟨w.heap.size+1,0,none⟩=some (.int .i64 s.ax)∧W1.cell? ⟨w.heap.size+1,1,none⟩=some (.int .i64 s.ay)∧W1.cell? ⟨w.heap.size+1,2,none⟩=some (.int .i64 s.st)∧W1.cell? ⟨w.heap.size+1,3,none⟩=some (.int .i64 s.w)∧W1.cell? ⟨w.heap.size+1,4,none⟩=some (.int .i64 s.h)∧W1.cell? ⟨w.heap.size+1,5,none⟩=some (.int .i64 s.g):=⟨k2.cell 0,k2.cell 1,k2.cell 2,k2.cell 3,k2.cell 4,k2.cell 5⟩)
  |(go_at_call 34;(with_reducible refine (hWy _ hw1).mono ?_);rintro e W2⟨v,base,rfl,hbase,hrow,hb2⟩
    clear m0 m1 m2 m3 s0 s1 s2 s3 s4 s5;obtain⟨va,vc,rfl⟩:∃a c,v= .slice a (wdF s ws).length c:=by
     obtain⟨a,c,h,-⟩:=(a0b a6m hrow (by have:=b1k hsk ws;unfold wdF at this;omega)).form;exact⟨a,c,h⟩)
  |fail)
 have hz2:=hb2.size;have k1':=(k1.below hb2 k1.lt).alloc (.cells #[.slice va (wdF s ws).length vc,.slice none 0 0,.slice none 0 0] 45);have k2':=(k2.below hb2 k2.lt).alloc (.cells #[.slice va (wdF s ws).length vc,.slice none 0 0,.slice none 0 0] 45);have k3':=(k3.below hb2 k3.lt).alloc (.cells #[.slice va (wdF s ws).length vc,.slice none 0 0,.slice none 0 0] 45);have k4':=Blk.new W2 #[.slice va (wdF s ws).length vc,.slice none 0 0,.slice none 0 0] 45;have hrow':=(c0q hrow (Nat.le_trans hw1.size hbase)).alloc (.cells #[.slice va (wdF s ws).length vc,.slice none 0 0,.slice none 0 0] 45);have hw2:Below w.heap.size w (W2.alloc (.cells #[.slice va (wdF s ws).length vc,.slice none 0 0,.slice none 0 0] 45)):=(hw1.trans (hb2.mono hw1.size)).alloc (Nat.le_trans hw1.size hz2) _;obtain⟨W3,hW3⟩:∃W3,W2.alloc (.cells #[.slice va (wdF s ws).length vc,.slice none 0 0,.slice none 0 0] 45)=W3:=⟨_,rfl⟩;have hz3:W3.heap.size=W2.heap.size+1:=by rw[←hW3];simp
 rw[hW3] at k1' k2' k3' k4' hrow' hw2 ⊢;clear hW3 k1 k2 k3 hrow hb2 hWy hBg;obtain⟨Bp,hBp⟩:∃B,W2.heap.size=B:=⟨_,rfl⟩;rw[hBp] at k4' hz3 hz2 ⊢;have hP0:PIr w.heap.size w Bp (b6x s w.heap.size) (.slice va (wdF s ws).length vc) (.slice none 0 0) (.slice none 0 0) (a3f s ws []) W3:=by
  refine⟨k4',hrow',⟨rfl,.inl ⟨rfl,rfl⟩⟩,⟨rfl,.inl ⟨rfl,rfl⟩⟩,b1l k2' k3',b1l ⟨by show w.heap.size+1≠Bp;omega,show (28:Nat)≠54 by decide,show (28:Nat)≠82 by decide,show (28:Nat)≠68 by decide⟩ ⟨by show w.heap.size+1+1≠Bp;omega,show (45:Nat)≠54 by decide,show (45:Nat)≠82 by decide,show (45:Nat)≠68 by decide⟩,by omega,hw2,yR _⟩
 obtain⟨m0,m1,m2,m3⟩:W3.cell? ⟨w.heap.size,0,none⟩=some ev∧W3.cell? ⟨w.heap.size,1,none⟩=some fv∧W3.cell? ⟨w.heap.size,2,none⟩=some wv∧W3.cell? ⟨w.heap.size,3,none⟩=some (.slice pa l.length pc):=⟨k1'.cell 0,k1'.cell 1,k1'.cell 2,k1'.cell 3⟩;obtain⟨s0,s1,s2,s3,s4,s5⟩:W3.cell? ⟨w.heap.size+1,0,none⟩=some (.int .i64 s.ax)∧W3.cell? ⟨w.heap.size+1,1,none⟩=some (.int .i64 s.ay)∧W3.cell? ⟨w.heap.size+1,2,none⟩=some (.int .i64 s.st)∧W3.cell? ⟨w.heap.size+1,3,none⟩=some (.int .i64 s.w)∧W3.cell? ⟨w.heap.size+1,4,none⟩=some (.int .i64 s.h)∧W3.cell? ⟨w.heap.size+1,5,none⟩=some (.int .i64 s.g):=⟨k2'.cell 0,k2'.cell 1,k2'.cell 2,k2'.cell 3,k2'.cell 4,k2'.cell 5⟩;go_wp2_with (first
  |(go_at_call 35;(with_reducible refine (hCa _).mono ?_);rintro e W5⟨rfl,km,ks,hb5⟩)
  |fail)
 rw[hz3] at km ks;have hw5:Below w.heap.size w W5:=hw2.trans (hb5.mono hw2.size);have hP5:=hP0.below hb5;have hz5:=hb5.size;clear hP0 m0 m1 m2 m3 s0 s1 s2 s3 s4 s5 k1' k2' k3' k4' hrow' hb5 hCa;have hZ:∀q∈b6x s w.heap.size,q.1<W5.heap.size:=b1l (by show w.heap.size+1<_;omega) (by show w.heap.size+1+1<_;omega);have hseq:=b4f 2 (by omega) s f0 f1 ev fv wv (.slice pa l.length pc) l (by omega) hok (a3m Bp) w.heap.size W5 (Bp+1) (Bp+1+1) km ks (hL.up hw5) hF hw5.size
  (fun W k hb hc=>by
   have hPW:=hP5.below hb;have hk1:=km.below hb km.lt;have hk2:=ks.below hb ks.lt;rcases hP5.c_row hPW.p hc with rfl|hk
   ·exact⟨by omega,by omega⟩
   ·refine⟨fun e=> ?_,fun e=> ?_⟩
    ·subst e
     exact hk.elim (a0s hP5.d km (by decide)) fun hk=>hk.elim (a0s hP5.k km (by decide)) (a0s hP5.l km (by decide))
    ·subst e
     exact hk.elim (a0s hP5.d ks (by decide)) fun hk=>hk.elim (a0s hP5.k ks (by decide)) (a0s hP5.l ks (by decide)))
  (fun W hb=>hPow W (hw5.trans (hb.mono (yR _))))
 refine (wpIn_wide (n:=3)).1 (a7v (α:=Pc×Value) 28 8 (fun x=>d2q s x) rfl (by omega) rfl trivial (enters_of func84 (by kernel_rfl) rfl) (fun W l k o o' h1 h2 h3=>c5j Bp W l k o o' h1 (a1s h2) (a1s h3)) (fun W l o h1 h2=>a9z Bp W l o h1 (a1s h2)) (fun W k o h1 h2=>b9h Bp W k o h1 (a1s h2)) (fun k=>b4i) (n0:=w.heap.size) hw5.size (Kx:=KxC s (a1d l)) (fun pre x W l o o' h1 h2 h3=>KxC.put h1 (a1s h2) (a1s h3)) (S:=fun xs=>xs.map Prod.fst=a1d l) (N:=101) (w0:=W5) hseq (zR _ _)
  (fun pre W=>PlI w.heap.size w Bp (b6x s w.heap.size) s ws pre W) (fun pre A A' row h hg hr=>h.turn hw5.size hZ hg hr) (fun pre A A' row k h hg hr hc=>h.mine hg hr hc) ⟨_,_,_,hP5⟩ (fun _ _=>False) (fun _ _ h=>h.elim) 92 (fun x=> #[.int .i64 x.1.id,.int .i64 x.1.x,.int .i64 x.1.y,.string x.1.cls,.string x.1.nm,.int .i64 x.1.wt,.int .i64 x.1.ds,x.2,.bool (pfS s x.1).1]) (fun pre x W o h=>h.alloc o) (fun pre W k h hc=>b4i hc) ?assign ?body (fun _ _ _ _ h=>h.elim) ?done)
 case assign =>
  intro l pre x W K hx hK;obtain⟨p,xv⟩:=x;obtain⟨xa,xn,xc,rfl⟩:∃a n c,xv= .slice a n c:=by
   rcases hx.2.2 with h|⟨b,o,c,h⟩
   ·exact⟨_,_,_,h⟩
   ·exact⟨_,_,_,h⟩
  gi_wp2;first|done|exact hK _ (by first|rfl|simp)
 case body =>
  clear hseq km ks hP5;rintro ly pre⟨⟨id,x,y,cls,nm,wt,ds⟩,xv⟩ W B ⟨dv,kv,lv,hP⟩ ⟨⟨rs,hsp⟩,hdl,hdf⟩ hB hBge hBne hlt;have hpm:(⟨id,x,y,cls,nm,wt,ds⟩:Pc)∈a1d l:=by rw[hsp];simp
  obtain⟨hpo,hpc⟩:=hok _ ((a1q l).mem_iff.1 hpm);obtain⟨hl1,hl2,hl3⟩:=b4j s ws (pre.map Prod.fst);have hwl:=b1k hsk ws;have hsm:=c5k hsk ws (pre.map Prod.fst);have hps:=c8n s ⟨id,x,y,cls,nm,wt,ds⟩;have hpl33:=b4e s ⟨id,x,y,cls,nm,wt,ds⟩;have hst:a3f s ws ((pre++[((⟨id,x,y,cls,nm,wt,ds⟩:Pc),xv)]).map Prod.fst)=a3x s.g (pfS s) a5s (a3f s ws (pre.map Prod.fst)) ⟨id,x,y,cls,nm,wt,ds⟩:=by
   rw[List.map_append];exact a2n (g:=s.g) (pf:=pfS s) (kf:=a5s) (wdF s ws) (pre.map Prod.fst) _
  obtain⟨pl,hpl⟩:∃pl,a3f s ws (pre.map Prod.fst)=pl:=⟨_,rfl⟩;rw[hpl] at hl1 hl2 hl3 hsm hP hst;rw[List.length_map] at hl1 hl2 hl3;unfold PlI;rw[hst];unfold a3x b5n;clear hst hpl;obtain⟨⟨on,dl⟩,hpf⟩:∃r,pfS s ⟨id,x,y,cls,nm,wt,ds⟩=r:=⟨_,rfl⟩;simp only[hpf] at hB hdl hdf hps hpl33 ⊢;obtain⟨xa,xc,rfl,-⟩:=hdl.form;obtain⟨da,dc,hdv,-⟩:=(a0b a6m hP.d (by omega)).form;obtain⟨ka,kc,hkv,-⟩:=(a0b b7x hP.k (by omega)).form;obtain⟨la,lc,hlv,-⟩:=(a0b a7r hP.l (by omega)).form;subst hdv hkv hlv;have hzW:=hP.hz;have b0:W.cell? ⟨B,0,none⟩=some (.int .i64 id):=hB.cell 0;have b7:W.cell? ⟨B,7,none⟩=some (.slice xa dl.length xc):=hB.cell 7;have b8:W.cell? ⟨B,8,none⟩=some (.bool on):=hB.cell 8;have p0:W.cell? ⟨Bp,0,none⟩=some (.slice da pl.dots.length dc):=hP.p.cell 0;have p2:W.cell? ⟨Bp,2,none⟩=some (.slice la pl.left.length lc):=hP.p.cell 2
  cases on
  ·rw[if_neg (by decide)]
   gi_wp2_with (first
    |(gi_at_builtin;refine El.allIn a7r d2g (by rfl) _ _ (by rfl) w.heap.size (by rfl) pl.left (hP.l.alloc _) [⟨id,0,0⟩] (by rfl) (b9g a7r W ⟨id,0,0⟩) (.inr ⟨_,_,_,rfl⟩) (by simp;omega) (by simp;omega) (fun _ _=>trivial) ?_;intro v9 w9 hr9 hg9 hb9 hat
      obtain⟨kp9,hP9,hk9⟩:=hP.add_left ((World.grownBy_alloc W _ _).trans hg9) hr9 (hat.imp (fun e=>e) fun e=>⟨_,e,by simp⟩);obtain⟨a9,n9,c9,rfl⟩:∃a n c,v9= .slice a n c:=by
       obtain⟨a,c,h,-⟩:=(a0b a7r hr9 (by simp;omega)).form;exact⟨_,_,_,h⟩
      have q2:w9.cell? ⟨Bp,2,none⟩=some (.slice la pl.left.length lc):=kp9.cell 2;have z2:=kp9.frozen 2;clear hr9 hg9 hb9 hat)
    |fail)
   exact⟨_,_,_,hP9⟩
  ·rw[if_pos rfl]
   have hsd:∀d∈dl,Sm d:=fun d hd=>c8m hsk (hps d hd)
   have hcq:=b4h (g:=s.g) hsm hsd;have hCl:=b1a s.g (.slice da pl.dots.length dc) (.slice xa dl.length xc) pl.dots dl W (a0b a6m hP.d (by omega)) (a2b hP.d) hdl hdf;rw[hcq] at hCl;have s5:W.cell? ⟨w.heap.size+1,5,none⟩=some (.int .i64 s.g):=(hP.o (w.heap.size+1,#[.int .i64 s.ax,.int .i64 s.ay,.int .i64 s.st,.int .i64 s.w,.int .i64 s.h,.int .i64 s.g],28) (by unfold b6x;simp)).cell 5;obtain⟨od,hod⟩:∃o,a4g s.g pl.dots dl=o:=⟨_,rfl⟩;simp only[hod] at hCl ⊢;have hPf:∀W2,Below W.heap.size W W2→∀o,PIr w.heap.size w Bp (b6x s w.heap.size) (.slice da pl.dots.length dc) (.slice ka pl.keys.length kc) (.slice la pl.left.length lc) pl (W2.alloc o)∧KeepP (a3m Bp) w.heap.size W (W2.alloc o):=fun W2 hb o =>
    ⟨(hP.below hb).below ((zR _ _).alloc (yR _) _),(hP.keepP hb).trans ((hP.below hb).keepP ((zR _ _).alloc (yR _) _))⟩
   cases od with
   |some d =>
    simp only[c4s,Option.map_some] at hCl ⊢;gi_upto_region 11 with (first
     |(refine⟨trivial,?_⟩;gi_at_call 36;refine (CallsIn.inRound ly (callsIn_wide.2 hCl)).mono ?_;rintro e W2⟨rfl,hb2⟩)
     |fail)
    obtain⟨hP3,hk3⟩:=hPf W2 hb2 (.cells #[.int .i64 d.x,.int .i64 d.y,.int .i64 d.k,.int .i64 d.i] 54);have hB3:Blk (W2.alloc (.cells #[.int .i64 d.x,.int .i64 d.y,.int .i64 d.k,.int .i64 d.i] 54)) B _ _:=(hB.below hb2 hB.lt).alloc _;have hD3:=Blk.new W2 #[.int .i64 d.x,.int .i64 d.y,.int .i64 d.k,.int .i64 d.i] 54;have hz3':=hP3.hz;have hBp3:=hP3.p.lt;obtain⟨W4,hW4⟩:∃W4,W2.alloc (.cells #[.int .i64 d.x,.int .i64 d.y,.int .i64 d.k,.int .i64 d.i] 54)=W4:=⟨_,rfl⟩;rw[hW4] at hP3 hk3 hB3 hD3 hz3' ⊢;obtain⟨Bd,hBd⟩:∃B,W2.heap.size=B:=⟨_,rfl⟩;rw[hBd] at hD3 ⊢;have e0:W4.cell? ⟨B,0,none⟩=some (.int .i64 id):=hB3.cell 0;have e2:W4.cell? ⟨Bp,2,none⟩=some (.slice la pl.left.length lc):=hP3.p.cell 2;have e3:W4.cell? ⟨Bd,2,none⟩=some (.int .i64 d.k):=hD3.cell 2;have e4:W4.cell? ⟨Bd,3,none⟩=some (.int .i64 d.i):=hD3.cell 3;clear hW4 hBd b0 b7 b8 p0 p2 s5 hCl hPf;gi_wp2_with (first
     |(gi_at_builtin;refine El.allIn a7r d2g (by rfl) _ _ (by rfl) w.heap.size (by rfl) pl.left (hP3.l.alloc _) [⟨id,d.k,d.i⟩] (by rfl) (b9g a7r W4 ⟨id,d.k,d.i⟩) (.inr ⟨_,_,_,rfl⟩) (by simp;omega) (by simp;omega) (fun _ _=>trivial) ?_;intro v9 w9 hr9 hg9 hb9 hat
       obtain⟨kp9,hP9,hk9⟩:=hP3.add_left ((World.grownBy_alloc _ _ _).trans hg9) hr9 (hat.imp (fun e=>e) fun e=>⟨_,e,by simp⟩);obtain⟨a9,n9,c9,rfl⟩:∃a n c,v9= .slice a n c:=by
        obtain⟨a,c,h,-⟩:=(a0b a7r hr9 (by simp;omega)).form;exact⟨_,_,_,h⟩
       have q2:w9.cell? ⟨Bp,2,none⟩=some (.slice la pl.left.length lc):=kp9.cell 2;have z2:=kp9.frozen 2;clear hr9 hg9 hb9 hat)
     |fail)
    exact⟨hk3.trans hk9,_,_,_,hP9⟩
   |none =>
    simp only[c4s,Option.map_none] at hCl ⊢;obtain⟨kL,hkL⟩:∃K,a5s ⟨id,x,y,cls,nm,wt,ds⟩=K:=⟨_,rfl⟩;rw[hkL];gi_upto_region 12 with (first
     |(refine⟨trivial,?_⟩;gi_at_call 36;refine (CallsIn.inRound ly (callsIn_wide.2 hCl)).mono ?_;rintro e W2⟨rfl,hb2⟩)
     |fail)
    obtain⟨hP3,hk3⟩:=hPf W2 hb2 (.cells #[.int .i64 0,.int .i64 0,.int .i64 0,.int .i64 0] 54);have hB3:Blk (W2.alloc (.cells #[.int .i64 0,.int .i64 0,.int .i64 0,.int .i64 0] 54)) B _ _:=(hB.below hb2 hB.lt).alloc _;have hb4:Below W.heap.size W (W2.alloc (.cells #[.int .i64 0,.int .i64 0,.int .i64 0,.int .i64 0] 54)):=hb2.alloc hb2.size _;obtain⟨W4,hW4⟩:∃W4,W2.alloc (.cells #[.int .i64 0,.int .i64 0,.int .i64 0,.int .i64 0] 54)=W4:=⟨_,rfl⟩;rw[hW4] at hP3 hk3 hB3 hb4 ⊢;obtain⟨Bd,hBd⟩:∃B,W2.heap.size=B:=⟨_,rfl⟩;rw[hBd];have e0:W4.cell? ⟨Bp,0,none⟩=some (.slice da pl.dots.length dc):=hP3.p.cell 0;have e7:W4.cell? ⟨B,7,none⟩=some (.slice xa dl.length xc):=hB3.cell 7;have hz4:=hP3.hz;clear hW4 hBd b0 b7 b8 p0 p2 s5 hCl hPf;gi_upto_region 13 with (first
     |(gi_at_builtin;go_loud (refine El.allIn a6m d3o (by rfl) _ _ (by rfl) w.heap.size (by rfl) pl.dots hP3.d dl (by rfl) (hdl.up hb4) hdf (by omega) hz4 (fun _ _=>trivial) ?_);intro v9 w9 hr9 hg9 hb9 hat
       obtain⟨kp9,hP9,hk9⟩:=hP3.add_dots hg9 hr9 (hat.imp (fun e=>e) fun e=>⟨_,e,yR _⟩);obtain⟨a9,n9,c9,rfl⟩:∃a n c,v9= .slice a n c:=by
        obtain⟨a,c,h,-⟩:=(a0b a6m hr9 (by simp;omega)).form;exact⟨_,_,_,h⟩
       have q0:w9.cell? ⟨Bp,0,none⟩=some (.slice da pl.dots.length dc):=kp9.cell 0;have z0:=kp9.frozen 0;clear hr9 hg9 hb9 hat)
     |fail)
    have hkA:=hk3.trans hk9;obtain⟨W6,hW6⟩:∃W6,w9.setCell ⟨Bp,0,none⟩ (.slice a9 n9 c9)=W6:=⟨_,rfl⟩;rw[hW6] at hP9 hkA ⊢;clear hW6 hk9 q0 z0 kp9 e0 e7 hP3 hk3 hb4;have hB6:=(hkA.k.same B hB.lt (fun h=>hBne _ h rfl)).trans hB;replace hB6:Blk W6 B _ _:=hB6;obtain⟨x0,x1,x2,x3,x4,x5,x6⟩:W6.cell? ⟨B,0,none⟩=some (.int .i64 id)∧W6.cell? ⟨B,1,none⟩=some (.int .i64 x)∧W6.cell? ⟨B,2,none⟩=some (.int .i64 y)∧W6.cell? ⟨B,3,none⟩=some (.string cls)∧W6.cell? ⟨B,4,none⟩=some (.string nm)∧W6.cell? ⟨B,5,none⟩=some (.int .i64 wt)∧W6.cell? ⟨B,6,none⟩=some (.int .i64 ds):=⟨hB6.cell 0,hB6.cell 1,hB6.cell 2,hB6.cell 3,hB6.cell 4,hB6.cell 5,hB6.cell 6⟩;have hKy:=c4x ⟨id,x,y,cls,nm,wt,ds⟩ hpo.nm W6;obtain⟨ok,hok2⟩:∃o,d0g ⟨id,x,y,cls,nm,wt,ds⟩=o:=⟨_,rfl⟩;unfold a5s at hkL;unfold d4c at hKy;rw[hok2] at hKy hkL;have hz6:=hP9.hz
    cases ok with
    |none =>
     simp only[Option.isSome_none,Option.toList_none] at hKy hkL;subst hkL;gi_wp2_with (first
      |(refine⟨trivial,?_⟩;gi_at_call 37;refine (CallsIn.inRound ly (callsIn_wide.2 hKy)).mono ?_;rintro e W7⟨k,rfl,-,hb7⟩)
      |fail)
     have hb8:Below W6.heap.size W6 (W7.alloc (.cells #[.int .i64 k.n,.int .i64 k.p,.string k.c] 82)):=hb7.alloc hb7.size _;exact⟨hkA.trans (hP9.keepP hb8),_,_,_,hP9.below hb8⟩
    |some k0 =>
     simp only[Option.isSome_some,Option.toList_some] at hKy hkL;subst hkL;gi_upto_region 15 with (first
      |(refine⟨trivial,?_⟩;gi_at_call 37;refine (CallsIn.inRound ly (callsIn_wide.2 hKy)).mono ?_;rintro e W7⟨k,rfl,hkk,hb7⟩)
      |fail)
     obtain rfl:=hkk k0 rfl;have hb8:Below W6.heap.size W6 (W7.alloc (.cells #[.int .i64 k.n,.int .i64 k.p,.string k.c] 82)):=hb7.alloc hb7.size _;have hP8:=hP9.below hb8;have hk8:=hkA.trans (hP9.keepP hb8);have hD8:=Blk.new W7 #[.int .i64 k.n,.int .i64 k.p,.string k.c] 82;obtain⟨W8,hW8⟩:∃W8,W7.alloc (.cells #[.int .i64 k.n,.int .i64 k.p,.string k.c] 82)=W8:=⟨_,rfl⟩;rw[hW8] at hP8 hk8 hD8 ⊢;obtain⟨Bk,hBk⟩:∃B,W7.heap.size=B:=⟨_,rfl⟩;rw[hBk] at hD8 ⊢;obtain⟨y0,y1,y2⟩:W8.cell? ⟨Bk,0,none⟩=some (.int .i64 k.n)∧W8.cell? ⟨Bk,1,none⟩=some (.int .i64 k.p)∧W8.cell? ⟨Bk,2,none⟩=some (.string k.c):=⟨hD8.cell 0,hD8.cell 1,hD8.cell 2⟩;have e1:W8.cell? ⟨Bp,1,none⟩=some (.slice ka pl.keys.length kc):=hP8.p.cell 1;have hz8:=hP8.hz;clear hW8 hBk x0 x1 x2 x3 x4 x5 x6 hKy hb8 hkA hP9 hB6;gi_wp2_with (first
      |(gi_at_builtin;refine El.allIn b7x d3t (by rfl) _ _ (by rfl) w.heap.size (by rfl) pl.keys (hP8.k.alloc _) [k] (by rfl) (b9g b7x W8 k) (.inr ⟨_,_,_,rfl⟩) (by simp;omega) (by simp;omega) (fun _ _=>trivial) ?_;intro v9 w10 hr9 hg9 hb9 hat
        obtain⟨kp9,hP10,hk10⟩:=hP8.add_keys ((World.grownBy_alloc _ _ _).trans hg9) hr9 (hat.imp (fun e=>e) fun e=>⟨_,e,by simp⟩);obtain⟨a10,n10,c10,rfl⟩:∃a n c,v9= .slice a n c:=by
         obtain⟨a,c,h,-⟩:=(a0b b7x hr9 (by simp;omega)).form;exact⟨_,_,_,h⟩
        have q1:w10.cell? ⟨Bp,1,none⟩=some (.slice ka pl.keys.length kc):=kp9.cell 1;have z1:=kp9.frozen 1;clear hr9 hg9 hb9 hat)
      |fail)
     exact⟨hk8.trans hk10,_,_,_,hP10⟩
 case done =>
  intro D xs W hD hS hR hK;obtain⟨dv,kv,lv,hR⟩:=hR;rw[hS] at hR;have c0:W.cell? ⟨Bp,0,none⟩=some dv:=hR.p.cell 0;have c1:W.cell? ⟨Bp,1,none⟩=some kv:=hR.p.cell 1;have c2:W.cell? ⟨Bp,2,none⟩=some lv:=hR.p.cell 2;have hr:Blk W (w.heap.size+1+1) #[.slice none 0 0,.slice none 0 0,.slice none 0 0] 45:=hR.o (w.heap.size+1+1,#[.slice none 0 0,.slice none 0 0,.slice none 0 0],45) (by unfold b6x;simp);have r0:W.cell? ⟨w.heap.size+1+1,0,none⟩=some (.slice none 0 0):=hr.cell 0;have r1:W.cell? ⟨w.heap.size+1+1,1,none⟩=some (.slice none 0 0):=hr.cell 1;have r2:W.cell? ⟨w.heap.size+1+1,2,none⟩=some (.slice none 0 0):=hr.cell 2;have z0:=hr.frozen 0;have z1:=hr.frozen 1;have z2:=hr.frozen 2;obtain⟨hl1,hl2,hl3⟩:=b4j s ws (a1d l);have hwl:=b1k hsk ws;have hlS:(a1d l).length=l.length:=(a1q l).length_eq;obtain⟨da,dc,hdv,-⟩:=(a0b a6m hR.d (by omega)).form;obtain⟨ka,kc,hkv,-⟩:=(a0b b7x hR.k (by omega)).form;obtain⟨la,lc,hlv,-⟩:=(a0b a7r hR.l (by omega)).form;subst hdv hkv hlv;clear hseq hS hP5 km ks;go_wp2_with fail;have hgA:=((a0h W (w.heap.size+1+1) 0 (.slice da (a3f s ws (a1d l)).dots.length dc)).trans (a0h _ (w.heap.size+1+1) 1 (.slice ka (a3f s ws (a1d l)).keys.length kc))).trans (a0h _ (w.heap.size+1+1) 2 (.slice la (a3f s ws (a1d l)).left.length lc));have kA:=((hr.set 0 (.slice da (a3f s ws (a1d l)).dots.length dc)).set 1 (.slice ka (a3f s ws (a1d l)).keys.length kc)).set 2 (.slice la (a3f s ws (a1d l)).left.length lc);obtain⟨W6,hW6⟩:∃W6,((W.setCell ⟨w.heap.size+1+1,0,none⟩ (.slice da (a3f s ws (a1d l)).dots.length dc)).setCell ⟨w.heap.size+1+1,1,none⟩ (.slice ka (a3f s ws (a1d l)).keys.length kc)).setCell ⟨w.heap.size+1+1,2,none⟩ (.slice la (a3f s ws (a1d l)).left.length lc)=W6:=⟨_,rfl⟩;rw[hW6] at hgA kA ⊢;clear hW6;have hDlt:D<W.heap.size:=(Array.getElem?_eq_some_iff.1 hK).1;have hK6:W6.heap[D]? =some (.deferred (some [])):=(hgA.block D hDlt (fun e=>by cases e;omega)).trans hK;have hg1:=grownBy_putObj' W6 D (.deferred none);have tn:∀ {v:Value} {e:TypeId} {s n:Nat} {xs:List Value},W.ownsRow w.heap.size e s v n xs→e≠45→(W6.putObj D (.deferred none)).ownsRow w.heap.size e s v n xs:=fun {v e s n xs} hw he=>a0x (a0x hw hgA fun r er=>by
   cases er;exact⟨_,hr,fun cur e2=>by simp only[Obj.cells.injEq] at e2;exact he e2.2.1.symm⟩) hg1 fun r er=>by
   cases er;exact⟨_,hK6,fun cur e2=>by cases e2⟩
  have t0:=tn hR.d (by decide);have t1:=tn hR.k (by decide);have t2:=tn hR.l (by decide);have k9:=kA.kept hg1 (fun e=>by cases e;omega);have hbel:Below w.heap.size w (W6.putObj D (.deferred none)):=(hR.bel.grown hgA hR.hz fun r e=>by cases e;omega).grown hg1 (Nat.le_trans hR.hz hgA.size) fun r e=>by cases e;omega
  refine⟨by simp,.inl ⟨_,_,rfl,run_takeDeferred hK6,?_⟩⟩;exact⟨_,a1o (by rfl) _ _ _ 45 _ (0,0) _ (by rfl) k9 underlying45 (by rfl) (by kernel_rfl),_,rfl,⟨_,_,_,rfl,⟨a0b a6m t0 (by omega),a2b t0⟩,⟨a0b b7x t1 (by omega),a2b t1⟩,a0b a7r t2 (by omega),a2b t2⟩,hbel⟩
abbrev b9i (e:Int):List PanicEntry:=[{ v:= .iface 101 (.int .i64 e),recovered:=false }]
theorem a2o (e:Int)(w:World):Calls prog 106 #[.bool true,.int .i64 e] w fun x w'=>x= .returned (.tuple #[])∧w'=w:=by
 go_enter func106,ntmps106;go_wp2_with fail;exact⟨rfl,_,results_none rfl _ _ _,rfl,rfl⟩
theorem a2j (e:Int)(w:World):Calls prog 106 #[.bool false,.int .i64 e] w fun x w'=>x= .panicked (b9i e)∧w'=w:=by
 go_enter func106,ntmps106;go_wp2_with fail;exact⟨rfl,rfl,rfl⟩
theorem c8p (x:Lf)(I:Nat)(id:Int)(w:World)(h:w.cell? ⟨I,0,none⟩=some (.int .i64 id)) :
 Calls prog 153 #[.agg (lfE.enc x).toArray,.pointer (some ⟨I,0,none⟩)] w fun e w'=>e= .returned (.bool (decide (x.p=id)))∧Below w.heap.size w w':=by
 obtain⟨p,k,i⟩:=x;by_cases hp:p=id
 ·subst hp
  go_enter func153,ntmps153;go_wp2_with fail;go_ret;exact⟨by simp,zC⟩
 ·have hb:(p==id)=false:=by simpa using hp
  go_enter func153,ntmps153;go_wp2_with fail;go_ret;exact⟨by simp[hp],zC⟩
theorem b9j (dv kv lv:Value)(pl:Pn)(id:Int)(w:World)(hl:Lst lfE w.heap.size w lv pl.left)(hf:Frm lv pl.left.length) :
 Calls prog 107 #[a2f dv kv lv,.int .i64 id] w fun e w'=>e= .returned (.int .i64 (b7y (why pl id)))∧Below w.heap.size w w':=by
 obtain⟨W,hW⟩:∃W,(w.alloc (.cells #[dv,kv,lv] 45)).alloc (.cells #[.int .i64 id] 3)=W:=⟨_,rfl⟩;have hb:Below w.heap.size w W:=by rw[←hW];exact zC
 have kI:Blk W (w.heap.size+1) #[.int .i64 id] 3:=by rw[←hW];have:=Blk.new (w.alloc (.cells #[dv,kv,lv] 45)) #[.int .i64 id] 3;rwa [World.size_alloc] at this
 have h0:=b8q lv pl.left W (hl.up hb) hf (fun x=>decide (x.p=id)) 153 #[.pointer (some ⟨w.heap.size+1,0,none⟩)] (enters_of func153 (by kernel_rfl) rfl)
  (fun X x hx=>(c8p x (w.heap.size+1) id X ((kI.below hx kI.lt).cell 0)).mono fun _ _ ⟨he,h⟩=>⟨he,hx.trans (h.mono hx.size)⟩)
 rw[show pl.left.findIdx? (fun x=>decide (x.p=id))=why pl id from rfl] at h0;obtain⟨r,hr⟩:∃r,b7y (why pl id)=r:=⟨_,rfl⟩;rw[hr] at h0 ⊢;obtain⟨la,lc,rfl,-⟩:=hl.form;rw[←hW] at h0;clear hr hW hb kI hl hf;go_enter func107,ntmps107;have hmf:∀(fn:Fn) (first cap:Array Value) (w:World),(Instr.makeFunc fn first cap).run prog w= .ok (.func fn first cap) w:=fun _ _ _ _=>rfl
 go_wp2_with (go_at_call 152;refine (h0).mono ?_;rintro e w'⟨rfl,hb_⟩;obtain⟨p,rfl⟩:=a0e hb_;clear hb_);go_ret;exact⟨rfl,zC⟩
def okW (g:Int)(a b:Dt):Bool:=(decide (a.k≠3)&&decide (b.k≠3))|| !a6n g a b
def b3e (g:Int)(l:List Dt)(k:Nat):Bool:=match l[k]? with|some a=>(l.take k).all fun b=>okW g a b|none=>true
def b9k (g:Int)(l:List Dt):Bool:=(List.range l.length).all (b3e g l)
theorem c8q {g:Int}{l:List Dt}(h:∀k,k<l.length→b3e g l k=true):b9k g l=true:=List.all_eq_true.2 fun k hk=>h k (List.mem_range.1 hk)
theorem c0r {g:Int}{l:List Dt}{k j:Nat}{a b:Dt}(hk:l[k]? =some a)(hj:l[j]? =some b)(hjk:j<k)(h:okW g a b=false):b9k g l=false:=by
 cases hg:b9k g l with
 |false=>rfl
 |true =>
  have h1:=List.all_eq_true.1 hg k (List.mem_range.2 (List.getElem?_eq_some_iff.1 hk).1);unfold b3e at h1;rw[hk] at h1;have h2:=List.all_eq_true.1 h1 b (List.mem_iff_getElem?.2 ⟨j,by rw[List.getElem?_take];simp[hjk,hj]⟩);rw[h] at h2
  cases h2
theorem c8r (s:Sh)(dv kv lv:Value)(l:List Dt)(w:World)(hd:Lst dtE w.heap.size w dv l)(hl:l.length≤100000) :
 Calls prog 49 #[shV s,a2f dv kv lv] w fun e w'=>(b9k s.g l=true∧e= .returned (.tuple #[])∨b9k s.g l=false∧e= .panicked (b9i 41))∧Below w.heap.size w w':=by
 obtain⟨da,dc,rfl,-⟩:=hd.form;go_enter func49,ntmps49;go_upto_region 1 with fail;have k2:=(Blk.new w #[.int .i64 s.ax,.int .i64 s.ay,.int .i64 s.st,.int .i64 s.w,.int .i64 s.h,.int .i64 s.g] 28).alloc (.cells #[.slice da l.length dc,kv,lv] 45);have k3:=Blk.new (w.alloc (.cells #[.int .i64 s.ax,.int .i64 s.ay,.int .i64 s.st,.int .i64 s.w,.int .i64 s.h,.int .i64 s.g] 28)) #[.slice da l.length dc,kv,lv] 45;have hb:Below w.heap.size w ((w.alloc (.cells #[.int .i64 s.ax,.int .i64 s.ay,.int .i64 s.st,.int .i64 s.w,.int .i64 s.h,.int .i64 s.g] 28)).alloc (.cells #[.slice da l.length dc,kv,lv] 45)):=zC;rw[World.size_alloc] at k3;obtain⟨W,hW⟩:∃W,(w.alloc (.cells #[.int .i64 s.ax,.int .i64 s.ay,.int .i64 s.st,.int .i64 s.w,.int .i64 s.h,.int .i64 s.g] 28)).alloc (.cells #[.slice da l.length dc,kv,lv] 45)=W:=⟨_,rfl⟩;rw[hW] at k2 k3 hb ⊢;clear hW;have hdW:=hd.up hb;have c0:W.cell? ⟨w.heap.size+1,0,none⟩=some (.slice da l.length dc):=k3.cell 0;go_wp2_with fail;clear c0;go_loopw [11] (fun kk wr=>∃k:Nat,k≤l.length∧kk= .int .i64 (k:Nat)∧(∀j,j<k→b3e s.g l j=true)∧Below W.heap.size W wr) (fun kk _=>l.length-(intOf kk).toNat)
 case atStart=>exact⟨0,Nat.zero_le _,rfl,fun j hj=>absurd hj (by omega),zR _ _⟩
 case round =>
  obtain⟨k,hk,rfl,hall,hbr⟩:=hrel;by_cases hlt:k<l.length
  ·have hltI:(k:Int)<(l.length:Int):=by omega
   have hdr:=hdW.up hbr;obtain⟨b,off,cap,hv,hcap,hlb,hc⟩:=hdr.some_ (by omega);simp only[Value.slice.injEq,true_and] at hv;obtain⟨rfl,rfl⟩:=hv;obtain⟨a,ha⟩:∃a,l[k]=a:=⟨_,rfl⟩;have hck:=hc k hlt;rw[ha] at hck;have d0:wr.cell? ⟨b,off+k*4,none⟩=some (.int .i64 a.x):=hck 0 (show 0<4 by decide);have d1:wr.cell? ⟨b,off+k*4+1,none⟩=some (.int .i64 a.y):=hck 1 (show 1<4 by decide);have d2:wr.cell? ⟨b,off+k*4+2,none⟩=some (.int .i64 a.k):=hck 2 (show 2<4 by decide);have d3:wr.cell? ⟨b,off+k*4+3,none⟩=some (.int .i64 a.i):=hck 3 (show 3<4 by decide);have c0:wr.cell? ⟨w.heap.size+1,0,none⟩=some (.slice (some ⟨b,off,none⟩) l.length dc):=(k3.below hbr k3.lt).cell 0;have hk0:(0:Int)≤(k:Int):=by omega
   have hkc:(k:Int)≤(dc:Int):=by omega
   clear hck hc;go_wp2_with fail;have kA:=Blk.new wr #[.int .i64 a.x,.int .i64 a.y,.int .i64 a.k,.int .i64 a.i] 54;have hbA:Below W.heap.size W (wr.alloc (.cells #[.int .i64 a.x,.int .i64 a.y,.int .i64 a.k,.int .i64 a.i] 54)):=hbr.alloc hbr.size _;obtain⟨WA,hWA⟩:∃X,wr.alloc (.cells #[.int .i64 a.x,.int .i64 a.y,.int .i64 a.k,.int .i64 a.i] 54)=X:=⟨_,rfl⟩;rw[hWA] at kA hbA ⊢;obtain⟨BA,hBA⟩:∃X,wr.heap.size=X:=⟨_,rfl⟩;rw[hBA] at kA ⊢;clear hWA hBA d0 d1 d2 d3 c0 hdr hlb hbr;go_loopw [21] (fun jj wi=>∃j:Nat,j≤k∧jj= .int .i64 (j:Nat)∧(∀(i:Nat) (x:Dt),i<j→l[i]? =some x→okW s.g a x=true)∧Below WA.heap.size WA wi) (fun jj _=>k-(intOf jj).toNat)
   case atStart=>exact⟨0,Nat.zero_le _,rfl,fun i x hi=>absurd hi (by omega),zR _ _⟩
   case round =>
    obtain⟨j,hj,rfl,halj,hbi⟩:=hrel;by_cases hjk:j<k
    ·have hjI:(j:Int)<(k:Int):=by omega
     have hbW:Below W.heap.size W wr:=hbA.trans (hbi.mono hbA.size);have hdi:=hdW.up hbW;obtain⟨b',off',cap',hv,-,-,hc⟩:=hdi.some_ (by omega);simp only[Value.slice.injEq,Option.some.injEq,Addr.mk.injEq,and_true,true_and] at hv;obtain⟨⟨rfl,rfl⟩,rfl⟩:=hv;have hjl:j<l.length:=by omega
     obtain⟨x,hx⟩:∃x,l[j]=x:=⟨_,rfl⟩;have hcj:=hc j hjl;rw[hx] at hcj;have e0:wr.cell? ⟨b,off+j*4,none⟩=some (.int .i64 x.x):=hcj 0 (show 0<4 by decide);have e1:wr.cell? ⟨b,off+j*4+1,none⟩=some (.int .i64 x.y):=hcj 1 (show 1<4 by decide);have e2:wr.cell? ⟨b,off+j*4+2,none⟩=some (.int .i64 x.k):=hcj 2 (show 2<4 by decide);have e3:wr.cell? ⟨b,off+j*4+3,none⟩=some (.int .i64 x.i):=hcj 3 (show 3<4 by decide);have kA':=kA.below hbi kA.lt;obtain⟨a0,a1,a2,a3⟩:wr.cell? ⟨BA,0,none⟩=some (.int .i64 a.x)∧wr.cell? ⟨BA,1,none⟩=some (.int .i64 a.y)∧wr.cell? ⟨BA,2,none⟩=some (.int .i64 a.k)∧wr.cell? ⟨BA,3,none⟩=some (.int .i64 a.i):=⟨kA'.cell 0,kA'.cell 1,kA'.cell 2,kA'.cell 3⟩;have s5:wr.cell? ⟨w.heap.size,5,none⟩=some (.int .i64 s.g):=(k2.below hbW k2.lt).cell 5;have hN:=b2v a x s.g;have hlj:l[j]? =some x:=by rw[List.getElem?_eq_getElem hjl,hx]
     have hlk:l[k]? =some a:=by rw[List.getElem?_eq_getElem hlt,ha]
     obtain⟨nr,hnr⟩:∃r,a6n s.g a x=r:=⟨_,rfl⟩;rw[hnr] at hN;have hnx:∀ {W':World},okW s.g a x=true→Below wr.heap.size wr W'→∃i:Nat,i≤k∧((.int .i64 ((j+1:Nat):Int):Value))= .int .i64 (i:Nat)∧(∀(i':Nat) (x:Dt),i'<i→l[i']? =some x→okW s.g a x=true)∧Below WA.heap.size WA W':=fun {W'} ho hb'=>⟨j+1,by omega,rfl,fun i' y hi' hy=>by
      by_cases he:i'=j
      ·subst he
       rw[hlj] at hy
       cases hy;exact ho
      ·exact halj i' y (by omega) hy,hbi.trans (hb'.mono hbi.size)⟩
     clear hcj hc kA' hdi;by_cases hfree:a.k≠3∧x.k≠3
     ·have h1:(a.k != 3)=true:=by simpa using hfree.1
      have h2:(x.k != 3)=true:=by simpa using hfree.2
      have ho:okW s.g a x=true:=by unfold okW;simp[hfree.1,hfree.2]
      clear hN hnr;go_wp2_with (first
       |(go_at_call 106;go_loud (refine (a2o 41 _).mono ?_);rintro e w9⟨rfl,rfl⟩)
       |fail)
      go_roundw
      case rel=>exact hnx ho zC
      case measure=>simp[intOf];omega
     ·have hfr:a.k=3∨x.k=3:=by omega
      have hoT:nr=false→okW s.g a x=true:=fun h=>by unfold okW;rw[hnr,h];simp
      have hoF:nr=true→okW s.g a x=false:=fun h=>by unfold okW;rw[hnr,h];simp;exact fun h=>hfr.resolve_left h
      clear hnr hfree;by_cases ha3:a.k=3
      ·have h1:(a.k != 3)=false:=by simpa using ha3
       clear hfr ha3
       cases nr
       ·have ho:=hoT rfl
        clear hoT hoF;go_wp2_with (first
         |(go_at_call 88;(with_reducible refine (hN _).mono ?_);rintro e w8⟨rfl,hb8⟩;have hb8':Below wr.heap.size wr w8:=((zR _ _).alloc (yR _) _).trans (hb8.mono (by simp)))
         |(go_at_call 106;refine (a2o 41 _).mono ?_;rintro e w9⟨rfl,rfl⟩)
         |fail)
        go_roundw
        case rel=>exact hnx ho hb8'
        case measure=>simp[intOf];omega
       ·have ho:=hoF rfl
        clear hoT hoF;go_wp2_with (first
         |(go_at_call 88;(with_reducible refine (hN _).mono ?_);rintro e w8⟨rfl,hb8⟩;have hb8':Below wr.heap.size wr w8:=((zR _ _).alloc (yR _) _).trans (hb8.mono (by simp)))
         |(go_at_call 106;refine (a2j 41 _).mono ?_;rintro e w9⟨rfl,rfl⟩)
         |fail)
        exact⟨rfl,.inr ⟨c0r hlk hlj hjk ho,rfl⟩,hb.trans ((hbA.trans ((hbi.trans (hb8'.mono hbi.size)).mono hbA.size)).mono hb.size)⟩
      ·have h1:(a.k != 3)=true:=by simpa using ha3
       have h2:(x.k != 3)=false:=by simpa using hfr.resolve_left ha3
       clear hfr ha3
       cases nr
       ·have ho:=hoT rfl
        clear hoT hoF;go_wp2_with (first
         |(go_at_call 88;(with_reducible refine (hN _).mono ?_);rintro e w8⟨rfl,hb8⟩;have hb8':Below wr.heap.size wr w8:=((zR _ _).alloc (yR _) _).trans (hb8.mono (by simp)))
         |(go_at_call 106;refine (a2o 41 _).mono ?_;rintro e w9⟨rfl,rfl⟩)
         |fail)
        go_roundw
        case rel=>exact hnx ho hb8'
        case measure=>simp[intOf];omega
       ·have ho:=hoF rfl
        clear hoT hoF;go_wp2_with (first
         |(go_at_call 88;(with_reducible refine (hN _).mono ?_);rintro e w8⟨rfl,hb8⟩;have hb8':Below wr.heap.size wr w8:=((zR _ _).alloc (yR _) _).trans (hb8.mono (by simp)))
         |(go_at_call 106;refine (a2j 41 _).mono ?_;rintro e w9⟨rfl,rfl⟩)
         |fail)
        exact⟨rfl,.inr ⟨c0r hlk hlj hjk ho,rfl⟩,hb.trans ((hbA.trans ((hbi.trans (hb8'.mono hbi.size)).mono hbA.size)).mono hb.size)⟩
    ·obtain rfl:j=k:=by omega
     have hge:¬(j:Int)<(j:Int):=by omega
     go_wp2_with fail;go_roundw
     case rel =>
      refine⟨j+1,by omega,by go_num,fun i hi=> ?_,hbA.trans (hbi.mono hbA.size)⟩;by_cases he:i=j
      ·subst he
       unfold b3e;rw[List.getElem?_eq_getElem hlt,ha];refine List.all_eq_true.2 fun x hx=> ?_
       obtain⟨i',hi'⟩:=List.mem_iff_getElem?.1 hx;rw[List.getElem?_take] at hi';split at hi'
       ·exact halj i' x (by assumption) hi'
       ·cases hi'
      ·exact hall i (by omega)
     case measure=>simp[intOf];omega
  ·obtain rfl:k=l.length:=by omega
   have hge:¬(l.length:Int)<(l.length:Int):=by omega
   go_wp2_with fail;refine⟨rfl,_,results_none rfl _ _ _,.inl ⟨c8q hall,rfl⟩,hb.trans (hbr.mono hb.size)⟩
end
end Go.Proofs.YtfocdbjceedagaaGreatDoor
