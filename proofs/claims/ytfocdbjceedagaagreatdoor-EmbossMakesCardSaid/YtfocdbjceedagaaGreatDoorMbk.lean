/-
  Parts.
-/
import Derived.Test.YtfocdbjceedagaaGreatDoorMbi
set_option linter.unusedVariables false
set_option linter.unusedSimpArgs false
set_option maxHeartbeats 4000000
set_option maxRecDepth 100000
namespace Go.Proofs.YtfocdbjceedagaaGreatDoor
open Tryz
section
open Go Go.RowKit Go.Shelf Go.Lib
attribute [local go_sem] Oper.semAt_some
attribute [local go_sem ↓] Go.wp_at_zero Go.wp_at_succ
variable{id:Int}{ps:List Pc}{Bp b c8 i k lc off:Nat}{la:Option Addr}{pl:Pn}{v:Value}{w w':World}
structure PsIn (X:List (Nat×Array Value×TypeId))(Bp:Nat)(v:Value)(ps:List Pc):Prop where
 ne:∀q∈X,q.1≠Bp/\q.2.2≠54/\q.2.2≠82/\q.2.2≠68
 at_:∀W,(∀q∈X,Blk W q.1 q.2.1 q.2.2)->∀k (hk:k<ps.length),∃b off c,v= .slice (some ⟨b,off,none⟩) ps.length c/\∀i,i<7->W.cell? ⟨b,off+k*7+i,none⟩=(plE.enc ps[k])[i]?
theorem d7q {W:World}{base:Nat}(h:W.ownsRow base 66 7 v ps.length (ps.flatMap plE.enc))(hn:ps.length<=1000){c:Array Value}(hB:Blk W Bp c 45):∃X,(∀q∈X,Blk W q.1 q.2.1 q.2.2)/\PsIn X Bp v ps:=by
 by_cases h0:ps.length=0
 ·exact⟨[],λ_ h=>absurd h vM,λ_ h=>absurd h vM,λ_ _ k hk=>absurd hk oM⟩
 ·obtain⟨g,cp,rfl⟩:=d4w h oM
  obtain⟨cur,hk⟩:=c7f h rfl;have hne:g≠Bp:=λe=>by
   subst e;have:=hk.symm.trans hB;simp at this
  refine⟨[(g,cur,66)],λq hq=> ?_,λq hq=> ?_,λW' hW' k hk'=>⟨g,0,cp,rfl,λi hi=> ?_⟩⟩
  ·rw[List.mem_singleton]at hq
   subst hq;exact hk
  ·rw[List.mem_singleton]at hq
   subst hq;exact⟨hne,show(66:Nat)≠54 by decide,show(66:Nat)≠82 by decide,show(66:Nat)≠68 by decide⟩
  ·have h1:=(d4v (E:=plE) a4f h oM hk' hi).1
   have h2:Blk W' g cur 66:=hW' (g,cur,66) vM;rw[show(0:Nat)+k*7+i=k*7+i by omega];rw[<-h1];exact(a2w h2 _).trans (a2w hk _).symm
def FPm (nS k b off c8:Nat)(ps:List Pc)(s:Sh)(id x y wt ds:Int)(cls nm:ByteArray)(on:Bool)(dl:List Dt)(i:Nat)(v:Value)(w:World):Prop :=
 match i with
 |0=>v= .agg #[.int .i64 s.ax,.int .i64 s.ay,.int .i64 s.st,.int .i64 s.w,.int .i64 s.h,.int .i64 s.g]
 |1=>v= .slice (some ⟨b,off,none⟩) ps.length c8
 |2=>v= .int .i64 (k:Nat)
 |3=>v= .pointer (some ⟨b,off+k*7,none⟩)
 |4=>v= .agg #[.int .i64 id,.int .i64 x,.int .i64 y,.string cls,.string nm,.int .i64 wt,.int .i64 ds]
 |5=>v= .slice (some ⟨b,off,none⟩) ps.length c8
 |6=>v= .int .i64 (k:Nat)
 |7=>v= .pointer (some ⟨b,off+k*7,none⟩)
 |8=>v= .pointer (some ⟨b,off+k*7,none⟩)
 |9=>v= .int .i64 id
 |10=>∃u,v= .tuple #[u,.bool on]/\Lst dtE w.heap.size w u dl/\Frm u dl.length/\Dts w.heap.size w u dl
 |11=>∃u,v= .tuple #[u,.bool on]/\Lst dtE w.heap.size w u dl/\Frm u dl.length/\Dts w.heap.size w u dl
 |12=>∃u,v=u/\Lst dtE w.heap.size w u dl/\Frm u dl.length/\Dts w.heap.size w u dl
 |13=>v= .bool on
 |14=>∃u,v=u/\Lst dtE w.heap.size w u dl/\Frm u dl.length/\Dts w.heap.size w u dl
 |_=>False
theorem FPm.kept {nS:Nat}{s:Sh}{x y wt ds:Int}{cls nm:ByteArray}{on:Bool}{dl:List Dt}(h:FPm nS k b off c8 ps s id x y wt ds cls nm on dl i v w)(hg:Below w.heap.size w w'):FPm nS k b off c8 ps s id x y wt ds cls nm on dl i v w':=by
 unfold FPm at *;split at h
 all_goals first|exact h|(obtain⟨u,h1,h2,h3,h4⟩:=h;exact⟨u,h1,h2.up hg,h3,(h4.below hg).mono hg.size⟩)
def FLm (Bp k b off c8 lc:Nat)(la:Option Addr)(ps:List Pc)(pl:Pn)(id:Int)(i:Nat)(v:Value)(w:World):Prop :=
 match i with
 |0=>v= .pointer (some ⟨Bp,2,none⟩)
 |1=>v= .slice la pl.left.length lc
 |2=>v= .slice (some ⟨b,off,none⟩) ps.length c8
 |3=>v= .int .i64 (k:Nat)
 |4=>v= .pointer (some ⟨b,off+k*7,none⟩)
 |5=>v= .pointer (some ⟨b,off+k*7,none⟩)
 |6=>v= .int .i64 id
 |7=>v= .agg #[.int .i64 id,.int .i64 0,.int .i64 0]
 |8=>∃L,v= .slice (some ⟨L,0,none⟩) 1 1/\Blk w L #[.int .i64 id,.int .i64 0,.int .i64 0] 68
 |_=>False
theorem FLm.kept (h:FLm Bp k b off c8 lc la ps pl id i v w)(hg:Below w.heap.size w w'):FLm Bp k b off c8 lc la ps pl id i v w':=by
 unfold FLm at *;exact yeb
def FLn (Bp k b off c8 dc lc j dg dO:Nat)(la:Option Addr)(ps:List Pc)(pl:Pn)(id dk di:Int)(i:Nat)(v:Value)(w:World):Prop :=
 match i with
 |0=>v= .pointer (some ⟨Bp,2,none⟩)
 |1=>v= .slice la pl.left.length lc
 |2=>v= .slice (some ⟨b,off,none⟩) ps.length c8
 |3=>v= .int .i64 (k:Nat)
 |4=>v= .pointer (some ⟨b,off+k*7,none⟩)
 |5=>v= .pointer (some ⟨b,off+k*7,none⟩)
 |6=>v= .int .i64 id
 |7=>v= .pointer (some ⟨Bp,0,none⟩)
 |8=>v= .slice (some ⟨dg,dO,none⟩) pl.dots.length dc
 |9=>v= .int .i64 (j:Nat)
 |10=>v= .pointer (some ⟨dg,dO+j*4,none⟩)
 |11=>v= .pointer (some ⟨dg,dO+j*4+2,none⟩)
 |12=>v= .int .i64 dk
 |13=>v= .pointer (some ⟨Bp,0,none⟩)
 |14=>v= .slice (some ⟨dg,dO,none⟩) pl.dots.length dc
 |15=>v= .int .i64 (j:Nat)
 |16=>v= .pointer (some ⟨dg,dO+j*4,none⟩)
 |17=>v= .pointer (some ⟨dg,dO+j*4+3,none⟩)
 |18=>v= .int .i64 di
 |19=>v= .agg #[.int .i64 id,.int .i64 dk,.int .i64 di]
 |20=>∃L,v= .slice (some ⟨L,0,none⟩) 1 1/\Blk w L #[.int .i64 id,.int .i64 dk,.int .i64 di] 68
 |_=>False
theorem FLn.kept {dc j dg dO:Nat}{dk di:Int}(h:FLn Bp k b off c8 dc lc j dg dO la ps pl id dk di i v w)(hg:Below w.heap.size w w'):FLn Bp k b off c8 dc lc j dg dO la ps pl id dk di i v w':=by
 unfold FLn at *;exact yeb
theorem d1d (s:Sh)(hs:a1g s=0)(hg4:s.g<=4)(ev fv wv pv:Value)(l:List Pc)(ws:List Wy)(w:World)(hL:Lst plE w.heap.size w pv l)(hF:Frm pv l.length)(hl:l.length<=80)(hok:∀p∈l,PcOk p/\p.cls.size<=1000)
 (hW:Wys w.heap.size w wv ws) (hlen:ws.length<=100) (hpl:∀y∈ws,y.line.length<=100) :
 Calls prog 11 #[b7q ev fv wv pv,shV s] w λe w'=>∃v,e= .returned (.tuple #[v,.int .i64 0])/\PlanIn w' v (a2k s ws (a0t l))/\Below w.heap.size w w':=by
 have hsk:=a4h hs;have hBg:=λpa pc w=>b5h s ev fv wv pa l.length pc w
 unfold a3c at hBg;rw[if_pos hs,if_neg oM]at hBg;obtain⟨pa,pc,rfl,-⟩:=hL.form;have hWy:=λw4 (hb:Below w.heap.size w w4)=>d0z s wv ws w4 hs (hW.up hb hb.size) hlen hpl
 have hPs:=λw4 (hb:Below w.heap.size w w4)=>b5g ev fv wv (.slice pa l.length pc) l w4 (hL.up hb) hF oM
 have hlS:(a0t l).length=l.length:=(a1c l).length_eq;have hokS:∀p∈a0t l,PcOk p/\p.cls.size<=1000:=λp hp=>hok p ((a1c l).mem_iff.1 hp)
 obtain⟨ps,hps⟩:=zE (a0t l);rw[hps]at hlS hPs hokS ⊢;clear hps;have hn80:ps.length<=80:=oM;replace hlS:=Lib.hid hlS;go_enter func11,ntmps11;go_upto_region 5 with(first
  |(go_at_call 38;(with_reducible refine(hBg _ _ _).mono ?_);rintro e W1⟨rfl,hb1⟩
    have k1:=(((Blk.new w #[ev,fv,wv,.slice pa l.length pc] 37).alloc (.cells #[.int .i64 s.ax,.int .i64 s.ay,.int .i64 s.st,.int .i64 s.w,.int .i64 s.h,.int .i64 s.g] 28)).alloc (.cells #[.slice none 0 0,.slice none 0 0,.slice none 0 0] 45)).below hb1 uM;have k2:=((Blk.new (w.alloc (.cells #[ev,fv,wv,.slice pa l.length pc] 37)) #[.int .i64 s.ax,.int .i64 s.ay,.int .i64 s.st,.int .i64 s.w,.int .i64 s.h,.int .i64 s.g] 28).alloc (.cells #[.slice none 0 0,.slice none 0 0,.slice none 0 0] 45)).below hb1 vM;have k3:=(Blk.new ((w.alloc (.cells #[ev,fv,wv,.slice pa l.length pc] 37)).alloc (.cells #[.int .i64 s.ax,.int .i64 s.ay,.int .i64 s.st,.int .i64 s.w,.int .i64 s.h,.int .i64 s.g] 28)) #[.slice none 0 0,.slice none 0 0,.slice none 0 0] 45).below hb1 vM;have hw1:Below w.heap.size w W1:=((((zR _ _).alloc (yR _) _).alloc vM _).alloc uM _).trans (hb1.mono uM);have hz1:=hb1.size;simp only[World.size_alloc]at k1 k2 k3 hz1;clear hb1;obtain⟨m0,m1,m2,m3⟩:=zN4 k1;obtain⟨s0,s1,s2,s3,s4,s5⟩:W1.cell? ⟨w.heap.size+1,0,none⟩=some (.int .i64 s.ax)/\W1.cell? ⟨w.heap.size+1,1,none⟩=some (.int .i64 s.ay)/\W1.cell? ⟨w.heap.size+1,2,none⟩=some (.int .i64 s.st)/\W1.cell? ⟨w.heap.size+1,3,none⟩=some (.int .i64 s.w)/\W1.cell? ⟨w.heap.size+1,4,none⟩=some (.int .i64 s.h)/\W1.cell? ⟨w.heap.size+1,5,none⟩=some (.int .i64 s.g):=⟨k2.cell 0,k2.cell 1,k2.cell 2,k2.cell 3,k2.cell 4,k2.cell 5⟩)
  |(go_at_call 39;(with_reducible refine(hWy _ hw1).mono ?_);rintro e W2⟨v,base,rfl,hbase,hrow,hb2⟩
    clear m0 m1 m2 m3 s0 s1 s2 s3 s4 s5;obtain⟨va,vc,rfl⟩:∃a c,v= .slice a (wdF s ws).length c:=by
     obtain⟨a,c,h,-⟩:=(a0h a8a hrow (by have:=a7l hsk ws;unfold wdF at this;omega)).form;exact⟨a,c,h⟩))
 have hz2:=hb2.size;have k1':=(k1.below hb2 k1.lt).alloc (.cells #[.slice va (wdF s ws).length vc,.slice none 0 0,.slice none 0 0] 45);have k2':=(k2.below hb2 k2.lt).alloc (.cells #[.slice va (wdF s ws).length vc,.slice none 0 0,.slice none 0 0] 45);have k3':=(k3.below hb2 k3.lt).alloc (.cells #[.slice va (wdF s ws).length vc,.slice none 0 0,.slice none 0 0] 45);have k4':=Blk.new W2 #[.slice va (wdF s ws).length vc,.slice none 0 0,.slice none 0 0] 45;have hrow':=(b6r hrow (Nat.le_trans hw1.size hbase)).alloc (.cells #[.slice va (wdF s ws).length vc,.slice none 0 0,.slice none 0 0] 45);have hw2:Below w.heap.size w (W2.alloc (.cells #[.slice va (wdF s ws).length vc,.slice none 0 0,.slice none 0 0] 45)):=(hw1.trans (hb2.mono hw1.size)).alloc (Nat.le_trans hw1.size hz2) _;obtain⟨W3,hW3⟩:=zE (W2.alloc (.cells #[.slice va (wdF s ws).length vc,.slice none 0 0,.slice none 0 0] 45));have hz3:W3.heap.size=W2.heap.size+1:=by rw[<-hW3];simp
 rw[hW3]at k1' k2' k3' k4' hrow' hw2 ⊢;clear hW3 k1 k2 k3 hrow hb2 hWy hBg;obtain⟨Bp,hBp⟩:=zE W2.heap.size;rw[hBp]at k4' hz3 hz2 ⊢;obtain⟨m0,m1,m2,m3⟩:=zN4 k1';go_wp2_with (first
  |(go_at_call 40;(with_reducible refine(hPs _ hw2).mono ?_);rintro e W5⟨v8,rfl,hr8,hb5⟩
    rw[<-hlS.out]at hr8;obtain⟨a8,c8,rfl,-⟩:=(a0h a4f hr8 oM).form))
 have hw5:Below w.heap.size w W5:=hw2.trans (hb5.mono hw2.size);obtain⟨X,hX,hPX⟩:=d7q (Bp:=Bp) hr8 oM (k4'.below hb5 k4'.lt);have hP5:PIr w.heap.size w Bp (a7v s w.heap.size++X) (.slice va (wdF s ws).length vc) (.slice none 0 0) (.slice none 0 0) (a2k s ws []) W5 :=
  ⟨k4'.below hb5 k4'.lt,a1e hrow' hb5,⟨rfl,.inl ⟨rfl,rfl⟩⟩,⟨rfl,.inl ⟨rfl,rfl⟩⟩,λq hq=>(List.mem_append.1 hq).elim (a6r (Q:=λq=>Blk W5 q.1 q.2.1 q.2.2) (k2'.below hb5 k2'.lt) (k3'.below hb5 k3'.lt) q) (hX q),
   λq hq=>(List.mem_append.1 hq).elim (a6r (Q:=λq=>q.1≠Bp/\q.2.2≠54/\q.2.2≠82/\q.2.2≠68) ⟨by show w.heap.size+1≠Bp;omega,show(28:Nat)≠54 by decide,show(28:Nat)≠82 by decide,show(28:Nat)≠68 by decide⟩ ⟨by show w.heap.size+1+1≠Bp;omega,show(45:Nat)≠54 by decide,show(45:Nat)≠82 by decide,show(45:Nat)≠68 by decide⟩ q) (hPX.ne q),
   by omega,hw5,yR _⟩
 have hShB:∀W,(∀q∈a7v s w.heap.size++X,Blk W q.1 q.2.1 q.2.2)->Blk W (w.heap.size+1) #[.int .i64 s.ax,.int .i64 s.ay,.int .i64 s.st,.int .i64 s.w,.int .i64 s.h,.int .i64 s.g] 28:=λW h=>h (w.heap.size+1,#[.int .i64 s.ax,.int .i64 s.ay,.int .i64 s.st,.int .i64 s.w,.int .i64 s.h,.int .i64 s.g],28) (by unfold a7v;simp)
 have hRsB:∀W,(∀q∈a7v s w.heap.size++X,Blk W q.1 q.2.1 q.2.2)->Blk W (w.heap.size+1+1) #[.slice none 0 0,.slice none 0 0,.slice none 0 0] 45:=λW h=>h (w.heap.size+1+1,#[.slice none 0 0,.slice none 0 0,.slice none 0 0],45) (by unfold a7v;simp)
 have hPsB:∀W,(∀q∈a7v s w.heap.size++X,Blk W q.1 q.2.1 q.2.2)->∀q∈X,Blk W q.1 q.2.1 q.2.2:=λW h q hq=>h q (List.mem_append_right _ hq)
 obtain⟨L,hLe⟩:=zE (a7v s w.heap.size++X);rw[hLe]at hP5 hShB hRsB hPsB;clear hLe m0 m1 m2 m3 k1' k2' k3' k4' hrow' hb5 hr8 hX hPs hL hF hW hz1 hz2 hz3 hbase hw1 hw2;clear hlS;obtain⟨nS,hnS⟩:=zE (w.heap.size+1);rw[hnS]at hShB hRsB ⊢;go_loopw [9] (λi wr=>∃k:Nat,k<=ps.length/\i= .int .i64 (k:Nat)/\∃dv kv lv,PIr w.heap.size w Bp L dv kv lv (a2k s ws (ps.take k)) wr) (λi _=>ps.length-(intOf i).toNat)
 case atStart=>exact⟨0,Nat.zero_le _,rfl,_,_,_,by rw[List.take_zero];exact hP5⟩
 case round =>
  clear hP5 hw5;obtain⟨k,hk,rfl,dv,kv,lv,hP⟩:=hrel;by_cases hlt:k<ps.length
  ·have hltI:(k:Int)<(ps.length:Int):=oM
   have hst:a2k s ws (ps.take (k+1))=a2y s.g (pfS s) a7e (a2k s ws (ps.take k)) ps[k]:=by
    rw[List.take_succ_eq_append_getElem hlt];exact a6u (g:=s.g) (pf:=pfS s) (kf:=a7e) (wdF s ws) (ps.take k) _
   obtain⟨hpo,hpc⟩:=hokS _ (List.getElem_mem hlt);obtain⟨hl1,hl2,hl3⟩:=a8t s ws (ps.take k);rw[List.length_take]at hl1 hl2 hl3;have hwl:=a7l hsk ws;have hsm:=c2r hsk ws (ps.take k);obtain⟨b,off,cap,hv,hcp⟩:=hPX.at_ wr (hPsB wr hP.o) k hlt
   cases hv;obtain⟨p,hp⟩:=zE (ps[k]);rw[hp]at hst hpo hpc hcp;have hps33:=d3h s p;have hpl33:=b2z s p;have hpk:=d7g s p;obtain⟨id,x,y,cls,nm,wt,ds⟩:=p;obtain⟨h_p0,h_p1,h_p2,h_p3,h_p4,h_p5,h_p6⟩:wr.cell? ⟨b,off+k*7,none⟩=some (.int .i64 id)/\wr.cell? ⟨b,off+k*7+1,none⟩=some (.int .i64 x)/\wr.cell? ⟨b,off+k*7+2,none⟩=some (.int .i64 y)/\wr.cell? ⟨b,off+k*7+3,none⟩=some (.string cls)/\wr.cell? ⟨b,off+k*7+4,none⟩=some (.string nm)/\wr.cell? ⟨b,off+k*7+5,none⟩=some (.int .i64 wt)/\wr.cell? ⟨b,off+k*7+6,none⟩=some (.int .i64 ds):=⟨hcp 0 jM,hcp 1 jM,hcp 2 jM,hcp 3 jM,hcp 4 jM,hcp 5 jM,hcp 6 jM⟩;have hPl:=λW (_:Below wr.heap.size wr W)=>c7i s id x y wt ds id cls nm W hpo.id hpc
   simp only[show plF s x y id cls id=pfS s ⟨id,x,y,cls,nm,wt,ds⟩from rfl]at hPl;obtain⟨⟨on,dl⟩,hpf⟩:∃r,pfS s ⟨id,x,y,cls,nm,wt,ds⟩=r:=⟨_,rfl⟩;unfold a2y d5e at hst;simp only[hpf]at hPl hps33 hpl33 hpk hst;obtain⟨pl,hple⟩:=zE (a2k s ws (ps.take k));rw[hple]at hl1 hl2 hl3 hsm hP hst;replace hst:=Lib.hid hst;replace hp:=Lib.hid hp;clear hpf hple hcp;obtain⟨da,dc,hdv,-⟩:=(a0h a8a hP.d oM).form;obtain⟨ka,kc,hkv,-⟩:=(a0h c1q hP.k oM).form;obtain⟨la,lc,hlv,-⟩:=(a0h b8j hP.l oM).form;subst hdv hkv hlv;have kSh:=hShB wr hP.o;obtain⟨h_s0,h_s1,h_s2,h_s3,h_s4,h_s5⟩:=zN6 kSh;clear kSh;go_upto_region 9 with fail;refine Go.wp_region_rel 15 zM zM (λ_ W=>Below wr.heap.size wr W) (λw w'=>Below w.heap.size w w') (FPm nS k b off c8 ps s id x y wt ds cls nm on dl) (λ_ _ _ _ h g=>h.kept g) (zR _ _).drew ?step9 ?tail9
   case step9 =>
    clear hP hst hsm hps33 hpk hPX hPsB hRsB hShB hokS hok hpl;intro i o hi ho c bb W hc hM hA hD K hK;match i,hi,ho with
    |0,_,ho =>
     cases ho;have f3:=a0a (v:= .pointer (some ⟨nS,0,none⟩)) (hA.at_ (k:=3) zM);have z0:W.cell? ⟨nS,0,none⟩=some (.int .i64 s.ax):=a0l hM h_s0;have z1:W.cell? ⟨nS,1,none⟩=some (.int .i64 s.ay):=a0l hM h_s1;have z2:W.cell? ⟨nS,2,none⟩=some (.int .i64 s.st):=a0l hM h_s2;have z3:W.cell? ⟨nS,3,none⟩=some (.int .i64 s.w):=a0l hM h_s3;have z4:W.cell? ⟨nS,4,none⟩=some (.int .i64 s.h):=a0l hM h_s4;have z5:W.cell? ⟨nS,5,none⟩=some (.int .i64 s.g):=a0l hM h_s5;go_simp;exact hK (.agg #[.int .i64 s.ax,.int .i64 s.ay,.int .i64 s.st,.int .i64 s.w,.int .i64 s.h,.int .i64 s.g]) W rfl (zR _ _) hM
    |1,_,ho =>
     exact ybw
    |2,_,ho =>
     exact yec
    |3,_,ho =>
     cases ho;have f37:=a0a (v:= .slice (some ⟨b,off,none⟩) ps.length c8) (a0c hD 1 37 zM rfl rfl);have f38:=a0a (v:= .int .i64 (k:Nat)) (a0c hD 2 38 zM rfl rfl);exact ycr
    |4,_,ho =>
     cases ho;have f39:=a0a (v:= .pointer (some ⟨b,off+k*7,none⟩)) (a0c hD 3 39 zM rfl rfl);have z0:W.cell? ⟨b,off+k*7,none⟩=some (.int .i64 id):=a0l hM h_p0;have z1:W.cell? ⟨b,off+k*7+1,none⟩=some (.int .i64 x):=a0l hM h_p1;have z2:W.cell? ⟨b,off+k*7+2,none⟩=some (.int .i64 y):=a0l hM h_p2;have z3:W.cell? ⟨b,off+k*7+3,none⟩=some (.string cls):=a0l hM h_p3;have z4:W.cell? ⟨b,off+k*7+4,none⟩=some (.string nm):=a0l hM h_p4;have z5:W.cell? ⟨b,off+k*7+5,none⟩=some (.int .i64 wt):=a0l hM h_p5;have z6:W.cell? ⟨b,off+k*7+6,none⟩=some (.int .i64 ds):=a0l hM h_p6;go_simp;exact hK (.agg #[.int .i64 id,.int .i64 x,.int .i64 y,.string cls,.string nm,.int .i64 wt,.int .i64 ds]) W rfl (zR _ _) hM
    |5,_,ho =>
     exact ybw
    |6,_,ho =>
     exact yec
    |7,_,ho =>
     cases ho;have f41:=a0a (v:= .slice (some ⟨b,off,none⟩) ps.length c8) (a0c hD 5 41 zM rfl rfl);have f42:=a0a (v:= .int .i64 (k:Nat)) (a0c hD 6 42 zM rfl rfl);exact ycr
    |8,_,ho =>
     cases ho;have f43:=a0a (v:= .pointer (some ⟨b,off+k*7,none⟩)) (a0c hD 7 43 zM rfl rfl);exact ycr
    |9,_,ho =>
     cases ho;have f44:=a0a (v:= .pointer (some ⟨b,off+k*7,none⟩)) (a0c hD 8 44 zM rfl rfl);have z0:W.cell? ⟨b,off+k*7,none⟩=some (.int .i64 id):=a0l hM h_p0;exact yiw
    |10,_,ho =>
     cases ho;have f36:=a0a (v:= .agg #[.int .i64 s.ax,.int .i64 s.ay,.int .i64 s.st,.int .i64 s.w,.int .i64 s.h,.int .i64 s.g]) (a0c hD 0 36 zM rfl rfl);have f40:=a0a (v:= .agg #[.int .i64 id,.int .i64 x,.int .i64 y,.string cls,.string nm,.int .i64 wt,.int .i64 ds]) (a0c hD 4 40 zM rfl rfl);have f45:=a0a (v:= .int .i64 id) (a0c hD 9 45 zM rfl rfl);go_simp;refine(hPl W hM).mono ?_;rintro e W'⟨u,rfl,⟨h1,h2,h3⟩,hb⟩;go_simp;exact hK (.tuple #[u,.bool on]) W' ⟨u,rfl,h1,h2,h3⟩ hb (hM.trans (hb.mono hM.size))
    |11,_,ho =>
     cases ho;have f46:=a0c hD 10 46 zM rfl rfl;obtain⟨u,h1,h2⟩:=f46;have e46:=a0a h1;go_simp;exact hK (.tuple #[u,.bool on]) W ⟨u,rfl,h2⟩ (zR _ _) hM
    |12,_,ho =>
     cases ho;have f35:=a0c hD 11 35 zM rfl rfl;obtain⟨u,h1,h2⟩:=f35;have e35:=a0a h1;go_simp;exact hK u W ⟨u,rfl,h2⟩ (zR _ _) hM
    |13,_,ho =>
     cases ho;have f35:=a0c hD 11 35 zM rfl rfl;obtain⟨v,h1,h2⟩:=f35;have e35:=a0a h1;go_simp;exact hK (.bool on) W rfl (zR _ _) hM
    |14,_,ho =>
     cases ho;have f47:=a0c hD 12 47 zM rfl rfl;obtain⟨u,h1,h2⟩:=f47;have e47:=a0a h1;go_simp;exact hK u W ⟨u,rfl,h2⟩ (zR _ _) hM
    |i+15,hi,_=>exact absurd hi oM
   case tail9 =>
    intro bb W9 hM hA hall;obtain⟨xv,h10,hx1,hx2,hx3⟩:=(show ∃u,bb.eval (.tmp 10)=u/\Lst dtE W9.heap.size W9 u dl/\Frm u dl.length/\Dts W9.heap.size W9 u dl from hall 14 oM _ _ rfl rfl);have h48:bb.eval (.tmp 48)= .bool on:=hall 13 oM _ _ rfl rfl;have hfr:=hA.frame (rT 10 (rF 1 (rT 24 (rF 14 (rT 69 ([])))))) _ rfl zM;clear hall hA;obtain⟨f,hf⟩:∃f:Nat->Value,(λk=>bb.tmps.getD k undef)=f:=⟨_,rfl⟩;have g48:f 48= .bool on:=by rw[<-hf,<-h48];rfl
    have g10:f 10=xv:=by rw[<-hf,<-h10];rfl
    rw[hf]at hfr;clear hf h48 h10;subst hfr;simp only[rT,rF,a1z,g48,g10,Nat.reduceAdd];clear g48 g10;simp only[zU];have hP9:=hP.below hM;have h_q0:=a0l hM h_p0;have h_l2:W9.cell? ⟨Bp,2,none⟩=some (.slice la pl.left.length lc):=hP9.p.cell 2;clear h_p0 h_p1 h_p2 h_p3 h_p4 h_p5 h_p6 h_s0 h_s1 h_s2 h_s3 h_s4 h_s5 hPl
    cases on
    ·have hst1:=hst.out
     rw[if_neg jM]at hst1;simp only at hst1;replace hst1:=Lib.hid hst1;clear hst;go_upto_region 11 with fail;refine Go.wp_region_rel 9 zM zM (λ_ W=>Below W9.heap.size W9 W) (λw w'=>Below w.heap.size w w') (FLm Bp k b off c8 lc la ps pl id) (λ_ _ _ _ h g=>h.kept g) (zR _ _).drew ?step11 ?tail11
     case step11 =>
      clear hP hP9 hsm hps33 hpk hPX hPsB hRsB hShB hokS hok hpl hx1 hx2 hx3 hM;intro i o hi ho c bb W hc hM hA hD K hK;match i,hi,ho with
      |0,_,ho =>
       exact yfg
      |1,_,ho =>
       cases ho;have f51:=a0a (v:= .pointer (some ⟨Bp,2,none⟩)) (a0c hD 0 51 zM rfl rfl);exact yfn
      |2,_,ho =>
       exact ybw
      |3,_,ho =>
       exact yec
      |4,_,ho =>
       cases ho;have f53:=a0a (v:= .slice (some ⟨b,off,none⟩) ps.length c8) (a0c hD 2 53 zM rfl rfl);have f54:=a0a (v:= .int .i64 (k:Nat)) (a0c hD 3 54 zM rfl rfl);exact ycr
      |5,_,ho =>
       cases ho;have f55:=a0a (v:= .pointer (some ⟨b,off+k*7,none⟩)) (a0c hD 4 55 zM rfl rfl);exact ycr
      |6,_,ho =>
       cases ho;have f56:=a0a (v:= .pointer (some ⟨b,off+k*7,none⟩)) (a0c hD 5 56 zM rfl rfl);exact ygp
      |7,_,ho =>
       cases ho;have f57:=a0a (v:= .int .i64 id) (a0c hD 6 57 zM rfl rfl);go_simp;exact hK (.agg #[.int .i64 id,.int .i64 0,.int .i64 0]) W rfl (zR _ _) hM
      |8,_,ho =>
       cases ho;have f58:=a0a (v:= .agg #[.int .i64 id,.int .i64 0,.int .i64 0]) (a0c hD 7 58 zM rfl rfl);exact ydw
      |i+9,hi,_=>exact absurd hi oM
     case tail11 =>
      intro bb W11 hM2 hA hall;obtain⟨L1,h59,hL1⟩:=(show ∃L,bb.eval (.tmp 59)= .slice (some ⟨L,0,none⟩) 1 1/\Blk W11 L #[.int .i64 id,.int .i64 0,.int .i64 0] 68 from hall 8 oM _ _ rfl rfl);have h52:bb.eval (.tmp 52)= .slice la pl.left.length lc:=hall 1 oM _ _ rfl rfl;have hfr:=hA.frame (rT 51 (rF 9 (rT 58 ([])))) _ rfl zM;clear hall hA;obtain⟨f2,hf⟩:∃f:Nat->Value,(λk=>bb.tmps.getD k undef)=f:=⟨_,rfl⟩;have g59:f2 59= .slice (some ⟨L1,0,none⟩) 1 1:=by rw[<-hf,<-h59];rfl
      have g52:f2 52= .slice la pl.left.length lc:=by rw[<-hf,<-h52];rfl
      rw[hf]at hfr;clear hf h59 h52;subst hfr;simp only[rT,rF,a1z,g59,g52,Nat.reduceAdd];clear g59 g52;simp only[zU];have hPa:=hP9.below hM2;have hza:=hPa.hz;clear h_q0 h_l2 hP hP9;go_wp2_with (first
       |(at_builtin;refine El.allG b8j d9e qM _ _ qM w.heap.size qM pl.left hPa.l [⟨id,0,0⟩] qM (Lst.single b8j (x:=⟨id,0,0⟩) hL1) (.inr ⟨_,_,_,rfl⟩) uM hza ?_;intro v9 w9 hr9 hg9 hb9 hat
         obtain⟨kp9,hP10,-⟩:=hPa.add_left hg9 hr9 (hat.imp (λe=>e) λe=>⟨_,e,yR _⟩);obtain⟨a9,n9,c9,rfl⟩:∃a n c,v9= .slice a n c:=by
          exact yes
         have q2:w9.cell? ⟨Bp,2,none⟩=some (.slice la pl.left.length lc):=kp9.cell 2;have z2:=kp9.frozen 2))
      go_roundw
      case rel=>exact⟨k+1,oM,by go_num,_,_,_,by rw[hst1.out];exact hP10⟩
      case measure=>simp[intOf];omega
    ·have hst1:=hst.out
     rw[if_pos rfl]at hst1;have hcl:=c9y (g:=s.g) hg4 hpk pl.dots;have hnr:=λX (hb:Below W9.heap.size W9 X)=>d0q s (.slice da pl.dots.length dc) xv pl.dots dl id X ((a0h a8a hP9.d oM).up hb) oM (λd hd=>by have h:=hsm d hd;exact⟨⟨by have:=h.x0;omega,by have:=h.x1;omega⟩,by have:=h.y0;omega,by have:=h.y1;omega⟩) ((hx3.below hb).mono hb.size)
     have hfl:=λj (h:pl.dots.findIdx? (nrP s.g dl id)=some j)=>(List.findIdx?_eq_some_iff_getElem.1 h).1
     obtain⟨o,ho⟩:=zE (pl.dots.findIdx? (nrP s.g dl id));rw[ho]at hcl hfl;simp only[ho]at hnr;rw[hcl]at hst1;replace hst1:=Lib.hid hst1;have kSh:=hShB W9 hP9.o;obtain⟨h_s0,h_s1,h_s2,h_s3,h_s4,h_s5⟩:=zN6 kSh;have h_l0:W9.cell? ⟨Bp,0,none⟩=some (.slice da pl.dots.length dc):=hP9.p.cell 0;clear hst hcl ho kSh hP hM
     cases o with
     |none =>
      simp only[b2b]at hnr;have hst2:=hst1.out;simp only[Option.bind_none,Option.map_none]at hst2;replace hst2:=Lib.hid hst2;clear hst1 hfl;go_upto_region 12 with fail;first|with_reducible refine a0e zM zM ?_|with_reducible refine a0g zM zM ?_
      repeat(first|go_big_quiet_step ((go_at_call 42;exact Calls.grow_of (hnr _ (Go.below_growBy W9 _))))|quiet_step ((go_at_call 42;exact Calls.grow_of (hnr _ (Go.below_growBy W9 _)))))
      refine wpQuiet_nil ?_;intro _ hw_;obtain⟨p,hw_⟩:=hw_;subst hw_;have hPb:=hP9.below (Go.below_growBy W9 p);have hx1b:=hx1.up (Go.below_growBy W9 p);obtain⟨W12,hW12⟩:=zE (W9.growBy p);rw[hW12]at hPb hx1b ⊢;clear hW12 hP9 hx1 hx3 hnr h_s0 h_s1 h_s2 h_s3 h_s4 h_s5 h_l0 h_l2 h_q0;have h_l0:W12.cell? ⟨Bp,0,none⟩=some (.slice da pl.dots.length dc):=hPb.p.cell 0;have hzb:=hPb.hz;obtain⟨xa,xc,hxv,-⟩:=hx1b.form;go_upto_region 16 with(first
       |(at_builtin;refine El.allG a8a d9j qM _ _ qM w.heap.size qM pl.dots hPb.d dl qM hx1b hx2 oM hzb ?_;intro v9 w9 hr9 hg9 hb9 hat
         obtain⟨kp9,hPc,-⟩:=hPb.add_dots hg9 hr9 (hat.imp (λe=>e) λe=>⟨_,e,yR _⟩);obtain⟨a9,n9,c9,rfl⟩:∃a n c,v9= .slice a n c:=by
          exact ygo
         have q0:w9.cell? ⟨Bp,0,none⟩=some (.slice da pl.dots.length dc):=kp9.cell 0;have z0:=kp9.frozen 0))
      obtain⟨W13,hW13⟩:=zE (w9.setCell ⟨Bp,0,none⟩ (.slice a9 n9 c9));rw[hW13]at hPc ⊢;clear hW13 q0 z0 kp9 hr9 hg9 hb9 hat hPb hx1b h_l0;have hz13:=hPc.hz;obtain⟨b2,off2,c2,hv2,hcp2⟩:=hPX.at_ W13 (hPsB W13 hPc.o) k hlt
      cases hv2;rw[hp.out]at hcp2;obtain⟨h_p0,h_p1,h_p2,h_p3,h_p4,h_p5,h_p6⟩:W13.cell? ⟨b,off+k*7,none⟩=some (.int .i64 id)/\W13.cell? ⟨b,off+k*7+1,none⟩=some (.int .i64 x)/\W13.cell? ⟨b,off+k*7+2,none⟩=some (.int .i64 y)/\W13.cell? ⟨b,off+k*7+3,none⟩=some (.string cls)/\W13.cell? ⟨b,off+k*7+4,none⟩=some (.string nm)/\W13.cell? ⟨b,off+k*7+5,none⟩=some (.int .i64 wt)/\W13.cell? ⟨b,off+k*7+6,none⟩=some (.int .i64 ds):=⟨hcp2 0 jM,hcp2 1 jM,hcp2 2 jM,hcp2 3 jM,hcp2 4 jM,hcp2 5 jM,hcp2 6 jM⟩;have hKy:=d4m ⟨id,x,y,cls,nm,wt,ds⟩ hpo.nm W13;have hst3:=hst2.out;unfold a7e at hst3;obtain⟨ok,hok2⟩:=zE (d1k ⟨id,x,y,cls,nm,wt,ds⟩);unfold d8j at hKy;rw[hok2]at hKy hst3;clear hcp2 hst2 hok2 hxv
      cases ok with
      |none =>
       simp only[Option.isSome_none,Option.toList_none,List.append_nil]at hKy hst3;replace hst3:=Lib.hid hst3;go_wp2_with (first
        |(go_at_call 43;(with_reducible refine hKy.mono ?_);rintro e W7⟨k0,rfl,-,hb7⟩))
       go_roundw
       case rel=>exact⟨k+1,oM,by go_num,_,_,_,by rw[hst3.out];exact hPc.below (hb7.alloc hb7.size _)⟩
       case measure=>simp[intOf];omega
      |some k1 =>
       simp only[Option.isSome_some,Option.toList_some]at hKy hst3;replace hst3:=Lib.hid hst3;go_upto_region 18 with(first
        |(go_at_call 43;(with_reducible refine hKy.mono ?_);rintro e W7⟨k0,rfl,hkk,hb7⟩))
       obtain rfl:=hkk k1 rfl;have hb8:Below W13.heap.size W13 (W7.alloc (.cells #[.int .i64 k0.n,.int .i64 k0.p,.string k0.c] 82)):=hb7.alloc hb7.size _;have hP8:=hPc.below hb8;have hD8:=Blk.new W7 #[.int .i64 k0.n,.int .i64 k0.p,.string k0.c] 82;obtain⟨W8,hW8⟩:=zE (W7.alloc (.cells #[.int .i64 k0.n,.int .i64 k0.p,.string k0.c] 82));rw[hW8]at hP8 hD8 ⊢;obtain⟨Bk,hBk⟩:=zE W7.heap.size;rw[hBk]at hD8 ⊢;obtain⟨y0,y1,y2⟩:=zN3 hD8;have e1:W8.cell? ⟨Bp,1,none⟩=some (.slice ka pl.keys.length kc):=hP8.p.cell 1;have hz8:=hP8.hz;clear hW8 hBk hKy hb8 hPc h_p0 h_p1 h_p2 h_p3 h_p4 h_p5 h_p6 hb7 hkk;go_wp2_with (first
        |(at_builtin;refine El.allG c1q d9k qM _ _ qM w.heap.size qM pl.keys (hP8.k.alloc _) [k0] qM (b6p c1q W8 k0) (.inr ⟨_,_,_,rfl⟩) uM uM ?_;intro v9 w10 hr9 hg9 hb9 hat
          obtain⟨kp9,hP10,-⟩:=hP8.add_keys ((World.grownBy_alloc _ _ _).trans hg9) hr9 (hat.imp (λe=>e) λe=>⟨_,e,by simp⟩);obtain⟨a10,n10,c10,rfl⟩:∃a n c,v9= .slice a n c:=by
           exact yjk
          have q1:w10.cell? ⟨Bp,1,none⟩=some (.slice ka pl.keys.length kc):=kp9.cell 1;have z1:=kp9.frozen 1))
       go_roundw
       case rel=>exact⟨k+1,oM,by go_num,_,_,_,by rw[hst3.out];exact hP10⟩
       case measure=>simp[intOf];omega
     |some j =>
      simp only[b2b]at hnr;have hj:=hfl j rfl;have hst2:=hst1.out;simp only[Option.bind_some,List.getElem?_eq_getElem hj,Option.map_some]at hst2;obtain⟨d,hd⟩:=zE (pl.dots[j]);rw[hd]at hst2;replace hst2:=Lib.hid hst2;clear hst1 hfl;go_upto_region 12 with fail;first|with_reducible refine a0e zM zM ?_|with_reducible refine a0g zM zM ?_
      repeat(first|go_big_quiet_step ((go_at_call 42;exact Calls.grow_of (hnr _ (Go.below_growBy W9 _))))|quiet_step ((go_at_call 42;exact Calls.grow_of (hnr _ (Go.below_growBy W9 _)))))
      refine wpQuiet_nil ?_;intro _ hw_;obtain⟨p,hw_⟩:=hw_;subst hw_;have hPb:=hP9.below (Go.below_growBy W9 p);have h_q1:=a0l (Go.below_growBy W9 p) h_q0;obtain⟨W12,hW12⟩:=zE (W9.growBy p);rw[hW12]at hPb h_q1 ⊢;clear hW12 hP9 hx1 hx3 hnr h_s0 h_s1 h_s2 h_s3 h_s4 h_s5 h_l0 h_l2 h_q0;have h_q0:=h_q1;have h_l2:W12.cell? ⟨Bp,2,none⟩=some (.slice la pl.left.length lc):=hPb.p.cell 2;obtain⟨dg,dO,dcap,hdv,-,-,hdc⟩:=(a0h a8a hPb.d oM).some_ oM;simp only[Value.slice.injEq,true_and]at hdv;obtain⟨rfl,rfl⟩:=hdv;have h_l0:W12.cell? ⟨Bp,0,none⟩=some (.slice (some ⟨dg,dO,none⟩) pl.dots.length dc):=hPb.p.cell 0;have hdj:=hdc j hj;rw[hd]at hdj;obtain⟨d_x,d_y,dk,di⟩:=d;have h_d2:W12.cell? ⟨dg,dO+j*4+2,none⟩=some (.int .i64 dk):=hdj 2 (show 2<4 by decide);have h_d3:W12.cell? ⟨dg,dO+j*4+3,none⟩=some (.int .i64 di):=hdj 3 (show 3<4 by decide);have hjI:(j:Int)<(pl.dots.length:Int):=oM;have hj0:(0:Int)<=(j:Int):=oM;clear hdc hdj hd h_q1;go_upto_region 14 with fail;refine Go.wp_region_rel 21 zM zM (λ_ W=>Below W12.heap.size W12 W) (λw w'=>Below w.heap.size w w') (FLn Bp k b off c8 dc lc j dg dO la ps pl id dk di) (λ_ _ _ _ h g=>h.kept g) (zR _ _).drew ?step14 ?tail14
      case step14 =>
       clear hPb hsm hps33 hpk hPX hPsB hRsB hShB hokS hok hpl hx2;intro i o hi ho c bb W hc hM hA hD K hK;match i,hi,ho with
       |0,_,ho =>
        exact yfg
       |1,_,ho =>
        cases ho;have f74:=a0a (v:= .pointer (some ⟨Bp,2,none⟩)) (a0c hD 0 74 zM rfl rfl);exact yfn
       |2,_,ho =>
        exact ybw
       |3,_,ho =>
        exact yec
       |4,_,ho =>
        cases ho;have f76:=a0a (v:= .slice (some ⟨b,off,none⟩) ps.length c8) (a0c hD 2 76 zM rfl rfl);have f77:=a0a (v:= .int .i64 (k:Nat)) (a0c hD 3 77 zM rfl rfl);exact ycr
       |5,_,ho =>
        cases ho;have f78:=a0a (v:= .pointer (some ⟨b,off+k*7,none⟩)) (a0c hD 4 78 zM rfl rfl);exact ycr
       |6,_,ho =>
        cases ho;have f79:=a0a (v:= .pointer (some ⟨b,off+k*7,none⟩)) (a0c hD 5 79 zM rfl rfl);exact ygp
       |7,_,ho =>
        exact yfe
       |8,_,ho =>
        cases ho;have f81:=a0a (v:= .pointer (some ⟨Bp,0,none⟩)) (a0c hD 7 81 zM rfl rfl);exact yeu
       |9,_,ho =>
        exact ygd
       |10,_,ho =>
        cases ho;have f82:=a0a (v:= .slice (some ⟨dg,dO,none⟩) pl.dots.length dc) (a0c hD 8 82 zM rfl rfl);have f83:=a0a (v:= .int .i64 (j:Nat)) (a0c hD 9 83 zM rfl rfl);exact yjm
       |11,_,ho =>
        cases ho;have f84:=a0a (v:= .pointer (some ⟨dg,dO+j*4,none⟩)) (a0c hD 10 84 zM rfl rfl);go_simp;exact hK (.pointer (some ⟨dg,dO+j*4+2,none⟩)) W rfl (zR _ _) hM
       |12,_,ho =>
        cases ho;have f85:=a0a (v:= .pointer (some ⟨dg,dO+j*4+2,none⟩)) (a0c hD 11 85 zM rfl rfl);have z0:W.cell? ⟨dg,dO+j*4+2,none⟩=some (.int .i64 dk):=a0l hM h_d2;go_simp;exact hK (.int .i64 dk) W rfl (zR _ _) hM
       |13,_,ho =>
        exact yfe
       |14,_,ho =>
        cases ho;have f87:=a0a (v:= .pointer (some ⟨Bp,0,none⟩)) (a0c hD 13 87 zM rfl rfl);exact yeu
       |15,_,ho =>
        exact ygd
       |16,_,ho =>
        cases ho;have f88:=a0a (v:= .slice (some ⟨dg,dO,none⟩) pl.dots.length dc) (a0c hD 14 88 zM rfl rfl);have f89:=a0a (v:= .int .i64 (j:Nat)) (a0c hD 15 89 zM rfl rfl);exact yjm
       |17,_,ho =>
        cases ho;have f90:=a0a (v:= .pointer (some ⟨dg,dO+j*4,none⟩)) (a0c hD 16 90 zM rfl rfl);go_simp;exact hK (.pointer (some ⟨dg,dO+j*4+3,none⟩)) W rfl (zR _ _) hM
       |18,_,ho =>
        cases ho;have f91:=a0a (v:= .pointer (some ⟨dg,dO+j*4+3,none⟩)) (a0c hD 17 91 zM rfl rfl);have z0:W.cell? ⟨dg,dO+j*4+3,none⟩=some (.int .i64 di):=a0l hM h_d3;go_simp;exact hK (.int .i64 di) W rfl (zR _ _) hM
       |19,_,ho =>
        cases ho;have f80:=a0a (v:= .int .i64 id) (a0c hD 6 80 zM rfl rfl);have f86:=a0a (v:= .int .i64 dk) (a0c hD 12 86 zM rfl rfl);have f92:=a0a (v:= .int .i64 di) (a0c hD 18 92 zM rfl rfl);go_simp;exact hK (.agg #[.int .i64 id,.int .i64 dk,.int .i64 di]) W rfl (zR _ _) hM
       |20,_,ho =>
        cases ho;have f93:=a0a (v:= .agg #[.int .i64 id,.int .i64 dk,.int .i64 di]) (a0c hD 19 93 zM rfl rfl);exact ydw
       |i+21,hi,_=>exact absurd hi oM
      case tail14 =>
       intro bb W14 hM2 hA hall;obtain⟨L1,h94,hL1⟩:=(show ∃L,bb.eval (.tmp 94)= .slice (some ⟨L,0,none⟩) 1 1/\Blk W14 L #[.int .i64 id,.int .i64 dk,.int .i64 di] 68 from hall 20 oM _ _ rfl rfl);have h75:bb.eval (.tmp 75)= .slice la pl.left.length lc:=hall 1 oM _ _ rfl rfl;have hfr:=hA.frame (rT 74 (rF 21 (rT 23 ([])))) _ rfl zM;clear hall hA;obtain⟨f2,hf⟩:∃f:Nat->Value,(λk=>bb.tmps.getD k undef)=f:=⟨_,rfl⟩;have g94:f2 94= .slice (some ⟨L1,0,none⟩) 1 1:=by rw[<-hf,<-h94];rfl
       have g75:f2 75= .slice la pl.left.length lc:=by rw[<-hf,<-h75];rfl
       rw[hf]at hfr;clear hf h94 h75;subst hfr;simp only[rT,rF,a1z,g94,g75,Nat.reduceAdd];clear g94 g75;simp only[zU];have hPa:=hPb.below hM2;have hza:=hPa.hz;clear h_q0 h_l2 h_l0 h_d2 h_d3 hPb;go_wp2_with (first
        |(at_builtin;refine El.allG b8j d9e qM _ _ qM w.heap.size qM pl.left hPa.l [⟨id,dk,di⟩] qM (Lst.single b8j (x:=⟨id,dk,di⟩) hL1) (.inr ⟨_,_,_,rfl⟩) uM hza ?_;intro v9 w9 hr9 hg9 hb9 hat
          obtain⟨kp9,hP10,-⟩:=hPa.add_left hg9 hr9 (hat.imp (λe=>e) λe=>⟨_,e,yR _⟩);obtain⟨a9,n9,c9,rfl⟩:∃a n c,v9= .slice a n c:=by
           exact yes
          have q2:w9.cell? ⟨Bp,2,none⟩=some (.slice la pl.left.length lc):=kp9.cell 2;have z2:=kp9.frozen 2))
       go_roundw
       case rel=>exact⟨k+1,oM,by go_num,_,_,_,by rw[hst2.out];exact hP10⟩
       case measure=>simp[intOf];omega
  ·obtain rfl:k=ps.length:=oM
   have hge:¬(ps.length:Int)<(ps.length:Int):=oM;rw[List.take_length]at hP;obtain⟨hl1,hl2,hl3⟩:=a8t s ws ps;have hwl:=a7l hsk ws;obtain⟨pl,hple⟩:=zE (a2k s ws ps);rw[hple]at hl1 hl2 hl3 hP;replace hple:=Lib.hid hple;obtain⟨da,dc,hdv,-⟩:=(a0h a8a hP.d oM).form;obtain⟨ka,kc,hkv,-⟩:=(a0h c1q hP.k oM).form;obtain⟨la,lc,hlv,-⟩:=(a0h b8j hP.l oM).form;subst hdv hkv hlv;have c0:wr.cell? ⟨Bp,0,none⟩=some (.slice da pl.dots.length dc):=hP.p.cell 0;have c1:wr.cell? ⟨Bp,1,none⟩=some (.slice ka pl.keys.length kc):=hP.p.cell 1;have c2:wr.cell? ⟨Bp,2,none⟩=some (.slice la pl.left.length lc):=hP.p.cell 2;have hr:=hRsB wr hP.o;have r0:wr.cell? ⟨nS+1,0,none⟩=some (.slice none 0 0):=hr.cell 0;have r1:wr.cell? ⟨nS+1,1,none⟩=some (.slice none 0 0):=hr.cell 1;have r2:wr.cell? ⟨nS+1,2,none⟩=some (.slice none 0 0):=hr.cell 2;have z0:=hr.frozen 0;have z1:=hr.frozen 1;have z2:=hr.frozen 2;go_wp2_with fail;have hgA:=((a0u wr (nS+1) 0 (.slice da pl.dots.length dc)).trans (a0u _ (nS+1) 1 (.slice ka pl.keys.length kc))).trans (a0u _ (nS+1) 2 (.slice la pl.left.length lc));have kA:=((hr.set 0 (.slice da pl.dots.length dc)).set 1 (.slice ka pl.keys.length kc)).set 2 (.slice la pl.left.length lc);obtain⟨W6,hW6⟩:=zE (((wr.setCell ⟨nS+1,0,none⟩ (.slice da pl.dots.length dc)).setCell ⟨nS+1,1,none⟩ (.slice ka pl.keys.length kc)).setCell ⟨nS+1,2,none⟩ (.slice la pl.left.length lc));rw[hW6]at hgA kA ⊢;clear hW6;have tn:∀ {v:Value} {e:TypeId} {t n:Nat} {xs:List Value},wr.ownsRow w.heap.size e t v n xs->e≠45->W6.ownsRow w.heap.size e t v n xs:=λ{v e t n xs} hw he=>a0r hw hgA λr er=>by
    cases er;exact⟨_,hr,λcur e2=>by simp only[Obj.cells.injEq]at e2;exact he e2.2.1.symm⟩
   have t0:=tn hP.d jM;have t1:=tn hP.k jM;have t2:=tn hP.l jM;have hbel:Below w.heap.size w W6:=hP.bel.grown hgA hP.hz λr e=>by cases e;omega
   exact bodyPost_ret (a1i qM _ _ _ 45 _ (0,0) _ qM kA underlying45 qM zM) rfl ⟨_,rfl,by rw[hple.out];exact⟨_,_,_,rfl,⟨a0h a8a t0 oM,a1p t0⟩,⟨a0h c1q t1 oM,a1p t1⟩,a0h b8j t2 oM,a1p t2⟩,hbel⟩
end
end Go.Proofs.YtfocdbjceedagaaGreatDoor
