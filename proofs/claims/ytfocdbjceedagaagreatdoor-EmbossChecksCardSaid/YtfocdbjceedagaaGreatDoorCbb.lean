/-
  Parts.
-/
import Derived.Test.YtfocdbjceedagaaGreatDoorCaz
set_option linter.unusedVariables false
set_option linter.unusedSimpArgs false
set_option maxHeartbeats 4000000
set_option maxRecDepth 100000
namespace Go.Proofs.YtfocdbjceedagaaGreatDoor
open Tryz
section
open Go Go.RowKit Go.Shelf Go.Lib
variable{id:Int}{ps:List Pc}{Bp b c8 i k lc off:Nat}{la:Option Addr}{pl:Pn}{v:Vu}{w w':Wd}
structure PsIn (X:List (Nat×Array Value×TypeId))(Bp:Nat)(v:Vu)(ps:List Pc):Prop where
 ne:∀q∈X,q.1≠Bp/\q.2.2≠54/\q.2.2≠82/\q.2.2≠68
 at_:∀W,(∀q∈X,Blk W q.1 q.2.1 q.2.2)->∀k (hk:k<ps.length),∃b off c,v= .slice (some ⟨b,off,none⟩) ps.length c/\∀i,i<7->W.cell? ⟨b,off+k*7+i,none⟩=(plE.enc ps[k])[i]?
theorem d9w {W:Wd}{base:Nat}(h:W.ownsRow base 66 7 v ps.length (ps.flatMap plE.enc))(hn:ps.length<=1000){c:Array Value}(hB:Blk W Bp c 45):∃X,(∀q∈X,Blk W q.1 q.2.1 q.2.2)/\PsIn X Bp v ps:=by
 by_cases h0:ps.length=0
 ·exact⟨[],λ_ h=>absurd h vM,λ_ h=>absurd h vM,λ_ _ k hk=>absurd hk oM⟩
 ·obtain⟨g,cp,rfl⟩:=c6f h oM
  obtain⟨cur,hk⟩:=a2j h rfl;have av:g≠Bp:=λe=>by
   subst e;have:=hk.symm.trans hB;simp at this
  refine⟨[(g,cur,66)],λq hq=> ?_,λq hq=> ?_,λW' SG k Fp=>⟨g,0,cp,rfl,λi hi=> ?_⟩⟩
  ·rw[List.mem_singleton]at hq
   subst hq;exact hk
  ·rw[List.mem_singleton]at hq
   subst hq;exact⟨av,show(66:Nat)≠54 by decide,show(66:Nat)≠82 by decide,show(66:Nat)≠68 by decide⟩
  ·have h1:=(a7p (E:=plE) a4f h oM Fp hi).1
   have h2:Blk W' g cur 66:=SG (g,cur,66) vM;rw[show(0:Nat)+k*7+i=k*7+i by omega];rw[<-h1];exact(a3h h2 _).trans (a3h hk _).symm
def FPm (nS k b off c8:Nat)(ps:List Pc)(s:Sh)(id x y wt ds:Int)(cls nm:Bw)(on:Bool)(dl:List Dt)(i:Nat)(v:Vu)(w:Wd):Prop :=
 match i with
 |0=>v= .agg #[.int .i64 s.ax,.int .i64 s.ay,.int .i64 s.st,.int .i64 s.w,.int .i64 s.h,.int .i64 s.g]
 |1=>v= .slice (some ⟨b,off,none⟩) ps.length c8
 |2=>v= .int .i64 (k:Nat)
 |3=>v= .pointer (some ⟨b,off+k*7,none⟩)
 |4=>v= .agg #[.int .i64 id,.int .i64 x,.int .i64 y,.string cls,.string nm,.int .i64 wt,.int .i64 ds]
 |5=>v= .slice (some ⟨b,off,none⟩) ps.length c8
 |6=>v= .int .i64 (k:Nat)
 |7=>v= .pointer (some ⟨b,off+k*7,none⟩)
 |8=>v= .pointer (some ⟨b,off+k*7,none⟩)
 |9=>v= .int .i64 id
 |10=>∃u,v= .tuple #[u,.bool on]/\Lst dtE w.heap.size w u dl/\Frm u dl.length/\Dts w.heap.size w u dl
 |11=>∃u,v= .tuple #[u,.bool on]/\Lst dtE w.heap.size w u dl/\Frm u dl.length/\Dts w.heap.size w u dl
 |12=>∃u,v=u/\Lst dtE w.heap.size w u dl/\Frm u dl.length/\Dts w.heap.size w u dl
 |13=>v= .bool on
 |14=>∃u,v=u/\Lst dtE w.heap.size w u dl/\Frm u dl.length/\Dts w.heap.size w u dl
 |_=>False
theorem FPm.kept {nS:Nat}{s:Sh}{x y wt ds:Int}{cls nm:Bw}{on:Bool}{dl:List Dt}(h:FPm nS k b off c8 ps s id x y wt ds cls nm on dl i v w)(hg:Below w.heap.size w w'):FPm nS k b off c8 ps s id x y wt ds cls nm on dl i v w':=by
 unfold FPm at *;split at h
 all_goals first|exact h|(obtain⟨u,h1,h2,h3,h4⟩:=h;exact⟨u,h1,h2.up hg,h3,(h4.below hg).mono hg.size⟩)
def FLm (Bp k b off c8 lc:Nat)(la:Option Addr)(ps:List Pc)(pl:Pn)(id:Int)(i:Nat)(v:Vu)(w:Wd):Prop :=
 match i with
 |0=>v= .pointer (some ⟨Bp,2,none⟩)
 |1=>v= .slice la pl.left.length lc
 |2=>v= .slice (some ⟨b,off,none⟩) ps.length c8
 |3=>v= .int .i64 (k:Nat)
 |4=>v= .pointer (some ⟨b,off+k*7,none⟩)
 |5=>v= .pointer (some ⟨b,off+k*7,none⟩)
 |6=>v= .int .i64 id
 |7=>v= .agg #[.int .i64 id,.int .i64 0,.int .i64 0]
 |8=>∃L,v= .slice (some ⟨L,0,none⟩) 1 1/\Blk w L #[.int .i64 id,.int .i64 0,.int .i64 0] 68
 |_=>False
theorem FLm.kept (h:FLm Bp k b off c8 lc la ps pl id i v w)(hg:Below w.heap.size w w'):FLm Bp k b off c8 lc la ps pl id i v w':=by
 unfold FLm at *;exact yel
def FLn (Bp k b off c8 dc lc j dg dO:Nat)(la:Option Addr)(ps:List Pc)(pl:Pn)(id dk di:Int)(i:Nat)(v:Vu)(w:Wd):Prop :=
 match i with
 |0=>v= .pointer (some ⟨Bp,2,none⟩)
 |1=>v= .slice la pl.left.length lc
 |2=>v= .slice (some ⟨b,off,none⟩) ps.length c8
 |3=>v= .int .i64 (k:Nat)
 |4=>v= .pointer (some ⟨b,off+k*7,none⟩)
 |5=>v= .pointer (some ⟨b,off+k*7,none⟩)
 |6=>v= .int .i64 id
 |7=>v= .pointer (some ⟨Bp,0,none⟩)
 |8=>v= .slice (some ⟨dg,dO,none⟩) pl.dots.length dc
 |9=>v= .int .i64 (j:Nat)
 |10=>v= .pointer (some ⟨dg,dO+j*4,none⟩)
 |11=>v= .pointer (some ⟨dg,dO+j*4+2,none⟩)
 |12=>v= .int .i64 dk
 |13=>v= .pointer (some ⟨Bp,0,none⟩)
 |14=>v= .slice (some ⟨dg,dO,none⟩) pl.dots.length dc
 |15=>v= .int .i64 (j:Nat)
 |16=>v= .pointer (some ⟨dg,dO+j*4,none⟩)
 |17=>v= .pointer (some ⟨dg,dO+j*4+3,none⟩)
 |18=>v= .int .i64 di
 |19=>v= .agg #[.int .i64 id,.int .i64 dk,.int .i64 di]
 |20=>∃L,v= .slice (some ⟨L,0,none⟩) 1 1/\Blk w L #[.int .i64 id,.int .i64 dk,.int .i64 di] 68
 |_=>False
theorem FLn.kept {dc j dg dO:Nat}{dk di:Int}(h:FLn Bp k b off c8 dc lc j dg dO la ps pl id dk di i v w)(hg:Below w.heap.size w w'):FLn Bp k b off c8 dc lc j dg dO la ps pl id dk di i v w':=by
 unfold FLn at *;exact yel
theorem d2q (s:Sh)(hs:a1h s=0)(mH:s.g<=4)(ev fv wv pv:Vu)(l:List Pc)(ws:List Wy)(w:Wd)(hL:Lst plE w.heap.size w pv l)(hF:Frm pv l.length)(hl:l.length<=80)(a7:∀p∈l,PcOk p/\p.cls.size<=1000)
 (hW:Wys w.heap.size w wv ws) (hlen:ws.length<=100) (aO:∀y∈ws,y.line.length<=100) :
 Calls prog 11 #[b3t ev fv wv pv,shV s] w λe w'=>∃v,e= .returned (.tuple #[v,.int .i64 0])/\PlanIn w' v (a2n s ws (a0q l))/\Below w.heap.size w w':=by
 have iD:=a4l hs;have fV:=λpa pc w=>a7n s ev fv wv pa l.length pc w
 unfold a2m at fV;rw[if_pos hs,if_neg oM]at fV;obtain⟨pa,pc,rfl,-⟩:=hL.form;have gq:=λw4 (hb:Below w.heap.size w w4)=>c1k s wv ws w4 hs (hW.up hb hb.size) hlen aO
 have mQ:=λw4 (hb:Below w.heap.size w w4)=>a7m ev fv wv (.slice pa l.length pc) l w4 (hL.up hb) hF oM
 have fp:(a0q l).length=l.length:=(a0v l).length_eq;have de:∀p∈a0q l,PcOk p/\p.cls.size<=1000:=λp hp=>a7 p ((a0v l).mem_iff.1 hp)
 obtain⟨ps,eT⟩:=zE (a0q l);rw[eT]at fp mQ de ⊢;clear eT;have zk:ps.length<=80:=oM;replace fp:=Lib.hid fp;go_enter func11,ntmps11;go_upto_region 5 with(first
  |(go_at_call 38;(with_reducible refine(fV _ _ _).mono ?_);rintro e W1⟨rfl,aw⟩
    obtain⟨W0,eA,k1,k2,k3,aE,aW⟩:=d8w w #[ev,fv,wv,.slice pa l.length pc] #[.int .i64 s.ax,.int .i64 s.ay,.int .i64 s.st,.int .i64 s.w,.int .i64 s.h,.int .i64 s.g] #[.slice none 0 0,.slice none 0 0,.slice none 0 0] 37 28 45;rw[eA]at aw;replace k1:=k1.below aw k1.lt;replace k2:=k2.below aw k2.lt;replace k3:=k3.below aw k3.lt;replace aE:=aE.trans (aw.mono aE.size);replace aW:=Nat.le_trans (Nat.le_of_eq aW.symm) aw.size;clear aw eA;obtain⟨m0,m1,m2,m3⟩:=zN4 k1;obtain⟨s0,s1,s2,s3,s4,s5⟩:=zN6 k2)
  |(go_at_call 39;(with_reducible refine(gq _ aE).mono ?_);rintro e W2⟨v,base,rfl,aD,ae,az⟩
    clear m0 m1 m2 m3 s0 s1 s2 s3 s4 s5;obtain⟨va,vc,rfl⟩:∃a c,v= .slice a (wdF s ws).length c:=by
     obtain⟨a,c,h,-⟩:=(a0d a4t ae (by have:=a7b iD ws;unfold wdF at this;omega)).form;exact⟨a,c,h⟩))
 have bF:=az.size;obtain⟨W3,ez,sG,aV,lZ⟩:=d8v W2 #[.slice va (wdF s ws).length vc,.slice none 0 0,.slice none 0 0] 45;have lg:=ez▸(b2a ae (Nat.le_trans aE.size aD)).alloc _;rw[ez];replace aV:=az.trans (aV.mono bF);have DD:=k1.below aV k1.lt;have yq:=k2.below aV k2.lt;have qZ:=k3.below aV k3.lt;have gQ:=aE.trans (aV.mono aE.size);clear ez aV k1 k2 k3 ae az gq fV;obtain⟨Bp,Fy⟩:=zE W2.heap.size;rw[Fy]at sG lZ bF ⊢;obtain⟨m0,m1,m2,m3⟩:=zN4 DD;go_wp2_with (first
  |(go_at_call 40;(with_reducible refine(mQ _ gQ).mono ?_);rintro e W5⟨v8,rfl,gE,aZ⟩
    rw[<-fp.out]at gE;obtain⟨a8,c8,rfl,-⟩:=(a0d a4f gE oM).form))
 have fI:Below w.heap.size w W5:=gQ.trans (aZ.mono gQ.size);obtain⟨X,hX,AS⟩:=d9w (Bp:=Bp) gE oM (sG.below aZ sG.lt);have gD:PIr w.heap.size w Bp (a8i s w.heap.size++X) (.slice va (wdF s ws).length vc) (.slice none 0 0) (.slice none 0 0) (a2n s ws []) W5 :=
  ⟨sG.below aZ sG.lt,a0r lg aZ,⟨rfl,.inl ⟨rfl,rfl⟩⟩,⟨rfl,.inl ⟨rfl,rfl⟩⟩,λq hq=>(List.mem_append.1 hq).elim (a7c (Q:=λq=>Blk W5 q.1 q.2.1 q.2.2) (yq.below aZ yq.lt) (qZ.below aZ qZ.lt) q) (hX q),
   λq hq=>(List.mem_append.1 hq).elim (a7c (Q:=λq=>q.1≠Bp/\q.2.2≠54/\q.2.2≠82/\q.2.2≠68) ⟨by show w.heap.size+1≠Bp;omega,show(28:Nat)≠54 by decide,show(28:Nat)≠82 by decide,show(28:Nat)≠68 by decide⟩ ⟨by show w.heap.size+1+1≠Bp;omega,show(45:Nat)≠54 by decide,show(45:Nat)≠82 by decide,show(45:Nat)≠68 by decide⟩ q) (AS.ne q),
   by omega,fI,yR _⟩
 have mR:∀W,(∀q∈a8i s w.heap.size++X,Blk W q.1 q.2.1 q.2.2)->Blk W (w.heap.size+1) #[.int .i64 s.ax,.int .i64 s.ay,.int .i64 s.st,.int .i64 s.w,.int .i64 s.h,.int .i64 s.g] 28:=λW h=>h (w.heap.size+1,#[.int .i64 s.ax,.int .i64 s.ay,.int .i64 s.st,.int .i64 s.w,.int .i64 s.h,.int .i64 s.g],28) (by unfold a8i;simp)
 have oZ:∀W,(∀q∈a8i s w.heap.size++X,Blk W q.1 q.2.1 q.2.2)->Blk W (w.heap.size+1+1) #[.slice none 0 0,.slice none 0 0,.slice none 0 0] 45:=λW h=>h (w.heap.size+1+1,#[.slice none 0 0,.slice none 0 0,.slice none 0 0],45) (by unfold a8i;simp)
 have o4:∀W,(∀q∈a8i s w.heap.size++X,Blk W q.1 q.2.1 q.2.2)->∀q∈X,Blk W q.1 q.2.1 q.2.2:=λW h q hq=>h q (List.mem_append_right _ hq)
 obtain⟨L,No⟩:=zE (a8i s w.heap.size++X);rw[No]at gD mR oZ o4;clear No m0 m1 m2 m3 DD yq qZ sG lg aZ gE hX mQ hL hF hW aW bF lZ aD aE gQ;clear fp;obtain⟨nS,qO⟩:=zE (w.heap.size+1);rw[qO]at mR oZ ⊢;go_loopw [9] (λi wr=>∃k:Nat,k<=ps.length/\i= .int .i64 (k:Nat)/\∃dv kv lv,PIr w.heap.size w Bp L dv kv lv (a2n s ws (ps.take k)) wr) (λi _=>ps.length-(intOf i).toNat)
 case atStart=>exact⟨0,Nat.zero_le _,rfl,_,_,_,by rw[List.take_zero];exact gD⟩
 case round =>
  clear gD fI;obtain⟨k,hk,rfl,dv,kv,lv,hP⟩:=hrel;by_cases ag:k<ps.length
  ·have aA:(k:Int)<(ps.length:Int):=oM
   have au:a2n s ws (ps.take (k+1))=a3k s.g (pfS s) a2s (a2n s ws (ps.take k)) ps[k]:=by
    rw[List.take_succ_eq_append_getElem ag];exact a4i (g:=s.g) (pf:=pfS s) (kf:=a2s) (wdF s ws) (ps.take k) _
   obtain⟨dY,ie⟩:=de _ (List.getElem_mem ag);obtain⟨jt,du,kg⟩:=a9h s ws (ps.take k);rw[List.length_take]at jt du kg;have iR:=a7b iD ws;have bR:=c3n iD ws (ps.take k);obtain⟨b,off,cap,hv,ur⟩:=AS.at_ wr (o4 wr hP.o) k ag
   cases hv;obtain⟨p,hp⟩:=zE (ps[k]);rw[hp]at au dY ie ur;have et:=c7n s p;have fM:=a8h s p;have qm:=c4p s p;obtain⟨id,x,y,cls,nm,wt,ds⟩:=p;obtain⟨dL,e8,ff,gL,gN,gO,gP⟩:=c1s ur;have fR:=λW (_:Below wr.heap.size wr W)=>b0q s id x y wt ds id cls nm W dY.id ie
   simp only[show plF s x y id cls id=pfS s ⟨id,x,y,cls,nm,wt,ds⟩from rfl]at fR;obtain⟨⟨on,dl⟩,gS⟩:∃r,pfS s ⟨id,x,y,cls,nm,wt,ds⟩=r:=⟨_,rfl⟩;unfold a3k c9v at au;simp only[gS]at fR et fM qm au;obtain⟨pl,mS⟩:=zE (a2n s ws (ps.take k));rw[mS]at jt du kg bR hP au;replace au:=Lib.hid au;replace hp:=Lib.hid hp;clear gS mS ur;obtain⟨da,dc,mL,-⟩:=(a0d a4t hP.d oM).form;obtain⟨ka,kc,yr,-⟩:=(a0d b4r hP.k oM).form;obtain⟨la,lc,aJ,-⟩:=(a0d a9w hP.l oM).form;subst mL yr aJ;have EJ:=mR wr hP.o;obtain⟨eE,eF,eG,eH,eI,eJ⟩:=zN6 EJ;clear EJ;go_upto_region 9 with fail;refine Go.wp_region_rel 15 zM zM (λ_ W=>Below wr.heap.size wr W) (λw w'=>Below w.heap.size w w') (FPm nS k b off c8 ps s id x y wt ds cls nm on dl) (λ_ _ _ _ h g=>h.kept g) (zR _ _).drew ?step9 ?tail9
   case step9 =>
    clear hP au bR et qm AS o4 oZ mR de a7 aO;intro i o hi ho c bb W hc hM hA hD K hK;match i,hi,ho with
    |0,_,ho =>
     cases ho;have f3:=a0a (v:= .pointer (some ⟨nS,0,none⟩)) (hA.at_ (k:=3) zM);exact yat
    |1,_,ho =>
     exact ycd
    |2,_,ho =>
     exact yen
    |3,_,ho =>
     cases ho;have f37:=a0a (v:= .slice (some ⟨b,off,none⟩) ps.length c8) (a0b hD 1 37 zM rfl rfl);have f38:=a0a (v:= .int .i64 (k:Nat)) (a0b hD 2 38 zM rfl rfl);exact ybf
    |4,_,ho =>
     cases ho;have f39:=a0a (v:= .pointer (some ⟨b,off+k*7,none⟩)) (a0b hD 3 39 zM rfl rfl);exact yas
    |5,_,ho =>
     exact ycd
    |6,_,ho =>
     exact yen
    |7,_,ho =>
     cases ho;have f41:=a0a (v:= .slice (some ⟨b,off,none⟩) ps.length c8) (a0b hD 5 41 zM rfl rfl);have f42:=a0a (v:= .int .i64 (k:Nat)) (a0b hD 6 42 zM rfl rfl);exact ybf
    |8,_,ho =>
     cases ho;have f43:=a0a (v:= .pointer (some ⟨b,off+k*7,none⟩)) (a0b hD 7 43 zM rfl rfl);exact ybf
    |9,_,ho =>
     cases ho;have f44:=a0a (v:= .pointer (some ⟨b,off+k*7,none⟩)) (a0b hD 8 44 zM rfl rfl);exact yeg
    |10,_,ho =>
     cases ho;have f36:=a0a (v:= .agg #[.int .i64 s.ax,.int .i64 s.ay,.int .i64 s.st,.int .i64 s.w,.int .i64 s.h,.int .i64 s.g]) (a0b hD 0 36 zM rfl rfl);have f40:=a0a (v:= .agg #[.int .i64 id,.int .i64 x,.int .i64 y,.string cls,.string nm,.int .i64 wt,.int .i64 ds]) (a0b hD 4 40 zM rfl rfl);have f45:=a0a (v:= .int .i64 id) (a0b hD 9 45 zM rfl rfl);exact yda
    |11,_,ho =>
     cases ho;have f46:=a0b hD 10 46 zM rfl rfl;obtain⟨u,h1,h2⟩:=f46;have Vl:=a0a h1;exact yht
    |12,_,ho =>
     cases ho;have f35:=a0b hD 11 35 zM rfl rfl;obtain⟨u,h1,h2⟩:=f35;have SH:=a0a h1;exact yfc
    |13,_,ho =>
     cases ho;have f35:=a0b hD 11 35 zM rfl rfl;obtain⟨v,h1,h2⟩:=f35;have SH:=a0a h1;exact yka
    |14,_,ho =>
     cases ho;have f47:=a0b hD 12 47 zM rfl rfl;obtain⟨u,h1,h2⟩:=f47;have Vm:=a0a h1;exact yfc
    |i+15,hi,_=>exact absurd hi oM
   case tail9 =>
    intro bb W9 hM hA ah;obtain⟨xv,h10,gB,mC,ma⟩:=(show ∃u,bb.eval (.tmp 10)=u/\Lst dtE W9.heap.size W9 u dl/\Frm u dl.length/\Dts W9.heap.size W9 u dl from ah 14 oM _ _ rfl rfl);have h48:bb.eval (.tmp 48)= .bool on:=ah 13 oM _ _ rfl rfl;have aC:=hA.frame (rT 10 (rF 1 (rT 24 (rF 14 (rT 69 ([])))))) _ rfl zM;clear ah hA;obtain⟨f,hf⟩:=zDt bb;have Np:f 48= .bool on:=by rw[<-hf,<-h48];rfl
    have g10:f 10=xv:=by rw[<-hf,<-h10];rfl
    rw[hf]at aC;clear hf h48 h10;subst aC;simp only[rT,rF,a2d,Np,g10,Nat.reduceAdd];clear Np g10;simp only[zU];have bE:=hP.below hM;have gm:=a0e hM dL;have oh:W9.cell? ⟨Bp,2,none⟩=some (.slice la pl.left.length lc):=bE.p.cell 2;clear dL e8 ff gL gN gO gP eE eF eG eH eI eJ fR
    cases on
    ·have dh:=au.out
     rw[if_neg jM]at dh;simp only at dh;replace dh:=Lib.hid dh;clear au;go_upto_region 11 with fail;refine Go.wp_region_rel 9 zM zM (λ_ W=>Below W9.heap.size W9 W) (λw w'=>Below w.heap.size w w') (FLm Bp k b off c8 lc la ps pl id) (λ_ _ _ _ h g=>h.kept g) (zR _ _).drew ?step11 ?tail11
     case step11 =>
      clear hP bE bR et qm AS o4 oZ mR de a7 aO gB mC ma hM;intro i o hi ho c bb W hc hM hA hD K hK;match i,hi,ho with
      |0,_,ho =>
       exact yfu
      |1,_,ho =>
       cases ho;have f51:=a0a (v:= .pointer (some ⟨Bp,2,none⟩)) (a0b hD 0 51 zM rfl rfl);exact ygf
      |2,_,ho =>
       exact ycd
      |3,_,ho =>
       exact yen
      |4,_,ho =>
       cases ho;have f53:=a0a (v:= .slice (some ⟨b,off,none⟩) ps.length c8) (a0b hD 2 53 zM rfl rfl);have f54:=a0a (v:= .int .i64 (k:Nat)) (a0b hD 3 54 zM rfl rfl);exact ybf
      |5,_,ho =>
       cases ho;have f55:=a0a (v:= .pointer (some ⟨b,off+k*7,none⟩)) (a0b hD 4 55 zM rfl rfl);exact ybf
      |6,_,ho =>
       cases ho;have f56:=a0a (v:= .pointer (some ⟨b,off+k*7,none⟩)) (a0b hD 5 56 zM rfl rfl);exact yhj
      |7,_,ho =>
       cases ho;have f57:=a0a (v:= .int .i64 id) (a0b hD 6 57 zM rfl rfl);go_simp;exact hK (.agg #[.int .i64 id,.int .i64 0,.int .i64 0]) W rfl (zR _ _) hM
      |8,_,ho =>
       cases ho;have f58:=a0a (v:= .agg #[.int .i64 id,.int .i64 0,.int .i64 0]) (a0b hD 7 58 zM rfl rfl);exact yef
      |i+9,hi,_=>exact absurd hi oM
     case tail11 =>
      intro bb SI Ar hA ah;obtain⟨L1,h59,AD⟩:=(show ∃L,bb.eval (.tmp 59)= .slice (some ⟨L,0,none⟩) 1 1/\Blk SI L #[.int .i64 id,.int .i64 0,.int .i64 0] 68 from ah 8 oM _ _ rfl rfl);have h52:bb.eval (.tmp 52)= .slice la pl.left.length lc:=ah 1 oM _ _ rfl rfl;have aC:=hA.frame (rT 51 (rF 9 (rT 58 ([])))) _ rfl zM;clear ah hA;obtain⟨f2,hf⟩:∃f:Nat->Value,(λk=>bb.tmps.getD k undef)=f:=⟨_,rfl⟩;have Nq:f2 59= .slice (some ⟨L1,0,none⟩) 1 1:=by rw[<-hf,<-h59];rfl
      have vW:f2 52= .slice la pl.left.length lc:=by rw[<-hf,<-h52];rfl
      rw[hf]at aC;clear hf h59 h52;subst aC;simp only[rT,rF,a2d,Nq,vW,Nat.reduceAdd];clear Nq vW;simp only[zU];have zl:=bE.below Ar;have KR:=zl.hz;clear gm oh hP bE;go_wp2_with (first
       |(at_builtin;refine El.allG a9w d7z qM _ _ qM w.heap.size qM pl.left zl.l [⟨id,0,0⟩] qM (Lst.single a9w (x:=⟨id,0,0⟩) AD) (.inr ⟨_,_,_,rfl⟩) uM KR ?_;intro v9 w9 aU bD br bj
         obtain⟨fW,iU,-⟩:=zl.add_left bD aU (bj.imp (λe=>e) λe=>⟨_,e,yR _⟩);obtain⟨a9,n9,c9,rfl⟩:∃a n c,v9= .slice a n c:=by
          exact yfg
         have q2:w9.cell? ⟨Bp,2,none⟩=some (.slice la pl.left.length lc):=fW.cell 2;have z2:=fW.frozen 2))
      go_roundw
      case rel=>exact⟨k+1,oM,by go_num,_,_,_,by rw[dh.out];exact iU⟩
      case measure=>simp[intOf];omega
    ·have dh:=au.out
     rw[if_pos rfl]at dh;have fF:=d1h (g:=s.g) mH qm pl.dots;have gI:=λX (hb:Below W9.heap.size W9 X)=>d1y s (.slice da pl.dots.length dc) xv pl.dots dl id X ((a0d a4t bE.d oM).up hb) oM (λd hd=>by have h:=bR d hd;exact⟨⟨by have:=h.x0;omega,by have:=h.x1;omega⟩,by have:=h.y0;omega,by have:=h.y1;omega⟩) ((ma.below hb).mono hb.size)
     have jC:=λj (h:pl.dots.findIdx? (nrP s.g dl id)=some j)=>(List.findIdx?_eq_some_iff_getElem.1 h).1
     obtain⟨o,ho⟩:=zE (pl.dots.findIdx? (nrP s.g dl id));rw[ho]at fF jC;simp only[ho]at gI;rw[fF]at dh;replace dh:=Lib.hid dh;have EJ:=mR W9 bE.o;obtain⟨eE,eF,eG,eH,eI,eJ⟩:=zN6 EJ;have mw:W9.cell? ⟨Bp,0,none⟩=some (.slice da pl.dots.length dc):=bE.p.cell 0;clear au fF ho EJ hP hM
     cases o with
     |none =>
      simp only[a8n]at gI;have cF:=dh.out;simp only[Option.bind_none,Option.map_none]at cF;replace cF:=Lib.hid cF;clear dh jC;go_upto_region 12 with fail;refine e3r λp=> ?_
      have nK:=bE.below (Go.below_growBy W9 p);have uz:=gB.up (Go.below_growBy W9 p);obtain⟨ji,lH⟩:=zE (W9.growBy p);rw[lH]at nK uz ⊢;clear lH bE gB ma gI eE eF eG eH eI eJ mw oh gm;have mw:ji.cell? ⟨Bp,0,none⟩=some (.slice da pl.dots.length dc):=nK.p.cell 0;have uT:=nK.hz;obtain⟨xa,xc,dH,-⟩:=uz.form;go_upto_region 16 with(first
       |(at_builtin;refine El.allG a4t e0b qM _ _ qM w.heap.size qM pl.dots nK.d dl qM uz mC oM uT ?_;intro v9 w9 aU bD br bj
         obtain⟨fW,AT,-⟩:=nK.add_dots bD aU (bj.imp (λe=>e) λe=>⟨_,e,yR _⟩);obtain⟨a9,n9,c9,rfl⟩:∃a n c,v9= .slice a n c:=by
          exact yhi
         have q0:w9.cell? ⟨Bp,0,none⟩=some (.slice da pl.dots.length dc):=fW.cell 0;have z0:=fW.frozen 0))
      obtain⟨EK,EL⟩:=zE (w9.setCell ⟨Bp,0,none⟩ (.slice a9 n9 c9));rw[EL]at AT ⊢;clear EL q0 z0 fW aU bD br bj nK uz mw;have SJ:=AT.hz;obtain⟨b2,C2,c2,ew,zm⟩:=AS.at_ EK (o4 EK AT.o) k ag
      cases ew;rw[hp.out]at zm;obtain⟨dL,e8,ff,gL,gN,gO,gP⟩:=c1s zm;have cL:=c6d ⟨id,x,y,cls,nm,wt,ds⟩ dY.nm EK;have gZ:=cF.out;unfold a2s at gZ;obtain⟨ok,ki⟩:=zE (c8u ⟨id,x,y,cls,nm,wt,ds⟩);unfold e0c at cL;rw[ki]at cL gZ;clear zm cF ki dH
      cases ok with
      |none =>
       simp only[Option.isSome_none,Option.toList_none,List.append_nil]at cL gZ;replace gZ:=Lib.hid gZ;go_wp2_with (first
        |(go_at_call 43;(with_reducible refine cL.mono ?_);rintro e W7⟨k0,rfl,-,eV⟩))
       go_roundw
       case rel=>exact⟨k+1,oM,by go_num,_,_,_,by rw[gZ.out];exact AT.below (eV.alloc eV.size _)⟩
       case measure=>simp[intOf];omega
      |some k1 =>
       simp only[Option.isSome_some,Option.toList_some]at cL gZ;replace gZ:=Lib.hid gZ;go_upto_region 18 with(first
        |(go_at_call 43;(with_reducible refine cL.mono ?_);rintro e W7⟨k0,rfl,jI,eV⟩))
       obtain rfl:=jI k1 rfl;have bf:Below EK.heap.size EK (W7.alloc (.cells #[.int .i64 k0.n,.int .i64 k0.p,.string k0.c] 82)):=eV.alloc eV.size _;have jc:=AT.below bf;have dn:=Blk.new W7 #[.int .i64 k0.n,.int .i64 k0.p,.string k0.c] 82;obtain⟨W8,jz⟩:=zE (W7.alloc (.cells #[.int .i64 k0.n,.int .i64 k0.p,.string k0.c] 82));rw[jz]at jc dn ⊢;obtain⟨Bk,oN⟩:=zE W7.heap.size;rw[oN]at dn ⊢;obtain⟨y0,y1,y2⟩:=zN3 dn;have e1:W8.cell? ⟨Bp,1,none⟩=some (.slice ka pl.keys.length kc):=jc.p.cell 1;have ML:=jc.hz;clear jz oN cL bf AT dL e8 ff gL gN gO gP eV jI;go_wp2_with (first
        |(at_builtin;refine El.allG b4r e2b qM _ _ qM w.heap.size qM pl.keys (jc.k.alloc _) [k0] qM (b7l b4r W8 k0) (.inr ⟨_,_,_,rfl⟩) uM uM ?_;intro v9 gh aU bD br bj
          obtain⟨fW,iU,-⟩:=jc.add_keys ((World.grownBy_alloc _ _ _).trans bD) aU (bj.imp (λe=>e) λe=>⟨_,e,by simp⟩);obtain⟨QI,n10,yu,rfl⟩:∃a n c,v9= .slice a n c:=by
           exact ykq
          have q1:gh.cell? ⟨Bp,1,none⟩=some (.slice ka pl.keys.length kc):=fW.cell 1;have z1:=fW.frozen 1))
       go_roundw
       case rel=>exact⟨k+1,oM,by go_num,_,_,_,by rw[gZ.out];exact iU⟩
       case measure=>simp[intOf];omega
     |some j =>
      simp only[a8n]at gI;have hj:=jC j rfl;have cF:=dh.out;simp only[Option.bind_some,List.getElem?_eq_getElem hj,Option.map_some]at cF;obtain⟨d,hd⟩:=zE (pl.dots[j]);rw[hd]at cF;replace cF:=Lib.hid cF;clear dh jC;go_upto_region 12 with fail;refine e3r λp=> ?_
      have nK:=bE.below (Go.below_growBy W9 p);have o5:=a0e (Go.below_growBy W9 p) gm;obtain⟨ji,lH⟩:=zE (W9.growBy p);rw[lH]at nK o5 ⊢;clear lH bE gB ma gI eE eF eG eH eI eJ mw oh gm;have gm:=o5;have oh:ji.cell? ⟨Bp,2,none⟩=some (.slice la pl.left.length lc):=nK.p.cell 2;obtain⟨dg,dO,KS,mL,-,-,vP⟩:=(a0d a4t nK.d oM).some_ oM;simp only[Value.slice.injEq,true_and]at mL;obtain⟨rfl,rfl⟩:=mL;have mw:ji.cell? ⟨Bp,0,none⟩=some (.slice (some ⟨dg,dO,none⟩) pl.dots.length dc):=nK.p.cell 0;have Gk:=vP j hj;rw[hd]at Gk;obtain⟨Vn,Vo,dk,di⟩:=d;have EM:ji.cell? ⟨dg,dO+j*4+2,none⟩=some (.int .i64 dk):=Gk 2 (show 2<4 by decide);have EN:ji.cell? ⟨dg,dO+j*4+3,none⟩=some (.int .i64 di):=Gk 3 (show 3<4 by decide);have Ah:(j:Int)<(pl.dots.length:Int):=oM;have fC:(0:Int)<=(j:Int):=oM;clear vP Gk hd o5;go_upto_region 14 with fail;refine Go.wp_region_rel 21 zM zM (λ_ W=>Below ji.heap.size ji W) (λw w'=>Below w.heap.size w w') (FLn Bp k b off c8 dc lc j dg dO la ps pl id dk di) (λ_ _ _ _ h g=>h.kept g) (zR _ _).drew ?step14 ?tail14
      case step14 =>
       clear nK bR et qm AS o4 oZ mR de a7 aO mC;intro i o hi ho c bb W hc hM hA hD K hK;match i,hi,ho with
       |0,_,ho =>
        exact yfu
       |1,_,ho =>
        cases ho;have f74:=a0a (v:= .pointer (some ⟨Bp,2,none⟩)) (a0b hD 0 74 zM rfl rfl);exact ygf
       |2,_,ho =>
        exact ycd
       |3,_,ho =>
        exact yen
       |4,_,ho =>
        cases ho;have f76:=a0a (v:= .slice (some ⟨b,off,none⟩) ps.length c8) (a0b hD 2 76 zM rfl rfl);have f77:=a0a (v:= .int .i64 (k:Nat)) (a0b hD 3 77 zM rfl rfl);exact ybf
       |5,_,ho =>
        cases ho;have f78:=a0a (v:= .pointer (some ⟨b,off+k*7,none⟩)) (a0b hD 4 78 zM rfl rfl);exact ybf
       |6,_,ho =>
        cases ho;have f79:=a0a (v:= .pointer (some ⟨b,off+k*7,none⟩)) (a0b hD 5 79 zM rfl rfl);exact yhj
       |7,_,ho =>
        exact yfs
       |8,_,ho =>
        cases ho;have f81:=a0a (v:= .pointer (some ⟨Bp,0,none⟩)) (a0b hD 7 81 zM rfl rfl);exact yfj
       |9,_,ho =>
        exact ygw
       |10,_,ho =>
        cases ho;have f82:=a0a (v:= .slice (some ⟨dg,dO,none⟩) pl.dots.length dc) (a0b hD 8 82 zM rfl rfl);have f83:=a0a (v:= .int .i64 (j:Nat)) (a0b hD 9 83 zM rfl rfl);exact ykr
       |11,_,ho =>
        cases ho;have f84:=a0a (v:= .pointer (some ⟨dg,dO+j*4,none⟩)) (a0b hD 10 84 zM rfl rfl);go_simp;exact hK (.pointer (some ⟨dg,dO+j*4+2,none⟩)) W rfl (zR _ _) hM
       |12,_,ho =>
        cases ho;have f85:=a0a (v:= .pointer (some ⟨dg,dO+j*4+2,none⟩)) (a0b hD 11 85 zM rfl rfl);have z0:W.cell? ⟨dg,dO+j*4+2,none⟩=some (.int .i64 dk):=a0e hM EM;go_simp;exact hK (.int .i64 dk) W rfl (zR _ _) hM
       |13,_,ho =>
        exact yfs
       |14,_,ho =>
        cases ho;have f87:=a0a (v:= .pointer (some ⟨Bp,0,none⟩)) (a0b hD 13 87 zM rfl rfl);exact yfj
       |15,_,ho =>
        exact ygw
       |16,_,ho =>
        cases ho;have f88:=a0a (v:= .slice (some ⟨dg,dO,none⟩) pl.dots.length dc) (a0b hD 14 88 zM rfl rfl);have f89:=a0a (v:= .int .i64 (j:Nat)) (a0b hD 15 89 zM rfl rfl);exact ykr
       |17,_,ho =>
        cases ho;have f90:=a0a (v:= .pointer (some ⟨dg,dO+j*4,none⟩)) (a0b hD 16 90 zM rfl rfl);go_simp;exact hK (.pointer (some ⟨dg,dO+j*4+3,none⟩)) W rfl (zR _ _) hM
       |18,_,ho =>
        cases ho;have f91:=a0a (v:= .pointer (some ⟨dg,dO+j*4+3,none⟩)) (a0b hD 17 91 zM rfl rfl);have z0:W.cell? ⟨dg,dO+j*4+3,none⟩=some (.int .i64 di):=a0e hM EN;go_simp;exact hK (.int .i64 di) W rfl (zR _ _) hM
       |19,_,ho =>
        cases ho;have f80:=a0a (v:= .int .i64 id) (a0b hD 6 80 zM rfl rfl);have f86:=a0a (v:= .int .i64 dk) (a0b hD 12 86 zM rfl rfl);have f92:=a0a (v:= .int .i64 di) (a0b hD 18 92 zM rfl rfl);go_simp;exact hK (.agg #[.int .i64 id,.int .i64 dk,.int .i64 di]) W rfl (zR _ _) hM
       |20,_,ho =>
        cases ho;have f93:=a0a (v:= .agg #[.int .i64 id,.int .i64 dk,.int .i64 di]) (a0b hD 19 93 zM rfl rfl);exact yef
       |i+21,hi,_=>exact absurd hi oM
      case tail14 =>
       intro bb SK Ar hA ah;obtain⟨L1,h94,AD⟩:=(show ∃L,bb.eval (.tmp 94)= .slice (some ⟨L,0,none⟩) 1 1/\Blk SK L #[.int .i64 id,.int .i64 dk,.int .i64 di] 68 from ah 20 oM _ _ rfl rfl);have h75:bb.eval (.tmp 75)= .slice la pl.left.length lc:=ah 1 oM _ _ rfl rfl;have aC:=hA.frame (rT 74 (rF 21 (rT 23 ([])))) _ rfl zM;clear ah hA;obtain⟨f2,hf⟩:∃f:Nat->Value,(λk=>bb.tmps.getD k undef)=f:=⟨_,rfl⟩;have Nr:f2 94= .slice (some ⟨L1,0,none⟩) 1 1:=by rw[<-hf,<-h94];rfl
       have Ns:f2 75= .slice la pl.left.length lc:=by rw[<-hf,<-h75];rfl
       rw[hf]at aC;clear hf h94 h75;subst aC;simp only[rT,rF,a2d,Nr,Ns,Nat.reduceAdd];clear Nr Ns;simp only[zU];have zl:=nK.below Ar;have KR:=zl.hz;clear gm oh mw EM EN nK;go_wp2_with (first
        |(at_builtin;refine El.allG a9w d7z qM _ _ qM w.heap.size qM pl.left zl.l [⟨id,dk,di⟩] qM (Lst.single a9w (x:=⟨id,dk,di⟩) AD) (.inr ⟨_,_,_,rfl⟩) uM KR ?_;intro v9 w9 aU bD br bj
          obtain⟨fW,iU,-⟩:=zl.add_left bD aU (bj.imp (λe=>e) λe=>⟨_,e,yR _⟩);obtain⟨a9,n9,c9,rfl⟩:∃a n c,v9= .slice a n c:=by
           exact yfg
          have q2:w9.cell? ⟨Bp,2,none⟩=some (.slice la pl.left.length lc):=fW.cell 2;have z2:=fW.frozen 2))
       go_roundw
       case rel=>exact⟨k+1,oM,by go_num,_,_,_,by rw[cF.out];exact iU⟩
       case measure=>simp[intOf];omega
  ·obtain rfl:k=ps.length:=oM
   have aY:¬(ps.length:Int)<(ps.length:Int):=oM;rw[List.take_length]at hP;obtain⟨jt,du,kg⟩:=a9h s ws ps;have iR:=a7b iD ws;obtain⟨pl,mS⟩:=zE (a2n s ws ps);rw[mS]at jt du kg hP;replace mS:=Lib.hid mS;obtain⟨da,dc,mL,-⟩:=(a0d a4t hP.d oM).form;obtain⟨ka,kc,yr,-⟩:=(a0d b4r hP.k oM).form;obtain⟨la,lc,aJ,-⟩:=(a0d a9w hP.l oM).form;subst mL yr aJ;have c0:wr.cell? ⟨Bp,0,none⟩=some (.slice da pl.dots.length dc):=hP.p.cell 0;have c1:wr.cell? ⟨Bp,1,none⟩=some (.slice ka pl.keys.length kc):=hP.p.cell 1;have c2:wr.cell? ⟨Bp,2,none⟩=some (.slice la pl.left.length lc):=hP.p.cell 2;have hr:=oZ wr hP.o;have r0:wr.cell? ⟨nS+1,0,none⟩=some (.slice none 0 0):=hr.cell 0;have r1:wr.cell? ⟨nS+1,1,none⟩=some (.slice none 0 0):=hr.cell 1;have r2:wr.cell? ⟨nS+1,2,none⟩=some (.slice none 0 0):=hr.cell 2;have z0:=hr.frozen 0;have z1:=hr.frozen 1;have z2:=hr.frozen 2;go_wp2_with fail;have lP:=((a0g wr (nS+1) 0 (.slice da pl.dots.length dc)).trans (a0g _ (nS+1) 1 (.slice ka pl.keys.length kc))).trans (a0g _ (nS+1) 2 (.slice la pl.left.length lc));have kA:=((hr.set 0 (.slice da pl.dots.length dc)).set 1 (.slice ka pl.keys.length kc)).set 2 (.slice la pl.left.length lc);obtain⟨W6,qP⟩:=zE (((wr.setCell ⟨nS+1,0,none⟩ (.slice da pl.dots.length dc)).setCell ⟨nS+1,1,none⟩ (.slice ka pl.keys.length kc)).setCell ⟨nS+1,2,none⟩ (.slice la pl.left.length lc));rw[qP]at lP kA ⊢;clear qP;have tn:∀ {v:Vu} {e:Td} {t n:Nat} {xs:List Value},wr.ownsRow w.heap.size e t v n xs->e≠45->W6.ownsRow w.heap.size e t v n xs:=λ{v e t n xs} hw he=>a0s hw lP λr er=>by
    cases er;exact⟨_,hr,λcur e2=>by simp only[Obj.cells.injEq]at e2;exact he e2.2.1.symm⟩
   have t0:=tn hP.d jM;have t1:=tn hP.k jM;have t2:=tn hP.l jM;have bU:Below w.heap.size w W6:=hP.bel.grown lP hP.hz λr e=>by cases e;omega
   exact bodyPost_ret (a1n qM _ _ _ 45 _ (0,0) _ qM kA underlying45 qM zM) rfl ⟨_,rfl,by rw[mS.out];exact⟨_,_,_,rfl,⟨a0d a4t t0 oM,a1u t0⟩,⟨a0d b4r t1 oM,a1u t1⟩,a0d a9w t2 oM,a1u t2⟩,bU⟩
end
end Go.Proofs.YtfocdbjceedagaaGreatDoor
