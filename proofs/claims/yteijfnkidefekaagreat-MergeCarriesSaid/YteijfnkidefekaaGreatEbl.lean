/-
  Parts.
-/
import Derived.Test.YteijfnkidefekaaGreatEau
import Derived.Test.YteijfnkidefekaaGreatEbk
set_option linter.unusedVariables false
set_option linter.unusedSimpArgs false
set_option linter.unusedSectionVars false
set_option maxHeartbeats 4000000
set_option maxRecDepth 100000
namespace Go.Proofs.YteijfnkidefekaaGreat
open Tryz
section
open Go Go.RowKit Go.Shelf Go.Lib Go.Maps
section
variable {α:Type}{E:El α}{P:Program}{st:Td}
theorem El.step_nilN (hE:E.Ok)(hI:E.In P st){o:Oper}{a:Act}{w:Wd}{K:Act->World->Prop}{Q:Exit->Act->World->Prop}(s x:Operand)
 (ho:o.op= .call { callee:= .builtin .append,args:= #[s,x],argTypes:= #[st,st] }) (base g n c:Nat) (hs:a.eval s= .slice (some ⟨g,0,none⟩) n c) {xs:List Value} (hZ:w.ownsRow base E.t E.s (.slice (some ⟨g,0,none⟩) n c) n xs) (aO:a.eval x= .slice none 0 0)
 (h:K (a.put o.dst (.slice (some ⟨g,0,none⟩) n c)) w):Oper.wp P o a w K Q:=by
 obtain⟨i0,z,bV,dm,aH,bn,gm⟩:=hI.info;have OA:Src P i0.size st (.slice none 0 0) 0 [] w:=Src.ofNil w hI.under 0;have dZ:n+0<=c:=by
  rcases hZ.2 with⟨e,-⟩|⟨g',bk,cur,e,-,-,h1,-⟩
  ·cases e
  ·simp only[Value.slice.injEq,true_and]at e
   omega
 have hr:=run_append_room_src (P:=P) w st st o.type E.t i0 hI.under bV g 0 n c (.slice none 0 0) 0 [] OA dZ vM vM;unfold Oper.wp execOp;simp only[ho,resolve,invoke,builtin,Sem.run_bind,Sem.run_pure,Result.andThen_ok,List.map_toArray,List.map_cons,List.map_nil,hs,aO,hr];exact h
end
structure PlR (n0 BM BZ BO BR:Nat)(W1:Wd)(mv rv:Array Value)(W:Wd):Prop where
 b0:Blk W BM mv 32
 b1:Blk W BZ a1s 32
 b2:Blk W BO a1s 32
 b3:Blk W BR rv 32
 bel:Below W1.heap.size W1 W
 z:n0<=W.heap.size
theorem PlR.up {n0 BM BZ BO BR:Nat}{W1 W W':Wd}{mv rv:Array Value}(h:PlR n0 BM BZ BO BR W1 mv rv W)(hb:Below W.heap.size W W'):PlR n0 BM BZ BO BR W1 mv rv W' :=
 ⟨h.b0.below hb h.b0.lt,h.b1.below hb h.b1.lt,h.b2.below hb h.b2.lt,h.b3.below hb h.b3.lt,h.bel.trans (hb.mono h.bel.size),Nat.le_trans h.z hb.size⟩
def FPlEg (BM BZ:Nat)(xv:Vu)(l:List Eg)(i:Nat)(v:Vu)(w:Wd):Prop :=
 match i with
 |0=>∃Z,v= .slice (some ⟨Z,0,none⟩) 0 0/\BM<=Z/\Blk w Z #[] 71
 |1=>v= .pointer (some ⟨BM,0,none⟩)
 |2=>v=xv
 |3=>w.ownsRow BM 71 4 v l.length (l.flatMap egE.enc)/\∃gu cap,v= .slice (some ⟨gu,0,none⟩) l.length cap
 |4=>v= .pointer (some ⟨BZ,0,none⟩)
 |5=>v= .slice none 0 0
 |6=>w.ownsRow BM 71 4 v l.length (l.flatMap egE.enc)/\∃gu cap,v= .slice (some ⟨gu,0,none⟩) l.length cap
 |_=>False
theorem FPlEg.kept {BM BZ:Nat}{xv:Vu}{l:List Eg}{i:Nat}{v:Vu}{w w':Wd}(h:FPlEg BM BZ xv l i v w)(hg:Below w.heap.size w w'):FPlEg BM BZ xv l i v w':=by
 unfold FPlEg at *;exact yci
def FPlFc (BM BZ:Nat)(xv:Vu)(l:List Fc)(i:Nat)(v:Vu)(w:Wd):Prop :=
 match i with
 |0=>∃Z,v= .slice (some ⟨Z,0,none⟩) 0 0/\BM<=Z/\Blk w Z #[] 43
 |1=>v= .pointer (some ⟨BM,1,none⟩)
 |2=>v=xv
 |3=>w.ownsRow BM 43 5 v l.length (l.flatMap fcE.enc)/\∃gu cap,v= .slice (some ⟨gu,0,none⟩) l.length cap
 |4=>v= .pointer (some ⟨BZ,1,none⟩)
 |5=>v= .slice none 0 0
 |6=>w.ownsRow BM 43 5 v l.length (l.flatMap fcE.enc)/\∃gu cap,v= .slice (some ⟨gu,0,none⟩) l.length cap
 |_=>False
theorem FPlFc.kept {BM BZ:Nat}{xv:Vu}{l:List Fc}{i:Nat}{v:Vu}{w w':Wd}(h:FPlFc BM BZ xv l i v w)(hg:Below w.heap.size w w'):FPlFc BM BZ xv l i v w':=by
 unfold FPlFc at *;exact yci
def FPlWq (BM BZ:Nat)(xv:Vu)(l:List Wq)(i:Nat)(v:Vu)(w:Wd):Prop :=
 match i with
 |0=>∃Z,v= .slice (some ⟨Z,0,none⟩) 0 0/\BM<=Z/\Blk w Z #[] 46
 |1=>v= .pointer (some ⟨BM,2,none⟩)
 |2=>v=xv
 |3=>w.ownsRow BM 46 8 v l.length (l.flatMap wqE.enc)/\∃gu cap,v= .slice (some ⟨gu,0,none⟩) l.length cap
 |4=>v= .pointer (some ⟨BZ,2,none⟩)
 |5=>v= .slice none 0 0
 |6=>w.ownsRow BM 46 8 v l.length (l.flatMap wqE.enc)/\∃gu cap,v= .slice (some ⟨gu,0,none⟩) l.length cap
 |_=>False
theorem FPlWq.kept {BM BZ:Nat}{xv:Vu}{l:List Wq}{i:Nat}{v:Vu}{w w':Wd}(h:FPlWq BM BZ xv l i v w)(hg:Below w.heap.size w w'):FPlWq BM BZ xv l i v w':=by
 unfold FPlWq at *;exact yci
def FPlPc (BM BZ:Nat)(xv:Vu)(l:List Pc)(i:Nat)(v:Vu)(w:Wd):Prop :=
 match i with
 |0=>∃Z,v= .slice (some ⟨Z,0,none⟩) 0 0/\BM<=Z/\Blk w Z #[] 48
 |1=>v= .pointer (some ⟨BM,3,none⟩)
 |2=>v=xv
 |3=>w.ownsRow BM 48 7 v l.length (l.flatMap plE.enc)/\∃gu cap,v= .slice (some ⟨gu,0,none⟩) l.length cap
 |4=>v= .pointer (some ⟨BZ,3,none⟩)
 |5=>v= .slice none 0 0
 |6=>w.ownsRow BM 48 7 v l.length (l.flatMap plE.enc)/\∃gu cap,v= .slice (some ⟨gu,0,none⟩) l.length cap
 |_=>False
theorem FPlPc.kept {BM BZ:Nat}{xv:Vu}{l:List Pc}{i:Nat}{v:Vu}{w w':Wd}(h:FPlPc BM BZ xv l i v w)(hg:Below w.heap.size w w'):FPlPc BM BZ xv l i v w':=by
 unfold FPlPc at *;exact yci
theorem a6b (x0 x1 x2 x3:Option Addr)(c0 c1 c2 c3:Nat)(E:List Eg)(Fa:List Fc)(Y:List Wq)(P:List Pc)(w:Wd)(hV:MapV w.heap.size w (.slice x0 E.length c0) (.slice x1 Fa.length c1) (.slice x2 Y.length c2) (.slice x3 P.length c3) E Fa Y P) :
 Calls prog 20 #[.agg #[.slice x0 E.length c0,.slice x1 Fa.length c1,.slice x2 Y.length c2,.slice x3 P.length c3],.agg a1s] w λe w'=>∃a0 d0 a1 d1 a2 d2 a3 d3,e= .returned (.agg #[.slice a0 E.length d0,.slice a1 Fa.length d1,.slice a2 Y.length d2,.slice a3 P.length d3])/\w'.ownsRow w.heap.size 71 4 (.slice a0 E.length d0) E.length (E.flatMap egE.enc)/\w'.ownsRow w.heap.size 43 5 (.slice a1 Fa.length d1) Fa.length (Fa.flatMap fcE.enc)/\w'.ownsRow w.heap.size 46 8 (.slice a2 Y.length d2) Y.length (Y.flatMap wqE.enc)/\w'.ownsRow w.heap.size 48 7 (.slice a3 P.length d3) P.length (P.flatMap plE.enc)/\Below w.heap.size w w':=by
 have an:=hV.ne;have bZ:=hV.nf;have je:=hV.nw;have iK:=hV.np;have k0:=(((Blk.new w #[.slice x0 E.length c0,.slice x1 Fa.length c1,.slice x2 Y.length c2,.slice x3 P.length c3] 32).alloc (.cells a1s 32)).alloc (.cells a1s 32)).alloc (.cells a1s 32);have k1:=((Blk.new (w.alloc (.cells #[.slice x0 E.length c0,.slice x1 Fa.length c1,.slice x2 Y.length c2,.slice x3 P.length c3] 32)) a1s 32).alloc (.cells a1s 32)).alloc (.cells a1s 32);have k2:=(Blk.new ((w.alloc (.cells #[.slice x0 E.length c0,.slice x1 Fa.length c1,.slice x2 Y.length c2,.slice x3 P.length c3] 32)).alloc (.cells a1s 32)) a1s 32).alloc (.cells a1s 32);have k3:=Blk.new (((w.alloc (.cells #[.slice x0 E.length c0,.slice x1 Fa.length c1,.slice x2 Y.length c2,.slice x3 P.length c3] 32)).alloc (.cells a1s 32)).alloc (.cells a1s 32)) a1s 32;simp only[World.size_alloc]at k1 k2 k3;have ah:Below w.heap.size w ((((w.alloc (.cells #[.slice x0 E.length c0,.slice x1 Fa.length c1,.slice x2 Y.length c2,.slice x3 P.length c3] 32)).alloc (.cells a1s 32)).alloc (.cells a1s 32)).alloc (.cells a1s 32)):=by exact zC
 go_enter func20,ntmps20;unfold a1s at *;go_upto_region 2 with fail;obtain⟨W1,ao⟩:=zE ((((w.alloc (.cells #[.slice x0 E.length c0,.slice x1 Fa.length c1,.slice x2 Y.length c2,.slice x3 P.length c3] 32)).alloc (.cells #[.slice none 0 0,.slice none 0 0,.slice none 0 0,.slice none 0 0] 32)).alloc (.cells #[.slice none 0 0,.slice none 0 0,.slice none 0 0,.slice none 0 0] 32)).alloc (.cells #[.slice none 0 0,.slice none 0 0,.slice none 0 0,.slice none 0 0] 32));have aH:W1.heap.size=w.heap.size+1+1+1+1:=by rw[<-ao];simp
 rw[ao]at k0 k1 k2 k3 ah ⊢;clear ao;obtain⟨BM,bu⟩:=zE w.heap.size;have Cv:=hV.below ah;rw[bu]at aH k0 k1 k2 k3 ah Cv ⊢;have lA:MapV BM w (.slice x0 E.length c0) (.slice x1 Fa.length c1) (.slice x2 Y.length c2) (.slice x3 P.length c3) E Fa Y P:=bu▸hV;obtain⟨BZ,OB⟩:=zE (BM+1);rw[OB]at aH k1 k2 k3 ⊢;obtain⟨BO,dW⟩:=zE (BZ+1);rw[dW]at aH k2 k3 ⊢;obtain⟨BR,fC⟩:=zE (BO+1);rw[fC]at aH k3 ⊢;have jz:PlR BM BM BZ BO BR W1 #[.slice x0 E.length c0,.slice x1 Fa.length c1,.slice x2 Y.length c2,.slice x3 P.length c3] #[.slice none 0 0,.slice none 0 0,.slice none 0 0,.slice none 0 0] W1:=⟨k0,k1,k2,k3,zR _ _,xM⟩;clear k0 k1 k2 k3;refine Go.wp_region_rel 7 zM zM (λ_ W=>PlR BM BM BZ BO BR W1 #[.slice x0 E.length c0,.slice x1 Fa.length c1,.slice x2 Y.length c2,.slice x3 P.length c3] #[.slice none 0 0,.slice none 0 0,.slice none 0 0,.slice none 0 0] W) (λw w'=>Below w.heap.size w w') (FPlEg BM BZ (.slice x0 E.length c0) E) (λ_ _ _ _ h g=>h.kept g) (jz.up (zR _ _).drew) ?step0 ?tail0
 case step0 =>
  have hL:Lst egE W1.heap.size W1 (.slice x0 E.length c0) E:=Cv.e.mono xM;have hF:=hV.ef;have hl:E.length<=100000:=xM;obtain⟨xv,aO⟩:=zE ((Value.slice x0 E.length c0));have lU:(#[.slice x0 E.length c0,.slice x1 Fa.length c1,.slice x2 Y.length c2,.slice x3 P.length c3]:Array Value)[0]? =some xv:=by rw[<-aO];rfl
  obtain⟨mv,ox⟩:=zE ((#[.slice x0 E.length c0,.slice x1 Fa.length c1,.slice x2 Y.length c2,.slice x3 P.length c3]:Array Value));rw[ox]at lU ⊢;rw[aO]at hL hF ⊢;obtain⟨l,dT⟩:=zE E;rw[dT]at hL hF hl ⊢;clear ox aO dT hV lA Cv jz;intro i o hi ho c bb W hc hM hA hD K hK;match i,hi,ho with
  |0,_,ho =>
   cases ho;go_simp;have hb:Below W.heap.size W (W.alloc (.cells #[] 71)):=(zR _ _).alloc (yR _) _;exact ydb
  |1,_,ho =>
   cases ho;have f2:=a0a (v:= .pointer (some ⟨BM,0,none⟩)) (hA.at_ (k:=2) zM);go_simp;exact hK (.pointer (some ⟨BM,0,none⟩)) W rfl (zR _ _) hM
  |2,_,ho =>
   cases ho;have f7:=a0a (v:= .pointer (some ⟨BM,0,none⟩)) (a0b hD 1 7 zM rfl rfl);have z0:W.cell? ⟨BM,0,none⟩=some (xv):=(hM.b0.cell 0).trans lU;exact yig
  |3,_,ho =>
   cases ho;have f6:=a0b hD 0 6 zM rfl rfl;have f8:=a0a (v:=xv) (a0b hD 2 8 zM rfl rfl);obtain⟨Z,h1,h2,h3⟩:=f6;refine El.step_freshO a9b c9u _ _ qM BM Z h1 (a3m h3 h2) xv l (a4a f8) (hL.below hM.bel) hF hl hM.z ?_;exact ydd
  |4,_,ho =>
   cases ho;have f3:=a0a (v:= .pointer (some ⟨BZ,0,none⟩)) (hA.at_ (k:=3) zM);go_simp;exact hK (.pointer (some ⟨BZ,0,none⟩)) W rfl (zR _ _) hM
  |5,_,ho =>
   cases ho;have f10:=a0a (v:= .pointer (some ⟨BZ,0,none⟩)) (a0b hD 4 10 zM rfl rfl);have z0:W.cell? ⟨BZ,0,none⟩=some (.slice none 0 0):=hM.b1.cell 0;exact ygz
  |6,_,ho =>
   cases ho;have f9:=a0b hD 3 9 zM rfl rfl;have f11:=a0a (v:= .slice none 0 0) (a0b hD 5 11 zM rfl rfl);obtain⟨hr,gu,cap,hv⟩:=f9;rw[hv]at hr;refine El.step_nilN a9b c9u _ _ qM BM gu l.length cap hv hr (a4a f11) ?_;exact ygx
  |i+7,hi,_=>exact absurd hi xM
 case tail0 =>
  intro bb W' au hA aa;obtain⟨iQ,gu,cap,h12⟩:=(show W'.ownsRow BM 71 4 (bb.eval (.tmp 12)) E.length (E.flatMap egE.enc)/\∃gu cap,bb.eval (.tmp 12)= .slice (some ⟨gu,0,none⟩) E.length cap from aa 6 xM _ _ rfl rfl);rw[h12]at iQ;have az:=hA.frame (rT 6 (rF 7 (rT 26 ([])))) _ rfl zM;clear aa hA;obtain⟨f,hf⟩:=zDt bb;have g12:f 12= .slice (some ⟨gu,0,none⟩) E.length cap:=by rw[<-hf,<-h12];rfl
  rw[hf]at az;clear hf h12;subst az;simp only[rT,rF,a1j,g12,Nat.reduceAdd];clear g12;simp only[zU];obtain⟨a0,oS⟩:=zE ((some ⟨gu,0,none⟩:Option Addr));obtain⟨d0,wW⟩:=zE cap;rw[oS,wW]at iQ ⊢;clear oS wW;have ec:W'.cell? ⟨BR,0,none⟩=some (.slice none 0 0):=au.b3.cell 0;have fz:=au.b3.frozen 0;go_upto_region 3 with fail;have aB:=a0d W' BR 0 (.slice a0 E.length d0);have kR:=au.b3.set 0 (.slice a0 E.length d0);have fI:=au.bel.size;obtain⟨W2,hW⟩:=zE (W'.setCell ⟨BR,0,none⟩ (.slice a0 E.length d0));rw[hW]at aB kR ⊢;clear hW ec fz;replace iQ:=a0i iQ aB au.b3 jM;have eC:PlR BM BM BZ BO BR W2 #[.slice x0 E.length c0,.slice x1 Fa.length c1,.slice x2 Y.length c2,.slice x3 P.length c3] #[.slice a0 E.length d0,.slice none 0 0,.slice none 0 0,.slice none 0 0] W2:=⟨au.b0.kept aB (λe=>by cases e;omega),au.b1.kept aB (λe=>by cases e;omega),au.b2.kept aB (λe=>by cases e;omega),kR,zR _ _,Nat.le_trans au.z aB.size⟩;have bz:Below BM w W2:=(ah.trans (au.bel.mono (by have:=ah.size;omega))).trans (a0f aB au.z (λr e=>by cases e;omega));have Gs:=lA.below bz;have aq:=bz;have bn:BR<W2.heap.size:=by have:=aB.size;omega
  clear au jz Cv kR bz ah aB fI aH gu cap;refine Go.wp_region_rel 7 zM zM (λ_ W=>PlR BM BM BZ BO BR W2 #[.slice x0 E.length c0,.slice x1 Fa.length c1,.slice x2 Y.length c2,.slice x3 P.length c3] #[.slice a0 E.length d0,.slice none 0 0,.slice none 0 0,.slice none 0 0] W) (λw w'=>Below w.heap.size w w') (FPlFc BM BZ (.slice x1 Fa.length c1) Fa) (λ_ _ _ _ h g=>h.kept g) (eC.up (zR _ _).drew) ?step1 ?tail1
  case step1 =>
   have hL:Lst fcE W2.heap.size W2 (.slice x1 Fa.length c1) Fa:=Gs.f.mono xM;have hF:=hV.ff;have hl:Fa.length<=100000:=xM;obtain⟨xv,aO⟩:=zE ((Value.slice x1 Fa.length c1));have lU:(#[.slice x0 E.length c0,.slice x1 Fa.length c1,.slice x2 Y.length c2,.slice x3 P.length c3]:Array Value)[1]? =some xv:=by rw[<-aO];rfl
   obtain⟨mv,ox⟩:=zE ((#[.slice x0 E.length c0,.slice x1 Fa.length c1,.slice x2 Y.length c2,.slice x3 P.length c3]:Array Value));rw[ox]at lU ⊢;rw[aO]at hL hF ⊢;obtain⟨l,dT⟩:=zE Fa;rw[dT]at hL hF hl ⊢;clear ox aO dT hV lA Gs eC;intro i o hi ho c bb W hc hM hA hD K hK;match i,hi,ho with
   |0,_,ho =>
    cases ho;go_simp;have hb:Below W.heap.size W (W.alloc (.cells #[] 43)):=(zR _ _).alloc (yR _) _;exact ydb
   |1,_,ho =>
    cases ho;have f2:=a0a (v:= .pointer (some ⟨BM,0,none⟩)) (hA.at_ (k:=2) zM);go_simp;exact hK (.pointer (some ⟨BM,1,none⟩)) W rfl (zR _ _) hM
   |2,_,ho =>
    cases ho;have f15:=a0a (v:= .pointer (some ⟨BM,1,none⟩)) (a0b hD 1 15 zM rfl rfl);have z0:W.cell? ⟨BM,1,none⟩=some (xv):=(hM.b0.cell 1).trans lU;exact yig
   |3,_,ho =>
    cases ho;have f14:=a0b hD 0 14 zM rfl rfl;have f16:=a0a (v:=xv) (a0b hD 2 16 zM rfl rfl);obtain⟨Z,h1,h2,h3⟩:=f14;refine El.step_freshO a9t c9v _ _ qM BM Z h1 (a3m h3 h2) xv l (a4a f16) (hL.below hM.bel) hF hl hM.z ?_;exact ydd
   |4,_,ho =>
    cases ho;have f3:=a0a (v:= .pointer (some ⟨BZ,0,none⟩)) (hA.at_ (k:=3) zM);go_simp;exact hK (.pointer (some ⟨BZ,1,none⟩)) W rfl (zR _ _) hM
   |5,_,ho =>
    cases ho;have f18:=a0a (v:= .pointer (some ⟨BZ,1,none⟩)) (a0b hD 4 18 zM rfl rfl);have z0:W.cell? ⟨BZ,1,none⟩=some (.slice none 0 0):=hM.b1.cell 1;exact ygz
   |6,_,ho =>
    cases ho;have f17:=a0b hD 3 17 zM rfl rfl;have f19:=a0a (v:= .slice none 0 0) (a0b hD 5 19 zM rfl rfl);obtain⟨hr,gu,cap,hv⟩:=f17;rw[hv]at hr;refine El.step_nilN a9t c9v _ _ qM BM gu l.length cap hv hr (a4a f19) ?_;exact ygx
   |i+7,hi,_=>exact absurd hi xM
  case tail1 =>
   intro bb W' au hA aa;obtain⟨aN,gu,cap,h12⟩:=(show W'.ownsRow BM 43 5 (bb.eval (.tmp 20)) Fa.length (Fa.flatMap fcE.enc)/\∃gu cap,bb.eval (.tmp 20)= .slice (some ⟨gu,0,none⟩) Fa.length cap from aa 6 xM _ _ rfl rfl);rw[h12]at aN;have az:=hA.frame (rT 14 (rF 7 (rT 18 ([])))) _ rfl zM;clear aa hA;obtain⟨f,hf⟩:=zDt bb;have g12:f 20= .slice (some ⟨gu,0,none⟩) Fa.length cap:=by rw[<-hf,<-h12];rfl
   rw[hf]at az;clear hf h12;subst az;simp only[rT,rF,a1j,g12,Nat.reduceAdd];clear g12;simp only[zU];obtain⟨a1,JE⟩:=zE ((some ⟨gu,0,none⟩:Option Addr));obtain⟨d1,eN⟩:=zE cap;rw[JE,eN]at aN ⊢;clear JE eN;have ec:W'.cell? ⟨BR,1,none⟩=some (.slice none 0 0):=au.b3.cell 1;have fz:=au.b3.frozen 1;go_upto_region 4 with fail;have aB:=a0d W' BR 1 (.slice a1 Fa.length d1);have kR:=au.b3.set 1 (.slice a1 Fa.length d1);have fI:=au.bel.size;obtain⟨W3,hW⟩:=zE (W'.setCell ⟨BR,1,none⟩ (.slice a1 Fa.length d1));rw[hW]at aB kR ⊢;clear hW ec fz;replace iQ:=a0i (a0c iQ au.bel) aB au.b3 jM;replace aN:=a0i aN aB au.b3 jM;have dN:PlR BM BM BZ BO BR W3 #[.slice x0 E.length c0,.slice x1 Fa.length c1,.slice x2 Y.length c2,.slice x3 P.length c3] #[.slice a0 E.length d0,.slice a1 Fa.length d1,.slice none 0 0,.slice none 0 0] W3:=⟨au.b0.kept aB (λe=>by cases e;omega),au.b1.kept aB (λe=>by cases e;omega),au.b2.kept aB (λe=>by cases e;omega),kR,zR _ _,Nat.le_trans au.z aB.size⟩;have bz:Below BM w W3:=(aq.trans (au.bel.mono (by have:=aq.size;omega))).trans (a0f aB au.z (λr e=>by cases e;omega));have Gt:=lA.below bz;have b9:=bz;have gm:BR<W3.heap.size:=by have:=aB.size;omega
   clear au eC Gs kR bz aq aB fI bn gu cap;refine Go.wp_region_rel 7 zM zM (λ_ W=>PlR BM BM BZ BO BR W3 #[.slice x0 E.length c0,.slice x1 Fa.length c1,.slice x2 Y.length c2,.slice x3 P.length c3] #[.slice a0 E.length d0,.slice a1 Fa.length d1,.slice none 0 0,.slice none 0 0] W) (λw w'=>Below w.heap.size w w') (FPlWq BM BZ (.slice x2 Y.length c2) Y) (λ_ _ _ _ h g=>h.kept g) (dN.up (zR _ _).drew) ?step2 ?tail2
   case step2 =>
    have hL:Lst wqE W3.heap.size W3 (.slice x2 Y.length c2) Y:=Gt.w.mono xM;have hF:=hV.wf;have hl:Y.length<=100000:=xM;obtain⟨xv,aO⟩:=zE ((Value.slice x2 Y.length c2));have lU:(#[.slice x0 E.length c0,.slice x1 Fa.length c1,.slice x2 Y.length c2,.slice x3 P.length c3]:Array Value)[2]? =some xv:=by rw[<-aO];rfl
    obtain⟨mv,ox⟩:=zE ((#[.slice x0 E.length c0,.slice x1 Fa.length c1,.slice x2 Y.length c2,.slice x3 P.length c3]:Array Value));rw[ox]at lU ⊢;rw[aO]at hL hF ⊢;obtain⟨l,dT⟩:=zE Y;rw[dT]at hL hF hl ⊢;clear ox aO dT hV lA Gt dN;intro i o hi ho c bb W hc hM hA hD K hK;match i,hi,ho with
    |0,_,ho =>
     cases ho;go_simp;have hb:Below W.heap.size W (W.alloc (.cells #[] 46)):=(zR _ _).alloc (yR _) _;exact ydb
    |1,_,ho =>
     exact yga
    |2,_,ho =>
     cases ho;have f23:=a0a (v:= .pointer (some ⟨BM,2,none⟩)) (a0b hD 1 23 zM rfl rfl);have z0:W.cell? ⟨BM,2,none⟩=some (xv):=(hM.b0.cell 2).trans lU;exact yig
    |3,_,ho =>
     cases ho;have f22:=a0b hD 0 22 zM rfl rfl;have f24:=a0a (v:=xv) (a0b hD 2 24 zM rfl rfl);obtain⟨Z,h1,h2,h3⟩:=f22;refine El.step_freshO a6d c6y _ _ qM BM Z h1 (a3m h3 h2) xv l (a4a f24) (hL.below hM.bel) hF hl hM.z ?_;exact ydd
    |4,_,ho =>
     cases ho;have f3:=a0a (v:= .pointer (some ⟨BZ,0,none⟩)) (hA.at_ (k:=3) zM);go_simp;exact hK (.pointer (some ⟨BZ,2,none⟩)) W rfl (zR _ _) hM
    |5,_,ho =>
     cases ho;have f26:=a0a (v:= .pointer (some ⟨BZ,2,none⟩)) (a0b hD 4 26 zM rfl rfl);have z0:W.cell? ⟨BZ,2,none⟩=some (.slice none 0 0):=hM.b1.cell 2;exact ygz
    |6,_,ho =>
     cases ho;have f25:=a0b hD 3 25 zM rfl rfl;have f27:=a0a (v:= .slice none 0 0) (a0b hD 5 27 zM rfl rfl);obtain⟨hr,gu,cap,hv⟩:=f25;rw[hv]at hr;refine El.step_nilN a6d c6y _ _ qM BM gu l.length cap hv hr (a4a f27) ?_;exact ygx
    |i+7,hi,_=>exact absurd hi xM
   case tail2 =>
    intro bb W' au hA aa;obtain⟨aL,gu,cap,h12⟩:=(show W'.ownsRow BM 46 8 (bb.eval (.tmp 28)) Y.length (Y.flatMap wqE.enc)/\∃gu cap,bb.eval (.tmp 28)= .slice (some ⟨gu,0,none⟩) Y.length cap from aa 6 xM _ _ rfl rfl);rw[h12]at aL;have az:=hA.frame (rT 22 (rF 7 (rT 10 ([])))) _ rfl zM;clear aa hA;obtain⟨f,hf⟩:=zDt bb;have g12:f 28= .slice (some ⟨gu,0,none⟩) Y.length cap:=by rw[<-hf,<-h12];rfl
    rw[hf]at az;clear hf h12;subst az;simp only[rT,rF,a1j,g12,Nat.reduceAdd];clear g12;simp only[zU];obtain⟨a2,pJ⟩:=zE ((some ⟨gu,0,none⟩:Option Addr));obtain⟨d2,bM⟩:=zE cap;rw[pJ,bM]at aL ⊢;clear pJ bM;have ec:W'.cell? ⟨BR,2,none⟩=some (.slice none 0 0):=au.b3.cell 2;have fz:=au.b3.frozen 2;go_upto_region 5 with fail;have aB:=a0d W' BR 2 (.slice a2 Y.length d2);have kR:=au.b3.set 2 (.slice a2 Y.length d2);have fI:=au.bel.size;obtain⟨W4,hW⟩:=zE (W'.setCell ⟨BR,2,none⟩ (.slice a2 Y.length d2));rw[hW]at aB kR ⊢;clear hW ec fz;replace iQ:=a0i (a0c iQ au.bel) aB au.b3 jM;replace aN:=a0i (a0c aN au.bel) aB au.b3 jM;replace aL:=a0i aL aB au.b3 jM;have iL:PlR BM BM BZ BO BR W4 #[.slice x0 E.length c0,.slice x1 Fa.length c1,.slice x2 Y.length c2,.slice x3 P.length c3] #[.slice a0 E.length d0,.slice a1 Fa.length d1,.slice a2 Y.length d2,.slice none 0 0] W4:=⟨au.b0.kept aB (λe=>by cases e;omega),au.b1.kept aB (λe=>by cases e;omega),au.b2.kept aB (λe=>by cases e;omega),kR,zR _ _,Nat.le_trans au.z aB.size⟩;have bz:Below BM w W4:=(b9.trans (au.bel.mono (by have:=b9.size;omega))).trans (a0f aB au.z (λr e=>by cases e;omega));have Gu:=lA.below bz;have bh:=bz;have oy:BR<W4.heap.size:=by have:=aB.size;omega
    clear au dN Gt kR bz b9 aB fI gm gu cap;refine Go.wp_region_rel 7 zM zM (λ_ W=>PlR BM BM BZ BO BR W4 #[.slice x0 E.length c0,.slice x1 Fa.length c1,.slice x2 Y.length c2,.slice x3 P.length c3] #[.slice a0 E.length d0,.slice a1 Fa.length d1,.slice a2 Y.length d2,.slice none 0 0] W) (λw w'=>Below w.heap.size w w') (FPlPc BM BZ (.slice x3 P.length c3) P) (λ_ _ _ _ h g=>h.kept g) (iL.up (zR _ _).drew) ?step3 ?tail3
    case step3 =>
     have hL:Lst plE W4.heap.size W4 (.slice x3 P.length c3) P:=Gu.p.mono xM;have hF:=hV.pf;have hl:P.length<=100000:=xM;obtain⟨xv,aO⟩:=zE ((Value.slice x3 P.length c3));have lU:(#[.slice x0 E.length c0,.slice x1 Fa.length c1,.slice x2 Y.length c2,.slice x3 P.length c3]:Array Value)[3]? =some xv:=by rw[<-aO];rfl
     obtain⟨mv,ox⟩:=zE ((#[.slice x0 E.length c0,.slice x1 Fa.length c1,.slice x2 Y.length c2,.slice x3 P.length c3]:Array Value));rw[ox]at lU ⊢;rw[aO]at hL hF ⊢;obtain⟨l,dT⟩:=zE P;rw[dT]at hL hF hl ⊢;clear ox aO dT hV lA Gu iL;intro i o hi ho c bb W hc hM hA hD K hK;match i,hi,ho with
     |0,_,ho =>
      cases ho;go_simp;have hb:Below W.heap.size W (W.alloc (.cells #[] 48)):=(zR _ _).alloc (yR _) _;exact ydb
     |1,_,ho =>
      exact yfr
     |2,_,ho =>
      cases ho;have f31:=a0a (v:= .pointer (some ⟨BM,3,none⟩)) (a0b hD 1 31 zM rfl rfl);have z0:W.cell? ⟨BM,3,none⟩=some (xv):=(hM.b0.cell 3).trans lU;exact yig
     |3,_,ho =>
      cases ho;have f30:=a0b hD 0 30 zM rfl rfl;have f32:=a0a (v:=xv) (a0b hD 2 32 zM rfl rfl);obtain⟨Z,h1,h2,h3⟩:=f30;refine El.step_freshO a2n b9t _ _ qM BM Z h1 (a3m h3 h2) xv l (a4a f32) (hL.below hM.bel) hF hl hM.z ?_;exact ydd
     |4,_,ho =>
      cases ho;have f3:=a0a (v:= .pointer (some ⟨BZ,0,none⟩)) (hA.at_ (k:=3) zM);go_simp;exact hK (.pointer (some ⟨BZ,3,none⟩)) W rfl (zR _ _) hM
     |5,_,ho =>
      cases ho;have f34:=a0a (v:= .pointer (some ⟨BZ,3,none⟩)) (a0b hD 4 34 zM rfl rfl);have z0:W.cell? ⟨BZ,3,none⟩=some (.slice none 0 0):=hM.b1.cell 3;exact ygz
     |6,_,ho =>
      cases ho;have f33:=a0b hD 3 33 zM rfl rfl;have f35:=a0a (v:= .slice none 0 0) (a0b hD 5 35 zM rfl rfl);obtain⟨hr,gu,cap,hv⟩:=f33;rw[hv]at hr;refine El.step_nilN a2n b9t _ _ qM BM gu l.length cap hv hr (a4a f35) ?_;exact ygx
     |i+7,hi,_=>exact absurd hi xM
    case tail3 =>
     intro bb W' au hA aa;obtain⟨jV,gu,cap,h12⟩:=(show W'.ownsRow BM 48 7 (bb.eval (.tmp 36)) P.length (P.flatMap plE.enc)/\∃gu cap,bb.eval (.tmp 36)= .slice (some ⟨gu,0,none⟩) P.length cap from aa 6 xM _ _ rfl rfl);rw[h12]at jV;have az:=hA.frame (rT 30 (rF 7 (rT 2 ([])))) _ rfl zM;clear aa hA;obtain⟨f,hf⟩:=zDt bb;have g12:f 36= .slice (some ⟨gu,0,none⟩) P.length cap:=by rw[<-hf,<-h12];rfl
     rw[hf]at az;clear hf h12;subst az;simp only[rT,rF,a1j,g12,Nat.reduceAdd];clear g12;simp only[zU];obtain⟨a3,JF⟩:=zE ((some ⟨gu,0,none⟩:Option Addr));obtain⟨d3,lD⟩:=zE cap;rw[JF,lD]at jV ⊢;clear JF lD;have ec:W'.cell? ⟨BR,3,none⟩=some (.slice none 0 0):=au.b3.cell 3;have fz:=au.b3.frozen 3;go_upto_region 6 with fail;have aB:=a0d W' BR 3 (.slice a3 P.length d3);have kR:=au.b3.set 3 (.slice a3 P.length d3);have fI:=au.bel.size;obtain⟨W5,hW⟩:=zE (W'.setCell ⟨BR,3,none⟩ (.slice a3 P.length d3));rw[hW]at aB kR ⊢;clear hW ec fz;replace iQ:=a0i (a0c iQ au.bel) aB au.b3 jM;replace aN:=a0i (a0c aN au.bel) aB au.b3 jM;replace aL:=a0i (a0c aL au.bel) aB au.b3 jM;replace jV:=a0i jV aB au.b3 jM;have dM:PlR BM BM BZ BO BR W5 #[.slice x0 E.length c0,.slice x1 Fa.length c1,.slice x2 Y.length c2,.slice x3 P.length c3] #[.slice a0 E.length d0,.slice a1 Fa.length d1,.slice a2 Y.length d2,.slice a3 P.length d3] W5:=⟨au.b0.kept aB (λe=>by cases e;omega),au.b1.kept aB (λe=>by cases e;omega),au.b2.kept aB (λe=>by cases e;omega),kR,zR _ _,Nat.le_trans au.z aB.size⟩;have bz:Below BM w W5:=(bh.trans (au.bel.mono (by have:=bh.size;omega))).trans (a0f aB au.z (λr e=>by cases e;omega));have OC:=lA.below bz;have aI:=bz;have ou:BR<W5.heap.size:=by have:=aB.size;omega
     clear au iL Gu kR bz bh aB fI oy gu cap;have kO:=dM.b2;obtain⟨e0,e1,e2,e3⟩:=zN4 dM.b3;obtain⟨g0,g1,g2,g3⟩:=zN4 kO;have z0:=kO.frozen 0;have z1:=kO.frozen 1;have z2:=kO.frozen 2;have z3:=kO.frozen 3;obtain⟨kF,-,gF,zF⟩:=a4b W5 BO _ _ _ _ (.slice a0 E.length d0) (.slice a1 Fa.length d1) (.slice a2 Y.length d2) (.slice a3 P.length d3) kO;have F1:=aI.size;have aF:=Lib.hid (And.intro (a0i iQ gF kO jM) (And.intro (a0i aN gF kO jM) (And.intro (a0i aL gF kO jM) (And.intro (a0i jV gF kO jM) (aI.trans (a0f gF xM (λr e=>by cases e;omega)))))));clear dM OC aI kO gF iQ aN aL jV;go_wp2_with fail;exact bodyPost_ret (results_cell_row qM _ _ _ 32 _ (0,0) _ qM kF underlying32 qM zM) rfl ⟨a0,d0,a1,d1,a2,d2,a3,d3,rfl,aF.out.1,aF.out.2.1,aF.out.2.2.1,aF.out.2.2.2.1,aF.out.2.2.2.2⟩
structure WoR {α:Type}(E:El α)(BM BR j g go k ny dc:Nat)(ov:Vu)(rest:World->Prop)(W1:Wd)(x:α)(W:Wd):Prop where
 m:W.cell? ⟨BM,j,none⟩=some (.slice (some ⟨g,go,none⟩) ny dc)
 r:W.cell? ⟨BR,j,none⟩=some ov
 at_:AtC E W g (go+k*E.s) x
 gl:g<W1.heap.size
 bm:BM<W1.heap.size
 br:BR<W1.heap.size
 bel:Below W1.heap.size W1 W
theorem WoR.up {α:Type}{E:El α}{BM BR j g go k ny dc:Nat}{ov:Vu}{rest:World->Prop}{W1 W W':Wd}{x:α}(h:WoR E BM BR j g go k ny dc ov rest W1 x W)(hb:Below W.heap.size W W'):WoR E BM BR j g go k ny dc ov rest W1 x W' :=
 ⟨(hb.cell (World.block_lt_of_cell? _ _ h.m)).trans h.m,(hb.cell (World.block_lt_of_cell? _ _ h.r)).trans h.r,h.at_.below hb (Nat.lt_of_lt_of_le h.gl h.bel.size),h.gl,h.bm,h.br,h.bel.trans (hb.mono h.bel.size)⟩
theorem a2d {W:Wd}{b1 b2:Nat}{e1 e2:Td}{s1 s2:Nat}{v1 v2:Vu}{n1 n2:Nat}{OD OE:List Value}(h1:W.ownsRow b1 e1 s1 v1 n1 OD)(h2:W.ownsRow b2 e2 s2 v2 n2 OE)(he:e1≠e2):v1.ownBlock=none\/v1.ownBlock≠v2.ownBlock:=by
 rcases h1.2 with⟨rfl,-⟩|⟨g,cap,cur,rfl,-,h4,-⟩
 ·exact .inl rfl
 ·refine .inr λe=> ?_
  rcases h2.2 with⟨rfl,-⟩|⟨g',bk,cur',rfl,-,h5,-⟩
  ·cases e
  ·cases e
   exact ykd
theorem c5c {α:Type}(f:α->Int)(id:Int)(l:List α)(k:Nat)(hk:k<l.length):(l.take (k+1)).filter (λx=>decide (f x≠id))=(l.take k).filter (λx=>decide (f x≠id))++(if f l[k]=id then []else [l[k]]):=by
 rw[List.take_add_one,List.getElem?_eq_getElem hk,Option.toList_some,List.filter_append];by_cases h:f l[k]=id <;> simp[h]
def FWw (BM BR g go k ny dc:Nat)(oa:Option Addr)(on oc:Nat)(x:Wq)(i:Nat)(v:Vu)(w:Wd):Prop :=
 match i with
 |0=>v= .pointer (some ⟨BR,2,none⟩)
 |1=>v= .slice oa on oc
 |2=>v= .pointer (some ⟨BM,2,none⟩)
 |3=>v= .slice (some ⟨g,go,none⟩) ny dc
 |4=>v= .int .i64 (k:Nat)
 |5=>v= .pointer (some ⟨g,go+k*8,none⟩)
 |6=>v= .agg #[.int .i64 x.id,.slice x.la x.ln x.lc,.int .i64 x.lvl,.string x.cls,.string x.nm,.bool x.st,.int .i64 x.wt,.int .i64 x.ds]
 |7=>∃Hb,v= .slice (some ⟨Hb,0,none⟩) 1 1/\Blk w Hb #[.int .i64 x.id,.slice x.la x.ln x.lc,.int .i64 x.lvl,.string x.cls,.string x.nm,.bool x.st,.int .i64 x.wt,.int .i64 x.ds] 46
 |_=>False
theorem FWw.kept {BM BR g go k ny dc:Nat}{oa:Option Addr}{on oc:Nat}{x:Wq}{i:Nat}{v:Vu}{w w':Wd}(h:FWw BM BR g go k ny dc oa on oc x i v w)(hg:Below w.heap.size w w'):FWw BM BR g go k ny dc oa on oc x i v w':=by
 unfold FWw at *;exact yef
def FWp (BM BR g go k ny dc:Nat)(oa:Option Addr)(on oc:Nat)(x:Pc)(i:Nat)(v:Vu)(w:Wd):Prop :=
 match i with
 |0=>v= .pointer (some ⟨BR,3,none⟩)
 |1=>v= .slice oa on oc
 |2=>v= .pointer (some ⟨BM,3,none⟩)
 |3=>v= .slice (some ⟨g,go,none⟩) ny dc
 |4=>v= .int .i64 (k:Nat)
 |5=>v= .pointer (some ⟨g,go+k*7,none⟩)
 |6=>v= .agg #[.int .i64 x.id,.int .i64 x.x,.int .i64 x.y,.string x.cls,.string x.nm,.int .i64 x.wt,.int .i64 x.ds]
 |7=>∃Hb,v= .slice (some ⟨Hb,0,none⟩) 1 1/\Blk w Hb #[.int .i64 x.id,.int .i64 x.x,.int .i64 x.y,.string x.cls,.string x.nm,.int .i64 x.wt,.int .i64 x.ds] 48
 |_=>False
theorem FWp.kept {BM BR g go k ny dc:Nat}{oa:Option Addr}{on oc:Nat}{x:Pc}{i:Nat}{v:Vu}{w w':Wd}(h:FWp BM BR g go k ny dc oa on oc x i v w)(hg:Below w.heap.size w w'):FWp BM BR g go k ny dc oa on oc x i v w':=by
 unfold FWp at *;exact yef
theorem b5v (x0 x1 x2 x3:Option Addr)(c0 c1 c2 c3:Nat)(E:List Eg)(Fa:List Fc)(Y:List Wq)(P:List Pc)(id:Int)(w:Wd)(hV:MapV w.heap.size w (.slice x0 E.length c0) (.slice x1 Fa.length c1) (.slice x2 Y.length c2) (.slice x3 P.length c3) E Fa Y P) :
 Calls prog 21 #[.agg #[.slice x0 E.length c0,.slice x1 Fa.length c1,.slice x2 Y.length c2,.slice x3 P.length c3],.int .i64 id] w λe w'=>∃a2 d2 a3 d3,e= .returned (.agg #[.slice x0 E.length c0,.slice x1 Fa.length c1,.slice a2 (Y.filter λx=>decide (x.id≠id)).length d2,.slice a3 (P.filter λx=>decide (x.id≠id)).length d3])/\w'.ownsRow w.heap.size 46 8 (.slice a2 (Y.filter λx=>decide (x.id≠id)).length d2) (Y.filter λx=>decide (x.id≠id)).length ((Y.filter λx=>decide (x.id≠id)).flatMap wqE.enc)/\w'.ownsRow w.heap.size 48 7 (.slice a3 (P.filter λx=>decide (x.id≠id)).length d3) (P.filter λx=>decide (x.id≠id)).length ((P.filter λx=>decide (x.id≠id)).flatMap plE.enc)/\Below w.heap.size w w':=by
 have je:=hV.nw;have iK:=hV.np;have k0:=((Blk.new w #[.slice x0 E.length c0,.slice x1 Fa.length c1,.slice x2 Y.length c2,.slice x3 P.length c3] 32).alloc (.cells a1s 32)).alloc (.cells #[.slice x0 E.length c0,.slice x1 Fa.length c1,.slice none 0 0,.slice none 0 0] 32);have k1:=(Blk.new (w.alloc (.cells #[.slice x0 E.length c0,.slice x1 Fa.length c1,.slice x2 Y.length c2,.slice x3 P.length c3] 32)) a1s 32).alloc (.cells #[.slice x0 E.length c0,.slice x1 Fa.length c1,.slice none 0 0,.slice none 0 0] 32);have k2:=Blk.new ((w.alloc (.cells #[.slice x0 E.length c0,.slice x1 Fa.length c1,.slice x2 Y.length c2,.slice x3 P.length c3] 32)).alloc (.cells a1s 32)) #[.slice x0 E.length c0,.slice x1 Fa.length c1,.slice none 0 0,.slice none 0 0] 32;simp only[World.size_alloc]at k1 k2;have ah:Below w.heap.size w (((w.alloc (.cells #[.slice x0 E.length c0,.slice x1 Fa.length c1,.slice x2 Y.length c2,.slice x3 P.length c3] 32)).alloc (.cells a1s 32)).alloc (.cells #[.slice x0 E.length c0,.slice x1 Fa.length c1,.slice none 0 0,.slice none 0 0] 32)):=by exact zC
 go_enter func21,ntmps21;unfold a1s at *;go_upto_region 4 with fail;obtain⟨W1,ao⟩:=zE (((w.alloc (.cells #[.slice x0 E.length c0,.slice x1 Fa.length c1,.slice x2 Y.length c2,.slice x3 P.length c3] 32)).alloc (.cells #[.slice none 0 0,.slice none 0 0,.slice none 0 0,.slice none 0 0] 32)).alloc (.cells #[.slice x0 E.length c0,.slice x1 Fa.length c1,.slice none 0 0,.slice none 0 0] 32));have aH:W1.heap.size=w.heap.size+1+1+1:=by rw[<-ao];simp
 rw[ao]at k0 k1 k2 ah ⊢;clear ao;obtain⟨BM,bu⟩:=zE w.heap.size;rw[bu]at aH k0 k1 k2 ah ⊢;have lA:MapV BM w (.slice x0 E.length c0) (.slice x1 Fa.length c1) (.slice x2 Y.length c2) (.slice x3 P.length c3) E Fa Y P:=bu▸hV;obtain⟨BO,dW⟩:=zE (BM+1);rw[dW]at aH k1 k2 ⊢;obtain⟨BR,fC⟩:=zE (BO+1);rw[fC]at aH k2 ⊢;have zY:BR<W1.heap.size:=xM;clear hV aH;go_wp2_with fail;go_loopw [6] (λkk wr=>∃(k:Nat) (va:Option Addr) (vc:Nat),k<=Y.length/\kk= .int .i64 (k:Nat)/\Hid (wr.ownsRow BM 46 8 (.slice va ((Y.take k).filter λx=>decide (x.id≠id)).length vc) ((Y.take k).filter λx=>decide (x.id≠id)).length (((Y.take k).filter λx=>decide (x.id≠id)).flatMap wqE.enc)/\Below BM w wr/\BR<wr.heap.size)/\Blk wr BM #[.slice x0 E.length c0,.slice x1 Fa.length c1,.slice x2 Y.length c2,.slice x3 P.length c3] 32/\Blk wr BO #[.slice none 0 0,.slice none 0 0,.slice none 0 0,.slice none 0 0] 32/\Blk wr BR #[.slice x0 E.length c0,.slice x1 Fa.length c1,.slice va ((Y.take k).filter λx=>decide (x.id≠id)).length vc,.slice none 0 0] 32) (λkk _=>Y.length+1-(intOf kk).toNat)
 case atStart=>exact⟨0,none,0,Nat.zero_le _,rfl,Lib.hid ⟨⟨rfl,.inl ⟨rfl,rfl⟩⟩,ah,zY⟩,k0,k1,k2⟩
 case round =>
  clear k0 k1 k2 ah zY;obtain⟨k,va,vc,hk,rfl,hR,kB,kO,kR⟩:=hrel;obtain⟨m2,r2⟩:wr.cell? ⟨BM,2,none⟩=some (.slice x2 Y.length c2)/\wr.cell? ⟨BR,2,none⟩=some (.slice va ((Y.take k).filter λx=>decide (x.id≠id)).length vc):=⟨kB.cell 2,kR.cell 2⟩;by_cases ab:k<Y.length
  ·have aj:(k:Int)<(Y.length:Int):=xM
   obtain⟨g,go,dd,e,-,gO,hc⟩:=lA.w.some_ xM;simp only[Value.slice.injEq,true_and]at e;obtain⟨rfl,-⟩:=e;have hX:AtC wqE wr g (go+k*8) Y[k]:=AtC.below (E:=wqE) (o:=go+k*8) (hc k ab) hR.out.2.1 xM;have dt:=c5c (λx:Wq=>x.id) id Y k ab;obtain⟨x,hx⟩:=zE (Y[k]);rw[hx]at hX dt;have i0:wr.cell? ⟨g,go+k*8,none⟩=some (.int .i64 x.id):=hX 0 jM;clear hc hx;by_cases hid:x.id=id
   ·exact yee
   ·rw[if_neg hid]at dt
    have an:(x.id != id)=true:=by simpa using hid
    go_upto_region 8 with fail;obtain⟨acc,ks⟩:=zE (((Y.take k).filter λx=>decide (x.id≠id)));have OF:acc.length<=1000:=by rw[<-ks];exact Nat.le_trans (List.length_filter_le _ _) (by rw[List.length_take];omega)
    rw[ks]at hR kR r2 dt;have dX:=hR.out.2.1.size;have Gv:=hR.out.2.2;have zZ:WoR wqE BM BR 2 g go k Y.length c2 (.slice va acc.length vc) (λ_=>True) wr x wr:=⟨m2,r2,hX,xM,xM,xM,zR _ _⟩;refine Go.wp_region_rel 8 zM zM (λ_ W=>WoR wqE BM BR 2 g go k Y.length c2 (.slice va acc.length vc) (λ_=>True) wr x W) (λw w'=>Below w.heap.size w w') (FWw BM BR g go k Y.length c2 va acc.length vc x) (λ_ _ _ _ h g=>h.kept g) (zZ.up (zR _ _).drew) ?step ?tail
    case step =>
     obtain⟨ny,sk⟩:=zE Y.length;obtain⟨on,Aa⟩:=zE acc.length;obtain⟨oa,qG⟩:=zE va;obtain⟨oc,kV⟩:=zE vc;obtain⟨dc,jH⟩:=zE c2;rw[sk]at aj ab ⊢;rw[Aa,qG,kV,jH];clear sk Aa qG kV jH hR kB kO kR lA hX dt ks zZ m2 r2 i0 an;intro i o hi ho c bb W hc hM hA hD K hK;match i,hi,ho with
     |0,_,ho =>
      cases ho;have f5:=a0a (v:= .pointer (some ⟨BR,0,none⟩)) (hA.at_ (k:=5) zM);go_simp;exact hK (.pointer (some ⟨BR,2,none⟩)) W rfl (zR _ _) hM
     |1,_,ho =>
      cases ho;have f26:=a0a (v:= .pointer (some ⟨BR,2,none⟩)) (a0b hD 0 26 zM rfl rfl);have z0:W.cell? ⟨BR,2,none⟩=some (.slice oa on oc):=hM.r;go_simp;exact hK (.slice oa on oc) W rfl (zR _ _) hM
     |2,_,ho =>
      exact yga
     |3,_,ho =>
      cases ho;have f28:=a0a (v:= .pointer (some ⟨BM,2,none⟩)) (a0b hD 2 28 zM rfl rfl);have z0:W.cell? ⟨BM,2,none⟩=some (.slice (some ⟨g,go,none⟩) ny dc):=hM.m;exact ykc
     |4,_,ho =>
      cases ho;have f6:=a0a (v:= .int .i64 (k:Nat)) (hA.at_ (k:=6) zM);exact yav
     |5,_,ho =>
      cases ho;have f29:=a0a (v:= .slice (some ⟨g,go,none⟩) ny dc) (a0b hD 3 29 zM rfl rfl);have f30:=a0a (v:= .int .i64 (k:Nat)) (a0b hD 4 30 zM rfl rfl);exact ykb
     |6,_,ho =>
      cases ho;have f31:=a0a (v:= .pointer (some ⟨g,go+k*8,none⟩)) (a0b hD 5 31 zM rfl rfl);have z0:W.cell? ⟨g,go+k*8,none⟩=some (.int .i64 x.id):=hM.at_ 0 jM;have z1:W.cell? ⟨g,go+k*8+1,none⟩=some (.slice x.la x.ln x.lc):=hM.at_ 1 jM;have z2:W.cell? ⟨g,go+k*8+2,none⟩=some (.int .i64 x.lvl):=hM.at_ 2 jM;have z3:W.cell? ⟨g,go+k*8+3,none⟩=some (.string x.cls):=hM.at_ 3 jM;have z4:W.cell? ⟨g,go+k*8+4,none⟩=some (.string x.nm):=hM.at_ 4 jM;have z5:W.cell? ⟨g,go+k*8+5,none⟩=some (.bool x.st):=hM.at_ 5 jM;have z6:W.cell? ⟨g,go+k*8+6,none⟩=some (.int .i64 x.wt):=hM.at_ 6 jM;have z7:W.cell? ⟨g,go+k*8+7,none⟩=some (.int .i64 x.ds):=hM.at_ 7 jM;go_simp;exact hK (.agg #[.int .i64 x.id,.slice x.la x.ln x.lc,.int .i64 x.lvl,.string x.cls,.string x.nm,.bool x.st,.int .i64 x.wt,.int .i64 x.ds]) W rfl (zR _ _) hM
     |7,_,ho =>
      cases ho;have f32:=a0a (v:= .agg #[.int .i64 x.id,.slice x.la x.ln x.lc,.int .i64 x.lvl,.string x.cls,.string x.nm,.bool x.st,.int .i64 x.wt,.int .i64 x.ds]) (a0b hD 6 32 zM rfl rfl);go_simp;have hb:Below W.heap.size W (W.alloc (.cells #[.int .i64 x.id,.slice x.la x.ln x.lc,.int .i64 x.lvl,.string x.cls,.string x.nm,.bool x.st,.int .i64 x.wt,.int .i64 x.ds] 46)):=(zR _ _).alloc (yR _) _;exact yde
     |i+8,hi,_=>exact absurd hi xM
    case tail =>
     intro bb W' au hA aa;obtain⟨Hb,h33,AS⟩:=(show ∃Hb,bb.eval (.tmp 33)= .slice (some ⟨Hb,0,none⟩) 1 1/\Blk W' Hb (wqE.enc x).toArray 46 from aa 7 xM _ _ rfl rfl);have h27:=(show bb.eval (.tmp 27)= .slice va acc.length vc from aa 1 xM _ _ rfl rfl);have az:=hA.frame (rT 26 (rF 8 (rT 28 ([])))) _ rfl zM;clear aa hA;obtain⟨f,hf⟩:=zDt bb;have vO:f 33= .slice (some ⟨Hb,0,none⟩) 1 1:=by rw[<-hf,<-h33];rfl
     have nh:f 27= .slice va acc.length vc:=by rw[<-hf,<-h27];rfl
     rw[hf]at az;clear hf h33 h27;subst az;simp only[rT,rF,a1j,vO,nh,Nat.reduceAdd];clear vO nh;simp only[zU];have i7:=a0c hR.out.1 au.bel;have OG:=au.bel.size;refine El.pushAt a6d c6y qM _ _ qM qM i7 x qM AS xM xM ?_;intro v9 w9 bG aU kJ;have yN:(acc++[x]).length<=2000:=by rw[List.length_append];simp;omega
     obtain⟨im,oz⟩:=zE (acc++[x]);rw[oz]at bG yN dt;clear oz;have eF:=(kR.below au.bel kR.lt).kept aU (a0y i7 (kR.below au.bel kR.lt) jM);have C3:=(kB.below au.bel kB.lt).kept aU (a0y i7 (kB.below au.bel kB.lt) jM);have C5:=(kO.below au.bel kO.lt).kept aU (a0y i7 (kO.below au.bel kO.lt) jM);obtain⟨a9,c9,rfl,-⟩:=(a0g a6d bG xM).form;have r9:w9.cell? ⟨BR,2,none⟩=some (.slice va acc.length vc):=eF.cell 2;have z9:=eF.frozen 2;have aB:=a0d w9 BR 2 (.slice a9 im.length c9);have ja:=eF.set 2 (.slice a9 im.length c9);have bS:Below BM w (w9.setCell ⟨BR,2,none⟩ (.slice a9 im.length c9)):=((hR.out.2.1.trans (au.bel.mono xM)).trans (a0f aU xM (λr e=>(a6t i7 e).1))).trans (a0f aB (by have:=aU.size;omega) (λr e=>by cases e;omega));have aF:=Lib.hid (And.intro (a0i bG aB eF jM) (And.intro bS (show BR<(w9.setCell ⟨BR,2,none⟩ (.slice a9 im.length c9)).heap.size by have h1:=aU.size;have h2:=aB.size;omega)));exact ydf
  ·obtain rfl:k=Y.length:=xM
   have aT:¬(Y.length:Int)<(Y.length:Int):=xM;rw[List.take_length]at hR kR r2;obtain⟨a2,pJ⟩:=zE va;obtain⟨d2,bM⟩:=zE vc;rw[pJ,bM]at hR kR;have ai:=hR;clear hR pJ bM r2;go_wp2_with fail;go_loopw [7] (λkk wr=>∃(k:Nat) (va:Option Addr) (vc:Nat),k<=P.length/\kk= .int .i64 (k:Nat)/\Hid (wr.ownsRow BM 48 7 (.slice va ((P.take k).filter λx=>decide (x.id≠id)).length vc) ((P.take k).filter λx=>decide (x.id≠id)).length (((P.take k).filter λx=>decide (x.id≠id)).flatMap plE.enc)/\wr.ownsRow BM 46 8 (.slice a2 (Y.filter λx=>decide (x.id≠id)).length d2) (Y.filter λx=>decide (x.id≠id)).length ((Y.filter λx=>decide (x.id≠id)).flatMap wqE.enc)/\Below BM w wr/\BR<wr.heap.size)/\Blk wr BM #[.slice x0 E.length c0,.slice x1 Fa.length c1,.slice x2 Y.length c2,.slice x3 P.length c3] 32/\Blk wr BO #[.slice none 0 0,.slice none 0 0,.slice none 0 0,.slice none 0 0] 32/\Blk wr BR #[.slice x0 E.length c0,.slice x1 Fa.length c1,.slice a2 (Y.filter λx=>decide (x.id≠id)).length d2,.slice va ((P.take k).filter λx=>decide (x.id≠id)).length vc] 32) (λkk _=>P.length+1-(intOf kk).toNat)
   case atStart=>exact⟨0,none,0,Nat.zero_le _,rfl,Lib.hid ⟨⟨rfl,.inl ⟨rfl,rfl⟩⟩,ai.out.1,ai.out.2.1,ai.out.2.2⟩,kB,kO,kR⟩
   case round =>
    clear ai kB kO kR;obtain⟨k,va,vc,hk,rfl,hR,kB,kO,kR⟩:=hrel;obtain⟨m3,r3⟩:wr.cell? ⟨BM,3,none⟩=some (.slice x3 P.length c3)/\wr.cell? ⟨BR,3,none⟩=some (.slice va ((P.take k).filter λx=>decide (x.id≠id)).length vc):=⟨kB.cell 3,kR.cell 3⟩;by_cases ab:k<P.length
    ·have aj:(k:Int)<(P.length:Int):=xM
     obtain⟨g,go,dd,e,-,gO,hc⟩:=lA.p.some_ xM;simp only[Value.slice.injEq,true_and]at e;obtain⟨rfl,-⟩:=e;have hX:AtC plE wr g (go+k*7) P[k]:=AtC.below (E:=plE) (o:=go+k*7) (hc k ab) hR.out.2.2.1 xM;have dt:=c5c (λx:Pc=>x.id) id P k ab;obtain⟨x,hx⟩:=zE (P[k]);rw[hx]at hX dt;have i0:wr.cell? ⟨g,go+k*7,none⟩=some (.int .i64 x.id):=hX 0 jM;clear hc hx;by_cases hid:x.id=id
     ·exact yee
     ·rw[if_neg hid]at dt
      have an:(x.id != id)=true:=by simpa using hid
      go_upto_region 13 with fail;obtain⟨acc,ks⟩:=zE (((P.take k).filter λx=>decide (x.id≠id)));have OF:acc.length<=1000:=by rw[<-ks];exact Nat.le_trans (List.length_filter_le _ _) (by rw[List.length_take];omega)
      rw[ks]at hR kR r3 dt;have dX:=hR.out.2.2.1.size;have Gv:=hR.out.2.2.2;have zZ:WoR plE BM BR 3 g go k P.length c3 (.slice va acc.length vc) (λ_=>True) wr x wr:=⟨m3,r3,hX,xM,xM,xM,zR _ _⟩;refine Go.wp_region_rel 8 zM zM (λ_ W=>WoR plE BM BR 3 g go k P.length c3 (.slice va acc.length vc) (λ_=>True) wr x W) (λw w'=>Below w.heap.size w w') (FWp BM BR g go k P.length c3 va acc.length vc x) (λ_ _ _ _ h g=>h.kept g) (zZ.up (zR _ _).drew) ?step ?tail
      case step =>
       obtain⟨ny,sk⟩:=zE P.length;obtain⟨on,Aa⟩:=zE acc.length;obtain⟨oa,qG⟩:=zE va;obtain⟨oc,kV⟩:=zE vc;obtain⟨dc,jH⟩:=zE c3;rw[sk]at aj ab ⊢;rw[Aa,qG,kV,jH];clear sk Aa qG kV jH hR kB kO kR lA hX dt ks zZ m3 r3 i0 an;intro i o hi ho c bb W hc hM hA hD K hK;match i,hi,ho with
       |0,_,ho =>
        cases ho;have f5:=a0a (v:= .pointer (some ⟨BR,0,none⟩)) (hA.at_ (k:=5) zM);go_simp;exact hK (.pointer (some ⟨BR,3,none⟩)) W rfl (zR _ _) hM
       |1,_,ho =>
        cases ho;have f51:=a0a (v:= .pointer (some ⟨BR,3,none⟩)) (a0b hD 0 51 zM rfl rfl);have z0:W.cell? ⟨BR,3,none⟩=some (.slice oa on oc):=hM.r;go_simp;exact hK (.slice oa on oc) W rfl (zR _ _) hM
       |2,_,ho =>
        exact yfr
       |3,_,ho =>
        cases ho;have f53:=a0a (v:= .pointer (some ⟨BM,3,none⟩)) (a0b hD 2 53 zM rfl rfl);have z0:W.cell? ⟨BM,3,none⟩=some (.slice (some ⟨g,go,none⟩) ny dc):=hM.m;exact ykc
       |4,_,ho =>
        cases ho;have f7:=a0a (v:= .int .i64 (k:Nat)) (hA.at_ (k:=7) zM);exact yav
       |5,_,ho =>
        cases ho;have f54:=a0a (v:= .slice (some ⟨g,go,none⟩) ny dc) (a0b hD 3 54 zM rfl rfl);have f55:=a0a (v:= .int .i64 (k:Nat)) (a0b hD 4 55 zM rfl rfl);go_simp;exact hK (.pointer (some ⟨g,go+k*7,none⟩)) W rfl (zR _ _) hM
       |6,_,ho =>
        cases ho;have f56:=a0a (v:= .pointer (some ⟨g,go+k*7,none⟩)) (a0b hD 5 56 zM rfl rfl);have z0:W.cell? ⟨g,go+k*7,none⟩=some (.int .i64 x.id):=hM.at_ 0 jM;have z1:W.cell? ⟨g,go+k*7+1,none⟩=some (.int .i64 x.x):=hM.at_ 1 jM;have z2:W.cell? ⟨g,go+k*7+2,none⟩=some (.int .i64 x.y):=hM.at_ 2 jM;have z3:W.cell? ⟨g,go+k*7+3,none⟩=some (.string x.cls):=hM.at_ 3 jM;have z4:W.cell? ⟨g,go+k*7+4,none⟩=some (.string x.nm):=hM.at_ 4 jM;have z5:W.cell? ⟨g,go+k*7+5,none⟩=some (.int .i64 x.wt):=hM.at_ 5 jM;have z6:W.cell? ⟨g,go+k*7+6,none⟩=some (.int .i64 x.ds):=hM.at_ 6 jM;go_simp;exact hK (.agg #[.int .i64 x.id,.int .i64 x.x,.int .i64 x.y,.string x.cls,.string x.nm,.int .i64 x.wt,.int .i64 x.ds]) W rfl (zR _ _) hM
       |7,_,ho =>
        cases ho;have f57:=a0a (v:= .agg #[.int .i64 x.id,.int .i64 x.x,.int .i64 x.y,.string x.cls,.string x.nm,.int .i64 x.wt,.int .i64 x.ds]) (a0b hD 6 57 zM rfl rfl);go_simp;have hb:Below W.heap.size W (W.alloc (.cells #[.int .i64 x.id,.int .i64 x.x,.int .i64 x.y,.string x.cls,.string x.nm,.int .i64 x.wt,.int .i64 x.ds] 48)):=(zR _ _).alloc (yR _) _;exact yde
       |i+8,hi,_=>exact absurd hi xM
      case tail =>
       intro bb W' au hA aa;obtain⟨Hb,h33,AS⟩:=(show ∃Hb,bb.eval (.tmp 58)= .slice (some ⟨Hb,0,none⟩) 1 1/\Blk W' Hb (plE.enc x).toArray 48 from aa 7 xM _ _ rfl rfl);have h27:=(show bb.eval (.tmp 52)= .slice va acc.length vc from aa 1 xM _ _ rfl rfl);have az:=hA.frame (rT 51 (rF 8 (rT 3 ([])))) _ rfl zM;clear aa hA;obtain⟨f,hf⟩:=zDt bb;have vO:f 58= .slice (some ⟨Hb,0,none⟩) 1 1:=by rw[<-hf,<-h33];rfl
       have nh:f 52= .slice va acc.length vc:=by rw[<-hf,<-h27];rfl
       rw[hf]at az;clear hf h33 h27;subst az;simp only[rT,rF,a1j,vO,nh,Nat.reduceAdd];clear vO nh;simp only[zU];have i7:=a0c hR.out.1 au.bel;have OG:=au.bel.size;refine El.pushAt a2n b9t qM _ _ qM qM i7 x qM AS xM xM ?_;intro v9 w9 bG aU kJ;have yN:(acc++[x]).length<=2000:=by rw[List.length_append];simp;omega
       obtain⟨im,oz⟩:=zE (acc++[x]);rw[oz]at bG yN dt;clear oz;have eF:=(kR.below au.bel kR.lt).kept aU (a0y i7 (kR.below au.bel kR.lt) jM);have C3:=(kB.below au.bel kB.lt).kept aU (a0y i7 (kB.below au.bel kB.lt) jM);have C5:=(kO.below au.bel kO.lt).kept aU (a0y i7 (kO.below au.bel kO.lt) jM);obtain⟨a9,c9,rfl,-⟩:=(a0g a2n bG xM).form;have r9:w9.cell? ⟨BR,3,none⟩=some (.slice va acc.length vc):=eF.cell 3;have z9:=eF.frozen 3;have aB:=a0d w9 BR 3 (.slice a9 im.length c9);have ja:=eF.set 3 (.slice a9 im.length c9);have bS:Below BM w (w9.setCell ⟨BR,3,none⟩ (.slice a9 im.length c9)):=((hR.out.2.2.1.trans (au.bel.mono xM)).trans (a0f aU xM (λr e=>(a6t i7 e).1))).trans (a0f aB (by have:=aU.size;omega) (λr e=>by cases e;omega));have aF:=Lib.hid (And.intro (a0i bG aB eF jM) (And.intro (a0i ((a0c hR.out.2.1 au.bel).kept aU (a2d (a0c hR.out.2.1 au.bel) i7 jM)) aB eF jM) (And.intro bS (show BR<(w9.setCell ⟨BR,3,none⟩ (.slice a9 im.length c9)).heap.size by have h1:=aU.size;have h2:=aB.size;omega))));exact ydf
    ·obtain rfl:k=P.length:=xM
     have aT:¬(P.length:Int)<(P.length:Int):=xM;rw[List.take_length]at hR kR r3;obtain⟨Y2,fW⟩:=zE ((Y.filter λx=>decide (x.id≠id)));obtain⟨P2,dN⟩:=zE ((P.filter λx=>decide (x.id≠id)));rw[fW,dN]at hR kR;replace fW:Hid ((Y.filter λx=> !decide (x.id=id))=Y2):=Lib.hid (by rw[<-fW];congr 1;funext x;simp);replace dN:Hid ((P.filter λx=> !decide (x.id=id))=P2):=Lib.hid (by rw[<-dN];congr 1;funext x;simp);clear r3;obtain⟨e0,e1,e2,e3⟩:=zN4 kR;obtain⟨g0,g1,g2,g3⟩:=zN4 kO;have z0:=kO.frozen 0;have z1:=kO.frozen 1;have z2:=kO.frozen 2;have z3:=kO.frozen 3;obtain⟨kF,-,gF,zF⟩:=a4b wr BO _ _ _ _ (.slice x0 E.length c0) (.slice x1 Fa.length c1) (.slice a2 Y2.length d2) (.slice va P2.length vc) kO;have F1:=hR.out.2.2.1.size;have bW:=hR.out.2.2.2;have aF:=Lib.hid (And.intro (a0i hR.out.2.1 gF kO jM) (And.intro (a0i hR.out.1 gF kO jM) (hR.out.2.2.1.trans (a0f gF xM (λr e=>by cases e;omega)))));clear hR kB kO gF lA kR;go_wp2_with fail;exact bodyPost_ret (results_cell_row qM _ _ _ 32 _ (0,0) _ qM kF underlying32 qM zM) rfl ⟨a2,d2,va,vc,by rw[fW.out,dN.out],by rw[fW.out];exact aF.out.1,by rw[dN.out];exact aF.out.2.1,aF.out.2.2⟩
theorem MapV.ofRows {w W:Wd}{ev fv wv pv:Vu}{E:List Eg}{Fa:List Fc}{Y:List Wq}{P:List Pc}{n:Nat}{a0 a1 a2 a3:Option Addr}{d0 d1 d2 d3:Nat}(h:MapV w.heap.size w ev fv wv pv E Fa Y P)(hb:Below w.heap.size w W)
 (h0:W.ownsRow n 71 4 (.slice a0 E.length d0) E.length (E.flatMap egE.enc)) (h1:W.ownsRow n 43 5 (.slice a1 Fa.length d1) Fa.length (Fa.flatMap fcE.enc)) (h2:W.ownsRow n 46 8 (.slice a2 Y.length d2) Y.length (Y.flatMap wqE.enc)) (h3:W.ownsRow n 48 7 (.slice a3 P.length d3) P.length (P.flatMap plE.enc)) :
 MapV W.heap.size W (.slice a0 E.length d0) (.slice a1 Fa.length d1) (.slice a2 Y.length d2) (.slice a3 P.length d3) E Fa Y P :=
 { h with
   e:=a0g a9b h0 (by have:=h.ne;omega),ef:=a0o h0
   el:=λx hx=>((h.el x hx).below hb).mono hb.size
   f:=a0g a9t h1 (by have:=h.nf;omega),ff:=a0o h1
   w:=a0g a6d h2 (by have:=h.nw;omega),wf:=a0o h2
   wl:=λx hx=>((h.wl x hx).below hb).mono hb.size
   p:=a0g a2n h3 (by have:=h.np;omega),pf:=a0o h3 }
def c6q (E:List Eg)(Fa:List Fc)(Y:List Wq)(P:List Pc)(x:Et)(w:Wd)(e:Ending)(w':Wd):Prop :=
 Below w.heap.size w w'/\∃a0 d0 a1 d1 a2 d2 a3 d3 E' F' Y' P',e= .returned (.agg #[.slice a0 E'.length d0,.slice a1 F'.length d1,.slice a2 Y'.length d2,.slice a3 P'.length d3])/\MapV w'.heap.size w' (.slice a0 E'.length d0) (.slice a1 F'.length d1) (.slice a2 Y'.length d2) (.slice a3 P'.length d3) E' F' Y' P' /\
  a1d E' F' Y' P'=a2b (a1d E Fa Y P) x.key
theorem c2b (x0 x1 x2 x3:Option Addr)(c0 c1 c2 c3:Nat)(E:List Eg)(Fa:List Fc)(Y:List Wq)(P:List Pc)(x:Et)(hk:x.kind=4)(w:Wd)(hV:MapV w.heap.size w (.slice x0 E.length c0) (.slice x1 Fa.length c1) (.slice x2 Y.length c2) (.slice x3 P.length c3) E Fa Y P) :
 Calls prog 7 #[.agg #[.slice x0 E.length c0,.slice x1 Fa.length c1,.slice x2 Y.length c2,.slice x3 P.length c3],etV x] w (c6q E Fa Y P x w):=by
 have hP:=λX (hb:Below w.heap.size w X)=>a6b x0 x1 x2 x3 c0 c1 c2 c3 E Fa Y P X (hV.at_ hb)
 unfold a1s at hP;have k0:=((Blk.new w #[.slice x0 E.length c0,.slice x1 Fa.length c1,.slice x2 Y.length c2,.slice x3 P.length c3] 32).alloc (.cells (etA x) 50)).alloc (.cells #[.slice none 0 0,.slice none 0 0,.slice none 0 0,.slice none 0 0] 32);have k1:=(Blk.new (w.alloc (.cells #[.slice x0 E.length c0,.slice x1 Fa.length c1,.slice x2 Y.length c2,.slice x3 P.length c3] 32)) (etA x) 50).alloc (.cells #[.slice none 0 0,.slice none 0 0,.slice none 0 0,.slice none 0 0] 32);have k2:=Blk.new ((w.alloc (.cells #[.slice x0 E.length c0,.slice x1 Fa.length c1,.slice x2 Y.length c2,.slice x3 P.length c3] 32)).alloc (.cells (etA x) 50)) #[.slice none 0 0,.slice none 0 0,.slice none 0 0,.slice none 0 0] 32;simp only[World.size_alloc]at k1 k2;have ah:Below w.heap.size w (((w.alloc (.cells #[.slice x0 E.length c0,.slice x1 Fa.length c1,.slice x2 Y.length c2,.slice x3 P.length c3] 32)).alloc (.cells (etA x) 50)).alloc (.cells #[.slice none 0 0,.slice none 0 0,.slice none 0 0,.slice none 0 0] 32)):=by exact zC
 go_enter func7,ntmps7;go_upto_region 1 with fail;obtain⟨W1,ao⟩:=zE (((w.alloc (.cells #[.slice x0 E.length c0,.slice x1 Fa.length c1,.slice x2 Y.length c2,.slice x3 P.length c3] 32)).alloc (.cells (etA x) 50)).alloc (.cells #[.slice none 0 0,.slice none 0 0,.slice none 0 0,.slice none 0 0] 32));have aH:W1.heap.size=w.heap.size+1+1+1:=by rw[<-ao];simp
 rw[ao]at k0 k1 k2 ah ⊢;clear ao;obtain⟨BM,bu⟩:=zE w.heap.size;obtain⟨BX,oC⟩:=zE (BM+1);obtain⟨BO,dW⟩:=zE (BX+1);rw[bu]at aH k0 k1 k2 ⊢;rw[oC]at aH k1 k2 ⊢;rw[dW]at aH k2 ⊢;have eC:=hP W1 ah;obtain⟨xv,aO⟩:=zE (etV x);rw[aO];obtain⟨m0,m1,m2,m3⟩:=zN4 k0;clear hP;go_upto_region 2 with(first
  |(go_at_call 20;(with_reducible refine eC.mono ?_);rintro e W2⟨a0,d0,a1,d1,a2,d2,a3,d3,rfl,r0,r1,r2,r3,aq⟩))
 have a8:=ah.trans (aq.mono ah.size);have bn:=aq.size;have b8:=hV.ofRows a8 r0 r1 r2 r3;have bT:Below W2.heap.size W2 (W2.alloc (.cells #[.slice a0 E.length d0,.slice a1 Fa.length d1,.slice a2 Y.length d2,.slice a3 P.length d3] 32)):=(zR _ _).alloc (yR _) _;have gC:=b8.up bT;have eP:=b5v a0 a1 a2 a3 d0 d1 d2 d3 E Fa Y P x.id _ gC;have kX:=(k1.below aq k1.lt).alloc (.cells #[.slice a0 E.length d0,.slice a1 Fa.length d1,.slice a2 Y.length d2,.slice a3 P.length d3] 32);have kO:=(k2.below aq k2.lt).alloc (.cells #[.slice a0 E.length d0,.slice a1 Fa.length d1,.slice a2 Y.length d2,.slice a3 P.length d3] 32);have kR:=Blk.new W2 #[.slice a0 E.length d0,.slice a1 Fa.length d1,.slice a2 Y.length d2,.slice a3 P.length d3] 32;have aK:=a8.trans (bT.mono a8.size);obtain⟨W3,iq⟩:=zE (W2.alloc (.cells #[.slice a0 E.length d0,.slice a1 Fa.length d1,.slice a2 Y.length d2,.slice a3 P.length d3] 32));rw[iq]at eP kX kO kR aK gC ⊢;have gm:W3.heap.size=W2.heap.size+1:=by rw[<-iq];simp
 clear iq r0 r1 r2 r3 k0 k1 k2 ah eC m0 m1 m2 m3 bT b8;obtain⟨e0,e1⟩:W3.cell? ⟨BX,0,none⟩=some (.int .i64 4)/\W3.cell? ⟨BX,1,none⟩=some (.int .i64 x.id):=⟨by rw[<-hk];exact kX.cell 0,kX.cell 1⟩;obtain⟨BR,fC⟩:=zE W2.heap.size;rw[fC]at kR gm ⊢;obtain⟨n0,n1,n2,n3⟩:=zN4 kR;obtain⟨Y2,fW⟩:=zE ((Y.filter λy=>decide (y.id≠x.id)));obtain⟨P2,dN⟩:=zE ((P.filter λy=>decide (y.id≠x.id)));rw[fW,dN]at eP;have Ck:Y2.length<=1000:=by rw[<-fW];exact Nat.le_trans (List.length_filter_le _ _) hV.nw
 have bY:P2.length<=1000:=by rw[<-dN];exact Nat.le_trans (List.length_filter_le _ _) hV.np
 have JG:∀y∈Y2,y∈Y:=λy hy=>by rw[<-fW]at hy;exact(List.mem_filter.1 hy).1
 have mr:∀y∈P2,y∈P:=λy hy=>by rw[<-dN]at hy;exact(List.mem_filter.1 hy).1
 have aV:a1d E Fa Y2 P2=a2b (a1d E Fa Y P) x.key:=by
  unfold a2b a1d;rw[if_pos (show x.key.kind=4 from hk),<-fW,<-dN,List.filter_map];rfl
 replace aV:=Lib.hid aV;clear fW dN;go_wp2_with (first
  |(go_at_call 21;(with_reducible refine eP.mono ?_);rintro e W4⟨b2,g2,b3,g3,rfl,s2,s3,bh⟩
    have mI:=kO.below bh kO.lt;obtain⟨q0,q1,q2,q3⟩:=zN4 mI;have z0:=mI.frozen 0;have z1:=mI.frozen 1;have z2:=mI.frozen 2;have z3:=mI.frozen 3))
 obtain⟨kF,oF,gF,zF⟩:=a4b W4 BO _ _ _ _ (.slice a0 E.length d0) (.slice a1 Fa.length d1) (.slice b2 Y2.length g2) (.slice b3 P2.length g3) mI;have rM:=gC.up bh;have er:MapV W4.heap.size W4 (.slice a0 E.length d0) (.slice a1 Fa.length d1) (.slice b2 Y2.length g2) (.slice b3 P2.length g3) E Fa Y2 P2 :=
  { rM with
    w:=a0g a6d s2 xM,wf:=a0o s2,wl:=λy hy=>rM.wl y (JG y hy),nw:=Ck,wi:=λy hy=>rM.wi y (JG y hy)
    p:=a0g a2n s3 xM,pf:=a0o s3,np:=bY,pi:=λy hy=>rM.pi y (mr y hy) }
 have oy:=bh.size;have cD:=(er.off (Bs:=λk=>k=BO) (λB h=>h▸a1w mI) (λk hk=>oF k hk)).mono (Nat.le_of_eq zF.symm);refine bodyPost_ret (results_cell_row qM _ _ _ 32 _ (0,0) _ qM kF underlying32 qM zM) rfl ⟨?_,a0,d0,a1,d1,b2,g2,b3,g3,E,Fa,Y2,P2,rfl,cD,aV.out⟩;exact(aK.trans (bh.mono aK.size)).trans (a0f gF xM (λr e=>by cases e;omega))
end
end Go.Proofs.YteijfnkidefekaaGreat
