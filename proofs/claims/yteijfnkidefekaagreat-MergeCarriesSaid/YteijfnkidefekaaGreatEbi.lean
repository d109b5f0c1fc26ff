/-
  Parts.
-/
import Derived.Test.YteijfnkidefekaaGreatEbg
import Derived.Test.YteijfnkidefekaaGreatEbh
set_option linter.unusedVariables false
set_option linter.unusedSimpArgs false
set_option linter.unusedSectionVars false
set_option maxHeartbeats 8000000
set_option maxRecDepth 100000
namespace Go.Proofs.YteijfnkidefekaaGreat
open Tryz
section
open Go Go.RowKit Go.Shelf Go.Lib Go.Maps
variable{n0:Nat}{W w:Wd}
theorem b7k (k:Int)(a b c d:Option Addr)(X:Wd):(Instr.field 124 (.agg #[.int .i64 k,.pointer a,.pointer b,.pointer c,.pointer d]) 0).run prog X= .ok (.int .i64 k) X:=by
 have u:=underlying124;have u3:=underlying3;have a3:=isAgg3;have z3:=sizeOf3;unfold Instr.field;simp[go_sem,run_underlying u,asAgg]
theorem c6e {W1:Wd}{base:Nat}{v:Vu}{L:List Int}(h:W1.ownsRow base 3 1 v L.length (L.map (Value.int .i64)))(hl:L.length<=1000000):
 ∃a c,v= .slice a L.length c/\∀k (hk:k<L.length),∃g o,a=some ⟨g,o,none⟩/\base<=g/\W1.cell? ⟨g,o+k,none⟩=some (.int .i64 L[k]):=by
 rw[a8u]at h;have hl:=a0g nOk h hl;obtain⟨a,c,rfl,-⟩:=hl.form;refine⟨a,c,rfl,λk hk=> ?_⟩;obtain⟨g,o,cc,e,-,gO,hc⟩:=hl.some_ xM;simp only[Value.slice.injEq,true_and]at e;obtain⟨rfl,-⟩:=e;exact⟨g,o,rfl,(a6t h (g:=g) rfl).1,by have:=hc k hk 0 jM;simpa using this⟩
theorem Ln.other {n m:Nat}{W':Wd}{a:Option Addr}{k c:Nat}{l:List a3v}(h:Ln n W (.slice a k c) l)(hs:∀q,a=some q->q.block<m/\W'.heap[q.block]? =W.heap[q.block]?):Ln m W' (.slice a k c) l:=by
 obtain⟨⟨a',cap,e,c1,c2,c3⟩,h2,h3⟩:=h;refine⟨⟨a',cap,e,c1,c2,λj hj=> ?_⟩,h2,h3⟩;obtain⟨b,off,rfl,hb,hc⟩:=c3 j hj;simp only[Value.slice.injEq]at e;obtain⟨h4,h5⟩:=hs _ e.1;exact⟨b,off,rfl,h4,λi hi=>(a1r h5).trans (hc i hi)⟩
theorem KxE.zero {Bo:Nat}{pre:List Et}{x:Et}(hb:Bo<W.heap.size)(hw:x.w=wqZ)(hp:a0l x.p.id):KxE Bo pre x W:=by
 obtain⟨a,b,c,d,e,f,w,p⟩:=x;simp only at hw hp;subst hw;exact⟨hb,⟨Lst.nil _ _ _,.inl rfl,by simp[wqZ]⟩,λa ha=>(by cases ha),(by show a0l 0;decide),hp⟩
theorem OldW.below {en:List (Int×Tg)}{Y:List Wq}{x:Wq}(h:OldW en n0 w Y x)(hb:Below n0 w W):OldW en n0 W Y x :=
 h.imp id λ⟨y,b,o,e,hc,hl,hn,hk⟩=>⟨y,b,o,e,hc.below hb hl,hl,hn.below hb,hk⟩
theorem OldP.below {en:List (Int×Tg)}{P:List Pc}{x:Pc}(h:OldP en n0 w P x)(hb:Below n0 w W):OldP en n0 W P x :=
 h.imp id λ⟨y,b,o,e,hc,hl,hk⟩=>⟨y,b,o,e,hc.below hb hl,hl,hk⟩
theorem c4h (n:Nat)(hn:1<=n)(Bo n0 B1 B2 B3 B4 mo mn k1 k2:Nat)(en iN:List (Int×Tg))(x0 x1 x2 x3 y0 y1 y2 y3:Option Addr)(c0 c1 c2 c3 d0 d1 d2 d3:Nat)(E E2:List Eg)(Fa F2:List Fc)(Y Y2:List Wq)(P P2:List Pc)(w:Wd)
 (jI:w.cell? ⟨Bo,0,none⟩=some (.slice none 0 0)) (g1:w.cell? ⟨B1,0,none⟩=some (.map (some mo))) (g2:w.cell? ⟨B2,0,none⟩=some (.map (some mn)))
 (g3:w.cell? ⟨B3,0,none⟩=some (.slice y0 E2.length d0)/\w.cell? ⟨B3,1,none⟩=some (.slice y1 F2.length d1)/\w.cell? ⟨B3,2,none⟩=some (.slice y2 Y2.length d2)/\w.cell? ⟨B3,3,none⟩=some (.slice y3 P2.length d3))
 (g4:w.cell? ⟨B4,0,none⟩=some (.slice x0 E.length c0)/\w.cell? ⟨B4,1,none⟩=some (.slice x1 Fa.length c1)/\w.cell? ⟨B4,2,none⟩=some (.slice x2 Y.length c2)/\w.cell? ⟨B4,3,none⟩=some (.slice x3 P.length c3))
 (an:B1≠Bo/\B2≠Bo/\B3≠Bo/\B4≠Bo/\mo≠Bo/\mn≠Bo) (ko:MapH prog inKy tgV w mo k1 en) (mE:MapH prog inKy tgV w mn k2 iN) (qv:en.length<=5000)
 (qs:MapV n0 w (.slice x0 E.length c0) (.slice x1 Fa.length c1) (.slice x2 Y.length c2) (.slice x3 P.length c3) E Fa Y P) (qt:MapV n0 w (.slice y0 E2.length d0) (.slice y1 F2.length d1) (.slice y2 Y2.length d2) (.slice y3 P2.length d3) E2 F2 Y2 P2) (bX:n0<=w.heap.size) (rJ:n0<=Bo)
 (F3:(E2.map λx:Eg=>x.line.length).sum<=80000) (hE:E.length=E2.length) (hF:Fa.length=F2.length) (F4:∀k (h1:k<E.length) (h2:k<E2.length),E[k].line.length=E2[k].line.length)
 (NR:∀k (h1:k<F2.length) (h2:k<Fa.length),F2[k]∉Fa↔F2[k]≠Fa[k]) (Jj:∀x∈Y2,OldW en n0 w Y x) (Bd:∀x∈P2,OldP en n0 w P x) :
 c8u Fence.wide n prog 50 #[.pointer (some ⟨B1,0,none⟩),.pointer (some ⟨B2,0,none⟩),.pointer (some ⟨B3,0,none⟩),.pointer (some ⟨B4,0,none⟩)] (λx=> #[etV x]) (a3u Bo) n0 (KxE Bo) (λxs=>xs.map Et.key=a2m (c6p en iN) (a1d E Fa Y P) (a1d E2 F2 Y2 P2)/\xs.length<=100000) 100000 w:=by
 intro ly J Jp W hB hJ wz zv hY h0;obtain⟨m1,m2,m3,m4,m5,m6⟩:=an;have b0:=World.block_lt_of_cell? _ _ jI;have b1:=World.block_lt_of_cell? _ _ g1;have b2:=World.block_lt_of_cell? _ _ g2;have Jk:=hB.size;have dL:W.cell? ⟨B1,0,none⟩=some (.map (some mo)):=(hB.cell b1).trans g1;have bB:=ko.lt;have dQ:=mE.lt;obtain⟨L,hL⟩:=zE (sortI (en.map (·.1)));have xI:L.length=en.length:=by rw[<-hL,(a1g _).length_eq,List.length_map]
 have NS:∀i∈L,a0l i:=λi hi=>by
  rw[<-hL,(a1g _).mem_iff]at hi;obtain⟨q,hq,rfl⟩:=List.mem_map.1 hi;exact ko.ok q hq
 have jR:=λ(b:Wd) (hb:Below w.heap.size w b) (B:Nat) (hc:b.cell? ⟨B,0,none⟩=some (.map (some mo)))=>b5d B mo k1 en b hc (ko.below hb bB) xM
 rw[hL]at jR;refine callsIn_wide.2 ?_;go_enter func50,ntmps50;go_upto_block 0 with(first
  |(go_at_call 52;refine(c1q _ _).mono ?_;rintro e W0⟨rfl,rfl⟩)
  |(go_at_call 51;refine(jR _ (hB.alloc Jk _) _ (Blk.new W _ _ |>.cell 0)).mono ?_;rintro e W1⟨v,rfl,aN,ah⟩;rw[World.size_alloc]at aN ah;obtain⟨va,vc,rfl,iY⟩:=c6e (by rw[xI];exact aN) xM))
 have gI:Below W.heap.size W W1:=((zR _ _).alloc (yR _) _).trans (ah.mono xM);have al:Below w.heap.size w W1:=hB.trans (gI.mono Jk);clear ah jR dL;have Jl:J [] W1:=hJ [] W W1 none h0 (a1i none gI) vM;have F5:W1.cell? ⟨Bo,0,none⟩=some (.slice none 0 0):=(al.cell b0).trans jI;have yu:=ICd.start n0 F5;have aH:=gI.size;have q1:W1.cell? ⟨B1,0,none⟩=some (.map (some mo)):=(al.cell b1).trans g1;have q2:W1.cell? ⟨B2,0,none⟩=some (.map (some mn)):=(al.cell b2).trans g2;have zy:=ko.below al bB;have NT:=mE.below al dQ;have F6:=qs.below (al.mono bX);have mK:=qt.below (al.mono bX);have cb:∀ {B i:Nat} {v:Vu},w.cell? ⟨B,i,none⟩=some v->W1.cell? ⟨B,i,none⟩=some v:=λh=>(al.cell (World.block_lt_of_cell? _ _ h)).trans h
 obtain⟨NU,NV,NW,NX⟩:W1.cell? ⟨B3,0,none⟩=some (.slice y0 E2.length d0)/\W1.cell? ⟨B3,1,none⟩=some (.slice y1 F2.length d1)/\W1.cell? ⟨B3,2,none⟩=some (.slice y2 Y2.length d2)/\W1.cell? ⟨B3,3,none⟩=some (.slice y3 P2.length d3):=⟨cb g3.1,cb g3.2.1,cb g3.2.2.1,cb g3.2.2.2⟩;obtain⟨NY,NZ,QS,QT⟩:W1.cell? ⟨B4,0,none⟩=some (.slice x0 E.length c0)/\W1.cell? ⟨B4,1,none⟩=some (.slice x1 Fa.length c1)/\W1.cell? ⟨B4,2,none⟩=some (.slice x2 Y.length c2)/\W1.cell? ⟨B4,3,none⟩=some (.slice x3 P.length c3):=⟨cb g4.1,cb g4.2.1,cb g4.2.2.1,cb g4.2.2.2⟩;have N0:∀x∈Y2,OldW en n0 W1 Y x:=λx hx=>(Jj x hx).below (al.mono bX)
 have N1:∀x∈P2,OldP en n0 W1 P x:=λx hx=>(Bd x hx).below (al.mono bX)
 have N2:=al.size;have gw:=mK.ne;have sJ:=mK.nf;have N3:=mK.nw;have vS:=mK.np;clear aN gI h0 hB zv qs qt Jj Bd g1 g2 g3 g4 ko mE jI cb;go_wp2_with fail;go_loopw [23] (λkk wr=>∃(k:Nat) (pre:List Et),k<=L.length/\kk= .int .i64 (k:Nat)/\pre.map Et.key=((L.take k).filter (c6a en iN)).map a9e/\pre.length<=k/\J pre wr/\ICd Bo n0 W1 wr) (λkk _=>L.length-(intOf kk).toNat)
 case atStart=>exact⟨0,[],Nat.zero_le _,rfl,by simp,yR _,Jl,yu⟩
 case round =>
  clear Jl yu;obtain⟨k,pre,hk,rfl,aD,bY,dI,hI⟩:=hrel;by_cases ab:k<L.length
  ·have aj:(k:Int)<(L.length:Int):=xM
   obtain⟨g,o,rfl,cG,fS⟩:=iY k ab;replace cG:g≠Bo:=xM;have ai:=a7v (c6a en iN) a9e L k ab;have iR:=NS _ (List.getElem_mem ab);obtain⟨i,hi⟩:=zE (L[k]);rw[hi]at fS ai iR;have hc:=hI.cell fS cG;have N4:=hI.cell q1 m1;have N5:=hI.cell q2 m2;have gG:=(hI.mapH zy m5).look inKyL underlying62 (a7i _) iR;have b8:=hI.mapH NT m6;obtain⟨t,ht⟩:=zE ((idG en i).getD tgZ);obtain⟨u,hu⟩:=zE ((idG iN i).getD tgZ);have Jm:c6a en iN i=((t.k==2||t.k==3)&&u.k != t.k):=by unfold c6a a6e;rw[ht,hu]
   rw[Jm]at ai;rw[<-aD]at ai;replace gG:(Instr.lookup 62 (.map (some mo)) (.int .i64 i) false).run prog wr= .ok (a2f t) wr:=ht▸gG;obtain⟨tk,t1,t2,t3,t4⟩:=t;obtain⟨uk,u1,u2,u3,u4⟩:=u;replace ai:=Lib.hid ai;clear Jm ht fS hi;go_upto_region 4 with fail;have kT:=Blk.new wr #[.int .i64 tk,.pointer t1,.pointer t2,.pointer t3,.pointer t4] 124;have bh:Below wr.heap.size wr (wr.alloc (.cells #[.int .i64 tk,.pointer t1,.pointer t2,.pointer t3,.pointer t4] 124)):=(zR _ _).alloc (yR _) _;obtain⟨W4,cU⟩:=zE (wr.alloc (.cells #[.int .i64 tk,.pointer t1,.pointer t2,.pointer t3,.pointer t4] 124));rw[cU]at kT bh ⊢;have dX:=hI.sz;have pD:wr.grownBy W4 none:=a1i none bh;have zH:J pre W4:=hJ pre wr W4 none dI pD vM;have lg:=hI.below bh (λk=>wz pre wr W4 none k dI pD vM) xM;have dC:=(b8.below bh b8.lt).look inKyL underlying62 (a7i _) iR;rw[hu]at dC;replace dC:(Instr.lookup 62 (.map (some mn)) (.int .i64 i) false).run prog W4= .ok (.agg #[.int .i64 uk,.pointer u1,.pointer u2,.pointer u3,.pointer u4]) W4:=dC;have e2:=lg.cell q2 m2;have e0:W4.cell? ⟨wr.heap.size,0,none⟩=some (.int .i64 tk):=kT.cell 0;have Cf:KxE Bo pre (b8t i) W4:=⟨by have:=bh.size;omega,⟨Lst.nil _ _ _,.inl rfl,by simp[b8t,wqZ]⟩,λa ha=>(by cases ha),(by show a0l 0;decide),(by show a0l 0;decide)⟩;have zJ:=hY pre (b8t i) W4 zH Cf xM;clear cU hI dI pD Cf kT bh b8 hu N4 N5 hc gG;obtain⟨fn,tmps,assign,body,hy,pW⟩:=zJ;simp only[etV,etA,b8t,fcZ,wqZ,pcZ]at hy;have tf:=b7k uk u1 u2 u3 u4;obtain⟨Cg,N6⟩:=zE ((tk==2));obtain⟨Ch,N7⟩:=zE ((tk==3));obtain⟨F7,rJ⟩:=zE ((uk != tk));have aP:=ai.out;simp only[N6,N7,rJ]at aP;clear ai;replace aP:=Lib.hid aP;by_cases mS:(Cg||Ch)&&F7
   ·have aR:(Cg||Ch)=true:=by simp_all
    have fp:F7=true:=by simp_all
    subst fp;have aV:(pre++[b8t i]).map Et.key=((L.take (k+1)).filter (c6a en iN)).map a9e:=by
     have:=aP.out;rw[this,aR,List.map_append];rfl
    clear aP
    cases Cg
    ·obtain rfl:Ch=true:=by simpa using aR
     exact ycu
    ·exact ycu
   ·cases Cg <;> cases Ch <;> cases F7 <;> first|(exact absurd rfl mS)|skip
    all_goals clear mS
    all_goals go_wp2_with fail
    all_goals go_roundw
    all_goals first
     |exact⟨k+1,pre,xM,by go_num,by simpa using aP.out.symm,xM,zH,lg⟩
     |(simp[intOf];omega)
  ·obtain rfl:k=L.length:=xM
   have aT:¬(L.length:Int)<(L.length:Int):=xM;rw[List.take_length]at aD;obtain⟨K1,F8⟩:=zE (pre.map Et.key);have Ci:=aD;rw[F8]at Ci aD;replace Ci:=Lib.hid Ci;replace aD:=F8;clear F8 hk;have f1:=hI.cell NV m3;go_wp2_with fail;go_loopw [58] (λkk wr=>∃(k:Nat) (pre:List Et),k<=F2.length/\kk= .int .i64 (k:Nat)/\pre.map Et.key=K1++((F2.take k).filter (λx=>decide (x∉Fa))).map a8l/\pre.length<=L.length+k/\J pre wr/\ICd Bo n0 W1 wr) (λkk _=>F2.length-(intOf kk).toNat)
   case atStart=>exact yik
   case round =>
    clear aD bY dI hI;obtain⟨k,pre,hk,rfl,aD,bY,dI,hI⟩:=hrel;by_cases ab:k<F2.length
    ·have aj:(k:Int)<(F2.length:Int):=xM
     have eL:k<Fa.length:=xM;obtain⟨b,o,d,e,-,bS,hc⟩:=mK.f.some_ xM;simp only[Value.slice.injEq,true_and]at e;obtain⟨rfl,-⟩:=e;obtain⟨b',o',d',e',-,ik,cB⟩:=F6.f.some_ xM;simp only[Value.slice.injEq,true_and]at e';obtain⟨rfl,-⟩:=e';have hX:=hI.at_ (E:=fcE) (b:=b) (o:=o+k*5) (hc k ab) xM xM;have hZ:=hI.at_ (E:=fcE) (b:=b') (o:=o'+k*5) (cB k eL) xM xM;have ai:=a7v (λx=>decide (x∉Fa)) a8l F2 k ab;have hd:=NR k ab eL;obtain⟨x,hx⟩:=zE (F2[k]);obtain⟨y,hy⟩:=zE (Fa[k]);rw[hx]at hX ai hd;rw[hy]at hZ hd;clear hc cB hx hy;obtain⟨f0,lz,f2,f3,f4⟩:=x;obtain⟨g0,g1,g2,g3,g4⟩:=y;have a0:wr.cell? ⟨b,o+k*5,none⟩=some (.int .i64 f0):=hX 0 jM;have a1:wr.cell? ⟨b,o+k*5+1,none⟩=some (.string lz):=hX 1 jM;have a2:wr.cell? ⟨b,o+k*5+2,none⟩=some (.string f2):=hX 2 jM;have a3:wr.cell? ⟨b,o+k*5+3,none⟩=some (.int .i64 f3):=hX 3 jM;have a4:wr.cell? ⟨b,o+k*5+4,none⟩=some (.int .i64 f4):=hX 4 jM;have s1:=hI.cell NZ m4;go_upto_region 9 with fail;have kT:=Blk.new wr #[.int .i64 f0,.string lz,.string f2,.int .i64 f3,.int .i64 f4] 43;have bh:Below wr.heap.size wr (wr.alloc (.cells #[.int .i64 f0,.string lz,.string f2,.int .i64 f3,.int .i64 f4] 43)):=(zR _ _).alloc (yR _) _;obtain⟨W4,cU⟩:=zE (wr.alloc (.cells #[.int .i64 f0,.string lz,.string f2,.int .i64 f3,.int .i64 f4] 43));rw[cU]at kT bh ⊢;have dX:=hI.sz;have t0:W4.cell? ⟨wr.heap.size,0,none⟩=some (.int .i64 f0):=kT.cell 0;have t1:W4.cell? ⟨wr.heap.size,1,none⟩=some (.string lz):=kT.cell 1;have t2:W4.cell? ⟨wr.heap.size,2,none⟩=some (.string f2):=kT.cell 2;have t3:W4.cell? ⟨wr.heap.size,3,none⟩=some (.int .i64 f3):=kT.cell 3;have t4:W4.cell? ⟨wr.heap.size,4,none⟩=some (.int .i64 f4):=kT.cell 4;replace hZ:=hZ.below bh xM;have u0:W4.cell? ⟨b',o'+k*5,none⟩=some (.int .i64 g0):=hZ 0 jM;have u1:W4.cell? ⟨b',o'+k*5+1,none⟩=some (.string g1):=hZ 1 jM;have u2:W4.cell? ⟨b',o'+k*5+2,none⟩=some (.string g2):=hZ 2 jM;have u3:W4.cell? ⟨b',o'+k*5+3,none⟩=some (.int .i64 g3):=hZ 3 jM;have u4:W4.cell? ⟨b',o'+k*5+4,none⟩=some (.int .i64 g4):=hZ 4 jM;replace s1:=(bh.cell (World.block_lt_of_cell? _ _ s1)).trans s1;have hG:=run_eqGuard_agg (P:=prog);have aJ:∀p,Below wr.heap.size wr (W4.growBy p):=λp=>a1k bh bh.size p
     have uu:∀p,wr.grownBy (W4.growBy p) none:=λp=>a1i none (aJ p)
     have o5:∀p,J pre (W4.growBy p):=λp=>hJ pre wr _ none dI (uu p) vM
     have o6:∀p,ICd Bo n0 W1 (W4.growBy p):=λp=>hI.below (aJ p) (λk=>wz pre wr _ none k dI (uu p) vM) xM
     clear cU kT bh hX hZ a0 a1 a2 a3 a4 uu hI dI;by_cases iF:(⟨f0,lz,f2,f3,f4⟩:Fc)=⟨g0,g1,g2,g3,g4⟩
     ·have hN:∀W,(binOp .neq 43 (.agg #[.int .i64 f0,.string lz,.string f2,.int .i64 f3,.int .i64 f4]) (.agg #[.int .i64 g0,.string g1,.string g2,.int .i64 g3,.int .i64 g4])).run prog W= .ok (.bool false) W:=λW=>(c3t f0 lz f2 f3 f4 g0 g1 g2 g3 g4 W).trans (by rw[decide_eq_true iF];rfl)
      have eY:¬(⟨f0,lz,f2,f3,f4⟩:Fc)∉Fa:=λh=>(hd.1 h) iF
      rw[if_neg (by simpa using eY),List.append_nil]at ai;rw[<-ai]at aD;replace aD:=Lib.hid aD;clear ai eY iF hd;first|with_reducible refine a0k 11 zM zM ?_|with_reducible refine a0m 11 zM zM ?_
      simp only[zT];repeat(first|go_big_quiet_step (fail)|quiet_step (fail))
      refine wpQuiet_nil ?_;intro _ bI;obtain⟨p,bI⟩:=bI;subst bI;go_wp2_with fail;go_roundw
      case rel=>exact⟨k+1,pre,xM,by go_num,aD.out,xM,o5 p,o6 p⟩
      case measure=>(simp[intOf];omega)
     ·have hN:∀W,(binOp .neq 43 (.agg #[.int .i64 f0,.string lz,.string f2,.int .i64 f3,.int .i64 f4]) (.agg #[.int .i64 g0,.string g1,.string g2,.int .i64 g3,.int .i64 g4])).run prog W= .ok (.bool true) W:=λW=>(c3t f0 lz f2 f3 f4 g0 g1 g2 g3 g4 W).trans (by rw[decide_eq_false iF];rfl)
      rw[if_pos (by simpa using hd.2 iF)]at ai;have aV:(pre++[b7h ⟨f0,lz,f2,f3,f4⟩]).map Et.key=K1++((F2.take (k+1)).filter (λx=>decide (x∉Fa))).map a8l:=by
       exact yid
      replace aV:=Lib.hid aV;clear ai iF hd;refine(wpIn_wide (n:=n)).1 ?_;refine a2r 11 hn zM zM ?_;simp only[zT];repeat(first|go_big_quiet_step (fail)|quiet_step (fail))
      refine wpQuiet_nil ?_;intro _ bI;obtain⟨p,bI⟩:=bI;subst bI;have N8:=(aJ p).size;have zJ:=hY pre (b7h ⟨f0,lz,f2,f3,f4⟩) _ (o5 p) (KxE.zero xM rfl (by show a0l 0;decide)) xM;obtain⟨fn,tmps,assign,body,hy,pW⟩:=zJ;simp only[etV,etA,b7h,fcZ,wqZ,pcZ]at hy;have lg:=o6 p;gi_wp2;refine pW.mono ?_;rintro e W5 (⟨rfl,hJ5,hk5⟩|⟨ch,rfl,hp⟩)
      ·gi_wp2
       go_wp2_with fail;go_roundw
       case rel=>exact⟨k+1,pre++[b7h ⟨f0,lz,f2,f3,f4⟩],xM,by go_num,aV.out,by simp;omega,hJ5,lg.keep hk5⟩
       case measure=>(simp[intOf];omega)
      ·exact yfu
    ·obtain rfl:k=F2.length:=xM
     have aT:¬(F2.length:Int)<(F2.length:Int):=xM;rw[List.take_length]at aD;obtain⟨K2,F9⟩:=zE (pre.map Et.key);have Cj:=aD;rw[F9]at Cj aD;replace Cj:=Lib.hid Cj;replace aD:=F9;clear F9 hk;have f1:=hI.cell NW m3;go_wp2_with fail;go_loopw [81] (λkk wr=>∃(k:Nat) (pre:List Et),k<=Y2.length/\kk= .int .i64 (k:Nat)/\pre.map Et.key=K2++((Y2.take k).filter (λx=>decide (x.key∉Y.map Wq.key))).map (λx=>b2l x.key)/\pre.length<=(L.length+F2.length)+k/\J pre wr/\ICd Bo n0 W1 wr) (λkk _=>Y2.length-(intOf kk).toNat)
     case atStart=>exact yik
     case round =>
      clear aD bY dI hI;obtain⟨k,pre,hk,rfl,aD,bY,dI,hI⟩:=hrel;by_cases ab:k<Y2.length
      ·have aj:(k:Int)<(Y2.length:Int):=xM
       obtain⟨b,o,d,e,-,bS,hc⟩:=mK.w.some_ xM;simp only[Value.slice.injEq,true_and]at e;obtain⟨rfl,-⟩:=e;have hX:=hI.at_ (E:=wqE) (b:=b) (o:=o+k*8) (hc k ab) xM xM;have ai:=a7v (λx:Wq=>decide (x.key∉Y.map Wq.key)) (λx=>b2l x.key) Y2 k ab;have uv:=N0 _ (List.getElem_mem ab);have iR:=mK.wi _ (List.getElem_mem ab);have eZ:=(mK.wl _ (List.getElem_mem ab)).below hI.bel;obtain⟨x,hx⟩:=zE (Y2[k]);rw[hx]at hX ai uv iR eZ;clear hc hx;obtain⟨e0,la,ln,lc,li,e5,e6,e7,e8,e9,bH⟩:=x;simp only at iR eZ;have dX:=hI.sz;have il:=eZ.mono (show n0<=wr.heap.size by omega);have a0:wr.cell? ⟨b,o+k*8,none⟩=some (.int .i64 e0):=hX 0 jM;have a1:wr.cell? ⟨b,o+k*8+1,none⟩=some (.slice la ln lc):=hX 1 jM;have a2:wr.cell? ⟨b,o+k*8+2,none⟩=some (.int .i64 e5):=hX 2 jM;have a3:wr.cell? ⟨b,o+k*8+3,none⟩=some (.string e6):=hX 3 jM;have a4:wr.cell? ⟨b,o+k*8+4,none⟩=some (.string e7):=hX 4 jM;have a5:wr.cell? ⟨b,o+k*8+5,none⟩=some (.bool e8):=hX 5 jM;have a6:wr.cell? ⟨b,o+k*8+6,none⟩=some (.int .i64 e9):=hX 6 jM;have a7:wr.cell? ⟨b,o+k*8+7,none⟩=some (.int .i64 bH):=hX 7 jM;have oq:∀X,Below wr.heap.size wr X->_:=λX hb=>b5t (.slice la ln lc) li X (il.up hb)
       have bE:Below wr.heap.size wr (wr.alloc (.cells #[.int .i64 e0,.slice la ln lc,.int .i64 e5,.string e6,.string e7,.bool e8,.int .i64 e9,.int .i64 bH] 46)):=(zR _ _).alloc (yR _) _;have kW:=Blk.new wr #[.int .i64 e0,.slice la ln lc,.int .i64 e5,.string e6,.string e7,.bool e8,.int .i64 e9,.int .i64 bH] 46;go_upto_region 15 with(first
        |(go_at_call 37;(with_reducible refine(oq _ bE).mono ?_);rintro e W2⟨ca,cc,rfl,bO,wy,aq⟩
          have kB:=kW.below aq kW.lt;have z1:=kB.frozen 1;have w1:W2.cell? ⟨wr.heap.size,1,none⟩=some (.slice la ln lc):=kB.cell 1))
       have qw:=kB.set 1 (.slice ca li.length cc);have aB:=a0d W2 wr.heap.size 1 (.slice ca li.length cc);have bn:=aq.size;rw[World.size_alloc]at bn wy aq;obtain⟨W5,bL⟩:=zE (W2.setCell ⟨wr.heap.size,1,none⟩ (.slice ca li.length cc));rw[bL]at qw aB ⊢;have aI:Below wr.heap.size wr W5:=(bE.trans (aq.mono xM)).trans (a0f aB xM (λr e=>by cases e;omega));have Jn:Ln W5.heap.size W5 (.slice ca li.length cc) li:=bO.other λq hq=>by
        have h1:=wy q hq;have h2:=aB.size;exact⟨xM,aB.block _ h1.2 (λe=>by simp only[Option.some.injEq]at e;omega)⟩
       have Ga:∀q,ca=some q->wr.heap.size<=q.block/\q.block<W5.heap.size:=λq hq=>by
        have h1:=wy q hq;have h2:=aB.size;omega
       obtain⟨t0,t1,t2,t3,t4,t5,t6,t7⟩:=zN8 qw;have cj:AtC wqE W5 wr.heap.size 0 (⟨e0,ca,li.length,cc,li,e5,e6,e7,e8,e9,bH⟩:Wq):=λi hi=>by
        match i,hi with
        |0,_=>exact t0
        |1,_=>exact t1
        |2,_=>exact t2
        |3,_=>exact t3
        |4,_=>exact t4
        |5,_=>exact t5
        |6,_=>exact t6
        |7,_=>exact t7
       have s1:=(aI.cell (World.block_lt_of_cell? _ _ (hI.cell q1 m1))).trans (hI.cell q1 m1);have oV:=(hI.mapH zy m5).below aI (hI.mapH zy m5).lt;have mJ:=oV.look inKyL underlying62 (a7i _) iR;have hS:∃r,r=decide ((⟨e0,la,ln,lc,li,e5,e6,e7,e8,e9,bH⟩:Wq).key∈Y.map Wq.key)/\∀X,Below W5.heap.size W5 X->Zc prog 53 #[a2f (a6e en e0),a2f ⟨2,none,none,some ⟨wr.heap.size,0,none⟩,none⟩] X (.bool r):=by
        refine⟨_,rfl,λX hb=> ?_⟩;rcases uv with⟨h1,h2⟩|⟨y,yb,yo,h1,h2,h3,h4,h5⟩
        ·rw[decide_eq_false h2]
         exact a4u _ _ X h1
        ·rw[show a6e en e0=_ from h1]
         have hl:=qw.lt;have tV:=((hI.at_ h2 xM xM).below aI xM).below hb (by have:=aI.size;omega);have Ck:=((((h4.below hI.bel).mono (show n0<=wr.heap.size by omega)).below aI).mono aI.size).up hb;have:=c3w y ⟨e0,ca,li.length,cc,li,e5,e6,e7,e8,e9,bH⟩ yb yo wr.heap.size 0 X tV (cj.below hb hl) Ck (Jn.up hb);rw[show decide (y.key=(⟨e0,ca,li.length,cc,li,e5,e6,e7,e8,e9,bH⟩:Wq).key)=decide ((⟨e0,la,ln,lc,li,e5,e6,e7,e8,e9,bH⟩:Wq).key∈Y.map Wq.key)from decide_eq_decide.2 h5]at this;exact this
       obtain⟨r,hr,hS⟩:=hS;unfold a6e at hS;obtain⟨t,ht⟩:=zE ((idG en e0).getD tgZ);rw[ht]at hS;replace mJ:(Instr.lookup 62 (.map (some mo)) (.int .i64 e0) false).run prog W5= .ok (a2f t) W5:=ht▸mJ;obtain⟨tk,u1,u2,u3,u4⟩:=t;have aJ:∀X,Below W5.heap.size W5 X->Below wr.heap.size wr X:=λX h=>aI.trans (h.mono aI.size)
       have o5:∀X,Below W5.heap.size W5 X->J pre X:=λX h=>hJ pre wr _ none dI (a1i none (aJ X h)) vM
       have uw:∀X,Below W5.heap.size W5 X->∀k,a3u Bo X k->a3u Bo wr k:=λX h k=>wz pre wr _ none k dI (a1i none (aJ X h)) vM
       have o6:∀X,Below W5.heap.size W5 X->ICd Bo n0 W1 X:=λX h=>hI.below (aJ X h) (uw X h) xM
       have ou:=aI.size;have rY:decide ((⟨e0,la,ln,lc,li,e5,e6,e7,e8,e9,bH⟩:Wq).key∉Y.map Wq.key)= !r:=by rw[hr,decide_not]
       rw[rY]at ai;clear bL aB bO wy aq kB qw hX a0 a1 a2 a3 a4 a5 a6 a7 oq bE kW cj oV ht hI dI uv hr rY w1 z1 eZ il
       cases r
       ·simp only[Bool.not_false,if_true]at ai
        have aV:(pre++[c4d ⟨e0,ca,li.length,cc,li,e5,e6,e7,e8,e9,bH⟩]).map Et.key=K2++((Y2.take (k+1)).filter (λx=>decide (x.key∉Y.map Wq.key))).map (λx=>b2l x.key):=by
         exact yid
        replace aV:=Lib.hid aV;clear ai aD;have fW:=λX (h:Below W5.heap.size W5 X)=>hY pre (c4d ⟨e0,ca,li.length,cc,li,e5,e6,e7,e8,e9,bH⟩) X (o5 X h) ⟨by have:=h.size;omega,Jn.up h,λq hq=>by have h1:=Ga q hq;have h2:=h.size;exact⟨xM,λhc=>by have:=a8s (uw X h _ hc);omega⟩,iR,by show a0l 0;decide⟩ xM
        simp only[etV,etA,c4d,fcZ,pcZ]at fW;refine(wpIn_wide (n:=n)).1 ?_;gi_wp2_with (first
         |(refine⟨trivial,?_⟩;gi_at_call 53;(with_reducible refine(callsIn_wide.2 (hS _ (zR _ _))).mono ?_);rintro e W6⟨rfl,bC⟩
           obtain⟨r0,r1,r2,r3,r4,r5,r6,r7⟩:W6.cell? ⟨wr.heap.size,0,none⟩=some (.int .i64 e0)/\W6.cell? ⟨wr.heap.size,1,none⟩=some (.slice ca li.length cc)/\W6.cell? ⟨wr.heap.size,2,none⟩=some (.int .i64 e5)/\W6.cell? ⟨wr.heap.size,3,none⟩=some (.string e6)/\W6.cell? ⟨wr.heap.size,4,none⟩=some (.string e7)/\W6.cell? ⟨wr.heap.size,5,none⟩=some (.bool e8)/\W6.cell? ⟨wr.heap.size,6,none⟩=some (.int .i64 e9)/\W6.cell? ⟨wr.heap.size,7,none⟩=some (.int .i64 bH):=by
            have jJ:∀ {i:Nat} {v:Vu},W5.cell? ⟨wr.heap.size,i,none⟩=some v->W6.cell? ⟨wr.heap.size,i,none⟩=some v:=λh=>(bC.cell (World.block_lt_of_cell? _ _ h)).trans h
            exact⟨jJ t0,jJ t1,jJ t2,jJ t3,jJ t4,jJ t5,jJ t6,jJ t7⟩
           obtain⟨fn,tmps,assign,body,hy,pW⟩:=fW W6 bC;clear fW))
        have lg:=o6 _ bC;refine pW.mono ?_;rintro e W5 (⟨rfl,hJ5,hk5⟩|⟨ch,rfl,hp⟩)
        ·gi_wp2
         go_wp2_with fail;go_roundw
         case rel=>exact⟨k+1,pre++[c4d ⟨e0,ca,li.length,cc,li,e5,e6,e7,e8,e9,bH⟩],xM,by go_num,aV.out,by simp;omega,hJ5,lg.keep hk5⟩
         case measure=>(simp[intOf];omega)
        ·exact yfu
       ·exact ycp
      ·obtain rfl:k=Y2.length:=xM
       have aT:¬(Y2.length:Int)<(Y2.length:Int):=xM;rw[List.take_length]at aD;obtain⟨K3,Gb⟩:=zE (pre.map Et.key);have Cl:=aD;rw[Gb]at Cl aD;replace Cl:=Lib.hid Cl;replace aD:=Gb;clear Gb hk;have f1:=hI.cell NX m3;go_wp2_with fail;go_loopw [107] (λkk wr=>∃(k:Nat) (pre:List Et),k<=P2.length/\kk= .int .i64 (k:Nat)/\pre.map Et.key=K3++((P2.take k).filter (λx=>decide (x∉P))).map a3k/\pre.length<=(L.length+F2.length+Y2.length)+k/\J pre wr/\ICd Bo n0 W1 wr) (λkk _=>P2.length-(intOf kk).toNat)
       case atStart=>exact yik
       case round =>
        clear aD bY dI hI;obtain⟨k,pre,hk,rfl,aD,bY,dI,hI⟩:=hrel;by_cases ab:k<P2.length
        ·have aj:(k:Int)<(P2.length:Int):=xM
         obtain⟨b,o,d,e,-,bS,hc⟩:=mK.p.some_ xM;simp only[Value.slice.injEq,true_and]at e;obtain⟨rfl,-⟩:=e;have hX:=hI.at_ (E:=plE) (b:=b) (o:=o+k*7) (hc k ab) xM xM;have ai:=a7v (λx:Pc=>decide (x∉P)) a3k P2 k ab;have uv:=N1 _ (List.getElem_mem ab);have iR:=mK.pi _ (List.getElem_mem ab);obtain⟨x,hx⟩:=zE (P2[k]);rw[hx]at hX ai uv iR;clear hc hx;obtain⟨e0,e1,e2,e3,e4,e5,e6⟩:=x;simp only at iR;have dX:=hI.sz;obtain⟨a0,a1,a2,a3,a4,a5,a6⟩:=b0e hX;have aI:Below wr.heap.size wr (wr.alloc (.cells #[.int .i64 e0,.int .i64 e1,.int .i64 e2,.string e3,.string e4,.int .i64 e5,.int .i64 e6] 48)):=(zR _ _).alloc (yR _) _;have qw:=Blk.new wr #[.int .i64 e0,.int .i64 e1,.int .i64 e2,.string e3,.string e4,.int .i64 e5,.int .i64 e6] 48;go_upto_region 20 with fail;obtain⟨W5,bL⟩:=zE (wr.alloc (.cells #[.int .i64 e0,.int .i64 e1,.int .i64 e2,.string e3,.string e4,.int .i64 e5,.int .i64 e6] 48));rw[bL]at qw aI ⊢;obtain⟨t0,t1,t2,t3,t4,t5,t6⟩:=zN7 qw;have cj:AtC plE W5 wr.heap.size 0 (⟨e0,e1,e2,e3,e4,e5,e6⟩:Pc):=λi hi=>by
          match i,hi with
          |0,_=>exact t0
          |1,_=>exact t1
          |2,_=>exact t2
          |3,_=>exact t3
          |4,_=>exact t4
          |5,_=>exact t5
          |6,_=>exact t6
         have s1:=(aI.cell (World.block_lt_of_cell? _ _ (hI.cell q1 m1))).trans (hI.cell q1 m1);have oV:=(hI.mapH zy m5).below aI (hI.mapH zy m5).lt;have mJ:=oV.look inKyL underlying62 (a7i _) iR;have hS:∃r,r=decide ((⟨e0,e1,e2,e3,e4,e5,e6⟩:Pc)∈P)/\∀X,Below W5.heap.size W5 X->Zc prog 53 #[a2f (a6e en e0),a2f ⟨3,none,none,none,some ⟨wr.heap.size,0,none⟩⟩] X (.bool r):=by
          refine⟨_,rfl,λX hb=> ?_⟩;rcases uv with⟨h1,h2⟩|⟨y,yb,yo,h1,h2,h3,h5⟩
          ·rw[decide_eq_false h2]
           exact a4u _ _ X h1
          ·rw[show a6e en e0=_ from h1]
           have hl:=qw.lt;have tV:=((hI.at_ h2 xM xM).below aI xM).below hb (by have:=aI.size;omega);have:=a9v y ⟨e0,e1,e2,e3,e4,e5,e6⟩ yb yo wr.heap.size 0 X tV (cj.below hb hl);rw[show decide (y=(⟨e0,e1,e2,e3,e4,e5,e6⟩:Pc))=decide ((⟨e0,e1,e2,e3,e4,e5,e6⟩:Pc)∈P)from decide_eq_decide.2 h5]at this;exact this
         obtain⟨r,hr,hS⟩:=hS;unfold a6e at hS;obtain⟨t,ht⟩:=zE ((idG en e0).getD tgZ);rw[ht]at hS;replace mJ:(Instr.lookup 62 (.map (some mo)) (.int .i64 e0) false).run prog W5= .ok (a2f t) W5:=ht▸mJ;obtain⟨tk,u1,u2,u3,u4⟩:=t;have aJ:∀X,Below W5.heap.size W5 X->Below wr.heap.size wr X:=λX h=>aI.trans (h.mono aI.size)
         have o5:∀X,Below W5.heap.size W5 X->J pre X:=λX h=>hJ pre wr _ none dI (a1i none (aJ X h)) vM
         have uw:∀X,Below W5.heap.size W5 X->∀k,a3u Bo X k->a3u Bo wr k:=λX h k=>wz pre wr _ none k dI (a1i none (aJ X h)) vM
         have o6:∀X,Below W5.heap.size W5 X->ICd Bo n0 W1 X:=λX h=>hI.below (aJ X h) (uw X h) xM
         have ou:=aI.size;have rY:decide ((⟨e0,e1,e2,e3,e4,e5,e6⟩:Pc)∉P)= !r:=by rw[hr,decide_not]
         rw[rY]at ai;clear bL qw hX a0 a1 a2 a3 a4 a5 a6 cj oV ht hI dI uv hr rY
         cases r
         ·simp only[Bool.not_false,if_true]at ai
          have aV:(pre++[b1n ⟨e0,e1,e2,e3,e4,e5,e6⟩]).map Et.key=K3++((P2.take (k+1)).filter (λx=>decide (x∉P))).map a3k:=by
           exact yid
          replace aV:=Lib.hid aV;clear ai aD;have fW:=λX (h:Below W5.heap.size W5 X)=>hY pre (b1n ⟨e0,e1,e2,e3,e4,e5,e6⟩) X (o5 X h) (KxE.zero (by have:=h.size;omega) rfl iR) xM
          simp only[etV,etA,b1n,fcZ,wqZ]at fW;refine(wpIn_wide (n:=n)).1 ?_;gi_wp2_with (first
           |(refine⟨trivial,?_⟩;gi_at_call 53;(with_reducible refine(callsIn_wide.2 (hS _ (zR _ _))).mono ?_);rintro e W6⟨rfl,bC⟩
             obtain⟨r0,r1,r2,r3,r4,r5,r6⟩:W6.cell? ⟨wr.heap.size,0,none⟩=some (.int .i64 e0)/\W6.cell? ⟨wr.heap.size,1,none⟩=some (.int .i64 e1)/\W6.cell? ⟨wr.heap.size,2,none⟩=some (.int .i64 e2)/\W6.cell? ⟨wr.heap.size,3,none⟩=some (.string e3)/\W6.cell? ⟨wr.heap.size,4,none⟩=some (.string e4)/\W6.cell? ⟨wr.heap.size,5,none⟩=some (.int .i64 e5)/\W6.cell? ⟨wr.heap.size,6,none⟩=some (.int .i64 e6):=by
              have jJ:∀ {i:Nat} {v:Vu},W5.cell? ⟨wr.heap.size,i,none⟩=some v->W6.cell? ⟨wr.heap.size,i,none⟩=some v:=λh=>(bC.cell (World.block_lt_of_cell? _ _ h)).trans h
              exact⟨jJ t0,jJ t1,jJ t2,jJ t3,jJ t4,jJ t5,jJ t6⟩
             obtain⟨fn,tmps,assign,body,hy,pW⟩:=fW W6 bC;clear fW))
          have lg:=o6 _ bC;refine pW.mono ?_;rintro e W5 (⟨rfl,hJ5,hk5⟩|⟨ch,rfl,hp⟩)
          ·gi_wp2
           go_wp2_with fail;go_roundw
           case rel=>exact⟨k+1,pre++[b1n ⟨e0,e1,e2,e3,e4,e5,e6⟩],xM,by go_num,aV.out,by simp;omega,hJ5,lg.keep hk5⟩
           case measure=>(simp[intOf];omega)
          ·exact yfu
         ·exact ycp
        ·obtain rfl:k=P2.length:=xM
         have aT:¬(P2.length:Int)<(P2.length:Int):=xM;rw[List.take_length]at aD;obtain⟨K4,Gc⟩:=zE (pre.map Et.key);have Cm:=aD;rw[Gc]at Cm aD;replace Cm:=Lib.hid Cm;replace aD:=Gc;clear Gc hk;have f1:=hI.cell NU m3;go_wp2_with fail;go_loopw [129] (λkk wr=>∃(k:Nat) (pre:List Et),k<=E2.length/\kk= .int .i64 (k:Nat)/\pre.map Et.key=K4++(((E.map Eg.key).zip (E2.map Eg.key)).take k).flatMap (λq=>a5r q.1 q.2)/\pre.length<=(L.length+F2.length+Y2.length+P2.length)+((E2.take k).map λx:Eg=>x.line.length).sum/\J pre wr/\ICd Bo n0 W1 wr) (λkk _=>E2.length-(intOf kk).toNat)
         case atStart=>exact⟨0,pre,Nat.zero_le _,rfl,by rw[aD];simp,by simp;omega,dI,hI⟩
         case round =>
          clear aD bY dI hI;obtain⟨k,pre,hk,rfl,aD,bY,dI,hI⟩:=hrel;by_cases ab:k<E2.length
          ·have aj:(k:Int)<(E2.length:Int):=xM
           have eL:k<E.length:=xM;obtain⟨b,o,d,e,-,bS,hc⟩:=mK.e.some_ xM;simp only[Value.slice.injEq,true_and]at e;obtain⟨rfl,-⟩:=e;obtain⟨b',o',d',e',-,ik,cB⟩:=F6.e.some_ xM;simp only[Value.slice.injEq,true_and]at e';obtain⟨rfl,-⟩:=e';have hX:=hI.at_ (E:=egE) (b:=b) (o:=o+k*4) (hc k ab) xM xM;have hZ:AtC egE W1 b' (o'+k*4) E[k]:=cB k eL;have ai:=c4e (λq:Ek×Ek=>a5r q.1 q.2) (E.map Eg.key) (E2.map Eg.key) k (by simpa using eL) (by simpa using ab);rw[List.getElem_map,List.getElem_map]at ai;have qz:=b7i (λx:Eg=>x.line.length) E2 k ab;have dT:=F4 k eL ab;have eZ:=mK.el _ (List.getElem_mem ab);have fg:=F6.el _ (List.getElem_mem eL);obtain⟨x,hx⟩:=zE (E2[k]);obtain⟨y,hy⟩:=zE (E[k]);rw[hx]at hX ai qz dT eZ;rw[hy]at hZ ai dT fg;clear hc cB hx hy;obtain⟨e0,la,ln,lc,li,e5,e6⟩:=x;obtain⟨g0,ma,mm,mc,mi,g5,g6⟩:=y;simp only at qz dT eZ fg;have Jo:=eZ.len;obtain⟨a_,c_,zK,-⟩:=eZ.lst.form;simp only[Value.slice.injEq]at zK;obtain⟨-,rfl,-⟩:=zK;obtain⟨a_,c_,zK,-⟩:=fg.lst.form;simp only[Value.slice.injEq]at zK;obtain⟨-,rfl,-⟩:=zK;have dX:=hI.sz;have a0:wr.cell? ⟨b,o+k*4,none⟩=some (.int .i64 e0):=hX 0 jM;have a1:wr.cell? ⟨b,o+k*4+1,none⟩=some (.slice la li.length lc):=hX 1 jM;have a2:wr.cell? ⟨b,o+k*4+2,none⟩=some (.int .i64 e5):=hX 2 jM;have a3:wr.cell? ⟨b,o+k*4+3,none⟩=some (.int .i64 e6):=hX 3 jM;go_upto_region 25 with fail;have kT:=Blk.new wr #[.int .i64 e0,.slice la li.length lc,.int .i64 e5,.int .i64 e6] 71;have bh:Below wr.heap.size wr (wr.alloc (.cells #[.int .i64 e0,.slice la li.length lc,.int .i64 e5,.int .i64 e6] 71)):=(zR _ _).alloc (yR _) _;obtain⟨W4,cU⟩:=zE (wr.alloc (.cells #[.int .i64 e0,.slice la li.length lc,.int .i64 e5,.int .i64 e6] 71));rw[cU]at kT bh ⊢;have pD:wr.grownBy W4 none:=a1i none bh;have zH:J pre W4:=hJ pre wr W4 none dI pD vM;have Gd:∀k,a3u Bo W4 k->a3u Bo wr k:=λk=>wz pre wr W4 none k dI pD vM
           have lg:=hI.below bh Gd xM;obtain⟨Bx,N9⟩:=zE wr.heap.size;have gj:¬a3u Bo W4 Bx:=λh=>by have:=a8s (Gd _ h);omega
           rw[N9]at kT ⊢;have Ge:=kT.lt;obtain⟨K5,Gf⟩:=zE (pre.map Et.key);rw[Gf]at aD;replace ai:=congrArg (λl=>K4++l) ai;simp only at ai;rw[<-List.append_assoc,<-aD]at ai;replace ai:=Lib.hid ai;have Oa:W4.cell? ⟨Bx,1,none⟩=some (.slice la li.length lc):=kT.cell 1;obtain⟨S,hS⟩:=zE (((E2.take k).map λx:Eg=>x.line.length).sum);rw[hS]at bY qz;obtain⟨S1,eA⟩:=zE (((E2.take (k+1)).map λx:Eg=>x.line.length).sum);rw[eA]at qz;clear cU hI dI pD bh Gd a0 a1 a2 a3 hX aD;go_wp2_with fail;go_loopw [137] (λkk wr=>∃(j:Nat) (pre:List Et),j<=li.length/\kk= .int .i64 (j:Nat)/\pre.map Et.key=K5++(List.range j).filterMap (λn=>if mi[n]? =li[n]? then none else some (a6k e0 n (li.getD n (0,0))))/\pre.length<=(L.length+F2.length+Y2.length+P2.length)+S+j/\J pre wr/\ICd Bo n0 W1 wr/\Blk wr Bx #[.int .i64 e0,.slice la li.length lc,.int .i64 e5,.int .i64 e6] 71/\¬a3u Bo wr Bx) (λkk _=>li.length-(intOf kk).toNat)
           case atStart=>exact⟨0,pre,Nat.zero_le _,rfl,by rw[Gf];simp,xM,zH,lg,kT,gj⟩
           case round =>
            clear Gf bY zH lg kT gj Oa Ge;obtain⟨j,pre,hj,rfl,aD,bY,dI,hI,kX,gj⟩:=hrel;by_cases o8:j<li.length
            ·have ud:(j:Int)<(li.length:Int):=xM
             have zL:j<mi.length:=xM;obtain⟨lb,lo,ld,e,-,Ob,dZ⟩:=eZ.lst.some_ xM;simp only[Value.slice.injEq,true_and]at e;obtain⟨rfl,-⟩:=e;obtain⟨rb,ro,rd,e',-,Oc,Jq⟩:=fg.lst.some_ xM;simp only[Value.slice.injEq,true_and]at e';obtain⟨rfl,-⟩:=e';have aP:=c6b (λn=>if mi[n]? =li[n]? then none else some (a6k e0 n (li.getD n (0,0)))) j;rw[List.getElem?_eq_getElem o8,List.getElem?_eq_getElem zL,List.getD_eq_getElem?_getD,List.getElem?_eq_getElem o8,Option.getD_some]at aP;have hP:=hI.at_ (E:=ptE) (b:=lb) (o:=lo+j*2) (dZ j o8) xM xM;have hQ:=hI.at_ (E:=ptE) (b:=rb) (o:=ro+j*2) (Jq j zL) xM xM;have Jr:=hI.at_ hZ xM xM;obtain⟨p,hp⟩:=zE (li[j]);obtain⟨q,hq⟩:=zE (mi[j]);rw[hp]at hP aP;rw[hq]at hQ aP;clear hp hq dZ Jq;obtain⟨px,py⟩:=p;obtain⟨qx,qy⟩:=q;have Od:=hI.sz;have c0:wr.cell? ⟨lb,lo+j*2,none⟩=some (.int .i64 px):=hP 0 jM;have c1:wr.cell? ⟨lb,lo+j*2+1,none⟩=some (.int .i64 py):=hP 1 jM;have s0:=hI.cell NY m4;have w1:wr.cell? ⟨b',o'+k*4+1,none⟩=some (.slice (some ⟨rb,ro,none⟩) mi.length mc):=Jr 1 jM;have v0:wr.cell? ⟨rb,ro+j*2,none⟩=some (.int .i64 qx):=hQ 0 jM;have v1:wr.cell? ⟨rb,ro+j*2+1,none⟩=some (.int .i64 qy):=hQ 1 jM;have x0:wr.cell? ⟨Bx,0,none⟩=some (.int .i64 e0):=kX.cell 0;go_upto_region 28 with fail;have kT:=Blk.new wr #[.int .i64 px,.int .i64 py] 41;have bh:Below wr.heap.size wr (wr.alloc (.cells #[.int .i64 px,.int .i64 py] 41)):=(zR _ _).alloc (yR _) _;obtain⟨qA,cU⟩:=zE (wr.alloc (.cells #[.int .i64 px,.int .i64 py] 41));rw[cU]at kT bh ⊢;have t0:qA.cell? ⟨wr.heap.size,0,none⟩=some (.int .i64 px):=kT.cell 0;have t1:qA.cell? ⟨wr.heap.size,1,none⟩=some (.int .i64 py):=kT.cell 1;replace s0:=(bh.cell (World.block_lt_of_cell? _ _ s0)).trans s0;replace w1:=(bh.cell (World.block_lt_of_cell? _ _ w1)).trans w1;replace v0:=(bh.cell (World.block_lt_of_cell? _ _ v0)).trans v0;replace v1:=(bh.cell (World.block_lt_of_cell? _ _ v1)).trans v1;replace x0:=(bh.cell (World.block_lt_of_cell? _ _ x0)).trans x0;have hG:=run_eqGuard_agg (P:=prog);have aJ:∀p,Below wr.heap.size wr (qA.growBy p):=λp=>a1k bh bh.size p
             have uu:∀p,wr.grownBy (qA.growBy p) none:=λp=>a1i none (aJ p)
             have o5:∀p,J pre (qA.growBy p):=λp=>hJ pre wr _ none dI (uu p) vM
             have uw:∀p k,a3u Bo (qA.growBy p) k->a3u Bo wr k:=λp k=>wz pre wr _ none k dI (uu p) vM
             have o6:∀p,ICd Bo n0 W1 (qA.growBy p):=λp=>hI.below (aJ p) (uw p) xM
             have Bl:∀p,Blk (qA.growBy p) Bx #[.int .i64 e0,.slice (some ⟨lb,lo,none⟩) li.length lc,.int .i64 e5,.int .i64 e6] 71:=λp=>kX.below (aJ p) kX.lt
             have iK:∀p,¬a3u Bo (qA.growBy p) Bx:=λp h=>gj (uw p _ h)
             clear cU kT bh hP hQ Jr c0 c1 uu hI dI kX gj;by_cases iF:((px,py):a3v)=(qx,qy)
             ·have hN:∀W,(binOp .neq 41 (.agg #[.int .i64 px,.int .i64 py]) (.agg #[.int .i64 qx,.int .i64 qy])).run prog W= .ok (.bool false) W:=λW=>(c3s px py qx qy W).trans (by rw[decide_eq_true iF];rfl)
              rw[if_pos (by rw[iF]),Option.toList_none,List.append_nil]at aP;rw[<-aP]at aD;replace aD:=Lib.hid aD;clear aP iF;refine c9r λp=> ?_
              go_wp2_with fail;go_roundw
              case rel=>exact⟨j+1,pre,xM,by go_num,aD.out,xM,o5 p,o6 p,Bl p,iK p⟩
              case measure=>(simp[intOf];omega)
             ·have hN:∀W,(binOp .neq 41 (.agg #[.int .i64 px,.int .i64 py]) (.agg #[.int .i64 qx,.int .i64 qy])).run prog W= .ok (.bool true) W:=λW=>(c3s px py qx qy W).trans (by rw[decide_eq_false iF];rfl)
              rw[if_neg (λh=>iF (Option.some.inj h).symm),Option.toList_some]at aP;have aV:(pre++[b1o e0 j (px,py)]).map Et.key=K5++(List.range (j+1)).filterMap (λn=>if mi[n]? =li[n]? then none else some (a6k e0 n (li.getD n (0,0)))):=by
               rw[aP,<-List.append_assoc,<-aD,List.map_append];rfl
              replace aV:=Lib.hid aV;clear aP iF aD;refine(wpIn_wide (n:=n)).1 ?_;refine a2r 18 hn zM zM ?_;simp only[zT];repeat(first|go_big_quiet_step (fail)|quiet_step (fail))
              refine wpQuiet_nil ?_;intro _ bI;obtain⟨p,bI⟩:=bI;subst bI;have N8:=(aJ p).size;have zJ:=hY pre (b1o e0 j (px,py)) _ (o5 p) (KxE.zero xM rfl (by show a0l 0;decide)) xM;obtain⟨fn,tmps,assign,body,hy,pW⟩:=zJ;simp only[etV,etA,b1o,fcZ,wqZ,pcZ]at hy;have lg:=o6 p;have Gg:=Bl p;have Fk:=iK p;gi_wp2;refine pW.mono ?_;rintro e W5 (⟨rfl,hJ5,hk5⟩|⟨ch,rfl,hp⟩)
              ·gi_wp2
               go_wp2_with fail;go_roundw
               case rel=>exact⟨j+1,pre++[b1o e0 j (px,py)],xM,by go_num,aV.out,by simp;omega,hJ5,lg.keep hk5,(hk5.k.same _ Gg.lt Fk).trans Gg,λh=>(hk5.k.mine _ h).elim Fk (λh=>by have:=Gg.lt;omega)⟩
               case measure=>(simp[intOf];omega)
              ·exact yfu
            ·obtain rfl:j=li.length:=xM
             have tZ:¬(li.length:Int)<(li.length:Int):=xM;go_wp2_with fail;go_roundw
             case rel=>exact⟨k+1,pre,xM,by go_num,aD.trans ai.out.symm,by rw[eA];omega,dI,hI⟩
             case measure=>(simp[intOf];omega)
          ·obtain rfl:k=E2.length:=xM
           have aT:¬(E2.length:Int)<(E2.length:Int):=xM;go_wp2_with fail;go_end0;rw[List.take_length]at bY;refine .inl ⟨⟨_,rfl⟩,pre,⟨?_,xM⟩,dI⟩;rw[aD,Cm.out,Cl.out,Cj.out,Ci.out,List.take_of_length_le (by rw[List.length_zip];simp;omega)];unfold a2m c6p a1d;rw[hL];simp only[List.filter_map,List.map_map,List.append_assoc];rfl
end
end Go.Proofs.YteijfnkidefekaaGreat
